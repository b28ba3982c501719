/- MeterNil: for every number the law returns true. No condition. -/
import Derived.Test.YthfcpbfnbdoakaaW2
namespace Go.Proofs.Ythfcpbfnbdoakaa
open Go.RowKit Go.Eg
set_option linter.unusedSimpArgs false
set_option linter.unusedVariables false
theorem grant_nil (x : Int) (w : World) : Pur Try.prog 11 [.pointer none, .int .u64 x] w (.int .u64 0) := by
  refine g_start Try.func11 rfl 37 rfl (by simp) [] [] (WOK.start _ _) _ rfl ?_
  refine g_seq ?_
  refine g_region ?_
  refine s_q (q_assign rfl) rfl ?_
  refine g_nil ?_
  refine g_then ?_
  refine g_seq ?_
  refine g_seq ?_
  refine g_region ?_
  refine s_q (q_move rfl) rfl ?_
  refine s_q (q_eqp (b := true) rfl rfl rfl) rfl ?_
  refine g_nil ?_
  refine g_then ?_
  refine g_true rfl ?_
  refine g_seq ?_
  refine g_region ?_
  refine s_q (q_assign rfl) rfl ?_
  refine g_nil ?_
  refine g_then ?_
  refine g_ret ?_
  refine g_then_ret ?_
  exact fin1 rfl (.tmp rfl) (fun w' hw => ⟨by rfl, hw.upd⟩) _ (.inl rfl)

theorem take_nil (x : Int) (w : World) : Pur Try.prog 12 [.pointer none, .int .u64 x] w (.bool false) := by
  refine g_start Try.func12 rfl 32 rfl (by simp) [] [] (WOK.start _ _) _ rfl ?_
  refine g_seq ?_
  refine g_region ?_
  refine s_q (q_assign rfl) rfl ?_
  refine g_nil ?_
  refine g_then ?_
  refine g_seq ?_
  refine g_seq ?_
  refine g_region ?_
  refine s_q (q_move rfl) rfl ?_
  refine s_q (q_eqp (b := true) rfl rfl rfl) rfl ?_
  refine g_nil ?_
  refine g_then ?_
  refine g_true rfl ?_
  refine g_seq ?_
  refine g_region ?_
  refine s_q (q_assign rfl) rfl ?_
  refine g_nil ?_
  refine g_then ?_
  refine g_ret ?_
  refine g_then_ret ?_
  exact fin1 rfl (.tmp rfl) (fun w' hw => ⟨by rfl, hw.upd⟩) _ (.inl rfl)

theorem balance_nil (x : Int) (w : World) : Pur Try.prog 13 [.pointer none] w (.int .u64 0) := by
  refine g_start Try.func13 rfl 9 rfl (by simp) [] [] (WOK.start _ _) _ rfl ?_
  refine g_seq ?_
  refine g_region ?_
  refine s_q (q_assign rfl) rfl ?_
  refine g_nil ?_
  refine g_then ?_
  refine g_seq ?_
  refine g_seq ?_
  refine g_region ?_
  refine s_q (q_move rfl) rfl ?_
  refine s_q (q_eqp (b := true) rfl rfl rfl) rfl ?_
  refine g_nil ?_
  refine g_then ?_
  refine g_true rfl ?_
  refine g_seq ?_
  refine g_region ?_
  refine s_q (q_assign rfl) rfl ?_
  refine g_nil ?_
  refine g_then ?_
  refine g_ret ?_
  refine g_then_ret ?_
  exact fin1 rfl (.tmp rfl) (fun w' hw => ⟨by rfl, hw.upd⟩) _ (.inl rfl)

theorem spent_nil (x : Int) (w : World) : Pur Try.prog 14 [.pointer none] w (.int .u64 0) := by
  refine g_start Try.func14 rfl 16 rfl (by simp) [] [] (WOK.start _ _) _ rfl ?_
  refine g_seq ?_
  refine g_region ?_
  refine s_q (q_assign rfl) rfl ?_
  refine g_nil ?_
  refine g_then ?_
  refine g_seq ?_
  refine g_seq ?_
  refine g_region ?_
  refine s_q (q_move rfl) rfl ?_
  refine s_q (q_eqp (b := true) rfl rfl rfl) rfl ?_
  refine g_nil ?_
  refine g_then ?_
  refine g_true rfl ?_
  refine g_seq ?_
  refine g_region ?_
  refine s_q (q_assign rfl) rfl ?_
  refine g_nil ?_
  refine g_then ?_
  refine g_ret ?_
  refine g_then_ret ?_
  exact fin1 rfl (.tmp rfl) (fun w' hw => ⟨by rfl, hw.upd⟩) _ (.inl rfl)

theorem drop_nil (x : Int) (w : World) : Pur Try.prog 15 [.pointer none] w (.int .u64 0) := by
  refine g_start Try.func15 rfl 23 rfl (by simp) [] [] (WOK.start _ _) _ rfl ?_
  refine g_seq ?_
  refine g_region ?_
  refine s_q (q_assign rfl) rfl ?_
  refine g_nil ?_
  refine g_then ?_
  refine g_seq ?_
  refine g_seq ?_
  refine g_region ?_
  refine s_q (q_move rfl) rfl ?_
  refine s_q (q_eqp (b := true) rfl rfl rfl) rfl ?_
  refine g_nil ?_
  refine g_then ?_
  refine g_true rfl ?_
  refine g_seq ?_
  refine g_region ?_
  refine s_q (q_assign rfl) rfl ?_
  refine g_nil ?_
  refine g_then ?_
  refine g_ret ?_
  refine g_then_ret ?_
  exact fin1 rfl (.tmp rfl) (fun w' hw => ⟨by rfl, hw.upd⟩) _ (.inl rfl)

theorem totals_nil  (w : World) : Pur Try.prog 17 [.pointer none] w (.agg [.int .u64 0, .int .u64 0, .int .u64 0].toArray) := by
  refine g_start Try.func17 rfl 11 rfl (by simp) [] [] (WOK.start _ _) _ rfl ?_
  refine g_seq ?_
  refine g_region ?_
  refine g_op (g_alloc rfl fun b2 => ?_)
  refine g_nil ?_
  refine g_then ?_
  refine g_seq ?_
  refine g_seq ?_
  refine g_region ?_
  refine s_q (q_move rfl) rfl ?_
  refine s_q (q_eqp (b := true) rfl rfl rfl) rfl ?_
  refine g_nil ?_
  refine g_then ?_
  refine g_true rfl ?_
  refine g_seq ?_
  refine g_region ?_
  refine s_q (q_build (c := [.int .u64 0, .int .u64 0, .int .u64 0]) rfl rfl) rfl ?_
  refine g_op (g_storew rfl rfl rfl rfl rfl ?_)
  refine g_nil ?_
  refine g_then ?_
  refine g_ret ?_
  refine g_then_ret ?_
  exact fin1 rfl (.cellw rfl rfl) (fun w' hw => ⟨by rfl, hw.upd⟩) _ (.inl rfl)

theorem law_nil (x : Int) (hx : 0 ≤ x ∧ x ≤ 18446744073709551615) (w : World) : Pur Try.prog 8 [.int .u64 x] w (.bool true) := by
  refine g_start Try.func8 rfl 61 rfl (by simp) [] [] (WOK.start _ _) _ rfl ?_
  refine g_seq ?_
  refine g_region ?_
  refine s_q (q_assign rfl) rfl ?_
  refine g_nil ?_
  refine g_then ?_
  refine g_seq ?_
  refine g_region ?_
  refine s_q (q_assign rfl) rfl ?_
  refine g_nil ?_
  refine g_then ?_
  refine g_seq ?_
  refine g_region ?_
  refine g_op (g_new rfl (fun w hw => new_any w) rfl fun bn6 => ?_)
  refine g_op (g_new rfl (fun w hw => new_any w) rfl fun bn7 => ?_)
  refine s_q (q_assign rfl) rfl ?_
  refine s_q (q_assign rfl) rfl ?_
  refine g_nil ?_
  refine g_then ?_
  refine g_seq ?_
  refine g_seq ?_
  refine g_region ?_
  refine s_q (q_move rfl) rfl ?_
  refine s_q (q_eqp (b := false) rfl rfl rfl) rfl ?_
  refine s_q (q_move rfl) rfl ?_
  refine s_qg (q_move rfl) rfl rfl rfl ?_
  refine s_qg (q_eqp (b := false) rfl rfl rfl) rfl rfl rfl ?_
  refine s_q (q_pick_f rfl rfl) rfl ?_
  refine g_nil ?_
  refine g_then ?_
  refine g_false rfl ?_
  refine g_skip ?_
  refine g_then ?_
  refine g_seq ?_
  refine g_region ?_
  refine s_q (q_move rfl) rfl ?_
  refine s_q (q_move rfl) rfl ?_
  refine g_op (g_meth rfl (fun w hw => grant_any _ _ _ w hw) rfl ?_)
  refine g_nil ?_
  refine g_then ?_
  refine g_seq ?_
  refine g_region ?_
  refine g_op (g_pure rfl (fun w hw => alive_any w) rfl ?_)
  refine s_q (q_move rfl) rfl ?_
  refine g_split 18 rfl (fun h1 => ?_) (fun h1 => ?_)
  · refine s_qg (q_move rfl) rfl rfl rfl ?_
    refine s_qg (q_move rfl) rfl rfl rfl ?_
    refine g_gt rfl rfl (g_pure rfl (fun w hw => grant_nil _ w) rfl ?_)
    refine s_qg (q_eql rfl rfl) rfl rfl rfl ?_
    refine g_litb 22 (b := true) rfl (rfl) ?_
    refine s_q (q_pick_t rfl rfl) rfl ?_
    refine s_q (q_move rfl) rfl ?_
    refine s_qg (q_move rfl) rfl rfl rfl ?_
    refine g_gt rfl rfl (g_pure rfl (fun w hw => take_nil _ w) rfl ?_)
    refine g_litb 26 (b := false) rfl (rfl) ?_
    refine s_qg (q_not rfl) rfl rfl rfl ?_
    refine s_q (q_pick_t rfl rfl) rfl ?_
    refine s_q (q_move rfl) rfl ?_
    refine s_qg (q_move rfl) rfl rfl rfl ?_
    refine g_gt rfl rfl (g_pure rfl (fun w hw => drop_nil 0 w) rfl ?_)
    refine s_qg (q_eql rfl rfl) rfl rfl rfl ?_
    refine g_litb 32 (b := true) rfl (rfl) ?_
    refine s_q (q_pick_t rfl rfl) rfl ?_
    refine s_q (q_move rfl) rfl ?_
    refine s_qg (q_move rfl) rfl rfl rfl ?_
    refine g_gt rfl rfl (g_pure rfl (fun w hw => balance_nil 0 w) rfl ?_)
    refine s_qg (q_eql rfl rfl) rfl rfl rfl ?_
    refine g_litb 37 (b := true) rfl (rfl) ?_
    refine s_q (q_pick_t rfl rfl) rfl ?_
    refine s_q (q_move rfl) rfl ?_
    refine s_qg (q_move rfl) rfl rfl rfl ?_
    refine g_gt rfl rfl (g_pure rfl (fun w hw => spent_nil 0 w) rfl ?_)
    refine s_qg (q_eql rfl rfl) rfl rfl rfl ?_
    refine g_litb 42 (b := true) rfl (rfl) ?_
    refine s_q (q_pick_t rfl rfl) rfl ?_
    refine s_q (q_move rfl) rfl ?_
    refine s_qg (q_move rfl) rfl rfl rfl ?_
    refine g_gt rfl rfl (g_pure rfl (fun w hw => totals_nil w) rfl ?_)
    refine s_qg (q_build (c := [.int .u64 0, .int .u64 0, .int .u64 0]) rfl rfl) rfl rfl rfl ?_
    refine s_qg (q_eqs rfl rfl rfl) rfl rfl rfl ?_
    refine g_litb 48 (b := true) rfl (rfl) ?_
    refine s_q (q_pick_t rfl rfl) rfl ?_
    refine s_q (q_move rfl) rfl ?_
    refine s_qg (q_move rfl) rfl rfl rfl ?_
    refine g_gt rfl rfl (g_pure rfl (fun w hw => balance_any _ _ w (InL.sat (by infer_instance) hw)) rfl ?_)
    refine s_qg (q_eql rfl rfl) rfl rfl rfl ?_
    refine g_litb 53 (b := true) rfl (by decide) ?_
    refine s_q (q_pick_t rfl rfl) rfl ?_
    refine s_q (q_move rfl) rfl ?_
    refine s_qg (q_move rfl) rfl rfl rfl ?_
    refine g_gt rfl rfl (g_pure rfl (fun w hw => balance_any _ _ w (InL.sat (by infer_instance) hw)) rfl ?_)
    refine s_qg (q_move rfl) rfl rfl rfl ?_
    refine s_qg (q_eql rfl rfl) rfl rfl rfl ?_
    refine g_litb 59 (b := true) rfl (by simp only [M.grant, M.bal, M0, U_eq, decide_eq_true_eq]; omega) ?_
    refine s_q (q_pick_t rfl rfl) rfl ?_
    refine s_q (q_assign rfl) rfl ?_
    refine g_nil ?_
    refine g_then ?_
    refine g_ret ?_
    exact fin1 rfl (.tmp rfl) (fun w' hw => ⟨by first | rfl | (simp_all; done), hw.upd⟩) _ (.inl rfl)
  · refine g_gf rfl rfl rfl rfl ?_
    refine g_gf rfl rfl rfl rfl ?_
    refine g_gf rfl rfl rfl rfl ?_
    refine g_gf rfl rfl rfl rfl ?_
    refine s_q (q_pick_f rfl rfl) rfl ?_
    refine s_q (q_move rfl) rfl ?_
    refine g_gf rfl rfl rfl rfl ?_
    refine g_gf rfl rfl rfl rfl ?_
    refine g_gf rfl rfl rfl rfl ?_
    refine s_q (q_pick_f rfl rfl) rfl ?_
    refine s_q (q_move rfl) rfl ?_
    refine g_gf rfl rfl rfl rfl ?_
    refine g_gf rfl rfl rfl rfl ?_
    refine g_gf rfl rfl rfl rfl ?_
    refine s_q (q_pick_f rfl rfl) rfl ?_
    refine s_q (q_move rfl) rfl ?_
    refine g_gf rfl rfl rfl rfl ?_
    refine g_gf rfl rfl rfl rfl ?_
    refine g_gf rfl rfl rfl rfl ?_
    refine s_q (q_pick_f rfl rfl) rfl ?_
    refine s_q (q_move rfl) rfl ?_
    refine g_gf rfl rfl rfl rfl ?_
    refine g_gf rfl rfl rfl rfl ?_
    refine g_gf rfl rfl rfl rfl ?_
    refine s_q (q_pick_f rfl rfl) rfl ?_
    refine s_q (q_move rfl) rfl ?_
    refine g_gf rfl rfl rfl rfl ?_
    refine g_gf rfl rfl rfl rfl ?_
    refine g_gf rfl rfl rfl rfl ?_
    refine g_gf rfl rfl rfl rfl ?_
    refine s_q (q_pick_f rfl rfl) rfl ?_
    refine s_q (q_move rfl) rfl ?_
    refine g_gf rfl rfl rfl rfl ?_
    refine g_gf rfl rfl rfl rfl ?_
    refine g_gf rfl rfl rfl rfl ?_
    refine s_q (q_pick_f rfl rfl) rfl ?_
    refine s_q (q_move rfl) rfl ?_
    refine g_gf rfl rfl rfl rfl ?_
    refine g_gf rfl rfl rfl rfl ?_
    refine g_gf rfl rfl rfl rfl ?_
    refine g_gf rfl rfl rfl rfl ?_
    refine s_q (q_pick_f rfl rfl) rfl ?_
    refine s_q (q_assign rfl) rfl ?_
    refine g_nil ?_
    refine g_then ?_
    refine g_ret ?_
    exact fin1 rfl (.tmp rfl) (fun w' hw => ⟨by first | rfl | (simp_all; done), hw.upd⟩) _ (.inl rfl)

theorem main_nil (v0 : Value) (W : World) (a0 : Arg Try.prog W 27 v0) : Pur Try.prog 8 [v0] W (.bool true) := by
  obtain ⟨x, rfl, hx⟩ := Arg.int Try.underlying27 a0
  exact law_nil x hx W

namespace LawMeterNil
open Go.ChangeShapes Go.WideShapes Go.ChangeAt Go.RowKit Go.Eg
set_option linter.unusedVariables false
theorem own : ownKnob Try.prog.godebug = none := by kernel_rfl
theorem laidOut : laidOutB Try.prog = true := by kernel_rfl
set_option maxRecDepth 100000 in
theorem lifted (os : Os) (started : os.Started) (H : Type) (enc : TypeId × Value → H) :
    ReturnsInHanded {} Try.checked os 8 .any (Rows.meterNilSpec.pre6 enc Try.prog Try.f8 Rows.meterNilRow.domain false) (Rows.meterNilSpec.post enc Try.prog Try.f8 false true false false) := by
  refine returnsInHanded_of_change (C := Try.checked) own started (by kernel_rfl) Try.func8
    (ChangeSpec.witness6 (enc := enc) (C := Try.checked) false ⟨#[], #[.int .u64 0], []⟩ 8 (by kernel_rfl) (by kernel_rfl) (by kernel_rfl) (by kernel_rfl)) ?_
  intro W base args ds gs before hval0 hW hcnd _
  have hval : ∀ (j : Nat) t v, Try.f8.params[j]? = some t → args[j]? = some v → Value.okWide Try.prog W .any base t v := hval0
  have hW' := hW
  obtain ⟨p, q, hA0, hV, rfl, hfz, hnd⟩ := hW
  have hA : DataW.TrodAll enc Try.prog W 0 (fun _ => true) true Try.f8.params.toList args.toList ds p := hA0
  rw [Try.params8] at hA hval
  obtain ⟨v0, vs0, d0, ds0, p0, q0, hargs, rfl, rfl, h0, r0⟩ := trodAll_cons hA
  obtain ⟨rfl, rfl, rfl⟩ := trodAll_nil r0
  obtain rfl : args = #[v0] := by cases args; simp_all
  obtain ⟨rfl, rfl⟩ := trodVars_none hV
  have a0 := Arg.of h0 (hval 0 27 v0 rfl rfl)
  have lt0 : ∀ x ∈ p0, x.block < W.heap.size := by obtain ⟨m, hm⟩ := h0; exact DataW.trod_lt m _ _ _ hm
  clear hA0 hval0
  simp only [List.append_nil] at hW'
  refine Calls.mono (main_nil v0 W a0) ?_
  rintro e W' ⟨v, rfl, rfl, hu⟩
  have bel := hu.below
  have targ := (trodAll_cons_mk (Below.trod laidOut (by kernel_rfl) (of_decide_eq_true (by kernel_rfl)) h0 bel lt0) trodAll_mk0)
  simp only [List.append_nil] at targ
  exact ⟨_, rfl, _, _, _, [], _, [], hW', trodAll_mk1 (shut_bool Try.underlying4 _), targ, rfl, bel.frame _, fun h => by cases h⟩
theorem over : Rows.meterNilRow.holds Try.pinned (OpenSpec.ofChange Rows.meterNilSpec) :=
  OpenClaim.holds_of_wide 8 Try.f8 rfl rfl rfl rfl rfl rfl rfl ⟨rfl, rfl, rfl, rfl, rfl⟩ rfl rfl rfl rfl rfl (by kernel_rfl) Try.func8 (by kernel_rfl)
    (of_decide_eq_true (by kernel_rfl)) (by unfold Func.isWrapper; first | (rw [if_pos (by decide +kernel)]; kernel_rfl) | (rw [if_neg (by decide +kernel)]; exact ⟨rfl, rfl⟩))
    (fun os started H enc _ => lifted os started H enc)
theorem proved : Rows.MeterNilSaid := over
end LawMeterNil
end Go.Proofs.Ythfcpbfnbdoakaa
