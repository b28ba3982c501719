/- MeterConserves: for every list of operations the law returns true. No condition. -/
import Derived.Test.YthfcpbfnbdoakaaW2
namespace Go.Proofs.Ythfcpbfnbdoakaa
open Go.RowKit Go.Eg
set_option linter.unusedSimpArgs false
set_option linter.unusedVariables false
theorem law_conserves (A : Option Addr) (cap : Nat) (l : List O) (hcap : cap ≤ maxLen) (hlc : l.length ≤ cap) (hok : ∀ o ∈ l, o.ok) (w : World) (hold : Old w A l.length 2 (l.map O.c)) : Pur Try.prog 6 [.slice A l.length cap] w (.bool true) := by
  unfold maxLen at hcap
  refine g_start Try.func6 rfl 42 rfl (by simp) [] [] (WOK.start _ _) _ rfl ?_
  refine g_seq ?_
  refine g_region ?_
  refine s_q (q_assign rfl) rfl ?_
  refine g_nil ?_
  refine g_then ?_
  refine g_seq ?_
  refine g_region ?_
  refine g_op (g_new rfl (fun w hw => new_any w) rfl fun bn8 => ?_)
  refine s_q (q_build (c := R0.c) rfl rfl) rfl ?_
  refine g_op (g_box rfl rfl rfl fun b10 => ?_)
  refine s_q (q_assign rfl) rfl ?_
  refine s_q (q_assign rfl) rfl ?_
  refine g_nil ?_
  refine g_then ?_
  refine g_seq ?_
  refine g_seq ?_
  refine g_region ?_
  refine s_q (q_move rfl) rfl ?_
  refine s_q (q_eqp (b := false) rfl rfl rfl) rfl ?_
  refine g_nil ?_
  refine g_then ?_
  refine g_false rfl ?_
  refine g_skip ?_
  refine g_then ?_
  refine g_seq ?_
  refine g_seq ?_
  refine g_region ?_
  refine s_q (q_move rfl) rfl ?_
  refine s_q (q_len rfl) rfl ?_
  refine s_q (q_gtr rfl rfl) rfl ?_
  refine g_nil ?_
  refine g_then ?_
  refine g_cond rfl (fun h1 => ?_) (fun h1 => ?_)
  · refine g_seq ?_
    refine g_region ?_
    refine g_op (g_pure rfl (fun w hw => alive_any w) rfl ?_)
    refine s_q (q_assign rfl) rfl ?_
    refine g_nil ?_
    refine g_then ?_
    refine g_ret ?_
    refine g_then_ret ?_
    exact fin1 rfl (.tmp rfl) (fun w' hw => ⟨by first | rfl | (simp_all; done), hw.upd⟩) _ (.inl rfl)
  · refine g_skip ?_
    refine g_then ?_
    refine g_seq ?_
    refine g_seq ?_
    refine g_region ?_
    refine s_q (q_move rfl) rfl ?_
    refine s_q (q_len rfl) rfl ?_
    refine s_q (q_move rfl) rfl ?_
    refine g_nil ?_
    refine g_then ?_
    refine g_block ?_
    refine g_loopk [3, 4, 17, 18] (fun (x : Nat × M) => [(19, .int .i64 (x.1 : Int))]) (fun x => [Res.blk b10 38 (R.of x.2).c, Res.blk bn8 50 x.2.c]) (fun x => x.1 ≤ l.length ∧ x.2.ok) (fun x => l.length - x.1) (0, M0) ⟨Nat.zero_le _, M0_ok⟩ rfl ⟨rfl, trivial⟩ wok_id ?_
    rintro ⟨k, m⟩ ⟨hk1, hm⟩
    simp only at hk1 hm
    refine g_seq ?_
    refine g_region ?_
    refine s_q (q_lss rfl rfl) rfl ?_
    refine g_nil ?_
    refine g_then ?_
    refine g_seq ?_
    refine g_cond rfl (fun h2 => ?_) (fun h2 => ?_)
    · have hk : k < l.length := by simpa using h2
      have ho : (l[k]).ok := hok _ (List.getElem_mem hk)
      have hget : (l.map O.c)[k]? = some (l[k]).c := by simp [hk]
      refine g_skip ?_
      refine g_then ?_
      refine g_seq ?_
      refine g_block ?_
      refine g_seq ?_
      refine g_region ?_
      refine s_q (q_index (i := k) rfl rfl rfl (hold.rdb rfl) hk) rfl ?_
      refine s_q (q_load_ew (i := k) rfl (hold.rdb rfl) hget rfl) rfl ?_
      refine g_op (g_alloc rfl fun b6 => ?_)
      refine g_op (g_storew rfl rfl rfl rfl rfl ?_)
      refine g_nil ?_
      refine g_then ?_
      refine g_seq ?_
      refine g_region ?_
      refine s_q (q_move rfl) rfl ?_
      refine s_q (q_move rfl) rfl ?_
      refine s_q (q_loadw rfl rfl) rfl ?_
      refine g_op (g_meth2 rfl (fun w h1 h2 hne => do_any _ _ _ _ hm ho w h1 h2 hne) (fun w hw => InL.ne (by rfl) hw) rfl ?_)
      refine g_nil ?_
      refine g_then ?_
      refine g_seq ?_
      refine g_region ?_
      refine s_q (q_move rfl) rfl ?_
      refine g_op (g_pure rfl (fun w hw => totals_any _ _ w (InL.sat (by infer_instance) hw)) rfl ?_)
      refine g_op (g_alloc rfl fun b7 => ?_)
      refine g_op (g_storew rfl rfl rfl rfl rfl ?_)
      refine g_nil ?_
      refine g_then ?_
      refine g_seq ?_
      refine d_region [] mixed rfl rfl ?_
      refine d_q 0 rfl (by kernel_rfl) (q_field rfl) wok_id rfl (ls' := #[true, false, false, false, false, false, false, false, false, false, false]) rfl ?_
      refine d_q 1 rfl (by kernel_rfl) (q_load rfl rfl) wok_id rfl (ls' := #[true, true, false, false, false, false, false, false, false, false, false]) rfl ?_
      refine d_q 2 rfl (by kernel_rfl) (q_move rfl) wok_id rfl (ls' := #[true, true, true, false, false, false, false, false, false, false, false]) rfl ?_
      refine d_q 4 rfl (by kernel_rfl) (q_field rfl) wok_id rfl (ls' := #[true, true, true, false, true, false, false, false, false, false, false]) rfl ?_
      refine d_q 5 rfl (by kernel_rfl) (q_load rfl rfl) wok_id rfl (ls' := #[true, true, true, false, true, true, false, false, false, false, false]) rfl ?_
      refine d_q 7 rfl (by kernel_rfl) (q_field rfl) wok_id rfl (ls' := #[true, true, true, false, true, true, false, true, false, false, false]) rfl ?_
      refine d_q 8 rfl (by kernel_rfl) (q_load rfl rfl) wok_id rfl (ls' := #[true, true, true, false, true, true, false, true, true, false, false]) rfl ?_
      refine d_op 3 rfl (by kernel_rfl) (ls' := #[true, true, true, true, true, true, false, true, true, false, false]) rfl wok_id (g_pure rfl (fun w hw => balance_any _ _ w (InL.sat (by infer_instance) hw)) rfl ?_)
      refine d_q 6 rfl (by kernel_rfl) (q_add rfl rfl) wok_id rfl (ls' := #[true, true, true, true, true, true, true, true, true, false, false]) rfl ?_
      refine d_q 9 rfl (by kernel_rfl) (q_add rfl rfl) wok_id rfl (ls' := #[true, true, true, true, true, true, true, true, true, true, false]) rfl ?_
      refine d_q 10 rfl (by kernel_rfl) (q_neq rfl rfl) wok_id rfl (ls' := #[true, true, true, true, true, true, true, true, true, true, true]) rfl ?_
      refine g_litb 39 (b := false) rfl (by have h0 := step_ok hm l[k]; obtain ⟨a1, a2, a3, a4⟩ := h0; simp only [M.bal, U_eq, IntKind.wrap_u64, Bool.not_eq_false', decide_eq_true_eq]; omega) ?_
      refine d_end (by kernel_rfl) (.inr wok_id) ?_
      refine g_then ?_
      refine g_false rfl ?_
      refine g_skip ?_
      refine g_blk_n ?_
      refine g_then ?_
      refine g_region ?_
      refine s_q (q_inc rfl rfl (by omega)) rfl ?_
      refine s_q (q_move rfl) rfl ?_
      refine g_nil ?_
      exact g_again (k + 1, m.step l[k]) ⟨hk, step_ok hm _⟩ (by simp only; omega) (by repeat (first | exact trivial | refine ⟨rfl, ?_⟩)) (wok_pick [2, 3] rfl (by decide) rfl)
    · refine g_exit ?_
      refine g_then_x (g_then_x (g_blk_hit ?_))
      refine g_then ?_
      refine g_seq ?_
      refine g_region ?_
      refine g_op (g_pure rfl (fun w hw => alive_any w) rfl ?_)
      refine s_q (q_assign rfl) rfl ?_
      refine g_nil ?_
      refine g_then ?_
      refine g_ret ?_
      exact fin1 rfl (.tmp rfl) (fun w' hw => ⟨by first | rfl | (simp_all; done), hw.upd⟩) _ (.inl rfl)

theorem main_conserves (v0 : Value) (W : World) (a0 : Arg Try.prog W 35 v0) : Pur Try.prog 6 [v0] W (.bool true) := by
  obtain ⟨A, cap, l, rfl, hle, hm, hold, hok⟩ := Arg.slice O.c O.ok Try.underlying35 (show Try.prog.cellsOf 40 = 2 by kernel_rfl) (by omega) openO a0
  exact law_conserves A cap l hm hle hok W hold

namespace LawMeterConserves
open Go.ChangeShapes Go.WideShapes Go.ChangeAt Go.RowKit Go.Eg
set_option linter.unusedVariables false
theorem own : ownKnob Try.prog.godebug = none := by kernel_rfl
theorem laidOut : laidOutB Try.prog = true := by kernel_rfl
set_option maxRecDepth 100000 in
theorem lifted (os : Os) (started : os.Started) (H : Type) (enc : TypeId × Value → H) :
    ReturnsInHanded {} Try.checked os 6 .any (Rows.meterConservesSpec.pre6 enc Try.prog Try.f6 Rows.meterConservesRow.domain false) (Rows.meterConservesSpec.post enc Try.prog Try.f6 false true false false) := by
  refine returnsInHanded_of_change (C := Try.checked) own started (by kernel_rfl) Try.func6
    (ChangeSpec.witness6 (enc := enc) (C := Try.checked) false ⟨#[], #[.slice none 0 0], []⟩ 8 (by kernel_rfl) (by kernel_rfl) (by kernel_rfl) (by kernel_rfl)) ?_
  intro W base args ds gs before hval0 hW hcnd _
  have hval : ∀ (j : Nat) t v, Try.f6.params[j]? = some t → args[j]? = some v → Value.okWide Try.prog W .any base t v := hval0
  have hW' := hW
  obtain ⟨p, q, hA0, hV, rfl, hfz, hnd⟩ := hW
  have hA : DataW.TrodAll enc Try.prog W 0 (fun _ => true) true Try.f6.params.toList args.toList ds p := hA0
  rw [Try.params6] at hA hval
  obtain ⟨v0, vs0, d0, ds0, p0, q0, hargs, rfl, rfl, h0, r0⟩ := trodAll_cons hA
  obtain ⟨rfl, rfl, rfl⟩ := trodAll_nil r0
  obtain rfl : args = #[v0] := by cases args; simp_all
  obtain ⟨rfl, rfl⟩ := trodVars_none hV
  have a0 := Arg.of h0 (hval 0 35 v0 rfl rfl)
  have lt0 : ∀ x ∈ p0, x.block < W.heap.size := by obtain ⟨m, hm⟩ := h0; exact DataW.trod_lt m _ _ _ hm
  clear hA0 hval0
  simp only [List.append_nil] at hW'
  refine Calls.mono (main_conserves v0 W a0) ?_
  rintro e W' ⟨v, rfl, rfl, hu⟩
  have bel := hu.below
  have targ := (trodAll_cons_mk (Below.trod laidOut (by kernel_rfl) (of_decide_eq_true (by kernel_rfl)) h0 bel lt0) trodAll_mk0)
  simp only [List.append_nil] at targ
  exact ⟨_, rfl, _, _, _, [], _, [], hW', trodAll_mk1 (shut_bool Try.underlying4 _), targ, rfl, bel.frame _, fun h => by cases h⟩
theorem over : Rows.meterConservesRow.holds Try.pinned (OpenSpec.ofChange Rows.meterConservesSpec) :=
  OpenClaim.holds_of_wide 6 Try.f6 rfl rfl rfl rfl rfl rfl rfl ⟨rfl, rfl, rfl, rfl, rfl⟩ rfl rfl rfl rfl rfl (by kernel_rfl) Try.func6 (by kernel_rfl)
    (of_decide_eq_true (by kernel_rfl)) (by unfold Func.isWrapper; first | (rw [if_pos (by decide +kernel)]; kernel_rfl) | (rw [if_neg (by decide +kernel)]; exact ⟨rfl, rfl⟩))
    (fun os started H enc _ => lifted os started H enc)
theorem proved : Rows.MeterConservesSaid := over
end LawMeterConserves
end Go.Proofs.Ythfcpbfnbdoakaa
