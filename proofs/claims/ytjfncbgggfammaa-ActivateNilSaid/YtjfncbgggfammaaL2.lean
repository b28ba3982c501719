/- ActivateNil: for every queue and limit the law returns true. No condition. -/
import Derived.Test.YtjfncbgggfammaaWI
namespace Go.Proofs.Ytjfncbgggfammaa
open Go.RowKit Go.Eg
set_option synthInstance.maxSize 3000
set_option linter.unusedSimpArgs false
set_option linter.unusedVariables false
set_option maxRecDepth 100000
set_option maxHeartbeats 400000 in
theorem law_activateNil (A_l : Option Addr) (c_l : Nat) (l : List Int) (lim : Int) (w : World) (o_l : Old w A_l l.length 1 (l.map (fun v : Int => [Value.int .i64 v]))) (h_l : l.length ≤ c_l ∧ c_l ≤ 9223372036854775807) (k_l : ∀ x ∈ l, (fun x : Int => -9223372036854775808 ≤ x ∧ x ≤ 9223372036854775807) x) (h_lim : 0 ≤ lim ∧ lim ≤ 18446744073709551615) : Pur Try.prog 8 [.slice A_l l.length c_l, .int .u64 lim] w (.bool true) := by
  refine g_start Try.func8 rfl 43 rfl (by simp) ([]) [] (WOK.start _ _) _ rfl ?_
  refine g_seq ?_
  refine g_region ?_
  refine s_q (q_assign rfl) rfl ?_
  refine g_nil ?_
  refine g_then ?_
  refine g_seq ?_
  refine g_seq ?_
  refine g_region ?_
  refine s_q (q_move rfl) rfl ?_
  refine s_q (q_len rfl) rfl ?_
  refine s_q (q_gtr rfl rfl) rfl ?_
  refine g_nil ?_
  refine g_then ?_
  refine g_cond rfl (fun h1 => ?_) (fun h1 => ?_)
  · refine g_seq ?_
    refine g_region ?_
    refine g_op (g_pure rfl (fun w1 hw1 => alive_any w1) rfl ?_)
    refine s_q (q_assign rfl) rfl ?_
    refine g_nil ?_
    refine g_then ?_
    refine g_ret ?_
    refine g_then_ret ?_
    exact fin1 rfl (.tmp rfl) (fun w' hw' => ⟨by first | rfl | (simp_all; done) | (simp_all; omega), hw'.upd⟩) _ (.inl rfl)
  · have hn60 : l.length ≤ 60 := by have h9 := of_decide_eq_false h1; omega
    refine g_skip ?_
    refine g_then ?_
    refine g_seq ?_
    refine g_region ?_
    refine s_q (q_move rfl) rfl ?_
    refine g_op (g_ownS [] rfl (fun w1 hw1 ho1 => by have h7 := queue_any A_l c_l l w1 (Rdb.toOld (o_l.rdb rfl) hw1) h_l.1 (by omega); exact h7) rfl ?_)
    rintro ⟨b12, g12⟩ ⟨r12, s12⟩
    refine ⟨_, _, inferInstance, inferInstance, ?_⟩
    simp only at r12 s12
    refine s_q (q_assign rfl) rfl ?_
    refine g_nil ?_
    refine g_then ?_
    refine g_seq ?_
    refine g_seq ?_
    refine g_region ?_
    refine s_q (q_move rfl) rfl ?_
    refine s_q (q_eqp (b := false) rfl rfl rfl) rfl ?_
    refine g_nil ?_
    refine g_then ?_
    refine g_false rfl ?_
    refine g_skip ?_
    refine g_then ?_
    refine g_seq ?_
    refine g_region ?_
    refine s_q (q_move rfl) rfl ?_
    refine g_op (g_pure rfl (fun w1 hw1 => max14_any w1) rfl ?_)
    refine g_op (g_ownS [Res.blk b12 50 (Rg.c g12), Res.row (Rg.A g12) (Rg.s g12).length (Rg.cap g12) 3 1 (Rg.s g12)] rfl (fun w1 hw1 ho1 => by have h7 := step_any b12 g12 (18446744073709551615) none (0) (0) ([] : List Int) l w1 ho1 r12 Rd.zero (by intro x hx; cases hx) (by omega) (by first | omega | (simp; omega)); exact h7) rfl ?_)
    rintro ⟨A17, cap17, g17⟩ ⟨r17, s17⟩
    refine ⟨_, _, inferInstance, inferInstance, ?_⟩
    simp only at r17 s17
    refine s_q (q_assign rfl) rfl ?_
    refine g_nil ?_
    refine g_then ?_
    refine g_seq ?_
    refine g_region ?_
    refine g_op (g_pure rfl (fun w1 hw1 => alive_any w1) rfl ?_)
    refine s_q (q_move rfl) rfl ?_
    refine s_qg (q_move rfl) rfl rfl rfl ?_
    refine s_qg (q_move rfl) rfl rfl rfl ?_
    refine g_gt rfl rfl (g_pure rfl (fun w1 hw1 => equal_i A17 A_l _ _ _ _ ((batF 18446744073709551615 ([] : List Int) l 0 true)) (l) w1 (Rdb.toOld (InRow.rdb (A := A17) (els := ((batF 18446744073709551615 ([] : List Int) l 0 true)).map (fun v : Int => [Value.int .i64 v])) (by first | rfl | assumption | (simp; done) | (simp_all; done) | (simp; omega) | (simp_all; omega)) (map_cat (c := (fun v : Int => [Value.int .i64 v])) (fun _ => rfl) _)) hw1) (Rdb.toOld (o_l.rdb rfl) hw1) (row_max (A := A17) hw1)) rfl ?_)
    refine g_litb 22 (b := true) rfl (decide_eq_true (bat_zero (by omega) l true)) ?_
    refine s_q (q_pick_t rfl rfl) rfl ?_
    refine s_q (q_move rfl) rfl ?_
    refine s_qg (q_move rfl) rfl rfl rfl ?_
    refine g_gt rfl rfl (g_ownS [] rfl (fun w1 hw1 ho1 => by have h7 := step_nil (lim) none (0) (0) w1 h_lim; exact h7) rfl ?_)
    rintro ⟨A26, cap26⟩ _
    refine ⟨_, _, inferInstance, inferInstance, ?_⟩
    refine s_qg (q_len rfl) rfl rfl rfl ?_
    refine s_qg (q_eql rfl rfl) rfl rfl rfl ?_
    refine g_litb 28 (b := true) rfl (rfl) ?_
    refine s_q (q_pick_t rfl rfl) rfl ?_
    refine s_q (q_move rfl) rfl ?_
    refine s_qg (q_move rfl) rfl rfl rfl ?_
    refine s_qg (q_move rfl) rfl rfl rfl ?_
    refine g_gt rfl rfl (g_pure rfl (fun w1 hw1 => by exact wait_nil (lim) (lim) none (0) (0) w1) rfl ?_)
    refine s_qg (q_eql rfl rfl) rfl rfl rfl ?_
    refine g_litb 34 (b := true) rfl (rfl) ?_
    refine s_q (q_pick_t rfl rfl) rfl ?_
    refine s_q (q_move rfl) rfl ?_
    refine s_qg (q_move rfl) rfl rfl rfl ?_
    refine s_qg (q_move rfl) rfl rfl rfl ?_
    refine s_qg (q_move rfl) rfl rfl rfl ?_
    refine g_gt rfl rfl (g_keep [Res.blk b12 50 (Rg.c g17), Res.row (Rg.A g17) (Rg.s g17).length (Rg.cap g17) 3 1 (Rg.s g17)] rfl (fun w1 hw1 ho1 => by exact wait_any b12 g17 (lim) (lim) none (0) (0) ([] : List Int) (l.drop (batF 18446744073709551615 ([] : List Int) l 0 true).length) w1 ho1 r17 Rd.zero (by intro x hx; cases hx) (by omega) (by omega) (by first | omega | (simp; omega))) rfl ?_)
    refine s_qg (q_eql rfl rfl) rfl rfl rfl ?_
    refine g_litb 41 (b := true) rfl (decide_eq_true (by rw [bat_zero (by omega) l true, List.drop_length]; simp [waitV, waitL, budB])) ?_
    refine s_q (q_pick_t rfl rfl) rfl ?_
    refine s_q (q_assign rfl) rfl ?_
    refine g_nil ?_
    refine g_then ?_
    refine g_ret ?_
    exact fin1 rfl (.tmp rfl) (fun w' hw' => ⟨by first | rfl | (simp_all; done) | (simp_all; omega), hw'.upd⟩) _ (.inl rfl)

theorem main_activateNil (v0 : Value) (v1 : Value) (W : World) (a0 : Arg Try.prog W 22 v0) (a1 : Arg Try.prog W 23 v1) : Pur Try.prog 8 [v0, v1] W (.bool true) := by
  obtain ⟨A_l, c_l, l, rfl, hle0, hm0, o_l, k_l⟩ := Arg.slice (fun v : Int => [Value.int .i64 v]) (fun x : Int => -9223372036854775808 ≤ x ∧ x ≤ 9223372036854775807) Try.underlying22 (show Try.prog.cellsOf 3 = 1 by kernel_rfl) (by omega) (fun f cs h => OKc.int Try.underlying3 h) a0
  have h_l : l.length ≤ c_l ∧ c_l ≤ 9223372036854775807 := ⟨hle0, by unfold maxLen at hm0; omega⟩
  obtain ⟨lim, rfl, h_lim⟩ := Arg.int Try.underlying23 a1
  exact law_activateNil A_l c_l l lim W o_l h_l k_l h_lim

namespace LawActivateNil
open Go.ChangeShapes Go.WideShapes Go.ChangeAt Go.RowKit Go.Eg
set_option linter.unusedVariables false
theorem own : ownKnob Try.prog.godebug = none := by kernel_rfl
theorem laidOut : laidOutB Try.prog = true := by kernel_rfl
set_option maxRecDepth 100000 in
theorem lifted (os : Os) (started : os.Started) (H : Type) (enc : TypeId × Value → H) :
    ReturnsInHanded {} Try.checked os 8 .any (Rows.activateNilSpec.pre6 enc Try.prog Try.f8 Rows.activateNilRow.domain false) (Rows.activateNilSpec.post enc Try.prog Try.f8 false true false false) := by
  refine returnsInHanded_of_change (C := Try.checked) own started (by kernel_rfl) Try.func8
    (ChangeSpec.witness6 (enc := enc) (C := Try.checked) false ⟨#[], #[.slice none 0 0, .int .u64 0], []⟩ 8 (by kernel_rfl) (by kernel_rfl) (by kernel_rfl) (by kernel_rfl)) ?_
  intro W base args ds gs before hval0 hW hcnd _
  have hval : ∀ (j : Nat) t v, Try.f8.params[j]? = some t → args[j]? = some v → Value.okWide Try.prog W .any base t v := hval0
  have hW' := hW
  obtain ⟨p, q, hA0, hV, rfl, hfz, hnd⟩ := hW
  have hA : DataW.TrodAll enc Try.prog W 0 (fun _ => true) true Try.f8.params.toList args.toList ds p := hA0
  rw [Try.params8] at hA hval
  obtain ⟨v0, vs0, d0, ds0, p0, q0, hargs, rfl, rfl, h0, r0⟩ := trodAll_cons hA
  obtain ⟨v1, vs1, d1, ds1, p1, q1, rfl, rfl, rfl, h1, r1⟩ := trodAll_cons r0
  obtain ⟨rfl, rfl, rfl⟩ := trodAll_nil r1
  obtain rfl : args = #[v0, v1] := by cases args; simp_all
  obtain ⟨rfl, rfl⟩ := trodVars_none hV
  have a0 := Arg.of h0 (hval 0 22 v0 rfl rfl)
  have lt0 : ∀ x ∈ p0, x.block < W.heap.size := by obtain ⟨m, hm⟩ := h0; exact DataW.trod_lt m _ _ _ hm
  have a1 := Arg.of h1 (hval 1 23 v1 rfl rfl)
  have lt1 : ∀ x ∈ p1, x.block < W.heap.size := by obtain ⟨m, hm⟩ := h1; exact DataW.trod_lt m _ _ _ hm
  clear hA0 hval0
  simp only [List.append_nil] at hW'
  refine Calls.mono (main_activateNil v0 v1 W a0 a1) ?_
  rintro e W' ⟨v, rfl, rfl, hu⟩
  have bel := hu.below
  have targ := (trodAll_cons_mk (Below.trod laidOut (by kernel_rfl) (of_decide_eq_true (by kernel_rfl)) h0 bel lt0) (trodAll_cons_mk (Below.trod laidOut (by kernel_rfl) (of_decide_eq_true (by kernel_rfl)) h1 bel lt1) trodAll_mk0))
  simp only [List.append_nil] at targ
  exact ⟨_, rfl, _, _, _, [], _, [], hW', trodAll_mk1 (shut_bool Try.underlying4 _), targ, rfl, bel.frame _, fun h => by cases h⟩
theorem over : Rows.activateNilRow.holds Try.pinned (OpenSpec.ofChange Rows.activateNilSpec) :=
  OpenClaim.holds_of_wide 8 Try.f8 rfl rfl rfl rfl rfl rfl rfl ⟨rfl, rfl, rfl, rfl, rfl⟩ rfl rfl rfl rfl rfl (by kernel_rfl) Try.func8 (by kernel_rfl)
    (of_decide_eq_true (by kernel_rfl)) (by unfold Func.isWrapper; first | (rw [if_pos (by decide +kernel)]; kernel_rfl) | (rw [if_neg (by decide +kernel)]; exact ⟨rfl, rfl⟩))
    (fun os started H enc _ => lifted os started H enc)
theorem proved : Rows.ActivateNilSaid := over
end LawActivateNil
end Go.Proofs.Ytjfncbgggfammaa
