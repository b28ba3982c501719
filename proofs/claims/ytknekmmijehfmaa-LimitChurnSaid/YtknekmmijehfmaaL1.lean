/- LimitChurn: for all numbers the law returns true. No condition. -/
import Derived.Test.YtknekmmijehfmaaW2
namespace Go.Proofs.Ytknekmmijehfmaa
open Go.RowKit Go.Eg
set_option linter.unusedSimpArgs false
set_option linter.unusedVariables false
theorem law_churn (x m y : Int) (hx : 0 ≤ x ∧ x ≤ 18446744073709551615) (hy : 0 ≤ y ∧ y ≤ 18446744073709551615) (w : World) : Pur Try.prog 3 [.int .u64 x, .int .u64 m, .int .u64 y] w (.bool true) := by
  refine g_start Try.func3 rfl 26 rfl (by simp) [] [] (WOK.start _ _) _ rfl ?_
  refine g_seq ?_
  refine g_region ?_
  refine s_q (q_assign rfl) rfl ?_
  refine g_nil ?_
  refine g_then ?_
  refine g_seq ?_
  refine g_region ?_
  refine s_q (q_move rfl) rfl ?_
  refine s_q (q_move rfl) rfl ?_
  refine s_q (q_move rfl) rfl ?_
  refine g_op (g_pure rfl (fun w hw => churn_any _ _ _ (by omega) (by omega) w) rfl ?_)
  refine s_q (q_assign rfl) rfl ?_
  refine g_nil ?_
  refine g_then ?_
  refine g_seq ?_
  refine g_region ?_
  refine g_op (g_pure rfl (fun w hw => alive_any w) rfl ?_)
  refine g_litb 12 (b := true) rfl (rfl) ?_
  refine s_q (q_move rfl) rfl ?_
  refine s_qg (q_move rfl) rfl rfl rfl ?_
  refine s_qg (q_move rfl) rfl rfl rfl ?_
  refine s_qg (q_move rfl) rfl rfl rfl ?_
  refine s_qg (q_move rfl) rfl rfl rfl ?_
  refine g_gt rfl rfl (g_pure rfl (fun w hw => rchurn_any _ _ _ (by omega) (by omega) w) rfl ?_)
  refine s_qg (q_eql rfl rfl) rfl rfl rfl ?_
  refine g_litb 19 (b := true) rfl (by simp) ?_
  refine s_q (q_pick_t rfl rfl) rfl ?_
  refine s_q (q_move rfl) rfl ?_
  refine s_qg (q_move rfl) rfl rfl rfl ?_
  refine s_qg (q_move rfl) rfl rfl rfl ?_
  refine s_qg (q_geq rfl rfl) rfl rfl rfl ?_
  refine g_litb 24 (b := true) rfl (by have hm : m ≤ churn x m y := (by unfold churn; split <;> omega); simpa using hm) ?_
  refine s_q (q_pick_t rfl rfl) rfl ?_
  refine s_q (q_assign rfl) rfl ?_
  refine g_nil ?_
  refine g_then ?_
  refine g_ret ?_
  exact fin1 rfl (.tmp rfl) (fun w' hw => ⟨by rfl, hw.upd⟩) _ (.inl rfl)

theorem main_churn (v0 v1 v2 : Value) (W : World) (a0 : Arg Try.prog W 22 v0) (a1 : Arg Try.prog W 22 v1) (a2 : Arg Try.prog W 22 v2) : Pur Try.prog 3 [v0, v1, v2] W (.bool true) := by
  obtain ⟨x, rfl, hx⟩ := Arg.int Try.underlying22 a0
  obtain ⟨m, rfl, hm⟩ := Arg.int Try.underlying22 a1
  obtain ⟨y, rfl, hy⟩ := Arg.int Try.underlying22 a2
  exact law_churn x m y hx hy W

namespace LawLimitChurn
open Go.ChangeShapes Go.WideShapes Go.ChangeAt Go.RowKit Go.Eg
set_option linter.unusedVariables false
theorem own : ownKnob Try.prog.godebug = none := by kernel_rfl
theorem laidOut : laidOutB Try.prog = true := by kernel_rfl
set_option maxRecDepth 100000 in
theorem lifted (os : Os) (started : os.Started) (H : Type) (enc : TypeId × Value → H) :
    ReturnsInHanded {} Try.checked os 3 .any (Rows.limitChurnSpec.pre6 enc Try.prog Try.f3 Rows.limitChurnRow.domain false) (Rows.limitChurnSpec.post enc Try.prog Try.f3 false true false false) := by
  refine returnsInHanded_of_change (C := Try.checked) own started (by kernel_rfl) Try.func3
    (ChangeSpec.witness6 (enc := enc) (C := Try.checked) false ⟨#[], #[.int .u64 0, .int .u64 0, .int .u64 0], []⟩ 8 (by kernel_rfl) (by kernel_rfl) (by kernel_rfl) (by kernel_rfl)) ?_
  intro W base args ds gs before hval0 hW hcnd _
  have hval : ∀ (j : Nat) t v, Try.f3.params[j]? = some t → args[j]? = some v → Value.okWide Try.prog W .any base t v := hval0
  have hW' := hW
  obtain ⟨p, q, hA0, hV, rfl, hfz, hnd⟩ := hW
  have hA : DataW.TrodAll enc Try.prog W 0 (fun _ => true) true Try.f3.params.toList args.toList ds p := hA0
  rw [Try.params3] at hA hval
  obtain ⟨v0, vs0, d0, ds0, p0, q0, hargs, rfl, rfl, h0, r0⟩ := trodAll_cons hA
  obtain ⟨v1, vs1, d1, ds1, p1, q1, rfl, rfl, rfl, h1, r1⟩ := trodAll_cons r0
  obtain ⟨v2, vs2, d2, ds2, p2, q2, rfl, rfl, rfl, h2, r2⟩ := trodAll_cons r1
  obtain ⟨rfl, rfl, rfl⟩ := trodAll_nil r2
  obtain rfl : args = #[v0, v1, v2] := by cases args; simp_all
  obtain ⟨rfl, rfl⟩ := trodVars_none hV
  have a0 := Arg.of h0 (hval 0 22 v0 rfl rfl)
  have lt0 : ∀ x ∈ p0, x.block < W.heap.size := by obtain ⟨m, hm⟩ := h0; exact DataW.trod_lt m _ _ _ hm
  have a1 := Arg.of h1 (hval 1 22 v1 rfl rfl)
  have lt1 : ∀ x ∈ p1, x.block < W.heap.size := by obtain ⟨m, hm⟩ := h1; exact DataW.trod_lt m _ _ _ hm
  have a2 := Arg.of h2 (hval 2 22 v2 rfl rfl)
  have lt2 : ∀ x ∈ p2, x.block < W.heap.size := by obtain ⟨m, hm⟩ := h2; exact DataW.trod_lt m _ _ _ hm
  clear hA0 hval0
  simp only [List.append_nil] at hW'
  refine Calls.mono (main_churn v0 v1 v2 W a0 a1 a2) ?_
  rintro e W' ⟨v, rfl, rfl, hu⟩
  have bel := hu.below
  have targ := (trodAll_cons_mk (Below.trod laidOut (by kernel_rfl) (of_decide_eq_true (by kernel_rfl)) h0 bel lt0) (trodAll_cons_mk (Below.trod laidOut (by kernel_rfl) (of_decide_eq_true (by kernel_rfl)) h1 bel lt1) (trodAll_cons_mk (Below.trod laidOut (by kernel_rfl) (of_decide_eq_true (by kernel_rfl)) h2 bel lt2) trodAll_mk0)))
  simp only [List.append_nil] at targ
  exact ⟨_, rfl, _, _, _, [], _, [], hW', trodAll_mk1 (shut_bool Try.underlying4 _), targ, rfl, bel.frame _, fun h => by cases h⟩
theorem over : Rows.limitChurnRow.holds Try.pinned (OpenSpec.ofChange Rows.limitChurnSpec) :=
  OpenClaim.holds_of_wide 3 Try.f3 rfl rfl rfl rfl rfl rfl rfl ⟨rfl, rfl, rfl, rfl, rfl⟩ rfl rfl rfl rfl rfl (by kernel_rfl) Try.func3 (by kernel_rfl)
    (of_decide_eq_true (by kernel_rfl)) (by unfold Func.isWrapper; first | (rw [if_pos (by decide +kernel)]; kernel_rfl) | (rw [if_neg (by decide +kernel)]; exact ⟨rfl, rfl⟩))
    (fun os started H enc _ => lifted os started H enc)
theorem proved : Rows.LimitChurnSaid := over
end LawLimitChurn
end Go.Proofs.Ytknekmmijehfmaa
