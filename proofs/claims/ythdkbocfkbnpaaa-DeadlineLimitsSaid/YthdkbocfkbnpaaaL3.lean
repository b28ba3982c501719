/- DeadlineLimits: for every exit and every configuration the law returns true. No condition. -/
import Derived.Test.YthdkbocfkbnpaaaW5
namespace Go.Proofs.Ythdkbocfkbnpaaa
open Go.RowKit Go.Eg
set_option synthInstance.maxSize 3000
set_option linter.unusedSimpArgs false
set_option linter.unusedVariables false
theorem bds_val {e a b : Int} {c : C} {l : List Int} (h : bdsB e a b c l = true) : bndB a b c = true ∧ 0 ≤ e ∧ (∀ x ∈ l, 0 ≤ x) ∧ 1 ≤ bndV a b c ∧ e + (bndV a b c + (1 + l.sum)) ≤ 1099511627776 ∧ bdsV e a b c l = e + (bndV a b c + (1 + l.sum)) := by
  simp only [bdsB, Bool.and_eq_true] at h
  obtain ⟨h1, h2⟩ := h
  have h3 : 1 ≤ bndV a b c := by unfold bndV; rw [if_pos h1]; omega
  have h4 := h2
  simp only [latB, decide_eq_true_eq, List.cons_append, List.nil_append, List.mem_cons, forall_eq_or_imp, List.sum_cons] at h4
  refine ⟨h1, h4.1.1, h4.1.2.2.2, h3, h4.2, ?_⟩
  unfold bdsV latV
  rw [if_pos h1, if_pos h2]; simp
theorem bds_of {e a b : Int} {c : C} {l : List Int} (h1 : bndB a b c = true) (h2 : 0 ≤ e) (h3 : ∀ x ∈ l, 0 ≤ x) (h4 : e + (bndV a b c + (1 + l.sum)) ≤ 1099511627776) : bdsB e a b c l = true := by
  have h5 : 1 ≤ bndV a b c := by unfold bndV; rw [if_pos h1]; omega
  simp only [bdsB, h1, Bool.true_and, latB, decide_eq_true_eq, List.cons_append, List.nil_append, List.mem_cons, forall_eq_or_imp, List.sum_cons]
  exact ⟨⟨h2, by omega, by omega, h3⟩, h4⟩
theorem bds_no {e a b : Int} {c : C} {l : List Int} (h : bdsB e a b c l = false) : bdsV e a b c l = 0 := by
  unfold bdsV latV
  by_cases h1 : bndB a b c = true
  · rw [if_pos h1]
    simp only [bdsB, h1, Bool.true_and] at h
    rw [h]; rfl
  · rw [if_neg h1]

set_option maxHeartbeats 400000 in
theorem law_deadlineLimits (x : X) (c : C) (w : World) (k_x : (x).ok) (k_c : (c).ok) : Pur Try.prog 8 [x.v, c.v] w (.bool true) := by
  refine g_start Try.func8 rfl 61 rfl (by simp) ([]) [] (WOK.start _ _) _ rfl ?_
  refine g_seq ?_
  refine g_region ?_
  refine g_op (g_box rfl rfl rfl fun b2 => ?_)
  refine g_op (g_box rfl rfl rfl fun b3 => ?_)
  refine s_q (q_assign rfl) rfl ?_
  refine g_nil ?_
  refine g_then ?_
  refine g_seq ?_
  refine g_seq ?_
  refine g_region ?_
  refine s_q (q_loadw rfl rfl) rfl ?_
  refine g_op (g_pure rfl (fun w hw => chk_any _ w) rfl ?_)
  refine s_q (q_neq rfl rfl) rfl ?_
  refine g_nil ?_
  refine g_then ?_
  refine g_cond rfl (fun h1 => ?_) (fun h1 => ?_)
  · refine g_seq ?_
    refine g_region ?_
    refine g_op (g_pure rfl (fun w1 hw1 => alive_any w1) rfl ?_)
    refine s_q (q_assign rfl) rfl ?_
    refine g_nil ?_
    refine g_then ?_
    refine g_ret ?_
    refine g_then_ret ?_
    exact fin1 rfl (.tmp rfl) (fun w' hw' => ⟨by first | rfl | (simp_all; done) | (simp_all; omega), hw'.upd⟩) _ (.inl rfl)
  · have hc0 := chk_ok (by simpa using h1) k_c
    refine g_skip ?_
    refine g_then ?_
    refine g_seq ?_
    refine g_region ?_
    refine s_q (q_field rfl) rfl ?_
    refine s_q (q_load rfl rfl) rfl ?_
    refine s_q (q_field rfl) rfl ?_
    refine s_q (q_load rfl rfl) rfl ?_
    refine s_q (q_field rfl) rfl ?_
    refine s_q (q_load rfl rfl) rfl ?_
    refine s_q (q_loadw rfl rfl) rfl ?_
    refine g_op (g_pure rfl (fun w1 hw1 => pay_any _ _ _ _ w1 k_x.a k_x.w hc0 k_x.e) rfl ?_)
    refine s_q (q_move rfl) rfl ?_
    refine s_q (q_extract rfl rfl) rfl ?_
    refine s_q (q_extract rfl rfl) rfl ?_
    refine s_q (q_assign rfl) rfl ?_
    refine s_q (q_assign rfl) rfl ?_
    refine g_nil ?_
    refine g_then ?_
    refine g_seq ?_
    refine g_region ?_
    refine s_q (q_field rfl) rfl ?_
    refine s_q (q_load rfl rfl) rfl ?_
    refine s_q (q_max rfl rfl) rfl ?_
    refine s_q (q_subz (z := -1 - max x.e 0) rfl rfl (by have h := k_x.e; rw [wi64 (by omega) (by omega)])) rfl ?_
    refine s_q (q_loadw rfl rfl) rfl ?_
    refine g_op (g_pure rfl (fun w1 hw1 => pay_any _ _ _ _ w1 (by unfold U64; omega) (by unfold U64; omega) hc0 (by have h := k_x.e; unfold I64; omega)) rfl ?_)
    refine s_q (q_move rfl) rfl ?_
    refine s_q (q_extract rfl rfl) rfl ?_
    refine s_q (q_extract rfl rfl) rfl ?_
    refine g_litb 34 (b := false) rfl (by rw [Bool.eq_false_iff]; intro hc; have h := (bds_val hc).2.1; omega) ?_
    refine s_q (q_assign rfl) rfl ?_
    refine s_q (q_assign rfl) rfl ?_
    refine g_nil ?_
    refine g_then ?_
    refine g_seq ?_
    refine g_region ?_
    refine s_q (q_field rfl) rfl ?_
    refine s_q (q_load rfl rfl) rfl ?_
    refine s_q (q_max rfl rfl) rfl ?_
    refine s_q (q_loadw rfl rfl) rfl ?_
    refine g_op (g_pure rfl (fun w1 hw1 => bnd_any _ _ _ w1 (by unfold U64; omega) (by have h := k_x.w; unfold U64; omega) hc0) rfl ?_)
    refine s_q (q_move rfl) rfl ?_
    refine s_q (q_extract rfl rfl) rfl ?_
    refine s_q (q_extract rfl rfl) rfl ?_
    refine g_litb 42 (b := false) rfl (by have h := k_x.w; have h2 := hc0.fcap; unfold bndB addB; rw [decide_eq_false (by simp only [List.sum_cons, List.sum_nil]; omega)]; rfl) ?_
    refine s_q (q_assign rfl) rfl ?_
    refine s_q (q_assign rfl) rfl ?_
    refine g_nil ?_
    refine g_then ?_
    refine g_seq ?_
    refine g_region ?_
    refine g_op (g_pure rfl (fun w1 hw1 => alive_any w1) rfl ?_)
    refine s_q (q_move rfl) rfl ?_
    refine s_qg (q_move rfl) rfl rfl rfl ?_
    refine s_qg (q_not rfl) rfl rfl rfl ?_
    refine s_q (q_pick_t rfl rfl) rfl ?_
    refine s_q (q_move rfl) rfl ?_
    refine s_qg (q_move rfl) rfl rfl rfl ?_
    refine s_qg (q_not rfl) rfl rfl rfl ?_
    refine s_q (q_pick_t rfl rfl) rfl ?_
    refine s_q (q_move rfl) rfl ?_
    refine s_qg (q_move rfl) rfl rfl rfl ?_
    refine s_qg (q_not rfl) rfl rfl rfl ?_
    refine s_qg (q_move rfl) rfl rfl rfl ?_
    refine g_split 55 rfl (fun h2 => ?_) (fun h2 => ?_)
    · refine g_gf rfl rfl rfl rfl ?_
      refine g_gf rfl rfl rfl rfl ?_
      refine g_gf rfl rfl rfl rfl ?_
      refine s_qg (q_pick_t rfl rfl) rfl rfl rfl ?_
      refine s_q (q_pick_t rfl rfl) rfl ?_
      refine s_q (q_assign rfl) rfl ?_
      refine g_nil ?_
      refine g_then ?_
      refine g_ret ?_
      exact fin1 rfl (.tmp rfl) (fun w' hw' => ⟨by first | rfl | (simp_all; done) | (simp_all; omega), hw'.upd⟩) _ (.inl rfl)
    · refine s_qg (q_field rfl) rfl rfl rfl ?_
      refine s_qg (q_load rfl rfl) rfl rfl rfl ?_
      refine s_qg (q_geq rfl rfl) rfl rfl rfl ?_
      refine g_litb 58 (b := true) rfl (by have h := (bds_val (by simpa using h2)).2.1; simp; omega) ?_
      refine s_qg (q_pick_f rfl rfl) rfl rfl rfl ?_
      refine s_q (q_pick_t rfl rfl) rfl ?_
      refine s_q (q_assign rfl) rfl ?_
      refine g_nil ?_
      refine g_then ?_
      refine g_ret ?_
      exact fin1 rfl (.tmp rfl) (fun w' hw' => ⟨by first | rfl | (simp_all; done) | (simp_all; omega), hw'.upd⟩) _ (.inl rfl)

theorem main_deadlineLimits (v0 : Value) (v1 : Value) (W : World) (a0 : Arg Try.prog W 24 v0) (a1 : Arg Try.prog W 26 v1) : Pur Try.prog 8 [v0, v1] W (.bool true) := by
  obtain ⟨cs, rfl, f, h⟩ := Arg.agg Try.underlying24 a0
  obtain ⟨x, rfl, k_x⟩ := openX f cs h
  obtain ⟨cs, rfl, f, h⟩ := Arg.agg Try.underlying26 a1
  obtain ⟨c, rfl, k_c⟩ := openC f cs h
  exact law_deadlineLimits x c W k_x k_c

namespace LawDeadlineLimits
open Go.ChangeShapes Go.WideShapes Go.ChangeAt Go.RowKit Go.Eg
set_option linter.unusedVariables false
theorem own : ownKnob Try.prog.godebug = none := by kernel_rfl
theorem laidOut : laidOutB Try.prog = true := by kernel_rfl
set_option maxRecDepth 100000 in
theorem lifted (os : Os) (started : os.Started) (H : Type) (enc : TypeId × Value → H) :
    ReturnsInHanded {} Try.checked os 8 .any (Rows.deadlineLimitsSpec.pre6 enc Try.prog Try.f8 Rows.deadlineLimitsRow.domain false) (Rows.deadlineLimitsSpec.post enc Try.prog Try.f8 false true false false) := by
  refine returnsInHanded_of_change (C := Try.checked) own started (by kernel_rfl) Try.func8
    (ChangeSpec.witness6 (enc := enc) (C := Try.checked) false ⟨#[], #[.agg #[.int .i64 0, .int .u64 0, .int .u64 0], .agg #[.int .i64 0, .int .i64 0, .int .u64 0, .int .u64 0, .int .u64 0, .int .u64 0, .int .u64 0, .int .u64 0, .int .u64 0, .int .u64 0, .int .i64 0, .int .i64 0, .int .i64 0, .int .i64 0, .int .i64 0, .int .i64 0, .int .i64 0, .int .i64 0, .int .u64 0, .int .u64 0]], []⟩ 8 (by kernel_rfl) (by kernel_rfl) (by kernel_rfl) (by kernel_rfl)) ?_
  intro W base args ds gs before hval0 hW hcnd _
  have hval : ∀ (j : Nat) t v, Try.f8.params[j]? = some t → args[j]? = some v → Value.okWide Try.prog W .any base t v := hval0
  have hW' := hW
  obtain ⟨p, q, hA0, hV, rfl, hfz, hnd⟩ := hW
  have hA : DataW.TrodAll enc Try.prog W 0 (fun _ => true) true Try.f8.params.toList args.toList ds p := hA0
  rw [Try.params8] at hA hval
  obtain ⟨v0, vs0, d0, ds0, p0, q0, hargs, rfl, rfl, h0, r0⟩ := trodAll_cons hA
  obtain ⟨v1, vs1, d1, ds1, p1, q1, rfl, rfl, rfl, h1, r1⟩ := trodAll_cons r0
  obtain ⟨rfl, rfl, rfl⟩ := trodAll_nil r1
  obtain rfl : args = #[v0, v1] := by cases args; simp_all
  obtain ⟨rfl, rfl⟩ := trodVars_none hV
  have a0 := Arg.of h0 (hval 0 24 v0 rfl rfl)
  have lt0 : ∀ x ∈ p0, x.block < W.heap.size := by obtain ⟨m, hm⟩ := h0; exact DataW.trod_lt m _ _ _ hm
  have a1 := Arg.of h1 (hval 1 26 v1 rfl rfl)
  have lt1 : ∀ x ∈ p1, x.block < W.heap.size := by obtain ⟨m, hm⟩ := h1; exact DataW.trod_lt m _ _ _ hm
  clear hA0 hval0
  simp only [List.append_nil] at hW'
  refine Calls.mono (main_deadlineLimits v0 v1 W a0 a1) ?_
  rintro e W' ⟨v, rfl, rfl, hu⟩
  have bel := hu.below
  have targ := (trodAll_cons_mk (Below.trod laidOut (by kernel_rfl) (of_decide_eq_true (by kernel_rfl)) h0 bel lt0) (trodAll_cons_mk (Below.trod laidOut (by kernel_rfl) (of_decide_eq_true (by kernel_rfl)) h1 bel lt1) trodAll_mk0))
  simp only [List.append_nil] at targ
  exact ⟨_, rfl, _, _, _, [], _, [], hW', trodAll_mk1 (shut_bool Try.underlying4 _), targ, rfl, bel.frame _, fun h => by cases h⟩
theorem over : Rows.deadlineLimitsRow.holds Try.pinned (OpenSpec.ofChange Rows.deadlineLimitsSpec) :=
  OpenClaim.holds_of_wide 8 Try.f8 rfl rfl rfl rfl rfl rfl rfl ⟨rfl, rfl, rfl, rfl, rfl⟩ rfl rfl rfl rfl rfl (by kernel_rfl) Try.func8 (by kernel_rfl)
    (of_decide_eq_true (by kernel_rfl)) (by unfold Func.isWrapper; first | (rw [if_pos (by decide +kernel)]; kernel_rfl) | (rw [if_neg (by decide +kernel)]; exact ⟨rfl, rfl⟩))
    (fun os started H enc _ => lifted os started H enc)
theorem proved : Rows.DeadlineLimitsSaid := over
end LawDeadlineLimits
end Go.Proofs.Ythdkbocfkbnpaaa
