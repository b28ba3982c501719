/- LimitRises: for all numbers the law returns true. No condition. -/
import Derived.Test.YtknekmmijehfmaaW2
namespace Go.Proofs.Ytknekmmijehfmaa
open Go.RowKit Go.Eg
set_option linter.unusedSimpArgs false
set_option linter.unusedVariables false
theorem churn_mono {a b m q : Int} (h : a ≤ b) (hq : 0 < q) : churn a m q ≤ churn b m q := by
  unfold churn
  rw [if_neg (by omega), if_neg (by omega)]
  have := Int.ediv_le_ediv hq h
  omega
theorem churn_anti {b m q : Int} (hb : 0 ≤ b) (hq : 0 < q) : churn b m (q + 1) ≤ churn b m q := by
  unfold churn
  rw [if_neg (by omega), if_neg (by omega)]
  have h1 : b / (q + 1) * (q + 1) ≤ b := Int.ediv_mul_le b (by omega)
  have h0 : 0 ≤ b / (q + 1) := Int.ediv_nonneg hb (by omega)
  have h2 : b / (q + 1) * q ≤ b := by rw [Int.mul_add] at h1; omega
  have := Int.le_ediv_of_mul_le hq h2
  omega

theorem law_rises (a b m q : Int) (ha : 0 ≤ a ∧ a ≤ 18446744073709551615) (hb : 0 ≤ b ∧ b ≤ 18446744073709551615) (hq : 0 ≤ q ∧ q ≤ 18446744073709551615) (w : World) : Pur Try.prog 4 [.agg [.int .u64 a, .int .u64 b].toArray, .agg [.int .u64 m, .int .u64 q].toArray] w (.bool true) := by
  refine g_start Try.func4 rfl 53 rfl (by simp) [] [] (WOK.start _ _) _ rfl ?_
  refine g_seq ?_
  refine g_region ?_
  refine g_op (g_box rfl rfl rfl fun b2 => ?_)
  refine g_op (g_box rfl rfl rfl fun b3 => ?_)
  refine s_q (q_assign rfl) rfl ?_
  refine g_nil ?_
  refine g_then ?_
  refine g_seq ?_
  refine d_region [] mixed rfl rfl ?_
  refine d_q 0 rfl (by kernel_rfl) (q_index_arr (i := 0) rfl rfl rfl (by decide)) wok_id rfl (ls' := #[true, false, false, false, false, false, false, false, false, false, false, false]) rfl ?_
  refine d_q 1 rfl (by kernel_rfl) (q_load rfl rfl) wok_id rfl (ls' := #[true, true, false, false, false, false, false, false, false, false, false, false]) rfl ?_
  refine d_q 2 rfl (by kernel_rfl) (q_index_arr (i := 1) rfl rfl rfl (by decide)) wok_id rfl (ls' := #[true, true, true, false, false, false, false, false, false, false, false, false]) rfl ?_
  refine d_q 3 rfl (by kernel_rfl) (q_load rfl rfl) wok_id rfl (ls' := #[true, true, true, true, false, false, false, false, false, false, false, false]) rfl ?_
  refine d_q 4 rfl (by kernel_rfl) (q_index_arr (i := 0) rfl rfl rfl (by decide)) wok_id rfl (ls' := #[true, true, true, true, true, false, false, false, false, false, false, false]) rfl ?_
  refine d_q 5 rfl (by kernel_rfl) (q_load rfl rfl) wok_id rfl (ls' := #[true, true, true, true, true, true, false, false, false, false, false, false]) rfl ?_
  refine d_q 6 rfl (by kernel_rfl) (q_index_arr (i := 1) rfl rfl rfl (by decide)) wok_id rfl (ls' := #[true, true, true, true, true, true, true, false, false, false, false, false]) rfl ?_
  refine d_q 7 rfl (by kernel_rfl) (q_load rfl rfl) wok_id rfl (ls' := #[true, true, true, true, true, true, true, true, false, false, false, false]) rfl ?_
  refine d_q 8 rfl (by kernel_rfl) (q_assign rfl) wok_id rfl (ls' := #[true, true, true, true, true, true, true, true, true, false, false, false]) rfl ?_
  refine d_q 9 rfl (by kernel_rfl) (q_assign rfl) wok_id rfl (ls' := #[true, true, true, true, true, true, true, true, true, true, false, false]) rfl ?_
  refine d_q 10 rfl (by kernel_rfl) (q_assign rfl) wok_id rfl (ls' := #[true, true, true, true, true, true, true, true, true, true, true, false]) rfl ?_
  refine d_q 11 rfl (by kernel_rfl) (q_assign rfl) wok_id rfl (ls' := #[true, true, true, true, true, true, true, true, true, true, true, true]) rfl ?_
  refine d_end (by kernel_rfl) (.inr wok_id) ?_
  refine g_then ?_
  refine g_seq ?_
  refine g_seq ?_
  refine g_region ?_
  refine s_q (q_move rfl) rfl ?_
  refine s_q (q_move rfl) rfl ?_
  refine s_q (q_gtr rfl rfl) rfl ?_
  refine s_q (q_move rfl) rfl ?_
  refine g_split 20 rfl (fun h1 => ?_) (fun h1 => ?_)
  · refine g_gf rfl rfl rfl rfl ?_
    refine g_gf rfl rfl rfl rfl ?_
    refine s_q (q_pick_t rfl rfl) rfl ?_
    refine s_q (q_move rfl) rfl ?_
    refine g_gf rfl rfl rfl rfl ?_
    refine g_gf rfl rfl rfl rfl ?_
    refine s_q (q_pick_t rfl rfl) rfl ?_
    refine g_nil ?_
    refine g_then ?_
    refine g_true rfl ?_
    refine g_seq ?_
    refine g_region ?_
    refine g_op (g_pure rfl (fun w hw => alive_any w) rfl ?_)
    refine g_litb 28 (b := true) rfl (rfl) ?_
    refine s_q (q_assign rfl) rfl ?_
    refine g_nil ?_
    refine g_then ?_
    refine g_ret ?_
    refine g_then_ret ?_
    exact fin1 rfl (.tmp rfl) (fun w' hw => ⟨by first | rfl | (simp_all; done), hw.upd⟩) _ (.inl rfl)
  · refine s_qg (q_move rfl) rfl rfl rfl ?_
    refine s_qg (q_eql rfl rfl) rfl rfl rfl ?_
    refine s_q (q_pick_f rfl rfl) rfl ?_
    refine s_q (q_move rfl) rfl ?_
    refine g_split 24 rfl (fun h2 => ?_) (fun h2 => ?_)
    · refine g_gf rfl rfl rfl rfl ?_
      refine g_gf rfl rfl rfl rfl ?_
      refine s_q (q_pick_t rfl rfl) rfl ?_
      refine g_nil ?_
      refine g_then ?_
      refine g_true rfl ?_
      refine g_seq ?_
      refine g_region ?_
      refine g_op (g_pure rfl (fun w hw => alive_any w) rfl ?_)
      refine g_litb 28 (b := true) rfl (rfl) ?_
      refine s_q (q_assign rfl) rfl ?_
      refine g_nil ?_
      refine g_then ?_
      refine g_ret ?_
      refine g_then_ret ?_
      exact fin1 rfl (.tmp rfl) (fun w' hw => ⟨by first | rfl | (simp_all; done), hw.upd⟩) _ (.inl rfl)
    · refine s_qg (q_move rfl) rfl rfl rfl ?_
      refine s_qg (q_eql rfl rfl) rfl rfl rfl ?_
      refine s_q (q_pick_f rfl rfl) rfl ?_
      refine g_nil ?_
      refine g_then ?_
      refine g_cond rfl (fun h3 => ?_) (fun h3 => ?_)
      · refine g_seq ?_
        refine g_region ?_
        refine g_op (g_pure rfl (fun w hw => alive_any w) rfl ?_)
        refine g_litb 28 (b := true) rfl (rfl) ?_
        refine s_q (q_assign rfl) rfl ?_
        refine g_nil ?_
        refine g_then ?_
        refine g_ret ?_
        refine g_then_ret ?_
        exact fin1 rfl (.tmp rfl) (fun w' hw => ⟨by first | rfl | (simp_all; done), hw.upd⟩) _ (.inl rfl)
      · refine g_skip ?_
        refine g_then ?_
        refine g_seq ?_
        refine g_region ?_
        have h9 : a ≤ b ∧ q ≠ 0 ∧ q ≠ 18446744073709551615 := by refine ⟨?_, ?_, ?_⟩ <;> simp_all
        obtain ⟨h9a, h9b, h9c⟩ := h9
        refine g_op (g_pure rfl (fun w hw => alive_any w) rfl ?_)
        refine g_litb 29 (b := true) rfl (rfl) ?_
        refine s_q (q_move rfl) rfl ?_
        refine s_qg (q_move rfl) rfl rfl rfl ?_
        refine s_qg (q_move rfl) rfl rfl rfl ?_
        refine s_qg (q_move rfl) rfl rfl rfl ?_
        refine g_gt rfl rfl (g_pure rfl (fun w hw => churn_any _ _ _ (by omega) (by omega) w) rfl ?_)
        refine s_qg (q_move rfl) rfl rfl rfl ?_
        refine s_qg (q_move rfl) rfl rfl rfl ?_
        refine s_qg (q_move rfl) rfl rfl rfl ?_
        refine g_gt rfl rfl (g_pure rfl (fun w hw => churn_any _ _ _ (by omega) (by omega) w) rfl ?_)
        refine s_qg (q_leq rfl rfl) rfl rfl rfl ?_
        refine g_litb 39 (b := true) rfl (by simpa using churn_mono h9a (by omega)) ?_
        refine s_q (q_pick_t rfl rfl) rfl ?_
        refine s_q (q_move rfl) rfl ?_
        refine s_qg (q_move rfl) rfl rfl rfl ?_
        refine s_qg (q_move rfl) rfl rfl rfl ?_
        refine s_qg (q_move rfl) rfl rfl rfl ?_
        refine s_qg (q_addz rfl rfl (wu64 (by omega) (by omega))) rfl rfl rfl ?_
        refine g_gt rfl rfl (g_pure rfl (fun w hw => churn_any _ _ _ (by omega) (by omega) w) rfl ?_)
        refine s_qg (q_move rfl) rfl rfl rfl ?_
        refine s_qg (q_move rfl) rfl rfl rfl ?_
        refine s_qg (q_move rfl) rfl rfl rfl ?_
        refine g_gt rfl rfl (g_pure rfl (fun w hw => churn_any _ _ _ (by omega) (by omega) w) rfl ?_)
        refine s_qg (q_leq rfl rfl) rfl rfl rfl ?_
        refine g_litb 51 (b := true) rfl (by simpa using churn_anti hb.1 (by omega)) ?_
        refine s_q (q_pick_t rfl rfl) rfl ?_
        refine s_q (q_assign rfl) rfl ?_
        refine g_nil ?_
        refine g_then ?_
        refine g_ret ?_
        exact fin1 rfl (.tmp rfl) (fun w' hw => ⟨by first | rfl | (simp_all; done), hw.upd⟩) _ (.inl rfl)

theorem pair_any (v : Value) (W : World) (a0 : Arg Try.prog W 26 v) : ∃ a b : Int, v = .agg [.int .u64 a, .int .u64 b].toArray ∧ (0 ≤ a ∧ a ≤ 18446744073709551615) ∧ (0 ≤ b ∧ b ≤ 18446744073709551615) := by
  obtain ⟨cs, rfl, f, h⟩ := Arg.arr Try.underlying26 a0
  obtain ⟨f, hl, h⟩ := OKc.array Try.underlying26 h
  have hT : Try.prog.cellsOf 26 = 2 := by kernel_rfl
  have hE : Try.prog.cellsOf 22 = 1 := by kernel_rfl
  rw [hT] at hl
  obtain ⟨c0, c1, rfl⟩ : ∃ c0 c1 : Value, cs = [c0, c1] := by
    match cs, hl with
    | [c0, c1], _ => exact ⟨_, _, rfl⟩
  have h0 := h 0 (by omega)
  have h1 := h 1 (by omega)
  rw [hE] at h0 h1
  obtain ⟨a, e0, r0⟩ := OKc.int Try.underlying22 h0
  obtain ⟨b, e1, r1⟩ := OKc.int Try.underlying22 h1
  obtain rfl : c0 = _ := by simpa using e0
  obtain rfl : c1 = _ := by simpa using e1
  exact ⟨a, b, rfl, r0, r1⟩
theorem main_rises (v0 v1 : Value) (W : World) (a0 : Arg Try.prog W 26 v0) (a1 : Arg Try.prog W 26 v1) : Pur Try.prog 4 [v0, v1] W (.bool true) := by
  obtain ⟨a, b, rfl, ha, hb⟩ := pair_any v0 W a0
  obtain ⟨m, q, rfl, hm, hq⟩ := pair_any v1 W a1
  exact law_rises a b m q ha hb hq W

namespace LawLimitRises
open Go.ChangeShapes Go.WideShapes Go.ChangeAt Go.RowKit Go.Eg
set_option linter.unusedVariables false
theorem own : ownKnob Try.prog.godebug = none := by kernel_rfl
theorem laidOut : laidOutB Try.prog = true := by kernel_rfl
set_option maxRecDepth 100000 in
theorem lifted (os : Os) (started : os.Started) (H : Type) (enc : TypeId × Value → H) :
    ReturnsInHanded {} Try.checked os 4 .any (Rows.limitRisesSpec.pre6 enc Try.prog Try.f4 Rows.limitRisesRow.domain false) (Rows.limitRisesSpec.post enc Try.prog Try.f4 false true false false) := by
  refine returnsInHanded_of_change (C := Try.checked) own started (by kernel_rfl) Try.func4
    (ChangeSpec.witness6 (enc := enc) (C := Try.checked) false ⟨#[], #[.agg #[.int .u64 0, .int .u64 0], .agg #[.int .u64 0, .int .u64 0]], []⟩ 8 (by kernel_rfl) (by kernel_rfl) (by kernel_rfl) (by kernel_rfl)) ?_
  intro W base args ds gs before hval0 hW hcnd _
  have hval : ∀ (j : Nat) t v, Try.f4.params[j]? = some t → args[j]? = some v → Value.okWide Try.prog W .any base t v := hval0
  have hW' := hW
  obtain ⟨p, q, hA0, hV, rfl, hfz, hnd⟩ := hW
  have hA : DataW.TrodAll enc Try.prog W 0 (fun _ => true) true Try.f4.params.toList args.toList ds p := hA0
  rw [Try.params4] at hA hval
  obtain ⟨v0, vs0, d0, ds0, p0, q0, hargs, rfl, rfl, h0, r0⟩ := trodAll_cons hA
  obtain ⟨v1, vs1, d1, ds1, p1, q1, rfl, rfl, rfl, h1, r1⟩ := trodAll_cons r0
  obtain ⟨rfl, rfl, rfl⟩ := trodAll_nil r1
  obtain rfl : args = #[v0, v1] := by cases args; simp_all
  obtain ⟨rfl, rfl⟩ := trodVars_none hV
  have a0 := Arg.of h0 (hval 0 26 v0 rfl rfl)
  have lt0 : ∀ x ∈ p0, x.block < W.heap.size := by obtain ⟨m, hm⟩ := h0; exact DataW.trod_lt m _ _ _ hm
  have a1 := Arg.of h1 (hval 1 26 v1 rfl rfl)
  have lt1 : ∀ x ∈ p1, x.block < W.heap.size := by obtain ⟨m, hm⟩ := h1; exact DataW.trod_lt m _ _ _ hm
  clear hA0 hval0
  simp only [List.append_nil] at hW'
  refine Calls.mono (main_rises v0 v1 W a0 a1) ?_
  rintro e W' ⟨v, rfl, rfl, hu⟩
  have bel := hu.below
  have targ := (trodAll_cons_mk (Below.trod laidOut (by kernel_rfl) (of_decide_eq_true (by kernel_rfl)) h0 bel lt0) (trodAll_cons_mk (Below.trod laidOut (by kernel_rfl) (of_decide_eq_true (by kernel_rfl)) h1 bel lt1) trodAll_mk0))
  simp only [List.append_nil] at targ
  exact ⟨_, rfl, _, _, _, [], _, [], hW', trodAll_mk1 (shut_bool Try.underlying4 _), targ, rfl, bel.frame _, fun h => by cases h⟩
theorem over : Rows.limitRisesRow.holds Try.pinned (OpenSpec.ofChange Rows.limitRisesSpec) :=
  OpenClaim.holds_of_wide 4 Try.f4 rfl rfl rfl rfl rfl rfl rfl ⟨rfl, rfl, rfl, rfl, rfl⟩ rfl rfl rfl rfl rfl (by kernel_rfl) Try.func4 (by kernel_rfl)
    (of_decide_eq_true (by kernel_rfl)) (by unfold Func.isWrapper; first | (rw [if_pos (by decide +kernel)]; kernel_rfl) | (rw [if_neg (by decide +kernel)]; exact ⟨rfl, rfl⟩))
    (fun os started H enc _ => lifted os started H enc)
theorem proved : Rows.LimitRisesSaid := over
end LawLimitRises
end Go.Proofs.Ytknekmmijehfmaa
