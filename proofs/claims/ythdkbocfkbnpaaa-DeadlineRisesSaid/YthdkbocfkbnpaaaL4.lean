/- DeadlineRises: for every exit, every four numbers and every configuration the law returns true. No condition. -/
import Derived.Test.YthdkbocfkbnpaaaW5
namespace Go.Proofs.Ythdkbocfkbnpaaa
open Go.RowKit Go.Eg
set_option synthInstance.maxSize 3000
set_option linter.unusedSimpArgs false
set_option linter.unusedVariables false
theorem bds_val {e a b : Int} {c : C} {l : List Int} (h : bdsB e a b c l = true) : bndB a b c = true ∧ 0 ≤ e ∧ (∀ x ∈ l, 0 ≤ x) ∧ 1 ≤ bndV a b c ∧ e + (bndV a b c + (1 + l.sum)) ≤ 1099511627776 ∧ bdsV e a b c l = e + (bndV a b c + (1 + l.sum)) := by
  simp only [bdsB, Bool.and_eq_true] at h
  obtain ⟨h1, h2⟩ := h
  have h3 : 1 ≤ bndV a b c := by unfold bndV; rw [if_pos h1]; omega
  have h4 := h2
  simp only [latB, decide_eq_true_eq, List.cons_append, List.nil_append, List.mem_cons, forall_eq_or_imp, List.sum_cons] at h4
  refine ⟨h1, h4.1.1, h4.1.2.2.2, h3, h4.2, ?_⟩
  unfold bdsV latV
  rw [if_pos h1, if_pos h2]; simp
theorem bds_of {e a b : Int} {c : C} {l : List Int} (h1 : bndB a b c = true) (h2 : 0 ≤ e) (h3 : ∀ x ∈ l, 0 ≤ x) (h4 : e + (bndV a b c + (1 + l.sum)) ≤ 1099511627776) : bdsB e a b c l = true := by
  have h5 : 1 ≤ bndV a b c := by unfold bndV; rw [if_pos h1]; omega
  simp only [bdsB, h1, Bool.true_and, latB, decide_eq_true_eq, List.cons_append, List.nil_append, List.mem_cons, forall_eq_or_imp, List.sum_cons]
  exact ⟨⟨h2, by omega, by omega, h3⟩, h4⟩
theorem bds_no {e a b : Int} {c : C} {l : List Int} (h : bdsB e a b c l = false) : bdsV e a b c l = 0 := by
  unfold bdsV latV
  by_cases h1 : bndB a b c = true
  · rw [if_pos h1]
    simp only [bdsB, h1, Bool.true_and] at h
    rw [h]; rfl
  · rw [if_neg h1]

theorem chkF_all {c : C} : ∀ {f i : Nat}, (∀ j, i ≤ j → j < i + f → rightB c j = true) → chkF c f i = 0
  | 0, i, _ => rfl
  | f + 1, i, h => by
    unfold chkF
    rw [h i (by omega) (by omega)]
    exact chkF_all fun j h1 h2 => h j (by omega) (by omega)
def wk (c : C) (m2 m3 : Int) : C := { c with fcap := min (c.fcap + m2) 1152921504606846976, unb := min (c.unb + m3 % 1000) (c.sld - 1), minch := (c.minch + 1) / 2 }
theorem wk_chk {c : C} (h : chk c = 0) (h0 : Cok c) {m2 m3 : Int} (hm3 : 0 ≤ m3) : chk (wk c m2 m3) = 0 := by
  refine chkF_all fun j h1 h2 => ?_
  have hj := chk_right h j h1 (by omega)
  have hc := h0.minch; have hu := h0.unb; have hs := h0.sld
  have hr : 0 ≤ m3 % 1000 := by omega
  have f8 : 1 ≤ (wk c m2 m3).minch ∧ (wk c m2 m3).minch ≤ 1152921504606846976 := by simp only [wk]; omega
  have f10 : (wk c m2 m3).fcap ≤ 1152921504606846976 := by simp only [wk]; omega
  have f11 : 1 ≤ (wk c m2 m3).unb ∧ (wk c m2 m3).unb ≤ 1048576 := by simp only [wk]; omega
  have f12 : (wk c m2 m3).unb < (wk c m2 m3).sld ∧ (wk c m2 m3).sld ≤ 1048576 := by simp only [wk]; omega
  have j8 : rightB (wk c m2 m3) ((8 : Nat) : Int) = true := by
    show (decide (1 ≤ (wk c m2 m3).minch) && decide ((wk c m2 m3).minch ≤ 1152921504606846976)) = true
    rw [decide_eq_true f8.1, decide_eq_true f8.2]; rfl
  have j10 : rightB (wk c m2 m3) ((10 : Nat) : Int) = true := by
    show decide ((wk c m2 m3).fcap ≤ 1152921504606846976) = true
    rw [decide_eq_true f10]
  have j11 : rightB (wk c m2 m3) ((11 : Nat) : Int) = true := by
    show (decide (1 ≤ (wk c m2 m3).unb) && decide ((wk c m2 m3).unb ≤ 1048576)) = true
    rw [decide_eq_true f11.1, decide_eq_true f11.2]; rfl
  have j12 : rightB (wk c m2 m3) ((12 : Nat) : Int) = true := by
    show (decide ((wk c m2 m3).unb < (wk c m2 m3).sld) && decide ((wk c m2 m3).sld ≤ 1048576)) = true
    rw [decide_eq_true f12.1, decide_eq_true f12.2]; rfl
  rcases (show j = 1 ∨ j = 2 ∨ j = 3 ∨ j = 4 ∨ j = 5 ∨ j = 6 ∨ j = 7 ∨ j = 8 ∨ j = 9 ∨ j = 10 ∨ j = 11 ∨ j = 12 ∨ j = 13 ∨ j = 14 ∨ j = 15 ∨ j = 16 ∨ j = 17 ∨ j = 18 ∨ j = 19 ∨ j = 20 by omega) with rfl | rfl | rfl | rfl | rfl | rfl | rfl | rfl | rfl | rfl | rfl | rfl | rfl | rfl | rfl | rfl | rfl | rfl | rfl | rfl <;>
    first
      | exact hj
      | exact j8
      | exact j10
      | exact j11
      | exact j12
theorem wk_ok {c : C} (h : Cok c) {m2 m3 : Int} (hm2 : 0 ≤ m2) (hm3 : 0 ≤ m3) : Cok (wk c m2 m3) := by
  obtain ⟨h1, h2, h3, h4, h5, h6, h7, h8, h9⟩ := h
  have hr : 0 ≤ m3 % 1000 := by omega
  exact ⟨h1, by simp only [wk]; omega, by simp only [wk]; omega, by simp only [wk]; omega, by simp only [wk]; omega, h6, h7, h8, h9⟩
theorem bnd_mono {a b a' b' : Int} {c d : C} (ha : 0 ≤ a) (hb : 0 ≤ b) (hc : Cok c) (hd : Cok d) (h1 : a ≤ a') (h2 : b ≤ b') (h3 : c.fcap ≤ d.fcap) (h4 : d.minch ≤ c.minch) (h : bndB a' b' d = true) : bndB a b c = true ∧ bndV a b c ≤ bndV a' b' d := by
  have hf := hc.fcap; have hm := hd.minch; have hm2 := hc.minch
  have h0 := h
  simp only [bndB, addB, Bool.and_eq_true, decide_eq_true_eq, List.sum_cons, List.sum_nil] at h
  obtain ⟨s1, s2⟩ := h
  replace s1 := of_decide_eq_true s1
  have s3 : a + (b + (c.fcap + 0)) ≤ 18446744073709551615 := by omega
  have e1 : addV [a', b', d.fcap] = a' + (b' + (d.fcap + 0)) := by unfold addV; rw [if_pos (by simpa using s1)]; rfl
  have e2 : addV [a, b, c.fcap] = a + (b + (c.fcap + 0)) := by unfold addV; rw [if_pos (by simpa using s3)]; rfl
  have hle : ceilV (addV [a, b, c.fcap]) c.minch ≤ ceilV (addV [a', b', d.fcap]) d.minch := by rw [e1, e2]; exact ceil_le (by omega) (by omega) (by omega) h4
  have s2' := s2
  simp only [epoB, Bool.and_eq_true, decide_eq_true_eq] at s2'
  have s4 : epoB (addV [a, b, c.fcap]) c.minch = true := by
    have n1 : ¬ c.minch = 0 := by omega
    simp [epoB, n1]; omega
  have h5 : bndB a b c = true := by
    simp only [bndB, addB, Bool.and_eq_true, decide_eq_true_eq, List.sum_cons, List.sum_nil]
    exact ⟨decide_eq_true s3, s4⟩
  refine ⟨h5, ?_⟩
  unfold bndV
  rw [if_pos h5, if_pos h0]
  unfold epoV
  rw [if_pos s4, if_pos s2]
  omega
theorem pay_mono {e a b a' b' : Int} {c d : C} (ha : 0 ≤ a) (hb : 0 ≤ b) (hc : Cok c) (hd : Cok d) (h1 : a ≤ a') (h2 : b ≤ b') (h3 : c.fcap ≤ d.fcap) (h4 : d.minch ≤ c.minch) (h5 : c.unb ≤ d.unb) (h6 : sweepV c = sweepV d) (h : bdsB e a' b' d [d.unb, sweepV d] = true) :
    bdsB e a b c [c.unb, sweepV c] = true ∧ bdsV e a b c [c.unb, sweepV c] ≤ bdsV e a' b' d [d.unb, sweepV d] := by
  obtain ⟨v1, v2, v3, v4, v5, v6⟩ := bds_val h
  obtain ⟨q1, q2⟩ := bnd_mono ha hb hc hd h1 h2 h3 h4 v1
  have hu := hc.unb; have hs := sweep_bd hc
  simp only [List.sum_cons, List.sum_nil] at v5 v6
  have hB : bdsB e a b c [c.unb, sweepV c] = true := bds_of q1 v2 (by simp; omega) (by simp only [List.sum_cons, List.sum_nil]; omega)
  obtain ⟨_, _, _, _, _, w6⟩ := bds_val hB
  simp only [List.sum_cons, List.sum_nil] at w6
  exact ⟨hB, by rw [w6, v6]; omega⟩

set_option maxHeartbeats 400000 in
theorem law_deadlineRises (x : X) (m0 m1 m2 m3 : Int) (c : C) (w : World) (k_x : (x).ok) (r0 : 0 ≤ m0 ∧ m0 ≤ 4294967295) (r1 : 0 ≤ m1 ∧ m1 ≤ 4294967295) (r2 : 0 ≤ m2 ∧ m2 ≤ 4294967295) (r3 : 0 ≤ m3 ∧ m3 ≤ 4294967295) (k_c : (c).ok) : Pur Try.prog 4 [x.v, .agg [.int .u32 m0, .int .u32 m1, .int .u32 m2, .int .u32 m3].toArray, c.v] w (.bool true) := by
  refine g_start Try.func4 rfl 106 rfl (by simp) ([]) [] (WOK.start _ _) _ rfl ?_
  refine g_seq ?_
  refine g_region ?_
  refine g_op (g_box rfl rfl rfl fun b3 => ?_)
  refine g_op (g_box rfl rfl rfl fun b4 => ?_)
  refine g_op (g_box rfl rfl rfl fun b5 => ?_)
  refine s_q (q_assign rfl) rfl ?_
  refine g_nil ?_
  refine g_then ?_
  refine g_seq ?_
  refine g_seq ?_
  refine g_region ?_
  refine s_q (q_loadw rfl rfl) rfl ?_
  refine g_op (g_pure rfl (fun w hw => chk_any _ w) rfl ?_)
  refine s_q (q_neq rfl rfl) rfl ?_
  refine s_q (q_move rfl) rfl ?_
  refine g_split 16 rfl (fun h1 => ?_) (fun h1 => ?_)
  · refine g_gf rfl rfl rfl rfl ?_
    refine g_gf rfl rfl rfl rfl ?_
    refine g_gf rfl rfl rfl rfl ?_
    refine s_q (q_pick_t rfl rfl) rfl ?_
    refine s_q (q_move rfl) rfl ?_
    refine g_gf rfl rfl rfl rfl ?_
    refine g_gf rfl rfl rfl rfl ?_
    refine g_gf rfl rfl rfl rfl ?_
    refine s_q (q_pick_t rfl rfl) rfl ?_
    refine g_nil ?_
    refine g_then ?_
    refine g_true rfl ?_
    refine g_seq ?_
    refine g_region ?_
    refine g_op (g_pure rfl (fun w1 hw1 => alive_any w1) rfl ?_)
    refine s_q (q_assign rfl) rfl ?_
    refine g_nil ?_
    refine g_then ?_
    refine g_ret ?_
    refine g_then_ret ?_
    exact fin1 rfl (.tmp rfl) (fun w' hw' => ⟨by first | rfl | (simp_all; done) | (simp_all; omega), hw'.upd⟩) _ (.inl rfl)
  · refine s_qg (q_field rfl) rfl rfl rfl ?_
    refine s_qg (q_load rfl rfl) rfl rfl rfl ?_
    refine s_qg (q_gtr rfl rfl) rfl rfl rfl ?_
    refine s_q (q_pick_f rfl rfl) rfl ?_
    refine s_q (q_move rfl) rfl ?_
    refine g_split 21 rfl (fun h2 => ?_) (fun h2 => ?_)
    · refine g_gf rfl rfl rfl rfl ?_
      refine g_gf rfl rfl rfl rfl ?_
      refine g_gf rfl rfl rfl rfl ?_
      refine s_q (q_pick_t rfl rfl) rfl ?_
      refine g_nil ?_
      refine g_then ?_
      refine g_true rfl ?_
      refine g_seq ?_
      refine g_region ?_
      refine g_op (g_pure rfl (fun w1 hw1 => alive_any w1) rfl ?_)
      refine s_q (q_assign rfl) rfl ?_
      refine g_nil ?_
      refine g_then ?_
      refine g_ret ?_
      refine g_then_ret ?_
      exact fin1 rfl (.tmp rfl) (fun w' hw' => ⟨by first | rfl | (simp_all; done) | (simp_all; omega), hw'.upd⟩) _ (.inl rfl)
    · refine s_qg (q_field rfl) rfl rfl rfl ?_
      refine s_qg (q_load rfl rfl) rfl rfl rfl ?_
      refine s_qg (q_gtr rfl rfl) rfl rfl rfl ?_
      refine s_q (q_pick_f rfl rfl) rfl ?_
      refine g_nil ?_
      refine g_then ?_
      refine g_cond rfl (fun h3 => ?_) (fun h3 => ?_)
      · refine g_seq ?_
        refine g_region ?_
        refine g_op (g_pure rfl (fun w1 hw1 => alive_any w1) rfl ?_)
        refine s_q (q_assign rfl) rfl ?_
        refine g_nil ?_
        refine g_then ?_
        refine g_ret ?_
        refine g_then_ret ?_
        exact fin1 rfl (.tmp rfl) (fun w' hw' => ⟨by first | rfl | (simp_all; done) | (simp_all; omega), hw'.upd⟩) _ (.inl rfl)
      · have hchk : chk c = 0 := by simpa using h1
        have hc0 := chk_ok hchk k_c
        have xa : x.a ≤ 2305843009213693952 := by simpa using h2
        have xw : x.w ≤ 2305843009213693952 := by simpa using h3
        have ka := k_x.a
        have kw := k_x.w
        have kf := hc0.fcap
        have ku := hc0.unb
        have ks := hc0.sld
        have km := hc0.minch
        refine g_skip ?_
        refine g_then ?_
        refine g_seq ?_
        refine d_regionL (L0 := [Res.blk b3 24 x.c, Res.blk b5 26 c.c]) [] mixed rfl rfl wok_sub ?_
        refine d_q 0 rfl (by kernel_rfl) (q_loadw rfl rfl) wok_sub rfl (ls' := #[true, false, false, false, false, false]) rfl ?_
        refine d_q 1 rfl (by kernel_rfl) (q_loadw rfl rfl) wok_sub rfl (ls' := #[true, true, false, false, false, false]) rfl ?_
        refine d_many [2, 3] (by kernel_rfl) (by simp) wok_sub ⟨d_pick rfl (ls' := #[true, true, true, false, false, false]) rfl (g_alloc rfl fun b7 => ?_), d_pick rfl (ls' := #[true, true, false, true, false, false]) rfl (g_alloc rfl fun b8 => ?_), trivial⟩
        · refine d_op 3 rfl (by kernel_rfl) (ls' := #[true, true, true, true, false, false]) rfl wok_sub (g_alloc rfl fun b8 => ?_)
          refine d_op 4 rfl (by kernel_rfl) (ls' := #[true, true, true, true, true, false]) rfl wok_sub (g_storew rfl rfl rfl rfl rfl ?_)
          refine d_op 5 rfl (by kernel_rfl) (ls' := #[true, true, true, true, true, true]) rfl wok_sub (g_storew rfl rfl rfl rfl rfl ?_)
          refine d_end (by kernel_rfl) (.inr wok_sub) ?_
          refine g_then ?_
          refine g_seq ?_
          refine g_region ?_
          refine s_q (q_field rfl) rfl ?_
          refine s_q (q_load rfl rfl) rfl ?_
          refine s_q (q_index_arr (i := 0) rfl rfl rfl (by decide)) rfl ?_
          refine s_q (q_load rfl rfl) rfl ?_
          refine s_q (q_convz (z := m0) rfl (wu64 (by omega) (by omega))) rfl ?_
          refine s_q (q_addz (z := x.a + m0) rfl rfl (wu64 (by omega) (by omega))) rfl ?_
          refine s_q (q_field rfl) rfl ?_
          refine g_op (g_store rfl rfl rfl rfl rfl rfl rfl ?_)
          refine g_nil ?_
          refine g_then ?_
          refine g_seq ?_
          refine g_region ?_
          refine s_q (q_field rfl) rfl ?_
          refine s_q (q_load rfl rfl) rfl ?_
          refine s_q (q_index_arr (i := 1) rfl rfl rfl (by decide)) rfl ?_
          refine s_q (q_load rfl rfl) rfl ?_
          refine s_q (q_convz (z := m1) rfl (wu64 (by omega) (by omega))) rfl ?_
          refine s_q (q_addz (z := x.w + m1) rfl rfl (wu64 (by omega) (by omega))) rfl ?_
          refine s_q (q_field rfl) rfl ?_
          refine g_op (g_store rfl rfl rfl rfl rfl rfl rfl ?_)
          obtain ⟨yy, hyy⟩ : ∃ t : X, t = { x with a := x.a + m0, w := x.w + m1 } := ⟨_, rfl⟩
          refine g_blkc (b := b7) (X.c yy) (by rw [hyy]; simp [X.c, splice]) ?_
          refine g_nil ?_
          refine g_then ?_
          refine g_seq ?_
          refine g_region ?_
          refine s_q (q_field rfl) rfl ?_
          refine s_q (q_load rfl rfl) rfl ?_
          refine s_q (q_index_arr (i := 2) rfl rfl rfl (by decide)) rfl ?_
          refine s_q (q_load rfl rfl) rfl ?_
          refine s_q (q_convz (z := m2) rfl (wu64 (by omega) (by omega))) rfl ?_
          refine s_q (q_addz (z := c.fcap + m2) rfl rfl (wu64 (by omega) (by omega))) rfl ?_
          refine s_q (q_min rfl rfl) rfl ?_
          refine s_q (q_field rfl) rfl ?_
          refine g_op (g_store rfl rfl rfl rfl rfl rfl rfl ?_)
          refine g_nil ?_
          refine g_then ?_
          refine g_seq ?_
          refine g_region ?_
          refine s_q (q_field rfl) rfl ?_
          refine s_q (q_load rfl rfl) rfl ?_
          refine s_q (q_index_arr (i := 3) rfl rfl rfl (by decide)) rfl ?_
          refine s_q (q_load rfl rfl) rfl ?_
          refine s_q (q_rem rfl rfl (by decide)) rfl ?_
          refine g_val 55 (v' := .int .u32 (m3 % 1000)) rfl (by rw [Int.tmod_eq_emod_of_nonneg (by omega)]) ?_
          refine s_q (q_convz (z := m3 % 1000) rfl (wi64 (by omega) (by omega))) rfl ?_
          refine s_q (q_addz (z := c.unb + m3 % 1000) rfl rfl (wi64 (by omega) (by omega))) rfl ?_
          refine s_q (q_field rfl) rfl ?_
          refine s_q (q_load rfl rfl) rfl ?_
          refine s_q (q_subz (z := c.sld - 1) rfl rfl (wi64 (by omega) (by omega))) rfl ?_
          refine s_q (q_min rfl rfl) rfl ?_
          refine s_q (q_field rfl) rfl ?_
          refine g_op (g_store rfl rfl rfl rfl rfl rfl rfl ?_)
          refine g_nil ?_
          refine g_then ?_
          refine g_seq ?_
          refine g_region ?_
          refine s_q (q_field rfl) rfl ?_
          refine s_q (q_load rfl rfl) rfl ?_
          refine s_q (q_addz (z := c.minch + 1) rfl rfl (wu64 (by omega) (by omega))) rfl ?_
          refine s_q (q_quo rfl rfl (by decide)) rfl ?_
          refine g_val 66 (v' := .int .u64 ((c.minch + 1) / 2)) rfl (by rw [Int.tdiv_eq_ediv_of_nonneg (by omega), wu64 (by omega) (by omega)]) ?_
          refine s_q (q_field rfl) rfl ?_
          refine g_op (g_store rfl rfl rfl rfl rfl rfl rfl ?_)
          obtain ⟨dd, hdd⟩ : ∃ t : C, t = wk c m2 m3 := ⟨_, rfl⟩
          refine g_blkc (b := b8) (C.c dd) (by rw [hdd]; simp [C.c, wk, splice]) ?_
          have hdk : chk dd = 0 := by rw [hdd]; exact wk_chk hchk hc0 r3.1
          have hd0 : Cok dd := by rw [hdd]; exact wk_ok hc0 r2.1 r3.1
          have hya : U64 yy.a := by rw [hyy]; exact ⟨by dsimp only; omega, by dsimp only; omega⟩
          have hyw : U64 yy.w := by rw [hyy]; exact ⟨by dsimp only; omega, by dsimp only; omega⟩
          have hye : yy.e = x.e := by rw [hyy]
          have hmono := fun h => pay_mono (e := x.e) (a := x.a) (b := x.w) (a' := yy.a) (b' := yy.w) (c := c) (d := dd) ka.1 kw.1 hc0 hd0 (by rw [hyy]; dsimp only; omega) (by rw [hyy]; dsimp only; omega) (by rw [hdd]; simp only [wk]; omega) (by rw [hdd]; simp only [wk]; omega) (by rw [hdd]; simp only [wk]; omega) (by rw [hdd]; rfl) h
          refine g_nil ?_
          refine g_then ?_
          refine g_seq ?_
          refine g_seq ?_
          refine g_region ?_
          refine s_q (q_loadw rfl rfl) rfl ?_
          refine g_op (g_pure rfl (fun w hw => chk_any _ w) rfl ?_)
          refine s_q (q_neq rfl rfl) rfl ?_
          refine g_litb 70 (b := false) rfl (by rw [hdk]; rfl) ?_
          refine g_nil ?_
          refine g_then ?_
          refine g_false rfl ?_
          refine g_skip ?_
          refine g_then ?_
          refine g_seq ?_
          refine g_region ?_
          refine s_q (q_field rfl) rfl ?_
          refine s_q (q_load rfl rfl) rfl ?_
          refine s_q (q_field rfl) rfl ?_
          refine s_q (q_load rfl rfl) rfl ?_
          refine s_q (q_field rfl) rfl ?_
          refine s_q (q_load rfl rfl) rfl ?_
          refine s_q (q_loadw rfl rfl) rfl ?_
          refine g_op (g_pure rfl (fun w1 hw1 => pay_any _ _ _ _ w1 k_x.a k_x.w hc0 k_x.e) rfl ?_)
          refine s_q (q_move rfl) rfl ?_
          refine s_q (q_extract rfl rfl) rfl ?_
          refine s_q (q_extract rfl rfl) rfl ?_
          refine s_q (q_assign rfl) rfl ?_
          refine s_q (q_assign rfl) rfl ?_
          refine g_nil ?_
          refine g_then ?_
          refine g_seq ?_
          refine g_region ?_
          refine s_q (q_field rfl) rfl ?_
          refine s_q (q_load rfl rfl) rfl ?_
          refine s_q (q_field rfl) rfl ?_
          refine s_q (q_load rfl rfl) rfl ?_
          refine s_q (q_field rfl) rfl ?_
          refine s_q (q_load rfl rfl) rfl ?_
          refine s_q (q_loadw rfl rfl) rfl ?_
          refine g_op (g_pure rfl (fun w1 hw1 => pay_any _ _ _ _ w1 hya hyw hd0 (by rw [hye]; exact k_x.e)) rfl ?_)
          refine s_q (q_move rfl) rfl ?_
          refine s_q (q_extract rfl rfl) rfl ?_
          refine s_q (q_extract rfl rfl) rfl ?_
          refine s_q (q_assign rfl) rfl ?_
          refine s_q (q_assign rfl) rfl ?_
          refine g_nil ?_
          refine g_then ?_
          refine g_seq ?_
          refine g_region ?_
          refine g_op (g_pure rfl (fun w1 hw1 => alive_any w1) rfl ?_)
          refine s_q (q_move rfl) rfl ?_
          refine s_qg (q_move rfl) rfl rfl rfl ?_
          refine s_qg (q_not rfl) rfl rfl rfl ?_
          refine s_qg (q_move rfl) rfl rfl rfl ?_
          refine g_split 97 rfl (fun h4 => ?_) (fun h4 => ?_)
          · refine g_gf rfl rfl rfl rfl ?_
            refine g_gf rfl rfl rfl rfl ?_
            refine g_gu rfl rfl rfl ?_
            refine g_gu rfl rfl rfl ?_
            refine g_gu rfl rfl rfl ?_
            refine g_gf rfl rfl rfl rfl ?_
            refine s_qg (q_pick_t rfl rfl) rfl rfl rfl ?_
            refine s_q (q_pick_t rfl rfl) rfl ?_
            refine s_q (q_assign rfl) rfl ?_
            refine g_nil ?_
            refine g_then ?_
            refine g_ret ?_
            exact fin1 rfl (.tmp rfl) (fun w' hw' => ⟨by first | rfl | (simp_all; done) | (simp_all; omega), hw'.upd⟩) _ (.inl rfl)
          · have hm2 := hmono (by rw [← hye]; simpa using h4)
            refine s_qg (q_move rfl) rfl rfl rfl ?_
            refine s_qg (q_move rfl) rfl rfl rfl ?_
            refine g_litb 99 (b := true) rfl (hm2.1) ?_
            refine s_qg (q_move rfl) rfl rfl rfl ?_
            refine s_qg (q_move rfl) rfl rfl rfl ?_
            refine s_qg (q_leq rfl rfl) rfl rfl rfl ?_
            refine g_litb 102 (b := true) rfl (by rw [hye]; exact decide_eq_true hm2.2) ?_
            refine s_qg (q_pick_t rfl rfl) rfl rfl rfl ?_
            refine s_qg (q_pick_f rfl rfl) rfl rfl rfl ?_
            refine s_q (q_pick_t rfl rfl) rfl ?_
            refine s_q (q_assign rfl) rfl ?_
            refine g_nil ?_
            refine g_then ?_
            refine g_ret ?_
            exact fin1 rfl (.tmp rfl) (fun w' hw' => ⟨by first | rfl | (simp_all; done) | (simp_all; omega), hw'.upd⟩) _ (.inl rfl)
        · refine d_op 2 rfl (by kernel_rfl) (ls' := #[true, true, true, true, false, false]) rfl wok_sub (g_alloc rfl fun b7 => ?_)
          refine d_op 4 rfl (by kernel_rfl) (ls' := #[true, true, true, true, true, false]) rfl wok_sub (g_storew rfl rfl rfl rfl rfl ?_)
          refine d_op 5 rfl (by kernel_rfl) (ls' := #[true, true, true, true, true, true]) rfl wok_sub (g_storew rfl rfl rfl rfl rfl ?_)
          refine d_end (by kernel_rfl) (.inr wok_sub) ?_
          refine g_then ?_
          refine g_seq ?_
          refine g_region ?_
          refine s_q (q_field rfl) rfl ?_
          refine s_q (q_load rfl rfl) rfl ?_
          refine s_q (q_index_arr (i := 0) rfl rfl rfl (by decide)) rfl ?_
          refine s_q (q_load rfl rfl) rfl ?_
          refine s_q (q_convz (z := m0) rfl (wu64 (by omega) (by omega))) rfl ?_
          refine s_q (q_addz (z := x.a + m0) rfl rfl (wu64 (by omega) (by omega))) rfl ?_
          refine s_q (q_field rfl) rfl ?_
          refine g_op (g_store rfl rfl rfl rfl rfl rfl rfl ?_)
          refine g_nil ?_
          refine g_then ?_
          refine g_seq ?_
          refine g_region ?_
          refine s_q (q_field rfl) rfl ?_
          refine s_q (q_load rfl rfl) rfl ?_
          refine s_q (q_index_arr (i := 1) rfl rfl rfl (by decide)) rfl ?_
          refine s_q (q_load rfl rfl) rfl ?_
          refine s_q (q_convz (z := m1) rfl (wu64 (by omega) (by omega))) rfl ?_
          refine s_q (q_addz (z := x.w + m1) rfl rfl (wu64 (by omega) (by omega))) rfl ?_
          refine s_q (q_field rfl) rfl ?_
          refine g_op (g_store rfl rfl rfl rfl rfl rfl rfl ?_)
          obtain ⟨yy, hyy⟩ : ∃ t : X, t = { x with a := x.a + m0, w := x.w + m1 } := ⟨_, rfl⟩
          refine g_blkc (b := b7) (X.c yy) (by rw [hyy]; simp [X.c, splice]) ?_
          refine g_nil ?_
          refine g_then ?_
          refine g_seq ?_
          refine g_region ?_
          refine s_q (q_field rfl) rfl ?_
          refine s_q (q_load rfl rfl) rfl ?_
          refine s_q (q_index_arr (i := 2) rfl rfl rfl (by decide)) rfl ?_
          refine s_q (q_load rfl rfl) rfl ?_
          refine s_q (q_convz (z := m2) rfl (wu64 (by omega) (by omega))) rfl ?_
          refine s_q (q_addz (z := c.fcap + m2) rfl rfl (wu64 (by omega) (by omega))) rfl ?_
          refine s_q (q_min rfl rfl) rfl ?_
          refine s_q (q_field rfl) rfl ?_
          refine g_op (g_store rfl rfl rfl rfl rfl rfl rfl ?_)
          refine g_nil ?_
          refine g_then ?_
          refine g_seq ?_
          refine g_region ?_
          refine s_q (q_field rfl) rfl ?_
          refine s_q (q_load rfl rfl) rfl ?_
          refine s_q (q_index_arr (i := 3) rfl rfl rfl (by decide)) rfl ?_
          refine s_q (q_load rfl rfl) rfl ?_
          refine s_q (q_rem rfl rfl (by decide)) rfl ?_
          refine g_val 55 (v' := .int .u32 (m3 % 1000)) rfl (by rw [Int.tmod_eq_emod_of_nonneg (by omega)]) ?_
          refine s_q (q_convz (z := m3 % 1000) rfl (wi64 (by omega) (by omega))) rfl ?_
          refine s_q (q_addz (z := c.unb + m3 % 1000) rfl rfl (wi64 (by omega) (by omega))) rfl ?_
          refine s_q (q_field rfl) rfl ?_
          refine s_q (q_load rfl rfl) rfl ?_
          refine s_q (q_subz (z := c.sld - 1) rfl rfl (wi64 (by omega) (by omega))) rfl ?_
          refine s_q (q_min rfl rfl) rfl ?_
          refine s_q (q_field rfl) rfl ?_
          refine g_op (g_store rfl rfl rfl rfl rfl rfl rfl ?_)
          refine g_nil ?_
          refine g_then ?_
          refine g_seq ?_
          refine g_region ?_
          refine s_q (q_field rfl) rfl ?_
          refine s_q (q_load rfl rfl) rfl ?_
          refine s_q (q_addz (z := c.minch + 1) rfl rfl (wu64 (by omega) (by omega))) rfl ?_
          refine s_q (q_quo rfl rfl (by decide)) rfl ?_
          refine g_val 66 (v' := .int .u64 ((c.minch + 1) / 2)) rfl (by rw [Int.tdiv_eq_ediv_of_nonneg (by omega), wu64 (by omega) (by omega)]) ?_
          refine s_q (q_field rfl) rfl ?_
          refine g_op (g_store rfl rfl rfl rfl rfl rfl rfl ?_)
          obtain ⟨dd, hdd⟩ : ∃ t : C, t = wk c m2 m3 := ⟨_, rfl⟩
          refine g_blkc (b := b8) (C.c dd) (by rw [hdd]; simp [C.c, wk, splice]) ?_
          have hdk : chk dd = 0 := by rw [hdd]; exact wk_chk hchk hc0 r3.1
          have hd0 : Cok dd := by rw [hdd]; exact wk_ok hc0 r2.1 r3.1
          have hya : U64 yy.a := by rw [hyy]; exact ⟨by dsimp only; omega, by dsimp only; omega⟩
          have hyw : U64 yy.w := by rw [hyy]; exact ⟨by dsimp only; omega, by dsimp only; omega⟩
          have hye : yy.e = x.e := by rw [hyy]
          have hmono := fun h => pay_mono (e := x.e) (a := x.a) (b := x.w) (a' := yy.a) (b' := yy.w) (c := c) (d := dd) ka.1 kw.1 hc0 hd0 (by rw [hyy]; dsimp only; omega) (by rw [hyy]; dsimp only; omega) (by rw [hdd]; simp only [wk]; omega) (by rw [hdd]; simp only [wk]; omega) (by rw [hdd]; simp only [wk]; omega) (by rw [hdd]; rfl) h
          refine g_nil ?_
          refine g_then ?_
          refine g_seq ?_
          refine g_seq ?_
          refine g_region ?_
          refine s_q (q_loadw rfl rfl) rfl ?_
          refine g_op (g_pure rfl (fun w hw => chk_any _ w) rfl ?_)
          refine s_q (q_neq rfl rfl) rfl ?_
          refine g_litb 70 (b := false) rfl (by rw [hdk]; rfl) ?_
          refine g_nil ?_
          refine g_then ?_
          refine g_false rfl ?_
          refine g_skip ?_
          refine g_then ?_
          refine g_seq ?_
          refine g_region ?_
          refine s_q (q_field rfl) rfl ?_
          refine s_q (q_load rfl rfl) rfl ?_
          refine s_q (q_field rfl) rfl ?_
          refine s_q (q_load rfl rfl) rfl ?_
          refine s_q (q_field rfl) rfl ?_
          refine s_q (q_load rfl rfl) rfl ?_
          refine s_q (q_loadw rfl rfl) rfl ?_
          refine g_op (g_pure rfl (fun w1 hw1 => pay_any _ _ _ _ w1 k_x.a k_x.w hc0 k_x.e) rfl ?_)
          refine s_q (q_move rfl) rfl ?_
          refine s_q (q_extract rfl rfl) rfl ?_
          refine s_q (q_extract rfl rfl) rfl ?_
          refine s_q (q_assign rfl) rfl ?_
          refine s_q (q_assign rfl) rfl ?_
          refine g_nil ?_
          refine g_then ?_
          refine g_seq ?_
          refine g_region ?_
          refine s_q (q_field rfl) rfl ?_
          refine s_q (q_load rfl rfl) rfl ?_
          refine s_q (q_field rfl) rfl ?_
          refine s_q (q_load rfl rfl) rfl ?_
          refine s_q (q_field rfl) rfl ?_
          refine s_q (q_load rfl rfl) rfl ?_
          refine s_q (q_loadw rfl rfl) rfl ?_
          refine g_op (g_pure rfl (fun w1 hw1 => pay_any _ _ _ _ w1 hya hyw hd0 (by rw [hye]; exact k_x.e)) rfl ?_)
          refine s_q (q_move rfl) rfl ?_
          refine s_q (q_extract rfl rfl) rfl ?_
          refine s_q (q_extract rfl rfl) rfl ?_
          refine s_q (q_assign rfl) rfl ?_
          refine s_q (q_assign rfl) rfl ?_
          refine g_nil ?_
          refine g_then ?_
          refine g_seq ?_
          refine g_region ?_
          refine g_op (g_pure rfl (fun w1 hw1 => alive_any w1) rfl ?_)
          refine s_q (q_move rfl) rfl ?_
          refine s_qg (q_move rfl) rfl rfl rfl ?_
          refine s_qg (q_not rfl) rfl rfl rfl ?_
          refine s_qg (q_move rfl) rfl rfl rfl ?_
          refine g_split 97 rfl (fun h5 => ?_) (fun h5 => ?_)
          · refine g_gf rfl rfl rfl rfl ?_
            refine g_gf rfl rfl rfl rfl ?_
            refine g_gu rfl rfl rfl ?_
            refine g_gu rfl rfl rfl ?_
            refine g_gu rfl rfl rfl ?_
            refine g_gf rfl rfl rfl rfl ?_
            refine s_qg (q_pick_t rfl rfl) rfl rfl rfl ?_
            refine s_q (q_pick_t rfl rfl) rfl ?_
            refine s_q (q_assign rfl) rfl ?_
            refine g_nil ?_
            refine g_then ?_
            refine g_ret ?_
            exact fin1 rfl (.tmp rfl) (fun w' hw' => ⟨by first | rfl | (simp_all; done) | (simp_all; omega), hw'.upd⟩) _ (.inl rfl)
          · have hm2 := hmono (by rw [← hye]; simpa using h5)
            refine s_qg (q_move rfl) rfl rfl rfl ?_
            refine s_qg (q_move rfl) rfl rfl rfl ?_
            refine g_litb 99 (b := true) rfl (hm2.1) ?_
            refine s_qg (q_move rfl) rfl rfl rfl ?_
            refine s_qg (q_move rfl) rfl rfl rfl ?_
            refine s_qg (q_leq rfl rfl) rfl rfl rfl ?_
            refine g_litb 102 (b := true) rfl (by rw [hye]; exact decide_eq_true hm2.2) ?_
            refine s_qg (q_pick_t rfl rfl) rfl rfl rfl ?_
            refine s_qg (q_pick_f rfl rfl) rfl rfl rfl ?_
            refine s_q (q_pick_t rfl rfl) rfl ?_
            refine s_q (q_assign rfl) rfl ?_
            refine g_nil ?_
            refine g_then ?_
            refine g_ret ?_
            exact fin1 rfl (.tmp rfl) (fun w' hw' => ⟨by first | rfl | (simp_all; done) | (simp_all; omega), hw'.upd⟩) _ (.inl rfl)

theorem main_deadlineRises (v0 : Value) (v1 : Value) (v2 : Value) (W : World) (a0 : Arg Try.prog W 24 v0) (a1 : Arg Try.prog W 35 v1) (a2 : Arg Try.prog W 26 v2) : Pur Try.prog 4 [v0, v1, v2] W (.bool true) := by
  obtain ⟨cs, rfl, f, h⟩ := Arg.agg Try.underlying24 a0
  obtain ⟨x, rfl, k_x⟩ := openX f cs h
  obtain ⟨cs, rfl, f, h⟩ := Arg.arr Try.underlying35 a1
  obtain ⟨f, hl, h⟩ := OKc.array Try.underlying35 h
  have hT : Try.prog.cellsOf 35 = 4 := by kernel_rfl
  have hE : Try.prog.cellsOf 34 = 1 := by kernel_rfl
  rw [hT] at hl
  obtain ⟨c0, c1, c2, c3, rfl⟩ : ∃ c0 c1 c2 c3 : Value, cs = [c0, c1, c2, c3] := by
    match cs, hl with
    | [c0, c1, c2, c3], _ => exact ⟨_, _, _, _, rfl⟩
  have g0 := h 0 (by omega)
  have g1 := h 1 (by omega)
  have g2 := h 2 (by omega)
  have g3 := h 3 (by omega)
  rw [hE] at g0 g1 g2 g3
  obtain ⟨m0, e0, r0⟩ := OKc.int Try.underlying34 g0
  obtain rfl : c0 = _ := by simpa using e0
  obtain ⟨m1, e1, r1⟩ := OKc.int Try.underlying34 g1
  obtain rfl : c1 = _ := by simpa using e1
  obtain ⟨m2, e2, r2⟩ := OKc.int Try.underlying34 g2
  obtain rfl : c2 = _ := by simpa using e2
  obtain ⟨m3, e3, r3⟩ := OKc.int Try.underlying34 g3
  obtain rfl : c3 = _ := by simpa using e3
  obtain ⟨cs, rfl, f, h⟩ := Arg.agg Try.underlying26 a2
  obtain ⟨c, rfl, k_c⟩ := openC f cs h
  exact law_deadlineRises x m0 m1 m2 m3 c W k_x r0 r1 r2 r3 k_c

namespace LawDeadlineRises
open Go.ChangeShapes Go.WideShapes Go.ChangeAt Go.RowKit Go.Eg
set_option linter.unusedVariables false
theorem own : ownKnob Try.prog.godebug = none := by kernel_rfl
theorem laidOut : laidOutB Try.prog = true := by kernel_rfl
set_option maxRecDepth 100000 in
theorem lifted (os : Os) (started : os.Started) (H : Type) (enc : TypeId × Value → H) :
    ReturnsInHanded {} Try.checked os 4 .any (Rows.deadlineRisesSpec.pre6 enc Try.prog Try.f4 Rows.deadlineRisesRow.domain false) (Rows.deadlineRisesSpec.post enc Try.prog Try.f4 false true false false) := by
  refine returnsInHanded_of_change (C := Try.checked) own started (by kernel_rfl) Try.func4
    (ChangeSpec.witness6 (enc := enc) (C := Try.checked) false ⟨#[], #[.agg #[.int .i64 0, .int .u64 0, .int .u64 0], .agg #[.int .u32 0, .int .u32 0, .int .u32 0, .int .u32 0], .agg #[.int .i64 0, .int .i64 0, .int .u64 0, .int .u64 0, .int .u64 0, .int .u64 0, .int .u64 0, .int .u64 0, .int .u64 0, .int .u64 0, .int .i64 0, .int .i64 0, .int .i64 0, .int .i64 0, .int .i64 0, .int .i64 0, .int .i64 0, .int .i64 0, .int .u64 0, .int .u64 0]], []⟩ 8 (by kernel_rfl) (by kernel_rfl) (by kernel_rfl) (by kernel_rfl)) ?_
  intro W base args ds gs before hval0 hW hcnd _
  have hval : ∀ (j : Nat) t v, Try.f4.params[j]? = some t → args[j]? = some v → Value.okWide Try.prog W .any base t v := hval0
  have hW' := hW
  obtain ⟨p, q, hA0, hV, rfl, hfz, hnd⟩ := hW
  have hA : DataW.TrodAll enc Try.prog W 0 (fun _ => true) true Try.f4.params.toList args.toList ds p := hA0
  rw [Try.params4] at hA hval
  obtain ⟨v0, vs0, d0, ds0, p0, q0, hargs, rfl, rfl, h0, r0⟩ := trodAll_cons hA
  obtain ⟨v1, vs1, d1, ds1, p1, q1, rfl, rfl, rfl, h1, r1⟩ := trodAll_cons r0
  obtain ⟨v2, vs2, d2, ds2, p2, q2, rfl, rfl, rfl, h2, r2⟩ := trodAll_cons r1
  obtain ⟨rfl, rfl, rfl⟩ := trodAll_nil r2
  obtain rfl : args = #[v0, v1, v2] := by cases args; simp_all
  obtain ⟨rfl, rfl⟩ := trodVars_none hV
  have a0 := Arg.of h0 (hval 0 24 v0 rfl rfl)
  have lt0 : ∀ x ∈ p0, x.block < W.heap.size := by obtain ⟨m, hm⟩ := h0; exact DataW.trod_lt m _ _ _ hm
  have a1 := Arg.of h1 (hval 1 35 v1 rfl rfl)
  have lt1 : ∀ x ∈ p1, x.block < W.heap.size := by obtain ⟨m, hm⟩ := h1; exact DataW.trod_lt m _ _ _ hm
  have a2 := Arg.of h2 (hval 2 26 v2 rfl rfl)
  have lt2 : ∀ x ∈ p2, x.block < W.heap.size := by obtain ⟨m, hm⟩ := h2; exact DataW.trod_lt m _ _ _ hm
  clear hA0 hval0
  simp only [List.append_nil] at hW'
  refine Calls.mono (main_deadlineRises v0 v1 v2 W a0 a1 a2) ?_
  rintro e W' ⟨v, rfl, rfl, hu⟩
  have bel := hu.below
  have targ := (trodAll_cons_mk (Below.trod laidOut (by kernel_rfl) (of_decide_eq_true (by kernel_rfl)) h0 bel lt0) (trodAll_cons_mk (Below.trod laidOut (by kernel_rfl) (of_decide_eq_true (by kernel_rfl)) h1 bel lt1) (trodAll_cons_mk (Below.trod laidOut (by kernel_rfl) (of_decide_eq_true (by kernel_rfl)) h2 bel lt2) trodAll_mk0)))
  simp only [List.append_nil] at targ
  exact ⟨_, rfl, _, _, _, [], _, [], hW', trodAll_mk1 (shut_bool Try.underlying4 _), targ, rfl, bel.frame _, fun h => by cases h⟩
theorem over : Rows.deadlineRisesRow.holds Try.pinned (OpenSpec.ofChange Rows.deadlineRisesSpec) :=
  OpenClaim.holds_of_wide 4 Try.f4 rfl rfl rfl rfl rfl rfl rfl ⟨rfl, rfl, rfl, rfl, rfl⟩ rfl rfl rfl rfl rfl (by kernel_rfl) Try.func4 (by kernel_rfl)
    (of_decide_eq_true (by kernel_rfl)) (by unfold Func.isWrapper; first | (rw [if_pos (by decide +kernel)]; kernel_rfl) | (rw [if_neg (by decide +kernel)]; exact ⟨rfl, rfl⟩))
    (fun os started H enc _ => lifted os started H enc)
theorem proved : Rows.DeadlineRisesSaid := over
end LawDeadlineRises
end Go.Proofs.Ythdkbocfkbnpaaa
