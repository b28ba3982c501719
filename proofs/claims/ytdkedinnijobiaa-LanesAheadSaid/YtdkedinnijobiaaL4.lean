/- LanesAhead: for every size, list of operations and class the law returns true. No condition. -/
import Derived.Test.YtdkedinnijobiaaW6
namespace Go.Proofs.Ytdkedinnijobiaa
open Go.RowKit Go.Eg
set_option synthInstance.maxSize 3000
set_option linter.unusedSimpArgs false
set_option linter.unusedVariables false
def AInv (c : Int) (bef : List Int) (j : Nat) (q : LL) : Prop := aheadL c q = bef.drop j ++ [-77] ∧ (c = 1 → 0 < q.v.length)
theorem ainv_init {sz : Nat} {c : Int} {q : LL} (hc : c = 0 ∨ c = 1) (h : pushE sz c q = 0) : AInv c (aheadL c q) 0 (pushL sz c (-77) q) := by
  rcases hc with rfl | rfl
  · have h1 : q.f.length < sz := by
      by_cases h1 : q.f.length < sz
      · exact h1
      · simp [pushE, h1] at h
    refine ⟨by simp [aheadL, pushL, h1], by simp⟩
  · have h1 : q.v.length < sz := by
      by_cases h1 : q.v.length < sz
      · exact h1
      · simp [pushE, h1] at h
    refine ⟨by simp [aheadL, pushL, h1], fun _ => by simp [pushL, h1]⟩
theorem ainv_step {c : Int} {bef : List Int} {j : Nat} {q : LL} (hc : c = 0 ∨ c = 1) (h : AInv c bef j q) (hj : j < bef.length) : headB q = true ∧ headI q = bef[j] ∧ AInv c bef (j + 1) (popL q) := by
  obtain ⟨h1, h2⟩ := h
  rw [List.drop_eq_getElem_cons hj] at h1
  obtain ⟨f, v⟩ := q
  rcases hc with rfl | rfl
  · simp only [aheadL, if_true] at h1
    cases f with
    | nil => simp at h1
    | cons x r =>
      simp only [List.cons_append, List.cons.injEq] at h1
      exact ⟨rfl, h1.1, by simpa [popL, aheadL] using h1.2, by simp⟩
  · have e : aheadL 1 ⟨f, v⟩ = f ++ v := by simp [aheadL]
    rw [e] at h1
    cases f with
    | nil =>
      cases v with
      | nil => simp at h1
      | cons x r =>
        simp only [List.nil_append, List.cons_append, List.cons.injEq] at h1
        refine ⟨rfl, h1.1, by simpa [popL, aheadL] using h1.2, fun _ => ?_⟩
        simp [popL, h1.2]
    | cons x r =>
      simp only [List.cons_append, List.cons.injEq] at h1
      refine ⟨rfl, h1.1, by simpa [popL, aheadL] using h1.2, fun _ => ?_⟩
      have := h2 rfl
      simpa [popL] using this
theorem ainv_end {c : Int} {bef : List Int} {q : LL} (hc : c = 0 ∨ c = 1) (h : AInv c bef bef.length q) : headB q = true ∧ headI q = -77 ∧ headC q = c := by
  obtain ⟨h1, h2⟩ := h
  obtain ⟨f, v⟩ := q
  simp only [List.drop_length, List.nil_append] at h1
  rcases hc with rfl | rfl
  · simp only [aheadL, if_true] at h1
    subst h1
    exact ⟨rfl, rfl, rfl⟩
  · have e : aheadL 1 ⟨f, v⟩ = f ++ v := by simp [aheadL]
    rw [e] at h1
    have h3 := h2 rfl
    cases f with
    | nil => simp only [List.nil_append] at h1; subst h1; exact ⟨rfl, rfl, rfl⟩
    | cons x r => simp at h1; simp [h1.2] at h3
theorem push_noop {sz : Nat} {c : Int} (i : Int) {q : LL} (h : ¬ pushE sz c q = 0) : pushL sz c i q = q := by
  by_cases e0 : c = 0
  · subst e0
    by_cases h1 : q.f.length < sz
    · simp [pushE, h1] at h
    · simp [pushL, h1]
  · by_cases e1 : c = 1
    · subst e1
      by_cases h1 : q.v.length < sz
      · simp [pushE, h1] at h
      · simp [pushL, h1]
    · simp [pushL, e0, e1]
theorem free_of {sz : Nat} {c : Int} {q : LL} (hc : c = 0 ∨ c = 1) (h : ¬ pushE sz c q = 0) : freeL sz c q = 0 := by
  rcases hc with rfl | rfl
  · by_cases h1 : q.f.length < sz
    · simp [pushE, h1] at h
    · simp [freeL]; omega
  · by_cases h1 : q.v.length < sz
    · simp [pushE, h1] at h
    · simp [freeL]; omega

set_option maxHeartbeats 400000 in
theorem law_lanesAhead (n : Nat) (A_l : Option Addr) (c_l : Nat) (l : List O) (cl : Nat) (w : World) (h_n : n < 256) (o_l : Old w A_l l.length 3 (l.map O.c)) (h_l : l.length ≤ c_l ∧ c_l ≤ 9223372036854775807) (k_l : ∀ x ∈ l, (fun x : O => True) x) (h_cl : cl < 256) : Pur Try.prog 5 [.int .u8 ((n : Nat) : Int), .slice A_l l.length c_l, .int .u8 ((cl : Nat) : Int)] w (.bool true) := by
  refine g_start Try.func5 rfl 103 rfl (by simp) ([]) [] (WOK.start _ _) _ rfl ?_
  have hcc : (((cl % 2) : Nat) : Int) = 0 ∨ (((cl % 2) : Nat) : Int) = 1 := by omega
  refine g_seq ?_
  refine g_region ?_
  refine s_q (q_assign rfl) rfl ?_
  refine g_nil ?_
  refine g_then ?_
  refine g_seq ?_
  refine g_region ?_
  refine s_q (q_move rfl) rfl ?_
  refine s_q (q_convz (z := ((n : Nat) : Int)) rfl (wi64 (by omega) (by omega))) rfl ?_
  refine s_q (q_inc rfl rfl (by omega)) rfl ?_
  refine g_op (g_ownS [] rfl (fun w1 hw1 ho1 => by have h7 := lnew_any ((n + 1)) w1 (by omega); exact h7) rfl ?_)
  rintro ⟨b23, ba23, bb23, g23, gg23⟩ ⟨r23, s23, rr23, ss23⟩
  refine ⟨_, _, inferInstance, inferInstance, ?_⟩
  simp only at r23 s23 rr23 ss23
  refine s_q (q_assign rfl) rfl ?_
  refine g_nil ?_
  refine g_then ?_
  refine g_seq ?_
  refine g_seq ?_
  refine g_region ?_
  refine s_q (q_move rfl) rfl ?_
  refine s_q (q_eqp (b := false) rfl rfl rfl) rfl ?_
  refine g_nil ?_
  refine g_then ?_
  refine g_false rfl ?_
  refine g_skip ?_
  refine g_then ?_
  refine g_seq ?_
  refine g_seq ?_
  refine g_region ?_
  refine s_q (q_move rfl) rfl ?_
  refine s_q (q_len rfl) rfl ?_
  refine s_q (q_gtr rfl rfl) rfl ?_
  refine g_nil ?_
  refine g_then ?_
  refine g_cond rfl (fun h1 => ?_) (fun h1 => ?_)
  · refine g_seq ?_
    refine g_region ?_
    refine g_op (g_pure rfl (fun w1 hw1 => alive_any w1) rfl ?_)
    refine s_q (q_assign rfl) rfl ?_
    refine g_nil ?_
    refine g_then ?_
    refine g_ret ?_
    refine g_then_ret ?_
    exact fin1 rfl (.tmp rfl) (fun w' hw' => ⟨by first | rfl | (simp_all; done) | (simp_all; omega), hw'.upd⟩) _ (.inl rfl)
  · refine g_skip ?_
    refine g_then ?_
    refine g_seq ?_
    refine g_seq ?_
    refine g_region ?_
    refine s_q (q_move rfl) rfl ?_
    refine s_q (q_len rfl) rfl ?_
    refine s_q (q_move rfl) rfl ?_
    refine g_nil ?_
    refine g_then ?_
    refine g_block ?_
    refine g_loopk [2, 6, 7, 30, 31] (fun (x : Nat × Rg × Rg × LL) => [(32, .int .i64 ((x.1 : Nat) : Int))]) (fun (x : Nat × Rg × Rg × LL) => [Res.blk b23 52 [Value.pointer (some ⟨ba23, 0, none⟩), Value.pointer (some ⟨bb23, 0, none⟩)], Res.blk ba23 64 (Rg.c x.2.1), Res.row (Rg.A x.2.1) (Rg.s x.2.1).length (Rg.cap x.2.1) 3 1 (Rg.s x.2.1), Res.blk bb23 64 (Rg.c x.2.2.1), Res.row (Rg.A x.2.2.1) (Rg.s x.2.2.1).length (Rg.cap x.2.2.1) 3 1 (Rg.s x.2.2.1)]) (fun (x : Nat × Rg × Rg × LL) => x.1 ≤ l.length ∧ Rg.Rep x.2.1 1 ((x.2.2.2).f.map (fun v : Int => [Value.int .i64 v])) ∧ Rg.Rep x.2.2.1 1 ((x.2.2.2).v.map (fun v : Int => [Value.int .i64 v])) ∧ Rg.size x.2.1 = (n + 1) ∧ Rg.size x.2.2.1 = (n + 1)) (fun (x : Nat × Rg × Rg × LL) => l.length - x.1) (0, g23, gg23, (LL.mk [] [])) (by (try dsimp only); exact ⟨Nat.zero_le _, r23, rr23, s23, ss23⟩) rfl (by repeat (first | exact trivial | refine ⟨rfl, ?_⟩)) wok_sub ?_
    rintro ⟨k, g1, g2, q⟩ ⟨le_k, h0, hh1, s0, ss1⟩
    replace le_k : k ≤ l.length := le_k
    replace h0 : Rg.Rep g1 1 ((q).f.map (fun v : Int => [Value.int .i64 v])) := h0
    replace hh1 : Rg.Rep g2 1 ((q).v.map (fun v : Int => [Value.int .i64 v])) := hh1
    replace s0 : Rg.size g1 = (n + 1) := s0
    replace ss1 : Rg.size g2 = (n + 1) := ss1
    refine g_setL (L' := [Res.blk b23 52 [Value.pointer (some ⟨ba23, 0, none⟩), Value.pointer (some ⟨bb23, 0, none⟩)], Res.blk ba23 64 (Rg.c g1), Res.row (Rg.A g1) (Rg.s g1).length (Rg.cap g1) 3 1 (Rg.s g1), Res.blk bb23 64 (Rg.c g2), Res.row (Rg.A g2) (Rg.s g2).length (Rg.cap g2) 3 1 (Rg.s g2)]) rfl ?_
    refine g_val 32 (v' := .int .i64 ((k : Nat) : Int)) rfl rfl ?_
    have e0 := h0.num; have e1 := hh1.num; have e2 := h0.sz; have e3 := hh1.sz; have e4 := h0.le; have e5 := hh1.le
    refine g_seq ?_
    refine g_region ?_
    refine s_q (q_lss rfl rfl) rfl ?_
    refine g_nil ?_
    refine g_then ?_
    refine g_seq ?_
    refine g_cond rfl (fun h2 => ?_) (fun h2 => ?_)
    · have lt_k : k < l.length := by have h9 := of_decide_eq_true h2; omega
      refine g_skip ?_
      refine g_then ?_
      refine g_seq ?_
      refine g_block ?_
      refine g_seq ?_
      refine g_region ?_
      refine s_q (q_index (i := k) rfl rfl rfl (o_l.rdb rfl) (by first | exact lt_k | omega)) rfl ?_
      refine s_q (q_load_ew (i := k) rfl (o_l.rdb rfl) (map_get (by first | assumption | omega)) rfl) rfl ?_
      refine g_op (g_alloc rfl fun b9 => ?_)
      refine g_op (g_storew rfl rfl rfl rfl rfl ?_)
      refine g_nil ?_
      refine g_then ?_
      refine g_seq ?_
      refine g_region ?_
      refine s_q (q_field rfl) rfl ?_
      refine s_q (q_load rfl rfl) rfl ?_
      refine g_nil ?_
      refine g_then ?_
      refine g_cond rfl (fun h3 => ?_) (fun h3 => ?_)
      · refine g_region ?_
        refine s_q (q_move rfl) rfl ?_
        refine g_op (g_ownS [Res.blk b23 52 [Value.pointer (some ⟨ba23, 0, none⟩), Value.pointer (some ⟨bb23, 0, none⟩)], Res.blk ba23 64 (Rg.c g1), Res.row (Rg.A g1) (Rg.s g1).length (Rg.cap g1) 3 1 (Rg.s g1), Res.blk bb23 64 (Rg.c g2), Res.row (Rg.A g2) (Rg.s g2).length (Rg.cap g2) 3 1 (Rg.s g2)] rfl (fun w1 hw1 ho1 => by have h7 := pop_any b23 ba23 bb23 g1 g2 q ((n + 1)) w1 ho1 h0 hh1 s0 ss1 (by omega); exact h7) rfl ?_)
        rintro ⟨g39, gg39⟩ ⟨r39, rr39, s39, ss39⟩
        refine ⟨_, _, inferInstance, inferInstance, ?_⟩
        simp only at r39 rr39 s39 ss39
        refine g_nil ?_
        refine g_blk_n ?_
        refine g_then ?_
        refine g_region ?_
        refine s_q (q_inc rfl rfl (by omega)) rfl ?_
        refine s_q (q_move rfl) rfl ?_
        refine g_nil ?_
        exact g_again ((k + 1), g39, gg39, (popL q)) (by (try dsimp only); exact ⟨(by first | exact lt_k | omega), r39, rr39, s39, ss39⟩) (by first | omega | (simp only; omega)) (by repeat (first | exact trivial | refine ⟨rfl, ?_⟩)) wok_sub
      · refine g_region ?_
        refine s_q (q_move rfl) rfl ?_
        refine s_q (q_field rfl) rfl ?_
        refine s_q (q_load rfl rfl) rfl ?_
        refine s_q (q_field rfl) rfl ?_
        refine s_q (q_load rfl rfl) rfl ?_
        refine g_op (g_ownS [Res.blk b23 52 [Value.pointer (some ⟨ba23, 0, none⟩), Value.pointer (some ⟨bb23, 0, none⟩)], Res.blk ba23 64 (Rg.c g1), Res.row (Rg.A g1) (Rg.s g1).length (Rg.cap g1) 3 1 (Rg.s g1), Res.blk bb23 64 (Rg.c g2), Res.row (Rg.A g2) (Rg.s g2).length (Rg.cap g2) 3 1 (Rg.s g2)] rfl (fun w1 hw1 ho1 => by have h7 := lpush_any b23 ba23 bb23 g1 g2 q ((n + 1)) ((l[k]'lt_k).cls) ((l[k]'lt_k).i) w1 ho1 h0 hh1 s0 ss1 (by omega); exact h7) rfl ?_)
        rintro ⟨g45, gg45⟩ ⟨r45, rr45, s45, ss45⟩
        refine ⟨_, _, inferInstance, inferInstance, ?_⟩
        simp only at r45 rr45 s45 ss45
        refine g_nil ?_
        refine g_blk_n ?_
        refine g_then ?_
        refine g_region ?_
        refine s_q (q_inc rfl rfl (by omega)) rfl ?_
        refine s_q (q_move rfl) rfl ?_
        refine g_nil ?_
        exact g_again ((k + 1), g45, gg45, (pushL ((n + 1)) ((l[k]'lt_k).cls) ((l[k]'lt_k).i) q)) (by (try dsimp only); exact ⟨(by first | exact lt_k | omega), r45, rr45, s45, ss45⟩) (by first | omega | (simp only; omega)) (by repeat (first | exact trivial | refine ⟨rfl, ?_⟩)) wok_sub
    · have eq_k : k = l.length := by have h9 := of_decide_eq_false h2; omega
      have e0 := h0.num; have e1 := hh1.num; have e2 := h0.sz; have e3 := hh1.sz; have e4 := h0.le; have e5 := hh1.le
      refine g_exit ?_
      refine g_then_x (g_then_x (g_blk_hit ?_))
      refine g_then ?_
      refine g_seq ?_
      refine g_region ?_
      refine s_q (q_move rfl) rfl ?_
      refine s_q (q_convz (z := ((cl : Nat) : Int)) rfl (wi64 (by omega) (by omega))) rfl ?_
      refine s_q (q_remn (a := cl) (b := 2) rfl rfl (by first | omega | (simp; omega) | (simp_all; omega))) rfl ?_
      refine s_q (q_assign rfl) rfl ?_
      refine g_nil ?_
      refine g_then ?_
      refine g_seq ?_
      refine g_region ?_
      refine s_q (q_move rfl) rfl ?_
      refine s_q (q_move rfl) rfl ?_
      refine g_op (g_ownS [Res.blk b23 52 [Value.pointer (some ⟨ba23, 0, none⟩), Value.pointer (some ⟨bb23, 0, none⟩)], Res.blk ba23 64 (Rg.c g1), Res.row (Rg.A g1) (Rg.s g1).length (Rg.cap g1) 3 1 (Rg.s g1), Res.blk bb23 64 (Rg.c g2), Res.row (Rg.A g2) (Rg.s g2).length (Rg.cap g2) 3 1 (Rg.s g2)] rfl (fun w1 hw1 ho1 => by have h7 := lahead_any b23 ba23 bb23 g1 g2 q ((n + 1)) ((((cl % 2) : Nat) : Int)) w1 ho1 h0 hh1 s0 ss1 (by omega); exact h7) rfl ?_)
      rintro ⟨A52, cap52⟩ _
      refine ⟨_, _, inferInstance, inferInstance, ?_⟩
      refine s_q (q_assign rfl) rfl ?_
      refine g_nil ?_
      refine g_then ?_
      refine g_seq ?_
      refine g_seq ?_
      refine g_region ?_
      refine s_q (q_move rfl) rfl ?_
      refine s_q (q_move rfl) rfl ?_
      refine g_op (g_ownS [Res.blk b23 52 [Value.pointer (some ⟨ba23, 0, none⟩), Value.pointer (some ⟨bb23, 0, none⟩)], Res.blk ba23 64 (Rg.c g1), Res.row (Rg.A g1) (Rg.s g1).length (Rg.cap g1) 3 1 (Rg.s g1), Res.blk bb23 64 (Rg.c g2), Res.row (Rg.A g2) (Rg.s g2).length (Rg.cap g2) 3 1 (Rg.s g2)] rfl (fun w1 hw1 ho1 => by have h7 := lpush_any b23 ba23 bb23 g1 g2 q ((n + 1)) ((((cl % 2) : Nat) : Int)) ((-77)) w1 ho1 h0 hh1 s0 ss1 (by omega); exact h7) rfl ?_)
      rintro ⟨g55, gg55⟩ ⟨r55, rr55, s55, ss55⟩
      refine ⟨_, _, inferInstance, inferInstance, ?_⟩
      simp only at r55 rr55 s55 ss55
      refine s_q (q_neq rfl rfl) rfl ?_
      refine g_nil ?_
      refine g_then ?_
      refine g_cond rfl (fun h4 => ?_) (fun h4 => ?_)
      · have hpe : ¬ pushE ((n + 1)) ((((cl % 2) : Nat) : Int)) q = 0 := by simpa using h4
        refine g_seq ?_
        refine g_region ?_
        refine g_op (g_pure rfl (fun w1 hw1 => alive_any w1) rfl ?_)
        refine s_q (q_move rfl) rfl ?_
        refine s_qg (q_move rfl) rfl rfl rfl ?_
        refine s_qg (q_move rfl) rfl rfl rfl ?_
        refine g_gt rfl rfl (g_keep [Res.blk b23 52 [Value.pointer (some ⟨ba23, 0, none⟩), Value.pointer (some ⟨bb23, 0, none⟩)], Res.blk ba23 64 (Rg.c g55), Res.row (Rg.A g55) (Rg.s g55).length (Rg.cap g55) 3 1 (Rg.s g55), Res.blk bb23 64 (Rg.c gg55), Res.row (Rg.A gg55) (Rg.s gg55).length (Rg.cap gg55) 3 1 (Rg.s gg55)] rfl (fun w1 hw1 ho1 => by exact lfree_any b23 ba23 bb23 g55 gg55 (pushL ((n + 1)) ((((cl % 2) : Nat) : Int)) ((-77)) q) ((n + 1)) ((((cl % 2) : Nat) : Int)) w1 ho1 r55 rr55 s55 ss55 (by omega)) rfl ?_)
        refine s_qg (q_eql rfl rfl) rfl rfl rfl ?_
        refine g_litb 62 (b := true) rfl (by rw [push_noop _ hpe, free_of hcc hpe]; decide) ?_
        refine s_q (q_pick_t rfl rfl) rfl ?_
        refine s_q (q_assign rfl) rfl ?_
        refine g_nil ?_
        refine g_then ?_
        refine g_ret ?_
        refine g_then_ret ?_
        exact fin1 rfl (.tmp rfl) (fun w' hw' => ⟨by first | rfl | (simp_all; done) | (simp_all; omega), hw'.upd⟩) _ (.inl rfl)
      · have hpe : pushE ((n + 1)) ((((cl % 2) : Nat) : Int)) q = 0 := by simpa using h4
        have e9 : (aheadL ((((cl % 2) : Nat) : Int)) q).length ≤ 100000 := by rcases hcc with h | h <;> rw [h] <;> simp [aheadL] <;> omega
        refine g_skip ?_
        refine g_then ?_
        refine g_seq ?_
        refine g_seq ?_
        refine g_region ?_
        refine s_q (q_move rfl) rfl ?_
        refine s_q (q_len rfl) rfl ?_
        refine s_q (q_move rfl) rfl ?_
        refine g_nil ?_
        refine g_then ?_
        refine g_block ?_
        refine g_loopk [6, 7, 10, 64, 65] (fun (x : Nat × Rg × Rg × LL) => [(66, .int .i64 ((x.1 : Nat) : Int))]) (fun (x : Nat × Rg × Rg × LL) => [Res.row A52 (aheadL ((((cl % 2) : Nat) : Int)) q).length cap52 3 1 ((aheadL ((((cl % 2) : Nat) : Int)) q).map (fun v : Int => [Value.int .i64 v])), Res.blk b23 52 [Value.pointer (some ⟨ba23, 0, none⟩), Value.pointer (some ⟨bb23, 0, none⟩)], Res.blk ba23 64 (Rg.c x.2.1), Res.row (Rg.A x.2.1) (Rg.s x.2.1).length (Rg.cap x.2.1) 3 1 (Rg.s x.2.1), Res.blk bb23 64 (Rg.c x.2.2.1), Res.row (Rg.A x.2.2.1) (Rg.s x.2.2.1).length (Rg.cap x.2.2.1) 3 1 (Rg.s x.2.2.1)]) (fun (x : Nat × Rg × Rg × LL) => x.1 ≤ (aheadL ((((cl % 2) : Nat) : Int)) q).length ∧ Rg.Rep x.2.1 1 ((x.2.2.2).f.map (fun v : Int => [Value.int .i64 v])) ∧ Rg.Rep x.2.2.1 1 ((x.2.2.2).v.map (fun v : Int => [Value.int .i64 v])) ∧ Rg.size x.2.1 = (n + 1) ∧ Rg.size x.2.2.1 = (n + 1) ∧ AInv (((cl % 2) : Nat) : Int) (aheadL ((((cl % 2) : Nat) : Int)) q) x.1 x.2.2.2) (fun (x : Nat × Rg × Rg × LL) => (aheadL ((((cl % 2) : Nat) : Int)) q).length - x.1) (0, g55, gg55, (pushL ((n + 1)) ((((cl % 2) : Nat) : Int)) ((-77)) q)) (by (try dsimp only); exact ⟨Nat.zero_le _, r55, rr55, s55, ss55, (ainv_init hcc hpe)⟩) rfl (by repeat (first | exact trivial | refine ⟨rfl, ?_⟩)) wok_sub ?_
        rintro ⟨j, g3, g4, qq⟩ ⟨le_j, h3, h4, s3, s4, hi⟩
        replace le_j : j ≤ (aheadL ((((cl % 2) : Nat) : Int)) q).length := le_j
        replace h3 : Rg.Rep g3 1 ((qq).f.map (fun v : Int => [Value.int .i64 v])) := h3
        replace h4 : Rg.Rep g4 1 ((qq).v.map (fun v : Int => [Value.int .i64 v])) := h4
        replace s3 : Rg.size g3 = (n + 1) := s3
        replace s4 : Rg.size g4 = (n + 1) := s4
        replace hi : AInv (((cl % 2) : Nat) : Int) (aheadL ((((cl % 2) : Nat) : Int)) q) j qq := hi
        refine g_setL (L' := [Res.row A52 (aheadL ((((cl % 2) : Nat) : Int)) q).length cap52 3 1 ((aheadL ((((cl % 2) : Nat) : Int)) q).map (fun v : Int => [Value.int .i64 v])), Res.blk b23 52 [Value.pointer (some ⟨ba23, 0, none⟩), Value.pointer (some ⟨bb23, 0, none⟩)], Res.blk ba23 64 (Rg.c g3), Res.row (Rg.A g3) (Rg.s g3).length (Rg.cap g3) 3 1 (Rg.s g3), Res.blk bb23 64 (Rg.c g4), Res.row (Rg.A g4) (Rg.s g4).length (Rg.cap g4) 3 1 (Rg.s g4)]) rfl ?_
        refine g_val 66 (v' := .int .i64 ((j : Nat) : Int)) rfl rfl ?_
        refine g_seq ?_
        refine g_region ?_
        refine s_q (q_lss rfl rfl) rfl ?_
        refine g_nil ?_
        refine g_then ?_
        refine g_seq ?_
        refine g_cond rfl (fun h5 => ?_) (fun h5 => ?_)
        · have lt_j : j < (aheadL ((((cl % 2) : Nat) : Int)) q).length := by have h9 := of_decide_eq_true h5; omega
          refine g_skip ?_
          refine g_then ?_
          refine g_seq ?_
          refine g_block ?_
          refine g_seq ?_
          refine g_region ?_
          have st := ainv_step hcc hi lt_j
          refine s_q (q_index (i := j) rfl rfl rfl (InRow.rdb (A := A52) (els := ((aheadL ((((cl % 2) : Nat) : Int)) q)).map (fun v : Int => [Value.int .i64 v])) (by first | rfl | assumption | (simp; done) | (simp_all; done) | (simp; omega) | (simp_all; omega)) (map_cat (c := (fun v : Int => [Value.int .i64 v])) (fun _ => rfl) _)) (by first | exact lt_j | omega)) rfl ?_
          refine s_q (q_load_el (i := j) (o := 0) rfl (InRow.rdb (A := A52) (els := ((aheadL ((((cl % 2) : Nat) : Int)) q)).map (fun v : Int => [Value.int .i64 v])) (by first | rfl | assumption | (simp; done) | (simp_all; done) | (simp; omega) | (simp_all; omega)) (map_cat (c := (fun v : Int => [Value.int .i64 v])) (fun _ => rfl) _)) (map_get (by first | assumption | omega | (simp_all; done) | (simp_all; omega))) rfl rfl) rfl ?_
          refine s_q (q_assign rfl) rfl ?_
          refine g_nil ?_
          refine g_then ?_
          refine g_seq ?_
          refine g_region ?_
          refine s_q (q_move rfl) rfl ?_
          refine g_op (g_ownS [Res.blk b23 52 [Value.pointer (some ⟨ba23, 0, none⟩), Value.pointer (some ⟨bb23, 0, none⟩)], Res.blk ba23 64 (Rg.c g3), Res.row (Rg.A g3) (Rg.s g3).length (Rg.cap g3) 3 1 (Rg.s g3), Res.blk bb23 64 (Rg.c g4), Res.row (Rg.A g4) (Rg.s g4).length (Rg.cap g4) 3 1 (Rg.s g4)] rfl (fun w1 hw1 ho1 => by have h7 := pop_any b23 ba23 bb23 g3 g4 qq ((n + 1)) w1 ho1 h3 h4 s3 s4 (by omega); exact h7) rfl ?_)
          rintro ⟨g72, gg72⟩ ⟨r72, rr72, s72, ss72⟩
          refine ⟨_, _, inferInstance, inferInstance, ?_⟩
          simp only at r72 rr72 s72 ss72
          refine s_q (q_move rfl) rfl ?_
          refine s_q (q_extract rfl rfl) rfl ?_
          refine s_q (q_extract rfl rfl) rfl ?_
          refine s_q (q_extract rfl rfl) rfl ?_
          refine s_q (q_assign rfl) rfl ?_
          refine s_q (q_assign rfl) rfl ?_
          refine s_q (q_assign rfl) rfl ?_
          refine g_litb 16 (b := true) rfl (st.1) ?_
          refine g_nil ?_
          refine g_then ?_
          refine g_seq ?_
          refine g_region ?_
          refine s_q (q_move rfl) rfl ?_
          refine s_q (q_not rfl) rfl ?_
          refine s_q (q_move rfl) rfl ?_
          refine s_qg (q_move rfl) rfl rfl rfl ?_
          refine s_qg (q_move rfl) rfl rfl rfl ?_
          refine s_qg (q_neq rfl rfl) rfl rfl rfl ?_
          refine g_litb 81 (b := false) rfl (by simp [st.2.1]) ?_
          refine s_q (q_pick_f rfl rfl) rfl ?_
          refine g_nil ?_
          refine g_then ?_
          refine g_false rfl ?_
          refine g_skip ?_
          refine g_blk_n ?_
          refine g_then ?_
          refine g_region ?_
          refine s_q (q_inc rfl rfl (by omega)) rfl ?_
          refine s_q (q_move rfl) rfl ?_
          refine g_nil ?_
          exact g_again ((j + 1), g72, gg72, (popL qq)) (by (try dsimp only); exact ⟨(by first | exact lt_j | omega), r72, rr72, s72, ss72, st.2.2⟩) (by first | omega | (simp only; omega)) (by repeat (first | exact trivial | refine ⟨rfl, ?_⟩)) wok_sub
        · have eq_j : j = (aheadL ((((cl % 2) : Nat) : Int)) q).length := by have h9 := of_decide_eq_false h5; omega
          refine g_exit ?_
          refine g_then_x (g_then_x (g_blk_hit ?_))
          refine g_then ?_
          refine g_seq ?_
          refine g_region ?_
          have en := ainv_end hcc (by rw [eq_j] at hi; exact hi)
          refine s_q (q_move rfl) rfl ?_
          refine g_op (g_ownS [Res.blk b23 52 [Value.pointer (some ⟨ba23, 0, none⟩), Value.pointer (some ⟨bb23, 0, none⟩)], Res.blk ba23 64 (Rg.c g3), Res.row (Rg.A g3) (Rg.s g3).length (Rg.cap g3) 3 1 (Rg.s g3), Res.blk bb23 64 (Rg.c g4), Res.row (Rg.A g4) (Rg.s g4).length (Rg.cap g4) 3 1 (Rg.s g4)] rfl (fun w1 hw1 ho1 => by have h7 := pop_any b23 ba23 bb23 g3 g4 qq ((n + 1)) w1 ho1 h3 h4 s3 s4 (by omega); exact h7) rfl ?_)
          rintro ⟨g86, gg86⟩ ⟨r86, rr86, s86, ss86⟩
          refine ⟨_, _, inferInstance, inferInstance, ?_⟩
          simp only at r86 rr86 s86 ss86
          refine s_q (q_move rfl) rfl ?_
          refine s_q (q_extract rfl rfl) rfl ?_
          refine s_q (q_extract rfl rfl) rfl ?_
          refine s_q (q_extract rfl rfl) rfl ?_
          refine s_q (q_assign rfl) rfl ?_
          refine s_q (q_assign rfl) rfl ?_
          refine s_q (q_assign rfl) rfl ?_
          refine g_litb 19 (b := true) rfl (en.1) ?_
          refine g_nil ?_
          refine g_then ?_
          refine g_seq ?_
          refine g_region ?_
          refine g_op (g_pure rfl (fun w1 hw1 => alive_any w1) rfl ?_)
          refine s_q (q_move rfl) rfl ?_
          refine s_qg (q_move rfl) rfl rfl rfl ?_
          refine s_q (q_pick_t rfl rfl) rfl ?_
          refine s_q (q_move rfl) rfl ?_
          refine s_qg (q_move rfl) rfl rfl rfl ?_
          refine s_qg (q_eql rfl rfl) rfl rfl rfl ?_
          refine g_litb 96 (b := true) rfl (by simp [en.2.1]) ?_
          refine s_q (q_pick_t rfl rfl) rfl ?_
          refine s_q (q_move rfl) rfl ?_
          refine s_qg (q_move rfl) rfl rfl rfl ?_
          refine s_qg (q_move rfl) rfl rfl rfl ?_
          refine s_qg (q_eql rfl rfl) rfl rfl rfl ?_
          refine g_litb 101 (b := true) rfl (by simp [en.2.2]) ?_
          refine s_q (q_pick_t rfl rfl) rfl ?_
          refine s_q (q_assign rfl) rfl ?_
          refine g_nil ?_
          refine g_then ?_
          refine g_ret ?_
          exact fin1 rfl (.tmp rfl) (fun w' hw' => ⟨by first | rfl | (simp_all; done) | (simp_all; omega), hw'.upd⟩) _ (.inl rfl)

theorem main_lanesAhead (v0 : Value) (v1 : Value) (v2 : Value) (W : World) (a0 : Arg Try.prog W 5 v0) (a1 : Arg Try.prog W 22 v1) (a2 : Arg Try.prog W 5 v2) : Pur Try.prog 5 [v0, v1, v2] W (.bool true) := by
  obtain ⟨z0, rfl, hz0⟩ := Arg.int Try.underlying5 a0
  obtain ⟨n, rfl⟩ : ∃ q : Nat, z0 = q := ⟨z0.toNat, by have h0 : 0 ≤ z0 ∧ z0 ≤ 255 := hz0; omega⟩
  have h_n : n < 256 := by have h0 : 0 ≤ ((n : Nat) : Int) ∧ ((n : Nat) : Int) ≤ 255 := hz0; omega
  obtain ⟨A_l, c_l, l, rfl, hle1, hm1, o_l, k_l⟩ := Arg.slice O.c (fun x : O => True) Try.underlying22 (show Try.prog.cellsOf 27 = 3 by kernel_rfl) (by omega) (openO) a1
  have h_l : l.length ≤ c_l ∧ c_l ≤ 9223372036854775807 := ⟨hle1, by unfold maxLen at hm1; omega⟩
  obtain ⟨z2, rfl, hz2⟩ := Arg.int Try.underlying5 a2
  obtain ⟨cl, rfl⟩ : ∃ q : Nat, z2 = q := ⟨z2.toNat, by have h0 : 0 ≤ z2 ∧ z2 ≤ 255 := hz2; omega⟩
  have h_cl : cl < 256 := by have h0 : 0 ≤ ((cl : Nat) : Int) ∧ ((cl : Nat) : Int) ≤ 255 := hz2; omega
  exact law_lanesAhead n A_l c_l l cl W h_n o_l h_l k_l h_cl

namespace LawLanesAhead
open Go.ChangeShapes Go.WideShapes Go.ChangeAt Go.RowKit Go.Eg
set_option linter.unusedVariables false
theorem own : ownKnob Try.prog.godebug = none := by kernel_rfl
theorem laidOut : laidOutB Try.prog = true := by kernel_rfl
set_option maxRecDepth 100000 in
theorem lifted (os : Os) (started : os.Started) (H : Type) (enc : TypeId × Value → H) :
    ReturnsInHanded {} Try.checked os 5 .any (Rows.lanesAheadSpec.pre6 enc Try.prog Try.f5 Rows.lanesAheadRow.domain false) (Rows.lanesAheadSpec.post enc Try.prog Try.f5 false true false false) := by
  refine returnsInHanded_of_change (C := Try.checked) own started (by kernel_rfl) Try.func5
    (ChangeSpec.witness6 (enc := enc) (C := Try.checked) false ⟨#[], #[.int .u8 0, .slice none 0 0, .int .u8 0], []⟩ 8 (by kernel_rfl) (by kernel_rfl) (by kernel_rfl) (by kernel_rfl)) ?_
  intro W base args ds gs before hval0 hW hcnd _
  have hval : ∀ (j : Nat) t v, Try.f5.params[j]? = some t → args[j]? = some v → Value.okWide Try.prog W .any base t v := hval0
  have hW' := hW
  obtain ⟨p, q, hA0, hV, rfl, hfz, hnd⟩ := hW
  have hA : DataW.TrodAll enc Try.prog W 0 (fun _ => true) true Try.f5.params.toList args.toList ds p := hA0
  rw [Try.params5] at hA hval
  obtain ⟨v0, vs0, d0, ds0, p0, q0, hargs, rfl, rfl, h0, r0⟩ := trodAll_cons hA
  obtain ⟨v1, vs1, d1, ds1, p1, q1, rfl, rfl, rfl, h1, r1⟩ := trodAll_cons r0
  obtain ⟨v2, vs2, d2, ds2, p2, q2, rfl, rfl, rfl, h2, r2⟩ := trodAll_cons r1
  obtain ⟨rfl, rfl, rfl⟩ := trodAll_nil r2
  obtain rfl : args = #[v0, v1, v2] := by cases args; simp_all
  obtain ⟨rfl, rfl⟩ := trodVars_none hV
  have a0 := Arg.of h0 (hval 0 5 v0 rfl rfl)
  have lt0 : ∀ x ∈ p0, x.block < W.heap.size := by obtain ⟨m, hm⟩ := h0; exact DataW.trod_lt m _ _ _ hm
  have a1 := Arg.of h1 (hval 1 22 v1 rfl rfl)
  have lt1 : ∀ x ∈ p1, x.block < W.heap.size := by obtain ⟨m, hm⟩ := h1; exact DataW.trod_lt m _ _ _ hm
  have a2 := Arg.of h2 (hval 2 5 v2 rfl rfl)
  have lt2 : ∀ x ∈ p2, x.block < W.heap.size := by obtain ⟨m, hm⟩ := h2; exact DataW.trod_lt m _ _ _ hm
  clear hA0 hval0
  simp only [List.append_nil] at hW'
  refine Calls.mono (main_lanesAhead v0 v1 v2 W a0 a1 a2) ?_
  rintro e W' ⟨v, rfl, rfl, hu⟩
  have bel := hu.below
  have targ := (trodAll_cons_mk (Below.trod laidOut (by kernel_rfl) (of_decide_eq_true (by kernel_rfl)) h0 bel lt0) (trodAll_cons_mk (Below.trod laidOut (by kernel_rfl) (of_decide_eq_true (by kernel_rfl)) h1 bel lt1) (trodAll_cons_mk (Below.trod laidOut (by kernel_rfl) (of_decide_eq_true (by kernel_rfl)) h2 bel lt2) trodAll_mk0)))
  simp only [List.append_nil] at targ
  exact ⟨_, rfl, _, _, _, [], _, [], hW', trodAll_mk1 (shut_bool Try.underlying4 _), targ, rfl, bel.frame _, fun h => by cases h⟩
theorem over : Rows.lanesAheadRow.holds Try.pinned (OpenSpec.ofChange Rows.lanesAheadSpec) :=
  OpenClaim.holds_of_wide 5 Try.f5 rfl rfl rfl rfl rfl rfl rfl ⟨rfl, rfl, rfl, rfl, rfl⟩ rfl rfl rfl rfl rfl (by kernel_rfl) Try.func5 (by kernel_rfl)
    (of_decide_eq_true (by kernel_rfl)) (by unfold Func.isWrapper; first | (rw [if_pos (by decide +kernel)]; kernel_rfl) | (rw [if_neg (by decide +kernel)]; exact ⟨rfl, rfl⟩))
    (fun os started H enc _ => lifted os started H enc)
theorem proved : Rows.LanesAheadSaid := over
end LawLanesAhead
end Go.Proofs.Ytdkedinnijobiaa
