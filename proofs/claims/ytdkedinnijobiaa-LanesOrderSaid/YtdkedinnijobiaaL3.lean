/- LanesOrder: for every size and every list of operations the law returns true. No condition. -/
import Derived.Test.YtdkedinnijobiaaW6
namespace Go.Proofs.Ytdkedinnijobiaa
open Go.RowKit Go.Eg
set_option synthInstance.maxSize 3000
set_option linter.unusedSimpArgs false
set_option linter.unusedVariables false
theorem headC_01 (q : LL) : headC q = 0 ∨ headC q = 1 := by
  obtain ⟨f, v⟩ := q
  cases f <;> cases v <;> simp [headC]
theorem pop_none {q : LL} (h : headB q = false) : (popL q).f = q.f ∧ (popL q).v = q.v := by
  obtain ⟨f, v⟩ := q
  cases f <;> cases v <;> simp_all [headB, popL]
theorem pop_0 {q : LL} (h : headB q = true) (hc : headC q = 0) : q.f = headI q :: (popL q).f ∧ (popL q).v = q.v := by
  obtain ⟨f, v⟩ := q
  cases f <;> cases v <;> simp_all [headB, popL, headC, headI]
theorem pop_1 {q : LL} (h : headB q = true) (hc : headC q = 1) : q.v = headI q :: (popL q).v ∧ (popL q).f = q.f := by
  obtain ⟨f, v⟩ := q
  cases f <;> cases v <;> simp_all [headB, popL, headC, headI]
theorem push_noop' {sz : Nat} {c : Int} (i : Int) {q : LL} (h : ¬ pushE sz c q = 0) : pushL sz c i q = q := by
  by_cases e0 : c = 0
  · subst e0
    by_cases h1 : q.f.length < sz
    · simp [pushE, h1] at h
    · simp [pushL, h1]
  · by_cases e1 : c = 1
    · subst e1
      by_cases h1 : q.v.length < sz
      · simp [pushE, h1] at h
      · simp [pushL, h1]
    · simp [pushL, e0, e1]
theorem push_0 {sz : Nat} {c : Int} (i : Int) {q : LL} (hc : c = 0) (h : pushE sz c q = 0) : (pushL sz c i q).f = q.f ++ [i] ∧ (pushL sz c i q).v = q.v := by
  subst hc
  by_cases h1 : q.f.length < sz
  · simp [pushL, h1]
  · simp [pushE, h1] at h
theorem push_1 {sz : Nat} {c : Int} (i : Int) {q : LL} (hc : c = 1) (h : pushE sz c q = 0) : (pushL sz c i q).v = q.v ++ [i] ∧ (pushL sz c i q).f = q.f := by
  subst hc
  by_cases h1 : q.v.length < sz
  · simp [pushL, h1]
  · simp [pushE, h1] at h
theorem push_other {sz : Nat} {c : Int} {q : LL} (h0 : ¬ c = 0) (h1 : ¬ c = 1) : ¬ pushE sz c q = 0 := by simp [pushE, h0, h1]
theorem hb_none {q : LL} (h : headB q = false) : q.f = [] ∧ q.v = [] := by
  obtain ⟨f, v⟩ := q
  cases f <;> cases v <;> simp_all [headB]

set_option maxHeartbeats 2000000 in
theorem law_lanesOrder (n : Nat) (A_l : Option Addr) (c_l : Nat) (l : List O) (w : World) (h_n : n < 256) (o_l : Old w A_l l.length 3 (l.map O.c)) (h_l : l.length ≤ c_l ∧ c_l ≤ 9223372036854775807) (k_l : ∀ x ∈ l, (fun x : O => True) x) : Pur Try.prog 4 [.int .u8 ((n : Nat) : Int), .slice A_l l.length c_l] w (.bool true) := by
  refine g_start Try.func4 rfl 129 rfl (by simp) ([]) [] (WOK.start _ _) _ rfl ?_
  refine g_seq ?_
  refine g_region ?_
  refine s_q (q_assign rfl) rfl ?_
  refine g_nil ?_
  refine g_then ?_
  refine g_seq ?_
  refine g_region ?_
  refine s_q (q_move rfl) rfl ?_
  refine s_q (q_convz (z := ((n : Nat) : Int)) rfl (wi64 (by omega) (by omega))) rfl ?_
  refine s_q (q_inc rfl rfl (by omega)) rfl ?_
  refine g_op (g_ownS [] rfl (fun w1 hw1 ho1 => by have h7 := lnew_any ((n + 1)) w1 (by omega); exact h7) rfl ?_)
  rintro ⟨b19, ba19, bb19, g19, gg19⟩ ⟨r19, s19, rr19, ss19⟩
  refine ⟨_, _, inferInstance, inferInstance, ?_⟩
  simp only at r19 s19 rr19 ss19
  refine s_q (q_assign rfl) rfl ?_
  refine g_nil ?_
  refine g_then ?_
  refine g_seq ?_
  refine g_seq ?_
  refine g_region ?_
  refine s_q (q_move rfl) rfl ?_
  refine s_q (q_eqp (b := false) rfl rfl rfl) rfl ?_
  refine g_nil ?_
  refine g_then ?_
  refine g_false rfl ?_
  refine g_skip ?_
  refine g_then ?_
  refine g_seq ?_
  refine g_seq ?_
  refine g_region ?_
  refine s_q (q_move rfl) rfl ?_
  refine s_q (q_len rfl) rfl ?_
  refine s_q (q_gtr rfl rfl) rfl ?_
  refine g_nil ?_
  refine g_then ?_
  refine g_cond rfl (fun h1 => ?_) (fun h1 => ?_)
  · refine g_seq ?_
    refine g_region ?_
    refine g_op (g_pure rfl (fun w1 hw1 => alive_any w1) rfl ?_)
    refine s_q (q_assign rfl) rfl ?_
    refine g_nil ?_
    refine g_then ?_
    refine g_ret ?_
    refine g_then_ret ?_
    exact fin1 rfl (.tmp rfl) (fun w' hw' => ⟨by first | rfl | (simp_all; done) | (simp_all; omega), hw'.upd⟩) _ (.inl rfl)
  · refine g_skip ?_
    refine g_then ?_
    refine g_seq ?_
    refine g_region ?_
    refine g_op (g_alloc rfl fun b6 => ?_)
    refine g_op (g_alloc rfl fun b7 => ?_)
    refine g_noresL none 3 1 (([] : List Int).map (fun v : Int => [Value.int .i64 v])) rfl ?_
    refine g_noresL none 3 1 (([] : List Int).map (fun v : Int => [Value.int .i64 v])) rfl ?_
    refine g_noresL none 3 1 (([] : List Int).map (fun v : Int => [Value.int .i64 v])) rfl ?_
    refine g_noresL none 3 1 (([] : List Int).map (fun v : Int => [Value.int .i64 v])) rfl ?_
    refine g_nil ?_
    refine g_then ?_
    refine g_seq ?_
    refine g_seq ?_
    refine g_region ?_
    refine s_q (q_move rfl) rfl ?_
    refine s_q (q_len rfl) rfl ?_
    refine s_q (q_move rfl) rfl ?_
    refine g_nil ?_
    refine g_then ?_
    refine g_block ?_
    refine g_loopk [1, 4, 5, 6, 7, 26, 27] (fun (x : Nat × Rg × Rg × LL × List Int × Option Addr × Nat × Nat × List Int × Option Addr × Nat × Nat × List Int × Option Addr × Nat × Nat × List Int × Option Addr × Nat × Nat) => [(28, .int .i64 ((x.1 : Nat) : Int))]) (fun (x : Nat × Rg × Rg × LL × List Int × Option Addr × Nat × Nat × List Int × Option Addr × Nat × Nat × List Int × Option Addr × Nat × Nat × List Int × Option Addr × Nat × Nat) => [Res.blk b6 35 [Value.slice x.2.2.2.2.2.1 x.2.2.2.2.2.2.1 x.2.2.2.2.2.2.2.1, Value.slice x.2.2.2.2.2.2.2.2.2.1 x.2.2.2.2.2.2.2.2.2.2.1 x.2.2.2.2.2.2.2.2.2.2.2.1], Res.row x.2.2.2.2.2.1 x.2.2.2.2.2.2.1 x.2.2.2.2.2.2.2.1 3 1 ((x.2.2.2.2.1).map (fun v : Int => [Value.int .i64 v])), Res.row x.2.2.2.2.2.2.2.2.2.1 x.2.2.2.2.2.2.2.2.2.2.1 x.2.2.2.2.2.2.2.2.2.2.2.1 3 1 ((x.2.2.2.2.2.2.2.2.1).map (fun v : Int => [Value.int .i64 v])), Res.blk b7 35 [Value.slice x.2.2.2.2.2.2.2.2.2.2.2.2.2.1 x.2.2.2.2.2.2.2.2.2.2.2.2.2.2.1 x.2.2.2.2.2.2.2.2.2.2.2.2.2.2.2.1, Value.slice x.2.2.2.2.2.2.2.2.2.2.2.2.2.2.2.2.2.1 x.2.2.2.2.2.2.2.2.2.2.2.2.2.2.2.2.2.2.1 x.2.2.2.2.2.2.2.2.2.2.2.2.2.2.2.2.2.2.2], Res.row x.2.2.2.2.2.2.2.2.2.2.2.2.2.1 x.2.2.2.2.2.2.2.2.2.2.2.2.2.2.1 x.2.2.2.2.2.2.2.2.2.2.2.2.2.2.2.1 3 1 ((x.2.2.2.2.2.2.2.2.2.2.2.2.1).map (fun v : Int => [Value.int .i64 v])), Res.row x.2.2.2.2.2.2.2.2.2.2.2.2.2.2.2.2.2.1 x.2.2.2.2.2.2.2.2.2.2.2.2.2.2.2.2.2.2.1 x.2.2.2.2.2.2.2.2.2.2.2.2.2.2.2.2.2.2.2 3 1 ((x.2.2.2.2.2.2.2.2.2.2.2.2.2.2.2.2.1).map (fun v : Int => [Value.int .i64 v])), Res.blk b19 52 [Value.pointer (some ⟨ba19, 0, none⟩), Value.pointer (some ⟨bb19, 0, none⟩)], Res.blk ba19 64 (Rg.c x.2.1), Res.row (Rg.A x.2.1) (Rg.s x.2.1).length (Rg.cap x.2.1) 3 1 (Rg.s x.2.1), Res.blk bb19 64 (Rg.c x.2.2.1), Res.row (Rg.A x.2.2.1) (Rg.s x.2.2.1).length (Rg.cap x.2.2.1) 3 1 (Rg.s x.2.2.1)]) (fun (x : Nat × Rg × Rg × LL × List Int × Option Addr × Nat × Nat × List Int × Option Addr × Nat × Nat × List Int × Option Addr × Nat × Nat × List Int × Option Addr × Nat × Nat) => x.1 ≤ l.length ∧ Rg.Rep x.2.1 1 ((x.2.2.2.1).f.map (fun v : Int => [Value.int .i64 v])) ∧ Rg.Rep x.2.2.1 1 ((x.2.2.2.1).v.map (fun v : Int => [Value.int .i64 v])) ∧ Rg.size x.2.1 = (n + 1) ∧ Rg.size x.2.2.1 = (n + 1) ∧ x.2.2.2.2.1 = x.2.2.2.2.2.2.2.2.2.2.2.2.1 ++ (x.2.2.2.1).f ∧ x.2.2.2.2.2.2.2.2.1 = x.2.2.2.2.2.2.2.2.2.2.2.2.2.2.2.2.1 ++ (x.2.2.2.1).v ∧ x.2.2.2.2.2.2.1 = (x.2.2.2.2.1).length ∧ x.2.2.2.2.2.2.2.2.2.2.1 = (x.2.2.2.2.2.2.2.2.1).length ∧ x.2.2.2.2.2.2.2.2.2.2.2.2.2.2.1 = (x.2.2.2.2.2.2.2.2.2.2.2.2.1).length ∧ x.2.2.2.2.2.2.2.2.2.2.2.2.2.2.2.2.2.2.1 = (x.2.2.2.2.2.2.2.2.2.2.2.2.2.2.2.2.1).length ∧ (x.2.2.2.2.1).length + (x.2.2.2.2.2.2.2.2.1).length ≤ x.1) (fun (x : Nat × Rg × Rg × LL × List Int × Option Addr × Nat × Nat × List Int × Option Addr × Nat × Nat × List Int × Option Addr × Nat × Nat × List Int × Option Addr × Nat × Nat) => l.length - x.1) (0, g19, gg19, (LL.mk [] []), ([] : List Int), none, 0, 0, ([] : List Int), none, 0, 0, ([] : List Int), none, 0, 0, ([] : List Int), none, 0, 0) (by (try dsimp only); exact ⟨Nat.zero_le _, r19, rr19, s19, ss19, rfl, rfl, rfl, rfl, rfl, rfl, (by simp)⟩) rfl (by repeat (first | exact trivial | refine ⟨rfl, ?_⟩)) wok_sub ?_
    rintro ⟨k, g1, g2, q, P0, A0, m0, c0, P1, A1, m1, c1, Q0, B0, n0, d0, Q1, B1, n1, d1⟩ ⟨le_k, h0, hh1, s0, ss1, hP0, hP1, hm0, hm1, hn0, hn1, hk⟩
    replace le_k : k ≤ l.length := le_k
    replace h0 : Rg.Rep g1 1 ((q).f.map (fun v : Int => [Value.int .i64 v])) := h0
    replace hh1 : Rg.Rep g2 1 ((q).v.map (fun v : Int => [Value.int .i64 v])) := hh1
    replace s0 : Rg.size g1 = (n + 1) := s0
    replace ss1 : Rg.size g2 = (n + 1) := ss1
    replace hP0 : P0 = Q0 ++ (q).f := hP0
    replace hP1 : P1 = Q1 ++ (q).v := hP1
    replace hm0 : m0 = (P0).length := hm0
    replace hm1 : m1 = (P1).length := hm1
    replace hn0 : n0 = (Q0).length := hn0
    replace hn1 : n1 = (Q1).length := hn1
    replace hk : (P0).length + (P1).length ≤ k := hk
    refine g_setL (L' := [Res.blk b6 35 [Value.slice A0 m0 c0, Value.slice A1 m1 c1], Res.row A0 m0 c0 3 1 ((P0).map (fun v : Int => [Value.int .i64 v])), Res.row A1 m1 c1 3 1 ((P1).map (fun v : Int => [Value.int .i64 v])), Res.blk b7 35 [Value.slice B0 n0 d0, Value.slice B1 n1 d1], Res.row B0 n0 d0 3 1 ((Q0).map (fun v : Int => [Value.int .i64 v])), Res.row B1 n1 d1 3 1 ((Q1).map (fun v : Int => [Value.int .i64 v])), Res.blk b19 52 [Value.pointer (some ⟨ba19, 0, none⟩), Value.pointer (some ⟨bb19, 0, none⟩)], Res.blk ba19 64 (Rg.c g1), Res.row (Rg.A g1) (Rg.s g1).length (Rg.cap g1) 3 1 (Rg.s g1), Res.blk bb19 64 (Rg.c g2), Res.row (Rg.A g2) (Rg.s g2).length (Rg.cap g2) 3 1 (Rg.s g2)]) rfl ?_
    refine g_val 28 (v' := .int .i64 ((k : Nat) : Int)) rfl rfl ?_
    have hl3 : l.length ≤ 100 := by have h9 := of_decide_eq_false h1; omega
    have z0 := congrArg List.length hP0
    have z1 := congrArg List.length hP1
    simp only [List.length_append] at z0 z1
    refine g_seq ?_
    refine g_region ?_
    refine s_q (q_lss rfl rfl) rfl ?_
    refine g_nil ?_
    refine g_then ?_
    refine g_seq ?_
    refine g_cond rfl (fun h2 => ?_) (fun h2 => ?_)
    · have lt_k : k < l.length := by have h9 := of_decide_eq_true h2; omega
      refine g_skip ?_
      refine g_then ?_
      refine g_seq ?_
      refine g_block ?_
      refine g_seq ?_
      refine g_region ?_
      refine s_q (q_index (i := k) rfl rfl rfl (o_l.rdb rfl) (by first | exact lt_k | omega)) rfl ?_
      refine s_q (q_load_ew (i := k) rfl (o_l.rdb rfl) (map_get (by first | assumption | omega)) rfl) rfl ?_
      refine g_op (g_alloc rfl fun b9 => ?_)
      refine g_op (g_storew rfl rfl rfl rfl rfl ?_)
      refine g_nil ?_
      refine g_then ?_
      refine g_seq ?_
      refine g_region ?_
      refine s_q (q_field rfl) rfl ?_
      refine s_q (q_load rfl rfl) rfl ?_
      refine g_nil ?_
      refine g_then ?_
      refine g_cond rfl (fun h3 => ?_) (fun h3 => ?_)
      · refine g_seq ?_
        refine g_region ?_
        refine s_q (q_move rfl) rfl ?_
        refine g_op (g_ownS [Res.blk b19 52 [Value.pointer (some ⟨ba19, 0, none⟩), Value.pointer (some ⟨bb19, 0, none⟩)], Res.blk ba19 64 (Rg.c g1), Res.row (Rg.A g1) (Rg.s g1).length (Rg.cap g1) 3 1 (Rg.s g1), Res.blk bb19 64 (Rg.c g2), Res.row (Rg.A g2) (Rg.s g2).length (Rg.cap g2) 3 1 (Rg.s g2)] rfl (fun w1 hw1 ho1 => by have h7 := pop_any b19 ba19 bb19 g1 g2 q ((n + 1)) w1 ho1 h0 hh1 s0 ss1 (by omega); exact h7) rfl ?_)
        rintro ⟨g36, gg36⟩ ⟨r36, rr36, s36, ss36⟩
        refine ⟨_, _, inferInstance, inferInstance, ?_⟩
        simp only at r36 rr36 s36 ss36
        refine s_q (q_move rfl) rfl ?_
        refine s_q (q_extract rfl rfl) rfl ?_
        refine s_q (q_extract rfl rfl) rfl ?_
        refine s_q (q_extract rfl rfl) rfl ?_
        refine s_q (q_assign rfl) rfl ?_
        refine s_q (q_assign rfl) rfl ?_
        refine s_q (q_assign rfl) rfl ?_
        refine g_nil ?_
        refine g_then ?_
        refine g_seq ?_
        refine g_region ?_
        refine s_q (q_move rfl) rfl ?_
        refine s_q (q_move rfl) rfl ?_
        refine g_split 41 rfl (fun h4 => ?_) (fun h4 => ?_)
        · refine s_qg (q_move rfl) rfl rfl rfl ?_
          refine s_qg (q_eql rfl rfl) rfl rfl rfl ?_
          refine s_qg (q_move rfl) rfl rfl rfl ?_
          refine g_split 44 rfl (fun h5 => ?_) (fun h5 => ?_)
          · refine g_gf rfl rfl rfl rfl ?_
            refine g_gf rfl rfl rfl rfl ?_
            refine s_qg (q_pick_t rfl rfl) rfl rfl rfl ?_
            refine s_q (q_pick_t rfl rfl) rfl ?_
            refine g_nil ?_
            refine g_then ?_
            refine g_true rfl ?_
            rcases headC_01 q with hcc | hcc
            · refine g_region ?_
              refine s_q (q_move rfl) rfl ?_
              refine s_q (q_move rfl) rfl ?_
              refine s_q (q_index_arr (i := 0) rfl rfl hcc (by decide)) rfl ?_
              refine s_q (q_load rfl rfl) rfl ?_
              refine s_q (q_move rfl) rfl ?_
              refine g_op (g_lit rfl rfl rfl rfl rfl fun b54 => ?_)
              refine g_blkc (b := b54) ((([(headI q)] : List Int).map (fun v : Int => [Value.int .i64 v])).flatten) rfl ?_
              refine g_op (g_append (A := B0) (els := (Q0).map (fun v : Int => [Value.int .i64 v])) (news := (([(headI q)] : List Int).map (fun v : Int => [Value.int .i64 v]))) rfl rfl (InL.rdb (b := b54) rfl (by simp) rfl) (map_one (c := (fun v : Int => [Value.int .i64 v])) (by intro x; simp [Value.oneCell']) _) (by first | omega | (simp; omega) | (simp_all; omega)) rfl fun A55 cap55 => ⟨_, inferInstance, ?_⟩)
              refine g_rowels (A := A55) (((Q0 ++ [(headI q)])).map (fun v : Int => [Value.int .i64 v])) (by first | rfl | exact List.map_append.symm | (simp; done)) ?_
              refine s_q (q_index_arr (i := 0) rfl rfl hcc (by decide)) rfl ?_
              refine g_op (g_store rfl rfl rfl rfl rfl rfl rfl ?_)
              refine g_blkc (b := b7) [Value.slice A55 ((n0 + 1)) cap55, Value.slice B1 (n1) d1] (by simp [splice]) ?_
              refine g_nil ?_
              refine g_blk_n ?_
              refine g_then ?_
              refine g_region ?_
              refine s_q (q_inc rfl rfl (by omega)) rfl ?_
              refine s_q (q_move rfl) rfl ?_
              refine g_nil ?_
              have hB : headB q = true := by simp_all
              exact g_again ((k + 1), g36, gg36, (popL q), P0, A0, m0, c0, P1, A1, m1, c1, (Q0 ++ [(headI q)]), A55, (n0 + 1), cap55, Q1, B1, n1, d1) (by (try dsimp only); exact ⟨(by first | exact lt_k | omega), r36, rr36, s36, ss36, (by rw [hP0, (pop_0 hB hcc).1]; simp), (by rw [hP1, (pop_0 hB hcc).2]), (by first | omega | (simp; omega)), (by first | omega | (simp; omega)), (by first | omega | (simp; omega)), (by first | omega | (simp; omega)), (by first | omega | (simp; omega))⟩) (by first | omega | (simp only; omega)) (by repeat (first | exact trivial | refine ⟨rfl, ?_⟩)) wok_sub
            · refine g_region ?_
              refine s_q (q_move rfl) rfl ?_
              refine s_q (q_move rfl) rfl ?_
              refine s_q (q_index_arr (i := 1) rfl rfl hcc (by decide)) rfl ?_
              refine s_q (q_load rfl rfl) rfl ?_
              refine s_q (q_move rfl) rfl ?_
              refine g_op (g_lit rfl rfl rfl rfl rfl fun b54 => ?_)
              refine g_blkc (b := b54) ((([(headI q)] : List Int).map (fun v : Int => [Value.int .i64 v])).flatten) rfl ?_
              refine g_op (g_append (A := B1) (els := (Q1).map (fun v : Int => [Value.int .i64 v])) (news := (([(headI q)] : List Int).map (fun v : Int => [Value.int .i64 v]))) rfl rfl (InL.rdb (b := b54) rfl (by simp) rfl) (map_one (c := (fun v : Int => [Value.int .i64 v])) (by intro x; simp [Value.oneCell']) _) (by first | omega | (simp; omega) | (simp_all; omega)) rfl fun A55 cap55 => ⟨_, inferInstance, ?_⟩)
              refine g_rowels (A := A55) (((Q1 ++ [(headI q)])).map (fun v : Int => [Value.int .i64 v])) (by first | rfl | exact List.map_append.symm | (simp; done)) ?_
              refine s_q (q_index_arr (i := 1) rfl rfl hcc (by decide)) rfl ?_
              refine g_op (g_store rfl rfl rfl rfl rfl rfl rfl ?_)
              refine g_blkc (b := b7) [Value.slice B0 (n0) d0, Value.slice A55 ((n1 + 1)) cap55] (by simp [splice]) ?_
              refine g_nil ?_
              refine g_blk_n ?_
              refine g_then ?_
              refine g_region ?_
              refine s_q (q_inc rfl rfl (by omega)) rfl ?_
              refine s_q (q_move rfl) rfl ?_
              refine g_nil ?_
              have hB : headB q = true := by simp_all
              exact g_again ((k + 1), g36, gg36, (popL q), P0, A0, m0, c0, P1, A1, m1, c1, Q0, B0, n0, d0, (Q1 ++ [(headI q)]), A55, (n1 + 1), cap55) (by (try dsimp only); exact ⟨(by first | exact lt_k | omega), r36, rr36, s36, ss36, (by rw [hP0, (pop_1 hB hcc).2]), (by rw [hP1, (pop_1 hB hcc).1]; simp), (by first | omega | (simp; omega)), (by first | omega | (simp; omega)), (by first | omega | (simp; omega)), (by first | omega | (simp; omega)), (by first | omega | (simp; omega))⟩) (by first | omega | (simp only; omega)) (by repeat (first | exact trivial | refine ⟨rfl, ?_⟩)) wok_sub
          · refine s_qg (q_move rfl) rfl rfl rfl ?_
            refine s_qg (q_eql rfl rfl) rfl rfl rfl ?_
            refine s_qg (q_pick_f rfl rfl) rfl rfl rfl ?_
            refine s_q (q_pick_t rfl rfl) rfl ?_
            refine g_nil ?_
            refine g_then ?_
            refine g_cond rfl (fun h6 => ?_) (fun h6 => ?_)
            · rcases headC_01 q with hcc | hcc
              · refine g_region ?_
                refine s_q (q_move rfl) rfl ?_
                refine s_q (q_move rfl) rfl ?_
                refine s_q (q_index_arr (i := 0) rfl rfl hcc (by decide)) rfl ?_
                refine s_q (q_load rfl rfl) rfl ?_
                refine s_q (q_move rfl) rfl ?_
                refine g_op (g_lit rfl rfl rfl rfl rfl fun b54 => ?_)
                refine g_blkc (b := b54) ((([(headI q)] : List Int).map (fun v : Int => [Value.int .i64 v])).flatten) rfl ?_
                refine g_op (g_append (A := B0) (els := (Q0).map (fun v : Int => [Value.int .i64 v])) (news := (([(headI q)] : List Int).map (fun v : Int => [Value.int .i64 v]))) rfl rfl (InL.rdb (b := b54) rfl (by simp) rfl) (map_one (c := (fun v : Int => [Value.int .i64 v])) (by intro x; simp [Value.oneCell']) _) (by first | omega | (simp; omega) | (simp_all; omega)) rfl fun A55 cap55 => ⟨_, inferInstance, ?_⟩)
                refine g_rowels (A := A55) (((Q0 ++ [(headI q)])).map (fun v : Int => [Value.int .i64 v])) (by first | rfl | exact List.map_append.symm | (simp; done)) ?_
                refine s_q (q_index_arr (i := 0) rfl rfl hcc (by decide)) rfl ?_
                refine g_op (g_store rfl rfl rfl rfl rfl rfl rfl ?_)
                refine g_blkc (b := b7) [Value.slice A55 ((n0 + 1)) cap55, Value.slice B1 (n1) d1] (by simp [splice]) ?_
                refine g_nil ?_
                refine g_blk_n ?_
                refine g_then ?_
                refine g_region ?_
                refine s_q (q_inc rfl rfl (by omega)) rfl ?_
                refine s_q (q_move rfl) rfl ?_
                refine g_nil ?_
                have hB : headB q = true := by simp_all
                exact g_again ((k + 1), g36, gg36, (popL q), P0, A0, m0, c0, P1, A1, m1, c1, (Q0 ++ [(headI q)]), A55, (n0 + 1), cap55, Q1, B1, n1, d1) (by (try dsimp only); exact ⟨(by first | exact lt_k | omega), r36, rr36, s36, ss36, (by rw [hP0, (pop_0 hB hcc).1]; simp), (by rw [hP1, (pop_0 hB hcc).2]), (by first | omega | (simp; omega)), (by first | omega | (simp; omega)), (by first | omega | (simp; omega)), (by first | omega | (simp; omega)), (by first | omega | (simp; omega))⟩) (by first | omega | (simp only; omega)) (by repeat (first | exact trivial | refine ⟨rfl, ?_⟩)) wok_sub
              · refine g_region ?_
                refine s_q (q_move rfl) rfl ?_
                refine s_q (q_move rfl) rfl ?_
                refine s_q (q_index_arr (i := 1) rfl rfl hcc (by decide)) rfl ?_
                refine s_q (q_load rfl rfl) rfl ?_
                refine s_q (q_move rfl) rfl ?_
                refine g_op (g_lit rfl rfl rfl rfl rfl fun b54 => ?_)
                refine g_blkc (b := b54) ((([(headI q)] : List Int).map (fun v : Int => [Value.int .i64 v])).flatten) rfl ?_
                refine g_op (g_append (A := B1) (els := (Q1).map (fun v : Int => [Value.int .i64 v])) (news := (([(headI q)] : List Int).map (fun v : Int => [Value.int .i64 v]))) rfl rfl (InL.rdb (b := b54) rfl (by simp) rfl) (map_one (c := (fun v : Int => [Value.int .i64 v])) (by intro x; simp [Value.oneCell']) _) (by first | omega | (simp; omega) | (simp_all; omega)) rfl fun A55 cap55 => ⟨_, inferInstance, ?_⟩)
                refine g_rowels (A := A55) (((Q1 ++ [(headI q)])).map (fun v : Int => [Value.int .i64 v])) (by first | rfl | exact List.map_append.symm | (simp; done)) ?_
                refine s_q (q_index_arr (i := 1) rfl rfl hcc (by decide)) rfl ?_
                refine g_op (g_store rfl rfl rfl rfl rfl rfl rfl ?_)
                refine g_blkc (b := b7) [Value.slice B0 (n0) d0, Value.slice A55 ((n1 + 1)) cap55] (by simp [splice]) ?_
                refine g_nil ?_
                refine g_blk_n ?_
                refine g_then ?_
                refine g_region ?_
                refine s_q (q_inc rfl rfl (by omega)) rfl ?_
                refine s_q (q_move rfl) rfl ?_
                refine g_nil ?_
                have hB : headB q = true := by simp_all
                exact g_again ((k + 1), g36, gg36, (popL q), P0, A0, m0, c0, P1, A1, m1, c1, Q0, B0, n0, d0, (Q1 ++ [(headI q)]), A55, (n1 + 1), cap55) (by (try dsimp only); exact ⟨(by first | exact lt_k | omega), r36, rr36, s36, ss36, (by rw [hP0, (pop_1 hB hcc).2]), (by rw [hP1, (pop_1 hB hcc).1]; simp), (by first | omega | (simp; omega)), (by first | omega | (simp; omega)), (by first | omega | (simp; omega)), (by first | omega | (simp; omega)), (by first | omega | (simp; omega))⟩) (by first | omega | (simp only; omega)) (by repeat (first | exact trivial | refine ⟨rfl, ?_⟩)) wok_sub
            · refine g_skip ?_
              refine g_blk_n ?_
              refine g_then ?_
              refine g_region ?_
              refine s_q (q_inc rfl rfl (by omega)) rfl ?_
              refine s_q (q_move rfl) rfl ?_
              refine g_nil ?_
              have hB : headB q = false := by rcases headC_01 q with h | h <;> simp_all
              exact g_again ((k + 1), g36, gg36, (popL q), P0, A0, m0, c0, P1, A1, m1, c1, Q0, B0, n0, d0, Q1, B1, n1, d1) (by (try dsimp only); exact ⟨(by first | exact lt_k | omega), r36, rr36, s36, ss36, (by rw [hP0, (pop_none hB).1]), (by rw [hP1, (pop_none hB).2]), (by first | omega | (simp; omega)), (by first | omega | (simp; omega)), (by first | omega | (simp; omega)), (by first | omega | (simp; omega)), (by first | omega | (simp; omega))⟩) (by first | omega | (simp only; omega)) (by repeat (first | exact trivial | refine ⟨rfl, ?_⟩)) wok_sub
        · refine g_gf rfl rfl rfl rfl ?_
          refine g_gf rfl rfl rfl rfl ?_
          refine g_gf rfl rfl rfl rfl ?_
          refine g_gu rfl rfl rfl ?_
          refine g_gu rfl rfl rfl ?_
          refine g_gf rfl rfl rfl rfl ?_
          refine s_q (q_pick_f rfl rfl) rfl ?_
          refine g_nil ?_
          refine g_then ?_
          refine g_false rfl ?_
          refine g_skip ?_
          refine g_blk_n ?_
          refine g_then ?_
          refine g_region ?_
          refine s_q (q_inc rfl rfl (by omega)) rfl ?_
          refine s_q (q_move rfl) rfl ?_
          refine g_nil ?_
          have hB : headB q = false := by rcases headC_01 q with h | h <;> simp_all
          exact g_again ((k + 1), g36, gg36, (popL q), P0, A0, m0, c0, P1, A1, m1, c1, Q0, B0, n0, d0, Q1, B1, n1, d1) (by (try dsimp only); exact ⟨(by first | exact lt_k | omega), r36, rr36, s36, ss36, (by rw [hP0, (pop_none hB).1]), (by rw [hP1, (pop_none hB).2]), (by first | omega | (simp; omega)), (by first | omega | (simp; omega)), (by first | omega | (simp; omega)), (by first | omega | (simp; omega)), (by first | omega | (simp; omega))⟩) (by first | omega | (simp only; omega)) (by repeat (first | exact trivial | refine ⟨rfl, ?_⟩)) wok_sub
      · refine g_seq ?_
        refine g_region ?_
        refine s_q (q_move rfl) rfl ?_
        refine s_q (q_field rfl) rfl ?_
        refine s_q (q_load rfl rfl) rfl ?_
        refine s_q (q_field rfl) rfl ?_
        refine s_q (q_load rfl rfl) rfl ?_
        refine g_op (g_ownS [Res.blk b19 52 [Value.pointer (some ⟨ba19, 0, none⟩), Value.pointer (some ⟨bb19, 0, none⟩)], Res.blk ba19 64 (Rg.c g1), Res.row (Rg.A g1) (Rg.s g1).length (Rg.cap g1) 3 1 (Rg.s g1), Res.blk bb19 64 (Rg.c g2), Res.row (Rg.A g2) (Rg.s g2).length (Rg.cap g2) 3 1 (Rg.s g2)] rfl (fun w1 hw1 ho1 => by have h7 := lpush_any b19 ba19 bb19 g1 g2 q ((n + 1)) ((l[k]'lt_k).cls) ((l[k]'lt_k).i) w1 ho1 h0 hh1 s0 ss1 (by omega); exact h7) rfl ?_)
        rintro ⟨g62, gg62⟩ ⟨r62, rr62, s62, ss62⟩
        refine ⟨_, _, inferInstance, inferInstance, ?_⟩
        simp only at r62 rr62 s62 ss62
        refine s_q (q_eql rfl rfl) rfl ?_
        refine s_q (q_move rfl) rfl ?_
        refine g_split 64 rfl (fun h7 => ?_) (fun h7 => ?_)
        · refine s_qg (q_field rfl) rfl rfl rfl ?_
          refine s_qg (q_load rfl rfl) rfl rfl rfl ?_
          refine s_qg (q_eql rfl rfl) rfl rfl rfl ?_
          refine s_qg (q_move rfl) rfl rfl rfl ?_
          refine g_split 68 rfl (fun h8 => ?_) (fun h8 => ?_)
          · refine g_gf rfl rfl rfl rfl ?_
            refine g_gf rfl rfl rfl rfl ?_
            refine g_gf rfl rfl rfl rfl ?_
            refine s_qg (q_pick_t rfl rfl) rfl rfl rfl ?_
            refine s_q (q_pick_t rfl rfl) rfl ?_
            refine g_nil ?_
            refine g_then ?_
            refine g_true rfl ?_
            have hcl : (l[k]'lt_k).cls = 0 ∨ (l[k]'lt_k).cls = 1 := by simp_all
            rcases hcl with hcc | hcc
            · refine d_regionL (L0 := [Res.blk b9 27 (O.c (l[k]'lt_k)), Res.blk b6 35 [Value.slice A0 m0 c0, Value.slice A1 m1 c1]]) [11] mixed rfl rfl wok_sub ?_
              refine d_q 0 rfl (by kernel_rfl) (q_field rfl) wok_sub rfl (ls' := #[true, false, false, false, false, false, false, false, false, false, false, false]) rfl ?_
              refine d_q 1 rfl (by kernel_rfl) (q_load rfl rfl) wok_sub rfl (ls' := #[true, true, false, false, false, false, false, false, false, false, false, false]) rfl ?_
              refine d_q 2 rfl (by kernel_rfl) (q_field rfl) wok_sub rfl (ls' := #[true, true, true, false, false, false, false, false, false, false, false, false]) rfl ?_
              refine d_q 3 rfl (by kernel_rfl) (q_load rfl rfl) wok_sub rfl (ls' := #[true, true, true, true, false, false, false, false, false, false, false, false]) rfl ?_
              refine d_q 4 rfl (by kernel_rfl) (q_index_arr (i := 0) rfl rfl hcc (by decide)) wok_sub rfl (ls' := #[true, true, true, true, true, false, false, false, false, false, false, false]) rfl ?_
              refine d_q 5 rfl (by kernel_rfl) (q_load rfl rfl) wok_sub rfl (ls' := #[true, true, true, true, true, true, false, false, false, false, false, false]) rfl ?_
              refine d_q 6 rfl (by kernel_rfl) (q_field rfl) wok_sub rfl (ls' := #[true, true, true, true, true, true, true, false, false, false, false, false]) rfl ?_
              refine d_q 7 rfl (by kernel_rfl) (q_load rfl rfl) wok_sub rfl (ls' := #[true, true, true, true, true, true, true, true, false, false, false, false]) rfl ?_
              refine d_op 8 rfl (by kernel_rfl) (ls' := #[true, true, true, true, true, true, true, true, true, false, false, false]) rfl wok_sub (g_lit rfl rfl rfl rfl rfl fun b82 => ?_)
              refine g_blkc (b := b82) ((([(l[k]'lt_k).i] : List Int).map (fun v : Int => [Value.int .i64 v])).flatten) rfl ?_
              refine d_op 9 rfl (by kernel_rfl) (ls' := #[true, true, true, true, true, true, true, true, true, true, false, false]) rfl wok_sub (g_append (A := A0) (els := (P0).map (fun v : Int => [Value.int .i64 v])) (news := (([(l[k]'lt_k).i] : List Int).map (fun v : Int => [Value.int .i64 v]))) rfl rfl (InL.rdb (b := b82) rfl (by simp) rfl) (map_one (c := (fun v : Int => [Value.int .i64 v])) (by intro x; simp [Value.oneCell']) _) (by first | omega | (simp; omega) | (simp_all; omega)) rfl fun A83 cap83 => ⟨_, inferInstance, ?_⟩)
              refine g_rowels (A := A83) (((P0 ++ [(l[k]'lt_k).i])).map (fun v : Int => [Value.int .i64 v])) (by first | rfl | exact List.map_append.symm | (simp; done)) ?_
              refine d_q 10 rfl (by kernel_rfl) (q_index_arr (i := 0) rfl rfl hcc (by decide)) wok_sub rfl (ls' := #[true, true, true, true, true, true, true, true, true, true, true, false]) rfl ?_
              refine d_op 11 rfl (by kernel_rfl) (ls' := #[true, true, true, true, true, true, true, true, true, true, true, true]) rfl wok_sub (g_store rfl rfl rfl rfl rfl rfl rfl ?_)
              refine g_blkc (b := b6) [Value.slice A83 ((m0 + 1)) cap83, Value.slice A1 (m1) c1] (by simp [splice]) ?_
              refine d_end (by kernel_rfl) (.inl rfl) ?_
              refine g_blk_n ?_
              refine g_then ?_
              refine g_region ?_
              refine s_q (q_inc rfl rfl (by omega)) rfl ?_
              refine s_q (q_move rfl) rfl ?_
              refine g_nil ?_
              have hE : pushE ((n + 1)) (l[k]'lt_k).cls q = 0 := by simp_all
              exact g_again ((k + 1), g62, gg62, (pushL ((n + 1)) ((l[k]'lt_k).cls) ((l[k]'lt_k).i) q), (P0 ++ [(l[k]'lt_k).i]), A83, (m0 + 1), cap83, P1, A1, m1, c1, Q0, B0, n0, d0, Q1, B1, n1, d1) (by (try dsimp only); exact ⟨(by first | exact lt_k | omega), r62, rr62, s62, ss62, (by rw [hP0, (push_0 _ hcc hE).1]; simp), (by rw [hP1, (push_0 _ hcc hE).2]), (by first | omega | (simp; omega)), (by first | omega | (simp; omega)), (by first | omega | (simp; omega)), (by first | omega | (simp; omega)), (by first | omega | (simp; omega))⟩) (by first | omega | (simp only; omega)) (by repeat (first | exact trivial | refine ⟨rfl, ?_⟩)) wok_sub
            · refine d_regionL (L0 := [Res.blk b9 27 (O.c (l[k]'lt_k)), Res.blk b6 35 [Value.slice A0 m0 c0, Value.slice A1 m1 c1]]) [11] mixed rfl rfl wok_sub ?_
              refine d_q 0 rfl (by kernel_rfl) (q_field rfl) wok_sub rfl (ls' := #[true, false, false, false, false, false, false, false, false, false, false, false]) rfl ?_
              refine d_q 1 rfl (by kernel_rfl) (q_load rfl rfl) wok_sub rfl (ls' := #[true, true, false, false, false, false, false, false, false, false, false, false]) rfl ?_
              refine d_q 2 rfl (by kernel_rfl) (q_field rfl) wok_sub rfl (ls' := #[true, true, true, false, false, false, false, false, false, false, false, false]) rfl ?_
              refine d_q 3 rfl (by kernel_rfl) (q_load rfl rfl) wok_sub rfl (ls' := #[true, true, true, true, false, false, false, false, false, false, false, false]) rfl ?_
              refine d_q 4 rfl (by kernel_rfl) (q_index_arr (i := 1) rfl rfl hcc (by decide)) wok_sub rfl (ls' := #[true, true, true, true, true, false, false, false, false, false, false, false]) rfl ?_
              refine d_q 5 rfl (by kernel_rfl) (q_load rfl rfl) wok_sub rfl (ls' := #[true, true, true, true, true, true, false, false, false, false, false, false]) rfl ?_
              refine d_q 6 rfl (by kernel_rfl) (q_field rfl) wok_sub rfl (ls' := #[true, true, true, true, true, true, true, false, false, false, false, false]) rfl ?_
              refine d_q 7 rfl (by kernel_rfl) (q_load rfl rfl) wok_sub rfl (ls' := #[true, true, true, true, true, true, true, true, false, false, false, false]) rfl ?_
              refine d_op 8 rfl (by kernel_rfl) (ls' := #[true, true, true, true, true, true, true, true, true, false, false, false]) rfl wok_sub (g_lit rfl rfl rfl rfl rfl fun b82 => ?_)
              refine g_blkc (b := b82) ((([(l[k]'lt_k).i] : List Int).map (fun v : Int => [Value.int .i64 v])).flatten) rfl ?_
              refine d_op 9 rfl (by kernel_rfl) (ls' := #[true, true, true, true, true, true, true, true, true, true, false, false]) rfl wok_sub (g_append (A := A1) (els := (P1).map (fun v : Int => [Value.int .i64 v])) (news := (([(l[k]'lt_k).i] : List Int).map (fun v : Int => [Value.int .i64 v]))) rfl rfl (InL.rdb (b := b82) rfl (by simp) rfl) (map_one (c := (fun v : Int => [Value.int .i64 v])) (by intro x; simp [Value.oneCell']) _) (by first | omega | (simp; omega) | (simp_all; omega)) rfl fun A83 cap83 => ⟨_, inferInstance, ?_⟩)
              refine g_rowels (A := A83) (((P1 ++ [(l[k]'lt_k).i])).map (fun v : Int => [Value.int .i64 v])) (by first | rfl | exact List.map_append.symm | (simp; done)) ?_
              refine d_q 10 rfl (by kernel_rfl) (q_index_arr (i := 1) rfl rfl hcc (by decide)) wok_sub rfl (ls' := #[true, true, true, true, true, true, true, true, true, true, true, false]) rfl ?_
              refine d_op 11 rfl (by kernel_rfl) (ls' := #[true, true, true, true, true, true, true, true, true, true, true, true]) rfl wok_sub (g_store rfl rfl rfl rfl rfl rfl rfl ?_)
              refine g_blkc (b := b6) [Value.slice A0 (m0) c0, Value.slice A83 ((m1 + 1)) cap83] (by simp [splice]) ?_
              refine d_end (by kernel_rfl) (.inl rfl) ?_
              refine g_blk_n ?_
              refine g_then ?_
              refine g_region ?_
              refine s_q (q_inc rfl rfl (by omega)) rfl ?_
              refine s_q (q_move rfl) rfl ?_
              refine g_nil ?_
              have hE : pushE ((n + 1)) (l[k]'lt_k).cls q = 0 := by simp_all
              exact g_again ((k + 1), g62, gg62, (pushL ((n + 1)) ((l[k]'lt_k).cls) ((l[k]'lt_k).i) q), P0, A0, m0, c0, (P1 ++ [(l[k]'lt_k).i]), A83, (m1 + 1), cap83, Q0, B0, n0, d0, Q1, B1, n1, d1) (by (try dsimp only); exact ⟨(by first | exact lt_k | omega), r62, rr62, s62, ss62, (by rw [hP0, (push_1 _ hcc hE).2]), (by rw [hP1, (push_1 _ hcc hE).1]; simp), (by first | omega | (simp; omega)), (by first | omega | (simp; omega)), (by first | omega | (simp; omega)), (by first | omega | (simp; omega)), (by first | omega | (simp; omega))⟩) (by first | omega | (simp only; omega)) (by repeat (first | exact trivial | refine ⟨rfl, ?_⟩)) wok_sub
          · refine s_qg (q_field rfl) rfl rfl rfl ?_
            refine s_qg (q_load rfl rfl) rfl rfl rfl ?_
            refine s_qg (q_eql rfl rfl) rfl rfl rfl ?_
            refine s_qg (q_pick_f rfl rfl) rfl rfl rfl ?_
            refine s_q (q_pick_t rfl rfl) rfl ?_
            refine g_nil ?_
            refine g_then ?_
            refine g_cond rfl (fun h9 => ?_) (fun h9 => ?_)
            · have hcl : (l[k]'lt_k).cls = 0 ∨ (l[k]'lt_k).cls = 1 := by simp_all
              rcases hcl with hcc | hcc
              · refine d_regionL (L0 := [Res.blk b9 27 (O.c (l[k]'lt_k)), Res.blk b6 35 [Value.slice A0 m0 c0, Value.slice A1 m1 c1]]) [11] mixed rfl rfl wok_sub ?_
                refine d_q 0 rfl (by kernel_rfl) (q_field rfl) wok_sub rfl (ls' := #[true, false, false, false, false, false, false, false, false, false, false, false]) rfl ?_
                refine d_q 1 rfl (by kernel_rfl) (q_load rfl rfl) wok_sub rfl (ls' := #[true, true, false, false, false, false, false, false, false, false, false, false]) rfl ?_
                refine d_q 2 rfl (by kernel_rfl) (q_field rfl) wok_sub rfl (ls' := #[true, true, true, false, false, false, false, false, false, false, false, false]) rfl ?_
                refine d_q 3 rfl (by kernel_rfl) (q_load rfl rfl) wok_sub rfl (ls' := #[true, true, true, true, false, false, false, false, false, false, false, false]) rfl ?_
                refine d_q 4 rfl (by kernel_rfl) (q_index_arr (i := 0) rfl rfl hcc (by decide)) wok_sub rfl (ls' := #[true, true, true, true, true, false, false, false, false, false, false, false]) rfl ?_
                refine d_q 5 rfl (by kernel_rfl) (q_load rfl rfl) wok_sub rfl (ls' := #[true, true, true, true, true, true, false, false, false, false, false, false]) rfl ?_
                refine d_q 6 rfl (by kernel_rfl) (q_field rfl) wok_sub rfl (ls' := #[true, true, true, true, true, true, true, false, false, false, false, false]) rfl ?_
                refine d_q 7 rfl (by kernel_rfl) (q_load rfl rfl) wok_sub rfl (ls' := #[true, true, true, true, true, true, true, true, false, false, false, false]) rfl ?_
                refine d_op 8 rfl (by kernel_rfl) (ls' := #[true, true, true, true, true, true, true, true, true, false, false, false]) rfl wok_sub (g_lit rfl rfl rfl rfl rfl fun b82 => ?_)
                refine g_blkc (b := b82) ((([(l[k]'lt_k).i] : List Int).map (fun v : Int => [Value.int .i64 v])).flatten) rfl ?_
                refine d_op 9 rfl (by kernel_rfl) (ls' := #[true, true, true, true, true, true, true, true, true, true, false, false]) rfl wok_sub (g_append (A := A0) (els := (P0).map (fun v : Int => [Value.int .i64 v])) (news := (([(l[k]'lt_k).i] : List Int).map (fun v : Int => [Value.int .i64 v]))) rfl rfl (InL.rdb (b := b82) rfl (by simp) rfl) (map_one (c := (fun v : Int => [Value.int .i64 v])) (by intro x; simp [Value.oneCell']) _) (by first | omega | (simp; omega) | (simp_all; omega)) rfl fun A83 cap83 => ⟨_, inferInstance, ?_⟩)
                refine g_rowels (A := A83) (((P0 ++ [(l[k]'lt_k).i])).map (fun v : Int => [Value.int .i64 v])) (by first | rfl | exact List.map_append.symm | (simp; done)) ?_
                refine d_q 10 rfl (by kernel_rfl) (q_index_arr (i := 0) rfl rfl hcc (by decide)) wok_sub rfl (ls' := #[true, true, true, true, true, true, true, true, true, true, true, false]) rfl ?_
                refine d_op 11 rfl (by kernel_rfl) (ls' := #[true, true, true, true, true, true, true, true, true, true, true, true]) rfl wok_sub (g_store rfl rfl rfl rfl rfl rfl rfl ?_)
                refine g_blkc (b := b6) [Value.slice A83 ((m0 + 1)) cap83, Value.slice A1 (m1) c1] (by simp [splice]) ?_
                refine d_end (by kernel_rfl) (.inl rfl) ?_
                refine g_blk_n ?_
                refine g_then ?_
                refine g_region ?_
                refine s_q (q_inc rfl rfl (by omega)) rfl ?_
                refine s_q (q_move rfl) rfl ?_
                refine g_nil ?_
                have hE : pushE ((n + 1)) (l[k]'lt_k).cls q = 0 := by simp_all
                exact g_again ((k + 1), g62, gg62, (pushL ((n + 1)) ((l[k]'lt_k).cls) ((l[k]'lt_k).i) q), (P0 ++ [(l[k]'lt_k).i]), A83, (m0 + 1), cap83, P1, A1, m1, c1, Q0, B0, n0, d0, Q1, B1, n1, d1) (by (try dsimp only); exact ⟨(by first | exact lt_k | omega), r62, rr62, s62, ss62, (by rw [hP0, (push_0 _ hcc hE).1]; simp), (by rw [hP1, (push_0 _ hcc hE).2]), (by first | omega | (simp; omega)), (by first | omega | (simp; omega)), (by first | omega | (simp; omega)), (by first | omega | (simp; omega)), (by first | omega | (simp; omega))⟩) (by first | omega | (simp only; omega)) (by repeat (first | exact trivial | refine ⟨rfl, ?_⟩)) wok_sub
              · refine d_regionL (L0 := [Res.blk b9 27 (O.c (l[k]'lt_k)), Res.blk b6 35 [Value.slice A0 m0 c0, Value.slice A1 m1 c1]]) [11] mixed rfl rfl wok_sub ?_
                refine d_q 0 rfl (by kernel_rfl) (q_field rfl) wok_sub rfl (ls' := #[true, false, false, false, false, false, false, false, false, false, false, false]) rfl ?_
                refine d_q 1 rfl (by kernel_rfl) (q_load rfl rfl) wok_sub rfl (ls' := #[true, true, false, false, false, false, false, false, false, false, false, false]) rfl ?_
                refine d_q 2 rfl (by kernel_rfl) (q_field rfl) wok_sub rfl (ls' := #[true, true, true, false, false, false, false, false, false, false, false, false]) rfl ?_
                refine d_q 3 rfl (by kernel_rfl) (q_load rfl rfl) wok_sub rfl (ls' := #[true, true, true, true, false, false, false, false, false, false, false, false]) rfl ?_
                refine d_q 4 rfl (by kernel_rfl) (q_index_arr (i := 1) rfl rfl hcc (by decide)) wok_sub rfl (ls' := #[true, true, true, true, true, false, false, false, false, false, false, false]) rfl ?_
                refine d_q 5 rfl (by kernel_rfl) (q_load rfl rfl) wok_sub rfl (ls' := #[true, true, true, true, true, true, false, false, false, false, false, false]) rfl ?_
                refine d_q 6 rfl (by kernel_rfl) (q_field rfl) wok_sub rfl (ls' := #[true, true, true, true, true, true, true, false, false, false, false, false]) rfl ?_
                refine d_q 7 rfl (by kernel_rfl) (q_load rfl rfl) wok_sub rfl (ls' := #[true, true, true, true, true, true, true, true, false, false, false, false]) rfl ?_
                refine d_op 8 rfl (by kernel_rfl) (ls' := #[true, true, true, true, true, true, true, true, true, false, false, false]) rfl wok_sub (g_lit rfl rfl rfl rfl rfl fun b82 => ?_)
                refine g_blkc (b := b82) ((([(l[k]'lt_k).i] : List Int).map (fun v : Int => [Value.int .i64 v])).flatten) rfl ?_
                refine d_op 9 rfl (by kernel_rfl) (ls' := #[true, true, true, true, true, true, true, true, true, true, false, false]) rfl wok_sub (g_append (A := A1) (els := (P1).map (fun v : Int => [Value.int .i64 v])) (news := (([(l[k]'lt_k).i] : List Int).map (fun v : Int => [Value.int .i64 v]))) rfl rfl (InL.rdb (b := b82) rfl (by simp) rfl) (map_one (c := (fun v : Int => [Value.int .i64 v])) (by intro x; simp [Value.oneCell']) _) (by first | omega | (simp; omega) | (simp_all; omega)) rfl fun A83 cap83 => ⟨_, inferInstance, ?_⟩)
                refine g_rowels (A := A83) (((P1 ++ [(l[k]'lt_k).i])).map (fun v : Int => [Value.int .i64 v])) (by first | rfl | exact List.map_append.symm | (simp; done)) ?_
                refine d_q 10 rfl (by kernel_rfl) (q_index_arr (i := 1) rfl rfl hcc (by decide)) wok_sub rfl (ls' := #[true, true, true, true, true, true, true, true, true, true, true, false]) rfl ?_
                refine d_op 11 rfl (by kernel_rfl) (ls' := #[true, true, true, true, true, true, true, true, true, true, true, true]) rfl wok_sub (g_store rfl rfl rfl rfl rfl rfl rfl ?_)
                refine g_blkc (b := b6) [Value.slice A0 (m0) c0, Value.slice A83 ((m1 + 1)) cap83] (by simp [splice]) ?_
                refine d_end (by kernel_rfl) (.inl rfl) ?_
                refine g_blk_n ?_
                refine g_then ?_
                refine g_region ?_
                refine s_q (q_inc rfl rfl (by omega)) rfl ?_
                refine s_q (q_move rfl) rfl ?_
                refine g_nil ?_
                have hE : pushE ((n + 1)) (l[k]'lt_k).cls q = 0 := by simp_all
                exact g_again ((k + 1), g62, gg62, (pushL ((n + 1)) ((l[k]'lt_k).cls) ((l[k]'lt_k).i) q), P0, A0, m0, c0, (P1 ++ [(l[k]'lt_k).i]), A83, (m1 + 1), cap83, Q0, B0, n0, d0, Q1, B1, n1, d1) (by (try dsimp only); exact ⟨(by first | exact lt_k | omega), r62, rr62, s62, ss62, (by rw [hP0, (push_1 _ hcc hE).2]), (by rw [hP1, (push_1 _ hcc hE).1]; simp), (by first | omega | (simp; omega)), (by first | omega | (simp; omega)), (by first | omega | (simp; omega)), (by first | omega | (simp; omega)), (by first | omega | (simp; omega))⟩) (by first | omega | (simp only; omega)) (by repeat (first | exact trivial | refine ⟨rfl, ?_⟩)) wok_sub
            · refine g_skip ?_
              refine g_blk_n ?_
              refine g_then ?_
              refine g_region ?_
              refine s_q (q_inc rfl rfl (by omega)) rfl ?_
              refine s_q (q_move rfl) rfl ?_
              refine g_nil ?_
              have hE : ¬ pushE ((n + 1)) (l[k]'lt_k).cls q = 0 := by first | (simp_all; done) | (exact push_other (by simp_all) (by simp_all))
              exact g_again ((k + 1), g62, gg62, (pushL ((n + 1)) ((l[k]'lt_k).cls) ((l[k]'lt_k).i) q), P0, A0, m0, c0, P1, A1, m1, c1, Q0, B0, n0, d0, Q1, B1, n1, d1) (by (try dsimp only); exact ⟨(by first | exact lt_k | omega), r62, rr62, s62, ss62, (by rw [hP0, push_noop' _ hE]), (by rw [hP1, push_noop' _ hE]), (by first | omega | (simp; omega)), (by first | omega | (simp; omega)), (by first | omega | (simp; omega)), (by first | omega | (simp; omega)), (by first | omega | (simp; omega))⟩) (by first | omega | (simp only; omega)) (by repeat (first | exact trivial | refine ⟨rfl, ?_⟩)) wok_sub
        · refine g_gf rfl rfl rfl rfl ?_
          refine g_gf rfl rfl rfl rfl ?_
          refine g_gf rfl rfl rfl rfl ?_
          refine g_gf rfl rfl rfl rfl ?_
          refine g_gu rfl rfl rfl ?_
          refine g_gu rfl rfl rfl ?_
          refine g_gu rfl rfl rfl ?_
          refine g_gf rfl rfl rfl rfl ?_
          refine s_q (q_pick_f rfl rfl) rfl ?_
          refine g_nil ?_
          refine g_then ?_
          refine g_false rfl ?_
          refine g_skip ?_
          refine g_blk_n ?_
          refine g_then ?_
          refine g_region ?_
          refine s_q (q_inc rfl rfl (by omega)) rfl ?_
          refine s_q (q_move rfl) rfl ?_
          refine g_nil ?_
          have hE : ¬ pushE ((n + 1)) (l[k]'lt_k).cls q = 0 := by first | (simp_all; done) | (exact push_other (by simp_all) (by simp_all))
          exact g_again ((k + 1), g62, gg62, (pushL ((n + 1)) ((l[k]'lt_k).cls) ((l[k]'lt_k).i) q), P0, A0, m0, c0, P1, A1, m1, c1, Q0, B0, n0, d0, Q1, B1, n1, d1) (by (try dsimp only); exact ⟨(by first | exact lt_k | omega), r62, rr62, s62, ss62, (by rw [hP0, push_noop' _ hE]), (by rw [hP1, push_noop' _ hE]), (by first | omega | (simp; omega)), (by first | omega | (simp; omega)), (by first | omega | (simp; omega)), (by first | omega | (simp; omega)), (by first | omega | (simp; omega))⟩) (by first | omega | (simp only; omega)) (by repeat (first | exact trivial | refine ⟨rfl, ?_⟩)) wok_sub
    · have eq_k : k = l.length := by have h9 := of_decide_eq_false h2; omega
      refine g_exit ?_
      refine g_then_x (g_then_x (g_blk_hit ?_))
      refine g_then ?_
      refine g_seq ?_
      refine g_seq ?_
      refine g_region ?_
      refine s_q (q_move rfl) rfl ?_
      refine s_q (q_len rfl) rfl ?_
      refine s_q (q_move rfl) rfl ?_
      refine g_nil ?_
      refine g_then ?_
      refine g_block ?_
      refine g_loopk [4, 5, 6, 7, 87] (fun (x : Nat × Rg × Rg × LL × List Int × Option Addr × Nat × Nat × List Int × Option Addr × Nat × Nat) => [(88, .int .i64 ((x.1 : Nat) : Int))]) (fun (x : Nat × Rg × Rg × LL × List Int × Option Addr × Nat × Nat × List Int × Option Addr × Nat × Nat) => [Res.blk b6 35 [Value.slice A0 m0 c0, Value.slice A1 m1 c1], Res.row A0 m0 c0 3 1 ((P0).map (fun v : Int => [Value.int .i64 v])), Res.row A1 m1 c1 3 1 ((P1).map (fun v : Int => [Value.int .i64 v])), Res.blk b7 35 [Value.slice x.2.2.2.2.2.1 x.2.2.2.2.2.2.1 x.2.2.2.2.2.2.2.1, Value.slice x.2.2.2.2.2.2.2.2.2.1 x.2.2.2.2.2.2.2.2.2.2.1 x.2.2.2.2.2.2.2.2.2.2.2], Res.row x.2.2.2.2.2.1 x.2.2.2.2.2.2.1 x.2.2.2.2.2.2.2.1 3 1 ((x.2.2.2.2.1).map (fun v : Int => [Value.int .i64 v])), Res.row x.2.2.2.2.2.2.2.2.2.1 x.2.2.2.2.2.2.2.2.2.2.1 x.2.2.2.2.2.2.2.2.2.2.2 3 1 ((x.2.2.2.2.2.2.2.2.1).map (fun v : Int => [Value.int .i64 v])), Res.blk b19 52 [Value.pointer (some ⟨ba19, 0, none⟩), Value.pointer (some ⟨bb19, 0, none⟩)], Res.blk ba19 64 (Rg.c x.2.1), Res.row (Rg.A x.2.1) (Rg.s x.2.1).length (Rg.cap x.2.1) 3 1 (Rg.s x.2.1), Res.blk bb19 64 (Rg.c x.2.2.1), Res.row (Rg.A x.2.2.1) (Rg.s x.2.2.1).length (Rg.cap x.2.2.1) 3 1 (Rg.s x.2.2.1)]) (fun (x : Nat × Rg × Rg × LL × List Int × Option Addr × Nat × Nat × List Int × Option Addr × Nat × Nat) => x.1 ≤ l.length ∧ Rg.Rep x.2.1 1 ((x.2.2.2.1).f.map (fun v : Int => [Value.int .i64 v])) ∧ Rg.Rep x.2.2.1 1 ((x.2.2.2.1).v.map (fun v : Int => [Value.int .i64 v])) ∧ Rg.size x.2.1 = (n + 1) ∧ Rg.size x.2.2.1 = (n + 1) ∧ P0 = x.2.2.2.2.1 ++ (x.2.2.2.1).f ∧ P1 = x.2.2.2.2.2.2.2.2.1 ++ (x.2.2.2.1).v ∧ x.2.2.2.2.2.2.1 = (x.2.2.2.2.1).length ∧ x.2.2.2.2.2.2.2.2.2.2.1 = (x.2.2.2.2.2.2.2.2.1).length ∧ (x.2.2.2.1).f.length + (x.2.2.2.1).v.length ≤ l.length - x.1) (fun (x : Nat × Rg × Rg × LL × List Int × Option Addr × Nat × Nat × List Int × Option Addr × Nat × Nat) => l.length - x.1) (0, g1, g2, q, Q0, B0, n0, d0, Q1, B1, n1, d1) (by (try dsimp only); exact ⟨Nat.zero_le _, h0, hh1, s0, ss1, hP0, hP1, hn0, hn1, (by omega)⟩) rfl (by repeat (first | exact trivial | refine ⟨rfl, ?_⟩)) wok_sub ?_
      rintro ⟨j, g3, g4, q2, Q2, B2, n2, d2, Q3, B3, n3, d3⟩ ⟨le_j, h3, h4, s3, s4, hP2, hP3, hn2, hn3, hr⟩
      replace le_j : j ≤ l.length := le_j
      replace h3 : Rg.Rep g3 1 ((q2).f.map (fun v : Int => [Value.int .i64 v])) := h3
      replace h4 : Rg.Rep g4 1 ((q2).v.map (fun v : Int => [Value.int .i64 v])) := h4
      replace s3 : Rg.size g3 = (n + 1) := s3
      replace s4 : Rg.size g4 = (n + 1) := s4
      replace hP2 : P0 = Q2 ++ (q2).f := hP2
      replace hP3 : P1 = Q3 ++ (q2).v := hP3
      replace hn2 : n2 = (Q2).length := hn2
      replace hn3 : n3 = (Q3).length := hn3
      replace hr : (q2).f.length + (q2).v.length ≤ l.length - j := hr
      refine g_setL (L' := [Res.blk b6 35 [Value.slice A0 m0 c0, Value.slice A1 m1 c1], Res.row A0 m0 c0 3 1 ((P0).map (fun v : Int => [Value.int .i64 v])), Res.row A1 m1 c1 3 1 ((P1).map (fun v : Int => [Value.int .i64 v])), Res.blk b7 35 [Value.slice B2 n2 d2, Value.slice B3 n3 d3], Res.row B2 n2 d2 3 1 ((Q2).map (fun v : Int => [Value.int .i64 v])), Res.row B3 n3 d3 3 1 ((Q3).map (fun v : Int => [Value.int .i64 v])), Res.blk b19 52 [Value.pointer (some ⟨ba19, 0, none⟩), Value.pointer (some ⟨bb19, 0, none⟩)], Res.blk ba19 64 (Rg.c g3), Res.row (Rg.A g3) (Rg.s g3).length (Rg.cap g3) 3 1 (Rg.s g3), Res.blk bb19 64 (Rg.c g4), Res.row (Rg.A g4) (Rg.s g4).length (Rg.cap g4) 3 1 (Rg.s g4)]) rfl ?_
      refine g_val 88 (v' := .int .i64 ((j : Nat) : Int)) rfl rfl ?_
      have z2 := congrArg List.length hP2
      have z3 := congrArg List.length hP3
      simp only [List.length_append] at z2 z3
      refine g_seq ?_
      refine g_region ?_
      refine s_q (q_lss rfl rfl) rfl ?_
      refine g_nil ?_
      refine g_then ?_
      refine g_seq ?_
      refine g_cond rfl (fun h10 => ?_) (fun h10 => ?_)
      · have lt_j : j < l.length := by have h9 := of_decide_eq_true h10; omega
        refine g_skip ?_
        refine g_then ?_
        refine g_seq ?_
        refine g_block ?_
        refine g_seq ?_
        refine g_region ?_
        refine s_q (q_move rfl) rfl ?_
        refine g_op (g_ownS [Res.blk b19 52 [Value.pointer (some ⟨ba19, 0, none⟩), Value.pointer (some ⟨bb19, 0, none⟩)], Res.blk ba19 64 (Rg.c g3), Res.row (Rg.A g3) (Rg.s g3).length (Rg.cap g3) 3 1 (Rg.s g3), Res.blk bb19 64 (Rg.c g4), Res.row (Rg.A g4) (Rg.s g4).length (Rg.cap g4) 3 1 (Rg.s g4)] rfl (fun w1 hw1 ho1 => by have h7 := pop_any b19 ba19 bb19 g3 g4 q2 ((n + 1)) w1 ho1 h3 h4 s3 s4 (by omega); exact h7) rfl ?_)
        rintro ⟨g92, gg92⟩ ⟨r92, rr92, s92, ss92⟩
        refine ⟨_, _, inferInstance, inferInstance, ?_⟩
        simp only at r92 rr92 s92 ss92
        refine s_q (q_move rfl) rfl ?_
        refine s_q (q_extract rfl rfl) rfl ?_
        refine s_q (q_extract rfl rfl) rfl ?_
        refine s_q (q_extract rfl rfl) rfl ?_
        refine s_q (q_assign rfl) rfl ?_
        refine s_q (q_assign rfl) rfl ?_
        refine s_q (q_assign rfl) rfl ?_
        refine g_nil ?_
        refine g_then ?_
        refine g_seq ?_
        refine g_region ?_
        refine s_q (q_move rfl) rfl ?_
        refine s_q (q_move rfl) rfl ?_
        refine g_split 97 rfl (fun h11 => ?_) (fun h11 => ?_)
        · refine s_qg (q_move rfl) rfl rfl rfl ?_
          refine s_qg (q_eql rfl rfl) rfl rfl rfl ?_
          refine s_qg (q_move rfl) rfl rfl rfl ?_
          refine g_split 100 rfl (fun h12 => ?_) (fun h12 => ?_)
          · refine g_gf rfl rfl rfl rfl ?_
            refine g_gf rfl rfl rfl rfl ?_
            refine s_qg (q_pick_t rfl rfl) rfl rfl rfl ?_
            refine s_q (q_pick_t rfl rfl) rfl ?_
            refine g_nil ?_
            refine g_then ?_
            refine g_true rfl ?_
            rcases headC_01 q2 with hcc | hcc
            · refine g_region ?_
              refine s_q (q_move rfl) rfl ?_
              refine s_q (q_move rfl) rfl ?_
              refine s_q (q_index_arr (i := 0) rfl rfl hcc (by decide)) rfl ?_
              refine s_q (q_load rfl rfl) rfl ?_
              refine s_q (q_move rfl) rfl ?_
              refine g_op (g_lit rfl rfl rfl rfl rfl fun b110 => ?_)
              refine g_blkc (b := b110) ((([(headI q2)] : List Int).map (fun v : Int => [Value.int .i64 v])).flatten) rfl ?_
              refine g_op (g_append (A := B2) (els := (Q2).map (fun v : Int => [Value.int .i64 v])) (news := (([(headI q2)] : List Int).map (fun v : Int => [Value.int .i64 v]))) rfl rfl (InL.rdb (b := b110) rfl (by simp) rfl) (map_one (c := (fun v : Int => [Value.int .i64 v])) (by intro x; simp [Value.oneCell']) _) (by first | omega | (simp; omega) | (simp_all; omega)) rfl fun A111 cap111 => ⟨_, inferInstance, ?_⟩)
              refine g_rowels (A := A111) (((Q2 ++ [(headI q2)])).map (fun v : Int => [Value.int .i64 v])) (by first | rfl | exact List.map_append.symm | (simp; done)) ?_
              refine s_q (q_index_arr (i := 0) rfl rfl hcc (by decide)) rfl ?_
              refine g_op (g_store rfl rfl rfl rfl rfl rfl rfl ?_)
              refine g_blkc (b := b7) [Value.slice A111 ((n2 + 1)) cap111, Value.slice B3 (n3) d3] (by simp [splice]) ?_
              refine g_nil ?_
              refine g_blk_n ?_
              refine g_then ?_
              refine g_region ?_
              refine s_q (q_inc rfl rfl (by omega)) rfl ?_
              refine s_q (q_move rfl) rfl ?_
              refine g_nil ?_
              have hB : headB q2 = true := by simp_all
              exact g_again ((j + 1), g92, gg92, (popL q2), (Q2 ++ [(headI q2)]), A111, (n2 + 1), cap111, Q3, B3, n3, d3) (by (try dsimp only); exact ⟨(by first | exact lt_j | omega), r92, rr92, s92, ss92, (by rw [hP2, (pop_0 hB hcc).1]; simp), (by rw [hP3, (pop_0 hB hcc).2]), (by first | omega | (simp; omega)), (by first | omega | (simp; omega)), (by have h9 := congrArg List.length (pop_0 hB hcc).1; have h8 := congrArg List.length (pop_0 hB hcc).2; simp at h9 h8 ⊢; omega)⟩) (by first | omega | (simp only; omega)) (by repeat (first | exact trivial | refine ⟨rfl, ?_⟩)) wok_sub
            · refine g_region ?_
              refine s_q (q_move rfl) rfl ?_
              refine s_q (q_move rfl) rfl ?_
              refine s_q (q_index_arr (i := 1) rfl rfl hcc (by decide)) rfl ?_
              refine s_q (q_load rfl rfl) rfl ?_
              refine s_q (q_move rfl) rfl ?_
              refine g_op (g_lit rfl rfl rfl rfl rfl fun b110 => ?_)
              refine g_blkc (b := b110) ((([(headI q2)] : List Int).map (fun v : Int => [Value.int .i64 v])).flatten) rfl ?_
              refine g_op (g_append (A := B3) (els := (Q3).map (fun v : Int => [Value.int .i64 v])) (news := (([(headI q2)] : List Int).map (fun v : Int => [Value.int .i64 v]))) rfl rfl (InL.rdb (b := b110) rfl (by simp) rfl) (map_one (c := (fun v : Int => [Value.int .i64 v])) (by intro x; simp [Value.oneCell']) _) (by first | omega | (simp; omega) | (simp_all; omega)) rfl fun A111 cap111 => ⟨_, inferInstance, ?_⟩)
              refine g_rowels (A := A111) (((Q3 ++ [(headI q2)])).map (fun v : Int => [Value.int .i64 v])) (by first | rfl | exact List.map_append.symm | (simp; done)) ?_
              refine s_q (q_index_arr (i := 1) rfl rfl hcc (by decide)) rfl ?_
              refine g_op (g_store rfl rfl rfl rfl rfl rfl rfl ?_)
              refine g_blkc (b := b7) [Value.slice B2 (n2) d2, Value.slice A111 ((n3 + 1)) cap111] (by simp [splice]) ?_
              refine g_nil ?_
              refine g_blk_n ?_
              refine g_then ?_
              refine g_region ?_
              refine s_q (q_inc rfl rfl (by omega)) rfl ?_
              refine s_q (q_move rfl) rfl ?_
              refine g_nil ?_
              have hB : headB q2 = true := by simp_all
              exact g_again ((j + 1), g92, gg92, (popL q2), Q2, B2, n2, d2, (Q3 ++ [(headI q2)]), A111, (n3 + 1), cap111) (by (try dsimp only); exact ⟨(by first | exact lt_j | omega), r92, rr92, s92, ss92, (by rw [hP2, (pop_1 hB hcc).2]), (by rw [hP3, (pop_1 hB hcc).1]; simp), (by first | omega | (simp; omega)), (by first | omega | (simp; omega)), (by have h9 := congrArg List.length (pop_1 hB hcc).1; have h8 := congrArg List.length (pop_1 hB hcc).2; simp at h9 h8 ⊢; omega)⟩) (by first | omega | (simp only; omega)) (by repeat (first | exact trivial | refine ⟨rfl, ?_⟩)) wok_sub
          · refine s_qg (q_move rfl) rfl rfl rfl ?_
            refine s_qg (q_eql rfl rfl) rfl rfl rfl ?_
            refine s_qg (q_pick_f rfl rfl) rfl rfl rfl ?_
            refine s_q (q_pick_t rfl rfl) rfl ?_
            refine g_nil ?_
            refine g_then ?_
            refine g_cond rfl (fun h13 => ?_) (fun h13 => ?_)
            · rcases headC_01 q2 with hcc | hcc
              · refine g_region ?_
                refine s_q (q_move rfl) rfl ?_
                refine s_q (q_move rfl) rfl ?_
                refine s_q (q_index_arr (i := 0) rfl rfl hcc (by decide)) rfl ?_
                refine s_q (q_load rfl rfl) rfl ?_
                refine s_q (q_move rfl) rfl ?_
                refine g_op (g_lit rfl rfl rfl rfl rfl fun b110 => ?_)
                refine g_blkc (b := b110) ((([(headI q2)] : List Int).map (fun v : Int => [Value.int .i64 v])).flatten) rfl ?_
                refine g_op (g_append (A := B2) (els := (Q2).map (fun v : Int => [Value.int .i64 v])) (news := (([(headI q2)] : List Int).map (fun v : Int => [Value.int .i64 v]))) rfl rfl (InL.rdb (b := b110) rfl (by simp) rfl) (map_one (c := (fun v : Int => [Value.int .i64 v])) (by intro x; simp [Value.oneCell']) _) (by first | omega | (simp; omega) | (simp_all; omega)) rfl fun A111 cap111 => ⟨_, inferInstance, ?_⟩)
                refine g_rowels (A := A111) (((Q2 ++ [(headI q2)])).map (fun v : Int => [Value.int .i64 v])) (by first | rfl | exact List.map_append.symm | (simp; done)) ?_
                refine s_q (q_index_arr (i := 0) rfl rfl hcc (by decide)) rfl ?_
                refine g_op (g_store rfl rfl rfl rfl rfl rfl rfl ?_)
                refine g_blkc (b := b7) [Value.slice A111 ((n2 + 1)) cap111, Value.slice B3 (n3) d3] (by simp [splice]) ?_
                refine g_nil ?_
                refine g_blk_n ?_
                refine g_then ?_
                refine g_region ?_
                refine s_q (q_inc rfl rfl (by omega)) rfl ?_
                refine s_q (q_move rfl) rfl ?_
                refine g_nil ?_
                have hB : headB q2 = true := by simp_all
                exact g_again ((j + 1), g92, gg92, (popL q2), (Q2 ++ [(headI q2)]), A111, (n2 + 1), cap111, Q3, B3, n3, d3) (by (try dsimp only); exact ⟨(by first | exact lt_j | omega), r92, rr92, s92, ss92, (by rw [hP2, (pop_0 hB hcc).1]; simp), (by rw [hP3, (pop_0 hB hcc).2]), (by first | omega | (simp; omega)), (by first | omega | (simp; omega)), (by have h9 := congrArg List.length (pop_0 hB hcc).1; have h8 := congrArg List.length (pop_0 hB hcc).2; simp at h9 h8 ⊢; omega)⟩) (by first | omega | (simp only; omega)) (by repeat (first | exact trivial | refine ⟨rfl, ?_⟩)) wok_sub
              · refine g_region ?_
                refine s_q (q_move rfl) rfl ?_
                refine s_q (q_move rfl) rfl ?_
                refine s_q (q_index_arr (i := 1) rfl rfl hcc (by decide)) rfl ?_
                refine s_q (q_load rfl rfl) rfl ?_
                refine s_q (q_move rfl) rfl ?_
                refine g_op (g_lit rfl rfl rfl rfl rfl fun b110 => ?_)
                refine g_blkc (b := b110) ((([(headI q2)] : List Int).map (fun v : Int => [Value.int .i64 v])).flatten) rfl ?_
                refine g_op (g_append (A := B3) (els := (Q3).map (fun v : Int => [Value.int .i64 v])) (news := (([(headI q2)] : List Int).map (fun v : Int => [Value.int .i64 v]))) rfl rfl (InL.rdb (b := b110) rfl (by simp) rfl) (map_one (c := (fun v : Int => [Value.int .i64 v])) (by intro x; simp [Value.oneCell']) _) (by first | omega | (simp; omega) | (simp_all; omega)) rfl fun A111 cap111 => ⟨_, inferInstance, ?_⟩)
                refine g_rowels (A := A111) (((Q3 ++ [(headI q2)])).map (fun v : Int => [Value.int .i64 v])) (by first | rfl | exact List.map_append.symm | (simp; done)) ?_
                refine s_q (q_index_arr (i := 1) rfl rfl hcc (by decide)) rfl ?_
                refine g_op (g_store rfl rfl rfl rfl rfl rfl rfl ?_)
                refine g_blkc (b := b7) [Value.slice B2 (n2) d2, Value.slice A111 ((n3 + 1)) cap111] (by simp [splice]) ?_
                refine g_nil ?_
                refine g_blk_n ?_
                refine g_then ?_
                refine g_region ?_
                refine s_q (q_inc rfl rfl (by omega)) rfl ?_
                refine s_q (q_move rfl) rfl ?_
                refine g_nil ?_
                have hB : headB q2 = true := by simp_all
                exact g_again ((j + 1), g92, gg92, (popL q2), Q2, B2, n2, d2, (Q3 ++ [(headI q2)]), A111, (n3 + 1), cap111) (by (try dsimp only); exact ⟨(by first | exact lt_j | omega), r92, rr92, s92, ss92, (by rw [hP2, (pop_1 hB hcc).2]), (by rw [hP3, (pop_1 hB hcc).1]; simp), (by first | omega | (simp; omega)), (by first | omega | (simp; omega)), (by have h9 := congrArg List.length (pop_1 hB hcc).1; have h8 := congrArg List.length (pop_1 hB hcc).2; simp at h9 h8 ⊢; omega)⟩) (by first | omega | (simp only; omega)) (by repeat (first | exact trivial | refine ⟨rfl, ?_⟩)) wok_sub
            · refine g_skip ?_
              refine g_blk_n ?_
              refine g_then ?_
              refine g_region ?_
              refine s_q (q_inc rfl rfl (by omega)) rfl ?_
              refine s_q (q_move rfl) rfl ?_
              refine g_nil ?_
              have hB : headB q2 = false := by rcases headC_01 q2 with h | h <;> simp_all
              exact g_again ((j + 1), g92, gg92, (popL q2), Q2, B2, n2, d2, Q3, B3, n3, d3) (by (try dsimp only); exact ⟨(by first | exact lt_j | omega), r92, rr92, s92, ss92, (by rw [hP2, (pop_none hB).1]), (by rw [hP3, (pop_none hB).2]), (by first | omega | (simp; omega)), (by first | omega | (simp; omega)), (by have h9 := pop_none hB; have h8 : q2.f = [] ∧ q2.v = [] := hb_none hB; rw [h9.1, h9.2, h8.1, h8.2]; simp)⟩) (by first | omega | (simp only; omega)) (by repeat (first | exact trivial | refine ⟨rfl, ?_⟩)) wok_sub
        · refine g_gf rfl rfl rfl rfl ?_
          refine g_gf rfl rfl rfl rfl ?_
          refine g_gf rfl rfl rfl rfl ?_
          refine g_gu rfl rfl rfl ?_
          refine g_gu rfl rfl rfl ?_
          refine g_gf rfl rfl rfl rfl ?_
          refine s_q (q_pick_f rfl rfl) rfl ?_
          refine g_nil ?_
          refine g_then ?_
          refine g_false rfl ?_
          refine g_skip ?_
          refine g_blk_n ?_
          refine g_then ?_
          refine g_region ?_
          refine s_q (q_inc rfl rfl (by omega)) rfl ?_
          refine s_q (q_move rfl) rfl ?_
          refine g_nil ?_
          have hB : headB q2 = false := by rcases headC_01 q2 with h | h <;> simp_all
          exact g_again ((j + 1), g92, gg92, (popL q2), Q2, B2, n2, d2, Q3, B3, n3, d3) (by (try dsimp only); exact ⟨(by first | exact lt_j | omega), r92, rr92, s92, ss92, (by rw [hP2, (pop_none hB).1]), (by rw [hP3, (pop_none hB).2]), (by first | omega | (simp; omega)), (by first | omega | (simp; omega)), (by have h9 := pop_none hB; have h8 : q2.f = [] ∧ q2.v = [] := hb_none hB; rw [h9.1, h9.2, h8.1, h8.2]; simp)⟩) (by first | omega | (simp only; omega)) (by repeat (first | exact trivial | refine ⟨rfl, ?_⟩)) wok_sub
      · have eq_j : j = l.length := by have h9 := of_decide_eq_false h10; omega
        refine g_exit ?_
        refine g_then_x (g_then_x (g_blk_hit ?_))
        refine g_then ?_
        refine g_seq ?_
        refine g_region ?_
        refine g_op (g_pure rfl (fun w1 hw1 => alive_any w1) rfl ?_)
        refine s_q (q_move rfl) rfl ?_
        refine s_qg (q_index_arr (i := 0) rfl rfl rfl (by decide)) rfl rfl rfl ?_
        refine s_qg (q_load rfl rfl) rfl rfl rfl ?_
        refine s_qg (q_index_arr (i := 0) rfl rfl rfl (by decide)) rfl rfl rfl ?_
        refine s_qg (q_load rfl rfl) rfl rfl rfl ?_
        refine g_gt rfl rfl (g_pure rfl (fun w1 hw1 => equal_i A0 B2 _ _ _ _ (P0) (Q2) w1 (Rdb.toOld (InRow.rdb (A := A0) (els := (P0).map (fun v : Int => [Value.int .i64 v])) (by first | rfl | assumption | (simp; done) | (simp_all; done) | (simp; omega) | (simp_all; omega)) (map_cat (c := (fun v : Int => [Value.int .i64 v])) (fun _ => rfl) _)) hw1) (Rdb.toOld (InRow.rdb (A := B2) (els := (Q2).map (fun v : Int => [Value.int .i64 v])) (by first | rfl | assumption | (simp; done) | (simp_all; done) | (simp; omega) | (simp_all; omega)) (map_cat (c := (fun v : Int => [Value.int .i64 v])) (fun _ => rfl) _)) hw1) (row_max (A := A0) hw1)) rfl ?_)
        refine g_litb 120 (b := true) rfl (by have e9 : q2.f = [] := List.eq_nil_of_length_eq_zero (by omega); rw [e9] at hP2; simpa using hP2) ?_
        refine s_q (q_pick_t rfl rfl) rfl ?_
        refine s_q (q_move rfl) rfl ?_
        refine s_qg (q_index_arr (i := 1) rfl rfl rfl (by decide)) rfl rfl rfl ?_
        refine s_qg (q_load rfl rfl) rfl rfl rfl ?_
        refine s_qg (q_index_arr (i := 1) rfl rfl rfl (by decide)) rfl rfl rfl ?_
        refine s_qg (q_load rfl rfl) rfl rfl rfl ?_
        refine g_gt rfl rfl (g_pure rfl (fun w1 hw1 => equal_i A1 B3 _ _ _ _ (P1) (Q3) w1 (Rdb.toOld (InRow.rdb (A := A1) (els := (P1).map (fun v : Int => [Value.int .i64 v])) (by first | rfl | assumption | (simp; done) | (simp_all; done) | (simp; omega) | (simp_all; omega)) (map_cat (c := (fun v : Int => [Value.int .i64 v])) (fun _ => rfl) _)) hw1) (Rdb.toOld (InRow.rdb (A := B3) (els := (Q3).map (fun v : Int => [Value.int .i64 v])) (by first | rfl | assumption | (simp; done) | (simp_all; done) | (simp; omega) | (simp_all; omega)) (map_cat (c := (fun v : Int => [Value.int .i64 v])) (fun _ => rfl) _)) hw1) (row_max (A := A1) hw1)) rfl ?_)
        refine g_litb 127 (b := true) rfl (by have e9 : q2.v = [] := List.eq_nil_of_length_eq_zero (by omega); rw [e9] at hP3; simpa using hP3) ?_
        refine s_q (q_pick_t rfl rfl) rfl ?_
        refine s_q (q_assign rfl) rfl ?_
        refine g_nil ?_
        refine g_then ?_
        refine g_ret ?_
        exact fin1 rfl (.tmp rfl) (fun w' hw' => ⟨by first | rfl | (simp_all; done) | (simp_all; omega), hw'.upd⟩) _ (.inl rfl)

theorem main_lanesOrder (v0 : Value) (v1 : Value) (W : World) (a0 : Arg Try.prog W 5 v0) (a1 : Arg Try.prog W 22 v1) : Pur Try.prog 4 [v0, v1] W (.bool true) := by
  obtain ⟨z0, rfl, hz0⟩ := Arg.int Try.underlying5 a0
  obtain ⟨n, rfl⟩ : ∃ q : Nat, z0 = q := ⟨z0.toNat, by have h0 : 0 ≤ z0 ∧ z0 ≤ 255 := hz0; omega⟩
  have h_n : n < 256 := by have h0 : 0 ≤ ((n : Nat) : Int) ∧ ((n : Nat) : Int) ≤ 255 := hz0; omega
  obtain ⟨A_l, c_l, l, rfl, hle1, hm1, o_l, k_l⟩ := Arg.slice O.c (fun x : O => True) Try.underlying22 (show Try.prog.cellsOf 27 = 3 by kernel_rfl) (by omega) (openO) a1
  have h_l : l.length ≤ c_l ∧ c_l ≤ 9223372036854775807 := ⟨hle1, by unfold maxLen at hm1; omega⟩
  exact law_lanesOrder n A_l c_l l W h_n o_l h_l k_l

namespace LawLanesOrder
open Go.ChangeShapes Go.WideShapes Go.ChangeAt Go.RowKit Go.Eg
set_option linter.unusedVariables false
theorem own : ownKnob Try.prog.godebug = none := by kernel_rfl
theorem laidOut : laidOutB Try.prog = true := by kernel_rfl
set_option maxRecDepth 100000 in
theorem lifted (os : Os) (started : os.Started) (H : Type) (enc : TypeId × Value → H) :
    ReturnsInHanded {} Try.checked os 4 .any (Rows.lanesOrderSpec.pre6 enc Try.prog Try.f4 Rows.lanesOrderRow.domain false) (Rows.lanesOrderSpec.post enc Try.prog Try.f4 false true false false) := by
  refine returnsInHanded_of_change (C := Try.checked) own started (by kernel_rfl) Try.func4
    (ChangeSpec.witness6 (enc := enc) (C := Try.checked) false ⟨#[], #[.int .u8 0, .slice none 0 0], []⟩ 8 (by kernel_rfl) (by kernel_rfl) (by kernel_rfl) (by kernel_rfl)) ?_
  intro W base args ds gs before hval0 hW hcnd _
  have hval : ∀ (j : Nat) t v, Try.f4.params[j]? = some t → args[j]? = some v → Value.okWide Try.prog W .any base t v := hval0
  have hW' := hW
  obtain ⟨p, q, hA0, hV, rfl, hfz, hnd⟩ := hW
  have hA : DataW.TrodAll enc Try.prog W 0 (fun _ => true) true Try.f4.params.toList args.toList ds p := hA0
  rw [Try.params4] at hA hval
  obtain ⟨v0, vs0, d0, ds0, p0, q0, hargs, rfl, rfl, h0, r0⟩ := trodAll_cons hA
  obtain ⟨v1, vs1, d1, ds1, p1, q1, rfl, rfl, rfl, h1, r1⟩ := trodAll_cons r0
  obtain ⟨rfl, rfl, rfl⟩ := trodAll_nil r1
  obtain rfl : args = #[v0, v1] := by cases args; simp_all
  obtain ⟨rfl, rfl⟩ := trodVars_none hV
  have a0 := Arg.of h0 (hval 0 5 v0 rfl rfl)
  have lt0 : ∀ x ∈ p0, x.block < W.heap.size := by obtain ⟨m, hm⟩ := h0; exact DataW.trod_lt m _ _ _ hm
  have a1 := Arg.of h1 (hval 1 22 v1 rfl rfl)
  have lt1 : ∀ x ∈ p1, x.block < W.heap.size := by obtain ⟨m, hm⟩ := h1; exact DataW.trod_lt m _ _ _ hm
  clear hA0 hval0
  simp only [List.append_nil] at hW'
  refine Calls.mono (main_lanesOrder v0 v1 W a0 a1) ?_
  rintro e W' ⟨v, rfl, rfl, hu⟩
  have bel := hu.below
  have targ := (trodAll_cons_mk (Below.trod laidOut (by kernel_rfl) (of_decide_eq_true (by kernel_rfl)) h0 bel lt0) (trodAll_cons_mk (Below.trod laidOut (by kernel_rfl) (of_decide_eq_true (by kernel_rfl)) h1 bel lt1) trodAll_mk0))
  simp only [List.append_nil] at targ
  exact ⟨_, rfl, _, _, _, [], _, [], hW', trodAll_mk1 (shut_bool Try.underlying4 _), targ, rfl, bel.frame _, fun h => by cases h⟩
theorem over : Rows.lanesOrderRow.holds Try.pinned (OpenSpec.ofChange Rows.lanesOrderSpec) :=
  OpenClaim.holds_of_wide 4 Try.f4 rfl rfl rfl rfl rfl rfl rfl ⟨rfl, rfl, rfl, rfl, rfl⟩ rfl rfl rfl rfl rfl (by kernel_rfl) Try.func4 (by kernel_rfl)
    (of_decide_eq_true (by kernel_rfl)) (by unfold Func.isWrapper; first | (rw [if_pos (by decide +kernel)]; kernel_rfl) | (rw [if_neg (by decide +kernel)]; exact ⟨rfl, rfl⟩))
    (fun os started H enc _ => lifted os started H enc)
theorem proved : Rows.LanesOrderSaid := over
end LawLanesOrder
end Go.Proofs.Ytdkedinnijobiaa
