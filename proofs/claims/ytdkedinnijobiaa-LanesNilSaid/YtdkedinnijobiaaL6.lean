/- LanesNil: for every class and index the law returns true. No condition. -/
import Derived.Test.YtdkedinnijobiaaW4
import Derived.Test.YtdkedinnijobiaaW6
namespace Go.Proofs.Ytdkedinnijobiaa
open Go.RowKit Go.Eg
set_option synthInstance.maxSize 3000
set_option linter.unusedSimpArgs false
set_option linter.unusedVariables false
theorem nil_one {c i : Int} (h : pushE 3 c (LL.mk [] []) = 0) : allL c (pushL 3 c i (LL.mk [] [])) = [i] ∧ aheadL c (pushL 3 c i (LL.mk [] [])) = [i] := by
  by_cases e0 : c = 0
  · subst e0; simp [allL, aheadL, pushL]
  · by_cases e1 : c = 1
    · subst e1; simp [allL, aheadL, pushL]
    · simp [pushE, e0, e1] at h
theorem nil_last (c : Int) : (decide (pushE 3 c (LL.mk [] []) = 0) == (if decide (c = 0) then true else decide (c = 1))) = true := by
  by_cases e0 : c = 0
  · subst e0; simp [pushE]
  · by_cases e1 : c = 1
    · subst e1; simp [pushE]
    · simp [pushE, e0, e1]
theorem len_one {c i : Int} : (allL c (pushL 3 c i (LL.mk [] []))).length ≤ 3 ∧ (aheadL c (pushL 3 c i (LL.mk [] []))).length ≤ 3 := by
  by_cases e0 : c = 0
  · subst e0; simp [allL, aheadL, pushL]
  · by_cases e1 : c = 1
    · subst e1; simp [allL, aheadL, pushL]
    · simp [allL, aheadL, e0, e1]

set_option maxHeartbeats 16000000 in
theorem law_lanesNil (c : Int) (i : Int) (w : World) (h_c : -9223372036854775808 ≤ c ∧ c ≤ 9223372036854775807) (h_i : -9223372036854775808 ≤ i ∧ i ≤ 9223372036854775807) : Pur Try.prog 8 [.int .i64 c, .int .i64 i] w (.bool true) := by
  refine g_start Try.func8 rfl 155 rfl (by simp) ([]) [] (WOK.start _ _) _ rfl ?_
  refine g_seq ?_
  refine g_region ?_
  refine s_q (q_assign rfl) rfl ?_
  refine g_nil ?_
  refine g_then ?_
  refine g_seq ?_
  refine g_region ?_
  refine s_q (q_assign rfl) rfl ?_
  refine g_nil ?_
  refine g_then ?_
  refine g_seq ?_
  refine g_region ?_
  refine s_q (q_move rfl) rfl ?_
  refine g_op (g_pure rfl (fun w1 hw1 => lpopN w1) rfl ?_)
  refine s_q (q_move rfl) rfl ?_
  refine s_q (q_extract rfl rfl) rfl ?_
  refine s_q (q_extract rfl rfl) rfl ?_
  refine s_q (q_extract rfl rfl) rfl ?_
  refine s_q (q_assign rfl) rfl ?_
  refine s_q (q_assign rfl) rfl ?_
  refine s_q (q_assign rfl) rfl ?_
  refine g_nil ?_
  refine g_then ?_
  refine g_seq ?_
  refine g_region ?_
  refine s_q (q_move rfl) rfl ?_
  refine g_op (g_pure rfl (fun w1 hw1 => lheadN w1) rfl ?_)
  refine s_q (q_move rfl) rfl ?_
  refine s_q (q_extract rfl rfl) rfl ?_
  refine s_q (q_extract rfl rfl) rfl ?_
  refine s_q (q_extract rfl rfl) rfl ?_
  refine s_q (q_assign rfl) rfl ?_
  refine s_q (q_assign rfl) rfl ?_
  refine s_q (q_assign rfl) rfl ?_
  refine g_nil ?_
  refine g_then ?_
  refine g_seq ?_
  refine g_region ?_
  refine g_op (g_ownS [] rfl (fun w1 hw1 ho1 => by have h7 := lnew_any (3) w1 (by omega); exact h7) rfl ?_)
  rintro ⟨b30, ba30, bb30, g30, gg30⟩ ⟨r30, s30, rr30, ss30⟩
  refine ⟨_, _, inferInstance, inferInstance, ?_⟩
  simp only at r30 s30 rr30 ss30
  refine s_q (q_assign rfl) rfl ?_
  refine g_nil ?_
  refine g_then ?_
  refine g_seq ?_
  refine g_seq ?_
  refine g_region ?_
  refine s_q (q_move rfl) rfl ?_
  refine s_q (q_eqp (b := false) rfl rfl rfl) rfl ?_
  refine g_nil ?_
  refine g_then ?_
  refine g_false rfl ?_
  refine g_skip ?_
  refine g_then ?_
  refine g_seq ?_
  refine g_region ?_
  refine s_q (q_move rfl) rfl ?_
  refine s_q (q_move rfl) rfl ?_
  refine s_q (q_move rfl) rfl ?_
  refine g_op (g_ownS [Res.blk b30 52 [Value.pointer (some ⟨ba30, 0, none⟩), Value.pointer (some ⟨bb30, 0, none⟩)], Res.blk ba30 64 (Rg.c g30), Res.row (Rg.A g30) (Rg.s g30).length (Rg.cap g30) 3 1 (Rg.s g30), Res.blk bb30 64 (Rg.c gg30), Res.row (Rg.A gg30) (Rg.s gg30).length (Rg.cap gg30) 3 1 (Rg.s gg30)] rfl (fun w1 hw1 ho1 => by have h7 := lpush_any b30 ba30 bb30 g30 gg30 (LL.mk [] []) (3) (c) (i) w1 ho1 r30 rr30 s30 ss30 (by omega); exact h7) rfl ?_)
  rintro ⟨g36, gg36⟩ ⟨r36, rr36, s36, ss36⟩
  refine ⟨_, _, inferInstance, inferInstance, ?_⟩
  simp only at r36 rr36 s36 ss36
  obtain ⟨Q, hQ⟩ : ∃ Q, Q = pushL 3 c i (LL.mk [] []) := ⟨_, rfl⟩
  rw [← hQ] at r36 rr36
  obtain ⟨E, hE⟩ : ∃ E, E = pushE 3 c (LL.mk [] []) := ⟨_, rfl⟩
  refine g_val 36 (v' := .int .i64 E) rfl (by rw [hE]) ?_
  refine s_q (q_assign rfl) rfl ?_
  refine g_nil ?_
  refine g_then ?_
  refine g_seq ?_
  refine g_seq ?_
  refine g_region ?_
  refine s_q (q_move rfl) rfl ?_
  refine g_nil ?_
  refine g_then ?_
  refine g_block ?_
  refine g_loopk [0, 1, 4, 5, 6, 7, 8, 9, 10, 11, 12, 13] (fun (x : Nat) => [(37, .int .i64 ((x : Nat) : Int))]) (fun (x : Nat) => [Res.blk b30 52 [Value.pointer (some ⟨ba30, 0, none⟩), Value.pointer (some ⟨bb30, 0, none⟩)], Res.blk ba30 64 (Rg.c g36), Res.row (Rg.A g36) (Rg.s g36).length (Rg.cap g36) 3 1 (Rg.s g36), Res.blk bb30 64 (Rg.c gg36), Res.row (Rg.A gg36) (Rg.s gg36).length (Rg.cap gg36) 3 1 (Rg.s gg36)]) (fun (x : Nat) => x ≤ 2) (fun (x : Nat) => 2 - x) 0 (by (try dsimp only); exact Nat.zero_le _) rfl (by repeat (first | exact trivial | refine ⟨rfl, ?_⟩)) wok_sub ?_
  rintro k le_k
  replace le_k : k ≤ 2 := le_k
  refine g_seq ?_
  refine g_region ?_
  refine s_q (q_lss rfl rfl) rfl ?_
  refine g_nil ?_
  refine g_then ?_
  refine g_seq ?_
  refine g_cond rfl (fun h1 => ?_) (fun h1 => ?_)
  · have lt_k : k < 2 := by have h9 := of_decide_eq_true h1; omega
    refine g_skip ?_
    refine g_then ?_
    refine g_seq ?_
    refine g_block ?_
    refine g_seq ?_
    refine g_region ?_
    refine s_q (q_move rfl) rfl ?_
    refine s_q (q_move rfl) rfl ?_
    refine g_op (g_ownS [Res.blk b30 52 [Value.pointer (some ⟨ba30, 0, none⟩), Value.pointer (some ⟨bb30, 0, none⟩)], Res.blk ba30 64 (Rg.c g36), Res.row (Rg.A g36) (Rg.s g36).length (Rg.cap g36) 3 1 (Rg.s g36), Res.blk bb30 64 (Rg.c gg36), Res.row (Rg.A gg36) (Rg.s gg36).length (Rg.cap gg36) 3 1 (Rg.s gg36)] rfl (fun w1 hw1 ho1 => by have h7 := lall_any b30 ba30 bb30 g36 gg36 Q (3) (c) w1 ho1 r36 rr36 s36 ss36 (by omega); exact h7) rfl ?_)
    rintro ⟨A41, cap41⟩ _
    refine ⟨_, _, inferInstance, inferInstance, ?_⟩
    refine s_q (q_move rfl) rfl ?_
    refine s_q (q_move rfl) rfl ?_
    refine g_op (g_ownS [Res.blk b30 52 [Value.pointer (some ⟨ba30, 0, none⟩), Value.pointer (some ⟨bb30, 0, none⟩)], Res.blk ba30 64 (Rg.c g36), Res.row (Rg.A g36) (Rg.s g36).length (Rg.cap g36) 3 1 (Rg.s g36), Res.blk bb30 64 (Rg.c gg36), Res.row (Rg.A gg36) (Rg.s gg36).length (Rg.cap gg36) 3 1 (Rg.s gg36)] rfl (fun w1 hw1 ho1 => by have h7 := lahead_any b30 ba30 bb30 g36 gg36 Q (3) (c) w1 ho1 r36 rr36 s36 ss36 (by omega); exact h7) rfl ?_)
    rintro ⟨A44, cap44⟩ _
    refine ⟨_, _, inferInstance, inferInstance, ?_⟩
    refine s_q (q_assign rfl) rfl ?_
    refine s_q (q_assign rfl) rfl ?_
    refine g_nil ?_
    refine g_then ?_
    refine g_seq ?_
    refine g_seq ?_
    refine g_region ?_
    refine s_q (q_move rfl) rfl ?_
    refine s_q (q_eql rfl rfl) rfl ?_
    refine s_q (q_move rfl) rfl ?_
    refine g_split 47 rfl (fun h2 => ?_) (fun h2 => ?_)
    · have hpe : pushE 3 c (LL.mk [] []) = 0 := by rw [← hE]; exact of_decide_eq_true h2
      refine s_qg (q_move rfl) rfl rfl rfl ?_
      refine s_qg (q_move rfl) rfl rfl rfl ?_
      refine g_gt rfl rfl (g_lit rfl rfl rfl rfl rfl fun b50 => ?_)
      refine g_blkc (b := b50) ((([i] : List Int).map (fun v : Int => [Value.int .i64 v])).flatten) rfl ?_
      refine g_gt rfl rfl (g_pure rfl (fun w1 hw1 => equal_i A41 (some ⟨b50, 0, none⟩) _ _ _ _ ((allL (c) Q)) (([i] : List Int)) w1 (Rdb.toOld (InRow.rdb (A := A41) (els := ((allL (c) Q)).map (fun v : Int => [Value.int .i64 v])) (by first | rfl | assumption | (simp; done) | (simp_all; done) | (simp; omega) | (simp_all; omega)) (map_cat (c := (fun v : Int => [Value.int .i64 v])) (fun _ => rfl) _)) hw1) (Rdb.toOld (InL.rdb (b := b50) (els := (([i] : List Int).map (fun v : Int => [Value.int .i64 v]))) rfl (by simp) rfl) hw1) (row_max (A := A41) hw1)) rfl ?_)
      refine s_qg (q_not rfl) rfl rfl rfl ?_
      refine g_litb 52 (b := false) rfl (by rw [hQ, (nil_one (i := i) hpe).1]; simp) ?_
      refine s_qg (q_move rfl) rfl rfl rfl ?_
      refine s_qg (q_move rfl) rfl rfl rfl ?_
      refine s_qg (q_move rfl) rfl rfl rfl ?_
      refine g_gt rfl rfl (g_lit rfl rfl rfl rfl rfl fun b56 => ?_)
      refine g_blkc (b := b56) ((([i] : List Int).map (fun v : Int => [Value.int .i64 v])).flatten) rfl ?_
      refine g_gt rfl rfl (g_pure rfl (fun w1 hw1 => equal_i A44 (some ⟨b56, 0, none⟩) _ _ _ _ ((aheadL (c) Q)) (([i] : List Int)) w1 (Rdb.toOld (InRow.rdb (A := A44) (els := ((aheadL (c) Q)).map (fun v : Int => [Value.int .i64 v])) (by first | rfl | assumption | (simp; done) | (simp_all; done) | (simp; omega) | (simp_all; omega)) (map_cat (c := (fun v : Int => [Value.int .i64 v])) (fun _ => rfl) _)) hw1) (Rdb.toOld (InL.rdb (b := b56) (els := (([i] : List Int).map (fun v : Int => [Value.int .i64 v]))) rfl (by simp) rfl) hw1) (row_max (A := A44) hw1)) rfl ?_)
      refine s_qg (q_not rfl) rfl rfl rfl ?_
      refine g_litb 58 (b := false) rfl (by rw [hQ, (nil_one (i := i) hpe).2]; simp) ?_
      refine s_qg (q_pick_f rfl rfl) rfl rfl rfl ?_
      refine s_q (q_pick_t rfl rfl) rfl ?_
      refine g_nil ?_
      refine g_then ?_
      refine g_false rfl ?_
      refine g_skip ?_
      refine g_then ?_
      refine g_seq ?_
      refine g_seq ?_
      refine g_region ?_
      have ln := len_one (c := c) (i := i)
      rw [← hQ] at ln
      refine s_q (q_move rfl) rfl ?_
      refine s_q (q_len rfl) rfl ?_
      refine s_q (q_move rfl) rfl ?_
      refine g_nil ?_
      refine g_then ?_
      refine g_block ?_
      refine g_loopk [0, 1, 4, 5, 6, 7, 8, 9, 10, 11, 12, 13, 14, 15, 37, 62] (fun (x : Nat × List Int) => [(63, .int .i64 ((x.1 : Nat) : Int))]) (fun (x : Nat × List Int) => [Res.row A44 (aheadL (c) Q).length cap44 3 1 (((aheadL (c) Q)).map (fun v : Int => [Value.int .i64 v])), Res.row A41 (allL (c) Q).length cap41 3 1 ((x.2).map (fun v : Int => [Value.int .i64 v])), Res.blk b30 52 [Value.pointer (some ⟨ba30, 0, none⟩), Value.pointer (some ⟨bb30, 0, none⟩)], Res.blk ba30 64 (Rg.c g36), Res.row (Rg.A g36) (Rg.s g36).length (Rg.cap g36) 3 1 (Rg.s g36), Res.blk bb30 64 (Rg.c gg36), Res.row (Rg.A gg36) (Rg.s gg36).length (Rg.cap gg36) 3 1 (Rg.s gg36)]) (fun (x : Nat × List Int) => x.1 ≤ (allL (c) Q).length ∧ (x.2).length = (allL (c) Q).length) (fun (x : Nat × List Int) => (allL (c) Q).length - x.1) (0, (allL (c) Q)) (by (try dsimp only); exact ⟨Nat.zero_le _, (by first | assumption | omega | (simp_all; done) | (simp_all; omega))⟩) rfl (by repeat (first | exact trivial | refine ⟨rfl, ?_⟩)) wok_sub ?_
      rintro ⟨j, m1⟩ ⟨le_j, hm1⟩
      replace le_j : j ≤ (allL (c) Q).length := le_j
      replace hm1 : (m1).length = (allL (c) Q).length := hm1
      refine g_setL (L' := [Res.row A44 (aheadL (c) Q).length cap44 3 1 (((aheadL (c) Q)).map (fun v : Int => [Value.int .i64 v])), Res.row A41 (allL (c) Q).length cap41 3 1 ((m1).map (fun v : Int => [Value.int .i64 v])), Res.blk b30 52 [Value.pointer (some ⟨ba30, 0, none⟩), Value.pointer (some ⟨bb30, 0, none⟩)], Res.blk ba30 64 (Rg.c g36), Res.row (Rg.A g36) (Rg.s g36).length (Rg.cap g36) 3 1 (Rg.s g36), Res.blk bb30 64 (Rg.c gg36), Res.row (Rg.A gg36) (Rg.s gg36).length (Rg.cap gg36) 3 1 (Rg.s gg36)]) rfl ?_
      refine g_val 63 (v' := .int .i64 ((j : Nat) : Int)) rfl rfl ?_
      refine g_seq ?_
      refine g_region ?_
      refine s_q (q_lss rfl rfl) rfl ?_
      refine g_nil ?_
      refine g_then ?_
      refine g_seq ?_
      refine g_cond rfl (fun h3 => ?_) (fun h3 => ?_)
      · have lt_j : j < (allL (c) Q).length := by have h9 := of_decide_eq_true h3; omega
        refine g_skip ?_
        refine g_then ?_
        refine g_seq ?_
        refine g_block ?_
        refine g_seq ?_
        refine g_region ?_
        refine s_q (q_move rfl) rfl ?_
        refine s_q (q_assign rfl) rfl ?_
        refine g_nil ?_
        refine g_then ?_
        refine g_region ?_
        refine s_q (q_move rfl) rfl ?_
        refine s_q (q_move rfl) rfl ?_
        refine s_q (q_index (i := j) rfl rfl rfl (InRow.rdb (A := A41) (els := (m1).map (fun v : Int => [Value.int .i64 v])) (by first | rfl | assumption | (simp; done) | (simp_all; done) | (simp; omega) | (simp_all; omega)) (map_cat (c := (fun v : Int => [Value.int .i64 v])) (fun _ => rfl) _)) (by first | exact lt_j | omega)) rfl ?_
        refine s_q (q_load_el (i := j) (o := 0) rfl (InRow.rdb (A := A41) (els := (m1).map (fun v : Int => [Value.int .i64 v])) (by first | rfl | assumption | (simp; done) | (simp_all; done) | (simp; omega) | (simp_all; omega)) (map_cat (c := (fun v : Int => [Value.int .i64 v])) (fun _ => rfl) _)) (map_get (by first | assumption | omega | (simp_all; done) | (simp_all; omega))) rfl rfl) rfl ?_
        refine s_q (q_add rfl rfl) rfl ?_
        refine s_q (q_index (i := j) rfl rfl rfl (InRow.rdb (A := A41) (els := (m1).map (fun v : Int => [Value.int .i64 v])) (by first | rfl | assumption | (simp; done) | (simp_all; done) | (simp; omega) | (simp_all; omega)) (map_cat (c := (fun v : Int => [Value.int .i64 v])) (fun _ => rfl) _)) (by first | exact lt_j | omega)) rfl ?_
        refine g_op (g_store_el (A := A41) (i := j) (o := 0) (cs' := (fun v : Int => [Value.int .i64 v]) ((IntKind.i64.wrap (m1[j] + 1)))) rfl rfl rfl rfl rfl (map_get (by first | assumption | omega | (simp_all; done) | (simp_all; omega))) (by first | (simp; done) | exact Nat.le_refl _) rfl rfl ?_)
        refine g_rowels (A := A41) ((m1.set j (IntKind.i64.wrap (m1[j] + 1))).map (fun v : Int => [Value.int .i64 v])) (by rw [List.map_set]) ?_
        refine g_nil ?_
        refine g_blk_n ?_
        refine g_then ?_
        refine g_region ?_
        refine s_q (q_inc rfl rfl (by omega)) rfl ?_
        refine s_q (q_move rfl) rfl ?_
        refine g_nil ?_
        exact g_again ((j + 1), (m1.set j (IntKind.i64.wrap (m1[j] + 1)))) (by (try dsimp only); exact ⟨(by first | exact lt_j | omega), (by simpa using hm1)⟩) (by first | omega | (simp only; omega)) (by repeat (first | exact trivial | refine ⟨rfl, ?_⟩)) wok_sub
      · have eq_j : j = (allL (c) Q).length := by have h9 := of_decide_eq_false h3; omega
        refine g_exit ?_
        refine g_then_x (g_then_x (g_blk_hit ?_))
        refine g_then ?_
        refine g_seq ?_
        refine g_region ?_
        refine s_q (q_move rfl) rfl ?_
        refine s_q (q_len rfl) rfl ?_
        refine s_q (q_move rfl) rfl ?_
        refine g_nil ?_
        refine g_then ?_
        refine g_block ?_
        refine g_loopk [0, 1, 4, 5, 6, 7, 8, 9, 10, 11, 12, 13, 15, 37, 74] (fun (x : Nat × List Int) => [(75, .int .i64 ((x.1 : Nat) : Int))]) (fun (x : Nat × List Int) => [Res.row A44 (aheadL (c) Q).length cap44 3 1 ((x.2).map (fun v : Int => [Value.int .i64 v])), Res.row A41 (allL (c) Q).length cap41 3 1 ((m1).map (fun v : Int => [Value.int .i64 v])), Res.blk b30 52 [Value.pointer (some ⟨ba30, 0, none⟩), Value.pointer (some ⟨bb30, 0, none⟩)], Res.blk ba30 64 (Rg.c g36), Res.row (Rg.A g36) (Rg.s g36).length (Rg.cap g36) 3 1 (Rg.s g36), Res.blk bb30 64 (Rg.c gg36), Res.row (Rg.A gg36) (Rg.s gg36).length (Rg.cap gg36) 3 1 (Rg.s gg36)]) (fun (x : Nat × List Int) => x.1 ≤ (aheadL (c) Q).length ∧ (x.2).length = (aheadL (c) Q).length) (fun (x : Nat × List Int) => (aheadL (c) Q).length - x.1) (0, (aheadL (c) Q)) (by (try dsimp only); exact ⟨Nat.zero_le _, (by first | assumption | omega | (simp_all; done) | (simp_all; omega))⟩) rfl (by repeat (first | exact trivial | refine ⟨rfl, ?_⟩)) wok_sub ?_
        rintro ⟨j2, m2⟩ ⟨le_j2, hm2⟩
        replace le_j2 : j2 ≤ (aheadL (c) Q).length := le_j2
        replace hm2 : (m2).length = (aheadL (c) Q).length := hm2
        refine g_setL (L' := [Res.row A44 (aheadL (c) Q).length cap44 3 1 ((m2).map (fun v : Int => [Value.int .i64 v])), Res.row A41 (allL (c) Q).length cap41 3 1 ((m1).map (fun v : Int => [Value.int .i64 v])), Res.blk b30 52 [Value.pointer (some ⟨ba30, 0, none⟩), Value.pointer (some ⟨bb30, 0, none⟩)], Res.blk ba30 64 (Rg.c g36), Res.row (Rg.A g36) (Rg.s g36).length (Rg.cap g36) 3 1 (Rg.s g36), Res.blk bb30 64 (Rg.c gg36), Res.row (Rg.A gg36) (Rg.s gg36).length (Rg.cap gg36) 3 1 (Rg.s gg36)]) rfl ?_
        refine g_val 75 (v' := .int .i64 ((j2 : Nat) : Int)) rfl rfl ?_
        refine g_seq ?_
        refine g_region ?_
        refine s_q (q_lss rfl rfl) rfl ?_
        refine g_nil ?_
        refine g_then ?_
        refine g_seq ?_
        refine g_cond rfl (fun h4 => ?_) (fun h4 => ?_)
        · have lt_j2 : j2 < (aheadL (c) Q).length := by have h9 := of_decide_eq_true h4; omega
          refine g_skip ?_
          refine g_then ?_
          refine g_seq ?_
          refine g_block ?_
          refine g_seq ?_
          refine g_region ?_
          refine s_q (q_move rfl) rfl ?_
          refine s_q (q_assign rfl) rfl ?_
          refine g_nil ?_
          refine g_then ?_
          refine g_region ?_
          refine s_q (q_move rfl) rfl ?_
          refine s_q (q_move rfl) rfl ?_
          refine s_q (q_index (i := j2) rfl rfl rfl (InRow.rdb (A := A44) (els := (m2).map (fun v : Int => [Value.int .i64 v])) (by first | rfl | assumption | (simp; done) | (simp_all; done) | (simp; omega) | (simp_all; omega)) (map_cat (c := (fun v : Int => [Value.int .i64 v])) (fun _ => rfl) _)) (by first | exact lt_j2 | omega)) rfl ?_
          refine s_q (q_load_el (i := j2) (o := 0) rfl (InRow.rdb (A := A44) (els := (m2).map (fun v : Int => [Value.int .i64 v])) (by first | rfl | assumption | (simp; done) | (simp_all; done) | (simp; omega) | (simp_all; omega)) (map_cat (c := (fun v : Int => [Value.int .i64 v])) (fun _ => rfl) _)) (map_get (by first | assumption | omega | (simp_all; done) | (simp_all; omega))) rfl rfl) rfl ?_
          refine s_q (q_sub rfl rfl) rfl ?_
          refine s_q (q_index (i := j2) rfl rfl rfl (InRow.rdb (A := A44) (els := (m2).map (fun v : Int => [Value.int .i64 v])) (by first | rfl | assumption | (simp; done) | (simp_all; done) | (simp; omega) | (simp_all; omega)) (map_cat (c := (fun v : Int => [Value.int .i64 v])) (fun _ => rfl) _)) (by first | exact lt_j2 | omega)) rfl ?_
          refine g_op (g_store_el (A := A44) (i := j2) (o := 0) (cs' := (fun v : Int => [Value.int .i64 v]) ((IntKind.i64.wrap (m2[j2] - 1)))) rfl rfl rfl rfl rfl (map_get (by first | assumption | omega | (simp_all; done) | (simp_all; omega))) (by first | (simp; done) | exact Nat.le_refl _) rfl rfl ?_)
          refine g_rowels (A := A44) ((m2.set j2 (IntKind.i64.wrap (m2[j2] - 1))).map (fun v : Int => [Value.int .i64 v])) (by rw [List.map_set]) ?_
          refine g_nil ?_
          refine g_blk_n ?_
          refine g_then ?_
          refine g_region ?_
          refine s_q (q_inc rfl rfl (by omega)) rfl ?_
          refine s_q (q_move rfl) rfl ?_
          refine g_nil ?_
          exact g_again ((j2 + 1), (m2.set j2 (IntKind.i64.wrap (m2[j2] - 1)))) (by (try dsimp only); exact ⟨(by first | exact lt_j2 | omega), (by simpa using hm2)⟩) (by first | omega | (simp only; omega)) (by repeat (first | exact trivial | refine ⟨rfl, ?_⟩)) wok_sub
        · have eq_j2 : j2 = (aheadL (c) Q).length := by have h9 := of_decide_eq_false h4; omega
          refine g_exit ?_
          refine g_then_x (g_then_x (g_blk_hit ?_))
          refine g_blk_n ?_
          refine g_then ?_
          refine g_region ?_
          refine s_q (q_inc rfl rfl (by omega)) rfl ?_
          refine s_q (q_move rfl) rfl ?_
          refine g_nil ?_
          exact g_again (k + 1) (by (try dsimp only); exact (by first | exact lt_k | omega)) (by first | omega | (simp only; omega)) (by repeat (first | exact trivial | refine ⟨rfl, ?_⟩)) wok_sub
    · refine g_gf rfl rfl rfl rfl ?_
      refine g_gf rfl rfl rfl rfl ?_
      refine g_gf rfl rfl rfl rfl ?_
      refine g_gf rfl rfl rfl rfl ?_
      refine g_gf rfl rfl rfl rfl ?_
      refine g_gf rfl rfl rfl rfl ?_
      refine g_gu rfl rfl rfl ?_
      refine g_gu rfl rfl rfl ?_
      refine g_gu rfl rfl rfl ?_
      refine g_gu rfl rfl rfl ?_
      refine g_gu rfl rfl rfl ?_
      refine g_gf rfl rfl rfl rfl ?_
      refine s_q (q_pick_f rfl rfl) rfl ?_
      refine g_nil ?_
      refine g_then ?_
      refine g_false rfl ?_
      refine g_skip ?_
      refine g_then ?_
      refine g_seq ?_
      refine g_seq ?_
      refine g_region ?_
      have ln := len_one (c := c) (i := i)
      rw [← hQ] at ln
      refine s_q (q_move rfl) rfl ?_
      refine s_q (q_len rfl) rfl ?_
      refine s_q (q_move rfl) rfl ?_
      refine g_nil ?_
      refine g_then ?_
      refine g_block ?_
      refine g_loopk [0, 1, 4, 5, 6, 7, 8, 9, 10, 11, 12, 13, 14, 15, 37, 62] (fun (x : Nat × List Int) => [(63, .int .i64 ((x.1 : Nat) : Int))]) (fun (x : Nat × List Int) => [Res.row A44 (aheadL (c) Q).length cap44 3 1 (((aheadL (c) Q)).map (fun v : Int => [Value.int .i64 v])), Res.row A41 (allL (c) Q).length cap41 3 1 ((x.2).map (fun v : Int => [Value.int .i64 v])), Res.blk b30 52 [Value.pointer (some ⟨ba30, 0, none⟩), Value.pointer (some ⟨bb30, 0, none⟩)], Res.blk ba30 64 (Rg.c g36), Res.row (Rg.A g36) (Rg.s g36).length (Rg.cap g36) 3 1 (Rg.s g36), Res.blk bb30 64 (Rg.c gg36), Res.row (Rg.A gg36) (Rg.s gg36).length (Rg.cap gg36) 3 1 (Rg.s gg36)]) (fun (x : Nat × List Int) => x.1 ≤ (allL (c) Q).length ∧ (x.2).length = (allL (c) Q).length) (fun (x : Nat × List Int) => (allL (c) Q).length - x.1) (0, (allL (c) Q)) (by (try dsimp only); exact ⟨Nat.zero_le _, (by first | assumption | omega | (simp_all; done) | (simp_all; omega))⟩) rfl (by repeat (first | exact trivial | refine ⟨rfl, ?_⟩)) wok_sub ?_
      rintro ⟨j, m1⟩ ⟨le_j, hm1⟩
      replace le_j : j ≤ (allL (c) Q).length := le_j
      replace hm1 : (m1).length = (allL (c) Q).length := hm1
      refine g_setL (L' := [Res.row A44 (aheadL (c) Q).length cap44 3 1 (((aheadL (c) Q)).map (fun v : Int => [Value.int .i64 v])), Res.row A41 (allL (c) Q).length cap41 3 1 ((m1).map (fun v : Int => [Value.int .i64 v])), Res.blk b30 52 [Value.pointer (some ⟨ba30, 0, none⟩), Value.pointer (some ⟨bb30, 0, none⟩)], Res.blk ba30 64 (Rg.c g36), Res.row (Rg.A g36) (Rg.s g36).length (Rg.cap g36) 3 1 (Rg.s g36), Res.blk bb30 64 (Rg.c gg36), Res.row (Rg.A gg36) (Rg.s gg36).length (Rg.cap gg36) 3 1 (Rg.s gg36)]) rfl ?_
      refine g_val 63 (v' := .int .i64 ((j : Nat) : Int)) rfl rfl ?_
      refine g_seq ?_
      refine g_region ?_
      refine s_q (q_lss rfl rfl) rfl ?_
      refine g_nil ?_
      refine g_then ?_
      refine g_seq ?_
      refine g_cond rfl (fun h5 => ?_) (fun h5 => ?_)
      · have lt_j : j < (allL (c) Q).length := by have h9 := of_decide_eq_true h5; omega
        refine g_skip ?_
        refine g_then ?_
        refine g_seq ?_
        refine g_block ?_
        refine g_seq ?_
        refine g_region ?_
        refine s_q (q_move rfl) rfl ?_
        refine s_q (q_assign rfl) rfl ?_
        refine g_nil ?_
        refine g_then ?_
        refine g_region ?_
        refine s_q (q_move rfl) rfl ?_
        refine s_q (q_move rfl) rfl ?_
        refine s_q (q_index (i := j) rfl rfl rfl (InRow.rdb (A := A41) (els := (m1).map (fun v : Int => [Value.int .i64 v])) (by first | rfl | assumption | (simp; done) | (simp_all; done) | (simp; omega) | (simp_all; omega)) (map_cat (c := (fun v : Int => [Value.int .i64 v])) (fun _ => rfl) _)) (by first | exact lt_j | omega)) rfl ?_
        refine s_q (q_load_el (i := j) (o := 0) rfl (InRow.rdb (A := A41) (els := (m1).map (fun v : Int => [Value.int .i64 v])) (by first | rfl | assumption | (simp; done) | (simp_all; done) | (simp; omega) | (simp_all; omega)) (map_cat (c := (fun v : Int => [Value.int .i64 v])) (fun _ => rfl) _)) (map_get (by first | assumption | omega | (simp_all; done) | (simp_all; omega))) rfl rfl) rfl ?_
        refine s_q (q_add rfl rfl) rfl ?_
        refine s_q (q_index (i := j) rfl rfl rfl (InRow.rdb (A := A41) (els := (m1).map (fun v : Int => [Value.int .i64 v])) (by first | rfl | assumption | (simp; done) | (simp_all; done) | (simp; omega) | (simp_all; omega)) (map_cat (c := (fun v : Int => [Value.int .i64 v])) (fun _ => rfl) _)) (by first | exact lt_j | omega)) rfl ?_
        refine g_op (g_store_el (A := A41) (i := j) (o := 0) (cs' := (fun v : Int => [Value.int .i64 v]) ((IntKind.i64.wrap (m1[j] + 1)))) rfl rfl rfl rfl rfl (map_get (by first | assumption | omega | (simp_all; done) | (simp_all; omega))) (by first | (simp; done) | exact Nat.le_refl _) rfl rfl ?_)
        refine g_rowels (A := A41) ((m1.set j (IntKind.i64.wrap (m1[j] + 1))).map (fun v : Int => [Value.int .i64 v])) (by rw [List.map_set]) ?_
        refine g_nil ?_
        refine g_blk_n ?_
        refine g_then ?_
        refine g_region ?_
        refine s_q (q_inc rfl rfl (by omega)) rfl ?_
        refine s_q (q_move rfl) rfl ?_
        refine g_nil ?_
        exact g_again ((j + 1), (m1.set j (IntKind.i64.wrap (m1[j] + 1)))) (by (try dsimp only); exact ⟨(by first | exact lt_j | omega), (by simpa using hm1)⟩) (by first | omega | (simp only; omega)) (by repeat (first | exact trivial | refine ⟨rfl, ?_⟩)) wok_sub
      · have eq_j : j = (allL (c) Q).length := by have h9 := of_decide_eq_false h5; omega
        refine g_exit ?_
        refine g_then_x (g_then_x (g_blk_hit ?_))
        refine g_then ?_
        refine g_seq ?_
        refine g_region ?_
        refine s_q (q_move rfl) rfl ?_
        refine s_q (q_len rfl) rfl ?_
        refine s_q (q_move rfl) rfl ?_
        refine g_nil ?_
        refine g_then ?_
        refine g_block ?_
        refine g_loopk [0, 1, 4, 5, 6, 7, 8, 9, 10, 11, 12, 13, 15, 37, 74] (fun (x : Nat × List Int) => [(75, .int .i64 ((x.1 : Nat) : Int))]) (fun (x : Nat × List Int) => [Res.row A44 (aheadL (c) Q).length cap44 3 1 ((x.2).map (fun v : Int => [Value.int .i64 v])), Res.row A41 (allL (c) Q).length cap41 3 1 ((m1).map (fun v : Int => [Value.int .i64 v])), Res.blk b30 52 [Value.pointer (some ⟨ba30, 0, none⟩), Value.pointer (some ⟨bb30, 0, none⟩)], Res.blk ba30 64 (Rg.c g36), Res.row (Rg.A g36) (Rg.s g36).length (Rg.cap g36) 3 1 (Rg.s g36), Res.blk bb30 64 (Rg.c gg36), Res.row (Rg.A gg36) (Rg.s gg36).length (Rg.cap gg36) 3 1 (Rg.s gg36)]) (fun (x : Nat × List Int) => x.1 ≤ (aheadL (c) Q).length ∧ (x.2).length = (aheadL (c) Q).length) (fun (x : Nat × List Int) => (aheadL (c) Q).length - x.1) (0, (aheadL (c) Q)) (by (try dsimp only); exact ⟨Nat.zero_le _, (by first | assumption | omega | (simp_all; done) | (simp_all; omega))⟩) rfl (by repeat (first | exact trivial | refine ⟨rfl, ?_⟩)) wok_sub ?_
        rintro ⟨j2, m2⟩ ⟨le_j2, hm2⟩
        replace le_j2 : j2 ≤ (aheadL (c) Q).length := le_j2
        replace hm2 : (m2).length = (aheadL (c) Q).length := hm2
        refine g_setL (L' := [Res.row A44 (aheadL (c) Q).length cap44 3 1 ((m2).map (fun v : Int => [Value.int .i64 v])), Res.row A41 (allL (c) Q).length cap41 3 1 ((m1).map (fun v : Int => [Value.int .i64 v])), Res.blk b30 52 [Value.pointer (some ⟨ba30, 0, none⟩), Value.pointer (some ⟨bb30, 0, none⟩)], Res.blk ba30 64 (Rg.c g36), Res.row (Rg.A g36) (Rg.s g36).length (Rg.cap g36) 3 1 (Rg.s g36), Res.blk bb30 64 (Rg.c gg36), Res.row (Rg.A gg36) (Rg.s gg36).length (Rg.cap gg36) 3 1 (Rg.s gg36)]) rfl ?_
        refine g_val 75 (v' := .int .i64 ((j2 : Nat) : Int)) rfl rfl ?_
        refine g_seq ?_
        refine g_region ?_
        refine s_q (q_lss rfl rfl) rfl ?_
        refine g_nil ?_
        refine g_then ?_
        refine g_seq ?_
        refine g_cond rfl (fun h6 => ?_) (fun h6 => ?_)
        · have lt_j2 : j2 < (aheadL (c) Q).length := by have h9 := of_decide_eq_true h6; omega
          refine g_skip ?_
          refine g_then ?_
          refine g_seq ?_
          refine g_block ?_
          refine g_seq ?_
          refine g_region ?_
          refine s_q (q_move rfl) rfl ?_
          refine s_q (q_assign rfl) rfl ?_
          refine g_nil ?_
          refine g_then ?_
          refine g_region ?_
          refine s_q (q_move rfl) rfl ?_
          refine s_q (q_move rfl) rfl ?_
          refine s_q (q_index (i := j2) rfl rfl rfl (InRow.rdb (A := A44) (els := (m2).map (fun v : Int => [Value.int .i64 v])) (by first | rfl | assumption | (simp; done) | (simp_all; done) | (simp; omega) | (simp_all; omega)) (map_cat (c := (fun v : Int => [Value.int .i64 v])) (fun _ => rfl) _)) (by first | exact lt_j2 | omega)) rfl ?_
          refine s_q (q_load_el (i := j2) (o := 0) rfl (InRow.rdb (A := A44) (els := (m2).map (fun v : Int => [Value.int .i64 v])) (by first | rfl | assumption | (simp; done) | (simp_all; done) | (simp; omega) | (simp_all; omega)) (map_cat (c := (fun v : Int => [Value.int .i64 v])) (fun _ => rfl) _)) (map_get (by first | assumption | omega | (simp_all; done) | (simp_all; omega))) rfl rfl) rfl ?_
          refine s_q (q_sub rfl rfl) rfl ?_
          refine s_q (q_index (i := j2) rfl rfl rfl (InRow.rdb (A := A44) (els := (m2).map (fun v : Int => [Value.int .i64 v])) (by first | rfl | assumption | (simp; done) | (simp_all; done) | (simp; omega) | (simp_all; omega)) (map_cat (c := (fun v : Int => [Value.int .i64 v])) (fun _ => rfl) _)) (by first | exact lt_j2 | omega)) rfl ?_
          refine g_op (g_store_el (A := A44) (i := j2) (o := 0) (cs' := (fun v : Int => [Value.int .i64 v]) ((IntKind.i64.wrap (m2[j2] - 1)))) rfl rfl rfl rfl rfl (map_get (by first | assumption | omega | (simp_all; done) | (simp_all; omega))) (by first | (simp; done) | exact Nat.le_refl _) rfl rfl ?_)
          refine g_rowels (A := A44) ((m2.set j2 (IntKind.i64.wrap (m2[j2] - 1))).map (fun v : Int => [Value.int .i64 v])) (by rw [List.map_set]) ?_
          refine g_nil ?_
          refine g_blk_n ?_
          refine g_then ?_
          refine g_region ?_
          refine s_q (q_inc rfl rfl (by omega)) rfl ?_
          refine s_q (q_move rfl) rfl ?_
          refine g_nil ?_
          exact g_again ((j2 + 1), (m2.set j2 (IntKind.i64.wrap (m2[j2] - 1)))) (by (try dsimp only); exact ⟨(by first | exact lt_j2 | omega), (by simpa using hm2)⟩) (by first | omega | (simp only; omega)) (by repeat (first | exact trivial | refine ⟨rfl, ?_⟩)) wok_sub
        · have eq_j2 : j2 = (aheadL (c) Q).length := by have h9 := of_decide_eq_false h6; omega
          refine g_exit ?_
          refine g_then_x (g_then_x (g_blk_hit ?_))
          refine g_blk_n ?_
          refine g_then ?_
          refine g_region ?_
          refine s_q (q_inc rfl rfl (by omega)) rfl ?_
          refine s_q (q_move rfl) rfl ?_
          refine g_nil ?_
          exact g_again (k + 1) (by (try dsimp only); exact (by first | exact lt_k | omega)) (by first | omega | (simp only; omega)) (by repeat (first | exact trivial | refine ⟨rfl, ?_⟩)) wok_sub
  · have eq_k : k = 2 := by have h9 := of_decide_eq_false h1; omega
    refine g_exit ?_
    refine g_then_x (g_then_x (g_blk_hit ?_))
    refine g_then ?_
    refine g_seq ?_
    refine g_region ?_
    refine g_op (g_pure rfl (fun w1 hw1 => alive_any w1) rfl ?_)
    refine s_q (q_move rfl) rfl ?_
    refine s_qg (q_move rfl) rfl rfl rfl ?_
    refine s_qg (q_move rfl) rfl rfl rfl ?_
    refine s_qg (q_move rfl) rfl rfl rfl ?_
    refine g_gt rfl rfl (g_pure rfl (fun w1 hw1 => lpushN _ _ w1) rfl ?_)
    refine s_qg (q_eql rfl rfl) rfl rfl rfl ?_
    refine g_litb 92 (b := true) rfl (by decide) ?_
    refine s_q (q_pick_t rfl rfl) rfl ?_
    refine s_q (q_move rfl) rfl ?_
    refine s_qg (q_move rfl) rfl rfl rfl ?_
    refine s_qg (q_eql rfl rfl) rfl rfl rfl ?_
    refine g_litb 96 (b := true) rfl (by decide) ?_
    refine s_q (q_pick_t rfl rfl) rfl ?_
    refine s_q (q_move rfl) rfl ?_
    refine s_qg (q_move rfl) rfl rfl rfl ?_
    refine s_qg (q_eql rfl rfl) rfl rfl rfl ?_
    refine g_litb 100 (b := true) rfl (by decide) ?_
    refine s_q (q_pick_t rfl rfl) rfl ?_
    refine s_q (q_move rfl) rfl ?_
    refine s_qg (q_move rfl) rfl rfl rfl ?_
    refine s_qg (q_not rfl) rfl rfl rfl ?_
    refine s_q (q_pick_t rfl rfl) rfl ?_
    refine s_q (q_move rfl) rfl ?_
    refine s_qg (q_move rfl) rfl rfl rfl ?_
    refine s_qg (q_eql rfl rfl) rfl rfl rfl ?_
    refine g_litb 108 (b := true) rfl (by decide) ?_
    refine s_q (q_pick_t rfl rfl) rfl ?_
    refine s_q (q_move rfl) rfl ?_
    refine s_qg (q_move rfl) rfl rfl rfl ?_
    refine s_qg (q_eql rfl rfl) rfl rfl rfl ?_
    refine g_litb 112 (b := true) rfl (by decide) ?_
    refine s_q (q_pick_t rfl rfl) rfl ?_
    refine s_q (q_move rfl) rfl ?_
    refine s_qg (q_move rfl) rfl rfl rfl ?_
    refine s_qg (q_not rfl) rfl rfl rfl ?_
    refine s_q (q_pick_t rfl rfl) rfl ?_
    refine s_q (q_move rfl) rfl ?_
    refine s_qg (q_move rfl) rfl rfl rfl ?_
    refine s_qg (q_move rfl) rfl rfl rfl ?_
    refine g_gt rfl rfl (g_pure rfl (fun w1 hw1 => llenN _ w1) rfl ?_)
    refine s_qg (q_eql rfl rfl) rfl rfl rfl ?_
    refine g_litb 122 (b := true) rfl (by decide) ?_
    refine s_q (q_pick_t rfl rfl) rfl ?_
    refine s_q (q_move rfl) rfl ?_
    refine s_qg (q_move rfl) rfl rfl rfl ?_
    refine s_qg (q_move rfl) rfl rfl rfl ?_
    refine g_gt rfl rfl (g_pure rfl (fun w1 hw1 => lfreeN _ w1) rfl ?_)
    refine s_qg (q_eql rfl rfl) rfl rfl rfl ?_
    refine g_litb 128 (b := true) rfl (by decide) ?_
    refine s_q (q_pick_t rfl rfl) rfl ?_
    refine s_q (q_move rfl) rfl ?_
    refine s_qg (q_move rfl) rfl rfl rfl ?_
    refine s_qg (q_move rfl) rfl rfl rfl ?_
    refine g_gt rfl rfl (g_pure rfl (fun w1 hw1 => lallN _ w1) rfl ?_)
    refine s_qg (q_len rfl) rfl rfl rfl ?_
    refine s_qg (q_eql rfl rfl) rfl rfl rfl ?_
    refine g_litb 135 (b := true) rfl (by decide) ?_
    refine s_q (q_pick_t rfl rfl) rfl ?_
    refine s_q (q_move rfl) rfl ?_
    refine s_qg (q_move rfl) rfl rfl rfl ?_
    refine s_qg (q_move rfl) rfl rfl rfl ?_
    refine g_gt rfl rfl (g_pure rfl (fun w1 hw1 => laheadN _ w1) rfl ?_)
    refine s_qg (q_len rfl) rfl rfl rfl ?_
    refine s_qg (q_eql rfl rfl) rfl rfl rfl ?_
    refine g_litb 142 (b := true) rfl (by decide) ?_
    refine s_q (q_pick_t rfl rfl) rfl ?_
    refine s_q (q_move rfl) rfl ?_
    refine s_qg (q_move rfl) rfl rfl rfl ?_
    refine s_qg (q_eql rfl rfl) rfl rfl rfl ?_
    refine s_qg (q_move rfl) rfl rfl rfl ?_
    refine s_qg (q_eql rfl rfl) rfl rfl rfl ?_
    refine s_qg (q_move rfl) rfl rfl rfl ?_
    refine g_split 149 rfl (fun h7 => ?_) (fun h7 => ?_)
    · refine g_gf rfl rfl rfl rfl ?_
      refine g_gf rfl rfl rfl rfl ?_
      refine s_qg (q_pick_t rfl rfl) rfl rfl rfl ?_
      refine s_qg (q_eql_bool (by kernel_rfl) rfl rfl) rfl rfl rfl ?_
      refine g_litb 153 (b := true) rfl (by have h9 := nil_last c; rw [← hE] at h9; simp_all) ?_
      refine s_q (q_pick_t rfl rfl) rfl ?_
      refine s_q (q_assign rfl) rfl ?_
      refine g_nil ?_
      refine g_then ?_
      refine g_ret ?_
      exact fin1 rfl (.tmp rfl) (fun w' hw' => ⟨by first | rfl | (simp_all; done) | (simp_all; omega), hw'.upd⟩) _ (.inl rfl)
    · refine s_qg (q_move rfl) rfl rfl rfl ?_
      refine s_qg (q_eql rfl rfl) rfl rfl rfl ?_
      refine s_qg (q_pick_f rfl rfl) rfl rfl rfl ?_
      refine s_qg (q_eql_bool (by kernel_rfl) rfl rfl) rfl rfl rfl ?_
      refine g_litb 153 (b := true) rfl (by have h9 := nil_last c; rw [← hE] at h9; simp_all) ?_
      refine s_q (q_pick_t rfl rfl) rfl ?_
      refine s_q (q_assign rfl) rfl ?_
      refine g_nil ?_
      refine g_then ?_
      refine g_ret ?_
      exact fin1 rfl (.tmp rfl) (fun w' hw' => ⟨by first | rfl | (simp_all; done) | (simp_all; omega), hw'.upd⟩) _ (.inl rfl)

theorem main_lanesNil (v0 : Value) (v1 : Value) (W : World) (a0 : Arg Try.prog W 3 v0) (a1 : Arg Try.prog W 3 v1) : Pur Try.prog 8 [v0, v1] W (.bool true) := by
  obtain ⟨c, rfl, h_c⟩ := Arg.int Try.underlying3 a0
  obtain ⟨i, rfl, h_i⟩ := Arg.int Try.underlying3 a1
  exact law_lanesNil c i W h_c h_i

namespace LawLanesNil
open Go.ChangeShapes Go.WideShapes Go.ChangeAt Go.RowKit Go.Eg
set_option linter.unusedVariables false
theorem own : ownKnob Try.prog.godebug = none := by kernel_rfl
theorem laidOut : laidOutB Try.prog = true := by kernel_rfl
set_option maxRecDepth 100000 in
theorem lifted (os : Os) (started : os.Started) (H : Type) (enc : TypeId × Value → H) :
    ReturnsInHanded {} Try.checked os 8 .any (Rows.lanesNilSpec.pre6 enc Try.prog Try.f8 Rows.lanesNilRow.domain false) (Rows.lanesNilSpec.post enc Try.prog Try.f8 false true false false) := by
  refine returnsInHanded_of_change (C := Try.checked) own started (by kernel_rfl) Try.func8
    (ChangeSpec.witness6 (enc := enc) (C := Try.checked) false ⟨#[], #[.int .i64 0, .int .i64 0], []⟩ 8 (by kernel_rfl) (by kernel_rfl) (by kernel_rfl) (by kernel_rfl)) ?_
  intro W base args ds gs before hval0 hW hcnd _
  have hval : ∀ (j : Nat) t v, Try.f8.params[j]? = some t → args[j]? = some v → Value.okWide Try.prog W .any base t v := hval0
  have hW' := hW
  obtain ⟨p, q, hA0, hV, rfl, hfz, hnd⟩ := hW
  have hA : DataW.TrodAll enc Try.prog W 0 (fun _ => true) true Try.f8.params.toList args.toList ds p := hA0
  rw [Try.params8] at hA hval
  obtain ⟨v0, vs0, d0, ds0, p0, q0, hargs, rfl, rfl, h0, r0⟩ := trodAll_cons hA
  obtain ⟨v1, vs1, d1, ds1, p1, q1, rfl, rfl, rfl, h1, r1⟩ := trodAll_cons r0
  obtain ⟨rfl, rfl, rfl⟩ := trodAll_nil r1
  obtain rfl : args = #[v0, v1] := by cases args; simp_all
  obtain ⟨rfl, rfl⟩ := trodVars_none hV
  have a0 := Arg.of h0 (hval 0 3 v0 rfl rfl)
  have lt0 : ∀ x ∈ p0, x.block < W.heap.size := by obtain ⟨m, hm⟩ := h0; exact DataW.trod_lt m _ _ _ hm
  have a1 := Arg.of h1 (hval 1 3 v1 rfl rfl)
  have lt1 : ∀ x ∈ p1, x.block < W.heap.size := by obtain ⟨m, hm⟩ := h1; exact DataW.trod_lt m _ _ _ hm
  clear hA0 hval0
  simp only [List.append_nil] at hW'
  refine Calls.mono (main_lanesNil v0 v1 W a0 a1) ?_
  rintro e W' ⟨v, rfl, rfl, hu⟩
  have bel := hu.below
  have targ := (trodAll_cons_mk (Below.trod laidOut (by kernel_rfl) (of_decide_eq_true (by kernel_rfl)) h0 bel lt0) (trodAll_cons_mk (Below.trod laidOut (by kernel_rfl) (of_decide_eq_true (by kernel_rfl)) h1 bel lt1) trodAll_mk0))
  simp only [List.append_nil] at targ
  exact ⟨_, rfl, _, _, _, [], _, [], hW', trodAll_mk1 (shut_bool Try.underlying4 _), targ, rfl, bel.frame _, fun h => by cases h⟩
theorem over : Rows.lanesNilRow.holds Try.pinned (OpenSpec.ofChange Rows.lanesNilSpec) :=
  OpenClaim.holds_of_wide 8 Try.f8 rfl rfl rfl rfl rfl rfl rfl ⟨rfl, rfl, rfl, rfl, rfl⟩ rfl rfl rfl rfl rfl (by kernel_rfl) Try.func8 (by kernel_rfl)
    (of_decide_eq_true (by kernel_rfl)) (by unfold Func.isWrapper; first | (rw [if_pos (by decide +kernel)]; kernel_rfl) | (rw [if_neg (by decide +kernel)]; exact ⟨rfl, rfl⟩))
    (fun os started H enc _ => lifted os started H enc)
theorem proved : Rows.LanesNilSaid := over
end LawLanesNil
end Go.Proofs.Ytdkedinnijobiaa
