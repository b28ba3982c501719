/- RingOrder: for every size, list and number the law returns true. No condition. -/
import Derived.Test.YtjhamghjnilgfaaW2
namespace Go.Proofs.Ytjhamghjnilgfaa
open Go.RowKit Go.Eg
set_option linter.unusedSimpArgs false
set_option linter.unusedVariables false
theorem head_tail {l : List Int} (h : l.head?.isSome = true) : [l.head?.getD 0] ++ l.tail = l := by cases l with | nil => simp at h | cons x r => rfl
theorem tail_none {l : List Int} (h : l.head?.isSome = false) : l.tail = l := by cases l with | nil => rfl | cons x r => simp at h

set_option maxHeartbeats 400000 in
theorem law_ringOrder (n : Nat) (A_l : Option Addr) (c_l : Nat) (l : List Int) (e : Nat) (w : World) (h_n : n < 256) (o_l : Old w A_l l.length 1 (l.map (fun v : Int => [Value.int .i64 v]))) (h_l : l.length ≤ c_l ∧ c_l ≤ 9223372036854775807) (k_l : ∀ x ∈ l, (fun x : Int => -9223372036854775808 ≤ x ∧ x ≤ 9223372036854775807) x) (h_e : e < 256) : Pur Try.prog 4 [.int .u8 ((n : Nat) : Int), .slice A_l l.length c_l, .int .u8 ((e : Nat) : Int)] w (.bool true) := by
  refine g_start Try.func4 rfl 86 rfl (by simp) ([]) [] (WOK.start _ _) _ rfl ?_
  refine g_seq ?_
  refine g_region ?_
  refine s_q (q_assign rfl) rfl ?_
  refine g_nil ?_
  refine g_then ?_
  refine g_seq ?_
  refine g_seq ?_
  refine g_region ?_
  refine s_q (q_move rfl) rfl ?_
  refine s_q (q_len rfl) rfl ?_
  refine s_q (q_gtr rfl rfl) rfl ?_
  refine g_nil ?_
  refine g_then ?_
  refine g_cond rfl (fun h1 => ?_) (fun h1 => ?_)
  · refine g_seq ?_
    refine g_region ?_
    refine g_op (g_pure rfl (fun w1 hw1 => alive_any w1) rfl ?_)
    refine s_q (q_assign rfl) rfl ?_
    refine g_nil ?_
    refine g_then ?_
    refine g_ret ?_
    refine g_then_ret ?_
    exact fin1 rfl (.tmp rfl) (fun w' hw' => ⟨by first | rfl | (simp_all; done) | (simp_all; omega), hw'.upd⟩) _ (.inl rfl)
  · refine g_skip ?_
    refine g_then ?_
    refine g_seq ?_
    refine g_region ?_
    refine s_q (q_move rfl) rfl ?_
    refine s_q (q_convz (z := ((n : Nat) : Int)) rfl (wi64 (by omega) (by omega))) rfl ?_
    refine s_q (q_inc rfl rfl (by omega)) rfl ?_
    refine g_op (g_ownS [] rfl (fun w1 hw1 ho1 => by have h7 := new_i ((n + 1)) w1 (by omega); exact h7) rfl ?_)
    rintro ⟨b23, g23⟩ ⟨r23, s23⟩
    refine ⟨_, _, inferInstance, inferInstance, ?_⟩
    simp only at r23 s23
    refine s_q (q_assign rfl) rfl ?_
    refine g_nil ?_
    refine g_then ?_
    refine g_seq ?_
    refine g_seq ?_
    refine g_region ?_
    refine s_q (q_move rfl) rfl ?_
    refine s_q (q_eqp (b := false) rfl rfl rfl) rfl ?_
    refine g_nil ?_
    refine g_then ?_
    refine g_false rfl ?_
    refine g_skip ?_
    refine g_then ?_
    refine g_seq ?_
    refine g_region ?_
    refine s_q (q_assign rfl) rfl ?_
    refine g_nilrow 8 3 1 rfl fun Az1 capz1 hcz1 => ?_
    refine g_rowels (A := Az1) (([] : List Int).map (fun v : Int => [Value.int .i64 v])) rfl ?_
    refine s_q (q_assign rfl) rfl ?_
    refine g_nilrow 9 3 1 rfl fun Az2 capz2 hcz2 => ?_
    refine g_rowels (A := Az2) (([] : List Int).map (fun v : Int => [Value.int .i64 v])) rfl ?_
    refine g_nil ?_
    refine g_then ?_
    refine g_seq ?_
    refine g_seq ?_
    refine g_region ?_
    refine s_q (q_move rfl) rfl ?_
    refine s_q (q_len rfl) rfl ?_
    refine s_q (q_move rfl) rfl ?_
    refine g_nil ?_
    refine g_then ?_
    refine g_block ?_
    refine g_loopk [1, 2, 6, 7, 26, 27] (fun (x : Nat × Rg × List Int × List Int × List Int × Option Addr × Nat × Nat × Option Addr × Nat × Nat) => [(8, .slice x.2.2.2.2.2.1 x.2.2.2.2.2.2.2.1 x.2.2.2.2.2.2.1), (9, .slice x.2.2.2.2.2.2.2.2.1 x.2.2.2.2.2.2.2.2.2.2 x.2.2.2.2.2.2.2.2.2.1), (28, .int .i64 ((x.1 : Nat) : Int))]) (fun (x : Nat × Rg × List Int × List Int × List Int × Option Addr × Nat × Nat × Option Addr × Nat × Nat) => [Res.row x.2.2.2.2.2.1 x.2.2.2.2.2.2.2.1 x.2.2.2.2.2.2.1 3 1 ((x.2.2.1).map (fun v : Int => [Value.int .i64 v])), Res.row x.2.2.2.2.2.2.2.2.1 x.2.2.2.2.2.2.2.2.2.2 x.2.2.2.2.2.2.2.2.2.1 3 1 ((x.2.2.2.1).map (fun v : Int => [Value.int .i64 v])), Res.blk b23 61 (Rg.c x.2.1), Res.row (Rg.A x.2.1) (Rg.s x.2.1).length (Rg.cap x.2.1) 3 1 (Rg.s x.2.1)]) (fun (x : Nat × Rg × List Int × List Int × List Int × Option Addr × Nat × Nat × Option Addr × Nat × Nat) => x.1 ≤ l.length ∧ Rg.Rep x.2.1 1 ((x.2.2.2.2.1).map (fun v : Int => [Value.int .i64 v])) ∧ Rg.size x.2.1 = n + 1 ∧ x.2.2.1 = x.2.2.2.1 ++ x.2.2.2.2.1 ∧ x.2.2.2.2.2.2.2.1 = (x.2.2.1).length ∧ x.2.2.2.2.2.2.2.2.2.2 = (x.2.2.2.1).length ∧ (x.2.2.1).length ≤ x.1) (fun (x : Nat × Rg × List Int × List Int × List Int × Option Addr × Nat × Nat × Option Addr × Nat × Nat) => l.length - x.1) (0, g23, ([] : List Int), ([] : List Int), ([] : List Int), Az1, capz1, 0, Az2, capz2, 0) (by (try dsimp only); exact ⟨Nat.zero_le _, (by first | assumption | omega | (simp_all; done) | (simp_all; omega)), (by first | assumption | omega | (simp_all; done) | (simp_all; omega)), (by first | assumption | omega | (simp_all; done) | (simp_all; omega)), (by first | assumption | omega | (simp_all; done) | (simp_all; omega)), (by first | assumption | omega | (simp_all; done) | (simp_all; omega)), (by first | assumption | omega | (simp_all; done) | (simp_all; omega))⟩) rfl (by repeat (first | exact trivial | refine ⟨rfl, ?_⟩)) wok_sub ?_
    rintro ⟨k, g1, P, Q, l1, A1, c1, m1, A2, c2, m2⟩ ⟨le_k, hr, hs, hpq, hm1, hm2, hpk⟩
    replace le_k : k ≤ l.length := le_k
    replace hr : Rg.Rep g1 1 ((l1).map (fun v : Int => [Value.int .i64 v])) := hr
    replace hs : Rg.size g1 = n + 1 := hs
    replace hpq : P = Q ++ l1 := hpq
    replace hm1 : m1 = (P).length := hm1
    replace hm2 : m2 = (Q).length := hm2
    replace hpk : (P).length ≤ k := hpk
    refine g_setL (L' := [Res.row A1 m1 c1 3 1 ((P).map (fun v : Int => [Value.int .i64 v])), Res.row A2 m2 c2 3 1 ((Q).map (fun v : Int => [Value.int .i64 v])), Res.blk b23 61 (Rg.c g1), Res.row (Rg.A g1) (Rg.s g1).length (Rg.cap g1) 3 1 (Rg.s g1)]) rfl ?_
    refine g_val 8 (v' := .slice A1 m1 c1) rfl rfl ?_
    refine g_val 9 (v' := .slice A2 m2 c2) rfl rfl ?_
    refine g_val 28 (v' := .int .i64 ((k : Nat) : Int)) rfl rfl ?_
    have hl3 : l.length ≤ 300 := by simp at h1; omega
    have hlen := congrArg List.length hpq
    simp only [List.length_append] at hlen
    refine g_seq ?_
    refine g_region ?_
    refine s_q (q_lss rfl rfl) rfl ?_
    refine g_nil ?_
    refine g_then ?_
    refine g_seq ?_
    refine g_cond rfl (fun h2 => ?_) (fun h2 => ?_)
    · have lt_k : k < l.length := by have h9 := of_decide_eq_true h2; omega
      refine g_skip ?_
      refine g_then ?_
      refine g_seq ?_
      refine g_block ?_
      refine g_seq ?_
      refine g_region ?_
      refine s_q (q_move rfl) rfl ?_
      refine s_q (q_index (i := k) rfl rfl rfl (o_l.rdb rfl) (by first | exact lt_k | omega)) rfl ?_
      refine s_q (q_load_el (i := k) (o := 0) rfl (o_l.rdb rfl) (map_get (by first | assumption | omega)) rfl rfl) rfl ?_
      refine s_q (q_assign rfl) rfl ?_
      refine s_q (q_assign rfl) rfl ?_
      refine g_nil ?_
      refine g_then ?_
      refine g_seq ?_
      refine g_seq ?_
      refine g_region ?_
      refine s_q (q_move rfl) rfl ?_
      refine s_q (q_move rfl) rfl ?_
      refine g_op (g_lit rfl rfl rfl rfl rfl fun b35 => ?_)
      refine g_blkc (b := b35) ((([l[k]] : List Int).map (fun v : Int => [Value.int .i64 v])).flatten) rfl ?_
      refine g_op (g_ownS [Res.blk b23 61 (Rg.c g1), Res.row (Rg.A g1) (Rg.s g1).length (Rg.cap g1) 3 1 (Rg.s g1)] rfl (fun w1 hw1 ho1 => by have h7 := push_i b23 g1 l1 [l[k]] (some ⟨b35, 0, none⟩) 1 w1 ho1 hr (Rd.ofBlk (b := b35) hw1 rfl (by simp) rfl) (by simp); exact h7) rfl ?_)
      rintro g36 ⟨r36, s36⟩
      refine ⟨_, _, inferInstance, inferInstance, ?_⟩
      refine s_q (q_eql rfl rfl) rfl ?_
      refine g_nil ?_
      refine g_then ?_
      refine g_cond rfl (fun h3 => ?_) (fun h3 => ?_)
      · have q : min ([l[k]] : List Int).length (Rg.size g1 - l1.length) = 1 := by simp at h3 ⊢; omega
        rw [q] at r36
        replace r36 : Rg.Rep g36 1 ((l1 ++ [l[k]]).map (fun v : Int => [Value.int .i64 v])) := r36
        have eP : P ++ [l[k]] = Q ++ (l1 ++ [l[k]]) := by rw [hpq, List.append_assoc]
        refine g_region ?_
        refine s_q (q_move rfl) rfl ?_
        refine s_q (q_move rfl) rfl ?_
        refine g_op (g_lit rfl rfl rfl rfl rfl fun b40 => ?_)
        refine g_blkc (b := b40) ((([l[k]] : List Int).map (fun v : Int => [Value.int .i64 v])).flatten) rfl ?_
        refine g_op (g_append (A := A1) (els := (P).map (fun v : Int => [Value.int .i64 v])) (news := (([l[k]] : List Int).map (fun v : Int => [Value.int .i64 v]))) rfl rfl (InL.rdb (b := b40) rfl (by simp) rfl) (map_one (c := (fun v : Int => [Value.int .i64 v])) (by intro x; simp [Value.oneCell']) _) (by first | omega | (simp; omega) | (simp_all; omega)) rfl fun A41 cap41 => ⟨_, inferInstance, ?_⟩)
        refine g_rowels (A := A41) (((P ++ [l[k]])).map (fun v : Int => [Value.int .i64 v])) (by first | rfl | exact List.map_append.symm | (simp; done)) ?_
        refine s_q (q_assign rfl) rfl ?_
        refine g_nil ?_
        refine g_then ?_
        refine g_seq ?_
        refine g_region ?_
        refine s_q (q_move rfl) rfl ?_
        refine s_q (q_move rfl) rfl ?_
        refine s_q (q_convz (z := ((e : Nat) : Int)) rfl (wi64 (by omega) (by omega))) rfl ?_
        refine s_q (q_remn (a := e) (b := 5) rfl rfl (by first | omega | (simp; omega) | (simp_all; omega))) rfl ?_
        refine s_q (q_inc rfl rfl (by omega)) rfl ?_
        refine s_q (q_remn (a := k) (b := ((e % 5) + 1)) rfl rfl (by first | omega | (simp; omega) | (simp_all; omega))) rfl ?_
        refine s_q (q_eql rfl rfl) rfl ?_
        refine g_nil ?_
        refine g_then ?_
        refine g_cond rfl (fun h4 => ?_) (fun h4 => ?_)
        · refine g_seq ?_
          refine g_region ?_
          refine s_q (q_move rfl) rfl ?_
          refine g_op (g_ownS [Res.blk b23 61 (Rg.c g36), Res.row (Rg.A g36) (Rg.s g36).length (Rg.cap g36) 3 1 (Rg.s g36)] rfl (fun w1 hw1 ho1 => by have h7 := pop_i b23 g36 (l1 ++ [l[k]]) w1 ho1 r36; exact h7) rfl ?_)
          rintro g51 ⟨r51, s51⟩
          refine ⟨_, _, inferInstance, inferInstance, ?_⟩
          refine s_q (q_move rfl) rfl ?_
          refine s_q (q_extract rfl rfl) rfl ?_
          refine s_q (q_extract rfl rfl) rfl ?_
          refine s_q (q_assign rfl) rfl ?_
          refine s_q (q_assign rfl) rfl ?_
          refine g_nil ?_
          refine g_then ?_
          refine g_seq ?_
          refine g_region ?_
          refine s_q (q_move rfl) rfl ?_
          refine g_nil ?_
          refine g_then ?_
          refine g_cond rfl (fun h5 => ?_) (fun h5 => ?_)
          · refine g_region ?_
            refine s_q (q_move rfl) rfl ?_
            refine s_q (q_move rfl) rfl ?_
            refine g_op (g_lit rfl rfl rfl rfl rfl fun b57 => ?_)
            refine g_blkc (b := b57) ((([(((l1 ++ [l[k]])).head?.getD 0)] : List Int).map (fun v : Int => [Value.int .i64 v])).flatten) rfl ?_
            refine g_op (g_append (A := A2) (els := (Q).map (fun v : Int => [Value.int .i64 v])) (news := (([(((l1 ++ [l[k]])).head?.getD 0)] : List Int).map (fun v : Int => [Value.int .i64 v]))) rfl rfl (InL.rdb (b := b57) rfl (by simp) rfl) (map_one (c := (fun v : Int => [Value.int .i64 v])) (by intro x; simp [Value.oneCell']) _) (by first | omega | (simp; omega) | (simp_all; omega)) rfl fun A58 cap58 => ⟨_, inferInstance, ?_⟩)
            refine g_rowels (A := A58) (((Q ++ [(((l1 ++ [l[k]])).head?.getD 0)])).map (fun v : Int => [Value.int .i64 v])) (by first | rfl | exact List.map_append.symm | (simp; done)) ?_
            refine s_q (q_assign rfl) rfl ?_
            refine g_nil ?_
            refine g_blk_n ?_
            refine g_then ?_
            refine g_region ?_
            refine s_q (q_inc rfl rfl (by omega)) rfl ?_
            refine s_q (q_move rfl) rfl ?_
            refine g_nil ?_
            exact g_again ((k + 1), g51, (P ++ [l[k]]), (Q ++ [(((l1 ++ [l[k]])).head?.getD 0)]), (l1 ++ [l[k]]).tail, A41, cap41, (m1 + 1), A58, cap58, (m2 + 1)) (by (try dsimp only); exact ⟨(by first | exact lt_k | omega), r51, (by omega), (by first | exact eP | (rw [List.append_assoc, head_tail h5]; exact eP) | (rw [tail_none h5]; exact eP) | (rw [List.append_assoc, head_tail h7]; exact eP) | (rw [tail_none h7]; exact eP)), (by first | omega | (simp; omega)), (by first | omega | (simp; omega)), (by first | omega | (simp; omega))⟩) (by first | omega | (simp only; omega)) (by repeat (first | exact trivial | refine ⟨rfl, ?_⟩)) wok_sub
          · refine g_skip ?_
            refine g_blk_n ?_
            refine g_then ?_
            refine g_region ?_
            refine s_q (q_inc rfl rfl (by omega)) rfl ?_
            refine s_q (q_move rfl) rfl ?_
            refine g_nil ?_
            exact g_again ((k + 1), g51, (P ++ [l[k]]), Q, (l1 ++ [l[k]]).tail, A41, cap41, (m1 + 1), A2, c2, m2) (by (try dsimp only); exact ⟨(by first | exact lt_k | omega), r51, (by omega), (by first | exact eP | (rw [List.append_assoc, head_tail h5]; exact eP) | (rw [tail_none h5]; exact eP) | (rw [List.append_assoc, head_tail h7]; exact eP) | (rw [tail_none h7]; exact eP)), (by first | omega | (simp; omega)), (by first | omega | (simp; omega)), (by first | omega | (simp; omega))⟩) (by first | omega | (simp only; omega)) (by repeat (first | exact trivial | refine ⟨rfl, ?_⟩)) wok_sub
        · refine g_skip ?_
          refine g_blk_n ?_
          refine g_then ?_
          refine g_region ?_
          refine s_q (q_inc rfl rfl (by omega)) rfl ?_
          refine s_q (q_move rfl) rfl ?_
          refine g_nil ?_
          exact g_again ((k + 1), g36, (P ++ [l[k]]), Q, (l1 ++ [l[k]]), A41, cap41, (m1 + 1), A2, c2, m2) (by (try dsimp only); exact ⟨(by first | exact lt_k | omega), r36, (by omega), (by first | exact eP | (rw [List.append_assoc, head_tail h5]; exact eP) | (rw [tail_none h5]; exact eP) | (rw [List.append_assoc, head_tail h7]; exact eP) | (rw [tail_none h7]; exact eP)), (by first | omega | (simp; omega)), (by first | omega | (simp; omega)), (by first | omega | (simp; omega))⟩) (by first | omega | (simp only; omega)) (by repeat (first | exact trivial | refine ⟨rfl, ?_⟩)) wok_sub
      · have q : min ([l[k]] : List Int).length (Rg.size g1 - l1.length) = 0 := by simp at h3 ⊢; omega
        rw [q] at r36
        replace r36 : Rg.Rep g36 1 (l1.map (fun v : Int => [Value.int .i64 v])) := by simpa using r36
        have eP : P = Q ++ l1 := hpq
        refine g_skip ?_
        refine g_then ?_
        refine g_seq ?_
        refine g_region ?_
        refine s_q (q_move rfl) rfl ?_
        refine s_q (q_move rfl) rfl ?_
        refine s_q (q_convz (z := ((e : Nat) : Int)) rfl (wi64 (by omega) (by omega))) rfl ?_
        refine s_q (q_remn (a := e) (b := 5) rfl rfl (by first | omega | (simp; omega) | (simp_all; omega))) rfl ?_
        refine s_q (q_inc rfl rfl (by omega)) rfl ?_
        refine s_q (q_remn (a := k) (b := ((e % 5) + 1)) rfl rfl (by first | omega | (simp; omega) | (simp_all; omega))) rfl ?_
        refine s_q (q_eql rfl rfl) rfl ?_
        refine g_nil ?_
        refine g_then ?_
        refine g_cond rfl (fun h6 => ?_) (fun h6 => ?_)
        · refine g_seq ?_
          refine g_region ?_
          refine s_q (q_move rfl) rfl ?_
          refine g_op (g_ownS [Res.blk b23 61 (Rg.c g36), Res.row (Rg.A g36) (Rg.s g36).length (Rg.cap g36) 3 1 (Rg.s g36)] rfl (fun w1 hw1 ho1 => by have h7 := pop_i b23 g36 l1 w1 ho1 r36; exact h7) rfl ?_)
          rintro g51 ⟨r51, s51⟩
          refine ⟨_, _, inferInstance, inferInstance, ?_⟩
          refine s_q (q_move rfl) rfl ?_
          refine s_q (q_extract rfl rfl) rfl ?_
          refine s_q (q_extract rfl rfl) rfl ?_
          refine s_q (q_assign rfl) rfl ?_
          refine s_q (q_assign rfl) rfl ?_
          refine g_nil ?_
          refine g_then ?_
          refine g_seq ?_
          refine g_region ?_
          refine s_q (q_move rfl) rfl ?_
          refine g_nil ?_
          refine g_then ?_
          refine g_cond rfl (fun h7 => ?_) (fun h7 => ?_)
          · refine g_region ?_
            refine s_q (q_move rfl) rfl ?_
            refine s_q (q_move rfl) rfl ?_
            refine g_op (g_lit rfl rfl rfl rfl rfl fun b57 => ?_)
            refine g_blkc (b := b57) ((([((l1).head?.getD 0)] : List Int).map (fun v : Int => [Value.int .i64 v])).flatten) rfl ?_
            refine g_op (g_append (A := A2) (els := (Q).map (fun v : Int => [Value.int .i64 v])) (news := (([((l1).head?.getD 0)] : List Int).map (fun v : Int => [Value.int .i64 v]))) rfl rfl (InL.rdb (b := b57) rfl (by simp) rfl) (map_one (c := (fun v : Int => [Value.int .i64 v])) (by intro x; simp [Value.oneCell']) _) (by first | omega | (simp; omega) | (simp_all; omega)) rfl fun A58 cap58 => ⟨_, inferInstance, ?_⟩)
            refine g_rowels (A := A58) (((Q ++ [((l1).head?.getD 0)])).map (fun v : Int => [Value.int .i64 v])) (by first | rfl | exact List.map_append.symm | (simp; done)) ?_
            refine s_q (q_assign rfl) rfl ?_
            refine g_nil ?_
            refine g_blk_n ?_
            refine g_then ?_
            refine g_region ?_
            refine s_q (q_inc rfl rfl (by omega)) rfl ?_
            refine s_q (q_move rfl) rfl ?_
            refine g_nil ?_
            exact g_again ((k + 1), g51, P, (Q ++ [((l1).head?.getD 0)]), (l1).tail, A1, c1, m1, A58, cap58, (m2 + 1)) (by (try dsimp only); exact ⟨(by first | exact lt_k | omega), r51, (by omega), (by first | exact eP | (rw [List.append_assoc, head_tail h5]; exact eP) | (rw [tail_none h5]; exact eP) | (rw [List.append_assoc, head_tail h7]; exact eP) | (rw [tail_none h7]; exact eP)), (by first | omega | (simp; omega)), (by first | omega | (simp; omega)), (by first | omega | (simp; omega))⟩) (by first | omega | (simp only; omega)) (by repeat (first | exact trivial | refine ⟨rfl, ?_⟩)) wok_sub
          · refine g_skip ?_
            refine g_blk_n ?_
            refine g_then ?_
            refine g_region ?_
            refine s_q (q_inc rfl rfl (by omega)) rfl ?_
            refine s_q (q_move rfl) rfl ?_
            refine g_nil ?_
            exact g_again ((k + 1), g51, P, Q, (l1).tail, A1, c1, m1, A2, c2, m2) (by (try dsimp only); exact ⟨(by first | exact lt_k | omega), r51, (by omega), (by first | exact eP | (rw [List.append_assoc, head_tail h5]; exact eP) | (rw [tail_none h5]; exact eP) | (rw [List.append_assoc, head_tail h7]; exact eP) | (rw [tail_none h7]; exact eP)), (by first | omega | (simp; omega)), (by first | omega | (simp; omega)), (by first | omega | (simp; omega))⟩) (by first | omega | (simp only; omega)) (by repeat (first | exact trivial | refine ⟨rfl, ?_⟩)) wok_sub
        · refine g_skip ?_
          refine g_blk_n ?_
          refine g_then ?_
          refine g_region ?_
          refine s_q (q_inc rfl rfl (by omega)) rfl ?_
          refine s_q (q_move rfl) rfl ?_
          refine g_nil ?_
          exact g_again ((k + 1), g36, P, Q, l1, A1, c1, m1, A2, c2, m2) (by (try dsimp only); exact ⟨(by first | exact lt_k | omega), r36, (by omega), (by first | exact eP | (rw [List.append_assoc, head_tail h5]; exact eP) | (rw [tail_none h5]; exact eP) | (rw [List.append_assoc, head_tail h7]; exact eP) | (rw [tail_none h7]; exact eP)), (by first | omega | (simp; omega)), (by first | omega | (simp; omega)), (by first | omega | (simp; omega))⟩) (by first | omega | (simp only; omega)) (by repeat (first | exact trivial | refine ⟨rfl, ?_⟩)) wok_sub
    · have eq_k : k = l.length := by have h9 := of_decide_eq_false h2; omega
      refine g_exit ?_
      refine g_then_x (g_then_x (g_blk_hit ?_))
      refine g_then ?_
      refine g_seq ?_
      refine g_seq ?_
      refine g_region ?_
      refine s_q (q_move rfl) rfl ?_
      refine s_q (q_len rfl) rfl ?_
      refine s_q (q_move rfl) rfl ?_
      refine g_nil ?_
      refine g_then ?_
      refine g_block ?_
      refine g_loopk [6, 7, 8, 61] (fun (x : Nat × Rg × List Int × List Int × Option Addr × Nat × Nat) => [(9, .slice x.2.2.2.2.1 x.2.2.2.2.2.2 x.2.2.2.2.2.1), (62, .int .i64 ((x.1 : Nat) : Int))]) (fun (x : Nat × Rg × List Int × List Int × Option Addr × Nat × Nat) => [Res.row A1 m1 c1 3 1 (P.map (fun v : Int => [Value.int .i64 v])), Res.row x.2.2.2.2.1 x.2.2.2.2.2.2 x.2.2.2.2.2.1 3 1 ((x.2.2.1).map (fun v : Int => [Value.int .i64 v])), Res.blk b23 61 (Rg.c x.2.1), Res.row (Rg.A x.2.1) (Rg.s x.2.1).length (Rg.cap x.2.1) 3 1 (Rg.s x.2.1)]) (fun (x : Nat × Rg × List Int × List Int × Option Addr × Nat × Nat) => x.1 ≤ l.length ∧ Rg.Rep x.2.1 1 ((x.2.2.2.1).map (fun v : Int => [Value.int .i64 v])) ∧ P = x.2.2.1 ++ x.2.2.2.1 ∧ x.2.2.2.2.2.2 = (x.2.2.1).length ∧ (x.2.2.2.1).length ≤ l.length - x.1 ∧ (x.2.2.1).length ≤ P.length) (fun (x : Nat × Rg × List Int × List Int × Option Addr × Nat × Nat) => l.length - x.1) (0, g1, Q, l1, A2, c2, m2) (by (try dsimp only); exact ⟨Nat.zero_le _, hr, hpq, hm2, (by omega), (by omega)⟩) rfl (by repeat (first | exact trivial | refine ⟨rfl, ?_⟩)) wok_sub ?_
      rintro ⟨j, g2, Q2, l2, A3, c3, m3⟩ ⟨le_j, hr2, hpq2, hm3, hlj, hq2⟩
      replace le_j : j ≤ l.length := le_j
      replace hr2 : Rg.Rep g2 1 ((l2).map (fun v : Int => [Value.int .i64 v])) := hr2
      replace hpq2 : P = Q2 ++ l2 := hpq2
      replace hm3 : m3 = (Q2).length := hm3
      replace hlj : (l2).length ≤ l.length - j := hlj
      replace hq2 : (Q2).length ≤ P.length := hq2
      refine g_setL (L' := [Res.row A1 m1 c1 3 1 (P.map (fun v : Int => [Value.int .i64 v])), Res.row A3 m3 c3 3 1 ((Q2).map (fun v : Int => [Value.int .i64 v])), Res.blk b23 61 (Rg.c g2), Res.row (Rg.A g2) (Rg.s g2).length (Rg.cap g2) 3 1 (Rg.s g2)]) rfl ?_
      refine g_val 9 (v' := .slice A3 m3 c3) rfl rfl ?_
      refine g_val 62 (v' := .int .i64 ((j : Nat) : Int)) rfl rfl ?_
      have hl2 := congrArg List.length hpq2
      simp only [List.length_append] at hl2
      refine g_seq ?_
      refine g_region ?_
      refine s_q (q_lss rfl rfl) rfl ?_
      refine g_nil ?_
      refine g_then ?_
      refine g_seq ?_
      refine g_cond rfl (fun h8 => ?_) (fun h8 => ?_)
      · have lt_j : j < l.length := by have h9 := of_decide_eq_true h8; omega
        refine g_skip ?_
        refine g_then ?_
        refine g_seq ?_
        refine g_block ?_
        refine g_seq ?_
        refine g_region ?_
        refine s_q (q_move rfl) rfl ?_
        refine g_op (g_ownS [Res.blk b23 61 (Rg.c g2), Res.row (Rg.A g2) (Rg.s g2).length (Rg.cap g2) 3 1 (Rg.s g2)] rfl (fun w1 hw1 ho1 => by have h7 := pop_i b23 g2 l2 w1 ho1 hr2; exact h7) rfl ?_)
        rintro g66 ⟨r66, s66⟩
        refine ⟨_, _, inferInstance, inferInstance, ?_⟩
        refine s_q (q_move rfl) rfl ?_
        refine s_q (q_extract rfl rfl) rfl ?_
        refine s_q (q_extract rfl rfl) rfl ?_
        refine s_q (q_assign rfl) rfl ?_
        refine s_q (q_assign rfl) rfl ?_
        refine g_nil ?_
        refine g_then ?_
        refine g_seq ?_
        refine g_region ?_
        refine s_q (q_move rfl) rfl ?_
        refine g_nil ?_
        refine g_then ?_
        refine g_cond rfl (fun h9 => ?_) (fun h9 => ?_)
        · have hne : 0 < l2.length := by cases l2 with | nil => simp at h9 | cons x r => simp
          refine g_region ?_
          refine s_q (q_move rfl) rfl ?_
          refine s_q (q_move rfl) rfl ?_
          refine g_op (g_lit rfl rfl rfl rfl rfl fun b72 => ?_)
          refine g_blkc (b := b72) ((([((l2).head?.getD 0)] : List Int).map (fun v : Int => [Value.int .i64 v])).flatten) rfl ?_
          refine g_op (g_append (A := A3) (els := (Q2).map (fun v : Int => [Value.int .i64 v])) (news := (([((l2).head?.getD 0)] : List Int).map (fun v : Int => [Value.int .i64 v]))) rfl rfl (InL.rdb (b := b72) rfl (by simp) rfl) (map_one (c := (fun v : Int => [Value.int .i64 v])) (by intro x; simp [Value.oneCell']) _) (by first | omega | (simp; omega) | (simp_all; omega)) rfl fun A73 cap73 => ⟨_, inferInstance, ?_⟩)
          refine g_rowels (A := A73) (((Q2 ++ [((l2).head?.getD 0)])).map (fun v : Int => [Value.int .i64 v])) (by first | rfl | exact List.map_append.symm | (simp; done)) ?_
          refine s_q (q_assign rfl) rfl ?_
          refine g_nil ?_
          refine g_blk_n ?_
          refine g_then ?_
          refine g_region ?_
          refine s_q (q_inc rfl rfl (by omega)) rfl ?_
          refine s_q (q_move rfl) rfl ?_
          refine g_nil ?_
          exact g_again ((j + 1), g66, (Q2 ++ [((l2).head?.getD 0)]), (l2).tail, A73, cap73, (m3 + 1)) (by (try dsimp only); exact ⟨(by first | exact lt_j | omega), r66, (by first | (rw [List.append_assoc, head_tail h9]; exact hpq2) | (rw [tail_none h9]; exact hpq2)), (by first | omega | (simp; omega)), (by simp; omega), (by first | omega | (simp; omega))⟩) (by first | omega | (simp only; omega)) (by repeat (first | exact trivial | refine ⟨rfl, ?_⟩)) wok_sub
        · refine g_skip ?_
          refine g_blk_n ?_
          refine g_then ?_
          refine g_region ?_
          refine s_q (q_inc rfl rfl (by omega)) rfl ?_
          refine s_q (q_move rfl) rfl ?_
          refine g_nil ?_
          exact g_again ((j + 1), g66, Q2, (l2).tail, A3, c3, m3) (by (try dsimp only); exact ⟨(by first | exact lt_j | omega), r66, (by first | (rw [List.append_assoc, head_tail h9]; exact hpq2) | (rw [tail_none h9]; exact hpq2)), (by first | omega | (simp; omega)), (by simp; omega), (by first | omega | (simp; omega))⟩) (by first | omega | (simp only; omega)) (by repeat (first | exact trivial | refine ⟨rfl, ?_⟩)) wok_sub
      · have eq_j : j = l.length := by have h9 := of_decide_eq_false h8; omega
        obtain rfl : l2 = [] := List.eq_nil_of_length_eq_zero (by omega)
        refine g_exit ?_
        refine g_then_x (g_then_x (g_blk_hit ?_))
        refine g_then ?_
        refine g_seq ?_
        refine g_region ?_
        refine g_op (g_pure rfl (fun w1 hw1 => alive_any w1) rfl ?_)
        refine s_q (q_move rfl) rfl ?_
        refine s_qg (q_move rfl) rfl rfl rfl ?_
        refine s_qg (q_move rfl) rfl rfl rfl ?_
        refine g_gt rfl rfl (g_pure rfl (fun w1 hw1 => equal_i A1 A3 _ _ _ _ (P) (Q2) w1 (Rdb.toOld (InRow.rdb (A := A1) (els := (P).map (fun v : Int => [Value.int .i64 v])) (by first | rfl | assumption | (simp; done) | (simp_all; done) | (simp; omega) | (simp_all; omega)) (map_cat (c := (fun v : Int => [Value.int .i64 v])) (fun _ => rfl) _)) hw1) (Rdb.toOld (InRow.rdb (A := A3) (els := (Q2).map (fun v : Int => [Value.int .i64 v])) (by first | rfl | assumption | (simp; done) | (simp_all; done) | (simp; omega) | (simp_all; omega)) (map_cat (c := (fun v : Int => [Value.int .i64 v])) (fun _ => rfl) _)) hw1) (by first | omega | (simp; omega) | (simp_all; omega))) rfl ?_)
        refine g_litb 79 (b := true) rfl (by simpa using hpq2) ?_
        refine s_q (q_pick_t rfl rfl) rfl ?_
        refine s_q (q_move rfl) rfl ?_
        refine s_qg (q_move rfl) rfl rfl rfl ?_
        refine g_gt rfl rfl (g_keep [Res.blk b23 61 (Rg.c g2), Res.row (Rg.A g2) (Rg.s g2).length (Rg.cap g2) 3 1 (Rg.s g2)] rfl (fun w1 hw1 ho1 => by exact len_i b23 g2 ([] : List Int) w1 ho1 hr2) rfl ?_)
        refine s_qg (q_eql rfl rfl) rfl rfl rfl ?_
        refine g_litb 84 (b := true) rfl (rfl) ?_
        refine s_q (q_pick_t rfl rfl) rfl ?_
        refine s_q (q_assign rfl) rfl ?_
        refine g_nil ?_
        refine g_then ?_
        refine g_ret ?_
        exact fin1 rfl (.tmp rfl) (fun w' hw' => ⟨by first | rfl | (simp_all; done) | (simp_all; omega), hw'.upd⟩) _ (.inl rfl)

theorem main_ringOrder (v0 : Value) (v1 : Value) (v2 : Value) (W : World) (a0 : Arg Try.prog W 5 v0) (a1 : Arg Try.prog W 22 v1) (a2 : Arg Try.prog W 5 v2) : Pur Try.prog 4 [v0, v1, v2] W (.bool true) := by
  obtain ⟨z0, rfl, hz0⟩ := Arg.int Try.underlying5 a0
  obtain ⟨n, rfl⟩ : ∃ q : Nat, z0 = q := ⟨z0.toNat, by have h0 : 0 ≤ z0 ∧ z0 ≤ 255 := hz0; omega⟩
  have h_n : n < 256 := by have h0 : 0 ≤ ((n : Nat) : Int) ∧ ((n : Nat) : Int) ≤ 255 := hz0; omega
  obtain ⟨A_l, c_l, l, rfl, hle1, hm1, o_l, k_l⟩ := Arg.slice (fun v : Int => [Value.int .i64 v]) (fun x : Int => -9223372036854775808 ≤ x ∧ x ≤ 9223372036854775807) Try.underlying22 (show Try.prog.cellsOf 3 = 1 by kernel_rfl) (by omega) (fun f cs h => OKc.int Try.underlying3 h) a1
  have h_l : l.length ≤ c_l ∧ c_l ≤ 9223372036854775807 := ⟨hle1, by unfold maxLen at hm1; omega⟩
  obtain ⟨z2, rfl, hz2⟩ := Arg.int Try.underlying5 a2
  obtain ⟨e, rfl⟩ : ∃ q : Nat, z2 = q := ⟨z2.toNat, by have h0 : 0 ≤ z2 ∧ z2 ≤ 255 := hz2; omega⟩
  have h_e : e < 256 := by have h0 : 0 ≤ ((e : Nat) : Int) ∧ ((e : Nat) : Int) ≤ 255 := hz2; omega
  exact law_ringOrder n A_l c_l l e W h_n o_l h_l k_l h_e

namespace LawRingOrder
open Go.ChangeShapes Go.WideShapes Go.ChangeAt Go.RowKit Go.Eg
set_option linter.unusedVariables false
theorem own : ownKnob Try.prog.godebug = none := by kernel_rfl
theorem laidOut : laidOutB Try.prog = true := by kernel_rfl
set_option maxRecDepth 100000 in
theorem lifted (os : Os) (started : os.Started) (H : Type) (enc : TypeId × Value → H) :
    ReturnsInHanded {} Try.checked os 4 .any (Rows.ringOrderSpec.pre6 enc Try.prog Try.f4 Rows.ringOrderRow.domain false) (Rows.ringOrderSpec.post enc Try.prog Try.f4 false true false false) := by
  refine returnsInHanded_of_change (C := Try.checked) own started (by kernel_rfl) Try.func4
    (ChangeSpec.witness6 (enc := enc) (C := Try.checked) false ⟨#[], #[.int .u8 0, .slice none 0 0, .int .u8 0], []⟩ 8 (by kernel_rfl) (by kernel_rfl) (by kernel_rfl) (by kernel_rfl)) ?_
  intro W base args ds gs before hval0 hW hcnd _
  have hval : ∀ (j : Nat) t v, Try.f4.params[j]? = some t → args[j]? = some v → Value.okWide Try.prog W .any base t v := hval0
  have hW' := hW
  obtain ⟨p, q, hA0, hV, rfl, hfz, hnd⟩ := hW
  have hA : DataW.TrodAll enc Try.prog W 0 (fun _ => true) true Try.f4.params.toList args.toList ds p := hA0
  rw [Try.params4] at hA hval
  obtain ⟨v0, vs0, d0, ds0, p0, q0, hargs, rfl, rfl, h0, r0⟩ := trodAll_cons hA
  obtain ⟨v1, vs1, d1, ds1, p1, q1, rfl, rfl, rfl, h1, r1⟩ := trodAll_cons r0
  obtain ⟨v2, vs2, d2, ds2, p2, q2, rfl, rfl, rfl, h2, r2⟩ := trodAll_cons r1
  obtain ⟨rfl, rfl, rfl⟩ := trodAll_nil r2
  obtain rfl : args = #[v0, v1, v2] := by cases args; simp_all
  obtain ⟨rfl, rfl⟩ := trodVars_none hV
  have a0 := Arg.of h0 (hval 0 5 v0 rfl rfl)
  have lt0 : ∀ x ∈ p0, x.block < W.heap.size := by obtain ⟨m, hm⟩ := h0; exact DataW.trod_lt m _ _ _ hm
  have a1 := Arg.of h1 (hval 1 22 v1 rfl rfl)
  have lt1 : ∀ x ∈ p1, x.block < W.heap.size := by obtain ⟨m, hm⟩ := h1; exact DataW.trod_lt m _ _ _ hm
  have a2 := Arg.of h2 (hval 2 5 v2 rfl rfl)
  have lt2 : ∀ x ∈ p2, x.block < W.heap.size := by obtain ⟨m, hm⟩ := h2; exact DataW.trod_lt m _ _ _ hm
  clear hA0 hval0
  simp only [List.append_nil] at hW'
  refine Calls.mono (main_ringOrder v0 v1 v2 W a0 a1 a2) ?_
  rintro e W' ⟨v, rfl, rfl, hu⟩
  have bel := hu.below
  have targ := (trodAll_cons_mk (Below.trod laidOut (by kernel_rfl) (of_decide_eq_true (by kernel_rfl)) h0 bel lt0) (trodAll_cons_mk (Below.trod laidOut (by kernel_rfl) (of_decide_eq_true (by kernel_rfl)) h1 bel lt1) (trodAll_cons_mk (Below.trod laidOut (by kernel_rfl) (of_decide_eq_true (by kernel_rfl)) h2 bel lt2) trodAll_mk0)))
  simp only [List.append_nil] at targ
  exact ⟨_, rfl, _, _, _, [], _, [], hW', trodAll_mk1 (shut_bool Try.underlying4 _), targ, rfl, bel.frame _, fun h => by cases h⟩
theorem over : Rows.ringOrderRow.holds Try.pinned (OpenSpec.ofChange Rows.ringOrderSpec) :=
  OpenClaim.holds_of_wide 4 Try.f4 rfl rfl rfl rfl rfl rfl rfl ⟨rfl, rfl, rfl, rfl, rfl⟩ rfl rfl rfl rfl rfl (by kernel_rfl) Try.func4 (by kernel_rfl)
    (of_decide_eq_true (by kernel_rfl)) (by unfold Func.isWrapper; first | (rw [if_pos (by decide +kernel)]; kernel_rfl) | (rw [if_neg (by decide +kernel)]; exact ⟨rfl, rfl⟩))
    (fun os started H enc _ => lifted os started H enc)
theorem proved : Rows.RingOrderSaid := over
end LawRingOrder
end Go.Proofs.Ytjhamghjnilgfaa
