/- walks of the Steps -/
import Derived.Test.YtljdhdlemakcaaaW6
namespace Go.Proofs.Ytljdhdlemakcaaa
open Go.RowKit Go.Eg
set_option synthInstance.maxSize 3000
set_option linter.unusedSimpArgs false
set_option linter.unusedVariables false
set_option maxHeartbeats 400000 in
theorem step_any (A B : Option Addr) (n cap capq P : Nat) (l : List V) (q : List PP) (c : C) (w : World) (hl : Rd w [] A n 7 (l.map V.c)) (hq : Rd w [] B q.length 2 (q.map PP.c)) (hcq : q.length ≤ capq) (hb : n ≤ 1000000) (hbq : q.length ≤ 1000000) (hP : c.merg = ((P : Nat) : Int)) (hok : okV l) : Own2 (ι := (Option Addr × Nat × Option Addr × Nat)) Try.prog 19 [.slice A n cap, .slice B q.length capq, c.v] w [] (fun x => True) (fun x => .tuple [.slice x.1 l.length x.2.1, .slice x.2.2.1 (runM c l (q.take (min q.length P))).2.length x.2.2.2].toArray) (fun x => [Res.row x.1 l.length x.2.1 24 7 ((runM c l (q.take (min q.length P))).1.map V.c), Res.row x.2.2.1 (runM c l (q.take (min q.length P))).2.length x.2.2.2 4 1 ((runM c l (q.take (min q.length P))).2.map (fun v : Bool => [Value.bool v]))]) (fun x => []) := by
  refine g_start Try.func19 rfl 67 rfl (by simp) (fps []) [] (WOK.start _ _) _ rfl ?_
  have hn : n = l.length := by have := hl.old.len; simpa using this
  refine g_seq ?_
  refine g_region ?_
  refine g_op (g_box rfl rfl rfl fun b5 => ?_)
  refine s_q (q_assign rfl) rfl ?_
  refine s_q (q_assign rfl) rfl ?_
  refine g_nil ?_
  refine g_then ?_
  refine g_seq ?_
  refine g_region ?_
  refine s_q (q_move rfl) rfl ?_
  refine g_op (g_ownS [] rfl (fun w1 hw1 ho1 => by have h7 := clone_v A (n) (cap) (l) w1 (Rd.ofRd hw1 hl (by omega)) (by first | omega | (simp; omega)); exact h7) rfl ?_)
  rintro ⟨A14, cap14⟩ _
  refine ⟨_, _, inferInstance, inferInstance, ?_⟩
  refine s_q (q_assign rfl) rfl ?_
  refine g_nil ?_
  refine g_then ?_
  refine g_seq ?_
  refine g_region ?_
  refine s_q (q_assign rfl) rfl ?_
  refine g_nilrow 9 4 1 rfl fun Az1 capz1 hcz1 => ?_
  refine g_rowels (A := Az1) (([] : List Bool).map (fun v : Bool => [Value.bool v])) rfl ?_
  refine g_nil ?_
  refine g_then ?_
  refine g_seq ?_
  refine g_seq ?_
  refine g_region ?_
  refine s_q (q_move rfl) rfl ?_
  refine s_q (q_move rfl) rfl ?_
  refine s_q (q_len rfl) rfl ?_
  refine s_q (q_field rfl) rfl ?_
  refine s_q (q_load rfl rfl) rfl ?_
  refine s_q (q_min rfl rfl) rfl ?_
  refine g_val 20 (v' := .int .i64 (((min q.length P) : Nat) : Int)) rfl (by rw [hP]; congr 1; omega) ?_
  refine s_q (q_slice_h (h := (min q.length P)) rfl rfl rfl (by omega)) rfl ?_
  refine s_q (q_len rfl) rfl ?_
  refine s_q (q_move rfl) rfl ?_
  refine g_nil ?_
  refine g_then ?_
  refine g_block ?_
  refine g_rowels (A := A14) ((runM c l (q.take 0)).1.map V.c) (by simp [runM]) ?_
  refine g_rowels (A := Az1) ((runM c l (q.take 0)).2.map (fun v : Bool => [Value.bool v])) (by simp [runM]) ?_
  refine g_rown (A := Az1) (runM c l (q.take 0)).2.length (by simp [runM]) ?_
  refine g_val 9 (v' := .slice Az1 (runM c l (q.take 0)).2.length capz1) rfl (by simp [runM]) ?_
  refine g_loopk [5, 6, 7, 8, 21, 22] (fun (x : Nat × Option Addr × Nat) => [(9, .slice x.2.1 (runM c l (q.take x.1)).2.length x.2.2), (23, .int .i64 ((x.1 : Nat) : Int))]) (fun (x : Nat × Option Addr × Nat) => [Res.blk b5 26 c.c, Res.row A14 (l).length cap14 24 7 ((runM c l (q.take x.1)).1.map V.c), Res.row x.2.1 (runM c l (q.take x.1)).2.length x.2.2 4 1 ((runM c l (q.take x.1)).2.map (fun v : Bool => [Value.bool v]))]) (fun (x : Nat × Option Addr × Nat) => x.1 ≤ (min q.length P)) (fun (x : Nat × Option Addr × Nat) => (min q.length P) - x.1) (0, Az1, capz1) (by (try dsimp only); exact Nat.zero_le _) rfl (by repeat (first | exact trivial | refine ⟨rfl, ?_⟩)) wok_sub ?_
  rintro ⟨k, B1, capb⟩ le_k
  replace le_k : k ≤ (min q.length P) := le_k
  refine g_setL (L' := [Res.blk b5 26 c.c, Res.row A14 (l).length cap14 24 7 ((runM c l (q.take k)).1.map V.c), Res.row B1 (runM c l (q.take k)).2.length capb 4 1 ((runM c l (q.take k)).2.map (fun v : Bool => [Value.bool v]))]) rfl ?_
  refine g_val 9 (v' := .slice B1 (runM c l (q.take k)).2.length capb) rfl rfl ?_
  refine g_val 23 (v' := .int .i64 ((k : Nat) : Int)) rfl rfl ?_
  have hr4 := (runM_len c l (q.take k)).1
  have hr5 := (runM_len c l (q.take k)).2
  have hr6 : (q.take k).length ≤ k := List.length_take_le _ _
  have hokk := okV_run (c := c) (q.take k) hok
  refine g_seq ?_
  refine g_region ?_
  refine s_q (q_lss rfl rfl) rfl ?_
  refine g_nil ?_
  refine g_then ?_
  refine g_seq ?_
  refine g_cond rfl (fun h1 => ?_) (fun h1 => ?_)
  · have lt_k : k < (min q.length P) := by have h9 := of_decide_eq_true h1; omega
    have lt_q : k < q.length := by omega
    refine g_skip ?_
    refine g_then ?_
    refine g_seq ?_
    refine g_block ?_
    refine g_seq ?_
    refine g_region ?_
    refine s_q (q_index (i := k) rfl rfl rfl (hq.rdb.h (cap := capq) (by omega) hcq) (by first | exact lt_k | omega)) rfl ?_
    refine s_q (q_load_ew (i := k) rfl (hq.rdb.h (cap := capq) (by omega) hcq) (take_get (l := q) (m := (min q.length P)) (by first | exact (by first | exact lt_k | omega) | omega) (by omega)) rfl) rfl ?_
    refine g_op (g_alloc rfl fun b11 => ?_)
    refine g_op (g_storew rfl rfl rfl rfl rfl ?_)
    refine g_nil ?_
    refine g_then ?_
    refine g_seq ?_
    refine g_region ?_
    refine s_q (q_move rfl) rfl ?_
    refine s_q (q_index_arr (i := 0) rfl rfl rfl (by decide)) rfl ?_
    refine s_q (q_load rfl rfl) rfl ?_
    refine s_q (q_index_arr (i := 1) rfl rfl rfl (by decide)) rfl ?_
    refine s_q (q_load rfl rfl) rfl ?_
    refine s_q (q_loadw rfl rfl) rfl ?_
    refine g_op (g_pure rfl (fun w1 hw1 => req_any A14 (l.length) (cap14) ((runM c l (q.take k)).1) (_) (_) _ w1 (Rdb.toOld (InRow.rdb (A := A14) (els := ((runM c l (q.take k)).1).map V.c) (by simp [runM_len]) (map_cat (c := V.c) (fun _ => rfl) _)) hw1) hokk (by first | omega | (simp; omega))) rfl ?_)
    refine s_q (q_eql rfl rfl) rfl ?_
    refine s_q (q_assign rfl) rfl ?_
    refine g_nil ?_
    refine g_then ?_
    refine g_seq ?_
    refine g_seq ?_
    refine g_region ?_
    refine s_q (q_move rfl) rfl ?_
    refine g_nil ?_
    refine g_then ?_
    refine g_cond rfl (fun h2 => ?_) (fun h2 => ?_)
    · have hreq := of_decide_eq_true h2
      obtain ⟨g1, g2, g3, g4, g5, g6⟩ := req_ok hreq
      obtain ⟨ni, hni⟩ : ∃ t : Nat, (q[k]).a = t := ⟨(q[k]).a.toNat, by omega⟩
      obtain ⟨nj, hnj⟩ : ∃ t : Nat, (q[k]).b = t := ⟨(q[k]).b.toNat, by omega⟩
      have hi : ni < (runM c l (q.take k)).1.length := by omega
      have hj : nj < (runM c l (q.take k)).1.length := by omega
      have hi2 : ni < l.length := by omega
      have hj2 : nj < l.length := by omega
      rw [atV_get hni hi, atV_get hnj hj] at g6
      have bi := hokk _ (List.getElem_mem hi)
      have bj := hokk _ (List.getElem_mem hj)
      refine d_regionL (L0 := [Res.blk b11 37 (PP.c (q[k])), Res.blk b5 26 c.c]) [] mixed rfl rfl wok_sub ?_
      refine d_q 0 rfl (by kernel_rfl) (q_move rfl) wok_sub rfl (ls' := #[true, false, false, false, false, false, false, false, false, false, false, false, false, false, false, false, false, false, false, false, false, false, false, false, false, false]) rfl ?_
      refine d_q 1 rfl (by kernel_rfl) (q_index_arr (i := 0) rfl rfl rfl (by decide)) wok_sub rfl (ls' := #[true, true, false, false, false, false, false, false, false, false, false, false, false, false, false, false, false, false, false, false, false, false, false, false, false, false]) rfl ?_
      refine d_q 2 rfl (by kernel_rfl) (q_load rfl rfl) wok_sub rfl (ls' := #[true, true, true, false, false, false, false, false, false, false, false, false, false, false, false, false, false, false, false, false, false, false, false, false, false, false]) rfl ?_
      refine g_val 39 (v' := .int .i64 ((ni : Nat) : Int)) rfl (by rw [hni]) ?_
      refine d_q 3 rfl (by kernel_rfl) (q_move rfl) wok_sub rfl (ls' := #[true, true, true, true, false, false, false, false, false, false, false, false, false, false, false, false, false, false, false, false, false, false, false, false, false, false]) rfl ?_
      refine d_q 4 rfl (by kernel_rfl) (q_index_arr (i := 1) rfl rfl rfl (by decide)) wok_sub rfl (ls' := #[true, true, true, true, true, false, false, false, false, false, false, false, false, false, false, false, false, false, false, false, false, false, false, false, false, false]) rfl ?_
      refine d_q 5 rfl (by kernel_rfl) (q_load rfl rfl) wok_sub rfl (ls' := #[true, true, true, true, true, true, false, false, false, false, false, false, false, false, false, false, false, false, false, false, false, false, false, false, false, false]) rfl ?_
      refine g_val 42 (v' := .int .i64 ((nj : Nat) : Int)) rfl (by rw [hnj]) ?_
      refine d_q 6 rfl (by kernel_rfl) (q_move rfl) wok_sub rfl (ls' := #[true, true, true, true, true, true, true, false, false, false, false, false, false, false, false, false, false, false, false, false, false, false, false, false, false, false]) rfl ?_
      refine d_q 7 rfl (by kernel_rfl) (q_index_arr (i := 0) rfl rfl rfl (by decide)) wok_sub rfl (ls' := #[true, true, true, true, true, true, true, true, false, false, false, false, false, false, false, false, false, false, false, false, false, false, false, false, false, false]) rfl ?_
      refine d_q 8 rfl (by kernel_rfl) (q_load rfl rfl) wok_sub rfl (ls' := #[true, true, true, true, true, true, true, true, true, false, false, false, false, false, false, false, false, false, false, false, false, false, false, false, false, false]) rfl ?_
      refine g_val 45 (v' := .int .i64 ((ni : Nat) : Int)) rfl (by rw [hni]) ?_
      refine d_q 11 rfl (by kernel_rfl) (q_move rfl) wok_sub rfl (ls' := #[true, true, true, true, true, true, true, true, true, false, false, true, false, false, false, false, false, false, false, false, false, false, false, false, false, false]) rfl ?_
      refine d_q 12 rfl (by kernel_rfl) (q_index_arr (i := 1) rfl rfl rfl (by decide)) wok_sub rfl (ls' := #[true, true, true, true, true, true, true, true, true, false, false, true, true, false, false, false, false, false, false, false, false, false, false, false, false, false]) rfl ?_
      refine d_q 13 rfl (by kernel_rfl) (q_load rfl rfl) wok_sub rfl (ls' := #[true, true, true, true, true, true, true, true, true, false, false, true, true, true, false, false, false, false, false, false, false, false, false, false, false, false]) rfl ?_
      refine g_val 50 (v' := .int .i64 ((nj : Nat) : Int)) rfl (by rw [hnj]) ?_
      refine d_q 16 rfl (by kernel_rfl) (q_loadw rfl rfl) wok_sub rfl (ls' := #[true, true, true, true, true, true, true, true, true, false, false, true, true, true, false, false, true, false, false, false, false, false, false, false, false, false]) rfl ?_
      refine d_many [9, 14] (by kernel_rfl) (by simp) wok_sub ⟨d_pick rfl (ls' := #[true, true, true, true, true, true, true, true, true, true, false, true, true, true, false, false, true, false, false, false, false, false, false, false, false, false]) rfl (G.quiet (q_index (i := ni) rfl rfl rfl (InRow.rdb (A := A14) (els := ((runM c l (q.take k)).1).map V.c) (by simp [runM_len]) (map_cat (c := V.c) (fun _ => rfl) _)) (by first | omega | (simp; done) | (simp; omega))) rfl ?_), d_pick rfl (ls' := #[true, true, true, true, true, true, true, true, true, false, false, true, true, true, true, false, true, false, false, false, false, false, false, false, false, false]) rfl (G.quiet (q_index (i := nj) rfl rfl rfl (InRow.rdb (A := A14) (els := ((runM c l (q.take k)).1).map V.c) (by simp [runM_len]) (map_cat (c := V.c) (fun _ => rfl) _)) (by first | omega | (simp; done) | (simp; omega))) rfl ?_), trivial⟩
      · refine d_many [10, 14] (by kernel_rfl) (by simp) wok_sub ⟨d_pick rfl (ls' := #[true, true, true, true, true, true, true, true, true, true, true, true, true, true, false, false, true, false, false, false, false, false, false, false, false, false]) rfl (G.quiet (q_load_ew (i := ni) rfl (InRow.rdb (A := A14) (els := ((runM c l (q.take k)).1).map V.c) (by simp [runM_len]) (map_cat (c := V.c) (fun _ => rfl) _)) (map_get (by first | assumption | omega | (simp_all; done) | (simp_all; omega))) rfl) rfl ?_), d_pick rfl (ls' := #[true, true, true, true, true, true, true, true, true, true, false, true, true, true, true, false, true, false, false, false, false, false, false, false, false, false]) rfl (G.quiet (q_index (i := nj) rfl rfl rfl (InRow.rdb (A := A14) (els := ((runM c l (q.take k)).1).map V.c) (by simp [runM_len]) (map_cat (c := V.c) (fun _ => rfl) _)) (by first | omega | (simp; done) | (simp; omega))) rfl ?_), trivial⟩
        · refine d_op 14 rfl (by kernel_rfl) (ls' := #[true, true, true, true, true, true, true, true, true, true, true, true, true, true, true, false, true, false, false, false, false, false, false, false, false, false]) rfl wok_sub (G.quiet (q_index (i := nj) rfl rfl rfl (InRow.rdb (A := A14) (els := ((runM c l (q.take k)).1).map V.c) (by simp [runM_len]) (map_cat (c := V.c) (fun _ => rfl) _)) (by first | omega | (simp; done) | (simp; omega))) rfl ?_)
          refine d_op 15 rfl (by kernel_rfl) (ls' := #[true, true, true, true, true, true, true, true, true, true, true, true, true, true, true, true, true, false, false, false, false, false, false, false, false, false]) rfl wok_sub (G.quiet (q_load_ew (i := nj) rfl (InRow.rdb (A := A14) (els := ((runM c l (q.take k)).1).map V.c) (by simp [runM_len]) (map_cat (c := V.c) (fun _ => rfl) _)) (map_get (by first | assumption | omega | (simp_all; done) | (simp_all; omega))) rfl) rfl ?_)
          refine d_op 17 rfl (by kernel_rfl) (ls' := #[true, true, true, true, true, true, true, true, true, true, true, true, true, true, true, true, true, true, false, false, false, false, false, false, false, false]) rfl wok_sub (g_pure rfl (fun w1 hw1 => apply_any _ _ c w1 bi bj) rfl ?_)
          refine d_q 18 rfl (by kernel_rfl) (q_move rfl) wok_sub rfl (ls' := #[true, true, true, true, true, true, true, true, true, true, true, true, true, true, true, true, true, true, true, false, false, false, false, false, false, false]) rfl ?_
          refine d_q 19 rfl (by kernel_rfl) (q_extract rfl rfl) wok_sub rfl (ls' := #[true, true, true, true, true, true, true, true, true, true, true, true, true, true, true, true, true, true, true, true, false, false, false, false, false, false]) rfl ?_
          refine d_q 20 rfl (by kernel_rfl) (q_extract rfl rfl) wok_sub rfl (ls' := #[true, true, true, true, true, true, true, true, true, true, true, true, true, true, true, true, true, true, true, true, true, false, false, false, false, false]) rfl ?_
          refine d_q 21 rfl (by kernel_rfl) (q_extract rfl rfl) wok_sub rfl (ls' := #[true, true, true, true, true, true, true, true, true, true, true, true, true, true, true, true, true, true, true, true, true, true, false, false, false, false]) rfl ?_
          refine d_op 22 rfl (by kernel_rfl) (ls' := #[true, true, true, true, true, true, true, true, true, true, true, true, true, true, true, true, true, true, true, true, true, true, true, false, false, false]) rfl wok_sub (G.quiet (q_index (i := ni) rfl rfl rfl (InRow.rdb (A := A14) (els := ((runM c l (q.take k)).1).map V.c) (by simp [runM_len]) (map_cat (c := V.c) (fun _ => rfl) _)) (by first | omega | (simp; done) | (simp; omega))) rfl ?_)
          refine d_op 23 rfl (by kernel_rfl) (ls' := #[true, true, true, true, true, true, true, true, true, true, true, true, true, true, true, true, true, true, true, true, true, true, true, true, false, false]) rfl wok_sub (g_store_el (A := A14) (i := ni) (o := 0) (cs' := V.c ((apS ((runM c l (q.take k)).1[ni]) ((runM c l (q.take k)).1[nj]) c))) rfl rfl rfl rfl rfl (map_get (by first | assumption | omega | (simp_all; done) | (simp_all; omega))) (by first | (simp; done) | exact Nat.le_refl _) rfl (splice_all rfl) ?_)
          refine g_rowels (A := A14) (((runM c l (q.take k)).1.set ni (apS ((runM c l (q.take k)).1[ni]) ((runM c l (q.take k)).1[nj]) c)).map V.c) (by simp only [List.map_set]) ?_
          refine d_op 24 rfl (by kernel_rfl) (ls' := #[true, true, true, true, true, true, true, true, true, true, true, true, true, true, true, true, true, true, true, true, true, true, true, true, true, false]) rfl wok_sub (G.quiet (q_index (i := nj) rfl rfl rfl (InRow.rdb (A := A14) (els := (((runM c l (q.take k)).1.set ni (apS ((runM c l (q.take k)).1[ni]) ((runM c l (q.take k)).1[nj]) c))).map V.c) (by first | rfl | assumption | (simp; done) | (simp_all; done) | (simp; omega) | (simp_all; omega)) (map_cat (c := V.c) (fun _ => rfl) _)) (by first | omega | (simp; done) | (simp; omega))) rfl ?_)
          refine d_op 25 rfl (by kernel_rfl) (ls' := #[true, true, true, true, true, true, true, true, true, true, true, true, true, true, true, true, true, true, true, true, true, true, true, true, true, true]) rfl wok_sub (g_store_el (A := A14) (i := nj) (o := 0) (cs' := V.c ((apD ((runM c l (q.take k)).1[ni]) ((runM c l (q.take k)).1[nj]) c))) rfl rfl rfl rfl rfl (map_get (by first | assumption | omega | (simp_all; done) | (simp_all; omega))) (by first | (simp; done) | exact Nat.le_refl _) rfl (splice_all rfl) ?_)
          refine g_rowels (A := A14) ((((runM c l (q.take k)).1.set ni (apS ((runM c l (q.take k)).1[ni]) ((runM c l (q.take k)).1[nj]) c)).set nj (apD ((runM c l (q.take k)).1[ni]) ((runM c l (q.take k)).1[nj]) c)).map V.c) (by simp only [List.map_set]) ?_
          refine d_end (by kernel_rfl) (.inr wok_sub) ?_
          refine g_then ?_
          refine g_region ?_
          refine s_q (q_move rfl) rfl ?_
          refine s_q (q_move rfl) rfl ?_
          refine g_op (g_lit rfl rfl rfl rfl rfl fun b62 => ?_)
          refine g_blkc (b := b62) ((([(decide (reqV (runM c l (q.take k)).1 (q[k]).a (q[k]).b c = 0))] : List Bool).map (fun v : Bool => [Value.bool v])).flatten) rfl ?_
          refine g_op (g_append (A := B1) (els := ((runM c l (q.take k)).2).map (fun v : Bool => [Value.bool v])) (news := (([(decide (reqV (runM c l (q.take k)).1 (q[k]).a (q[k]).b c = 0))] : List Bool).map (fun v : Bool => [Value.bool v]))) rfl rfl (InL.rdb (b := b62) rfl (by simp) rfl) (map_one (c := (fun v : Bool => [Value.bool v])) (by intro x; simp [Value.oneCell']) _) (by first | omega | (simp; omega) | (simp_all; omega)) rfl fun A63 cap63 => ⟨_, inferInstance, ?_⟩)
          refine g_rowels (A := A63) ((((runM c l (q.take k)).2 ++ [(decide (reqV (runM c l (q.take k)).1 (q[k]).a (q[k]).b c = 0))])).map (fun v : Bool => [Value.bool v])) (by first | rfl | exact List.map_append.symm | (simp; done)) ?_
          refine s_q (q_assign rfl) rfl ?_
          refine g_nil ?_
          refine g_blk_n ?_
          refine g_then ?_
          refine g_region ?_
          refine s_q (q_inc rfl rfl (by omega)) rfl ?_
          refine s_q (q_move rfl) rfl ?_
          refine g_nil ?_
          have e2 : (runM c l (q.take k)).2 ++ [decide (reqV (runM c l (q.take k)).1 (q[k]).a (q[k]).b c = 0)] = (runM c l (q.take (k + 1))).2 := by rw [runM_succ lt_q]; rfl
          have e3 : (runM c l (q.take k)).2.length + 1 = (runM c l (q.take (k + 1))).2.length := by rw [← e2]; simp
          have e1 : ((runM c l (q.take k)).1.set ni (apS (runM c l (q.take k)).1[ni] (runM c l (q.take k)).1[nj] c)).set nj (apD (runM c l (q.take k)).1[ni] (runM c l (q.take k)).1[nj] c) = (runM c l (q.take (k + 1))).1 := by rw [runM_succ lt_q, step_in hni hnj hi hj g6]; unfold stepM; dsimp only; rw [if_pos (show okReq (runM c l (q.take k)).1 (q[k]) c = true from h2)]
          rw [e3, e2, e1]
          exact g_again ((k + 1), A63, cap63) (by (try dsimp only); exact (by first | exact lt_k | omega)) (by first | omega | (simp only; omega)) (by repeat (first | exact trivial | refine ⟨rfl, ?_⟩)) wok_sub
        · refine d_many [10, 15] (by kernel_rfl) (by simp) wok_sub ⟨d_pick rfl (ls' := #[true, true, true, true, true, true, true, true, true, true, true, true, true, true, true, false, true, false, false, false, false, false, false, false, false, false]) rfl (G.quiet (q_load_ew (i := ni) rfl (InRow.rdb (A := A14) (els := ((runM c l (q.take k)).1).map V.c) (by simp [runM_len]) (map_cat (c := V.c) (fun _ => rfl) _)) (map_get (by first | assumption | omega | (simp_all; done) | (simp_all; omega))) rfl) rfl ?_), d_pick rfl (ls' := #[true, true, true, true, true, true, true, true, true, true, false, true, true, true, true, true, true, false, false, false, false, false, false, false, false, false]) rfl (G.quiet (q_load_ew (i := nj) rfl (InRow.rdb (A := A14) (els := ((runM c l (q.take k)).1).map V.c) (by simp [runM_len]) (map_cat (c := V.c) (fun _ => rfl) _)) (map_get (by first | assumption | omega | (simp_all; done) | (simp_all; omega))) rfl) rfl ?_), trivial⟩
          · refine d_op 15 rfl (by kernel_rfl) (ls' := #[true, true, true, true, true, true, true, true, true, true, true, true, true, true, true, true, true, false, false, false, false, false, false, false, false, false]) rfl wok_sub (G.quiet (q_load_ew (i := nj) rfl (InRow.rdb (A := A14) (els := ((runM c l (q.take k)).1).map V.c) (by simp [runM_len]) (map_cat (c := V.c) (fun _ => rfl) _)) (map_get (by first | assumption | omega | (simp_all; done) | (simp_all; omega))) rfl) rfl ?_)
            refine d_op 17 rfl (by kernel_rfl) (ls' := #[true, true, true, true, true, true, true, true, true, true, true, true, true, true, true, true, true, true, false, false, false, false, false, false, false, false]) rfl wok_sub (g_pure rfl (fun w1 hw1 => apply_any _ _ c w1 bi bj) rfl ?_)
            refine d_q 18 rfl (by kernel_rfl) (q_move rfl) wok_sub rfl (ls' := #[true, true, true, true, true, true, true, true, true, true, true, true, true, true, true, true, true, true, true, false, false, false, false, false, false, false]) rfl ?_
            refine d_q 19 rfl (by kernel_rfl) (q_extract rfl rfl) wok_sub rfl (ls' := #[true, true, true, true, true, true, true, true, true, true, true, true, true, true, true, true, true, true, true, true, false, false, false, false, false, false]) rfl ?_
            refine d_q 20 rfl (by kernel_rfl) (q_extract rfl rfl) wok_sub rfl (ls' := #[true, true, true, true, true, true, true, true, true, true, true, true, true, true, true, true, true, true, true, true, true, false, false, false, false, false]) rfl ?_
            refine d_q 21 rfl (by kernel_rfl) (q_extract rfl rfl) wok_sub rfl (ls' := #[true, true, true, true, true, true, true, true, true, true, true, true, true, true, true, true, true, true, true, true, true, true, false, false, false, false]) rfl ?_
            refine d_op 22 rfl (by kernel_rfl) (ls' := #[true, true, true, true, true, true, true, true, true, true, true, true, true, true, true, true, true, true, true, true, true, true, true, false, false, false]) rfl wok_sub (G.quiet (q_index (i := ni) rfl rfl rfl (InRow.rdb (A := A14) (els := ((runM c l (q.take k)).1).map V.c) (by simp [runM_len]) (map_cat (c := V.c) (fun _ => rfl) _)) (by first | omega | (simp; done) | (simp; omega))) rfl ?_)
            refine d_op 23 rfl (by kernel_rfl) (ls' := #[true, true, true, true, true, true, true, true, true, true, true, true, true, true, true, true, true, true, true, true, true, true, true, true, false, false]) rfl wok_sub (g_store_el (A := A14) (i := ni) (o := 0) (cs' := V.c ((apS ((runM c l (q.take k)).1[ni]) ((runM c l (q.take k)).1[nj]) c))) rfl rfl rfl rfl rfl (map_get (by first | assumption | omega | (simp_all; done) | (simp_all; omega))) (by first | (simp; done) | exact Nat.le_refl _) rfl (splice_all rfl) ?_)
            refine g_rowels (A := A14) (((runM c l (q.take k)).1.set ni (apS ((runM c l (q.take k)).1[ni]) ((runM c l (q.take k)).1[nj]) c)).map V.c) (by simp only [List.map_set]) ?_
            refine d_op 24 rfl (by kernel_rfl) (ls' := #[true, true, true, true, true, true, true, true, true, true, true, true, true, true, true, true, true, true, true, true, true, true, true, true, true, false]) rfl wok_sub (G.quiet (q_index (i := nj) rfl rfl rfl (InRow.rdb (A := A14) (els := (((runM c l (q.take k)).1.set ni (apS ((runM c l (q.take k)).1[ni]) ((runM c l (q.take k)).1[nj]) c))).map V.c) (by first | rfl | assumption | (simp; done) | (simp_all; done) | (simp; omega) | (simp_all; omega)) (map_cat (c := V.c) (fun _ => rfl) _)) (by first | omega | (simp; done) | (simp; omega))) rfl ?_)
            refine d_op 25 rfl (by kernel_rfl) (ls' := #[true, true, true, true, true, true, true, true, true, true, true, true, true, true, true, true, true, true, true, true, true, true, true, true, true, true]) rfl wok_sub (g_store_el (A := A14) (i := nj) (o := 0) (cs' := V.c ((apD ((runM c l (q.take k)).1[ni]) ((runM c l (q.take k)).1[nj]) c))) rfl rfl rfl rfl rfl (map_get (by first | assumption | omega | (simp_all; done) | (simp_all; omega))) (by first | (simp; done) | exact Nat.le_refl _) rfl (splice_all rfl) ?_)
            refine g_rowels (A := A14) ((((runM c l (q.take k)).1.set ni (apS ((runM c l (q.take k)).1[ni]) ((runM c l (q.take k)).1[nj]) c)).set nj (apD ((runM c l (q.take k)).1[ni]) ((runM c l (q.take k)).1[nj]) c)).map V.c) (by simp only [List.map_set]) ?_
            refine d_end (by kernel_rfl) (.inr wok_sub) ?_
            refine g_then ?_
            refine g_region ?_
            refine s_q (q_move rfl) rfl ?_
            refine s_q (q_move rfl) rfl ?_
            refine g_op (g_lit rfl rfl rfl rfl rfl fun b62 => ?_)
            refine g_blkc (b := b62) ((([(decide (reqV (runM c l (q.take k)).1 (q[k]).a (q[k]).b c = 0))] : List Bool).map (fun v : Bool => [Value.bool v])).flatten) rfl ?_
            refine g_op (g_append (A := B1) (els := ((runM c l (q.take k)).2).map (fun v : Bool => [Value.bool v])) (news := (([(decide (reqV (runM c l (q.take k)).1 (q[k]).a (q[k]).b c = 0))] : List Bool).map (fun v : Bool => [Value.bool v]))) rfl rfl (InL.rdb (b := b62) rfl (by simp) rfl) (map_one (c := (fun v : Bool => [Value.bool v])) (by intro x; simp [Value.oneCell']) _) (by first | omega | (simp; omega) | (simp_all; omega)) rfl fun A63 cap63 => ⟨_, inferInstance, ?_⟩)
            refine g_rowels (A := A63) ((((runM c l (q.take k)).2 ++ [(decide (reqV (runM c l (q.take k)).1 (q[k]).a (q[k]).b c = 0))])).map (fun v : Bool => [Value.bool v])) (by first | rfl | exact List.map_append.symm | (simp; done)) ?_
            refine s_q (q_assign rfl) rfl ?_
            refine g_nil ?_
            refine g_blk_n ?_
            refine g_then ?_
            refine g_region ?_
            refine s_q (q_inc rfl rfl (by omega)) rfl ?_
            refine s_q (q_move rfl) rfl ?_
            refine g_nil ?_
            have e2 : (runM c l (q.take k)).2 ++ [decide (reqV (runM c l (q.take k)).1 (q[k]).a (q[k]).b c = 0)] = (runM c l (q.take (k + 1))).2 := by rw [runM_succ lt_q]; rfl
            have e3 : (runM c l (q.take k)).2.length + 1 = (runM c l (q.take (k + 1))).2.length := by rw [← e2]; simp
            have e1 : ((runM c l (q.take k)).1.set ni (apS (runM c l (q.take k)).1[ni] (runM c l (q.take k)).1[nj] c)).set nj (apD (runM c l (q.take k)).1[ni] (runM c l (q.take k)).1[nj] c) = (runM c l (q.take (k + 1))).1 := by rw [runM_succ lt_q, step_in hni hnj hi hj g6]; unfold stepM; dsimp only; rw [if_pos (show okReq (runM c l (q.take k)).1 (q[k]) c = true from h2)]
            rw [e3, e2, e1]
            exact g_again ((k + 1), A63, cap63) (by (try dsimp only); exact (by first | exact lt_k | omega)) (by first | omega | (simp only; omega)) (by repeat (first | exact trivial | refine ⟨rfl, ?_⟩)) wok_sub
          · refine d_op 10 rfl (by kernel_rfl) (ls' := #[true, true, true, true, true, true, true, true, true, true, true, true, true, true, true, true, true, false, false, false, false, false, false, false, false, false]) rfl wok_sub (G.quiet (q_load_ew (i := ni) rfl (InRow.rdb (A := A14) (els := ((runM c l (q.take k)).1).map V.c) (by simp [runM_len]) (map_cat (c := V.c) (fun _ => rfl) _)) (map_get (by first | assumption | omega | (simp_all; done) | (simp_all; omega))) rfl) rfl ?_)
            refine d_op 17 rfl (by kernel_rfl) (ls' := #[true, true, true, true, true, true, true, true, true, true, true, true, true, true, true, true, true, true, false, false, false, false, false, false, false, false]) rfl wok_sub (g_pure rfl (fun w1 hw1 => apply_any _ _ c w1 bi bj) rfl ?_)
            refine d_q 18 rfl (by kernel_rfl) (q_move rfl) wok_sub rfl (ls' := #[true, true, true, true, true, true, true, true, true, true, true, true, true, true, true, true, true, true, true, false, false, false, false, false, false, false]) rfl ?_
            refine d_q 19 rfl (by kernel_rfl) (q_extract rfl rfl) wok_sub rfl (ls' := #[true, true, true, true, true, true, true, true, true, true, true, true, true, true, true, true, true, true, true, true, false, false, false, false, false, false]) rfl ?_
            refine d_q 20 rfl (by kernel_rfl) (q_extract rfl rfl) wok_sub rfl (ls' := #[true, true, true, true, true, true, true, true, true, true, true, true, true, true, true, true, true, true, true, true, true, false, false, false, false, false]) rfl ?_
            refine d_q 21 rfl (by kernel_rfl) (q_extract rfl rfl) wok_sub rfl (ls' := #[true, true, true, true, true, true, true, true, true, true, true, true, true, true, true, true, true, true, true, true, true, true, false, false, false, false]) rfl ?_
            refine d_op 22 rfl (by kernel_rfl) (ls' := #[true, true, true, true, true, true, true, true, true, true, true, true, true, true, true, true, true, true, true, true, true, true, true, false, false, false]) rfl wok_sub (G.quiet (q_index (i := ni) rfl rfl rfl (InRow.rdb (A := A14) (els := ((runM c l (q.take k)).1).map V.c) (by simp [runM_len]) (map_cat (c := V.c) (fun _ => rfl) _)) (by first | omega | (simp; done) | (simp; omega))) rfl ?_)
            refine d_op 23 rfl (by kernel_rfl) (ls' := #[true, true, true, true, true, true, true, true, true, true, true, true, true, true, true, true, true, true, true, true, true, true, true, true, false, false]) rfl wok_sub (g_store_el (A := A14) (i := ni) (o := 0) (cs' := V.c ((apS ((runM c l (q.take k)).1[ni]) ((runM c l (q.take k)).1[nj]) c))) rfl rfl rfl rfl rfl (map_get (by first | assumption | omega | (simp_all; done) | (simp_all; omega))) (by first | (simp; done) | exact Nat.le_refl _) rfl (splice_all rfl) ?_)
            refine g_rowels (A := A14) (((runM c l (q.take k)).1.set ni (apS ((runM c l (q.take k)).1[ni]) ((runM c l (q.take k)).1[nj]) c)).map V.c) (by simp only [List.map_set]) ?_
            refine d_op 24 rfl (by kernel_rfl) (ls' := #[true, true, true, true, true, true, true, true, true, true, true, true, true, true, true, true, true, true, true, true, true, true, true, true, true, false]) rfl wok_sub (G.quiet (q_index (i := nj) rfl rfl rfl (InRow.rdb (A := A14) (els := (((runM c l (q.take k)).1.set ni (apS ((runM c l (q.take k)).1[ni]) ((runM c l (q.take k)).1[nj]) c))).map V.c) (by first | rfl | assumption | (simp; done) | (simp_all; done) | (simp; omega) | (simp_all; omega)) (map_cat (c := V.c) (fun _ => rfl) _)) (by first | omega | (simp; done) | (simp; omega))) rfl ?_)
            refine d_op 25 rfl (by kernel_rfl) (ls' := #[true, true, true, true, true, true, true, true, true, true, true, true, true, true, true, true, true, true, true, true, true, true, true, true, true, true]) rfl wok_sub (g_store_el (A := A14) (i := nj) (o := 0) (cs' := V.c ((apD ((runM c l (q.take k)).1[ni]) ((runM c l (q.take k)).1[nj]) c))) rfl rfl rfl rfl rfl (map_get (by first | assumption | omega | (simp_all; done) | (simp_all; omega))) (by first | (simp; done) | exact Nat.le_refl _) rfl (splice_all rfl) ?_)
            refine g_rowels (A := A14) ((((runM c l (q.take k)).1.set ni (apS ((runM c l (q.take k)).1[ni]) ((runM c l (q.take k)).1[nj]) c)).set nj (apD ((runM c l (q.take k)).1[ni]) ((runM c l (q.take k)).1[nj]) c)).map V.c) (by simp only [List.map_set]) ?_
            refine d_end (by kernel_rfl) (.inr wok_sub) ?_
            refine g_then ?_
            refine g_region ?_
            refine s_q (q_move rfl) rfl ?_
            refine s_q (q_move rfl) rfl ?_
            refine g_op (g_lit rfl rfl rfl rfl rfl fun b62 => ?_)
            refine g_blkc (b := b62) ((([(decide (reqV (runM c l (q.take k)).1 (q[k]).a (q[k]).b c = 0))] : List Bool).map (fun v : Bool => [Value.bool v])).flatten) rfl ?_
            refine g_op (g_append (A := B1) (els := ((runM c l (q.take k)).2).map (fun v : Bool => [Value.bool v])) (news := (([(decide (reqV (runM c l (q.take k)).1 (q[k]).a (q[k]).b c = 0))] : List Bool).map (fun v : Bool => [Value.bool v]))) rfl rfl (InL.rdb (b := b62) rfl (by simp) rfl) (map_one (c := (fun v : Bool => [Value.bool v])) (by intro x; simp [Value.oneCell']) _) (by first | omega | (simp; omega) | (simp_all; omega)) rfl fun A63 cap63 => ⟨_, inferInstance, ?_⟩)
            refine g_rowels (A := A63) ((((runM c l (q.take k)).2 ++ [(decide (reqV (runM c l (q.take k)).1 (q[k]).a (q[k]).b c = 0))])).map (fun v : Bool => [Value.bool v])) (by first | rfl | exact List.map_append.symm | (simp; done)) ?_
            refine s_q (q_assign rfl) rfl ?_
            refine g_nil ?_
            refine g_blk_n ?_
            refine g_then ?_
            refine g_region ?_
            refine s_q (q_inc rfl rfl (by omega)) rfl ?_
            refine s_q (q_move rfl) rfl ?_
            refine g_nil ?_
            have e2 : (runM c l (q.take k)).2 ++ [decide (reqV (runM c l (q.take k)).1 (q[k]).a (q[k]).b c = 0)] = (runM c l (q.take (k + 1))).2 := by rw [runM_succ lt_q]; rfl
            have e3 : (runM c l (q.take k)).2.length + 1 = (runM c l (q.take (k + 1))).2.length := by rw [← e2]; simp
            have e1 : ((runM c l (q.take k)).1.set ni (apS (runM c l (q.take k)).1[ni] (runM c l (q.take k)).1[nj] c)).set nj (apD (runM c l (q.take k)).1[ni] (runM c l (q.take k)).1[nj] c) = (runM c l (q.take (k + 1))).1 := by rw [runM_succ lt_q, step_in hni hnj hi hj g6]; unfold stepM; dsimp only; rw [if_pos (show okReq (runM c l (q.take k)).1 (q[k]) c = true from h2)]
            rw [e3, e2, e1]
            exact g_again ((k + 1), A63, cap63) (by (try dsimp only); exact (by first | exact lt_k | omega)) (by first | omega | (simp only; omega)) (by repeat (first | exact trivial | refine ⟨rfl, ?_⟩)) wok_sub
      · refine d_many [9, 15] (by kernel_rfl) (by simp) wok_sub ⟨d_pick rfl (ls' := #[true, true, true, true, true, true, true, true, true, true, false, true, true, true, true, false, true, false, false, false, false, false, false, false, false, false]) rfl (G.quiet (q_index (i := ni) rfl rfl rfl (InRow.rdb (A := A14) (els := ((runM c l (q.take k)).1).map V.c) (by simp [runM_len]) (map_cat (c := V.c) (fun _ => rfl) _)) (by first | omega | (simp; done) | (simp; omega))) rfl ?_), d_pick rfl (ls' := #[true, true, true, true, true, true, true, true, true, false, false, true, true, true, true, true, true, false, false, false, false, false, false, false, false, false]) rfl (G.quiet (q_load_ew (i := nj) rfl (InRow.rdb (A := A14) (els := ((runM c l (q.take k)).1).map V.c) (by simp [runM_len]) (map_cat (c := V.c) (fun _ => rfl) _)) (map_get (by first | assumption | omega | (simp_all; done) | (simp_all; omega))) rfl) rfl ?_), trivial⟩
        · refine d_many [10, 15] (by kernel_rfl) (by simp) wok_sub ⟨d_pick rfl (ls' := #[true, true, true, true, true, true, true, true, true, true, true, true, true, true, true, false, true, false, false, false, false, false, false, false, false, false]) rfl (G.quiet (q_load_ew (i := ni) rfl (InRow.rdb (A := A14) (els := ((runM c l (q.take k)).1).map V.c) (by simp [runM_len]) (map_cat (c := V.c) (fun _ => rfl) _)) (map_get (by first | assumption | omega | (simp_all; done) | (simp_all; omega))) rfl) rfl ?_), d_pick rfl (ls' := #[true, true, true, true, true, true, true, true, true, true, false, true, true, true, true, true, true, false, false, false, false, false, false, false, false, false]) rfl (G.quiet (q_load_ew (i := nj) rfl (InRow.rdb (A := A14) (els := ((runM c l (q.take k)).1).map V.c) (by simp [runM_len]) (map_cat (c := V.c) (fun _ => rfl) _)) (map_get (by first | assumption | omega | (simp_all; done) | (simp_all; omega))) rfl) rfl ?_), trivial⟩
          · refine d_op 15 rfl (by kernel_rfl) (ls' := #[true, true, true, true, true, true, true, true, true, true, true, true, true, true, true, true, true, false, false, false, false, false, false, false, false, false]) rfl wok_sub (G.quiet (q_load_ew (i := nj) rfl (InRow.rdb (A := A14) (els := ((runM c l (q.take k)).1).map V.c) (by simp [runM_len]) (map_cat (c := V.c) (fun _ => rfl) _)) (map_get (by first | assumption | omega | (simp_all; done) | (simp_all; omega))) rfl) rfl ?_)
            refine d_op 17 rfl (by kernel_rfl) (ls' := #[true, true, true, true, true, true, true, true, true, true, true, true, true, true, true, true, true, true, false, false, false, false, false, false, false, false]) rfl wok_sub (g_pure rfl (fun w1 hw1 => apply_any _ _ c w1 bi bj) rfl ?_)
            refine d_q 18 rfl (by kernel_rfl) (q_move rfl) wok_sub rfl (ls' := #[true, true, true, true, true, true, true, true, true, true, true, true, true, true, true, true, true, true, true, false, false, false, false, false, false, false]) rfl ?_
            refine d_q 19 rfl (by kernel_rfl) (q_extract rfl rfl) wok_sub rfl (ls' := #[true, true, true, true, true, true, true, true, true, true, true, true, true, true, true, true, true, true, true, true, false, false, false, false, false, false]) rfl ?_
            refine d_q 20 rfl (by kernel_rfl) (q_extract rfl rfl) wok_sub rfl (ls' := #[true, true, true, true, true, true, true, true, true, true, true, true, true, true, true, true, true, true, true, true, true, false, false, false, false, false]) rfl ?_
            refine d_q 21 rfl (by kernel_rfl) (q_extract rfl rfl) wok_sub rfl (ls' := #[true, true, true, true, true, true, true, true, true, true, true, true, true, true, true, true, true, true, true, true, true, true, false, false, false, false]) rfl ?_
            refine d_op 22 rfl (by kernel_rfl) (ls' := #[true, true, true, true, true, true, true, true, true, true, true, true, true, true, true, true, true, true, true, true, true, true, true, false, false, false]) rfl wok_sub (G.quiet (q_index (i := ni) rfl rfl rfl (InRow.rdb (A := A14) (els := ((runM c l (q.take k)).1).map V.c) (by simp [runM_len]) (map_cat (c := V.c) (fun _ => rfl) _)) (by first | omega | (simp; done) | (simp; omega))) rfl ?_)
            refine d_op 23 rfl (by kernel_rfl) (ls' := #[true, true, true, true, true, true, true, true, true, true, true, true, true, true, true, true, true, true, true, true, true, true, true, true, false, false]) rfl wok_sub (g_store_el (A := A14) (i := ni) (o := 0) (cs' := V.c ((apS ((runM c l (q.take k)).1[ni]) ((runM c l (q.take k)).1[nj]) c))) rfl rfl rfl rfl rfl (map_get (by first | assumption | omega | (simp_all; done) | (simp_all; omega))) (by first | (simp; done) | exact Nat.le_refl _) rfl (splice_all rfl) ?_)
            refine g_rowels (A := A14) (((runM c l (q.take k)).1.set ni (apS ((runM c l (q.take k)).1[ni]) ((runM c l (q.take k)).1[nj]) c)).map V.c) (by simp only [List.map_set]) ?_
            refine d_op 24 rfl (by kernel_rfl) (ls' := #[true, true, true, true, true, true, true, true, true, true, true, true, true, true, true, true, true, true, true, true, true, true, true, true, true, false]) rfl wok_sub (G.quiet (q_index (i := nj) rfl rfl rfl (InRow.rdb (A := A14) (els := (((runM c l (q.take k)).1.set ni (apS ((runM c l (q.take k)).1[ni]) ((runM c l (q.take k)).1[nj]) c))).map V.c) (by first | rfl | assumption | (simp; done) | (simp_all; done) | (simp; omega) | (simp_all; omega)) (map_cat (c := V.c) (fun _ => rfl) _)) (by first | omega | (simp; done) | (simp; omega))) rfl ?_)
            refine d_op 25 rfl (by kernel_rfl) (ls' := #[true, true, true, true, true, true, true, true, true, true, true, true, true, true, true, true, true, true, true, true, true, true, true, true, true, true]) rfl wok_sub (g_store_el (A := A14) (i := nj) (o := 0) (cs' := V.c ((apD ((runM c l (q.take k)).1[ni]) ((runM c l (q.take k)).1[nj]) c))) rfl rfl rfl rfl rfl (map_get (by first | assumption | omega | (simp_all; done) | (simp_all; omega))) (by first | (simp; done) | exact Nat.le_refl _) rfl (splice_all rfl) ?_)
            refine g_rowels (A := A14) ((((runM c l (q.take k)).1.set ni (apS ((runM c l (q.take k)).1[ni]) ((runM c l (q.take k)).1[nj]) c)).set nj (apD ((runM c l (q.take k)).1[ni]) ((runM c l (q.take k)).1[nj]) c)).map V.c) (by simp only [List.map_set]) ?_
            refine d_end (by kernel_rfl) (.inr wok_sub) ?_
            refine g_then ?_
            refine g_region ?_
            refine s_q (q_move rfl) rfl ?_
            refine s_q (q_move rfl) rfl ?_
            refine g_op (g_lit rfl rfl rfl rfl rfl fun b62 => ?_)
            refine g_blkc (b := b62) ((([(decide (reqV (runM c l (q.take k)).1 (q[k]).a (q[k]).b c = 0))] : List Bool).map (fun v : Bool => [Value.bool v])).flatten) rfl ?_
            refine g_op (g_append (A := B1) (els := ((runM c l (q.take k)).2).map (fun v : Bool => [Value.bool v])) (news := (([(decide (reqV (runM c l (q.take k)).1 (q[k]).a (q[k]).b c = 0))] : List Bool).map (fun v : Bool => [Value.bool v]))) rfl rfl (InL.rdb (b := b62) rfl (by simp) rfl) (map_one (c := (fun v : Bool => [Value.bool v])) (by intro x; simp [Value.oneCell']) _) (by first | omega | (simp; omega) | (simp_all; omega)) rfl fun A63 cap63 => ⟨_, inferInstance, ?_⟩)
            refine g_rowels (A := A63) ((((runM c l (q.take k)).2 ++ [(decide (reqV (runM c l (q.take k)).1 (q[k]).a (q[k]).b c = 0))])).map (fun v : Bool => [Value.bool v])) (by first | rfl | exact List.map_append.symm | (simp; done)) ?_
            refine s_q (q_assign rfl) rfl ?_
            refine g_nil ?_
            refine g_blk_n ?_
            refine g_then ?_
            refine g_region ?_
            refine s_q (q_inc rfl rfl (by omega)) rfl ?_
            refine s_q (q_move rfl) rfl ?_
            refine g_nil ?_
            have e2 : (runM c l (q.take k)).2 ++ [decide (reqV (runM c l (q.take k)).1 (q[k]).a (q[k]).b c = 0)] = (runM c l (q.take (k + 1))).2 := by rw [runM_succ lt_q]; rfl
            have e3 : (runM c l (q.take k)).2.length + 1 = (runM c l (q.take (k + 1))).2.length := by rw [← e2]; simp
            have e1 : ((runM c l (q.take k)).1.set ni (apS (runM c l (q.take k)).1[ni] (runM c l (q.take k)).1[nj] c)).set nj (apD (runM c l (q.take k)).1[ni] (runM c l (q.take k)).1[nj] c) = (runM c l (q.take (k + 1))).1 := by rw [runM_succ lt_q, step_in hni hnj hi hj g6]; unfold stepM; dsimp only; rw [if_pos (show okReq (runM c l (q.take k)).1 (q[k]) c = true from h2)]
            rw [e3, e2, e1]
            exact g_again ((k + 1), A63, cap63) (by (try dsimp only); exact (by first | exact lt_k | omega)) (by first | omega | (simp only; omega)) (by repeat (first | exact trivial | refine ⟨rfl, ?_⟩)) wok_sub
          · refine d_op 10 rfl (by kernel_rfl) (ls' := #[true, true, true, true, true, true, true, true, true, true, true, true, true, true, true, true, true, false, false, false, false, false, false, false, false, false]) rfl wok_sub (G.quiet (q_load_ew (i := ni) rfl (InRow.rdb (A := A14) (els := ((runM c l (q.take k)).1).map V.c) (by simp [runM_len]) (map_cat (c := V.c) (fun _ => rfl) _)) (map_get (by first | assumption | omega | (simp_all; done) | (simp_all; omega))) rfl) rfl ?_)
            refine d_op 17 rfl (by kernel_rfl) (ls' := #[true, true, true, true, true, true, true, true, true, true, true, true, true, true, true, true, true, true, false, false, false, false, false, false, false, false]) rfl wok_sub (g_pure rfl (fun w1 hw1 => apply_any _ _ c w1 bi bj) rfl ?_)
            refine d_q 18 rfl (by kernel_rfl) (q_move rfl) wok_sub rfl (ls' := #[true, true, true, true, true, true, true, true, true, true, true, true, true, true, true, true, true, true, true, false, false, false, false, false, false, false]) rfl ?_
            refine d_q 19 rfl (by kernel_rfl) (q_extract rfl rfl) wok_sub rfl (ls' := #[true, true, true, true, true, true, true, true, true, true, true, true, true, true, true, true, true, true, true, true, false, false, false, false, false, false]) rfl ?_
            refine d_q 20 rfl (by kernel_rfl) (q_extract rfl rfl) wok_sub rfl (ls' := #[true, true, true, true, true, true, true, true, true, true, true, true, true, true, true, true, true, true, true, true, true, false, false, false, false, false]) rfl ?_
            refine d_q 21 rfl (by kernel_rfl) (q_extract rfl rfl) wok_sub rfl (ls' := #[true, true, true, true, true, true, true, true, true, true, true, true, true, true, true, true, true, true, true, true, true, true, false, false, false, false]) rfl ?_
            refine d_op 22 rfl (by kernel_rfl) (ls' := #[true, true, true, true, true, true, true, true, true, true, true, true, true, true, true, true, true, true, true, true, true, true, true, false, false, false]) rfl wok_sub (G.quiet (q_index (i := ni) rfl rfl rfl (InRow.rdb (A := A14) (els := ((runM c l (q.take k)).1).map V.c) (by simp [runM_len]) (map_cat (c := V.c) (fun _ => rfl) _)) (by first | omega | (simp; done) | (simp; omega))) rfl ?_)
            refine d_op 23 rfl (by kernel_rfl) (ls' := #[true, true, true, true, true, true, true, true, true, true, true, true, true, true, true, true, true, true, true, true, true, true, true, true, false, false]) rfl wok_sub (g_store_el (A := A14) (i := ni) (o := 0) (cs' := V.c ((apS ((runM c l (q.take k)).1[ni]) ((runM c l (q.take k)).1[nj]) c))) rfl rfl rfl rfl rfl (map_get (by first | assumption | omega | (simp_all; done) | (simp_all; omega))) (by first | (simp; done) | exact Nat.le_refl _) rfl (splice_all rfl) ?_)
            refine g_rowels (A := A14) (((runM c l (q.take k)).1.set ni (apS ((runM c l (q.take k)).1[ni]) ((runM c l (q.take k)).1[nj]) c)).map V.c) (by simp only [List.map_set]) ?_
            refine d_op 24 rfl (by kernel_rfl) (ls' := #[true, true, true, true, true, true, true, true, true, true, true, true, true, true, true, true, true, true, true, true, true, true, true, true, true, false]) rfl wok_sub (G.quiet (q_index (i := nj) rfl rfl rfl (InRow.rdb (A := A14) (els := (((runM c l (q.take k)).1.set ni (apS ((runM c l (q.take k)).1[ni]) ((runM c l (q.take k)).1[nj]) c))).map V.c) (by first | rfl | assumption | (simp; done) | (simp_all; done) | (simp; omega) | (simp_all; omega)) (map_cat (c := V.c) (fun _ => rfl) _)) (by first | omega | (simp; done) | (simp; omega))) rfl ?_)
            refine d_op 25 rfl (by kernel_rfl) (ls' := #[true, true, true, true, true, true, true, true, true, true, true, true, true, true, true, true, true, true, true, true, true, true, true, true, true, true]) rfl wok_sub (g_store_el (A := A14) (i := nj) (o := 0) (cs' := V.c ((apD ((runM c l (q.take k)).1[ni]) ((runM c l (q.take k)).1[nj]) c))) rfl rfl rfl rfl rfl (map_get (by first | assumption | omega | (simp_all; done) | (simp_all; omega))) (by first | (simp; done) | exact Nat.le_refl _) rfl (splice_all rfl) ?_)
            refine g_rowels (A := A14) ((((runM c l (q.take k)).1.set ni (apS ((runM c l (q.take k)).1[ni]) ((runM c l (q.take k)).1[nj]) c)).set nj (apD ((runM c l (q.take k)).1[ni]) ((runM c l (q.take k)).1[nj]) c)).map V.c) (by simp only [List.map_set]) ?_
            refine d_end (by kernel_rfl) (.inr wok_sub) ?_
            refine g_then ?_
            refine g_region ?_
            refine s_q (q_move rfl) rfl ?_
            refine s_q (q_move rfl) rfl ?_
            refine g_op (g_lit rfl rfl rfl rfl rfl fun b62 => ?_)
            refine g_blkc (b := b62) ((([(decide (reqV (runM c l (q.take k)).1 (q[k]).a (q[k]).b c = 0))] : List Bool).map (fun v : Bool => [Value.bool v])).flatten) rfl ?_
            refine g_op (g_append (A := B1) (els := ((runM c l (q.take k)).2).map (fun v : Bool => [Value.bool v])) (news := (([(decide (reqV (runM c l (q.take k)).1 (q[k]).a (q[k]).b c = 0))] : List Bool).map (fun v : Bool => [Value.bool v]))) rfl rfl (InL.rdb (b := b62) rfl (by simp) rfl) (map_one (c := (fun v : Bool => [Value.bool v])) (by intro x; simp [Value.oneCell']) _) (by first | omega | (simp; omega) | (simp_all; omega)) rfl fun A63 cap63 => ⟨_, inferInstance, ?_⟩)
            refine g_rowels (A := A63) ((((runM c l (q.take k)).2 ++ [(decide (reqV (runM c l (q.take k)).1 (q[k]).a (q[k]).b c = 0))])).map (fun v : Bool => [Value.bool v])) (by first | rfl | exact List.map_append.symm | (simp; done)) ?_
            refine s_q (q_assign rfl) rfl ?_
            refine g_nil ?_
            refine g_blk_n ?_
            refine g_then ?_
            refine g_region ?_
            refine s_q (q_inc rfl rfl (by omega)) rfl ?_
            refine s_q (q_move rfl) rfl ?_
            refine g_nil ?_
            have e2 : (runM c l (q.take k)).2 ++ [decide (reqV (runM c l (q.take k)).1 (q[k]).a (q[k]).b c = 0)] = (runM c l (q.take (k + 1))).2 := by rw [runM_succ lt_q]; rfl
            have e3 : (runM c l (q.take k)).2.length + 1 = (runM c l (q.take (k + 1))).2.length := by rw [← e2]; simp
            have e1 : ((runM c l (q.take k)).1.set ni (apS (runM c l (q.take k)).1[ni] (runM c l (q.take k)).1[nj] c)).set nj (apD (runM c l (q.take k)).1[ni] (runM c l (q.take k)).1[nj] c) = (runM c l (q.take (k + 1))).1 := by rw [runM_succ lt_q, step_in hni hnj hi hj g6]; unfold stepM; dsimp only; rw [if_pos (show okReq (runM c l (q.take k)).1 (q[k]) c = true from h2)]
            rw [e3, e2, e1]
            exact g_again ((k + 1), A63, cap63) (by (try dsimp only); exact (by first | exact lt_k | omega)) (by first | omega | (simp only; omega)) (by repeat (first | exact trivial | refine ⟨rfl, ?_⟩)) wok_sub
        · refine d_op 9 rfl (by kernel_rfl) (ls' := #[true, true, true, true, true, true, true, true, true, true, false, true, true, true, true, true, true, false, false, false, false, false, false, false, false, false]) rfl wok_sub (G.quiet (q_index (i := ni) rfl rfl rfl (InRow.rdb (A := A14) (els := ((runM c l (q.take k)).1).map V.c) (by simp [runM_len]) (map_cat (c := V.c) (fun _ => rfl) _)) (by first | omega | (simp; done) | (simp; omega))) rfl ?_)
          refine d_op 10 rfl (by kernel_rfl) (ls' := #[true, true, true, true, true, true, true, true, true, true, true, true, true, true, true, true, true, false, false, false, false, false, false, false, false, false]) rfl wok_sub (G.quiet (q_load_ew (i := ni) rfl (InRow.rdb (A := A14) (els := ((runM c l (q.take k)).1).map V.c) (by simp [runM_len]) (map_cat (c := V.c) (fun _ => rfl) _)) (map_get (by first | assumption | omega | (simp_all; done) | (simp_all; omega))) rfl) rfl ?_)
          refine d_op 17 rfl (by kernel_rfl) (ls' := #[true, true, true, true, true, true, true, true, true, true, true, true, true, true, true, true, true, true, false, false, false, false, false, false, false, false]) rfl wok_sub (g_pure rfl (fun w1 hw1 => apply_any _ _ c w1 bi bj) rfl ?_)
          refine d_q 18 rfl (by kernel_rfl) (q_move rfl) wok_sub rfl (ls' := #[true, true, true, true, true, true, true, true, true, true, true, true, true, true, true, true, true, true, true, false, false, false, false, false, false, false]) rfl ?_
          refine d_q 19 rfl (by kernel_rfl) (q_extract rfl rfl) wok_sub rfl (ls' := #[true, true, true, true, true, true, true, true, true, true, true, true, true, true, true, true, true, true, true, true, false, false, false, false, false, false]) rfl ?_
          refine d_q 20 rfl (by kernel_rfl) (q_extract rfl rfl) wok_sub rfl (ls' := #[true, true, true, true, true, true, true, true, true, true, true, true, true, true, true, true, true, true, true, true, true, false, false, false, false, false]) rfl ?_
          refine d_q 21 rfl (by kernel_rfl) (q_extract rfl rfl) wok_sub rfl (ls' := #[true, true, true, true, true, true, true, true, true, true, true, true, true, true, true, true, true, true, true, true, true, true, false, false, false, false]) rfl ?_
          refine d_op 22 rfl (by kernel_rfl) (ls' := #[true, true, true, true, true, true, true, true, true, true, true, true, true, true, true, true, true, true, true, true, true, true, true, false, false, false]) rfl wok_sub (G.quiet (q_index (i := ni) rfl rfl rfl (InRow.rdb (A := A14) (els := ((runM c l (q.take k)).1).map V.c) (by simp [runM_len]) (map_cat (c := V.c) (fun _ => rfl) _)) (by first | omega | (simp; done) | (simp; omega))) rfl ?_)
          refine d_op 23 rfl (by kernel_rfl) (ls' := #[true, true, true, true, true, true, true, true, true, true, true, true, true, true, true, true, true, true, true, true, true, true, true, true, false, false]) rfl wok_sub (g_store_el (A := A14) (i := ni) (o := 0) (cs' := V.c ((apS ((runM c l (q.take k)).1[ni]) ((runM c l (q.take k)).1[nj]) c))) rfl rfl rfl rfl rfl (map_get (by first | assumption | omega | (simp_all; done) | (simp_all; omega))) (by first | (simp; done) | exact Nat.le_refl _) rfl (splice_all rfl) ?_)
          refine g_rowels (A := A14) (((runM c l (q.take k)).1.set ni (apS ((runM c l (q.take k)).1[ni]) ((runM c l (q.take k)).1[nj]) c)).map V.c) (by simp only [List.map_set]) ?_
          refine d_op 24 rfl (by kernel_rfl) (ls' := #[true, true, true, true, true, true, true, true, true, true, true, true, true, true, true, true, true, true, true, true, true, true, true, true, true, false]) rfl wok_sub (G.quiet (q_index (i := nj) rfl rfl rfl (InRow.rdb (A := A14) (els := (((runM c l (q.take k)).1.set ni (apS ((runM c l (q.take k)).1[ni]) ((runM c l (q.take k)).1[nj]) c))).map V.c) (by first | rfl | assumption | (simp; done) | (simp_all; done) | (simp; omega) | (simp_all; omega)) (map_cat (c := V.c) (fun _ => rfl) _)) (by first | omega | (simp; done) | (simp; omega))) rfl ?_)
          refine d_op 25 rfl (by kernel_rfl) (ls' := #[true, true, true, true, true, true, true, true, true, true, true, true, true, true, true, true, true, true, true, true, true, true, true, true, true, true]) rfl wok_sub (g_store_el (A := A14) (i := nj) (o := 0) (cs' := V.c ((apD ((runM c l (q.take k)).1[ni]) ((runM c l (q.take k)).1[nj]) c))) rfl rfl rfl rfl rfl (map_get (by first | assumption | omega | (simp_all; done) | (simp_all; omega))) (by first | (simp; done) | exact Nat.le_refl _) rfl (splice_all rfl) ?_)
          refine g_rowels (A := A14) ((((runM c l (q.take k)).1.set ni (apS ((runM c l (q.take k)).1[ni]) ((runM c l (q.take k)).1[nj]) c)).set nj (apD ((runM c l (q.take k)).1[ni]) ((runM c l (q.take k)).1[nj]) c)).map V.c) (by simp only [List.map_set]) ?_
          refine d_end (by kernel_rfl) (.inr wok_sub) ?_
          refine g_then ?_
          refine g_region ?_
          refine s_q (q_move rfl) rfl ?_
          refine s_q (q_move rfl) rfl ?_
          refine g_op (g_lit rfl rfl rfl rfl rfl fun b62 => ?_)
          refine g_blkc (b := b62) ((([(decide (reqV (runM c l (q.take k)).1 (q[k]).a (q[k]).b c = 0))] : List Bool).map (fun v : Bool => [Value.bool v])).flatten) rfl ?_
          refine g_op (g_append (A := B1) (els := ((runM c l (q.take k)).2).map (fun v : Bool => [Value.bool v])) (news := (([(decide (reqV (runM c l (q.take k)).1 (q[k]).a (q[k]).b c = 0))] : List Bool).map (fun v : Bool => [Value.bool v]))) rfl rfl (InL.rdb (b := b62) rfl (by simp) rfl) (map_one (c := (fun v : Bool => [Value.bool v])) (by intro x; simp [Value.oneCell']) _) (by first | omega | (simp; omega) | (simp_all; omega)) rfl fun A63 cap63 => ⟨_, inferInstance, ?_⟩)
          refine g_rowels (A := A63) ((((runM c l (q.take k)).2 ++ [(decide (reqV (runM c l (q.take k)).1 (q[k]).a (q[k]).b c = 0))])).map (fun v : Bool => [Value.bool v])) (by first | rfl | exact List.map_append.symm | (simp; done)) ?_
          refine s_q (q_assign rfl) rfl ?_
          refine g_nil ?_
          refine g_blk_n ?_
          refine g_then ?_
          refine g_region ?_
          refine s_q (q_inc rfl rfl (by omega)) rfl ?_
          refine s_q (q_move rfl) rfl ?_
          refine g_nil ?_
          have e2 : (runM c l (q.take k)).2 ++ [decide (reqV (runM c l (q.take k)).1 (q[k]).a (q[k]).b c = 0)] = (runM c l (q.take (k + 1))).2 := by rw [runM_succ lt_q]; rfl
          have e3 : (runM c l (q.take k)).2.length + 1 = (runM c l (q.take (k + 1))).2.length := by rw [← e2]; simp
          have e1 : ((runM c l (q.take k)).1.set ni (apS (runM c l (q.take k)).1[ni] (runM c l (q.take k)).1[nj] c)).set nj (apD (runM c l (q.take k)).1[ni] (runM c l (q.take k)).1[nj] c) = (runM c l (q.take (k + 1))).1 := by rw [runM_succ lt_q, step_in hni hnj hi hj g6]; unfold stepM; dsimp only; rw [if_pos (show okReq (runM c l (q.take k)).1 (q[k]) c = true from h2)]
          rw [e3, e2, e1]
          exact g_again ((k + 1), A63, cap63) (by (try dsimp only); exact (by first | exact lt_k | omega)) (by first | omega | (simp only; omega)) (by repeat (first | exact trivial | refine ⟨rfl, ?_⟩)) wok_sub
    · refine g_skip ?_
      refine g_then ?_
      refine g_region ?_
      refine s_q (q_move rfl) rfl ?_
      refine s_q (q_move rfl) rfl ?_
      refine g_op (g_lit rfl rfl rfl rfl rfl fun b62 => ?_)
      refine g_blkc (b := b62) ((([(decide (reqV (runM c l (q.take k)).1 (q[k]).a (q[k]).b c = 0))] : List Bool).map (fun v : Bool => [Value.bool v])).flatten) rfl ?_
      refine g_op (g_append (A := B1) (els := ((runM c l (q.take k)).2).map (fun v : Bool => [Value.bool v])) (news := (([(decide (reqV (runM c l (q.take k)).1 (q[k]).a (q[k]).b c = 0))] : List Bool).map (fun v : Bool => [Value.bool v]))) rfl rfl (InL.rdb (b := b62) rfl (by simp) rfl) (map_one (c := (fun v : Bool => [Value.bool v])) (by intro x; simp [Value.oneCell']) _) (by first | omega | (simp; omega) | (simp_all; omega)) rfl fun A63 cap63 => ⟨_, inferInstance, ?_⟩)
      refine g_rowels (A := A63) ((((runM c l (q.take k)).2 ++ [(decide (reqV (runM c l (q.take k)).1 (q[k]).a (q[k]).b c = 0))])).map (fun v : Bool => [Value.bool v])) (by first | rfl | exact List.map_append.symm | (simp; done)) ?_
      refine s_q (q_assign rfl) rfl ?_
      refine g_nil ?_
      refine g_blk_n ?_
      refine g_then ?_
      refine g_region ?_
      refine s_q (q_inc rfl rfl (by omega)) rfl ?_
      refine s_q (q_move rfl) rfl ?_
      refine g_nil ?_
      have e2 : (runM c l (q.take k)).2 ++ [decide (reqV (runM c l (q.take k)).1 (q[k]).a (q[k]).b c = 0)] = (runM c l (q.take (k + 1))).2 := by rw [runM_succ lt_q]; rfl
      have e3 : (runM c l (q.take k)).2.length + 1 = (runM c l (q.take (k + 1))).2.length := by rw [← e2]; simp
      have e1 : (runM c l (q.take k)).1 = (runM c l (q.take (k + 1))).1 := by rw [runM_succ lt_q]; unfold stepM; dsimp only; rw [if_neg (by rw [show okReq (runM c l (q.take k)).1 (q[k]) c = false from h2]; simp)]
      rw [e3, e2, e1]
      exact g_again ((k + 1), A63, cap63) (by (try dsimp only); exact (by first | exact lt_k | omega)) (by first | omega | (simp only; omega)) (by repeat (first | exact trivial | refine ⟨rfl, ?_⟩)) wok_sub
  · have eq_k : k = (min q.length P) := by have h9 := of_decide_eq_false h1; omega
    refine g_exit ?_
    refine g_then_x (g_then_x (g_blk_hit ?_))
    refine g_then ?_
    refine g_seq ?_
    refine g_region ?_
    refine s_q (q_move rfl) rfl ?_
    refine s_q (q_move rfl) rfl ?_
    refine s_q (q_assign rfl) rfl ?_
    refine s_q (q_assign rfl) rfl ?_
    refine g_nil ?_
    refine g_then ?_
    refine g_ret ?_
    exact fin2 rfl (.tmp rfl) (.tmp rfl) (fun w' hw' => ⟨(A14, cap14, B1, capb), (by first | exact trivial | (dsimp only; exact trivial)), by rw [← eq_k], by have h9 := wok_sub (L' := [Res.row A14 l.length cap14 24 7 ((runM c l (q.take k)).1.map V.c), Res.row B1 (runM c l (q.take k)).2.length capb 4 1 ((runM c l (q.take k)).2.map (fun v : Bool => [Value.bool v]))]) w' hw'; show WOK _ _ [Res.row ((A14, cap14, B1, capb)).1 l.length ((A14, cap14, B1, capb)).2.1 24 7 ((runM c l (q.take (min q.length P))).1.map V.c), Res.row ((A14, cap14, B1, capb)).2.2.1 (runM c l (q.take (min q.length P))).2.length ((A14, cap14, B1, capb)).2.2.2 4 1 ((runM c l (q.take (min q.length P))).2.map (fun v : Bool => [Value.bool v]))] _; rw [← eq_k]; exact h9⟩) _ (.inl rfl)

set_option maxHeartbeats 400000 in
theorem rstep_any (A B : Option Addr) (n cap capq P : Nat) (l : List V) (q : List PP) (c : C) (w : World) (hl : Rd w [] A n 7 (l.map V.c)) (hq : Rd w [] B q.length 2 (q.map PP.c)) (hcq : q.length ≤ capq) (hb : n ≤ 1000000) (hbq : q.length ≤ 1000000) (hP : c.merg = ((P : Nat) : Int)) (hok : okV l) : Own2 (ι := (Option Addr × Nat × Option Addr × Nat)) Try.prog 22 [.slice A n cap, .slice B q.length capq, c.v] w [] (fun x => True) (fun x => .tuple [.slice x.1 l.length x.2.1, .slice x.2.2.1 (runM c l (q.take (min q.length P))).2.length x.2.2.2].toArray) (fun x => [Res.row x.1 l.length x.2.1 24 7 ((runM c l (q.take (min q.length P))).1.map V.c), Res.row x.2.2.1 (runM c l (q.take (min q.length P))).2.length x.2.2.2 4 1 ((runM c l (q.take (min q.length P))).2.map (fun v : Bool => [Value.bool v]))]) (fun x => []) := by
  refine g_start Try.func22 rfl 60 rfl (by simp) (fps []) [] (WOK.start _ _) _ rfl ?_
  have hn : n = l.length := by have := hl.old.len; simpa using this
  refine g_seq ?_
  refine g_region ?_
  refine g_op (g_box rfl rfl rfl fun b5 => ?_)
  refine s_q (q_assign rfl) rfl ?_
  refine s_q (q_assign rfl) rfl ?_
  refine g_nil ?_
  refine g_then ?_
  refine g_seq ?_
  refine g_region ?_
  refine g_op (g_lit rfl rfl rfl rfl rfl fun b12 => ?_)
  refine g_norow (t := 12) (T := 24) (k := 7) rfl fun A12 cap12 hc12 => ?_
  refine g_rowels (A := A12) (([] : List V).map V.c) rfl ?_
  refine s_q (q_move rfl) rfl ?_
  refine g_op (g_append (A := A12) (els := (([] : List V)).map V.c) (news := ((l).map V.c)) rfl rfl hl.rdb (map_one (c := V.c) (by intro x; simp [V.c, Value.oneCell']) _) (by first | omega | (simp; omega) | (simp_all; omega)) rfl fun A14 cap14 => ⟨_, inferInstance, ?_⟩)
  refine g_rowels (A := A14) ((l).map V.c) (by first | rfl | exact List.map_append.symm | (simp; done)) ?_
  refine g_rown (A := A14) (n) (by simp) ?_
  refine g_val 14 (v' := .slice A14 (n) cap14) rfl (by simp) ?_
  refine s_q (q_assign rfl) rfl ?_
  refine g_nil ?_
  refine g_then ?_
  refine g_seq ?_
  refine g_region ?_
  refine s_q (q_assign rfl) rfl ?_
  refine g_nilrow 9 4 1 rfl fun Az1 capz1 hcz1 => ?_
  refine g_rowels (A := Az1) (([] : List Bool).map (fun v : Bool => [Value.bool v])) rfl ?_
  refine g_nil ?_
  refine g_then ?_
  refine g_seq ?_
  refine g_seq ?_
  refine g_region ?_
  refine s_q (q_assign rfl) rfl ?_
  refine g_nil ?_
  refine g_then ?_
  refine g_block ?_
  refine g_rowels (A := A14) ((runM c l (q.take 0)).1.map V.c) (by simp [runM]) ?_
  refine g_rown (A := A14) l.length (by first | rfl | omega | (simp; omega)) ?_
  refine g_val 8 (v' := .slice A14 l.length cap14) rfl (by first | rfl | rw [hn] | (simp; omega)) ?_
  refine g_rowels (A := Az1) ((runM c l (q.take 0)).2.map (fun v : Bool => [Value.bool v])) (by simp [runM]) ?_
  refine g_rown (A := Az1) (runM c l (q.take 0)).2.length (by simp [runM]) ?_
  refine g_val 9 (v' := .slice Az1 (runM c l (q.take 0)).2.length capz1) rfl (by simp [runM]) ?_
  refine g_loopk [1, 5, 6, 7] (fun (x : Nat × Option Addr × Nat × Option Addr × Nat) => [(8, .slice x.2.1 l.length x.2.2.1), (9, .slice x.2.2.2.1 (runM c l (q.take x.1)).2.length x.2.2.2.2), (10, .int .i64 ((x.1 : Nat) : Int))]) (fun (x : Nat × Option Addr × Nat × Option Addr × Nat) => [Res.blk b5 26 c.c, Res.row x.2.1 l.length x.2.2.1 24 7 ((runM c l (q.take x.1)).1.map V.c), Res.row x.2.2.2.1 (runM c l (q.take x.1)).2.length x.2.2.2.2 4 1 ((runM c l (q.take x.1)).2.map (fun v : Bool => [Value.bool v]))]) (fun (x : Nat × Option Addr × Nat × Option Addr × Nat) => x.1 ≤ (min q.length P)) (fun (x : Nat × Option Addr × Nat × Option Addr × Nat) => (min q.length P) - x.1) (0, A14, cap14, Az1, capz1) (by (try dsimp only); exact (by omega)) rfl (by repeat (first | exact trivial | refine ⟨rfl, ?_⟩)) wok_sub ?_
  rintro ⟨k, A1, cap1, B1, capb⟩ le_k
  replace le_k : k ≤ (min q.length P) := le_k
  refine g_setL (L' := [Res.blk b5 26 c.c, Res.row A1 l.length cap1 24 7 ((runM c l (q.take k)).1.map V.c), Res.row B1 (runM c l (q.take k)).2.length capb 4 1 ((runM c l (q.take k)).2.map (fun v : Bool => [Value.bool v]))]) rfl ?_
  refine g_val 8 (v' := .slice A1 l.length cap1) rfl rfl ?_
  refine g_val 9 (v' := .slice B1 (runM c l (q.take k)).2.length capb) rfl rfl ?_
  refine g_val 10 (v' := .int .i64 ((k : Nat) : Int)) rfl rfl ?_
  have hr4 := (runM_len c l (q.take k)).1
  have hr5 := (runM_len c l (q.take k)).2
  have hr6 : (q.take k).length ≤ k := List.length_take_le _ _
  have hokk := okV_run (c := c) (q.take k) hok
  refine g_seq ?_
  refine g_seq ?_
  refine g_region ?_
  refine s_q (q_move rfl) rfl ?_
  refine s_q (q_move rfl) rfl ?_
  refine s_q (q_len rfl) rfl ?_
  refine s_q (q_lss rfl rfl) rfl ?_
  refine s_q (q_move rfl) rfl ?_
  refine g_split 19 rfl (fun h1 => ?_) (fun h1 => ?_)
  · refine s_qg (q_move rfl) rfl rfl rfl ?_
    refine s_qg (q_field rfl) rfl rfl rfl ?_
    refine s_qg (q_load rfl rfl) rfl rfl rfl ?_
    refine s_qg (q_lss rfl rfl) rfl rfl rfl ?_
    refine s_q (q_pick_t rfl rfl) rfl ?_
    refine g_nil ?_
    refine g_then ?_
    refine g_cond rfl (fun h2 => ?_) (fun h2 => ?_)
    · have lt_q : k < q.length := by simp at h1; omega
      have lt_M : k < (min q.length P) := by simp [hP] at h2; omega
      refine g_skip ?_
      refine g_then ?_
      refine g_seq ?_
      refine g_block ?_
      refine g_seq ?_
      refine d_region [] mixed rfl rfl ?_
      refine d_q 0 rfl (by kernel_rfl) (q_move rfl) wok_sub rfl (ls' := #[true, false, false, false, false, false, false, false, false, false, false, false, false, false, false]) rfl ?_
      refine d_q 1 rfl (by kernel_rfl) (q_move rfl) wok_sub rfl (ls' := #[true, true, false, false, false, false, false, false, false, false, false, false, false, false, false]) rfl ?_
      refine d_q 2 rfl (by kernel_rfl) (q_move rfl) wok_sub rfl (ls' := #[true, true, true, false, false, false, false, false, false, false, false, false, false, false, false]) rfl ?_
      refine d_q 3 rfl (by kernel_rfl) (q_index (i := k) rfl rfl rfl hq.rdb (by first | omega | (simp; done) | (simp; omega))) wok_sub rfl (ls' := #[true, true, true, true, false, false, false, false, false, false, false, false, false, false, false]) rfl ?_
      refine d_q 4 rfl (by kernel_rfl) (q_index_arr (i := 0) rfl rfl rfl (by decide)) wok_sub rfl (ls' := #[true, true, true, true, true, false, false, false, false, false, false, false, false, false, false]) rfl ?_
      refine d_q 5 rfl (by kernel_rfl) (q_load_el (i := k) (o := 0) rfl hq.rdb (map_get (by first | exact (by first | omega | (simp; done) | (simp; omega)) | omega | (simp_all; done) | (simp_all; omega))) rfl rfl) wok_sub rfl (ls' := #[true, true, true, true, true, true, false, false, false, false, false, false, false, false, false]) rfl ?_
      refine d_q 6 rfl (by kernel_rfl) (q_move rfl) wok_sub rfl (ls' := #[true, true, true, true, true, true, true, false, false, false, false, false, false, false, false]) rfl ?_
      refine d_q 7 rfl (by kernel_rfl) (q_move rfl) wok_sub rfl (ls' := #[true, true, true, true, true, true, true, true, false, false, false, false, false, false, false]) rfl ?_
      refine d_q 8 rfl (by kernel_rfl) (q_index (i := k) rfl rfl rfl hq.rdb (by first | omega | (simp; done) | (simp; omega))) wok_sub rfl (ls' := #[true, true, true, true, true, true, true, true, true, false, false, false, false, false, false]) rfl ?_
      refine d_q 9 rfl (by kernel_rfl) (q_index_arr (i := 1) rfl rfl rfl (by decide)) wok_sub rfl (ls' := #[true, true, true, true, true, true, true, true, true, true, false, false, false, false, false]) rfl ?_
      refine d_q 10 rfl (by kernel_rfl) (q_load_el (i := k) (o := 1) rfl hq.rdb (map_get (by first | exact (by first | omega | (simp; done) | (simp; omega)) | omega | (simp_all; done) | (simp_all; omega))) rfl rfl) wok_sub rfl (ls' := #[true, true, true, true, true, true, true, true, true, true, true, false, false, false, false]) rfl ?_
      refine d_q 11 rfl (by kernel_rfl) (q_loadw rfl rfl) wok_sub rfl (ls' := #[true, true, true, true, true, true, true, true, true, true, true, true, false, false, false]) rfl ?_
      refine d_op 12 rfl (by kernel_rfl) (ls' := #[true, true, true, true, true, true, true, true, true, true, true, true, true, false, false]) rfl wok_sub (g_pure rfl (fun w1 hw1 => rreq_any A1 (l.length) (cap1) ((runM c l (q.take k)).1) (_) (_) _ w1 (Rdb.toOld (InRow.rdb (A := A1) (els := ((runM c l (q.take k)).1).map V.c) (by simp [runM_len]) (map_cat (c := V.c) (fun _ => rfl) _)) hw1) hokk (by first | omega | (simp; omega))) rfl ?_)
      refine d_q 13 rfl (by kernel_rfl) (q_eql rfl rfl) wok_sub rfl (ls' := #[true, true, true, true, true, true, true, true, true, true, true, true, true, true, false]) rfl ?_
      refine d_q 14 rfl (by kernel_rfl) (q_assign rfl) wok_sub rfl (ls' := #[true, true, true, true, true, true, true, true, true, true, true, true, true, true, true]) rfl ?_
      refine d_end (by kernel_rfl) (.inr wok_sub) ?_
      refine g_then ?_
      refine g_seq ?_
      refine g_seq ?_
      refine g_region ?_
      refine s_q (q_move rfl) rfl ?_
      refine g_nil ?_
      refine g_then ?_
      refine g_cond rfl (fun h3 => ?_) (fun h3 => ?_)
      · have hreq := of_decide_eq_true h3
        obtain ⟨g1, g2, g3, g4, g5, g6⟩ := req_ok hreq
        obtain ⟨ni, hni⟩ : ∃ t : Nat, (q[k]).a = t := ⟨(q[k]).a.toNat, by omega⟩
        obtain ⟨nj, hnj⟩ : ∃ t : Nat, (q[k]).b = t := ⟨(q[k]).b.toNat, by omega⟩
        have hi : ni < (runM c l (q.take k)).1.length := by omega
        have hj : nj < (runM c l (q.take k)).1.length := by omega
        have hi2 : ni < l.length := by omega
        have hj2 : nj < l.length := by omega
        have bi := hokk _ (List.getElem_mem hi)
        have bj := hokk _ (List.getElem_mem hj)
        refine d_region [] mixed rfl rfl ?_
        refine d_q 0 rfl (by kernel_rfl) (q_move rfl) wok_sub rfl (ls' := #[true, false, false, false, false, false, false, false, false, false, false, false, false]) rfl ?_
        refine d_q 1 rfl (by kernel_rfl) (q_move rfl) wok_sub rfl (ls' := #[true, true, false, false, false, false, false, false, false, false, false, false, false]) rfl ?_
        refine d_q 2 rfl (by kernel_rfl) (q_move rfl) wok_sub rfl (ls' := #[true, true, true, false, false, false, false, false, false, false, false, false, false]) rfl ?_
        refine d_q 3 rfl (by kernel_rfl) (q_index (i := k) rfl rfl rfl hq.rdb (by first | omega | (simp; done) | (simp; omega))) wok_sub rfl (ls' := #[true, true, true, true, false, false, false, false, false, false, false, false, false]) rfl ?_
        refine d_q 4 rfl (by kernel_rfl) (q_index_arr (i := 0) rfl rfl rfl (by decide)) wok_sub rfl (ls' := #[true, true, true, true, true, false, false, false, false, false, false, false, false]) rfl ?_
        refine d_q 5 rfl (by kernel_rfl) (q_load_el (i := k) (o := 0) rfl hq.rdb (map_get (by first | exact (by first | omega | (simp; done) | (simp; omega)) | omega | (simp_all; done) | (simp_all; omega))) rfl rfl) wok_sub rfl (ls' := #[true, true, true, true, true, true, false, false, false, false, false, false, false]) rfl ?_
        refine g_val 47 (v' := .int .i64 ((ni : Nat) : Int)) rfl (by rw [hni]) ?_
        refine d_q 6 rfl (by kernel_rfl) (q_move rfl) wok_sub rfl (ls' := #[true, true, true, true, true, true, true, false, false, false, false, false, false]) rfl ?_
        refine d_q 7 rfl (by kernel_rfl) (q_move rfl) wok_sub rfl (ls' := #[true, true, true, true, true, true, true, true, false, false, false, false, false]) rfl ?_
        refine d_q 8 rfl (by kernel_rfl) (q_index (i := k) rfl rfl rfl hq.rdb (by first | omega | (simp; done) | (simp; omega))) wok_sub rfl (ls' := #[true, true, true, true, true, true, true, true, true, false, false, false, false]) rfl ?_
        refine d_q 9 rfl (by kernel_rfl) (q_index_arr (i := 1) rfl rfl rfl (by decide)) wok_sub rfl (ls' := #[true, true, true, true, true, true, true, true, true, true, false, false, false]) rfl ?_
        refine d_q 10 rfl (by kernel_rfl) (q_load_el (i := k) (o := 1) rfl hq.rdb (map_get (by first | exact (by first | omega | (simp; done) | (simp; omega)) | omega | (simp_all; done) | (simp_all; omega))) rfl rfl) wok_sub rfl (ls' := #[true, true, true, true, true, true, true, true, true, true, true, false, false]) rfl ?_
        refine g_val 52 (v' := .int .i64 ((nj : Nat) : Int)) rfl (by rw [hnj]) ?_
        refine d_op 11 rfl (by kernel_rfl) (ls' := #[true, true, true, true, true, true, true, true, true, true, true, true, false]) rfl wok_sub (g_ownS [] rfl (fun w1 hw1 ho1 => by have h7 := move_any A1 (l.length) (cap1) ((runM c l (q.take k)).1) ni nj w1 (Rd.ofRow (A := A1) hw1) (by first | omega | (simp; omega) | (simp; done)) (by first | assumption | omega | (simp; done)) (by first | assumption | omega | (simp; done)); exact h7) rfl ?_)
        rintro ⟨A53, cap53⟩ _
        refine ⟨_, _, inferInstance, inferInstance, ?_⟩
        refine d_q 12 rfl (by kernel_rfl) (q_assign rfl) wok_sub rfl (ls' := #[true, true, true, true, true, true, true, true, true, true, true, true, true]) rfl ?_
        refine d_end (by kernel_rfl) (.inr wok_sub) ?_
        refine g_then ?_
        refine g_region ?_
        refine s_q (q_move rfl) rfl ?_
        refine s_q (q_move rfl) rfl ?_
        refine g_op (g_lit rfl rfl rfl rfl rfl fun b56 => ?_)
        refine g_blkc (b := b56) ((([(decide (reqV (runM c l (q.take k)).1 (q[k]).a (q[k]).b c = 0))] : List Bool).map (fun v : Bool => [Value.bool v])).flatten) rfl ?_
        refine g_op (g_append (A := B1) (els := ((runM c l (q.take k)).2).map (fun v : Bool => [Value.bool v])) (news := (([(decide (reqV (runM c l (q.take k)).1 (q[k]).a (q[k]).b c = 0))] : List Bool).map (fun v : Bool => [Value.bool v]))) rfl rfl (InL.rdb (b := b56) rfl (by simp) rfl) (map_one (c := (fun v : Bool => [Value.bool v])) (by intro x; simp [Value.oneCell']) _) (by first | omega | (simp; omega) | (simp_all; omega)) rfl fun A57 cap57 => ⟨_, inferInstance, ?_⟩)
        refine g_rowels (A := A57) ((((runM c l (q.take k)).2 ++ [(decide (reqV (runM c l (q.take k)).1 (q[k]).a (q[k]).b c = 0))])).map (fun v : Bool => [Value.bool v])) (by first | rfl | exact List.map_append.symm | (simp; done)) ?_
        refine s_q (q_assign rfl) rfl ?_
        refine g_nil ?_
        refine g_blk_n ?_
        refine g_then ?_
        refine g_region ?_
        refine s_q (q_move rfl) rfl ?_
        refine s_q (q_inc rfl rfl (by omega)) rfl ?_
        refine s_q (q_assign rfl) rfl ?_
        refine g_nil ?_
        have e2 : (runM c l (q.take k)).2 ++ [decide (reqV (runM c l (q.take k)).1 (q[k]).a (q[k]).b c = 0)] = (runM c l (q.take (k + 1))).2 := by rw [runM_succ lt_q]; rfl
        have e3 : (runM c l (q.take k)).2.length + 1 = (runM c l (q.take (k + 1))).2.length := by rw [← e2]; simp
        have e1 : mvN (runM c l (q.take k)).1 ni nj = (runM c l (q.take (k + 1))).1 := by rw [runM_succ lt_q]; unfold stepM; dsimp only; rw [if_pos (show okReq (runM c l (q.take k)).1 (q[k]) c = true from h3), hni, hnj]; rfl
        have e4 : (mvN (runM c l (q.take k)).1 ni nj).length = l.length := by rw [mvN_len]; omega
        rw [e4, e3, e2, e1]
        exact g_again ((k + 1), A53, cap53, A57, cap57) (by (try dsimp only); exact (by omega)) (by first | omega | (simp only; omega)) (by repeat (first | exact trivial | refine ⟨rfl, ?_⟩)) wok_sub
      · refine g_skip ?_
        refine g_then ?_
        refine g_region ?_
        refine s_q (q_move rfl) rfl ?_
        refine s_q (q_move rfl) rfl ?_
        refine g_op (g_lit rfl rfl rfl rfl rfl fun b56 => ?_)
        refine g_blkc (b := b56) ((([(decide (reqV (runM c l (q.take k)).1 (q[k]).a (q[k]).b c = 0))] : List Bool).map (fun v : Bool => [Value.bool v])).flatten) rfl ?_
        refine g_op (g_append (A := B1) (els := ((runM c l (q.take k)).2).map (fun v : Bool => [Value.bool v])) (news := (([(decide (reqV (runM c l (q.take k)).1 (q[k]).a (q[k]).b c = 0))] : List Bool).map (fun v : Bool => [Value.bool v]))) rfl rfl (InL.rdb (b := b56) rfl (by simp) rfl) (map_one (c := (fun v : Bool => [Value.bool v])) (by intro x; simp [Value.oneCell']) _) (by first | omega | (simp; omega) | (simp_all; omega)) rfl fun A57 cap57 => ⟨_, inferInstance, ?_⟩)
        refine g_rowels (A := A57) ((((runM c l (q.take k)).2 ++ [(decide (reqV (runM c l (q.take k)).1 (q[k]).a (q[k]).b c = 0))])).map (fun v : Bool => [Value.bool v])) (by first | rfl | exact List.map_append.symm | (simp; done)) ?_
        refine s_q (q_assign rfl) rfl ?_
        refine g_nil ?_
        refine g_blk_n ?_
        refine g_then ?_
        refine g_region ?_
        refine s_q (q_move rfl) rfl ?_
        refine s_q (q_inc rfl rfl (by omega)) rfl ?_
        refine s_q (q_assign rfl) rfl ?_
        refine g_nil ?_
        have e2 : (runM c l (q.take k)).2 ++ [decide (reqV (runM c l (q.take k)).1 (q[k]).a (q[k]).b c = 0)] = (runM c l (q.take (k + 1))).2 := by rw [runM_succ lt_q]; rfl
        have e3 : (runM c l (q.take k)).2.length + 1 = (runM c l (q.take (k + 1))).2.length := by rw [← e2]; simp
        have e1 : (runM c l (q.take k)).1 = (runM c l (q.take (k + 1))).1 := by rw [runM_succ lt_q]; unfold stepM; dsimp only; rw [if_neg (by rw [show okReq (runM c l (q.take k)).1 (q[k]) c = false from h3]; simp)]
        rw [e3, e2, e1]
        exact g_again ((k + 1), A1, cap1, A57, cap57) (by (try dsimp only); exact (by omega)) (by first | omega | (simp only; omega)) (by repeat (first | exact trivial | refine ⟨rfl, ?_⟩)) wok_sub
    · have eq_k : k = (min q.length P) := by simp [hP] at h2; simp at h1; omega
      refine g_exit ?_
      refine g_then_x (g_then_x (g_blk_hit ?_))
      refine g_then ?_
      refine g_seq ?_
      refine g_region ?_
      refine s_q (q_move rfl) rfl ?_
      refine s_q (q_move rfl) rfl ?_
      refine s_q (q_assign rfl) rfl ?_
      refine s_q (q_assign rfl) rfl ?_
      refine g_nil ?_
      refine g_then ?_
      refine g_ret ?_
      exact fin2 rfl (.tmp rfl) (.tmp rfl) (fun w' hw' => ⟨(A1, cap1, B1, capb), (by first | exact trivial | (dsimp only; exact trivial)), by rw [← eq_k], by have h9 := wok_sub (L' := [Res.row A1 l.length cap1 24 7 ((runM c l (q.take k)).1.map V.c), Res.row B1 (runM c l (q.take k)).2.length capb 4 1 ((runM c l (q.take k)).2.map (fun v : Bool => [Value.bool v]))]) w' hw'; show WOK _ _ [Res.row ((A1, cap1, B1, capb)).1 l.length ((A1, cap1, B1, capb)).2.1 24 7 ((runM c l (q.take (min q.length P))).1.map V.c), Res.row ((A1, cap1, B1, capb)).2.2.1 (runM c l (q.take (min q.length P))).2.length ((A1, cap1, B1, capb)).2.2.2 4 1 ((runM c l (q.take (min q.length P))).2.map (fun v : Bool => [Value.bool v]))] _; rw [← eq_k]; exact h9⟩) _ (.inl rfl)
  · have eq_k : k = (min q.length P) := by simp at h1; omega
    refine g_gf rfl rfl rfl rfl ?_
    refine g_gf rfl rfl rfl rfl ?_
    refine g_gf rfl rfl rfl rfl ?_
    refine g_gf rfl rfl rfl rfl ?_
    refine s_q (q_pick_f rfl rfl) rfl ?_
    refine g_nil ?_
    refine g_then ?_
    refine g_false rfl ?_
    refine g_exit ?_
    refine g_then_x (g_then_x (g_blk_hit ?_))
    refine g_then ?_
    refine g_seq ?_
    refine g_region ?_
    refine s_q (q_move rfl) rfl ?_
    refine s_q (q_move rfl) rfl ?_
    refine s_q (q_assign rfl) rfl ?_
    refine s_q (q_assign rfl) rfl ?_
    refine g_nil ?_
    refine g_then ?_
    refine g_ret ?_
    exact fin2 rfl (.tmp rfl) (.tmp rfl) (fun w' hw' => ⟨(A1, cap1, B1, capb), (by first | exact trivial | (dsimp only; exact trivial)), by rw [← eq_k], by have h9 := wok_sub (L' := [Res.row A1 l.length cap1 24 7 ((runM c l (q.take k)).1.map V.c), Res.row B1 (runM c l (q.take k)).2.length capb 4 1 ((runM c l (q.take k)).2.map (fun v : Bool => [Value.bool v]))]) w' hw'; show WOK _ _ [Res.row ((A1, cap1, B1, capb)).1 l.length ((A1, cap1, B1, capb)).2.1 24 7 ((runM c l (q.take (min q.length P))).1.map V.c), Res.row ((A1, cap1, B1, capb)).2.2.1 (runM c l (q.take (min q.length P))).2.length ((A1, cap1, B1, capb)).2.2.2 4 1 ((runM c l (q.take (min q.length P))).2.map (fun v : Bool => [Value.bool v]))] _; rw [← eq_k]; exact h9⟩) _ (.inl rfl)
end Go.Proofs.Ytljdhdlemakcaaa
