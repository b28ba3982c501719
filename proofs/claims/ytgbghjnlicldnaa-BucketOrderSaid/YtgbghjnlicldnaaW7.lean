/- walks of the pieces of the sort -/
import Derived.Test.YtgbghjnlicldnaaW6
namespace Go.Proofs.Ytgbghjnlicldnaa
open Go.RowKit Go.Eg
set_option synthInstance.maxSize 3000
set_option linter.unusedSimpArgs false
set_option linter.unusedVariables false
set_option maxRecDepth 100000
set_option maxHeartbeats 400000 in
theorem swapR_any (A : Option Addr) (n cap : Nat) (d P X M Y S : List En) (a b m : Nat) (w : World) (hw : WOK (fps [Res.row A n cap 50 2 ((d).map En.c)]) w [Res.row A n cap 50 2 ((d).map En.c)] w) (hn : n = d.length) (hn6 : n ≤ 1000000) (hd : d = P ++ (X ++ (M ++ (Y ++ S)))) (ha : P.length = a) (hX : X.length = m) (hY : Y.length = m) (hb : a + m + M.length = b) : Own2 (ι := Unit) Try.prog 42 [.slice A n cap, .int .i64 ((a : Nat) : Int), .int .i64 ((b : Nat) : Int), .int .i64 ((m : Nat) : Int), .func (.func 32) #[] #[]] w [Res.row A n cap 50 2 ((d).map En.c)] (fun x => True) (fun x => .tuple #[]) (fun x => []) (fun x => [Res.row A n cap 50 2 (((P ++ (Y ++ (M ++ (X ++ S))))).map En.c)]) := by
  refine g_start Try.func42 rfl 38 rfl (by simp) (fps [Res.row A n cap 50 2 ((d).map En.c)]) [Res.row A n cap 50 2 ((d).map En.c)] hw _ rfl ?_
  have hdl : d.length = a + m + M.length + m + S.length := by rw [hd]; simp; omega
  refine g_seq ?_
  refine g_region ?_
  refine s_q (q_assign rfl) rfl ?_
  refine g_nil ?_
  refine g_then ?_
  refine g_block ?_
  refine g_loopk [0, 1, 2, 3] (fun (x : Nat × List En) => [(10, .int .i64 ((x.1 : Nat) : Int))]) (fun (x : Nat × List En) => [Res.row A n cap 50 2 ((x.2).map En.c)]) (fun (x : Nat × List En) => x.1 ≤ m ∧ x.2 = swR P X M Y S x.1) (fun (x : Nat × List En) => m - x.1) (0, d) (by (try dsimp only); exact ⟨(by omega), (by rw [swR_zero]; exact hd)⟩) rfl (by repeat (first | exact trivial | refine ⟨rfl, ?_⟩)) wok_sub ?_
  rintro ⟨k, d1⟩ ⟨hk, hd1⟩
  replace hk : k ≤ m := hk
  replace hd1 : d1 = swR P X M Y S k := hd1
  refine g_setL (L' := [Res.row A n cap 50 2 ((d1).map En.c)]) rfl ?_
  refine g_val 10 (v' := .int .i64 ((k : Nat) : Int)) rfl rfl ?_
  have hl1 : d1.length = d.length := by rw [hd1, swR_len (by omega), ← hd]
  refine g_seq ?_
  refine g_seq ?_
  refine g_region ?_
  refine s_q (q_move rfl) rfl ?_
  refine s_q (q_move rfl) rfl ?_
  refine s_q (q_lss rfl rfl) rfl ?_
  refine g_nil ?_
  refine g_then ?_
  refine g_cond rfl (fun h1 => ?_) (fun h1 => ?_)
  · have hk1 : k < m := by have h9 := of_decide_eq_true h1; omega
    have ia : a + k < d1.length := by omega
    have ib : b + k < d1.length := by omega
    refine g_skip ?_
    refine g_then ?_
    refine g_seq ?_
    refine g_block ?_
    refine d_region [12, 13, 18, 19, 20, 21, 22, 23] mixed rfl rfl ?_
    refine d_p 0 rfl (by kernel_rfl) (fun _ => q_move rfl) rfl (ls' := #[true, false, false, false, false, false, false, false, false, false, false, false, false, false, false, false, false, false, false, false, false, false, false, false]) rfl ?_
    refine d_p 1 rfl (by kernel_rfl) (fun _ => q_move rfl) rfl (ls' := #[true, true, false, false, false, false, false, false, false, false, false, false, false, false, false, false, false, false, false, false, false, false, false, false]) rfl ?_
    refine d_p 2 rfl (by kernel_rfl) (fun _ => q_move rfl) rfl (ls' := #[true, true, true, false, false, false, false, false, false, false, false, false, false, false, false, false, false, false, false, false, false, false, false, false]) rfl ?_
    refine d_p 3 rfl (by kernel_rfl) (fun _ => q_addn (a := a) (b := k) rfl rfl (by first | omega | (simp; omega) | (simp_all; omega))) rfl (ls' := #[true, true, true, true, false, false, false, false, false, false, false, false, false, false, false, false, false, false, false, false, false, false, false, false]) rfl ?_
    refine d_p 4 rfl (by kernel_rfl) (fun _ => q_move rfl) rfl (ls' := #[true, true, true, true, true, false, false, false, false, false, false, false, false, false, false, false, false, false, false, false, false, false, false, false]) rfl ?_
    refine d_p 5 rfl (by kernel_rfl) (fun _ => q_move rfl) rfl (ls' := #[true, true, true, true, true, true, false, false, false, false, false, false, false, false, false, false, false, false, false, false, false, false, false, false]) rfl ?_
    refine d_p 6 rfl (by kernel_rfl) (fun _ => q_move rfl) rfl (ls' := #[true, true, true, true, true, true, true, false, false, false, false, false, false, false, false, false, false, false, false, false, false, false, false, false]) rfl ?_
    refine d_p 7 rfl (by kernel_rfl) (fun _ => q_addn (a := b) (b := k) rfl rfl (by first | omega | (simp; omega) | (simp_all; omega))) rfl (ls' := #[true, true, true, true, true, true, true, true, false, false, false, false, false, false, false, false, false, false, false, false, false, false, false, false]) rfl ?_
    refine d_p 8 rfl (by kernel_rfl) (fun _ => q_move rfl) rfl (ls' := #[true, true, true, true, true, true, true, true, true, false, false, false, false, false, false, false, false, false, false, false, false, false, false, false]) rfl ?_
    refine d_p 9 rfl (by kernel_rfl) (fun _ => q_move rfl) rfl (ls' := #[true, true, true, true, true, true, true, true, true, true, false, false, false, false, false, false, false, false, false, false, false, false, false, false]) rfl ?_
    refine d_p 10 rfl (by kernel_rfl) (fun _ => q_move rfl) rfl (ls' := #[true, true, true, true, true, true, true, true, true, true, true, false, false, false, false, false, false, false, false, false, false, false, false, false]) rfl ?_
    refine d_p 11 rfl (by kernel_rfl) (fun _ => q_addn (a := b) (b := k) rfl rfl (by first | omega | (simp; omega) | (simp_all; omega))) rfl (ls' := #[true, true, true, true, true, true, true, true, true, true, true, true, false, false, false, false, false, false, false, false, false, false, false, false]) rfl ?_
    refine d_p 14 rfl (by kernel_rfl) (fun _ => q_move rfl) rfl (ls' := #[true, true, true, true, true, true, true, true, true, true, true, true, false, false, true, false, false, false, false, false, false, false, false, false]) rfl ?_
    refine d_p 15 rfl (by kernel_rfl) (fun _ => q_move rfl) rfl (ls' := #[true, true, true, true, true, true, true, true, true, true, true, true, false, false, true, true, false, false, false, false, false, false, false, false]) rfl ?_
    refine d_p 16 rfl (by kernel_rfl) (fun _ => q_move rfl) rfl (ls' := #[true, true, true, true, true, true, true, true, true, true, true, true, false, false, true, true, true, false, false, false, false, false, false, false]) rfl ?_
    refine d_p 17 rfl (by kernel_rfl) (fun _ => q_addn (a := a) (b := k) rfl rfl (by first | omega | (simp; omega) | (simp_all; omega))) rfl (ls' := #[true, true, true, true, true, true, true, true, true, true, true, true, false, false, true, true, true, true, false, false, false, false, false, false]) rfl ?_
    refine d_many [12, 18] (by kernel_rfl) (by simp) wok_sub ⟨d_pick rfl (ls' := #[true, true, true, true, true, true, true, true, true, true, true, true, true, false, true, true, true, true, false, false, false, false, false, false]) rfl (G.quiet (q_index (i := (b + k)) rfl rfl rfl (InRow.rdb (A := A) (els := (d1).map En.c) (by first | (simpa using hn) | (simp; omega) | (simp_all; done)) (map_cat (c := En.c) (fun _ => rfl) _)) (by first | omega | (simp; done) | (simp; omega))) rfl ?_), d_pick rfl (ls' := #[true, true, true, true, true, true, true, true, true, true, true, true, false, false, true, true, true, true, true, false, false, false, false, false]) rfl (G.quiet (q_index (i := (a + k)) rfl rfl rfl (InRow.rdb (A := A) (els := (d1).map En.c) (by first | (simpa using hn) | (simp; omega) | (simp_all; done)) (map_cat (c := En.c) (fun _ => rfl) _)) (by first | omega | (simp; done) | (simp; omega))) rfl ?_), trivial⟩
    · refine d_many [13, 18] (by kernel_rfl) (by simp) wok_sub ⟨d_pick rfl (ls' := #[true, true, true, true, true, true, true, true, true, true, true, true, true, true, true, true, true, true, false, false, false, false, false, false]) rfl (G.quiet (q_load_ew (i := (b + k)) rfl (InRow.rdb (A := A) (els := (d1).map En.c) (by first | (simpa using hn) | (simp; omega) | (simp_all; done)) (map_cat (c := En.c) (fun _ => rfl) _)) (map_get (by first | exact (by first | omega | (simp; done) | (simp; omega)) | omega | (simp_all; done) | (simp_all; omega))) rfl) rfl ?_), d_pick rfl (ls' := #[true, true, true, true, true, true, true, true, true, true, true, true, true, false, true, true, true, true, true, false, false, false, false, false]) rfl (G.quiet (q_index (i := (a + k)) rfl rfl rfl (InRow.rdb (A := A) (els := (d1).map En.c) (by first | (simpa using hn) | (simp; omega) | (simp_all; done)) (map_cat (c := En.c) (fun _ => rfl) _)) (by first | omega | (simp; done) | (simp; omega))) rfl ?_), trivial⟩
      · refine d_tail 18 rfl (by kernel_rfl) (ls' := #[true, true, true, true, true, true, true, true, true, true, true, true, true, true, true, true, true, true, true, false, false, false, false, false]) rfl rfl (G.quiet (q_index (i := (a + k)) rfl rfl rfl (InRow.rdb (A := A) (els := (d1).map En.c) (by first | (simpa using hn) | (simp; omega) | (simp_all; done)) (map_cat (c := En.c) (fun _ => rfl) _)) (by first | omega | (simp; done) | (simp; omega))) rfl ?_)
        refine d_tail 19 rfl (by kernel_rfl) (ls' := #[true, true, true, true, true, true, true, true, true, true, true, true, true, true, true, true, true, true, true, true, false, false, false, false]) rfl rfl (G.quiet (q_load_ew (i := (a + k)) rfl (InRow.rdb (A := A) (els := (d1).map En.c) (by first | (simpa using hn) | (simp; omega) | (simp_all; done)) (map_cat (c := En.c) (fun _ => rfl) _)) (map_get (by first | exact (by first | omega | (simp; done) | (simp; omega)) | omega | (simp_all; done) | (simp_all; omega))) rfl) rfl ?_)
        refine d_tail 20 rfl (by kernel_rfl) (ls' := #[true, true, true, true, true, true, true, true, true, true, true, true, true, true, true, true, true, true, true, true, true, false, false, false]) rfl rfl (G.quiet (q_index (i := (a + k)) rfl rfl rfl (InRow.rdb (A := A) (els := (d1).map En.c) (by first | (simpa using hn) | (simp; omega) | (simp_all; done)) (map_cat (c := En.c) (fun _ => rfl) _)) (by first | omega | (simp; done) | (simp; omega))) rfl ?_)
        refine d_tail 21 rfl (by kernel_rfl) (ls' := #[true, true, true, true, true, true, true, true, true, true, true, true, true, true, true, true, true, true, true, true, true, true, false, false]) rfl rfl (g_store_el (A := A) (i := (a + k)) (o := 0) (cs' := En.c ((d1[b + k]))) rfl rfl rfl rfl rfl (map_get (by first | exact (by first | omega | (simp; done) | (simp; omega)) | omega | (simp_all; done) | (simp_all; omega))) (by first | (simp; done) | exact Nat.le_refl _) rfl (splice_all rfl) ?_)
        refine g_rowels (A := A) ((d1.set (a + k) (d1[b + k])).map En.c) (by simp only [List.map_set]) ?_
        refine d_tail 22 rfl (by kernel_rfl) (ls' := #[true, true, true, true, true, true, true, true, true, true, true, true, true, true, true, true, true, true, true, true, true, true, true, false]) rfl rfl (G.quiet (q_index (i := (b + k)) rfl rfl rfl (InRow.rdb (A := A) (els := ((d1.set (a + k) (d1[b + k]))).map En.c) (by simp only [List.length_map, List.length_set]; omega) (map_cat (c := En.c) (fun _ => rfl) _)) (by first | omega | (simp; done) | (simp; omega))) rfl ?_)
        refine d_tail 23 rfl (by kernel_rfl) (ls' := #[true, true, true, true, true, true, true, true, true, true, true, true, true, true, true, true, true, true, true, true, true, true, true, true]) rfl rfl (g_store_el (A := A) (i := (b + k)) (o := 0) (cs' := En.c ((d1[a + k]))) rfl rfl rfl rfl rfl (map_get (by simp only [List.length_set]; omega)) (by first | (simp; done) | exact Nat.le_refl _) rfl (splice_all rfl) ?_)
        refine g_rowels (A := A) (((d1.set (a + k) (d1[b + k])).set (b + k) (d1[a + k])).map En.c) (by simp only [List.map_set]) ?_
        refine d_end (by kernel_rfl) (.inl rfl) ?_
        refine g_blk_n ?_
        refine g_then ?_
        refine g_region ?_
        refine s_q (q_move rfl) rfl ?_
        refine s_q (q_inc rfl rfl (by omega)) rfl ?_
        refine s_q (q_assign rfl) rfl ?_
        refine g_nil ?_
        exact g_again ((k + 1), ((d1.set (a + k) d1[b + k]).set (b + k) d1[a + k])) (by (try dsimp only); exact ⟨(by omega), (swR_step hd1 (by omega) (by omega) ha (by omega) (by omega) (by omega))⟩) (by dsimp only; omega) (by repeat (first | exact trivial | refine ⟨rfl, ?_⟩)) wok_sub
      · refine d_many [13, 19] (by kernel_rfl) (by simp) wok_sub ⟨d_pick rfl (ls' := #[true, true, true, true, true, true, true, true, true, true, true, true, true, true, true, true, true, true, true, false, false, false, false, false]) rfl (G.quiet (q_load_ew (i := (b + k)) rfl (InRow.rdb (A := A) (els := (d1).map En.c) (by first | (simpa using hn) | (simp; omega) | (simp_all; done)) (map_cat (c := En.c) (fun _ => rfl) _)) (map_get (by first | exact (by first | omega | (simp; done) | (simp; omega)) | omega | (simp_all; done) | (simp_all; omega))) rfl) rfl ?_), d_pick rfl (ls' := #[true, true, true, true, true, true, true, true, true, true, true, true, true, false, true, true, true, true, true, true, false, false, false, false]) rfl (G.quiet (q_load_ew (i := (a + k)) rfl (InRow.rdb (A := A) (els := (d1).map En.c) (by first | (simpa using hn) | (simp; omega) | (simp_all; done)) (map_cat (c := En.c) (fun _ => rfl) _)) (map_get (by first | exact (by first | omega | (simp; done) | (simp; omega)) | omega | (simp_all; done) | (simp_all; omega))) rfl) rfl ?_), trivial⟩
        · refine d_tail 19 rfl (by kernel_rfl) (ls' := #[true, true, true, true, true, true, true, true, true, true, true, true, true, true, true, true, true, true, true, true, false, false, false, false]) rfl rfl (G.quiet (q_load_ew (i := (a + k)) rfl (InRow.rdb (A := A) (els := (d1).map En.c) (by first | (simpa using hn) | (simp; omega) | (simp_all; done)) (map_cat (c := En.c) (fun _ => rfl) _)) (map_get (by first | exact (by first | omega | (simp; done) | (simp; omega)) | omega | (simp_all; done) | (simp_all; omega))) rfl) rfl ?_)
          refine d_tail 20 rfl (by kernel_rfl) (ls' := #[true, true, true, true, true, true, true, true, true, true, true, true, true, true, true, true, true, true, true, true, true, false, false, false]) rfl rfl (G.quiet (q_index (i := (a + k)) rfl rfl rfl (InRow.rdb (A := A) (els := (d1).map En.c) (by first | (simpa using hn) | (simp; omega) | (simp_all; done)) (map_cat (c := En.c) (fun _ => rfl) _)) (by first | omega | (simp; done) | (simp; omega))) rfl ?_)
          refine d_tail 21 rfl (by kernel_rfl) (ls' := #[true, true, true, true, true, true, true, true, true, true, true, true, true, true, true, true, true, true, true, true, true, true, false, false]) rfl rfl (g_store_el (A := A) (i := (a + k)) (o := 0) (cs' := En.c ((d1[b + k]))) rfl rfl rfl rfl rfl (map_get (by first | exact (by first | omega | (simp; done) | (simp; omega)) | omega | (simp_all; done) | (simp_all; omega))) (by first | (simp; done) | exact Nat.le_refl _) rfl (splice_all rfl) ?_)
          refine g_rowels (A := A) ((d1.set (a + k) (d1[b + k])).map En.c) (by simp only [List.map_set]) ?_
          refine d_tail 22 rfl (by kernel_rfl) (ls' := #[true, true, true, true, true, true, true, true, true, true, true, true, true, true, true, true, true, true, true, true, true, true, true, false]) rfl rfl (G.quiet (q_index (i := (b + k)) rfl rfl rfl (InRow.rdb (A := A) (els := ((d1.set (a + k) (d1[b + k]))).map En.c) (by simp only [List.length_map, List.length_set]; omega) (map_cat (c := En.c) (fun _ => rfl) _)) (by first | omega | (simp; done) | (simp; omega))) rfl ?_)
          refine d_tail 23 rfl (by kernel_rfl) (ls' := #[true, true, true, true, true, true, true, true, true, true, true, true, true, true, true, true, true, true, true, true, true, true, true, true]) rfl rfl (g_store_el (A := A) (i := (b + k)) (o := 0) (cs' := En.c ((d1[a + k]))) rfl rfl rfl rfl rfl (map_get (by simp only [List.length_set]; omega)) (by first | (simp; done) | exact Nat.le_refl _) rfl (splice_all rfl) ?_)
          refine g_rowels (A := A) (((d1.set (a + k) (d1[b + k])).set (b + k) (d1[a + k])).map En.c) (by simp only [List.map_set]) ?_
          refine d_end (by kernel_rfl) (.inl rfl) ?_
          refine g_blk_n ?_
          refine g_then ?_
          refine g_region ?_
          refine s_q (q_move rfl) rfl ?_
          refine s_q (q_inc rfl rfl (by omega)) rfl ?_
          refine s_q (q_assign rfl) rfl ?_
          refine g_nil ?_
          exact g_again ((k + 1), ((d1.set (a + k) d1[b + k]).set (b + k) d1[a + k])) (by (try dsimp only); exact ⟨(by omega), (swR_step hd1 (by omega) (by omega) ha (by omega) (by omega) (by omega))⟩) (by dsimp only; omega) (by repeat (first | exact trivial | refine ⟨rfl, ?_⟩)) wok_sub
        · refine d_tail 13 rfl (by kernel_rfl) (ls' := #[true, true, true, true, true, true, true, true, true, true, true, true, true, true, true, true, true, true, true, true, false, false, false, false]) rfl rfl (G.quiet (q_load_ew (i := (b + k)) rfl (InRow.rdb (A := A) (els := (d1).map En.c) (by first | (simpa using hn) | (simp; omega) | (simp_all; done)) (map_cat (c := En.c) (fun _ => rfl) _)) (map_get (by first | exact (by first | omega | (simp; done) | (simp; omega)) | omega | (simp_all; done) | (simp_all; omega))) rfl) rfl ?_)
          refine d_tail 20 rfl (by kernel_rfl) (ls' := #[true, true, true, true, true, true, true, true, true, true, true, true, true, true, true, true, true, true, true, true, true, false, false, false]) rfl rfl (G.quiet (q_index (i := (a + k)) rfl rfl rfl (InRow.rdb (A := A) (els := (d1).map En.c) (by first | (simpa using hn) | (simp; omega) | (simp_all; done)) (map_cat (c := En.c) (fun _ => rfl) _)) (by first | omega | (simp; done) | (simp; omega))) rfl ?_)
          refine d_tail 21 rfl (by kernel_rfl) (ls' := #[true, true, true, true, true, true, true, true, true, true, true, true, true, true, true, true, true, true, true, true, true, true, false, false]) rfl rfl (g_store_el (A := A) (i := (a + k)) (o := 0) (cs' := En.c ((d1[b + k]))) rfl rfl rfl rfl rfl (map_get (by first | exact (by first | omega | (simp; done) | (simp; omega)) | omega | (simp_all; done) | (simp_all; omega))) (by first | (simp; done) | exact Nat.le_refl _) rfl (splice_all rfl) ?_)
          refine g_rowels (A := A) ((d1.set (a + k) (d1[b + k])).map En.c) (by simp only [List.map_set]) ?_
          refine d_tail 22 rfl (by kernel_rfl) (ls' := #[true, true, true, true, true, true, true, true, true, true, true, true, true, true, true, true, true, true, true, true, true, true, true, false]) rfl rfl (G.quiet (q_index (i := (b + k)) rfl rfl rfl (InRow.rdb (A := A) (els := ((d1.set (a + k) (d1[b + k]))).map En.c) (by simp only [List.length_map, List.length_set]; omega) (map_cat (c := En.c) (fun _ => rfl) _)) (by first | omega | (simp; done) | (simp; omega))) rfl ?_)
          refine d_tail 23 rfl (by kernel_rfl) (ls' := #[true, true, true, true, true, true, true, true, true, true, true, true, true, true, true, true, true, true, true, true, true, true, true, true]) rfl rfl (g_store_el (A := A) (i := (b + k)) (o := 0) (cs' := En.c ((d1[a + k]))) rfl rfl rfl rfl rfl (map_get (by simp only [List.length_set]; omega)) (by first | (simp; done) | exact Nat.le_refl _) rfl (splice_all rfl) ?_)
          refine g_rowels (A := A) (((d1.set (a + k) (d1[b + k])).set (b + k) (d1[a + k])).map En.c) (by simp only [List.map_set]) ?_
          refine d_end (by kernel_rfl) (.inl rfl) ?_
          refine g_blk_n ?_
          refine g_then ?_
          refine g_region ?_
          refine s_q (q_move rfl) rfl ?_
          refine s_q (q_inc rfl rfl (by omega)) rfl ?_
          refine s_q (q_assign rfl) rfl ?_
          refine g_nil ?_
          exact g_again ((k + 1), ((d1.set (a + k) d1[b + k]).set (b + k) d1[a + k])) (by (try dsimp only); exact ⟨(by omega), (swR_step hd1 (by omega) (by omega) ha (by omega) (by omega) (by omega))⟩) (by dsimp only; omega) (by repeat (first | exact trivial | refine ⟨rfl, ?_⟩)) wok_sub
    · refine d_many [12, 19] (by kernel_rfl) (by simp) wok_sub ⟨d_pick rfl (ls' := #[true, true, true, true, true, true, true, true, true, true, true, true, true, false, true, true, true, true, true, false, false, false, false, false]) rfl (G.quiet (q_index (i := (b + k)) rfl rfl rfl (InRow.rdb (A := A) (els := (d1).map En.c) (by first | (simpa using hn) | (simp; omega) | (simp_all; done)) (map_cat (c := En.c) (fun _ => rfl) _)) (by first | omega | (simp; done) | (simp; omega))) rfl ?_), d_pick rfl (ls' := #[true, true, true, true, true, true, true, true, true, true, true, true, false, false, true, true, true, true, true, true, false, false, false, false]) rfl (G.quiet (q_load_ew (i := (a + k)) rfl (InRow.rdb (A := A) (els := (d1).map En.c) (by first | (simpa using hn) | (simp; omega) | (simp_all; done)) (map_cat (c := En.c) (fun _ => rfl) _)) (map_get (by first | exact (by first | omega | (simp; done) | (simp; omega)) | omega | (simp_all; done) | (simp_all; omega))) rfl) rfl ?_), trivial⟩
      · refine d_many [13, 19] (by kernel_rfl) (by simp) wok_sub ⟨d_pick rfl (ls' := #[true, true, true, true, true, true, true, true, true, true, true, true, true, true, true, true, true, true, true, false, false, false, false, false]) rfl (G.quiet (q_load_ew (i := (b + k)) rfl (InRow.rdb (A := A) (els := (d1).map En.c) (by first | (simpa using hn) | (simp; omega) | (simp_all; done)) (map_cat (c := En.c) (fun _ => rfl) _)) (map_get (by first | exact (by first | omega | (simp; done) | (simp; omega)) | omega | (simp_all; done) | (simp_all; omega))) rfl) rfl ?_), d_pick rfl (ls' := #[true, true, true, true, true, true, true, true, true, true, true, true, true, false, true, true, true, true, true, true, false, false, false, false]) rfl (G.quiet (q_load_ew (i := (a + k)) rfl (InRow.rdb (A := A) (els := (d1).map En.c) (by first | (simpa using hn) | (simp; omega) | (simp_all; done)) (map_cat (c := En.c) (fun _ => rfl) _)) (map_get (by first | exact (by first | omega | (simp; done) | (simp; omega)) | omega | (simp_all; done) | (simp_all; omega))) rfl) rfl ?_), trivial⟩
        · refine d_tail 19 rfl (by kernel_rfl) (ls' := #[true, true, true, true, true, true, true, true, true, true, true, true, true, true, true, true, true, true, true, true, false, false, false, false]) rfl rfl (G.quiet (q_load_ew (i := (a + k)) rfl (InRow.rdb (A := A) (els := (d1).map En.c) (by first | (simpa using hn) | (simp; omega) | (simp_all; done)) (map_cat (c := En.c) (fun _ => rfl) _)) (map_get (by first | exact (by first | omega | (simp; done) | (simp; omega)) | omega | (simp_all; done) | (simp_all; omega))) rfl) rfl ?_)
          refine d_tail 20 rfl (by kernel_rfl) (ls' := #[true, true, true, true, true, true, true, true, true, true, true, true, true, true, true, true, true, true, true, true, true, false, false, false]) rfl rfl (G.quiet (q_index (i := (a + k)) rfl rfl rfl (InRow.rdb (A := A) (els := (d1).map En.c) (by first | (simpa using hn) | (simp; omega) | (simp_all; done)) (map_cat (c := En.c) (fun _ => rfl) _)) (by first | omega | (simp; done) | (simp; omega))) rfl ?_)
          refine d_tail 21 rfl (by kernel_rfl) (ls' := #[true, true, true, true, true, true, true, true, true, true, true, true, true, true, true, true, true, true, true, true, true, true, false, false]) rfl rfl (g_store_el (A := A) (i := (a + k)) (o := 0) (cs' := En.c ((d1[b + k]))) rfl rfl rfl rfl rfl (map_get (by first | exact (by first | omega | (simp; done) | (simp; omega)) | omega | (simp_all; done) | (simp_all; omega))) (by first | (simp; done) | exact Nat.le_refl _) rfl (splice_all rfl) ?_)
          refine g_rowels (A := A) ((d1.set (a + k) (d1[b + k])).map En.c) (by simp only [List.map_set]) ?_
          refine d_tail 22 rfl (by kernel_rfl) (ls' := #[true, true, true, true, true, true, true, true, true, true, true, true, true, true, true, true, true, true, true, true, true, true, true, false]) rfl rfl (G.quiet (q_index (i := (b + k)) rfl rfl rfl (InRow.rdb (A := A) (els := ((d1.set (a + k) (d1[b + k]))).map En.c) (by simp only [List.length_map, List.length_set]; omega) (map_cat (c := En.c) (fun _ => rfl) _)) (by first | omega | (simp; done) | (simp; omega))) rfl ?_)
          refine d_tail 23 rfl (by kernel_rfl) (ls' := #[true, true, true, true, true, true, true, true, true, true, true, true, true, true, true, true, true, true, true, true, true, true, true, true]) rfl rfl (g_store_el (A := A) (i := (b + k)) (o := 0) (cs' := En.c ((d1[a + k]))) rfl rfl rfl rfl rfl (map_get (by simp only [List.length_set]; omega)) (by first | (simp; done) | exact Nat.le_refl _) rfl (splice_all rfl) ?_)
          refine g_rowels (A := A) (((d1.set (a + k) (d1[b + k])).set (b + k) (d1[a + k])).map En.c) (by simp only [List.map_set]) ?_
          refine d_end (by kernel_rfl) (.inl rfl) ?_
          refine g_blk_n ?_
          refine g_then ?_
          refine g_region ?_
          refine s_q (q_move rfl) rfl ?_
          refine s_q (q_inc rfl rfl (by omega)) rfl ?_
          refine s_q (q_assign rfl) rfl ?_
          refine g_nil ?_
          exact g_again ((k + 1), ((d1.set (a + k) d1[b + k]).set (b + k) d1[a + k])) (by (try dsimp only); exact ⟨(by omega), (swR_step hd1 (by omega) (by omega) ha (by omega) (by omega) (by omega))⟩) (by dsimp only; omega) (by repeat (first | exact trivial | refine ⟨rfl, ?_⟩)) wok_sub
        · refine d_tail 13 rfl (by kernel_rfl) (ls' := #[true, true, true, true, true, true, true, true, true, true, true, true, true, true, true, true, true, true, true, true, false, false, false, false]) rfl rfl (G.quiet (q_load_ew (i := (b + k)) rfl (InRow.rdb (A := A) (els := (d1).map En.c) (by first | (simpa using hn) | (simp; omega) | (simp_all; done)) (map_cat (c := En.c) (fun _ => rfl) _)) (map_get (by first | exact (by first | omega | (simp; done) | (simp; omega)) | omega | (simp_all; done) | (simp_all; omega))) rfl) rfl ?_)
          refine d_tail 20 rfl (by kernel_rfl) (ls' := #[true, true, true, true, true, true, true, true, true, true, true, true, true, true, true, true, true, true, true, true, true, false, false, false]) rfl rfl (G.quiet (q_index (i := (a + k)) rfl rfl rfl (InRow.rdb (A := A) (els := (d1).map En.c) (by first | (simpa using hn) | (simp; omega) | (simp_all; done)) (map_cat (c := En.c) (fun _ => rfl) _)) (by first | omega | (simp; done) | (simp; omega))) rfl ?_)
          refine d_tail 21 rfl (by kernel_rfl) (ls' := #[true, true, true, true, true, true, true, true, true, true, true, true, true, true, true, true, true, true, true, true, true, true, false, false]) rfl rfl (g_store_el (A := A) (i := (a + k)) (o := 0) (cs' := En.c ((d1[b + k]))) rfl rfl rfl rfl rfl (map_get (by first | exact (by first | omega | (simp; done) | (simp; omega)) | omega | (simp_all; done) | (simp_all; omega))) (by first | (simp; done) | exact Nat.le_refl _) rfl (splice_all rfl) ?_)
          refine g_rowels (A := A) ((d1.set (a + k) (d1[b + k])).map En.c) (by simp only [List.map_set]) ?_
          refine d_tail 22 rfl (by kernel_rfl) (ls' := #[true, true, true, true, true, true, true, true, true, true, true, true, true, true, true, true, true, true, true, true, true, true, true, false]) rfl rfl (G.quiet (q_index (i := (b + k)) rfl rfl rfl (InRow.rdb (A := A) (els := ((d1.set (a + k) (d1[b + k]))).map En.c) (by simp only [List.length_map, List.length_set]; omega) (map_cat (c := En.c) (fun _ => rfl) _)) (by first | omega | (simp; done) | (simp; omega))) rfl ?_)
          refine d_tail 23 rfl (by kernel_rfl) (ls' := #[true, true, true, true, true, true, true, true, true, true, true, true, true, true, true, true, true, true, true, true, true, true, true, true]) rfl rfl (g_store_el (A := A) (i := (b + k)) (o := 0) (cs' := En.c ((d1[a + k]))) rfl rfl rfl rfl rfl (map_get (by simp only [List.length_set]; omega)) (by first | (simp; done) | exact Nat.le_refl _) rfl (splice_all rfl) ?_)
          refine g_rowels (A := A) (((d1.set (a + k) (d1[b + k])).set (b + k) (d1[a + k])).map En.c) (by simp only [List.map_set]) ?_
          refine d_end (by kernel_rfl) (.inl rfl) ?_
          refine g_blk_n ?_
          refine g_then ?_
          refine g_region ?_
          refine s_q (q_move rfl) rfl ?_
          refine s_q (q_inc rfl rfl (by omega)) rfl ?_
          refine s_q (q_assign rfl) rfl ?_
          refine g_nil ?_
          exact g_again ((k + 1), ((d1.set (a + k) d1[b + k]).set (b + k) d1[a + k])) (by (try dsimp only); exact ⟨(by omega), (swR_step hd1 (by omega) (by omega) ha (by omega) (by omega) (by omega))⟩) (by dsimp only; omega) (by repeat (first | exact trivial | refine ⟨rfl, ?_⟩)) wok_sub
      · refine d_tail 12 rfl (by kernel_rfl) (ls' := #[true, true, true, true, true, true, true, true, true, true, true, true, true, false, true, true, true, true, true, true, false, false, false, false]) rfl rfl (G.quiet (q_index (i := (b + k)) rfl rfl rfl (InRow.rdb (A := A) (els := (d1).map En.c) (by first | (simpa using hn) | (simp; omega) | (simp_all; done)) (map_cat (c := En.c) (fun _ => rfl) _)) (by first | omega | (simp; done) | (simp; omega))) rfl ?_)
        refine d_tail 13 rfl (by kernel_rfl) (ls' := #[true, true, true, true, true, true, true, true, true, true, true, true, true, true, true, true, true, true, true, true, false, false, false, false]) rfl rfl (G.quiet (q_load_ew (i := (b + k)) rfl (InRow.rdb (A := A) (els := (d1).map En.c) (by first | (simpa using hn) | (simp; omega) | (simp_all; done)) (map_cat (c := En.c) (fun _ => rfl) _)) (map_get (by first | exact (by first | omega | (simp; done) | (simp; omega)) | omega | (simp_all; done) | (simp_all; omega))) rfl) rfl ?_)
        refine d_tail 20 rfl (by kernel_rfl) (ls' := #[true, true, true, true, true, true, true, true, true, true, true, true, true, true, true, true, true, true, true, true, true, false, false, false]) rfl rfl (G.quiet (q_index (i := (a + k)) rfl rfl rfl (InRow.rdb (A := A) (els := (d1).map En.c) (by first | (simpa using hn) | (simp; omega) | (simp_all; done)) (map_cat (c := En.c) (fun _ => rfl) _)) (by first | omega | (simp; done) | (simp; omega))) rfl ?_)
        refine d_tail 21 rfl (by kernel_rfl) (ls' := #[true, true, true, true, true, true, true, true, true, true, true, true, true, true, true, true, true, true, true, true, true, true, false, false]) rfl rfl (g_store_el (A := A) (i := (a + k)) (o := 0) (cs' := En.c ((d1[b + k]))) rfl rfl rfl rfl rfl (map_get (by first | exact (by first | omega | (simp; done) | (simp; omega)) | omega | (simp_all; done) | (simp_all; omega))) (by first | (simp; done) | exact Nat.le_refl _) rfl (splice_all rfl) ?_)
        refine g_rowels (A := A) ((d1.set (a + k) (d1[b + k])).map En.c) (by simp only [List.map_set]) ?_
        refine d_tail 22 rfl (by kernel_rfl) (ls' := #[true, true, true, true, true, true, true, true, true, true, true, true, true, true, true, true, true, true, true, true, true, true, true, false]) rfl rfl (G.quiet (q_index (i := (b + k)) rfl rfl rfl (InRow.rdb (A := A) (els := ((d1.set (a + k) (d1[b + k]))).map En.c) (by simp only [List.length_map, List.length_set]; omega) (map_cat (c := En.c) (fun _ => rfl) _)) (by first | omega | (simp; done) | (simp; omega))) rfl ?_)
        refine d_tail 23 rfl (by kernel_rfl) (ls' := #[true, true, true, true, true, true, true, true, true, true, true, true, true, true, true, true, true, true, true, true, true, true, true, true]) rfl rfl (g_store_el (A := A) (i := (b + k)) (o := 0) (cs' := En.c ((d1[a + k]))) rfl rfl rfl rfl rfl (map_get (by simp only [List.length_set]; omega)) (by first | (simp; done) | exact Nat.le_refl _) rfl (splice_all rfl) ?_)
        refine g_rowels (A := A) (((d1.set (a + k) (d1[b + k])).set (b + k) (d1[a + k])).map En.c) (by simp only [List.map_set]) ?_
        refine d_end (by kernel_rfl) (.inl rfl) ?_
        refine g_blk_n ?_
        refine g_then ?_
        refine g_region ?_
        refine s_q (q_move rfl) rfl ?_
        refine s_q (q_inc rfl rfl (by omega)) rfl ?_
        refine s_q (q_assign rfl) rfl ?_
        refine g_nil ?_
        exact g_again ((k + 1), ((d1.set (a + k) d1[b + k]).set (b + k) d1[a + k])) (by (try dsimp only); exact ⟨(by omega), (swR_step hd1 (by omega) (by omega) ha (by omega) (by omega) (by omega))⟩) (by dsimp only; omega) (by repeat (first | exact trivial | refine ⟨rfl, ?_⟩)) wok_sub
  · have hk2 : k = m := by have h9 := of_decide_eq_false h1; omega
    rw [hk2, swR_end hX hY] at hd1
    subst hd1
    refine g_exit ?_
    refine g_then_x (g_then_x (g_blk_hit ?_))
    exact fin0 rfl (fun w' hw' => ⟨(), (by first | exact trivial | (dsimp only; exact trivial)), rfl, by have h9 := wok_sub (L' := [Res.row A n cap 50 2 (((P ++ (Y ++ (M ++ (X ++ S))))).map En.c)]) w' hw'; exact h9⟩) _ (.inr rfl)

set_option maxHeartbeats 400000 in
theorem rotate_any (A : Option Addr) (n cap : Nat) (d P X Y S : List En) (a m b : Nat) (w : World) (hw : WOK (fps [Res.row A n cap 50 2 ((d).map En.c)]) w [Res.row A n cap 50 2 ((d).map En.c)] w) (hn : n = d.length) (hn6 : n ≤ 1000000) (hd : d = P ++ (X ++ (Y ++ S))) (ha : P.length = a) (hm : a + X.length = m) (hb : m + Y.length = b) (hX0 : 0 < X.length) (hY0 : 0 < Y.length) : Own2 (ι := Unit) Try.prog 41 [.slice A n cap, .int .i64 ((a : Nat) : Int), .int .i64 ((m : Nat) : Int), .int .i64 ((b : Nat) : Int), .func (.func 32) #[] #[]] w [Res.row A n cap 50 2 ((d).map En.c)] (fun x => True) (fun x => .tuple #[]) (fun x => []) (fun x => [Res.row A n cap 50 2 (((P ++ (Y ++ (X ++ S)))).map En.c)]) := by
  refine g_start Try.func41 rfl 58 rfl (by simp) (fps [Res.row A n cap 50 2 ((d).map En.c)]) [Res.row A n cap 50 2 ((d).map En.c)] hw _ rfl ?_
  have hdl : d.length = b + S.length := by rw [hd]; simp; omega
  refine g_seq ?_
  refine g_region ?_
  refine s_q (q_move rfl) rfl ?_
  refine s_q (q_move rfl) rfl ?_
  refine s_q (q_subn (a := m) (b := a) rfl rfl (by first | omega | (simp; omega) | (simp_all; omega)) (by first | omega | (simp; omega) | (simp_all; omega))) rfl ?_
  refine s_q (q_assign rfl) rfl ?_
  refine g_nil ?_
  refine g_then ?_
  refine g_seq ?_
  refine g_region ?_
  refine s_q (q_move rfl) rfl ?_
  refine s_q (q_move rfl) rfl ?_
  refine s_q (q_subn (a := b) (b := m) rfl rfl (by first | omega | (simp; omega) | (simp_all; omega)) (by first | omega | (simp; omega) | (simp_all; omega))) rfl ?_
  refine s_q (q_assign rfl) rfl ?_
  refine g_nil ?_
  refine g_then ?_
  refine g_seq ?_
  refine g_block ?_
  refine g_loopk [0, 2, 4] (fun (x : Nat × Nat × List En × List En × List En × List En × List En) => [(10, .int .i64 ((x.1 : Nat) : Int)), (11, .int .i64 ((x.2.1 : Nat) : Int))]) (fun (x : Nat × Nat × List En × List En × List En × List En × List En) => [Res.row A n cap 50 2 ((x.2.2.1).map En.c)]) (fun (x : Nat × Nat × List En × List En × List En × List En × List En) => x.2.2.1 = x.2.2.2.1 ++ (x.2.2.2.2.1 ++ (x.2.2.2.2.2.1 ++ x.2.2.2.2.2.2)) ∧ (x.2.2.2.1).length + x.1 = m ∧ (x.2.2.2.2.1).length = x.1 ∧ (x.2.2.2.2.2.1).length = x.2.1 ∧ 0 < x.1 ∧ 0 < x.2.1 ∧ x.2.2.2.1 ++ (x.2.2.2.2.2.1 ++ (x.2.2.2.2.1 ++ x.2.2.2.2.2.2)) = P ++ (Y ++ (X ++ S)) ∧ (x.2.2.1).length = n) (fun (x : Nat × Nat × List En × List En × List En × List En × List En) => x.1 + x.2.1) ((m - a), (b - m), d, P, X, Y, S) (by (try dsimp only); exact ⟨hd, (by omega), (by omega), (by omega), (by omega), (by omega), rfl, (by omega)⟩) rfl (by repeat (first | exact trivial | refine ⟨rfl, ?_⟩)) wok_sub ?_
  rintro ⟨i, j, d1, P1, X1, Y1, S1⟩ ⟨hd1, hp1, hx1, hy1, hi0, hj0, hg, hl1⟩
  replace hd1 : d1 = P1 ++ (X1 ++ (Y1 ++ S1)) := hd1
  replace hp1 : (P1).length + i = m := hp1
  replace hx1 : (X1).length = i := hx1
  replace hy1 : (Y1).length = j := hy1
  replace hi0 : 0 < i := hi0
  replace hj0 : 0 < j := hj0
  replace hg : P1 ++ (Y1 ++ (X1 ++ S1)) = P ++ (Y ++ (X ++ S)) := hg
  replace hl1 : (d1).length = n := hl1
  refine g_setL (L' := [Res.row A n cap 50 2 ((d1).map En.c)]) rfl ?_
  refine g_val 10 (v' := .int .i64 ((i : Nat) : Int)) rfl rfl ?_
  refine g_val 11 (v' := .int .i64 ((j : Nat) : Int)) rfl rfl ?_
  have hsz : n = P1.length + i + j + S1.length := by rw [← hl1, hd1]; simp; omega
  refine g_seq ?_
  refine g_seq ?_
  refine g_region ?_
  refine s_q (q_move rfl) rfl ?_
  refine s_q (q_move rfl) rfl ?_
  refine s_q (q_neq rfl rfl) rfl ?_
  refine g_nil ?_
  refine g_then ?_
  refine g_cond rfl (fun h1 => ?_) (fun h1 => ?_)
  · have hij : i ≠ j := by have h9 := h1; simp at h9; omega
    refine g_skip ?_
    refine g_then ?_
    refine g_block ?_
    refine g_seq ?_
    refine g_region ?_
    refine s_q (q_move rfl) rfl ?_
    refine s_q (q_move rfl) rfl ?_
    refine s_q (q_gtr rfl rfl) rfl ?_
    refine g_nil ?_
    refine g_then ?_
    refine g_cond rfl (fun h2 => ?_) (fun h2 => ?_)
    · have hgt : j < i := by have h9 := of_decide_eq_true h2; omega
      refine g_seq ?_
      refine g_region ?_
      refine s_q (q_move rfl) rfl ?_
      refine s_q (q_move rfl) rfl ?_
      refine s_q (q_move rfl) rfl ?_
      refine s_q (q_subn (a := m) (b := i) rfl rfl (by first | omega | (simp; omega) | (simp_all; omega)) (by first | omega | (simp; omega) | (simp_all; omega))) rfl ?_
      refine s_q (q_move rfl) rfl ?_
      refine s_q (q_move rfl) rfl ?_
      refine s_q (q_move rfl) rfl ?_
      refine g_op (g_ownS [Res.row A n cap 50 2 ((d1).map En.c)] rfl (fun w1 hw1 ho1 => by have h7 := swapR_any A n cap d1 P1 (X1.take j) (X1.drop j) Y1 S1 ((m - i)) (m) (j) w1 ho1 (by omega) hn6 (by rw [hd1, ← List.append_assoc (X1.take j), List.take_append_drop]) (by first | omega | (simp; omega)) (by first | omega | (simp; omega)) (by first | omega | (simp; omega)) (by first | omega | (simp; omega)); exact h7) rfl ?_)
      rintro ⟨⟩ _
      refine ⟨_, _, inferInstance, inferInstance, ?_⟩
      refine g_nil ?_
      refine g_then ?_
      refine g_region ?_
      refine s_q (q_move rfl) rfl ?_
      refine s_q (q_move rfl) rfl ?_
      refine s_q (q_subn (a := i) (b := j) rfl rfl (by first | omega | (simp; omega) | (simp_all; omega)) (by first | omega | (simp; omega) | (simp_all; omega))) rfl ?_
      refine s_q (q_assign rfl) rfl ?_
      refine g_nil ?_
      refine g_blk_n ?_
      exact g_again ((i - j), j, (P1 ++ (Y1 ++ ((X1.drop j) ++ ((X1.take j) ++ S1)))), (P1 ++ Y1), (X1.drop j), (X1.take j), S1) (by (try dsimp only); exact ⟨(by simp), (by simp; omega), (by simp; omega), (by simp; omega), (by omega), hj0, (by rw [← hg, List.append_assoc, ← List.append_assoc (X1.take j), List.take_append_drop]), (by rw [← hl1, hd1]; simp; omega)⟩) (by dsimp only; omega) (by repeat (first | exact trivial | refine ⟨rfl, ?_⟩)) wok_sub
    · have hgt : i < j := by have h9 := of_decide_eq_false h2; omega
      refine g_seq ?_
      refine g_region ?_
      refine s_q (q_move rfl) rfl ?_
      refine s_q (q_move rfl) rfl ?_
      refine s_q (q_move rfl) rfl ?_
      refine s_q (q_subn (a := m) (b := i) rfl rfl (by first | omega | (simp; omega) | (simp_all; omega)) (by first | omega | (simp; omega) | (simp_all; omega))) rfl ?_
      refine s_q (q_move rfl) rfl ?_
      refine s_q (q_move rfl) rfl ?_
      refine s_q (q_addn (a := m) (b := j) rfl rfl (by first | omega | (simp; omega) | (simp_all; omega))) rfl ?_
      refine s_q (q_move rfl) rfl ?_
      refine s_q (q_subn (a := (m + j)) (b := i) rfl rfl (by first | omega | (simp; omega) | (simp_all; omega)) (by first | omega | (simp; omega) | (simp_all; omega))) rfl ?_
      refine s_q (q_move rfl) rfl ?_
      refine s_q (q_move rfl) rfl ?_
      refine g_op (g_ownS [Res.row A n cap 50 2 ((d1).map En.c)] rfl (fun w1 hw1 ho1 => by have h7 := swapR_any A n cap d1 P1 X1 (Y1.take (j - i)) (Y1.drop (j - i)) S1 ((m - i)) (((m + j) - i)) (i) w1 ho1 (by omega) hn6 (by rw [hd1, ← List.append_assoc (Y1.take (j - i)), List.take_append_drop]) (by first | omega | (simp; omega)) (by first | omega | (simp; omega)) (by first | omega | (simp; omega)) (by first | omega | (simp; omega)); exact h7) rfl ?_)
      rintro ⟨⟩ _
      refine ⟨_, _, inferInstance, inferInstance, ?_⟩
      refine g_nil ?_
      refine g_then ?_
      refine g_region ?_
      refine s_q (q_move rfl) rfl ?_
      refine s_q (q_move rfl) rfl ?_
      refine s_q (q_subn (a := j) (b := i) rfl rfl (by first | omega | (simp; omega) | (simp_all; omega)) (by first | omega | (simp; omega) | (simp_all; omega))) rfl ?_
      refine s_q (q_assign rfl) rfl ?_
      refine g_nil ?_
      refine g_blk_n ?_
      exact g_again (i, (j - i), (P1 ++ ((Y1.drop (j - i)) ++ ((Y1.take (j - i)) ++ (X1 ++ S1)))), P1, (Y1.drop (j - i)), (Y1.take (j - i)), (X1 ++ S1)) (by (try dsimp only); exact ⟨rfl, hp1, (by simp; omega), (by simp; omega), hi0, (by omega), (by rw [← hg, ← List.append_assoc (Y1.take (j - i)), List.take_append_drop]), (by rw [← hl1, hd1]; simp; omega)⟩) (by dsimp only; omega) (by repeat (first | exact trivial | refine ⟨rfl, ?_⟩)) wok_sub
  · have hij : i = j := by have h9 := h1; simp at h9; omega
    refine g_exit ?_
    refine g_then_x (g_then_x (g_blk_hit ?_))
    refine g_then ?_
    refine g_region ?_
    refine s_q (q_move rfl) rfl ?_
    refine s_q (q_move rfl) rfl ?_
    refine s_q (q_move rfl) rfl ?_
    refine s_q (q_subn (a := m) (b := i) rfl rfl (by first | omega | (simp; omega) | (simp_all; omega)) (by first | omega | (simp; omega) | (simp_all; omega))) rfl ?_
    refine s_q (q_move rfl) rfl ?_
    refine s_q (q_move rfl) rfl ?_
    refine s_q (q_move rfl) rfl ?_
    refine g_op (g_ownS [Res.row A n cap 50 2 ((d1).map En.c)] rfl (fun w1 hw1 ho1 => by have h7 := swapR_any A n cap d1 P1 X1 [] Y1 S1 ((m - i)) (m) (i) w1 ho1 (by omega) hn6 hd1 (by first | omega | (simp; omega)) (by first | omega | (simp; omega)) (by first | omega | (simp; omega)) (by first | omega | (simp; omega)); exact h7) rfl ?_)
    rintro ⟨⟩ _
    refine ⟨_, _, inferInstance, inferInstance, ?_⟩
    refine g_nil ?_
    exact fin0 rfl (fun w' hw' => ⟨(), (by first | exact trivial | (dsimp only; exact trivial)), rfl, by have h9 := wok_sub (L' := [Res.row A n cap 50 2 (((P1 ++ (Y1 ++ ([] ++ (X1 ++ S1))))).map En.c)]) w' hw'; show WOK _ _ [Res.row A n cap 50 2 (((P ++ (Y ++ (X ++ S)))).map En.c)] _; rw [← hg]; exact h9⟩) _ (.inr rfl)

set_option maxHeartbeats 400000 in
theorem insert_any (A : Option Addr) (n cap : Nat) (d P M S : List En) (a b : Nat) (w : World) (hw : WOK (fps [Res.row A n cap 50 2 ((d).map En.c)]) w [Res.row A n cap 50 2 ((d).map En.c)] w) (hn : n = d.length) (hn6 : n ≤ 1000000) (hd : d = P ++ (M ++ S)) (ha : P.length = a) (hb : a + M.length = b) : Own2 (ι := (List En)) Try.prog 39 [.slice A n cap, .int .i64 ((a : Nat) : Int), .int .i64 ((b : Nat) : Int), .func (.func 32) #[] #[]] w [Res.row A n cap 50 2 ((d).map En.c)] (fun x => Srt x ∧ Same x M ∧ x.length = M.length) (fun x => .tuple #[]) (fun x => []) (fun x => [Res.row A n cap 50 2 (((P ++ (x ++ S))).map En.c)]) := by
  refine g_start Try.func39 rfl 53 rfl (by simp) (fps [Res.row A n cap 50 2 ((d).map En.c)]) [Res.row A n cap 50 2 ((d).map En.c)] hw _ rfl ?_
  have hdl : d.length = b + S.length := by rw [hd]; simp; omega
  refine g_seq ?_
  refine g_region ?_
  refine s_q (q_move rfl) rfl ?_
  refine s_q (q_inc rfl rfl (by omega)) rfl ?_
  refine s_q (q_assign rfl) rfl ?_
  refine g_nil ?_
  refine g_then ?_
  refine g_block ?_
  refine g_loopk [0, 1, 2, 3] (fun (x : Nat × List En × List En) => [(8, .int .i64 ((x.1 : Nat) : Int))]) (fun (x : Nat × List En × List En) => [Res.row A n cap 50 2 ((x.2.1).map En.c)]) (fun (x : Nat × List En × List En) => a + 1 ≤ x.1 ∧ x.2.1 = P ++ (x.2.2 ++ (M.drop (x.1 - a) ++ S)) ∧ Srt x.2.2 ∧ Same x.2.2 (M.take (x.1 - a)) ∧ (x.2.2).length = min (x.1 - a) M.length ∧ (x.2.1).length = n ∧ x.1 ≤ b + 1) (fun (x : Nat × List En × List En) => b + 1 - x.1) ((a + 1), d, (M.take 1)) (by (try dsimp only); exact ⟨(by omega), (by rw [hd, show a + 1 - a = 1 from by omega, ← List.append_assoc (M.take 1), List.take_append_drop]), (srt_take1 M), (by rw [show a + 1 - a = 1 from by omega]; exact Same.rfl'), (by simp), (by omega), (by omega)⟩) rfl (by repeat (first | exact trivial | refine ⟨rfl, ?_⟩)) wok_sub ?_
  rintro ⟨i, d1, M1⟩ ⟨hi, hd1, s1, e1, l1, hl1, hib⟩
  replace hi : a + 1 ≤ i := hi
  replace hd1 : d1 = P ++ (M1 ++ (M.drop (i - a) ++ S)) := hd1
  replace s1 : Srt M1 := s1
  replace e1 : Same M1 (M.take (i - a)) := e1
  replace l1 : (M1).length = min (i - a) M.length := l1
  replace hl1 : (d1).length = n := hl1
  replace hib : i ≤ b + 1 := hib
  refine g_setL (L' := [Res.row A n cap 50 2 ((d1).map En.c)]) rfl ?_
  refine g_val 8 (v' := .int .i64 ((i : Nat) : Int)) rfl rfl ?_
  refine g_seq ?_
  refine g_seq ?_
  refine g_region ?_
  refine s_q (q_move rfl) rfl ?_
  refine s_q (q_move rfl) rfl ?_
  refine s_q (q_lss rfl rfl) rfl ?_
  refine g_nil ?_
  refine g_then ?_
  refine g_cond rfl (fun h1 => ?_) (fun h1 => ?_)
  · have hib1 : i < b := by have h9 := of_decide_eq_true h1; omega
    have hx : i - a < M.length := by omega
    have l1e : M1.length = i - a := by omega
    refine g_skip ?_
    refine g_then ?_
    refine g_seq ?_
    refine g_block ?_
    refine g_seq ?_
    refine g_region ?_
    refine s_q (q_move rfl) rfl ?_
    refine s_q (q_assign rfl) rfl ?_
    refine g_nil ?_
    refine g_then ?_
    refine g_block ?_
    refine g_loopk [0, 1, 2, 3, 8] (fun (x : Nat × List En × List En × List En) => [(9, .int .i64 ((x.1 : Nat) : Int))]) (fun (x : Nat × List En × List En × List En) => [Res.row A n cap 50 2 ((x.2.1).map En.c)]) (fun (x : Nat × List En × List En × List En) => P.length + (x.2.2.1).length = x.1 ∧ x.2.1 = P ++ (x.2.2.1 ++ (M[i - a] :: x.2.2.2 ++ (M.drop (i + 1 - a) ++ S))) ∧ Srt (x.2.2.1 ++ x.2.2.2) ∧ (∀ y ∈ x.2.2.2, M[i - a].e < y.e) ∧ x.2.2.1 ++ x.2.2.2 = M1 ∧ (x.2.1).length = n) (fun (x : Nat × List En × List En × List En) => x.1) (i, d1, M1, []) (by (try dsimp only); exact ⟨(by omega), (by rw [hd1, List.drop_eq_getElem_cons hx, show i - a + 1 = i + 1 - a from by omega]; rfl), (by rw [List.append_nil]; exact s1), (by simp), (List.append_nil _), hl1⟩) rfl (by repeat (first | exact trivial | refine ⟨rfl, ?_⟩)) wok_sub ?_
    rintro ⟨j, d2, B1, B2⟩ ⟨hj, hd2, s2, hB, e2, hl2⟩
    replace hj : P.length + (B1).length = j := hj
    replace hd2 : d2 = P ++ (B1 ++ (M[i - a] :: B2 ++ (M.drop (i + 1 - a) ++ S))) := hd2
    replace s2 : Srt (B1 ++ B2) := s2
    replace hB : ∀ y ∈ B2, M[i - a].e < y.e := hB
    replace e2 : B1 ++ B2 = M1 := e2
    replace hl2 : (d2).length = n := hl2
    refine g_setL (L' := [Res.row A n cap 50 2 ((d2).map En.c)]) rfl ?_
    refine g_val 9 (v' := .int .i64 ((j : Nat) : Int)) rfl rfl ?_
    have hjl : j < d2.length := by have h9 := congrArg List.length e2; simp at h9; omega
    refine g_seq ?_
    refine g_seq ?_
    refine d_region [] mixed rfl rfl ?_
    refine d_q 0 rfl (by kernel_rfl) (q_move rfl) wok_sub rfl (ls' := #[true, false, false, false, false, false, false, false, false, false, false, false, false, false, false, false, false]) rfl ?_
    refine d_q 1 rfl (by kernel_rfl) (q_move rfl) wok_sub rfl (ls' := #[true, true, false, false, false, false, false, false, false, false, false, false, false, false, false, false, false]) rfl ?_
    refine d_q 2 rfl (by kernel_rfl) (q_gtr rfl rfl) wok_sub rfl (ls' := #[true, true, true, false, false, false, false, false, false, false, false, false, false, false, false, false, false]) rfl ?_
    refine d_q 3 rfl (by kernel_rfl) (q_move rfl) wok_sub rfl (ls' := #[true, true, true, true, false, false, false, false, false, false, false, false, false, false, false, false, false]) rfl ?_
    refine g_split 21 rfl (fun h2 => ?_) (fun h2 => ?_)
    · have hja : a < j := by have h9 := of_decide_eq_true h2; omega
      obtain ⟨C1, z, rfl⟩ := last_of (B := B1) (by omega)
      obtain ⟨g2, g1, hsw⟩ := step_left hd2 hj hjl
      refine d_qg 4 rfl (by kernel_rfl) (q_move rfl) rfl rfl wok_sub rfl (ls' := #[true, true, true, true, true, false, false, false, false, false, false, false, false, false, false, false, false]) rfl ?_
      refine d_qg 5 rfl (by kernel_rfl) (q_move rfl) rfl rfl wok_sub rfl (ls' := #[true, true, true, true, true, true, false, false, false, false, false, false, false, false, false, false, false]) rfl ?_
      refine d_qg 6 rfl (by kernel_rfl) (q_move rfl) rfl rfl wok_sub rfl (ls' := #[true, true, true, true, true, true, true, false, false, false, false, false, false, false, false, false, false]) rfl ?_
      refine d_qg 7 rfl (by kernel_rfl) (q_index (i := j) rfl rfl rfl (InRow.rdb (A := A) (els := (d2).map En.c) (by first | (simpa using hn) | (simp; omega) | (simp_all; done)) (map_cat (c := En.c) (fun _ => rfl) _)) (by first | omega | (simp; done) | (simp; omega))) rfl rfl wok_sub rfl (ls' := #[true, true, true, true, true, true, true, true, false, false, false, false, false, false, false, false, false]) rfl ?_
      refine d_qg 8 rfl (by kernel_rfl) (q_load_ew (i := j) rfl (InRow.rdb (A := A) (els := (d2).map En.c) (by first | (simpa using hn) | (simp; omega) | (simp_all; done)) (map_cat (c := En.c) (fun _ => rfl) _)) (map_get (by first | exact (by first | omega | (simp; done) | (simp; omega)) | omega | (simp_all; done) | (simp_all; omega))) rfl) rfl rfl wok_sub rfl (ls' := #[true, true, true, true, true, true, true, true, true, false, false, false, false, false, false, false, false]) rfl ?_
      refine d_qg 9 rfl (by kernel_rfl) (q_move rfl) rfl rfl wok_sub rfl (ls' := #[true, true, true, true, true, true, true, true, true, true, false, false, false, false, false, false, false]) rfl ?_
      refine d_qg 10 rfl (by kernel_rfl) (q_move rfl) rfl rfl wok_sub rfl (ls' := #[true, true, true, true, true, true, true, true, true, true, true, false, false, false, false, false, false]) rfl ?_
      refine d_qg 11 rfl (by kernel_rfl) (q_subn (a := j) (b := 1) rfl rfl (by first | omega | (simp; omega) | (simp_all; omega)) (by first | omega | (simp; omega) | (simp_all; omega))) rfl rfl wok_sub rfl (ls' := #[true, true, true, true, true, true, true, true, true, true, true, true, false, false, false, false, false]) rfl ?_
      refine d_qg 12 rfl (by kernel_rfl) (q_index (i := (j - 1)) rfl rfl rfl (InRow.rdb (A := A) (els := (d2).map En.c) (by first | (simpa using hn) | (simp; omega) | (simp_all; done)) (map_cat (c := En.c) (fun _ => rfl) _)) (by first | omega | (simp; done) | (simp; omega))) rfl rfl wok_sub rfl (ls' := #[true, true, true, true, true, true, true, true, true, true, true, true, true, false, false, false, false]) rfl ?_
      refine d_qg 13 rfl (by kernel_rfl) (q_load_ew (i := (j - 1)) rfl (InRow.rdb (A := A) (els := (d2).map En.c) (by first | (simpa using hn) | (simp; omega) | (simp_all; done)) (map_cat (c := En.c) (fun _ => rfl) _)) (map_get (by first | exact (by first | omega | (simp; done) | (simp; omega)) | omega | (simp_all; done) | (simp_all; omega))) rfl) rfl rfl wok_sub rfl (ls' := #[true, true, true, true, true, true, true, true, true, true, true, true, true, true, false, false, false]) rfl ?_
      refine d_opg 14 rfl (by kernel_rfl) (ls' := #[true, true, true, true, true, true, true, true, true, true, true, true, true, true, true, false, false]) rfl rfl rfl wok_sub (g_purev rfl rfl (fun w1 hw1 => cmp_any _ _ w1) rfl ?_)
      refine d_qg 15 rfl (by kernel_rfl) (q_lss rfl rfl) rfl rfl wok_sub rfl (ls' := #[true, true, true, true, true, true, true, true, true, true, true, true, true, true, true, true, false]) rfl ?_
      refine d_q 16 rfl (by kernel_rfl) (q_pick_t rfl rfl) wok_sub rfl (ls' := #[true, true, true, true, true, true, true, true, true, true, true, true, true, true, true, true, true]) rfl ?_
      refine d_end (by kernel_rfl) (.inr wok_sub) ?_
      refine g_then ?_
      refine g_cond rfl (fun h3 => ?_) (fun h3 => ?_)
      · have hlt : M[i - a].e < z.e := by have h9 := of_decide_eq_true h3; rw [cmp_lt, g2, g1] at h9; exact h9
        refine g_skip ?_
        refine g_then ?_
        refine g_seq ?_
        refine g_block ?_
        refine d_region [8, 9, 12, 13, 14, 15, 16, 17] mixed rfl rfl ?_
        refine d_p 0 rfl (by kernel_rfl) (fun _ => q_move rfl) rfl (ls' := #[true, false, false, false, false, false, false, false, false, false, false, false, false, false, false, false, false, false]) rfl ?_
        refine d_p 1 rfl (by kernel_rfl) (fun _ => q_move rfl) rfl (ls' := #[true, true, false, false, false, false, false, false, false, false, false, false, false, false, false, false, false, false]) rfl ?_
        refine d_p 2 rfl (by kernel_rfl) (fun _ => q_move rfl) rfl (ls' := #[true, true, true, false, false, false, false, false, false, false, false, false, false, false, false, false, false, false]) rfl ?_
        refine d_p 3 rfl (by kernel_rfl) (fun _ => q_move rfl) rfl (ls' := #[true, true, true, true, false, false, false, false, false, false, false, false, false, false, false, false, false, false]) rfl ?_
        refine d_p 4 rfl (by kernel_rfl) (fun _ => q_subn (a := j) (b := 1) rfl rfl (by first | omega | (simp; omega) | (simp_all; omega)) (by first | omega | (simp; omega) | (simp_all; omega))) rfl (ls' := #[true, true, true, true, true, false, false, false, false, false, false, false, false, false, false, false, false, false]) rfl ?_
        refine d_p 5 rfl (by kernel_rfl) (fun _ => q_move rfl) rfl (ls' := #[true, true, true, true, true, true, false, false, false, false, false, false, false, false, false, false, false, false]) rfl ?_
        refine d_p 6 rfl (by kernel_rfl) (fun _ => q_move rfl) rfl (ls' := #[true, true, true, true, true, true, true, false, false, false, false, false, false, false, false, false, false, false]) rfl ?_
        refine d_p 7 rfl (by kernel_rfl) (fun _ => q_subn (a := j) (b := 1) rfl rfl (by first | omega | (simp; omega) | (simp_all; omega)) (by first | omega | (simp; omega) | (simp_all; omega))) rfl (ls' := #[true, true, true, true, true, true, true, true, false, false, false, false, false, false, false, false, false, false]) rfl ?_
        refine d_p 10 rfl (by kernel_rfl) (fun _ => q_move rfl) rfl (ls' := #[true, true, true, true, true, true, true, true, false, false, true, false, false, false, false, false, false, false]) rfl ?_
        refine d_p 11 rfl (by kernel_rfl) (fun _ => q_move rfl) rfl (ls' := #[true, true, true, true, true, true, true, true, false, false, true, true, false, false, false, false, false, false]) rfl ?_
        refine d_many [8, 12] (by kernel_rfl) (by simp) wok_sub ⟨d_pick rfl (ls' := #[true, true, true, true, true, true, true, true, true, false, true, true, false, false, false, false, false, false]) rfl (G.quiet (q_index (i := (j - 1)) rfl rfl rfl (InRow.rdb (A := A) (els := (d2).map En.c) (by first | (simpa using hn) | (simp; omega) | (simp_all; done)) (map_cat (c := En.c) (fun _ => rfl) _)) (by first | omega | (simp; done) | (simp; omega))) rfl ?_), d_pick rfl (ls' := #[true, true, true, true, true, true, true, true, false, false, true, true, true, false, false, false, false, false]) rfl (G.quiet (q_index (i := j) rfl rfl rfl (InRow.rdb (A := A) (els := (d2).map En.c) (by first | (simpa using hn) | (simp; omega) | (simp_all; done)) (map_cat (c := En.c) (fun _ => rfl) _)) (by first | omega | (simp; done) | (simp; omega))) rfl ?_), trivial⟩
        · refine d_many [9, 12] (by kernel_rfl) (by simp) wok_sub ⟨d_pick rfl (ls' := #[true, true, true, true, true, true, true, true, true, true, true, true, false, false, false, false, false, false]) rfl (G.quiet (q_load_ew (i := (j - 1)) rfl (InRow.rdb (A := A) (els := (d2).map En.c) (by first | (simpa using hn) | (simp; omega) | (simp_all; done)) (map_cat (c := En.c) (fun _ => rfl) _)) (map_get (by first | exact (by first | omega | (simp; done) | (simp; omega)) | omega | (simp_all; done) | (simp_all; omega))) rfl) rfl ?_), d_pick rfl (ls' := #[true, true, true, true, true, true, true, true, true, false, true, true, true, false, false, false, false, false]) rfl (G.quiet (q_index (i := j) rfl rfl rfl (InRow.rdb (A := A) (els := (d2).map En.c) (by first | (simpa using hn) | (simp; omega) | (simp_all; done)) (map_cat (c := En.c) (fun _ => rfl) _)) (by first | omega | (simp; done) | (simp; omega))) rfl ?_), trivial⟩
          · refine d_tail 12 rfl (by kernel_rfl) (ls' := #[true, true, true, true, true, true, true, true, true, true, true, true, true, false, false, false, false, false]) rfl rfl (G.quiet (q_index (i := j) rfl rfl rfl (InRow.rdb (A := A) (els := (d2).map En.c) (by first | (simpa using hn) | (simp; omega) | (simp_all; done)) (map_cat (c := En.c) (fun _ => rfl) _)) (by first | omega | (simp; done) | (simp; omega))) rfl ?_)
            refine d_tail 13 rfl (by kernel_rfl) (ls' := #[true, true, true, true, true, true, true, true, true, true, true, true, true, true, false, false, false, false]) rfl rfl (G.quiet (q_load_ew (i := j) rfl (InRow.rdb (A := A) (els := (d2).map En.c) (by first | (simpa using hn) | (simp; omega) | (simp_all; done)) (map_cat (c := En.c) (fun _ => rfl) _)) (map_get (by first | exact (by first | omega | (simp; done) | (simp; omega)) | omega | (simp_all; done) | (simp_all; omega))) rfl) rfl ?_)
            refine d_tail 14 rfl (by kernel_rfl) (ls' := #[true, true, true, true, true, true, true, true, true, true, true, true, true, true, true, false, false, false]) rfl rfl (G.quiet (q_index (i := j) rfl rfl rfl (InRow.rdb (A := A) (els := (d2).map En.c) (by first | (simpa using hn) | (simp; omega) | (simp_all; done)) (map_cat (c := En.c) (fun _ => rfl) _)) (by first | omega | (simp; done) | (simp; omega))) rfl ?_)
            refine d_tail 15 rfl (by kernel_rfl) (ls' := #[true, true, true, true, true, true, true, true, true, true, true, true, true, true, true, true, false, false]) rfl rfl (g_store_el (A := A) (i := j) (o := 0) (cs' := En.c ((d2[j - 1]))) rfl rfl rfl rfl rfl (map_get (by first | exact (by first | omega | (simp; done) | (simp; omega)) | omega | (simp_all; done) | (simp_all; omega))) (by first | (simp; done) | exact Nat.le_refl _) rfl (splice_all rfl) ?_)
            refine g_rowels (A := A) ((d2.set j (d2[j - 1])).map En.c) (by simp only [List.map_set]) ?_
            refine d_tail 16 rfl (by kernel_rfl) (ls' := #[true, true, true, true, true, true, true, true, true, true, true, true, true, true, true, true, true, false]) rfl rfl (G.quiet (q_index (i := (j - 1)) rfl rfl rfl (InRow.rdb (A := A) (els := ((d2.set j (d2[j - 1]))).map En.c) (by simp only [List.length_map, List.length_set]; omega) (map_cat (c := En.c) (fun _ => rfl) _)) (by first | omega | (simp; done) | (simp; omega))) rfl ?_)
            refine d_tail 17 rfl (by kernel_rfl) (ls' := #[true, true, true, true, true, true, true, true, true, true, true, true, true, true, true, true, true, true]) rfl rfl (g_store_el (A := A) (i := (j - 1)) (o := 0) (cs' := En.c ((d2[j]))) rfl rfl rfl rfl rfl (map_get (by simp only [List.length_set]; omega)) (by first | (simp; done) | exact Nat.le_refl _) rfl (splice_all rfl) ?_)
            refine g_rowels (A := A) (((d2.set j (d2[j - 1])).set (j - 1) (d2[j])).map En.c) (by simp only [List.map_set]) ?_
            refine d_end (by kernel_rfl) (.inl rfl) ?_
            refine g_blk_n ?_
            refine g_then ?_
            refine g_region ?_
            refine s_q (q_move rfl) rfl ?_
            refine s_q (q_subn (a := j) (b := 1) rfl rfl (by first | omega | (simp; omega) | (simp_all; omega)) (by first | omega | (simp; omega) | (simp_all; omega))) rfl ?_
            refine s_q (q_assign rfl) rfl ?_
            refine g_nil ?_
            exact g_again ((j - 1), ((d2.set j d2[j - 1]).set (j - 1) d2[j]), C1, (z :: B2)) (by (try dsimp only); exact ⟨(by simp at hj; omega), hsw, (by rw [List.append_assoc] at s2; exact s2), (fun y hy => (List.mem_cons.1 hy).elim (fun h => by rw [h]; exact hlt) (hB y)), (by rw [← e2, List.append_assoc]; rfl), (by simp [hl2])⟩) (by dsimp only; omega) (by repeat (first | exact trivial | refine ⟨rfl, ?_⟩)) wok_sub
          · refine d_many [9, 13] (by kernel_rfl) (by simp) wok_sub ⟨d_pick rfl (ls' := #[true, true, true, true, true, true, true, true, true, true, true, true, true, false, false, false, false, false]) rfl (G.quiet (q_load_ew (i := (j - 1)) rfl (InRow.rdb (A := A) (els := (d2).map En.c) (by first | (simpa using hn) | (simp; omega) | (simp_all; done)) (map_cat (c := En.c) (fun _ => rfl) _)) (map_get (by first | exact (by first | omega | (simp; done) | (simp; omega)) | omega | (simp_all; done) | (simp_all; omega))) rfl) rfl ?_), d_pick rfl (ls' := #[true, true, true, true, true, true, true, true, true, false, true, true, true, true, false, false, false, false]) rfl (G.quiet (q_load_ew (i := j) rfl (InRow.rdb (A := A) (els := (d2).map En.c) (by first | (simpa using hn) | (simp; omega) | (simp_all; done)) (map_cat (c := En.c) (fun _ => rfl) _)) (map_get (by first | exact (by first | omega | (simp; done) | (simp; omega)) | omega | (simp_all; done) | (simp_all; omega))) rfl) rfl ?_), trivial⟩
            · refine d_tail 13 rfl (by kernel_rfl) (ls' := #[true, true, true, true, true, true, true, true, true, true, true, true, true, true, false, false, false, false]) rfl rfl (G.quiet (q_load_ew (i := j) rfl (InRow.rdb (A := A) (els := (d2).map En.c) (by first | (simpa using hn) | (simp; omega) | (simp_all; done)) (map_cat (c := En.c) (fun _ => rfl) _)) (map_get (by first | exact (by first | omega | (simp; done) | (simp; omega)) | omega | (simp_all; done) | (simp_all; omega))) rfl) rfl ?_)
              refine d_tail 14 rfl (by kernel_rfl) (ls' := #[true, true, true, true, true, true, true, true, true, true, true, true, true, true, true, false, false, false]) rfl rfl (G.quiet (q_index (i := j) rfl rfl rfl (InRow.rdb (A := A) (els := (d2).map En.c) (by first | (simpa using hn) | (simp; omega) | (simp_all; done)) (map_cat (c := En.c) (fun _ => rfl) _)) (by first | omega | (simp; done) | (simp; omega))) rfl ?_)
              refine d_tail 15 rfl (by kernel_rfl) (ls' := #[true, true, true, true, true, true, true, true, true, true, true, true, true, true, true, true, false, false]) rfl rfl (g_store_el (A := A) (i := j) (o := 0) (cs' := En.c ((d2[j - 1]))) rfl rfl rfl rfl rfl (map_get (by first | exact (by first | omega | (simp; done) | (simp; omega)) | omega | (simp_all; done) | (simp_all; omega))) (by first | (simp; done) | exact Nat.le_refl _) rfl (splice_all rfl) ?_)
              refine g_rowels (A := A) ((d2.set j (d2[j - 1])).map En.c) (by simp only [List.map_set]) ?_
              refine d_tail 16 rfl (by kernel_rfl) (ls' := #[true, true, true, true, true, true, true, true, true, true, true, true, true, true, true, true, true, false]) rfl rfl (G.quiet (q_index (i := (j - 1)) rfl rfl rfl (InRow.rdb (A := A) (els := ((d2.set j (d2[j - 1]))).map En.c) (by simp only [List.length_map, List.length_set]; omega) (map_cat (c := En.c) (fun _ => rfl) _)) (by first | omega | (simp; done) | (simp; omega))) rfl ?_)
              refine d_tail 17 rfl (by kernel_rfl) (ls' := #[true, true, true, true, true, true, true, true, true, true, true, true, true, true, true, true, true, true]) rfl rfl (g_store_el (A := A) (i := (j - 1)) (o := 0) (cs' := En.c ((d2[j]))) rfl rfl rfl rfl rfl (map_get (by simp only [List.length_set]; omega)) (by first | (simp; done) | exact Nat.le_refl _) rfl (splice_all rfl) ?_)
              refine g_rowels (A := A) (((d2.set j (d2[j - 1])).set (j - 1) (d2[j])).map En.c) (by simp only [List.map_set]) ?_
              refine d_end (by kernel_rfl) (.inl rfl) ?_
              refine g_blk_n ?_
              refine g_then ?_
              refine g_region ?_
              refine s_q (q_move rfl) rfl ?_
              refine s_q (q_subn (a := j) (b := 1) rfl rfl (by first | omega | (simp; omega) | (simp_all; omega)) (by first | omega | (simp; omega) | (simp_all; omega))) rfl ?_
              refine s_q (q_assign rfl) rfl ?_
              refine g_nil ?_
              exact g_again ((j - 1), ((d2.set j d2[j - 1]).set (j - 1) d2[j]), C1, (z :: B2)) (by (try dsimp only); exact ⟨(by simp at hj; omega), hsw, (by rw [List.append_assoc] at s2; exact s2), (fun y hy => (List.mem_cons.1 hy).elim (fun h => by rw [h]; exact hlt) (hB y)), (by rw [← e2, List.append_assoc]; rfl), (by simp [hl2])⟩) (by dsimp only; omega) (by repeat (first | exact trivial | refine ⟨rfl, ?_⟩)) wok_sub
            · refine d_tail 9 rfl (by kernel_rfl) (ls' := #[true, true, true, true, true, true, true, true, true, true, true, true, true, true, false, false, false, false]) rfl rfl (G.quiet (q_load_ew (i := (j - 1)) rfl (InRow.rdb (A := A) (els := (d2).map En.c) (by first | (simpa using hn) | (simp; omega) | (simp_all; done)) (map_cat (c := En.c) (fun _ => rfl) _)) (map_get (by first | exact (by first | omega | (simp; done) | (simp; omega)) | omega | (simp_all; done) | (simp_all; omega))) rfl) rfl ?_)
              refine d_tail 14 rfl (by kernel_rfl) (ls' := #[true, true, true, true, true, true, true, true, true, true, true, true, true, true, true, false, false, false]) rfl rfl (G.quiet (q_index (i := j) rfl rfl rfl (InRow.rdb (A := A) (els := (d2).map En.c) (by first | (simpa using hn) | (simp; omega) | (simp_all; done)) (map_cat (c := En.c) (fun _ => rfl) _)) (by first | omega | (simp; done) | (simp; omega))) rfl ?_)
              refine d_tail 15 rfl (by kernel_rfl) (ls' := #[true, true, true, true, true, true, true, true, true, true, true, true, true, true, true, true, false, false]) rfl rfl (g_store_el (A := A) (i := j) (o := 0) (cs' := En.c ((d2[j - 1]))) rfl rfl rfl rfl rfl (map_get (by first | exact (by first | omega | (simp; done) | (simp; omega)) | omega | (simp_all; done) | (simp_all; omega))) (by first | (simp; done) | exact Nat.le_refl _) rfl (splice_all rfl) ?_)
              refine g_rowels (A := A) ((d2.set j (d2[j - 1])).map En.c) (by simp only [List.map_set]) ?_
              refine d_tail 16 rfl (by kernel_rfl) (ls' := #[true, true, true, true, true, true, true, true, true, true, true, true, true, true, true, true, true, false]) rfl rfl (G.quiet (q_index (i := (j - 1)) rfl rfl rfl (InRow.rdb (A := A) (els := ((d2.set j (d2[j - 1]))).map En.c) (by simp only [List.length_map, List.length_set]; omega) (map_cat (c := En.c) (fun _ => rfl) _)) (by first | omega | (simp; done) | (simp; omega))) rfl ?_)
              refine d_tail 17 rfl (by kernel_rfl) (ls' := #[true, true, true, true, true, true, true, true, true, true, true, true, true, true, true, true, true, true]) rfl rfl (g_store_el (A := A) (i := (j - 1)) (o := 0) (cs' := En.c ((d2[j]))) rfl rfl rfl rfl rfl (map_get (by simp only [List.length_set]; omega)) (by first | (simp; done) | exact Nat.le_refl _) rfl (splice_all rfl) ?_)
              refine g_rowels (A := A) (((d2.set j (d2[j - 1])).set (j - 1) (d2[j])).map En.c) (by simp only [List.map_set]) ?_
              refine d_end (by kernel_rfl) (.inl rfl) ?_
              refine g_blk_n ?_
              refine g_then ?_
              refine g_region ?_
              refine s_q (q_move rfl) rfl ?_
              refine s_q (q_subn (a := j) (b := 1) rfl rfl (by first | omega | (simp; omega) | (simp_all; omega)) (by first | omega | (simp; omega) | (simp_all; omega))) rfl ?_
              refine s_q (q_assign rfl) rfl ?_
              refine g_nil ?_
              exact g_again ((j - 1), ((d2.set j d2[j - 1]).set (j - 1) d2[j]), C1, (z :: B2)) (by (try dsimp only); exact ⟨(by simp at hj; omega), hsw, (by rw [List.append_assoc] at s2; exact s2), (fun y hy => (List.mem_cons.1 hy).elim (fun h => by rw [h]; exact hlt) (hB y)), (by rw [← e2, List.append_assoc]; rfl), (by simp [hl2])⟩) (by dsimp only; omega) (by repeat (first | exact trivial | refine ⟨rfl, ?_⟩)) wok_sub
        · refine d_many [8, 13] (by kernel_rfl) (by simp) wok_sub ⟨d_pick rfl (ls' := #[true, true, true, true, true, true, true, true, true, false, true, true, true, false, false, false, false, false]) rfl (G.quiet (q_index (i := (j - 1)) rfl rfl rfl (InRow.rdb (A := A) (els := (d2).map En.c) (by first | (simpa using hn) | (simp; omega) | (simp_all; done)) (map_cat (c := En.c) (fun _ => rfl) _)) (by first | omega | (simp; done) | (simp; omega))) rfl ?_), d_pick rfl (ls' := #[true, true, true, true, true, true, true, true, false, false, true, true, true, true, false, false, false, false]) rfl (G.quiet (q_load_ew (i := j) rfl (InRow.rdb (A := A) (els := (d2).map En.c) (by first | (simpa using hn) | (simp; omega) | (simp_all; done)) (map_cat (c := En.c) (fun _ => rfl) _)) (map_get (by first | exact (by first | omega | (simp; done) | (simp; omega)) | omega | (simp_all; done) | (simp_all; omega))) rfl) rfl ?_), trivial⟩
          · refine d_many [9, 13] (by kernel_rfl) (by simp) wok_sub ⟨d_pick rfl (ls' := #[true, true, true, true, true, true, true, true, true, true, true, true, true, false, false, false, false, false]) rfl (G.quiet (q_load_ew (i := (j - 1)) rfl (InRow.rdb (A := A) (els := (d2).map En.c) (by first | (simpa using hn) | (simp; omega) | (simp_all; done)) (map_cat (c := En.c) (fun _ => rfl) _)) (map_get (by first | exact (by first | omega | (simp; done) | (simp; omega)) | omega | (simp_all; done) | (simp_all; omega))) rfl) rfl ?_), d_pick rfl (ls' := #[true, true, true, true, true, true, true, true, true, false, true, true, true, true, false, false, false, false]) rfl (G.quiet (q_load_ew (i := j) rfl (InRow.rdb (A := A) (els := (d2).map En.c) (by first | (simpa using hn) | (simp; omega) | (simp_all; done)) (map_cat (c := En.c) (fun _ => rfl) _)) (map_get (by first | exact (by first | omega | (simp; done) | (simp; omega)) | omega | (simp_all; done) | (simp_all; omega))) rfl) rfl ?_), trivial⟩
            · refine d_tail 13 rfl (by kernel_rfl) (ls' := #[true, true, true, true, true, true, true, true, true, true, true, true, true, true, false, false, false, false]) rfl rfl (G.quiet (q_load_ew (i := j) rfl (InRow.rdb (A := A) (els := (d2).map En.c) (by first | (simpa using hn) | (simp; omega) | (simp_all; done)) (map_cat (c := En.c) (fun _ => rfl) _)) (map_get (by first | exact (by first | omega | (simp; done) | (simp; omega)) | omega | (simp_all; done) | (simp_all; omega))) rfl) rfl ?_)
              refine d_tail 14 rfl (by kernel_rfl) (ls' := #[true, true, true, true, true, true, true, true, true, true, true, true, true, true, true, false, false, false]) rfl rfl (G.quiet (q_index (i := j) rfl rfl rfl (InRow.rdb (A := A) (els := (d2).map En.c) (by first | (simpa using hn) | (simp; omega) | (simp_all; done)) (map_cat (c := En.c) (fun _ => rfl) _)) (by first | omega | (simp; done) | (simp; omega))) rfl ?_)
              refine d_tail 15 rfl (by kernel_rfl) (ls' := #[true, true, true, true, true, true, true, true, true, true, true, true, true, true, true, true, false, false]) rfl rfl (g_store_el (A := A) (i := j) (o := 0) (cs' := En.c ((d2[j - 1]))) rfl rfl rfl rfl rfl (map_get (by first | exact (by first | omega | (simp; done) | (simp; omega)) | omega | (simp_all; done) | (simp_all; omega))) (by first | (simp; done) | exact Nat.le_refl _) rfl (splice_all rfl) ?_)
              refine g_rowels (A := A) ((d2.set j (d2[j - 1])).map En.c) (by simp only [List.map_set]) ?_
              refine d_tail 16 rfl (by kernel_rfl) (ls' := #[true, true, true, true, true, true, true, true, true, true, true, true, true, true, true, true, true, false]) rfl rfl (G.quiet (q_index (i := (j - 1)) rfl rfl rfl (InRow.rdb (A := A) (els := ((d2.set j (d2[j - 1]))).map En.c) (by simp only [List.length_map, List.length_set]; omega) (map_cat (c := En.c) (fun _ => rfl) _)) (by first | omega | (simp; done) | (simp; omega))) rfl ?_)
              refine d_tail 17 rfl (by kernel_rfl) (ls' := #[true, true, true, true, true, true, true, true, true, true, true, true, true, true, true, true, true, true]) rfl rfl (g_store_el (A := A) (i := (j - 1)) (o := 0) (cs' := En.c ((d2[j]))) rfl rfl rfl rfl rfl (map_get (by simp only [List.length_set]; omega)) (by first | (simp; done) | exact Nat.le_refl _) rfl (splice_all rfl) ?_)
              refine g_rowels (A := A) (((d2.set j (d2[j - 1])).set (j - 1) (d2[j])).map En.c) (by simp only [List.map_set]) ?_
              refine d_end (by kernel_rfl) (.inl rfl) ?_
              refine g_blk_n ?_
              refine g_then ?_
              refine g_region ?_
              refine s_q (q_move rfl) rfl ?_
              refine s_q (q_subn (a := j) (b := 1) rfl rfl (by first | omega | (simp; omega) | (simp_all; omega)) (by first | omega | (simp; omega) | (simp_all; omega))) rfl ?_
              refine s_q (q_assign rfl) rfl ?_
              refine g_nil ?_
              exact g_again ((j - 1), ((d2.set j d2[j - 1]).set (j - 1) d2[j]), C1, (z :: B2)) (by (try dsimp only); exact ⟨(by simp at hj; omega), hsw, (by rw [List.append_assoc] at s2; exact s2), (fun y hy => (List.mem_cons.1 hy).elim (fun h => by rw [h]; exact hlt) (hB y)), (by rw [← e2, List.append_assoc]; rfl), (by simp [hl2])⟩) (by dsimp only; omega) (by repeat (first | exact trivial | refine ⟨rfl, ?_⟩)) wok_sub
            · refine d_tail 9 rfl (by kernel_rfl) (ls' := #[true, true, true, true, true, true, true, true, true, true, true, true, true, true, false, false, false, false]) rfl rfl (G.quiet (q_load_ew (i := (j - 1)) rfl (InRow.rdb (A := A) (els := (d2).map En.c) (by first | (simpa using hn) | (simp; omega) | (simp_all; done)) (map_cat (c := En.c) (fun _ => rfl) _)) (map_get (by first | exact (by first | omega | (simp; done) | (simp; omega)) | omega | (simp_all; done) | (simp_all; omega))) rfl) rfl ?_)
              refine d_tail 14 rfl (by kernel_rfl) (ls' := #[true, true, true, true, true, true, true, true, true, true, true, true, true, true, true, false, false, false]) rfl rfl (G.quiet (q_index (i := j) rfl rfl rfl (InRow.rdb (A := A) (els := (d2).map En.c) (by first | (simpa using hn) | (simp; omega) | (simp_all; done)) (map_cat (c := En.c) (fun _ => rfl) _)) (by first | omega | (simp; done) | (simp; omega))) rfl ?_)
              refine d_tail 15 rfl (by kernel_rfl) (ls' := #[true, true, true, true, true, true, true, true, true, true, true, true, true, true, true, true, false, false]) rfl rfl (g_store_el (A := A) (i := j) (o := 0) (cs' := En.c ((d2[j - 1]))) rfl rfl rfl rfl rfl (map_get (by first | exact (by first | omega | (simp; done) | (simp; omega)) | omega | (simp_all; done) | (simp_all; omega))) (by first | (simp; done) | exact Nat.le_refl _) rfl (splice_all rfl) ?_)
              refine g_rowels (A := A) ((d2.set j (d2[j - 1])).map En.c) (by simp only [List.map_set]) ?_
              refine d_tail 16 rfl (by kernel_rfl) (ls' := #[true, true, true, true, true, true, true, true, true, true, true, true, true, true, true, true, true, false]) rfl rfl (G.quiet (q_index (i := (j - 1)) rfl rfl rfl (InRow.rdb (A := A) (els := ((d2.set j (d2[j - 1]))).map En.c) (by simp only [List.length_map, List.length_set]; omega) (map_cat (c := En.c) (fun _ => rfl) _)) (by first | omega | (simp; done) | (simp; omega))) rfl ?_)
              refine d_tail 17 rfl (by kernel_rfl) (ls' := #[true, true, true, true, true, true, true, true, true, true, true, true, true, true, true, true, true, true]) rfl rfl (g_store_el (A := A) (i := (j - 1)) (o := 0) (cs' := En.c ((d2[j]))) rfl rfl rfl rfl rfl (map_get (by simp only [List.length_set]; omega)) (by first | (simp; done) | exact Nat.le_refl _) rfl (splice_all rfl) ?_)
              refine g_rowels (A := A) (((d2.set j (d2[j - 1])).set (j - 1) (d2[j])).map En.c) (by simp only [List.map_set]) ?_
              refine d_end (by kernel_rfl) (.inl rfl) ?_
              refine g_blk_n ?_
              refine g_then ?_
              refine g_region ?_
              refine s_q (q_move rfl) rfl ?_
              refine s_q (q_subn (a := j) (b := 1) rfl rfl (by first | omega | (simp; omega) | (simp_all; omega)) (by first | omega | (simp; omega) | (simp_all; omega))) rfl ?_
              refine s_q (q_assign rfl) rfl ?_
              refine g_nil ?_
              exact g_again ((j - 1), ((d2.set j d2[j - 1]).set (j - 1) d2[j]), C1, (z :: B2)) (by (try dsimp only); exact ⟨(by simp at hj; omega), hsw, (by rw [List.append_assoc] at s2; exact s2), (fun y hy => (List.mem_cons.1 hy).elim (fun h => by rw [h]; exact hlt) (hB y)), (by rw [← e2, List.append_assoc]; rfl), (by simp [hl2])⟩) (by dsimp only; omega) (by repeat (first | exact trivial | refine ⟨rfl, ?_⟩)) wok_sub
          · refine d_tail 8 rfl (by kernel_rfl) (ls' := #[true, true, true, true, true, true, true, true, true, false, true, true, true, true, false, false, false, false]) rfl rfl (G.quiet (q_index (i := (j - 1)) rfl rfl rfl (InRow.rdb (A := A) (els := (d2).map En.c) (by first | (simpa using hn) | (simp; omega) | (simp_all; done)) (map_cat (c := En.c) (fun _ => rfl) _)) (by first | omega | (simp; done) | (simp; omega))) rfl ?_)
            refine d_tail 9 rfl (by kernel_rfl) (ls' := #[true, true, true, true, true, true, true, true, true, true, true, true, true, true, false, false, false, false]) rfl rfl (G.quiet (q_load_ew (i := (j - 1)) rfl (InRow.rdb (A := A) (els := (d2).map En.c) (by first | (simpa using hn) | (simp; omega) | (simp_all; done)) (map_cat (c := En.c) (fun _ => rfl) _)) (map_get (by first | exact (by first | omega | (simp; done) | (simp; omega)) | omega | (simp_all; done) | (simp_all; omega))) rfl) rfl ?_)
            refine d_tail 14 rfl (by kernel_rfl) (ls' := #[true, true, true, true, true, true, true, true, true, true, true, true, true, true, true, false, false, false]) rfl rfl (G.quiet (q_index (i := j) rfl rfl rfl (InRow.rdb (A := A) (els := (d2).map En.c) (by first | (simpa using hn) | (simp; omega) | (simp_all; done)) (map_cat (c := En.c) (fun _ => rfl) _)) (by first | omega | (simp; done) | (simp; omega))) rfl ?_)
            refine d_tail 15 rfl (by kernel_rfl) (ls' := #[true, true, true, true, true, true, true, true, true, true, true, true, true, true, true, true, false, false]) rfl rfl (g_store_el (A := A) (i := j) (o := 0) (cs' := En.c ((d2[j - 1]))) rfl rfl rfl rfl rfl (map_get (by first | exact (by first | omega | (simp; done) | (simp; omega)) | omega | (simp_all; done) | (simp_all; omega))) (by first | (simp; done) | exact Nat.le_refl _) rfl (splice_all rfl) ?_)
            refine g_rowels (A := A) ((d2.set j (d2[j - 1])).map En.c) (by simp only [List.map_set]) ?_
            refine d_tail 16 rfl (by kernel_rfl) (ls' := #[true, true, true, true, true, true, true, true, true, true, true, true, true, true, true, true, true, false]) rfl rfl (G.quiet (q_index (i := (j - 1)) rfl rfl rfl (InRow.rdb (A := A) (els := ((d2.set j (d2[j - 1]))).map En.c) (by simp only [List.length_map, List.length_set]; omega) (map_cat (c := En.c) (fun _ => rfl) _)) (by first | omega | (simp; done) | (simp; omega))) rfl ?_)
            refine d_tail 17 rfl (by kernel_rfl) (ls' := #[true, true, true, true, true, true, true, true, true, true, true, true, true, true, true, true, true, true]) rfl rfl (g_store_el (A := A) (i := (j - 1)) (o := 0) (cs' := En.c ((d2[j]))) rfl rfl rfl rfl rfl (map_get (by simp only [List.length_set]; omega)) (by first | (simp; done) | exact Nat.le_refl _) rfl (splice_all rfl) ?_)
            refine g_rowels (A := A) (((d2.set j (d2[j - 1])).set (j - 1) (d2[j])).map En.c) (by simp only [List.map_set]) ?_
            refine d_end (by kernel_rfl) (.inl rfl) ?_
            refine g_blk_n ?_
            refine g_then ?_
            refine g_region ?_
            refine s_q (q_move rfl) rfl ?_
            refine s_q (q_subn (a := j) (b := 1) rfl rfl (by first | omega | (simp; omega) | (simp_all; omega)) (by first | omega | (simp; omega) | (simp_all; omega))) rfl ?_
            refine s_q (q_assign rfl) rfl ?_
            refine g_nil ?_
            exact g_again ((j - 1), ((d2.set j d2[j - 1]).set (j - 1) d2[j]), C1, (z :: B2)) (by (try dsimp only); exact ⟨(by simp at hj; omega), hsw, (by rw [List.append_assoc] at s2; exact s2), (fun y hy => (List.mem_cons.1 hy).elim (fun h => by rw [h]; exact hlt) (hB y)), (by rw [← e2, List.append_assoc]; rfl), (by simp [hl2])⟩) (by dsimp only; omega) (by repeat (first | exact trivial | refine ⟨rfl, ?_⟩)) wok_sub
      · have hge : ¬ M[i - a].e < z.e := by have h9 := of_decide_eq_false h3; rw [cmp_lt, g2, g1] at h9; exact h9
        have hfin := ins_done s2 hB (fun y hy => by simp at hy; subst hy; omega)
        have hB2 := e2
        refine g_exit ?_
        refine g_then_x (g_then_x (g_blk_hit ?_))
        refine g_blk_n ?_
        refine g_then ?_
        refine g_region ?_
        refine s_q (q_move rfl) rfl ?_
        refine s_q (q_inc rfl rfl (by omega)) rfl ?_
        refine s_q (q_assign rfl) rfl ?_
        refine g_nil ?_
        exact g_again ((i + 1), d2, ((C1 ++ [z]) ++ M[i - a] :: B2)) (by (try dsimp only); exact ⟨(by omega), (by rw [hd2]; simp only [List.append_assoc, List.cons_append]), hfin.1, (hfin.2.trans (by rw [hB2]; have h9 := Same.app e1 (Same.rfl' (a := [M[i - a]])); rw [List.take_append_getElem hx, show i - a + 1 = i + 1 - a from by omega] at h9; exact h9)), (by rw [← hB2] at l1; simp at l1 ⊢; omega), hl2, (by omega)⟩) (by dsimp only; omega) (by repeat (first | exact trivial | refine ⟨rfl, ?_⟩)) wok_sub
    · have hja : B1 = [] := List.eq_nil_of_length_eq_zero (by have h9 := of_decide_eq_false h2; omega)
      have hfin := ins_done s2 hB (fun z hz => by rw [hja] at hz; cases hz)
      have hB2 := e2
      refine d_gf 4 rfl (by kernel_rfl) rfl rfl rfl wok_sub rfl (ls' := #[true, true, true, true, true, false, false, false, false, false, false, false, false, false, false, false, false]) rfl ?_
      refine d_gf 5 rfl (by kernel_rfl) rfl rfl rfl wok_sub rfl (ls' := #[true, true, true, true, true, true, false, false, false, false, false, false, false, false, false, false, false]) rfl ?_
      refine d_gf 6 rfl (by kernel_rfl) rfl rfl rfl wok_sub rfl (ls' := #[true, true, true, true, true, true, true, false, false, false, false, false, false, false, false, false, false]) rfl ?_
      refine d_gf 7 rfl (by kernel_rfl) rfl rfl rfl wok_sub rfl (ls' := #[true, true, true, true, true, true, true, true, false, false, false, false, false, false, false, false, false]) rfl ?_
      refine d_gf 8 rfl (by kernel_rfl) rfl rfl rfl wok_sub rfl (ls' := #[true, true, true, true, true, true, true, true, true, false, false, false, false, false, false, false, false]) rfl ?_
      refine d_gf 9 rfl (by kernel_rfl) rfl rfl rfl wok_sub rfl (ls' := #[true, true, true, true, true, true, true, true, true, true, false, false, false, false, false, false, false]) rfl ?_
      refine d_gf 10 rfl (by kernel_rfl) rfl rfl rfl wok_sub rfl (ls' := #[true, true, true, true, true, true, true, true, true, true, true, false, false, false, false, false, false]) rfl ?_
      refine d_gf 11 rfl (by kernel_rfl) rfl rfl rfl wok_sub rfl (ls' := #[true, true, true, true, true, true, true, true, true, true, true, true, false, false, false, false, false]) rfl ?_
      refine d_gf 12 rfl (by kernel_rfl) rfl rfl rfl wok_sub rfl (ls' := #[true, true, true, true, true, true, true, true, true, true, true, true, true, false, false, false, false]) rfl ?_
      refine d_gf 13 rfl (by kernel_rfl) rfl rfl rfl wok_sub rfl (ls' := #[true, true, true, true, true, true, true, true, true, true, true, true, true, true, false, false, false]) rfl ?_
      refine d_gf 14 rfl (by kernel_rfl) rfl rfl rfl wok_sub rfl (ls' := #[true, true, true, true, true, true, true, true, true, true, true, true, true, true, true, false, false]) rfl ?_
      refine d_gf 15 rfl (by kernel_rfl) rfl rfl rfl wok_sub rfl (ls' := #[true, true, true, true, true, true, true, true, true, true, true, true, true, true, true, true, false]) rfl ?_
      refine d_q 16 rfl (by kernel_rfl) (q_pick_f rfl rfl) wok_sub rfl (ls' := #[true, true, true, true, true, true, true, true, true, true, true, true, true, true, true, true, true]) rfl ?_
      refine d_end (by kernel_rfl) (.inr wok_sub) ?_
      refine g_then ?_
      refine g_false rfl ?_
      refine g_exit ?_
      refine g_then_x (g_then_x (g_blk_hit ?_))
      refine g_blk_n ?_
      refine g_then ?_
      refine g_region ?_
      refine s_q (q_move rfl) rfl ?_
      refine s_q (q_inc rfl rfl (by omega)) rfl ?_
      refine s_q (q_assign rfl) rfl ?_
      refine g_nil ?_
      exact g_again ((i + 1), d2, (B1 ++ M[i - a] :: B2)) (by (try dsimp only); exact ⟨(by omega), (by rw [hd2]; simp only [List.append_assoc, List.cons_append]), hfin.1, (hfin.2.trans (by rw [hB2]; have h9 := Same.app e1 (Same.rfl' (a := [M[i - a]])); rw [List.take_append_getElem hx, show i - a + 1 = i + 1 - a from by omega] at h9; exact h9)), (by rw [← hB2] at l1; simp at l1 ⊢; omega), hl2, (by omega)⟩) (by dsimp only; omega) (by repeat (first | exact trivial | refine ⟨rfl, ?_⟩)) wok_sub
  · have hib1 : b ≤ i := by have h9 := of_decide_eq_false h1; omega
    have etk : M.take (i - a) = M := List.take_of_length_le (by omega)
    have edr : M.drop (i - a) = [] := List.drop_eq_nil_of_le (by omega)
    rw [etk] at e1
    rw [edr, List.nil_append] at hd1
    subst hd1
    refine g_exit ?_
    refine g_then_x (g_then_x (g_blk_hit ?_))
    exact fin0 rfl (fun w' hw' => ⟨M1, (by first | exact ⟨s1, e1, by omega⟩ | (dsimp only; exact ⟨s1, e1, by omega⟩)), rfl, by have h9 := wok_sub (L' := [Res.row A n cap 50 2 (((P ++ (M1 ++ S))).map En.c)]) w' hw'; exact h9⟩) _ (.inr rfl)
end Go.Proofs.Ytgbghjnlicldnaa
