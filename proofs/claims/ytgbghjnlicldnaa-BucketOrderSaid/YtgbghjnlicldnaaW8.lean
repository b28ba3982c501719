/- walk of the merge -/
import Derived.Test.YtgbghjnlicldnaaW7
namespace Go.Proofs.Ytgbghjnlicldnaa
open Go.RowKit Go.Eg
set_option synthInstance.maxSize 3000
set_option linter.unusedSimpArgs false
set_option linter.unusedVariables false
set_option maxRecDepth 100000
def SymOK (N : Nat) : Prop := ∀ (A : Option Addr) (n cap : Nat) (d P L R S : List En) (a m b : Nat) (w : World) (hw : WOK (fps [Res.row A n cap 50 2 ((d).map En.c)]) w [Res.row A n cap 50 2 ((d).map En.c)] w) (hn : n = d.length) (hn6 : n ≤ 1000000) (hd : d = P ++ (L ++ (R ++ S))) (ha : P.length = a) (hm : a + L.length = m) (hb : m + R.length = b) (hL0 : 0 < L.length) (hR0 : 0 < R.length) (sL : Srt L) (sR : Srt R) (hN : b - a ≤ N), Own2 (ι := List En) Try.prog 40 [.slice A n cap, .int .i64 ((a : Nat) : Int), .int .i64 ((m : Nat) : Int), .int .i64 ((b : Nat) : Int), .func (.func 32) #[] #[]] w [Res.row A n cap 50 2 ((d).map En.c)] (fun x => Srt x ∧ Same x (L ++ R) ∧ x.length = L.length + R.length) (fun x => .tuple #[]) (fun x => []) (fun x => [Res.row A n cap 50 2 (((P ++ (x ++ S))).map En.c)])

set_option maxHeartbeats 4000000 in
theorem sym_step (N : Nat) (IH : SymOK N) (A : Option Addr) (n cap : Nat) (d P L R S : List En) (a m b : Nat) (w : World) (hw : WOK (fps [Res.row A n cap 50 2 ((d).map En.c)]) w [Res.row A n cap 50 2 ((d).map En.c)] w) (hn : n = d.length) (hn6 : n ≤ 1000000) (hd : d = P ++ (L ++ (R ++ S))) (ha : P.length = a) (hm : a + L.length = m) (hb : m + R.length = b) (hL0 : 0 < L.length) (hR0 : 0 < R.length) (sL : Srt L) (sR : Srt R) (hN : b - a ≤ N + 1) : Own2 (ι := (List En)) Try.prog 40 [.slice A n cap, .int .i64 ((a : Nat) : Int), .int .i64 ((m : Nat) : Int), .int .i64 ((b : Nat) : Int), .func (.func 32) #[] #[]] w [Res.row A n cap 50 2 ((d).map En.c)] (fun x => Srt x ∧ Same x (L ++ R) ∧ x.length = L.length + R.length) (fun x => .tuple #[]) (fun x => []) (fun x => [Res.row A n cap 50 2 (((P ++ (x ++ S))).map En.c)]) := by
  refine g_start Try.func40 rfl 220 rfl (by simp) (fps [Res.row A n cap 50 2 ((d).map En.c)]) [Res.row A n cap 50 2 ((d).map En.c)] hw _ rfl ?_
  have hdl : d.length = b + S.length := by rw [hd]; simp; omega
  refine g_seq ?_
  refine g_seq ?_
  refine g_region ?_
  refine s_q (q_move rfl) rfl ?_
  refine s_q (q_move rfl) rfl ?_
  refine s_q (q_subn (a := m) (b := a) rfl rfl (by first | omega | (simp; omega) | (simp_all; omega)) (by first | omega | (simp; omega) | (simp_all; omega))) rfl ?_
  refine s_q (q_eql rfl rfl) rfl ?_
  refine g_nil ?_
  refine g_then ?_
  refine g_cond rfl (fun h1 => ?_) (fun h1 => ?_)
  · have hL1 : L.length = 1 := by have h9 := of_decide_eq_true h1; omega
    obtain ⟨u, rfl⟩ : ∃ u, L = [u] := List.length_eq_one_iff.1 hL1
    have gx : ∀ (h : a < d.length), d[a] = u := fun h => by rw [getL hd ha (Nat.le_refl _) (by simp) h]; simp
    refine g_seq ?_
    refine g_region ?_
    refine s_q (q_move rfl) rfl ?_
    refine s_q (q_assign rfl) rfl ?_
    refine g_nil ?_
    refine g_then ?_
    refine g_seq ?_
    refine g_region ?_
    refine s_q (q_move rfl) rfl ?_
    refine s_q (q_assign rfl) rfl ?_
    refine g_nil ?_
    refine g_then ?_
    refine g_seq ?_
    refine g_block ?_
    refine g_loopk [0, 1, 2, 3, 4] (fun (x : Nat × Nat) => [(10, .int .i64 ((x.1 : Nat) : Int)), (11, .int .i64 ((x.2 : Nat) : Int))]) (fun (x : Nat × Nat) => [Res.row A n cap 50 2 ((d).map En.c)]) (fun (x : Nat × Nat) => m ≤ x.1 ∧ x.1 ≤ x.2 ∧ x.2 ≤ b ∧ (∀ y ∈ R.take (x.1 - m), y.e < u.e) ∧ (∀ y ∈ R.drop (x.2 - m), u.e ≤ y.e)) (fun (x : Nat × Nat) => x.2 - x.1) (m, b) (by (try dsimp only); exact ⟨(by omega), (by omega), (by omega), (by simp), (by rw [List.drop_eq_nil_of_le (by omega)]; simp)⟩) rfl (by repeat (first | exact trivial | refine ⟨rfl, ?_⟩)) wok_sub ?_
    rintro ⟨i, j⟩ ⟨hmi, hij, hjb, hlo, hhi⟩
    replace hmi : m ≤ i := hmi
    replace hij : i ≤ j := hij
    replace hjb : j ≤ b := hjb
    replace hlo : ∀ y ∈ R.take (i - m), y.e < u.e := hlo
    replace hhi : ∀ y ∈ R.drop (j - m), u.e ≤ y.e := hhi
    refine g_setL (L' := [Res.row A n cap 50 2 ((d).map En.c)]) rfl ?_
    refine g_val 10 (v' := .int .i64 ((i : Nat) : Int)) rfl rfl ?_
    refine g_val 11 (v' := .int .i64 ((j : Nat) : Int)) rfl rfl ?_
    refine g_seq ?_
    refine g_seq ?_
    refine g_region ?_
    refine s_q (q_move rfl) rfl ?_
    refine s_q (q_move rfl) rfl ?_
    refine s_q (q_lss rfl rfl) rfl ?_
    refine g_nil ?_
    refine g_then ?_
    refine g_cond rfl (fun h2 => ?_) (fun h2 => ?_)
    · have hij1 : i < j := by have h9 := of_decide_eq_true h2; omega
      refine g_skip ?_
      refine g_then ?_
      refine g_block ?_
      refine g_seq ?_
      refine g_region ?_
      refine s_q (q_move rfl) rfl ?_
      refine s_q (q_move rfl) rfl ?_
      refine s_q (q_addn (a := i) (b := j) rfl rfl (by first | omega | (simp; omega) | (simp_all; omega))) rfl ?_
      refine s_q (q_convz (z := (((i + j) : Nat) : Int)) rfl (wu64 (by omega) (by omega))) rfl ?_
      refine s_q (q_shr1 (a := i + j) rfl rfl) rfl ?_
      refine s_q (q_convz (z := ((((i + j) / 2) : Nat) : Int)) rfl (wi64 (by omega) (by omega))) rfl ?_
      refine s_q (q_assign rfl) rfl ?_
      obtain ⟨c, hhc⟩ : ∃ q : Nat, q = (i + j) / 2 := ⟨_, rfl⟩
      refine g_val 12 (v' := .int .i64 ((c : Nat) : Int)) rfl (by rw [hhc]) ?_
      have ic : c < d.length := by omega
      have ia : a < d.length := by omega
      have gc : d[c] = R[c - m] := getR hd ha hm (by omega) (by omega) ic
      have ga := gx ia
      refine g_nil ?_
      refine g_then ?_
      refine g_seq ?_
      refine d_region [] mixed rfl rfl ?_
      refine d_q 0 rfl (by kernel_rfl) (q_move rfl) wok_sub rfl (ls' := #[true, false, false, false, false, false, false, false, false, false, false]) rfl ?_
      refine d_q 1 rfl (by kernel_rfl) (q_move rfl) wok_sub rfl (ls' := #[true, true, false, false, false, false, false, false, false, false, false]) rfl ?_
      refine d_q 2 rfl (by kernel_rfl) (q_move rfl) wok_sub rfl (ls' := #[true, true, true, false, false, false, false, false, false, false, false]) rfl ?_
      refine d_q 3 rfl (by kernel_rfl) (q_index (i := c) rfl rfl rfl (InRow.rdb (A := A) (els := (d).map En.c) (by first | (simpa using hn) | (simp only [List.length_map]; omega) | (simp; omega)) (map_cat (c := En.c) (fun _ => rfl) _)) (by first | omega | (simp; done) | (simp; omega))) wok_sub rfl (ls' := #[true, true, true, true, false, false, false, false, false, false, false]) rfl ?_
      refine d_q 4 rfl (by kernel_rfl) (q_load_ew (i := c) rfl (InRow.rdb (A := A) (els := (d).map En.c) (by first | (simpa using hn) | (simp only [List.length_map]; omega) | (simp; omega)) (map_cat (c := En.c) (fun _ => rfl) _)) (map_get (by first | exact (by first | omega | (simp; done) | (simp; omega)) | omega | (simp_all; done) | (simp_all; omega))) rfl) wok_sub rfl (ls' := #[true, true, true, true, true, false, false, false, false, false, false]) rfl ?_
      refine d_q 5 rfl (by kernel_rfl) (q_move rfl) wok_sub rfl (ls' := #[true, true, true, true, true, true, false, false, false, false, false]) rfl ?_
      refine d_q 6 rfl (by kernel_rfl) (q_move rfl) wok_sub rfl (ls' := #[true, true, true, true, true, true, true, false, false, false, false]) rfl ?_
      refine d_q 7 rfl (by kernel_rfl) (q_index (i := a) rfl rfl rfl (InRow.rdb (A := A) (els := (d).map En.c) (by first | (simpa using hn) | (simp only [List.length_map]; omega) | (simp; omega)) (map_cat (c := En.c) (fun _ => rfl) _)) (by first | omega | (simp; done) | (simp; omega))) wok_sub rfl (ls' := #[true, true, true, true, true, true, true, true, false, false, false]) rfl ?_
      refine d_q 8 rfl (by kernel_rfl) (q_load_ew (i := a) rfl (InRow.rdb (A := A) (els := (d).map En.c) (by first | (simpa using hn) | (simp only [List.length_map]; omega) | (simp; omega)) (map_cat (c := En.c) (fun _ => rfl) _)) (map_get (by first | exact (by first | omega | (simp; done) | (simp; omega)) | omega | (simp_all; done) | (simp_all; omega))) rfl) wok_sub rfl (ls' := #[true, true, true, true, true, true, true, true, true, false, false]) rfl ?_
      refine d_op 9 rfl (by kernel_rfl) (ls' := #[true, true, true, true, true, true, true, true, true, true, false]) rfl wok_sub (g_purev rfl rfl (fun w1 hw1 => cmp_any _ _ w1) rfl ?_)
      refine d_q 10 rfl (by kernel_rfl) (q_lss rfl rfl) wok_sub rfl (ls' := #[true, true, true, true, true, true, true, true, true, true, true]) rfl ?_
      refine d_end (by kernel_rfl) (.inr wok_sub) ?_
      refine g_then ?_
      refine g_cond rfl (fun h3 => ?_) (fun h3 => ?_)
      · have hlt : d[c].e < u.e := by have h9 := of_decide_eq_true h3; rw [cmp_lt, ga] at h9; exact h9
        refine g_region ?_
        refine s_q (q_move rfl) rfl ?_
        refine s_q (q_inc rfl rfl (by omega)) rfl ?_
        refine s_q (q_assign rfl) rfl ?_
        refine g_nil ?_
        refine g_blk_n ?_
        exact g_again ((c + 1), j) (by (try dsimp only); exact ⟨(by omega), (by omega), hjb, (by rw [show c + 1 - m = c - m + 1 from by omega]; exact take_lt sR (by omega) (by rw [← gc]; exact hlt)), hhi⟩) (by dsimp only; omega) (by repeat (first | exact trivial | refine ⟨rfl, ?_⟩)) wok_sub
      · have hlt : ¬ d[c].e < u.e := by have h9 := of_decide_eq_false h3; rw [cmp_lt, ga] at h9; exact h9
        refine g_region ?_
        refine s_q (q_move rfl) rfl ?_
        refine s_q (q_assign rfl) rfl ?_
        refine g_nil ?_
        refine g_blk_n ?_
        exact g_again (i, c) (by (try dsimp only); exact ⟨hmi, (by omega), (by omega), hlo, (drop_le sR (by omega) (by rw [← gc]; omega))⟩) (by dsimp only; omega) (by repeat (first | exact trivial | refine ⟨rfl, ?_⟩)) wok_sub
    · have hij1 : i = j := by have h9 := of_decide_eq_false h2; omega
      subst hij1
      have hone := one_left sR (i - m) hlo hhi
      refine g_exit ?_
      refine g_then_x (g_then_x (g_blk_hit ?_))
      refine g_then ?_
      refine g_seq ?_
      refine g_seq ?_
      refine g_region ?_
      refine s_q (q_move rfl) rfl ?_
      refine s_q (q_assign rfl) rfl ?_
      refine g_nil ?_
      refine g_then ?_
      refine g_block ?_
      refine g_loopk [0, 1, 2, 3, 4, 10] (fun (x : Nat × List En) => [(13, .int .i64 ((x.1 : Nat) : Int))]) (fun (x : Nat × List En) => [Res.row A n cap 50 2 ((x.2).map En.c)]) (fun (x : Nat × List En) => a ≤ x.1 ∧ x.1 + 1 ≤ i ∧ x.2 = P ++ ((R.take (i - m)).take (x.1 - a) ++ (u :: (R.take (i - m)).drop (x.1 - a) ++ (R.drop (i - m) ++ S))) ∧ (x.2).length = n) (fun (x : Nat × List En) => i - x.1) (a, d) (by (try dsimp only); exact ⟨(by omega), (by simp at hm; omega), (by rw [hd, Nat.sub_self]; simp only [List.take_zero, List.drop_zero, List.nil_append, List.cons_append]; rw [← List.append_assoc (R.take (i - m)), List.take_append_drop]), (by omega)⟩) rfl (by repeat (first | exact trivial | refine ⟨rfl, ?_⟩)) wok_sub ?_
      rintro ⟨k, d1⟩ ⟨hka, hki, hd1, hl1⟩
      replace hka : a ≤ k := hka
      replace hki : k + 1 ≤ i := hki
      replace hd1 : d1 = P ++ ((R.take (i - m)).take (k - a) ++ (u :: (R.take (i - m)).drop (k - a) ++ (R.drop (i - m) ++ S))) := hd1
      replace hl1 : (d1).length = n := hl1
      refine g_setL (L' := [Res.row A n cap 50 2 ((d1).map En.c)]) rfl ?_
      refine g_val 13 (v' := .int .i64 ((k : Nat) : Int)) rfl rfl ?_
      refine g_seq ?_
      refine g_seq ?_
      refine g_region ?_
      refine s_q (q_move rfl) rfl ?_
      refine s_q (q_move rfl) rfl ?_
      refine s_q (q_subn (a := i) (b := 1) rfl rfl (by omega) (by omega)) rfl ?_
      refine s_q (q_lss rfl rfl) rfl ?_
      refine g_nil ?_
      refine g_then ?_
      refine g_cond rfl (fun h4 => ?_) (fun h4 => ?_)
      · have hk1 : k < i - 1 := by have h9 := of_decide_eq_true h4; omega
        have hkr : k - a < (R.take (i - m)).length := by simp at hm ⊢; omega
        have ik : k < d1.length := by omega
        have ik1 : k + 1 < d1.length := by omega
        have hst := step_right (B1 := (R.take (i - m)).take (k - a)) (B2 := (R.take (i - m)).drop (k - a + 1)) (z := (R.take (i - m))[k - a]) (by rw [hd1, List.drop_eq_getElem_cons hkr]) (by simp at hm hkr ⊢; omega) ik1
        refine g_skip ?_
        refine g_then ?_
        refine g_seq ?_
        refine g_block ?_
        refine d_region [8, 9, 12, 13, 14, 15, 16, 17] mixed rfl rfl ?_
        refine d_p 0 rfl (by kernel_rfl) (fun _ => q_move rfl) rfl (ls' := #[true, false, false, false, false, false, false, false, false, false, false, false, false, false, false, false, false, false]) rfl ?_
        refine d_p 1 rfl (by kernel_rfl) (fun _ => q_move rfl) rfl (ls' := #[true, true, false, false, false, false, false, false, false, false, false, false, false, false, false, false, false, false]) rfl ?_
        refine d_p 2 rfl (by kernel_rfl) (fun _ => q_move rfl) rfl (ls' := #[true, true, true, false, false, false, false, false, false, false, false, false, false, false, false, false, false, false]) rfl ?_
        refine d_p 3 rfl (by kernel_rfl) (fun _ => q_move rfl) rfl (ls' := #[true, true, true, true, false, false, false, false, false, false, false, false, false, false, false, false, false, false]) rfl ?_
        refine d_p 4 rfl (by kernel_rfl) (fun _ => q_inc rfl rfl (by omega)) rfl (ls' := #[true, true, true, true, true, false, false, false, false, false, false, false, false, false, false, false, false, false]) rfl ?_
        refine d_p 5 rfl (by kernel_rfl) (fun _ => q_move rfl) rfl (ls' := #[true, true, true, true, true, true, false, false, false, false, false, false, false, false, false, false, false, false]) rfl ?_
        refine d_p 6 rfl (by kernel_rfl) (fun _ => q_move rfl) rfl (ls' := #[true, true, true, true, true, true, true, false, false, false, false, false, false, false, false, false, false, false]) rfl ?_
        refine d_p 7 rfl (by kernel_rfl) (fun _ => q_inc rfl rfl (by omega)) rfl (ls' := #[true, true, true, true, true, true, true, true, false, false, false, false, false, false, false, false, false, false]) rfl ?_
        refine d_p 10 rfl (by kernel_rfl) (fun _ => q_move rfl) rfl (ls' := #[true, true, true, true, true, true, true, true, false, false, true, false, false, false, false, false, false, false]) rfl ?_
        refine d_p 11 rfl (by kernel_rfl) (fun _ => q_move rfl) rfl (ls' := #[true, true, true, true, true, true, true, true, false, false, true, true, false, false, false, false, false, false]) rfl ?_
        refine d_many [8, 12] (by kernel_rfl) (by simp) wok_sub ⟨d_pick rfl (ls' := #[true, true, true, true, true, true, true, true, true, false, true, true, false, false, false, false, false, false]) rfl (G.quiet (q_index (i := (k + 1)) rfl rfl rfl (InRow.rdb (A := A) (els := (d1).map En.c) (by first | (simpa using hn) | (simp only [List.length_map]; omega) | (simp; omega)) (map_cat (c := En.c) (fun _ => rfl) _)) (by first | omega | (simp; done) | (simp; omega))) rfl ?_), d_pick rfl (ls' := #[true, true, true, true, true, true, true, true, false, false, true, true, true, false, false, false, false, false]) rfl (G.quiet (q_index (i := k) rfl rfl rfl (InRow.rdb (A := A) (els := (d1).map En.c) (by first | (simpa using hn) | (simp only [List.length_map]; omega) | (simp; omega)) (map_cat (c := En.c) (fun _ => rfl) _)) (by first | omega | (simp; done) | (simp; omega))) rfl ?_), trivial⟩
        · refine d_many [9, 12] (by kernel_rfl) (by simp) wok_sub ⟨d_pick rfl (ls' := #[true, true, true, true, true, true, true, true, true, true, true, true, false, false, false, false, false, false]) rfl (G.quiet (q_load_ew (i := (k + 1)) rfl (InRow.rdb (A := A) (els := (d1).map En.c) (by first | (simpa using hn) | (simp only [List.length_map]; omega) | (simp; omega)) (map_cat (c := En.c) (fun _ => rfl) _)) (map_get (by first | exact (by first | omega | (simp; done) | (simp; omega)) | omega | (simp_all; done) | (simp_all; omega))) rfl) rfl ?_), d_pick rfl (ls' := #[true, true, true, true, true, true, true, true, true, false, true, true, true, false, false, false, false, false]) rfl (G.quiet (q_index (i := k) rfl rfl rfl (InRow.rdb (A := A) (els := (d1).map En.c) (by first | (simpa using hn) | (simp only [List.length_map]; omega) | (simp; omega)) (map_cat (c := En.c) (fun _ => rfl) _)) (by first | omega | (simp; done) | (simp; omega))) rfl ?_), trivial⟩
          · refine d_tail 12 rfl (by kernel_rfl) (ls' := #[true, true, true, true, true, true, true, true, true, true, true, true, true, false, false, false, false, false]) rfl rfl (G.quiet (q_index (i := k) rfl rfl rfl (InRow.rdb (A := A) (els := (d1).map En.c) (by first | (simpa using hn) | (simp only [List.length_map]; omega) | (simp; omega)) (map_cat (c := En.c) (fun _ => rfl) _)) (by first | omega | (simp; done) | (simp; omega))) rfl ?_)
            refine d_tail 13 rfl (by kernel_rfl) (ls' := #[true, true, true, true, true, true, true, true, true, true, true, true, true, true, false, false, false, false]) rfl rfl (G.quiet (q_load_ew (i := k) rfl (InRow.rdb (A := A) (els := (d1).map En.c) (by first | (simpa using hn) | (simp only [List.length_map]; omega) | (simp; omega)) (map_cat (c := En.c) (fun _ => rfl) _)) (map_get (by first | exact (by first | omega | (simp; done) | (simp; omega)) | omega | (simp_all; done) | (simp_all; omega))) rfl) rfl ?_)
            refine d_tail 14 rfl (by kernel_rfl) (ls' := #[true, true, true, true, true, true, true, true, true, true, true, true, true, true, true, false, false, false]) rfl rfl (G.quiet (q_index (i := k) rfl rfl rfl (InRow.rdb (A := A) (els := (d1).map En.c) (by first | (simpa using hn) | (simp only [List.length_map]; omega) | (simp; omega)) (map_cat (c := En.c) (fun _ => rfl) _)) (by first | omega | (simp; done) | (simp; omega))) rfl ?_)
            refine d_tail 15 rfl (by kernel_rfl) (ls' := #[true, true, true, true, true, true, true, true, true, true, true, true, true, true, true, true, false, false]) rfl rfl (g_store_el (A := A) (i := k) (o := 0) (cs' := En.c ((d1[k + 1]))) rfl rfl rfl rfl rfl (map_get (by first | exact (by first | omega | (simp; done) | (simp; omega)) | omega | (simp_all; done) | (simp_all; omega))) (by first | (simp; done) | exact Nat.le_refl _) rfl (splice_all rfl) ?_)
            refine g_rowels (A := A) ((d1.set k (d1[k + 1])).map En.c) (by simp only [List.map_set]) ?_
            refine d_tail 16 rfl (by kernel_rfl) (ls' := #[true, true, true, true, true, true, true, true, true, true, true, true, true, true, true, true, true, false]) rfl rfl (G.quiet (q_index (i := (k + 1)) rfl rfl rfl (InRow.rdb (A := A) (els := ((d1.set k (d1[k + 1]))).map En.c) (by simp only [List.length_map, List.length_set]; omega) (map_cat (c := En.c) (fun _ => rfl) _)) (by first | omega | (simp; done) | (simp; omega))) rfl ?_)
            refine d_tail 17 rfl (by kernel_rfl) (ls' := #[true, true, true, true, true, true, true, true, true, true, true, true, true, true, true, true, true, true]) rfl rfl (g_store_el (A := A) (i := (k + 1)) (o := 0) (cs' := En.c ((d1[k]))) rfl rfl rfl rfl rfl (map_get (by simp only [List.length_set]; omega)) (by first | (simp; done) | exact Nat.le_refl _) rfl (splice_all rfl) ?_)
            refine g_rowels (A := A) (((d1.set k (d1[k + 1])).set (k + 1) (d1[k])).map En.c) (by simp only [List.map_set]) ?_
            refine d_end (by kernel_rfl) (.inl rfl) ?_
            refine g_blk_n ?_
            refine g_then ?_
            refine g_region ?_
            refine s_q (q_move rfl) rfl ?_
            refine s_q (q_inc rfl rfl (by omega)) rfl ?_
            refine s_q (q_assign rfl) rfl ?_
            refine g_nil ?_
            exact g_again ((k + 1), ((d1.set k d1[k + 1]).set (k + 1) d1[k])) (by (try dsimp only); exact ⟨(by omega), (by omega), (by rw [hst, show k + 1 - a = k - a + 1 from by omega, ← List.take_append_getElem hkr]), (by simp [hl1])⟩) (by dsimp only; omega) (by repeat (first | exact trivial | refine ⟨rfl, ?_⟩)) wok_sub
          · refine d_many [9, 13] (by kernel_rfl) (by simp) wok_sub ⟨d_pick rfl (ls' := #[true, true, true, true, true, true, true, true, true, true, true, true, true, false, false, false, false, false]) rfl (G.quiet (q_load_ew (i := (k + 1)) rfl (InRow.rdb (A := A) (els := (d1).map En.c) (by first | (simpa using hn) | (simp only [List.length_map]; omega) | (simp; omega)) (map_cat (c := En.c) (fun _ => rfl) _)) (map_get (by first | exact (by first | omega | (simp; done) | (simp; omega)) | omega | (simp_all; done) | (simp_all; omega))) rfl) rfl ?_), d_pick rfl (ls' := #[true, true, true, true, true, true, true, true, true, false, true, true, true, true, false, false, false, false]) rfl (G.quiet (q_load_ew (i := k) rfl (InRow.rdb (A := A) (els := (d1).map En.c) (by first | (simpa using hn) | (simp only [List.length_map]; omega) | (simp; omega)) (map_cat (c := En.c) (fun _ => rfl) _)) (map_get (by first | exact (by first | omega | (simp; done) | (simp; omega)) | omega | (simp_all; done) | (simp_all; omega))) rfl) rfl ?_), trivial⟩
            · refine d_tail 13 rfl (by kernel_rfl) (ls' := #[true, true, true, true, true, true, true, true, true, true, true, true, true, true, false, false, false, false]) rfl rfl (G.quiet (q_load_ew (i := k) rfl (InRow.rdb (A := A) (els := (d1).map En.c) (by first | (simpa using hn) | (simp only [List.length_map]; omega) | (simp; omega)) (map_cat (c := En.c) (fun _ => rfl) _)) (map_get (by first | exact (by first | omega | (simp; done) | (simp; omega)) | omega | (simp_all; done) | (simp_all; omega))) rfl) rfl ?_)
              refine d_tail 14 rfl (by kernel_rfl) (ls' := #[true, true, true, true, true, true, true, true, true, true, true, true, true, true, true, false, false, false]) rfl rfl (G.quiet (q_index (i := k) rfl rfl rfl (InRow.rdb (A := A) (els := (d1).map En.c) (by first | (simpa using hn) | (simp only [List.length_map]; omega) | (simp; omega)) (map_cat (c := En.c) (fun _ => rfl) _)) (by first | omega | (simp; done) | (simp; omega))) rfl ?_)
              refine d_tail 15 rfl (by kernel_rfl) (ls' := #[true, true, true, true, true, true, true, true, true, true, true, true, true, true, true, true, false, false]) rfl rfl (g_store_el (A := A) (i := k) (o := 0) (cs' := En.c ((d1[k + 1]))) rfl rfl rfl rfl rfl (map_get (by first | exact (by first | omega | (simp; done) | (simp; omega)) | omega | (simp_all; done) | (simp_all; omega))) (by first | (simp; done) | exact Nat.le_refl _) rfl (splice_all rfl) ?_)
              refine g_rowels (A := A) ((d1.set k (d1[k + 1])).map En.c) (by simp only [List.map_set]) ?_
              refine d_tail 16 rfl (by kernel_rfl) (ls' := #[true, true, true, true, true, true, true, true, true, true, true, true, true, true, true, true, true, false]) rfl rfl (G.quiet (q_index (i := (k + 1)) rfl rfl rfl (InRow.rdb (A := A) (els := ((d1.set k (d1[k + 1]))).map En.c) (by simp only [List.length_map, List.length_set]; omega) (map_cat (c := En.c) (fun _ => rfl) _)) (by first | omega | (simp; done) | (simp; omega))) rfl ?_)
              refine d_tail 17 rfl (by kernel_rfl) (ls' := #[true, true, true, true, true, true, true, true, true, true, true, true, true, true, true, true, true, true]) rfl rfl (g_store_el (A := A) (i := (k + 1)) (o := 0) (cs' := En.c ((d1[k]))) rfl rfl rfl rfl rfl (map_get (by simp only [List.length_set]; omega)) (by first | (simp; done) | exact Nat.le_refl _) rfl (splice_all rfl) ?_)
              refine g_rowels (A := A) (((d1.set k (d1[k + 1])).set (k + 1) (d1[k])).map En.c) (by simp only [List.map_set]) ?_
              refine d_end (by kernel_rfl) (.inl rfl) ?_
              refine g_blk_n ?_
              refine g_then ?_
              refine g_region ?_
              refine s_q (q_move rfl) rfl ?_
              refine s_q (q_inc rfl rfl (by omega)) rfl ?_
              refine s_q (q_assign rfl) rfl ?_
              refine g_nil ?_
              exact g_again ((k + 1), ((d1.set k d1[k + 1]).set (k + 1) d1[k])) (by (try dsimp only); exact ⟨(by omega), (by omega), (by rw [hst, show k + 1 - a = k - a + 1 from by omega, ← List.take_append_getElem hkr]), (by simp [hl1])⟩) (by dsimp only; omega) (by repeat (first | exact trivial | refine ⟨rfl, ?_⟩)) wok_sub
            · refine d_tail 9 rfl (by kernel_rfl) (ls' := #[true, true, true, true, true, true, true, true, true, true, true, true, true, true, false, false, false, false]) rfl rfl (G.quiet (q_load_ew (i := (k + 1)) rfl (InRow.rdb (A := A) (els := (d1).map En.c) (by first | (simpa using hn) | (simp only [List.length_map]; omega) | (simp; omega)) (map_cat (c := En.c) (fun _ => rfl) _)) (map_get (by first | exact (by first | omega | (simp; done) | (simp; omega)) | omega | (simp_all; done) | (simp_all; omega))) rfl) rfl ?_)
              refine d_tail 14 rfl (by kernel_rfl) (ls' := #[true, true, true, true, true, true, true, true, true, true, true, true, true, true, true, false, false, false]) rfl rfl (G.quiet (q_index (i := k) rfl rfl rfl (InRow.rdb (A := A) (els := (d1).map En.c) (by first | (simpa using hn) | (simp only [List.length_map]; omega) | (simp; omega)) (map_cat (c := En.c) (fun _ => rfl) _)) (by first | omega | (simp; done) | (simp; omega))) rfl ?_)
              refine d_tail 15 rfl (by kernel_rfl) (ls' := #[true, true, true, true, true, true, true, true, true, true, true, true, true, true, true, true, false, false]) rfl rfl (g_store_el (A := A) (i := k) (o := 0) (cs' := En.c ((d1[k + 1]))) rfl rfl rfl rfl rfl (map_get (by first | exact (by first | omega | (simp; done) | (simp; omega)) | omega | (simp_all; done) | (simp_all; omega))) (by first | (simp; done) | exact Nat.le_refl _) rfl (splice_all rfl) ?_)
              refine g_rowels (A := A) ((d1.set k (d1[k + 1])).map En.c) (by simp only [List.map_set]) ?_
              refine d_tail 16 rfl (by kernel_rfl) (ls' := #[true, true, true, true, true, true, true, true, true, true, true, true, true, true, true, true, true, false]) rfl rfl (G.quiet (q_index (i := (k + 1)) rfl rfl rfl (InRow.rdb (A := A) (els := ((d1.set k (d1[k + 1]))).map En.c) (by simp only [List.length_map, List.length_set]; omega) (map_cat (c := En.c) (fun _ => rfl) _)) (by first | omega | (simp; done) | (simp; omega))) rfl ?_)
              refine d_tail 17 rfl (by kernel_rfl) (ls' := #[true, true, true, true, true, true, true, true, true, true, true, true, true, true, true, true, true, true]) rfl rfl (g_store_el (A := A) (i := (k + 1)) (o := 0) (cs' := En.c ((d1[k]))) rfl rfl rfl rfl rfl (map_get (by simp only [List.length_set]; omega)) (by first | (simp; done) | exact Nat.le_refl _) rfl (splice_all rfl) ?_)
              refine g_rowels (A := A) (((d1.set k (d1[k + 1])).set (k + 1) (d1[k])).map En.c) (by simp only [List.map_set]) ?_
              refine d_end (by kernel_rfl) (.inl rfl) ?_
              refine g_blk_n ?_
              refine g_then ?_
              refine g_region ?_
              refine s_q (q_move rfl) rfl ?_
              refine s_q (q_inc rfl rfl (by omega)) rfl ?_
              refine s_q (q_assign rfl) rfl ?_
              refine g_nil ?_
              exact g_again ((k + 1), ((d1.set k d1[k + 1]).set (k + 1) d1[k])) (by (try dsimp only); exact ⟨(by omega), (by omega), (by rw [hst, show k + 1 - a = k - a + 1 from by omega, ← List.take_append_getElem hkr]), (by simp [hl1])⟩) (by dsimp only; omega) (by repeat (first | exact trivial | refine ⟨rfl, ?_⟩)) wok_sub
        · refine d_many [8, 13] (by kernel_rfl) (by simp) wok_sub ⟨d_pick rfl (ls' := #[true, true, true, true, true, true, true, true, true, false, true, true, true, false, false, false, false, false]) rfl (G.quiet (q_index (i := (k + 1)) rfl rfl rfl (InRow.rdb (A := A) (els := (d1).map En.c) (by first | (simpa using hn) | (simp only [List.length_map]; omega) | (simp; omega)) (map_cat (c := En.c) (fun _ => rfl) _)) (by first | omega | (simp; done) | (simp; omega))) rfl ?_), d_pick rfl (ls' := #[true, true, true, true, true, true, true, true, false, false, true, true, true, true, false, false, false, false]) rfl (G.quiet (q_load_ew (i := k) rfl (InRow.rdb (A := A) (els := (d1).map En.c) (by first | (simpa using hn) | (simp only [List.length_map]; omega) | (simp; omega)) (map_cat (c := En.c) (fun _ => rfl) _)) (map_get (by first | exact (by first | omega | (simp; done) | (simp; omega)) | omega | (simp_all; done) | (simp_all; omega))) rfl) rfl ?_), trivial⟩
          · refine d_many [9, 13] (by kernel_rfl) (by simp) wok_sub ⟨d_pick rfl (ls' := #[true, true, true, true, true, true, true, true, true, true, true, true, true, false, false, false, false, false]) rfl (G.quiet (q_load_ew (i := (k + 1)) rfl (InRow.rdb (A := A) (els := (d1).map En.c) (by first | (simpa using hn) | (simp only [List.length_map]; omega) | (simp; omega)) (map_cat (c := En.c) (fun _ => rfl) _)) (map_get (by first | exact (by first | omega | (simp; done) | (simp; omega)) | omega | (simp_all; done) | (simp_all; omega))) rfl) rfl ?_), d_pick rfl (ls' := #[true, true, true, true, true, true, true, true, true, false, true, true, true, true, false, false, false, false]) rfl (G.quiet (q_load_ew (i := k) rfl (InRow.rdb (A := A) (els := (d1).map En.c) (by first | (simpa using hn) | (simp only [List.length_map]; omega) | (simp; omega)) (map_cat (c := En.c) (fun _ => rfl) _)) (map_get (by first | exact (by first | omega | (simp; done) | (simp; omega)) | omega | (simp_all; done) | (simp_all; omega))) rfl) rfl ?_), trivial⟩
            · refine d_tail 13 rfl (by kernel_rfl) (ls' := #[true, true, true, true, true, true, true, true, true, true, true, true, true, true, false, false, false, false]) rfl rfl (G.quiet (q_load_ew (i := k) rfl (InRow.rdb (A := A) (els := (d1).map En.c) (by first | (simpa using hn) | (simp only [List.length_map]; omega) | (simp; omega)) (map_cat (c := En.c) (fun _ => rfl) _)) (map_get (by first | exact (by first | omega | (simp; done) | (simp; omega)) | omega | (simp_all; done) | (simp_all; omega))) rfl) rfl ?_)
              refine d_tail 14 rfl (by kernel_rfl) (ls' := #[true, true, true, true, true, true, true, true, true, true, true, true, true, true, true, false, false, false]) rfl rfl (G.quiet (q_index (i := k) rfl rfl rfl (InRow.rdb (A := A) (els := (d1).map En.c) (by first | (simpa using hn) | (simp only [List.length_map]; omega) | (simp; omega)) (map_cat (c := En.c) (fun _ => rfl) _)) (by first | omega | (simp; done) | (simp; omega))) rfl ?_)
              refine d_tail 15 rfl (by kernel_rfl) (ls' := #[true, true, true, true, true, true, true, true, true, true, true, true, true, true, true, true, false, false]) rfl rfl (g_store_el (A := A) (i := k) (o := 0) (cs' := En.c ((d1[k + 1]))) rfl rfl rfl rfl rfl (map_get (by first | exact (by first | omega | (simp; done) | (simp; omega)) | omega | (simp_all; done) | (simp_all; omega))) (by first | (simp; done) | exact Nat.le_refl _) rfl (splice_all rfl) ?_)
              refine g_rowels (A := A) ((d1.set k (d1[k + 1])).map En.c) (by simp only [List.map_set]) ?_
              refine d_tail 16 rfl (by kernel_rfl) (ls' := #[true, true, true, true, true, true, true, true, true, true, true, true, true, true, true, true, true, false]) rfl rfl (G.quiet (q_index (i := (k + 1)) rfl rfl rfl (InRow.rdb (A := A) (els := ((d1.set k (d1[k + 1]))).map En.c) (by simp only [List.length_map, List.length_set]; omega) (map_cat (c := En.c) (fun _ => rfl) _)) (by first | omega | (simp; done) | (simp; omega))) rfl ?_)
              refine d_tail 17 rfl (by kernel_rfl) (ls' := #[true, true, true, true, true, true, true, true, true, true, true, true, true, true, true, true, true, true]) rfl rfl (g_store_el (A := A) (i := (k + 1)) (o := 0) (cs' := En.c ((d1[k]))) rfl rfl rfl rfl rfl (map_get (by simp only [List.length_set]; omega)) (by first | (simp; done) | exact Nat.le_refl _) rfl (splice_all rfl) ?_)
              refine g_rowels (A := A) (((d1.set k (d1[k + 1])).set (k + 1) (d1[k])).map En.c) (by simp only [List.map_set]) ?_
              refine d_end (by kernel_rfl) (.inl rfl) ?_
              refine g_blk_n ?_
              refine g_then ?_
              refine g_region ?_
              refine s_q (q_move rfl) rfl ?_
              refine s_q (q_inc rfl rfl (by omega)) rfl ?_
              refine s_q (q_assign rfl) rfl ?_
              refine g_nil ?_
              exact g_again ((k + 1), ((d1.set k d1[k + 1]).set (k + 1) d1[k])) (by (try dsimp only); exact ⟨(by omega), (by omega), (by rw [hst, show k + 1 - a = k - a + 1 from by omega, ← List.take_append_getElem hkr]), (by simp [hl1])⟩) (by dsimp only; omega) (by repeat (first | exact trivial | refine ⟨rfl, ?_⟩)) wok_sub
            · refine d_tail 9 rfl (by kernel_rfl) (ls' := #[true, true, true, true, true, true, true, true, true, true, true, true, true, true, false, false, false, false]) rfl rfl (G.quiet (q_load_ew (i := (k + 1)) rfl (InRow.rdb (A := A) (els := (d1).map En.c) (by first | (simpa using hn) | (simp only [List.length_map]; omega) | (simp; omega)) (map_cat (c := En.c) (fun _ => rfl) _)) (map_get (by first | exact (by first | omega | (simp; done) | (simp; omega)) | omega | (simp_all; done) | (simp_all; omega))) rfl) rfl ?_)
              refine d_tail 14 rfl (by kernel_rfl) (ls' := #[true, true, true, true, true, true, true, true, true, true, true, true, true, true, true, false, false, false]) rfl rfl (G.quiet (q_index (i := k) rfl rfl rfl (InRow.rdb (A := A) (els := (d1).map En.c) (by first | (simpa using hn) | (simp only [List.length_map]; omega) | (simp; omega)) (map_cat (c := En.c) (fun _ => rfl) _)) (by first | omega | (simp; done) | (simp; omega))) rfl ?_)
              refine d_tail 15 rfl (by kernel_rfl) (ls' := #[true, true, true, true, true, true, true, true, true, true, true, true, true, true, true, true, false, false]) rfl rfl (g_store_el (A := A) (i := k) (o := 0) (cs' := En.c ((d1[k + 1]))) rfl rfl rfl rfl rfl (map_get (by first | exact (by first | omega | (simp; done) | (simp; omega)) | omega | (simp_all; done) | (simp_all; omega))) (by first | (simp; done) | exact Nat.le_refl _) rfl (splice_all rfl) ?_)
              refine g_rowels (A := A) ((d1.set k (d1[k + 1])).map En.c) (by simp only [List.map_set]) ?_
              refine d_tail 16 rfl (by kernel_rfl) (ls' := #[true, true, true, true, true, true, true, true, true, true, true, true, true, true, true, true, true, false]) rfl rfl (G.quiet (q_index (i := (k + 1)) rfl rfl rfl (InRow.rdb (A := A) (els := ((d1.set k (d1[k + 1]))).map En.c) (by simp only [List.length_map, List.length_set]; omega) (map_cat (c := En.c) (fun _ => rfl) _)) (by first | omega | (simp; done) | (simp; omega))) rfl ?_)
              refine d_tail 17 rfl (by kernel_rfl) (ls' := #[true, true, true, true, true, true, true, true, true, true, true, true, true, true, true, true, true, true]) rfl rfl (g_store_el (A := A) (i := (k + 1)) (o := 0) (cs' := En.c ((d1[k]))) rfl rfl rfl rfl rfl (map_get (by simp only [List.length_set]; omega)) (by first | (simp; done) | exact Nat.le_refl _) rfl (splice_all rfl) ?_)
              refine g_rowels (A := A) (((d1.set k (d1[k + 1])).set (k + 1) (d1[k])).map En.c) (by simp only [List.map_set]) ?_
              refine d_end (by kernel_rfl) (.inl rfl) ?_
              refine g_blk_n ?_
              refine g_then ?_
              refine g_region ?_
              refine s_q (q_move rfl) rfl ?_
              refine s_q (q_inc rfl rfl (by omega)) rfl ?_
              refine s_q (q_assign rfl) rfl ?_
              refine g_nil ?_
              exact g_again ((k + 1), ((d1.set k d1[k + 1]).set (k + 1) d1[k])) (by (try dsimp only); exact ⟨(by omega), (by omega), (by rw [hst, show k + 1 - a = k - a + 1 from by omega, ← List.take_append_getElem hkr]), (by simp [hl1])⟩) (by dsimp only; omega) (by repeat (first | exact trivial | refine ⟨rfl, ?_⟩)) wok_sub
          · refine d_tail 8 rfl (by kernel_rfl) (ls' := #[true, true, true, true, true, true, true, true, true, false, true, true, true, true, false, false, false, false]) rfl rfl (G.quiet (q_index (i := (k + 1)) rfl rfl rfl (InRow.rdb (A := A) (els := (d1).map En.c) (by first | (simpa using hn) | (simp only [List.length_map]; omega) | (simp; omega)) (map_cat (c := En.c) (fun _ => rfl) _)) (by first | omega | (simp; done) | (simp; omega))) rfl ?_)
            refine d_tail 9 rfl (by kernel_rfl) (ls' := #[true, true, true, true, true, true, true, true, true, true, true, true, true, true, false, false, false, false]) rfl rfl (G.quiet (q_load_ew (i := (k + 1)) rfl (InRow.rdb (A := A) (els := (d1).map En.c) (by first | (simpa using hn) | (simp only [List.length_map]; omega) | (simp; omega)) (map_cat (c := En.c) (fun _ => rfl) _)) (map_get (by first | exact (by first | omega | (simp; done) | (simp; omega)) | omega | (simp_all; done) | (simp_all; omega))) rfl) rfl ?_)
            refine d_tail 14 rfl (by kernel_rfl) (ls' := #[true, true, true, true, true, true, true, true, true, true, true, true, true, true, true, false, false, false]) rfl rfl (G.quiet (q_index (i := k) rfl rfl rfl (InRow.rdb (A := A) (els := (d1).map En.c) (by first | (simpa using hn) | (simp only [List.length_map]; omega) | (simp; omega)) (map_cat (c := En.c) (fun _ => rfl) _)) (by first | omega | (simp; done) | (simp; omega))) rfl ?_)
            refine d_tail 15 rfl (by kernel_rfl) (ls' := #[true, true, true, true, true, true, true, true, true, true, true, true, true, true, true, true, false, false]) rfl rfl (g_store_el (A := A) (i := k) (o := 0) (cs' := En.c ((d1[k + 1]))) rfl rfl rfl rfl rfl (map_get (by first | exact (by first | omega | (simp; done) | (simp; omega)) | omega | (simp_all; done) | (simp_all; omega))) (by first | (simp; done) | exact Nat.le_refl _) rfl (splice_all rfl) ?_)
            refine g_rowels (A := A) ((d1.set k (d1[k + 1])).map En.c) (by simp only [List.map_set]) ?_
            refine d_tail 16 rfl (by kernel_rfl) (ls' := #[true, true, true, true, true, true, true, true, true, true, true, true, true, true, true, true, true, false]) rfl rfl (G.quiet (q_index (i := (k + 1)) rfl rfl rfl (InRow.rdb (A := A) (els := ((d1.set k (d1[k + 1]))).map En.c) (by simp only [List.length_map, List.length_set]; omega) (map_cat (c := En.c) (fun _ => rfl) _)) (by first | omega | (simp; done) | (simp; omega))) rfl ?_)
            refine d_tail 17 rfl (by kernel_rfl) (ls' := #[true, true, true, true, true, true, true, true, true, true, true, true, true, true, true, true, true, true]) rfl rfl (g_store_el (A := A) (i := (k + 1)) (o := 0) (cs' := En.c ((d1[k]))) rfl rfl rfl rfl rfl (map_get (by simp only [List.length_set]; omega)) (by first | (simp; done) | exact Nat.le_refl _) rfl (splice_all rfl) ?_)
            refine g_rowels (A := A) (((d1.set k (d1[k + 1])).set (k + 1) (d1[k])).map En.c) (by simp only [List.map_set]) ?_
            refine d_end (by kernel_rfl) (.inl rfl) ?_
            refine g_blk_n ?_
            refine g_then ?_
            refine g_region ?_
            refine s_q (q_move rfl) rfl ?_
            refine s_q (q_inc rfl rfl (by omega)) rfl ?_
            refine s_q (q_assign rfl) rfl ?_
            refine g_nil ?_
            exact g_again ((k + 1), ((d1.set k d1[k + 1]).set (k + 1) d1[k])) (by (try dsimp only); exact ⟨(by omega), (by omega), (by rw [hst, show k + 1 - a = k - a + 1 from by omega, ← List.take_append_getElem hkr]), (by simp [hl1])⟩) (by dsimp only; omega) (by repeat (first | exact trivial | refine ⟨rfl, ?_⟩)) wok_sub
      · have hk1 : k = i - 1 := by have h9 := of_decide_eq_false h4; omega
        rw [List.take_of_length_le (by simp at hm ⊢; omega), List.drop_eq_nil_of_le (by simp at hm ⊢; omega)] at hd1
        subst hd1
        refine g_exit ?_
        refine g_then_x (g_then_x (g_blk_hit ?_))
        refine g_then ?_
        refine g_ret ?_
        refine g_then_ret ?_
        exact fin0 rfl (fun w' hw' => ⟨(R.take (i - m) ++ u :: R.drop (i - m)), (by first | exact ⟨hone.1, hone.2, by simp; omega⟩ | (dsimp only; exact ⟨hone.1, hone.2, by simp; omega⟩)), rfl, by have h9 := wok_sub (L' := [Res.row A n cap 50 2 (((P ++ (R.take (i - m) ++ (u :: [] ++ (R.drop (i - m) ++ S))))).map En.c)]) w' hw'; show WOK _ _ [Res.row A n cap 50 2 (((P ++ (((R.take (i - m) ++ u :: R.drop (i - m))) ++ S))).map En.c)] _; simp only [List.append_assoc, List.cons_append, List.nil_append] at h9 ⊢; exact h9⟩) _ (.inl rfl)
  · have hL2 : 1 < L.length := by have h9 := of_decide_eq_false h1; omega
    refine g_skip ?_
    refine g_then ?_
    refine g_seq ?_
    refine g_seq ?_
    refine g_region ?_
    refine s_q (q_move rfl) rfl ?_
    refine s_q (q_move rfl) rfl ?_
    refine s_q (q_subn (a := b) (b := m) rfl rfl (by first | omega | (simp; omega) | (simp_all; omega)) (by first | omega | (simp; omega) | (simp_all; omega))) rfl ?_
    refine s_q (q_eql rfl rfl) rfl ?_
    refine g_nil ?_
    refine g_then ?_
    refine g_cond rfl (fun h5 => ?_) (fun h5 => ?_)
    · have hR1 : R.length = 1 := by have h9 := of_decide_eq_true h5; omega
      obtain ⟨u, rfl⟩ : ∃ u, R = [u] := List.length_eq_one_iff.1 hR1
      have gx : ∀ (h : m < d.length), d[m] = u := fun h => by rw [getR hd ha hm (Nat.le_refl _) (by simp) h]; simp
      refine g_seq ?_
      refine g_region ?_
      refine s_q (q_move rfl) rfl ?_
      refine s_q (q_assign rfl) rfl ?_
      refine g_nil ?_
      refine g_then ?_
      refine g_seq ?_
      refine g_region ?_
      refine s_q (q_move rfl) rfl ?_
      refine s_q (q_assign rfl) rfl ?_
      refine g_nil ?_
      refine g_then ?_
      refine g_seq ?_
      refine g_block ?_
      refine g_loopk [0, 1, 2, 3, 4] (fun (x : Nat × Nat) => [(14, .int .i64 ((x.1 : Nat) : Int)), (15, .int .i64 ((x.2 : Nat) : Int))]) (fun (x : Nat × Nat) => [Res.row A n cap 50 2 ((d).map En.c)]) (fun (x : Nat × Nat) => a ≤ x.1 ∧ x.1 ≤ x.2 ∧ x.2 ≤ m ∧ (∀ y ∈ L.take (x.1 - a), y.e ≤ u.e) ∧ (∀ y ∈ L.drop (x.2 - a), u.e < y.e)) (fun (x : Nat × Nat) => x.2 - x.1) (a, m) (by (try dsimp only); exact ⟨(by omega), (by omega), (by omega), (by simp), (by rw [List.drop_eq_nil_of_le (by omega)]; simp)⟩) rfl (by repeat (first | exact trivial | refine ⟨rfl, ?_⟩)) wok_sub ?_
      rintro ⟨i, j⟩ ⟨hmi, hij, hjb, hlo, hhi⟩
      replace hmi : a ≤ i := hmi
      replace hij : i ≤ j := hij
      replace hjb : j ≤ m := hjb
      replace hlo : ∀ y ∈ L.take (i - a), y.e ≤ u.e := hlo
      replace hhi : ∀ y ∈ L.drop (j - a), u.e < y.e := hhi
      refine g_setL (L' := [Res.row A n cap 50 2 ((d).map En.c)]) rfl ?_
      refine g_val 14 (v' := .int .i64 ((i : Nat) : Int)) rfl rfl ?_
      refine g_val 15 (v' := .int .i64 ((j : Nat) : Int)) rfl rfl ?_
      refine g_seq ?_
      refine g_seq ?_
      refine g_region ?_
      refine s_q (q_move rfl) rfl ?_
      refine s_q (q_move rfl) rfl ?_
      refine s_q (q_lss rfl rfl) rfl ?_
      refine g_nil ?_
      refine g_then ?_
      refine g_cond rfl (fun h6 => ?_) (fun h6 => ?_)
      · have hij1 : i < j := by have h9 := of_decide_eq_true h6; omega
        refine g_skip ?_
        refine g_then ?_
        refine g_block ?_
        refine g_seq ?_
        refine g_region ?_
        refine s_q (q_move rfl) rfl ?_
        refine s_q (q_move rfl) rfl ?_
        refine s_q (q_addn (a := i) (b := j) rfl rfl (by first | omega | (simp; omega) | (simp_all; omega))) rfl ?_
        refine s_q (q_convz (z := (((i + j) : Nat) : Int)) rfl (wu64 (by omega) (by omega))) rfl ?_
        refine s_q (q_shr1 (a := i + j) rfl rfl) rfl ?_
        refine s_q (q_convz (z := ((((i + j) / 2) : Nat) : Int)) rfl (wi64 (by omega) (by omega))) rfl ?_
        refine s_q (q_assign rfl) rfl ?_
        obtain ⟨c, hhc⟩ : ∃ q : Nat, q = (i + j) / 2 := ⟨_, rfl⟩
        refine g_val 16 (v' := .int .i64 ((c : Nat) : Int)) rfl (by rw [hhc]) ?_
        have ic : c < d.length := by omega
        have ia : m < d.length := by omega
        have gc : d[c] = L[c - a] := getL hd ha (by omega) (by omega) ic
        have ga := gx ia
        refine g_nil ?_
        refine g_then ?_
        refine g_seq ?_
        refine d_region [] mixed rfl rfl ?_
        refine d_q 0 rfl (by kernel_rfl) (q_move rfl) wok_sub rfl (ls' := #[true, false, false, false, false, false, false, false, false, false, false, false]) rfl ?_
        refine d_q 1 rfl (by kernel_rfl) (q_move rfl) wok_sub rfl (ls' := #[true, true, false, false, false, false, false, false, false, false, false, false]) rfl ?_
        refine d_q 2 rfl (by kernel_rfl) (q_move rfl) wok_sub rfl (ls' := #[true, true, true, false, false, false, false, false, false, false, false, false]) rfl ?_
        refine d_q 3 rfl (by kernel_rfl) (q_index (i := m) rfl rfl rfl (InRow.rdb (A := A) (els := (d).map En.c) (by first | (simpa using hn) | (simp only [List.length_map]; omega) | (simp; omega)) (map_cat (c := En.c) (fun _ => rfl) _)) (by first | omega | (simp; done) | (simp; omega))) wok_sub rfl (ls' := #[true, true, true, true, false, false, false, false, false, false, false, false]) rfl ?_
        refine d_q 4 rfl (by kernel_rfl) (q_load_ew (i := m) rfl (InRow.rdb (A := A) (els := (d).map En.c) (by first | (simpa using hn) | (simp only [List.length_map]; omega) | (simp; omega)) (map_cat (c := En.c) (fun _ => rfl) _)) (map_get (by first | exact (by first | omega | (simp; done) | (simp; omega)) | omega | (simp_all; done) | (simp_all; omega))) rfl) wok_sub rfl (ls' := #[true, true, true, true, true, false, false, false, false, false, false, false]) rfl ?_
        refine d_q 5 rfl (by kernel_rfl) (q_move rfl) wok_sub rfl (ls' := #[true, true, true, true, true, true, false, false, false, false, false, false]) rfl ?_
        refine d_q 6 rfl (by kernel_rfl) (q_move rfl) wok_sub rfl (ls' := #[true, true, true, true, true, true, true, false, false, false, false, false]) rfl ?_
        refine d_q 7 rfl (by kernel_rfl) (q_index (i := c) rfl rfl rfl (InRow.rdb (A := A) (els := (d).map En.c) (by first | (simpa using hn) | (simp only [List.length_map]; omega) | (simp; omega)) (map_cat (c := En.c) (fun _ => rfl) _)) (by first | omega | (simp; done) | (simp; omega))) wok_sub rfl (ls' := #[true, true, true, true, true, true, true, true, false, false, false, false]) rfl ?_
        refine d_q 8 rfl (by kernel_rfl) (q_load_ew (i := c) rfl (InRow.rdb (A := A) (els := (d).map En.c) (by first | (simpa using hn) | (simp only [List.length_map]; omega) | (simp; omega)) (map_cat (c := En.c) (fun _ => rfl) _)) (map_get (by first | exact (by first | omega | (simp; done) | (simp; omega)) | omega | (simp_all; done) | (simp_all; omega))) rfl) wok_sub rfl (ls' := #[true, true, true, true, true, true, true, true, true, false, false, false]) rfl ?_
        refine d_op 9 rfl (by kernel_rfl) (ls' := #[true, true, true, true, true, true, true, true, true, true, false, false]) rfl wok_sub (g_purev rfl rfl (fun w1 hw1 => cmp_any _ _ w1) rfl ?_)
        refine d_q 10 rfl (by kernel_rfl) (q_lss rfl rfl) wok_sub rfl (ls' := #[true, true, true, true, true, true, true, true, true, true, true, false]) rfl ?_
        refine d_q 11 rfl (by kernel_rfl) (q_not rfl) wok_sub rfl (ls' := #[true, true, true, true, true, true, true, true, true, true, true, true]) rfl ?_
        refine d_end (by kernel_rfl) (.inr wok_sub) ?_
        refine g_then ?_
        refine g_cond rfl (fun h7 => ?_) (fun h7 => ?_)
        · have hlt : ¬ u.e < d[c].e := by have h9 := h7; simp only [Bool.not_eq_true'] at h9; have h8 := of_decide_eq_false h9; rw [cmp_lt, ga] at h8; exact h8
          refine g_region ?_
          refine s_q (q_move rfl) rfl ?_
          refine s_q (q_inc rfl rfl (by omega)) rfl ?_
          refine s_q (q_assign rfl) rfl ?_
          refine g_nil ?_
          refine g_blk_n ?_
          exact g_again ((c + 1), j) (by (try dsimp only); exact ⟨(by omega), (by omega), hjb, (by rw [show c + 1 - a = c - a + 1 from by omega]; exact take_le sL (by omega) (by rw [← gc]; omega)), hhi⟩) (by dsimp only; omega) (by repeat (first | exact trivial | refine ⟨rfl, ?_⟩)) wok_sub
        · have hlt : u.e < d[c].e := by have h9 := h7; simp only [Bool.not_eq_false'] at h9; have h8 := of_decide_eq_true h9; rw [cmp_lt, ga] at h8; exact h8
          refine g_region ?_
          refine s_q (q_move rfl) rfl ?_
          refine s_q (q_assign rfl) rfl ?_
          refine g_nil ?_
          refine g_blk_n ?_
          exact g_again (i, c) (by (try dsimp only); exact ⟨hmi, (by omega), (by omega), hlo, (drop_lt sL (by omega) (by rw [← gc]; exact hlt))⟩) (by dsimp only; omega) (by repeat (first | exact trivial | refine ⟨rfl, ?_⟩)) wok_sub
      · have hij1 : i = j := by have h9 := of_decide_eq_false h6; omega
        subst hij1
        have hone := one_right sL (i - a) hlo hhi
        refine g_exit ?_
        refine g_then_x (g_then_x (g_blk_hit ?_))
        refine g_then ?_
        refine g_seq ?_
        refine g_seq ?_
        refine g_region ?_
        refine s_q (q_move rfl) rfl ?_
        refine s_q (q_assign rfl) rfl ?_
        refine g_nil ?_
        refine g_then ?_
        refine g_block ?_
        refine g_loopk [0, 1, 2, 3, 4, 14] (fun (x : Nat × List En × List En × List En) => [(17, .int .i64 ((x.1 : Nat) : Int))]) (fun (x : Nat × List En × List En × List En) => [Res.row A n cap 50 2 ((x.2.1).map En.c)]) (fun (x : Nat × List En × List En × List En) => i ≤ x.1 ∧ x.1 ≤ m ∧ x.2.2.1 ++ x.2.2.2 = L.drop (i - a) ∧ (x.2.2.1).length = x.1 - i ∧ x.2.1 = (P ++ L.take (i - a)) ++ (x.2.2.1 ++ (u :: x.2.2.2 ++ S)) ∧ (x.2.1).length = n) (fun (x : Nat × List En × List En × List En) => x.1 - i) (m, d, (L.drop (i - a)), []) (by (try dsimp only); exact ⟨(by omega), (by omega), (List.append_nil _), (by simp; omega), (by rw [hd]; simp only [List.append_assoc, List.cons_append, List.nil_append]; rw [← List.append_assoc (L.take (i - a)), List.take_append_drop]), (by omega)⟩) rfl (by repeat (first | exact trivial | refine ⟨rfl, ?_⟩)) wok_sub ?_
        rintro ⟨k, d1, B1, B2⟩ ⟨hki, hkm, hBB, hB1, hd1, hl1⟩
        replace hki : i ≤ k := hki
        replace hkm : k ≤ m := hkm
        replace hBB : B1 ++ B2 = L.drop (i - a) := hBB
        replace hB1 : (B1).length = k - i := hB1
        replace hd1 : d1 = (P ++ L.take (i - a)) ++ (B1 ++ (u :: B2 ++ S)) := hd1
        replace hl1 : (d1).length = n := hl1
        refine g_setL (L' := [Res.row A n cap 50 2 ((d1).map En.c)]) rfl ?_
        refine g_val 17 (v' := .int .i64 ((k : Nat) : Int)) rfl rfl ?_
        refine g_seq ?_
        refine g_seq ?_
        refine g_region ?_
        refine s_q (q_move rfl) rfl ?_
        refine s_q (q_move rfl) rfl ?_
        refine s_q (q_gtr rfl rfl) rfl ?_
        refine g_nil ?_
        refine g_then ?_
        refine g_cond rfl (fun h8 => ?_) (fun h8 => ?_)
        · have hk1 : i < k := by have h9 := of_decide_eq_true h8; omega
          obtain ⟨C1, z, rfl⟩ := last_of (B := B1) (by omega)
          have ik : k < d1.length := by omega
          have ik1 : k - 1 < d1.length := by omega
          have hst := step_left hd1 (by simp at hB1 ⊢; omega) ik
          refine g_skip ?_
          refine g_then ?_
          refine g_seq ?_
          refine g_block ?_
          refine d_region [8, 9, 12, 13, 14, 15, 16, 17] mixed rfl rfl ?_
          refine d_p 0 rfl (by kernel_rfl) (fun _ => q_move rfl) rfl (ls' := #[true, false, false, false, false, false, false, false, false, false, false, false, false, false, false, false, false, false]) rfl ?_
          refine d_p 1 rfl (by kernel_rfl) (fun _ => q_move rfl) rfl (ls' := #[true, true, false, false, false, false, false, false, false, false, false, false, false, false, false, false, false, false]) rfl ?_
          refine d_p 2 rfl (by kernel_rfl) (fun _ => q_move rfl) rfl (ls' := #[true, true, true, false, false, false, false, false, false, false, false, false, false, false, false, false, false, false]) rfl ?_
          refine d_p 3 rfl (by kernel_rfl) (fun _ => q_move rfl) rfl (ls' := #[true, true, true, true, false, false, false, false, false, false, false, false, false, false, false, false, false, false]) rfl ?_
          refine d_p 4 rfl (by kernel_rfl) (fun _ => q_subn (a := k) (b := 1) rfl rfl (by first | omega | (simp; omega) | (simp_all; omega)) (by first | omega | (simp; omega) | (simp_all; omega))) rfl (ls' := #[true, true, true, true, true, false, false, false, false, false, false, false, false, false, false, false, false, false]) rfl ?_
          refine d_p 5 rfl (by kernel_rfl) (fun _ => q_move rfl) rfl (ls' := #[true, true, true, true, true, true, false, false, false, false, false, false, false, false, false, false, false, false]) rfl ?_
          refine d_p 6 rfl (by kernel_rfl) (fun _ => q_move rfl) rfl (ls' := #[true, true, true, true, true, true, true, false, false, false, false, false, false, false, false, false, false, false]) rfl ?_
          refine d_p 7 rfl (by kernel_rfl) (fun _ => q_subn (a := k) (b := 1) rfl rfl (by first | omega | (simp; omega) | (simp_all; omega)) (by first | omega | (simp; omega) | (simp_all; omega))) rfl (ls' := #[true, true, true, true, true, true, true, true, false, false, false, false, false, false, false, false, false, false]) rfl ?_
          refine d_p 10 rfl (by kernel_rfl) (fun _ => q_move rfl) rfl (ls' := #[true, true, true, true, true, true, true, true, false, false, true, false, false, false, false, false, false, false]) rfl ?_
          refine d_p 11 rfl (by kernel_rfl) (fun _ => q_move rfl) rfl (ls' := #[true, true, true, true, true, true, true, true, false, false, true, true, false, false, false, false, false, false]) rfl ?_
          refine d_many [8, 12] (by kernel_rfl) (by simp) wok_sub ⟨d_pick rfl (ls' := #[true, true, true, true, true, true, true, true, true, false, true, true, false, false, false, false, false, false]) rfl (G.quiet (q_index (i := (k - 1)) rfl rfl rfl (InRow.rdb (A := A) (els := (d1).map En.c) (by first | (simpa using hn) | (simp only [List.length_map]; omega) | (simp; omega)) (map_cat (c := En.c) (fun _ => rfl) _)) (by first | omega | (simp; done) | (simp; omega))) rfl ?_), d_pick rfl (ls' := #[true, true, true, true, true, true, true, true, false, false, true, true, true, false, false, false, false, false]) rfl (G.quiet (q_index (i := k) rfl rfl rfl (InRow.rdb (A := A) (els := (d1).map En.c) (by first | (simpa using hn) | (simp only [List.length_map]; omega) | (simp; omega)) (map_cat (c := En.c) (fun _ => rfl) _)) (by first | omega | (simp; done) | (simp; omega))) rfl ?_), trivial⟩
          · refine d_many [9, 12] (by kernel_rfl) (by simp) wok_sub ⟨d_pick rfl (ls' := #[true, true, true, true, true, true, true, true, true, true, true, true, false, false, false, false, false, false]) rfl (G.quiet (q_load_ew (i := (k - 1)) rfl (InRow.rdb (A := A) (els := (d1).map En.c) (by first | (simpa using hn) | (simp only [List.length_map]; omega) | (simp; omega)) (map_cat (c := En.c) (fun _ => rfl) _)) (map_get (by first | exact (by first | omega | (simp; done) | (simp; omega)) | omega | (simp_all; done) | (simp_all; omega))) rfl) rfl ?_), d_pick rfl (ls' := #[true, true, true, true, true, true, true, true, true, false, true, true, true, false, false, false, false, false]) rfl (G.quiet (q_index (i := k) rfl rfl rfl (InRow.rdb (A := A) (els := (d1).map En.c) (by first | (simpa using hn) | (simp only [List.length_map]; omega) | (simp; omega)) (map_cat (c := En.c) (fun _ => rfl) _)) (by first | omega | (simp; done) | (simp; omega))) rfl ?_), trivial⟩
            · refine d_tail 12 rfl (by kernel_rfl) (ls' := #[true, true, true, true, true, true, true, true, true, true, true, true, true, false, false, false, false, false]) rfl rfl (G.quiet (q_index (i := k) rfl rfl rfl (InRow.rdb (A := A) (els := (d1).map En.c) (by first | (simpa using hn) | (simp only [List.length_map]; omega) | (simp; omega)) (map_cat (c := En.c) (fun _ => rfl) _)) (by first | omega | (simp; done) | (simp; omega))) rfl ?_)
              refine d_tail 13 rfl (by kernel_rfl) (ls' := #[true, true, true, true, true, true, true, true, true, true, true, true, true, true, false, false, false, false]) rfl rfl (G.quiet (q_load_ew (i := k) rfl (InRow.rdb (A := A) (els := (d1).map En.c) (by first | (simpa using hn) | (simp only [List.length_map]; omega) | (simp; omega)) (map_cat (c := En.c) (fun _ => rfl) _)) (map_get (by first | exact (by first | omega | (simp; done) | (simp; omega)) | omega | (simp_all; done) | (simp_all; omega))) rfl) rfl ?_)
              refine d_tail 14 rfl (by kernel_rfl) (ls' := #[true, true, true, true, true, true, true, true, true, true, true, true, true, true, true, false, false, false]) rfl rfl (G.quiet (q_index (i := k) rfl rfl rfl (InRow.rdb (A := A) (els := (d1).map En.c) (by first | (simpa using hn) | (simp only [List.length_map]; omega) | (simp; omega)) (map_cat (c := En.c) (fun _ => rfl) _)) (by first | omega | (simp; done) | (simp; omega))) rfl ?_)
              refine d_tail 15 rfl (by kernel_rfl) (ls' := #[true, true, true, true, true, true, true, true, true, true, true, true, true, true, true, true, false, false]) rfl rfl (g_store_el (A := A) (i := k) (o := 0) (cs' := En.c ((d1[k - 1]))) rfl rfl rfl rfl rfl (map_get (by first | exact (by first | omega | (simp; done) | (simp; omega)) | omega | (simp_all; done) | (simp_all; omega))) (by first | (simp; done) | exact Nat.le_refl _) rfl (splice_all rfl) ?_)
              refine g_rowels (A := A) ((d1.set k (d1[k - 1])).map En.c) (by simp only [List.map_set]) ?_
              refine d_tail 16 rfl (by kernel_rfl) (ls' := #[true, true, true, true, true, true, true, true, true, true, true, true, true, true, true, true, true, false]) rfl rfl (G.quiet (q_index (i := (k - 1)) rfl rfl rfl (InRow.rdb (A := A) (els := ((d1.set k (d1[k - 1]))).map En.c) (by simp only [List.length_map, List.length_set]; omega) (map_cat (c := En.c) (fun _ => rfl) _)) (by first | omega | (simp; done) | (simp; omega))) rfl ?_)
              refine d_tail 17 rfl (by kernel_rfl) (ls' := #[true, true, true, true, true, true, true, true, true, true, true, true, true, true, true, true, true, true]) rfl rfl (g_store_el (A := A) (i := (k - 1)) (o := 0) (cs' := En.c ((d1[k]))) rfl rfl rfl rfl rfl (map_get (by simp only [List.length_set]; omega)) (by first | (simp; done) | exact Nat.le_refl _) rfl (splice_all rfl) ?_)
              refine g_rowels (A := A) (((d1.set k (d1[k - 1])).set (k - 1) (d1[k])).map En.c) (by simp only [List.map_set]) ?_
              refine d_end (by kernel_rfl) (.inl rfl) ?_
              refine g_blk_n ?_
              refine g_then ?_
              refine g_region ?_
              refine s_q (q_move rfl) rfl ?_
              refine s_q (q_subn (a := k) (b := 1) rfl rfl (by first | omega | (simp; omega) | (simp_all; omega)) (by first | omega | (simp; omega) | (simp_all; omega))) rfl ?_
              refine s_q (q_assign rfl) rfl ?_
              refine g_nil ?_
              exact g_again ((k - 1), ((d1.set k d1[k - 1]).set (k - 1) d1[k]), C1, (z :: B2)) (by (try dsimp only); exact ⟨(by omega), (by omega), (by rw [← hBB, List.append_assoc]; rfl), (by simp at hB1; omega), hst.2.2, (by simp [hl1])⟩) (by dsimp only; omega) (by repeat (first | exact trivial | refine ⟨rfl, ?_⟩)) wok_sub
            · refine d_many [9, 13] (by kernel_rfl) (by simp) wok_sub ⟨d_pick rfl (ls' := #[true, true, true, true, true, true, true, true, true, true, true, true, true, false, false, false, false, false]) rfl (G.quiet (q_load_ew (i := (k - 1)) rfl (InRow.rdb (A := A) (els := (d1).map En.c) (by first | (simpa using hn) | (simp only [List.length_map]; omega) | (simp; omega)) (map_cat (c := En.c) (fun _ => rfl) _)) (map_get (by first | exact (by first | omega | (simp; done) | (simp; omega)) | omega | (simp_all; done) | (simp_all; omega))) rfl) rfl ?_), d_pick rfl (ls' := #[true, true, true, true, true, true, true, true, true, false, true, true, true, true, false, false, false, false]) rfl (G.quiet (q_load_ew (i := k) rfl (InRow.rdb (A := A) (els := (d1).map En.c) (by first | (simpa using hn) | (simp only [List.length_map]; omega) | (simp; omega)) (map_cat (c := En.c) (fun _ => rfl) _)) (map_get (by first | exact (by first | omega | (simp; done) | (simp; omega)) | omega | (simp_all; done) | (simp_all; omega))) rfl) rfl ?_), trivial⟩
              · refine d_tail 13 rfl (by kernel_rfl) (ls' := #[true, true, true, true, true, true, true, true, true, true, true, true, true, true, false, false, false, false]) rfl rfl (G.quiet (q_load_ew (i := k) rfl (InRow.rdb (A := A) (els := (d1).map En.c) (by first | (simpa using hn) | (simp only [List.length_map]; omega) | (simp; omega)) (map_cat (c := En.c) (fun _ => rfl) _)) (map_get (by first | exact (by first | omega | (simp; done) | (simp; omega)) | omega | (simp_all; done) | (simp_all; omega))) rfl) rfl ?_)
                refine d_tail 14 rfl (by kernel_rfl) (ls' := #[true, true, true, true, true, true, true, true, true, true, true, true, true, true, true, false, false, false]) rfl rfl (G.quiet (q_index (i := k) rfl rfl rfl (InRow.rdb (A := A) (els := (d1).map En.c) (by first | (simpa using hn) | (simp only [List.length_map]; omega) | (simp; omega)) (map_cat (c := En.c) (fun _ => rfl) _)) (by first | omega | (simp; done) | (simp; omega))) rfl ?_)
                refine d_tail 15 rfl (by kernel_rfl) (ls' := #[true, true, true, true, true, true, true, true, true, true, true, true, true, true, true, true, false, false]) rfl rfl (g_store_el (A := A) (i := k) (o := 0) (cs' := En.c ((d1[k - 1]))) rfl rfl rfl rfl rfl (map_get (by first | exact (by first | omega | (simp; done) | (simp; omega)) | omega | (simp_all; done) | (simp_all; omega))) (by first | (simp; done) | exact Nat.le_refl _) rfl (splice_all rfl) ?_)
                refine g_rowels (A := A) ((d1.set k (d1[k - 1])).map En.c) (by simp only [List.map_set]) ?_
                refine d_tail 16 rfl (by kernel_rfl) (ls' := #[true, true, true, true, true, true, true, true, true, true, true, true, true, true, true, true, true, false]) rfl rfl (G.quiet (q_index (i := (k - 1)) rfl rfl rfl (InRow.rdb (A := A) (els := ((d1.set k (d1[k - 1]))).map En.c) (by simp only [List.length_map, List.length_set]; omega) (map_cat (c := En.c) (fun _ => rfl) _)) (by first | omega | (simp; done) | (simp; omega))) rfl ?_)
                refine d_tail 17 rfl (by kernel_rfl) (ls' := #[true, true, true, true, true, true, true, true, true, true, true, true, true, true, true, true, true, true]) rfl rfl (g_store_el (A := A) (i := (k - 1)) (o := 0) (cs' := En.c ((d1[k]))) rfl rfl rfl rfl rfl (map_get (by simp only [List.length_set]; omega)) (by first | (simp; done) | exact Nat.le_refl _) rfl (splice_all rfl) ?_)
                refine g_rowels (A := A) (((d1.set k (d1[k - 1])).set (k - 1) (d1[k])).map En.c) (by simp only [List.map_set]) ?_
                refine d_end (by kernel_rfl) (.inl rfl) ?_
                refine g_blk_n ?_
                refine g_then ?_
                refine g_region ?_
                refine s_q (q_move rfl) rfl ?_
                refine s_q (q_subn (a := k) (b := 1) rfl rfl (by first | omega | (simp; omega) | (simp_all; omega)) (by first | omega | (simp; omega) | (simp_all; omega))) rfl ?_
                refine s_q (q_assign rfl) rfl ?_
                refine g_nil ?_
                exact g_again ((k - 1), ((d1.set k d1[k - 1]).set (k - 1) d1[k]), C1, (z :: B2)) (by (try dsimp only); exact ⟨(by omega), (by omega), (by rw [← hBB, List.append_assoc]; rfl), (by simp at hB1; omega), hst.2.2, (by simp [hl1])⟩) (by dsimp only; omega) (by repeat (first | exact trivial | refine ⟨rfl, ?_⟩)) wok_sub
              · refine d_tail 9 rfl (by kernel_rfl) (ls' := #[true, true, true, true, true, true, true, true, true, true, true, true, true, true, false, false, false, false]) rfl rfl (G.quiet (q_load_ew (i := (k - 1)) rfl (InRow.rdb (A := A) (els := (d1).map En.c) (by first | (simpa using hn) | (simp only [List.length_map]; omega) | (simp; omega)) (map_cat (c := En.c) (fun _ => rfl) _)) (map_get (by first | exact (by first | omega | (simp; done) | (simp; omega)) | omega | (simp_all; done) | (simp_all; omega))) rfl) rfl ?_)
                refine d_tail 14 rfl (by kernel_rfl) (ls' := #[true, true, true, true, true, true, true, true, true, true, true, true, true, true, true, false, false, false]) rfl rfl (G.quiet (q_index (i := k) rfl rfl rfl (InRow.rdb (A := A) (els := (d1).map En.c) (by first | (simpa using hn) | (simp only [List.length_map]; omega) | (simp; omega)) (map_cat (c := En.c) (fun _ => rfl) _)) (by first | omega | (simp; done) | (simp; omega))) rfl ?_)
                refine d_tail 15 rfl (by kernel_rfl) (ls' := #[true, true, true, true, true, true, true, true, true, true, true, true, true, true, true, true, false, false]) rfl rfl (g_store_el (A := A) (i := k) (o := 0) (cs' := En.c ((d1[k - 1]))) rfl rfl rfl rfl rfl (map_get (by first | exact (by first | omega | (simp; done) | (simp; omega)) | omega | (simp_all; done) | (simp_all; omega))) (by first | (simp; done) | exact Nat.le_refl _) rfl (splice_all rfl) ?_)
                refine g_rowels (A := A) ((d1.set k (d1[k - 1])).map En.c) (by simp only [List.map_set]) ?_
                refine d_tail 16 rfl (by kernel_rfl) (ls' := #[true, true, true, true, true, true, true, true, true, true, true, true, true, true, true, true, true, false]) rfl rfl (G.quiet (q_index (i := (k - 1)) rfl rfl rfl (InRow.rdb (A := A) (els := ((d1.set k (d1[k - 1]))).map En.c) (by simp only [List.length_map, List.length_set]; omega) (map_cat (c := En.c) (fun _ => rfl) _)) (by first | omega | (simp; done) | (simp; omega))) rfl ?_)
                refine d_tail 17 rfl (by kernel_rfl) (ls' := #[true, true, true, true, true, true, true, true, true, true, true, true, true, true, true, true, true, true]) rfl rfl (g_store_el (A := A) (i := (k - 1)) (o := 0) (cs' := En.c ((d1[k]))) rfl rfl rfl rfl rfl (map_get (by simp only [List.length_set]; omega)) (by first | (simp; done) | exact Nat.le_refl _) rfl (splice_all rfl) ?_)
                refine g_rowels (A := A) (((d1.set k (d1[k - 1])).set (k - 1) (d1[k])).map En.c) (by simp only [List.map_set]) ?_
                refine d_end (by kernel_rfl) (.inl rfl) ?_
                refine g_blk_n ?_
                refine g_then ?_
                refine g_region ?_
                refine s_q (q_move rfl) rfl ?_
                refine s_q (q_subn (a := k) (b := 1) rfl rfl (by first | omega | (simp; omega) | (simp_all; omega)) (by first | omega | (simp; omega) | (simp_all; omega))) rfl ?_
                refine s_q (q_assign rfl) rfl ?_
                refine g_nil ?_
                exact g_again ((k - 1), ((d1.set k d1[k - 1]).set (k - 1) d1[k]), C1, (z :: B2)) (by (try dsimp only); exact ⟨(by omega), (by omega), (by rw [← hBB, List.append_assoc]; rfl), (by simp at hB1; omega), hst.2.2, (by simp [hl1])⟩) (by dsimp only; omega) (by repeat (first | exact trivial | refine ⟨rfl, ?_⟩)) wok_sub
          · refine d_many [8, 13] (by kernel_rfl) (by simp) wok_sub ⟨d_pick rfl (ls' := #[true, true, true, true, true, true, true, true, true, false, true, true, true, false, false, false, false, false]) rfl (G.quiet (q_index (i := (k - 1)) rfl rfl rfl (InRow.rdb (A := A) (els := (d1).map En.c) (by first | (simpa using hn) | (simp only [List.length_map]; omega) | (simp; omega)) (map_cat (c := En.c) (fun _ => rfl) _)) (by first | omega | (simp; done) | (simp; omega))) rfl ?_), d_pick rfl (ls' := #[true, true, true, true, true, true, true, true, false, false, true, true, true, true, false, false, false, false]) rfl (G.quiet (q_load_ew (i := k) rfl (InRow.rdb (A := A) (els := (d1).map En.c) (by first | (simpa using hn) | (simp only [List.length_map]; omega) | (simp; omega)) (map_cat (c := En.c) (fun _ => rfl) _)) (map_get (by first | exact (by first | omega | (simp; done) | (simp; omega)) | omega | (simp_all; done) | (simp_all; omega))) rfl) rfl ?_), trivial⟩
            · refine d_many [9, 13] (by kernel_rfl) (by simp) wok_sub ⟨d_pick rfl (ls' := #[true, true, true, true, true, true, true, true, true, true, true, true, true, false, false, false, false, false]) rfl (G.quiet (q_load_ew (i := (k - 1)) rfl (InRow.rdb (A := A) (els := (d1).map En.c) (by first | (simpa using hn) | (simp only [List.length_map]; omega) | (simp; omega)) (map_cat (c := En.c) (fun _ => rfl) _)) (map_get (by first | exact (by first | omega | (simp; done) | (simp; omega)) | omega | (simp_all; done) | (simp_all; omega))) rfl) rfl ?_), d_pick rfl (ls' := #[true, true, true, true, true, true, true, true, true, false, true, true, true, true, false, false, false, false]) rfl (G.quiet (q_load_ew (i := k) rfl (InRow.rdb (A := A) (els := (d1).map En.c) (by first | (simpa using hn) | (simp only [List.length_map]; omega) | (simp; omega)) (map_cat (c := En.c) (fun _ => rfl) _)) (map_get (by first | exact (by first | omega | (simp; done) | (simp; omega)) | omega | (simp_all; done) | (simp_all; omega))) rfl) rfl ?_), trivial⟩
              · refine d_tail 13 rfl (by kernel_rfl) (ls' := #[true, true, true, true, true, true, true, true, true, true, true, true, true, true, false, false, false, false]) rfl rfl (G.quiet (q_load_ew (i := k) rfl (InRow.rdb (A := A) (els := (d1).map En.c) (by first | (simpa using hn) | (simp only [List.length_map]; omega) | (simp; omega)) (map_cat (c := En.c) (fun _ => rfl) _)) (map_get (by first | exact (by first | omega | (simp; done) | (simp; omega)) | omega | (simp_all; done) | (simp_all; omega))) rfl) rfl ?_)
                refine d_tail 14 rfl (by kernel_rfl) (ls' := #[true, true, true, true, true, true, true, true, true, true, true, true, true, true, true, false, false, false]) rfl rfl (G.quiet (q_index (i := k) rfl rfl rfl (InRow.rdb (A := A) (els := (d1).map En.c) (by first | (simpa using hn) | (simp only [List.length_map]; omega) | (simp; omega)) (map_cat (c := En.c) (fun _ => rfl) _)) (by first | omega | (simp; done) | (simp; omega))) rfl ?_)
                refine d_tail 15 rfl (by kernel_rfl) (ls' := #[true, true, true, true, true, true, true, true, true, true, true, true, true, true, true, true, false, false]) rfl rfl (g_store_el (A := A) (i := k) (o := 0) (cs' := En.c ((d1[k - 1]))) rfl rfl rfl rfl rfl (map_get (by first | exact (by first | omega | (simp; done) | (simp; omega)) | omega | (simp_all; done) | (simp_all; omega))) (by first | (simp; done) | exact Nat.le_refl _) rfl (splice_all rfl) ?_)
                refine g_rowels (A := A) ((d1.set k (d1[k - 1])).map En.c) (by simp only [List.map_set]) ?_
                refine d_tail 16 rfl (by kernel_rfl) (ls' := #[true, true, true, true, true, true, true, true, true, true, true, true, true, true, true, true, true, false]) rfl rfl (G.quiet (q_index (i := (k - 1)) rfl rfl rfl (InRow.rdb (A := A) (els := ((d1.set k (d1[k - 1]))).map En.c) (by simp only [List.length_map, List.length_set]; omega) (map_cat (c := En.c) (fun _ => rfl) _)) (by first | omega | (simp; done) | (simp; omega))) rfl ?_)
                refine d_tail 17 rfl (by kernel_rfl) (ls' := #[true, true, true, true, true, true, true, true, true, true, true, true, true, true, true, true, true, true]) rfl rfl (g_store_el (A := A) (i := (k - 1)) (o := 0) (cs' := En.c ((d1[k]))) rfl rfl rfl rfl rfl (map_get (by simp only [List.length_set]; omega)) (by first | (simp; done) | exact Nat.le_refl _) rfl (splice_all rfl) ?_)
                refine g_rowels (A := A) (((d1.set k (d1[k - 1])).set (k - 1) (d1[k])).map En.c) (by simp only [List.map_set]) ?_
                refine d_end (by kernel_rfl) (.inl rfl) ?_
                refine g_blk_n ?_
                refine g_then ?_
                refine g_region ?_
                refine s_q (q_move rfl) rfl ?_
                refine s_q (q_subn (a := k) (b := 1) rfl rfl (by first | omega | (simp; omega) | (simp_all; omega)) (by first | omega | (simp; omega) | (simp_all; omega))) rfl ?_
                refine s_q (q_assign rfl) rfl ?_
                refine g_nil ?_
                exact g_again ((k - 1), ((d1.set k d1[k - 1]).set (k - 1) d1[k]), C1, (z :: B2)) (by (try dsimp only); exact ⟨(by omega), (by omega), (by rw [← hBB, List.append_assoc]; rfl), (by simp at hB1; omega), hst.2.2, (by simp [hl1])⟩) (by dsimp only; omega) (by repeat (first | exact trivial | refine ⟨rfl, ?_⟩)) wok_sub
              · refine d_tail 9 rfl (by kernel_rfl) (ls' := #[true, true, true, true, true, true, true, true, true, true, true, true, true, true, false, false, false, false]) rfl rfl (G.quiet (q_load_ew (i := (k - 1)) rfl (InRow.rdb (A := A) (els := (d1).map En.c) (by first | (simpa using hn) | (simp only [List.length_map]; omega) | (simp; omega)) (map_cat (c := En.c) (fun _ => rfl) _)) (map_get (by first | exact (by first | omega | (simp; done) | (simp; omega)) | omega | (simp_all; done) | (simp_all; omega))) rfl) rfl ?_)
                refine d_tail 14 rfl (by kernel_rfl) (ls' := #[true, true, true, true, true, true, true, true, true, true, true, true, true, true, true, false, false, false]) rfl rfl (G.quiet (q_index (i := k) rfl rfl rfl (InRow.rdb (A := A) (els := (d1).map En.c) (by first | (simpa using hn) | (simp only [List.length_map]; omega) | (simp; omega)) (map_cat (c := En.c) (fun _ => rfl) _)) (by first | omega | (simp; done) | (simp; omega))) rfl ?_)
                refine d_tail 15 rfl (by kernel_rfl) (ls' := #[true, true, true, true, true, true, true, true, true, true, true, true, true, true, true, true, false, false]) rfl rfl (g_store_el (A := A) (i := k) (o := 0) (cs' := En.c ((d1[k - 1]))) rfl rfl rfl rfl rfl (map_get (by first | exact (by first | omega | (simp; done) | (simp; omega)) | omega | (simp_all; done) | (simp_all; omega))) (by first | (simp; done) | exact Nat.le_refl _) rfl (splice_all rfl) ?_)
                refine g_rowels (A := A) ((d1.set k (d1[k - 1])).map En.c) (by simp only [List.map_set]) ?_
                refine d_tail 16 rfl (by kernel_rfl) (ls' := #[true, true, true, true, true, true, true, true, true, true, true, true, true, true, true, true, true, false]) rfl rfl (G.quiet (q_index (i := (k - 1)) rfl rfl rfl (InRow.rdb (A := A) (els := ((d1.set k (d1[k - 1]))).map En.c) (by simp only [List.length_map, List.length_set]; omega) (map_cat (c := En.c) (fun _ => rfl) _)) (by first | omega | (simp; done) | (simp; omega))) rfl ?_)
                refine d_tail 17 rfl (by kernel_rfl) (ls' := #[true, true, true, true, true, true, true, true, true, true, true, true, true, true, true, true, true, true]) rfl rfl (g_store_el (A := A) (i := (k - 1)) (o := 0) (cs' := En.c ((d1[k]))) rfl rfl rfl rfl rfl (map_get (by simp only [List.length_set]; omega)) (by first | (simp; done) | exact Nat.le_refl _) rfl (splice_all rfl) ?_)
                refine g_rowels (A := A) (((d1.set k (d1[k - 1])).set (k - 1) (d1[k])).map En.c) (by simp only [List.map_set]) ?_
                refine d_end (by kernel_rfl) (.inl rfl) ?_
                refine g_blk_n ?_
                refine g_then ?_
                refine g_region ?_
                refine s_q (q_move rfl) rfl ?_
                refine s_q (q_subn (a := k) (b := 1) rfl rfl (by first | omega | (simp; omega) | (simp_all; omega)) (by first | omega | (simp; omega) | (simp_all; omega))) rfl ?_
                refine s_q (q_assign rfl) rfl ?_
                refine g_nil ?_
                exact g_again ((k - 1), ((d1.set k d1[k - 1]).set (k - 1) d1[k]), C1, (z :: B2)) (by (try dsimp only); exact ⟨(by omega), (by omega), (by rw [← hBB, List.append_assoc]; rfl), (by simp at hB1; omega), hst.2.2, (by simp [hl1])⟩) (by dsimp only; omega) (by repeat (first | exact trivial | refine ⟨rfl, ?_⟩)) wok_sub
            · refine d_tail 8 rfl (by kernel_rfl) (ls' := #[true, true, true, true, true, true, true, true, true, false, true, true, true, true, false, false, false, false]) rfl rfl (G.quiet (q_index (i := (k - 1)) rfl rfl rfl (InRow.rdb (A := A) (els := (d1).map En.c) (by first | (simpa using hn) | (simp only [List.length_map]; omega) | (simp; omega)) (map_cat (c := En.c) (fun _ => rfl) _)) (by first | omega | (simp; done) | (simp; omega))) rfl ?_)
              refine d_tail 9 rfl (by kernel_rfl) (ls' := #[true, true, true, true, true, true, true, true, true, true, true, true, true, true, false, false, false, false]) rfl rfl (G.quiet (q_load_ew (i := (k - 1)) rfl (InRow.rdb (A := A) (els := (d1).map En.c) (by first | (simpa using hn) | (simp only [List.length_map]; omega) | (simp; omega)) (map_cat (c := En.c) (fun _ => rfl) _)) (map_get (by first | exact (by first | omega | (simp; done) | (simp; omega)) | omega | (simp_all; done) | (simp_all; omega))) rfl) rfl ?_)
              refine d_tail 14 rfl (by kernel_rfl) (ls' := #[true, true, true, true, true, true, true, true, true, true, true, true, true, true, true, false, false, false]) rfl rfl (G.quiet (q_index (i := k) rfl rfl rfl (InRow.rdb (A := A) (els := (d1).map En.c) (by first | (simpa using hn) | (simp only [List.length_map]; omega) | (simp; omega)) (map_cat (c := En.c) (fun _ => rfl) _)) (by first | omega | (simp; done) | (simp; omega))) rfl ?_)
              refine d_tail 15 rfl (by kernel_rfl) (ls' := #[true, true, true, true, true, true, true, true, true, true, true, true, true, true, true, true, false, false]) rfl rfl (g_store_el (A := A) (i := k) (o := 0) (cs' := En.c ((d1[k - 1]))) rfl rfl rfl rfl rfl (map_get (by first | exact (by first | omega | (simp; done) | (simp; omega)) | omega | (simp_all; done) | (simp_all; omega))) (by first | (simp; done) | exact Nat.le_refl _) rfl (splice_all rfl) ?_)
              refine g_rowels (A := A) ((d1.set k (d1[k - 1])).map En.c) (by simp only [List.map_set]) ?_
              refine d_tail 16 rfl (by kernel_rfl) (ls' := #[true, true, true, true, true, true, true, true, true, true, true, true, true, true, true, true, true, false]) rfl rfl (G.quiet (q_index (i := (k - 1)) rfl rfl rfl (InRow.rdb (A := A) (els := ((d1.set k (d1[k - 1]))).map En.c) (by simp only [List.length_map, List.length_set]; omega) (map_cat (c := En.c) (fun _ => rfl) _)) (by first | omega | (simp; done) | (simp; omega))) rfl ?_)
              refine d_tail 17 rfl (by kernel_rfl) (ls' := #[true, true, true, true, true, true, true, true, true, true, true, true, true, true, true, true, true, true]) rfl rfl (g_store_el (A := A) (i := (k - 1)) (o := 0) (cs' := En.c ((d1[k]))) rfl rfl rfl rfl rfl (map_get (by simp only [List.length_set]; omega)) (by first | (simp; done) | exact Nat.le_refl _) rfl (splice_all rfl) ?_)
              refine g_rowels (A := A) (((d1.set k (d1[k - 1])).set (k - 1) (d1[k])).map En.c) (by simp only [List.map_set]) ?_
              refine d_end (by kernel_rfl) (.inl rfl) ?_
              refine g_blk_n ?_
              refine g_then ?_
              refine g_region ?_
              refine s_q (q_move rfl) rfl ?_
              refine s_q (q_subn (a := k) (b := 1) rfl rfl (by first | omega | (simp; omega) | (simp_all; omega)) (by first | omega | (simp; omega) | (simp_all; omega))) rfl ?_
              refine s_q (q_assign rfl) rfl ?_
              refine g_nil ?_
              exact g_again ((k - 1), ((d1.set k d1[k - 1]).set (k - 1) d1[k]), C1, (z :: B2)) (by (try dsimp only); exact ⟨(by omega), (by omega), (by rw [← hBB, List.append_assoc]; rfl), (by simp at hB1; omega), hst.2.2, (by simp [hl1])⟩) (by dsimp only; omega) (by repeat (first | exact trivial | refine ⟨rfl, ?_⟩)) wok_sub
        · have hk1 : k = i := by have h9 := of_decide_eq_false h8; omega
          have hBn : B1 = [] := List.eq_nil_of_length_eq_zero (by omega)
          subst hBn
          rw [List.nil_append] at hBB
          subst hBB
          subst hd1
          refine g_exit ?_
          refine g_then_x (g_then_x (g_blk_hit ?_))
          refine g_then ?_
          refine g_ret ?_
          refine g_then_ret ?_
          exact fin0 rfl (fun w' hw' => ⟨(L.take (i - a) ++ u :: L.drop (i - a)), (by first | exact ⟨hone.1, hone.2, by simp; omega⟩ | (dsimp only; exact ⟨hone.1, hone.2, by simp; omega⟩)), rfl, by have h9 := wok_sub (L' := [Res.row A n cap 50 2 ((((P ++ L.take (i - a)) ++ ([] ++ (u :: L.drop (i - a) ++ S)))).map En.c)]) w' hw'; show WOK _ _ [Res.row A n cap 50 2 (((P ++ (((L.take (i - a) ++ u :: L.drop (i - a))) ++ S))).map En.c)] _; simp only [List.append_assoc, List.cons_append, List.nil_append] at h9 ⊢; exact h9⟩) _ (.inl rfl)
    · have hR2 : 1 < R.length := by have h9 := of_decide_eq_false h5; omega
      refine g_skip ?_
      refine g_then ?_
      refine g_seq ?_
      refine g_region ?_
      refine s_q (q_move rfl) rfl ?_
      refine s_q (q_move rfl) rfl ?_
      refine s_q (q_addn (a := a) (b := b) rfl rfl (by first | omega | (simp; omega) | (simp_all; omega))) rfl ?_
      refine s_q (q_convz (z := (((a + b) : Nat) : Int)) rfl (wu64 (by omega) (by omega))) rfl ?_
      refine s_q (q_shr1 (a := a + b) rfl rfl) rfl ?_
      refine s_q (q_convz (z := ((((a + b) / 2) : Nat) : Int)) rfl (wi64 (by omega) (by omega))) rfl ?_
      refine s_q (q_assign rfl) rfl ?_
      obtain ⟨mid, hhmid⟩ : ∃ q : Nat, q = (a + b) / 2 := ⟨_, rfl⟩
      refine g_val 18 (v' := .int .i64 ((mid : Nat) : Int)) rfl (by rw [hhmid]) ?_
      refine g_nil ?_
      refine g_then ?_
      refine g_seq ?_
      refine g_region ?_
      refine s_q (q_move rfl) rfl ?_
      refine s_q (q_move rfl) rfl ?_
      refine s_q (q_addn (a := mid) (b := m) rfl rfl (by first | omega | (simp; omega) | (simp_all; omega))) rfl ?_
      refine s_q (q_assign rfl) rfl ?_
      refine g_nil ?_
      refine g_then ?_
      refine g_seq ?_
      refine g_region ?_
      refine s_q (q_assign rfl) rfl ?_
      refine s_q (q_assign rfl) rfl ?_
      refine g_nil ?_
      refine g_then ?_
      refine g_seq ?_
      refine g_seq ?_
      refine g_region ?_
      refine s_q (q_move rfl) rfl ?_
      refine s_q (q_move rfl) rfl ?_
      refine s_q (q_gtr rfl rfl) rfl ?_
      refine g_nil ?_
      refine g_then ?_
      refine g_cond rfl (fun h9 => ?_) (fun h9 => ?_)
      · have hmm : mid < m := by have h9 := of_decide_eq_true h9; omega
        refine g_seq ?_
        refine g_region ?_
        refine s_q (q_move rfl) rfl ?_
        refine s_q (q_move rfl) rfl ?_
        refine s_q (q_subn (a := (mid + m)) (b := b) rfl rfl (by first | omega | (simp; omega) | (simp_all; omega)) (by first | omega | (simp; omega) | (simp_all; omega))) rfl ?_
        refine s_q (q_assign rfl) rfl ?_
        refine g_nil ?_
        refine g_then ?_
        refine g_region ?_
        refine s_q (q_move rfl) rfl ?_
        refine s_q (q_assign rfl) rfl ?_
        refine g_nil ?_
        refine g_then ?_
        refine g_seq ?_
        refine g_region ?_
        refine s_q (q_move rfl) rfl ?_
        refine s_q (q_subn (a := (mid + m)) (b := 1) rfl rfl (by first | omega | (simp; omega) | (simp_all; omega)) (by first | omega | (simp; omega) | (simp_all; omega))) rfl ?_
        refine s_q (q_assign rfl) rfl ?_
        refine g_nil ?_
        refine g_then ?_
        refine g_seq ?_
        refine g_block ?_
        refine g_loopk [0, 1, 2, 3, 4, 18, 19, 22] (fun (x : Nat × Nat) => [(20, .int .i64 ((x.1 : Nat) : Int)), (21, .int .i64 ((x.2 : Nat) : Int))]) (fun (x : Nat × Nat) => [Res.row A n cap 50 2 ((d).map En.c)]) (fun (x : Nat × Nat) => a ≤ x.1 ∧ x.1 ≤ x.2 ∧ (x.2 ≤ mid ∧ x.2 ≤ m) ∧ mid + m ≤ x.1 + b ∧ x.1 ≤ m ∧ (∀ y ∈ L.take (x.1 - a), ∀ z ∈ R.drop (mid - x.1), y.e ≤ z.e) ∧ (∀ y ∈ L.drop (x.2 - a), ∀ z ∈ R.take (mid - x.2), z.e < y.e)) (fun (x : Nat × Nat) => x.2 - x.1) (((mid + m) - b), mid) (by (try dsimp only); exact ⟨(by omega), (by omega), (by omega), (by omega), (by omega), (fun y hy z hz => by rw [List.drop_eq_nil_of_le (by omega)] at hz; cases hz), (fun y hy z hz => by rw [Nat.sub_self, List.take_zero] at hz; cases hz)⟩) rfl (by repeat (first | exact trivial | refine ⟨rfl, ?_⟩)) wok_sub ?_
        rintro ⟨st, r⟩ ⟨has, hsr, hrm, hnb, hst0, hlo, hhi⟩
        replace has : a ≤ st := has
        replace hsr : st ≤ r := hsr
        replace hrm : r ≤ mid ∧ r ≤ m := hrm
        replace hnb : mid + m ≤ st + b := hnb
        replace hst0 : st ≤ m := hst0
        replace hlo : ∀ y ∈ L.take (st - a), ∀ z ∈ R.drop (mid - st), y.e ≤ z.e := hlo
        replace hhi : ∀ y ∈ L.drop (r - a), ∀ z ∈ R.take (mid - r), z.e < y.e := hhi
        refine g_setL (L' := [Res.row A n cap 50 2 ((d).map En.c)]) rfl ?_
        refine g_val 20 (v' := .int .i64 ((st : Nat) : Int)) rfl rfl ?_
        refine g_val 21 (v' := .int .i64 ((r : Nat) : Int)) rfl rfl ?_
        refine g_seq ?_
        refine g_seq ?_
        refine g_region ?_
        refine s_q (q_move rfl) rfl ?_
        refine s_q (q_move rfl) rfl ?_
        refine s_q (q_lss rfl rfl) rfl ?_
        refine g_nil ?_
        refine g_then ?_
        refine g_cond rfl (fun h10 => ?_) (fun h10 => ?_)
        · have hsr1 : st < r := by have h9 := of_decide_eq_true h10; omega
          refine g_skip ?_
          refine g_then ?_
          refine g_block ?_
          refine g_seq ?_
          refine g_region ?_
          refine s_q (q_move rfl) rfl ?_
          refine s_q (q_move rfl) rfl ?_
          refine s_q (q_addn (a := st) (b := r) rfl rfl (by first | omega | (simp; omega) | (simp_all; omega))) rfl ?_
          refine s_q (q_convz (z := (((st + r) : Nat) : Int)) rfl (wu64 (by omega) (by omega))) rfl ?_
          refine s_q (q_shr1 (a := st + r) rfl rfl) rfl ?_
          refine s_q (q_convz (z := ((((st + r) / 2) : Nat) : Int)) rfl (wi64 (by omega) (by omega))) rfl ?_
          refine s_q (q_assign rfl) rfl ?_
          obtain ⟨c, hhc⟩ : ∃ q : Nat, q = (st + r) / 2 := ⟨_, rfl⟩
          refine g_val 23 (v' := .int .i64 ((c : Nat) : Int)) rfl (by rw [hhc]) ?_
          have ic : c < d.length := by omega
          have ip : mid + m - 1 - c < d.length := by omega
          have gc : d[c] = L[c - a] := getL hd ha (by omega) (by omega) ic
          have gp : d[mid + m - 1 - c] = R[mid - (c + 1)] := by have h9 := getR hd ha hm (c := mid + m - 1 - c) (by omega) (by omega) ip; rw [h9]; congr 1; omega
          refine g_nil ?_
          refine g_then ?_
          refine g_seq ?_
          refine d_region [] mixed rfl rfl ?_
          refine d_q 0 rfl (by kernel_rfl) (q_move rfl) wok_sub rfl (ls' := #[true, false, false, false, false, false, false, false, false, false, false, false, false, false]) rfl ?_
          refine d_q 1 rfl (by kernel_rfl) (q_move rfl) wok_sub rfl (ls' := #[true, true, false, false, false, false, false, false, false, false, false, false, false, false]) rfl ?_
          refine d_q 2 rfl (by kernel_rfl) (q_move rfl) wok_sub rfl (ls' := #[true, true, true, false, false, false, false, false, false, false, false, false, false, false]) rfl ?_
          refine d_q 3 rfl (by kernel_rfl) (q_move rfl) wok_sub rfl (ls' := #[true, true, true, true, false, false, false, false, false, false, false, false, false, false]) rfl ?_
          refine d_q 4 rfl (by kernel_rfl) (q_subn (a := ((mid + m) - 1)) (b := c) rfl rfl (by first | omega | (simp; omega) | (simp_all; omega)) (by first | omega | (simp; omega) | (simp_all; omega))) wok_sub rfl (ls' := #[true, true, true, true, true, false, false, false, false, false, false, false, false, false]) rfl ?_
          refine d_q 5 rfl (by kernel_rfl) (q_index (i := (((mid + m) - 1) - c)) rfl rfl rfl (InRow.rdb (A := A) (els := (d).map En.c) (by first | (simpa using hn) | (simp only [List.length_map]; omega) | (simp; omega)) (map_cat (c := En.c) (fun _ => rfl) _)) (by first | omega | (simp; done) | (simp; omega))) wok_sub rfl (ls' := #[true, true, true, true, true, true, false, false, false, false, false, false, false, false]) rfl ?_
          refine d_q 6 rfl (by kernel_rfl) (q_load_ew (i := (((mid + m) - 1) - c)) rfl (InRow.rdb (A := A) (els := (d).map En.c) (by first | (simpa using hn) | (simp only [List.length_map]; omega) | (simp; omega)) (map_cat (c := En.c) (fun _ => rfl) _)) (map_get (by first | exact (by first | omega | (simp; done) | (simp; omega)) | omega | (simp_all; done) | (simp_all; omega))) rfl) wok_sub rfl (ls' := #[true, true, true, true, true, true, true, false, false, false, false, false, false, false]) rfl ?_
          refine d_q 7 rfl (by kernel_rfl) (q_move rfl) wok_sub rfl (ls' := #[true, true, true, true, true, true, true, true, false, false, false, false, false, false]) rfl ?_
          refine d_q 8 rfl (by kernel_rfl) (q_move rfl) wok_sub rfl (ls' := #[true, true, true, true, true, true, true, true, true, false, false, false, false, false]) rfl ?_
          refine d_q 9 rfl (by kernel_rfl) (q_index (i := c) rfl rfl rfl (InRow.rdb (A := A) (els := (d).map En.c) (by first | (simpa using hn) | (simp only [List.length_map]; omega) | (simp; omega)) (map_cat (c := En.c) (fun _ => rfl) _)) (by first | omega | (simp; done) | (simp; omega))) wok_sub rfl (ls' := #[true, true, true, true, true, true, true, true, true, true, false, false, false, false]) rfl ?_
          refine d_q 10 rfl (by kernel_rfl) (q_load_ew (i := c) rfl (InRow.rdb (A := A) (els := (d).map En.c) (by first | (simpa using hn) | (simp only [List.length_map]; omega) | (simp; omega)) (map_cat (c := En.c) (fun _ => rfl) _)) (map_get (by first | exact (by first | omega | (simp; done) | (simp; omega)) | omega | (simp_all; done) | (simp_all; omega))) rfl) wok_sub rfl (ls' := #[true, true, true, true, true, true, true, true, true, true, true, false, false, false]) rfl ?_
          refine d_op 11 rfl (by kernel_rfl) (ls' := #[true, true, true, true, true, true, true, true, true, true, true, true, false, false]) rfl wok_sub (g_purev rfl rfl (fun w1 hw1 => cmp_any _ _ w1) rfl ?_)
          refine d_q 12 rfl (by kernel_rfl) (q_lss rfl rfl) wok_sub rfl (ls' := #[true, true, true, true, true, true, true, true, true, true, true, true, true, false]) rfl ?_
          refine d_q 13 rfl (by kernel_rfl) (q_not rfl) wok_sub rfl (ls' := #[true, true, true, true, true, true, true, true, true, true, true, true, true, true]) rfl ?_
          refine d_end (by kernel_rfl) (.inr wok_sub) ?_
          refine g_then ?_
          refine g_cond rfl (fun h11 => ?_) (fun h11 => ?_)
          · have hlt : ¬ (R[mid - (c + 1)]).e < (L[c - a]).e := by have h9 := h11; simp only [Bool.not_eq_true'] at h9; have h8 := of_decide_eq_false h9; rw [cmp_lt, gp, gc] at h8; exact h8
            refine g_region ?_
            refine s_q (q_move rfl) rfl ?_
            refine s_q (q_inc rfl rfl (by omega)) rfl ?_
            refine s_q (q_assign rfl) rfl ?_
            refine g_nil ?_
            refine g_blk_n ?_
            exact g_again ((c + 1), r) (by (try dsimp only); exact ⟨(by omega), (by omega), hrm, (by omega), (by omega), (fun y hy z hz => by have h8 := take_le sL (k := c - a) (by omega) (Int.le_refl _) y (by rw [show c - a + 1 = c + 1 - a from by omega]; exact hy); have h9 := drop_le sR (k := mid - (c + 1)) (by omega) (Int.le_refl _) z hz; omega), hhi⟩) (by dsimp only; omega) (by repeat (first | exact trivial | refine ⟨rfl, ?_⟩)) wok_sub
          · have hlt : (R[mid - (c + 1)]).e < (L[c - a]).e := by have h9 := h11; simp only [Bool.not_eq_false'] at h9; have h8 := of_decide_eq_true h9; rw [cmp_lt, gp, gc] at h8; exact h8
            refine g_region ?_
            refine s_q (q_move rfl) rfl ?_
            refine s_q (q_assign rfl) rfl ?_
            refine g_nil ?_
            refine g_blk_n ?_
            exact g_again (st, c) (by (try dsimp only); exact ⟨has, (by omega), (by omega), hnb, hst0, hlo, (fun y hy z hz => by have h8 := drop_le sL (k := c - a) (by omega) (Int.le_refl _) y hy; have h9 := take_le sR (k := mid - (c + 1)) (by omega) (Int.le_refl _) z (by rw [show mid - (c + 1) + 1 = mid - c from by omega]; exact hz); omega)⟩) (by dsimp only; omega) (by repeat (first | exact trivial | refine ⟨rfl, ?_⟩)) wok_sub
        · have hsr1 : st = r := by have h9 := of_decide_eq_false h10; omega
          subst hsr1
          have hlL : (L.take (st - a)).length = st - a := by simp; omega
          have hlR : (R.take (mid - st)).length = mid - st := by simp; omega
          have hlL2 : (L.drop (st - a)).length = m - st := by simp; omega
          have hlR2 : (R.drop (mid - st)).length = b - (mid + m - st) := by simp; omega
          refine g_exit ?_
          refine g_then_x (g_then_x (g_blk_hit ?_))
          refine g_then ?_
          refine g_seq ?_
          refine g_region ?_
          refine s_q (q_move rfl) rfl ?_
          refine s_q (q_move rfl) rfl ?_
          refine s_q (q_subn (a := (mid + m)) (b := st) rfl rfl (by first | omega | (simp; omega) | (simp_all; omega)) (by first | omega | (simp; omega) | (simp_all; omega))) rfl ?_
          refine s_q (q_assign rfl) rfl ?_
          refine g_nil ?_
          refine g_then ?_
          refine g_seq ?_
          refine g_seq ?_
          refine g_region ?_
          refine s_q (q_move rfl) rfl ?_
          refine s_q (q_move rfl) rfl ?_
          refine s_q (q_lss rfl rfl) rfl ?_
          refine s_q (q_move rfl) rfl ?_
          refine g_split 181 rfl (fun h12 => ?_) (fun h12 => ?_)
          · have hsm : st < m := by have h9 := of_decide_eq_true h12; omega
            refine s_qg (q_move rfl) rfl rfl rfl ?_
            refine s_qg (q_move rfl) rfl rfl rfl ?_
            refine s_qg (q_lss rfl rfl) rfl rfl rfl ?_
            refine s_q (q_pick_t rfl rfl) rfl ?_
            refine g_nil ?_
            refine g_then ?_
            refine g_cond rfl (fun h13 => ?_) (fun h13 => ?_)
            · have hms : st < mid := by have h9 := of_decide_eq_true h13; omega
              refine g_region ?_
              refine s_q (q_move rfl) rfl ?_
              refine s_q (q_move rfl) rfl ?_
              refine s_q (q_move rfl) rfl ?_
              refine s_q (q_move rfl) rfl ?_
              refine s_q (q_move rfl) rfl ?_
              refine g_op (g_ownS [Res.row A n cap 50 2 ((d).map En.c)] rfl (fun w1 hw1 ho1 => by have h7 := rotate_any A n cap d (P ++ (L.take (st - a))) (L.drop (st - a)) (R.take (mid - st)) ((R.drop (mid - st)) ++ S) (st) (m) (((mid + m) - st)) w1 ho1 (by omega) hn6 (by rw [hd]; simp only [List.append_assoc]; rw [← List.append_assoc (L.take (st - a)), List.take_append_drop, ← List.append_assoc (R.take (mid - st)), List.take_append_drop]) (by first | omega | (simp; omega)) (by first | omega | (simp; omega)) (by first | omega | (simp; omega)) (by first | omega | (simp; omega)) (by first | omega | (simp; omega)); exact h7) rfl ?_)
              rintro ⟨⟩ _
              refine ⟨_, _, inferInstance, inferInstance, ?_⟩
              refine g_nil ?_
              refine g_then ?_
              refine g_seq ?_
              refine g_seq ?_
              refine g_region ?_
              refine g_rowels (A := A) ((P ++ ((L.take (st - a)) ++ ((R.take (mid - st)) ++ ((L.drop (st - a)) ++ ((R.drop (mid - st)) ++ S))))).map En.c) (by simp only [List.append_assoc]) ?_
              refine s_q (q_move rfl) rfl ?_
              refine s_q (q_move rfl) rfl ?_
              refine s_q (q_lss rfl rfl) rfl ?_
              refine s_q (q_move rfl) rfl ?_
              refine g_split 195 rfl (fun h14 => ?_) (fun h14 => ?_)
              · have has1 : a < st := by have h9 := of_decide_eq_true h14; omega
                refine s_qg (q_move rfl) rfl rfl rfl ?_
                refine s_qg (q_move rfl) rfl rfl rfl ?_
                refine s_qg (q_lss rfl rfl) rfl rfl rfl ?_
                refine s_q (q_pick_t rfl rfl) rfl ?_
                refine g_nil ?_
                refine g_then ?_
                refine g_cond rfl (fun h15 => ?_) (fun h15 => ?_)
                · have hms1 : st < mid := by have h9 := of_decide_eq_true h15; omega
                  refine g_region ?_
                  refine s_q (q_move rfl) rfl ?_
                  refine s_q (q_move rfl) rfl ?_
                  refine s_q (q_move rfl) rfl ?_
                  refine s_q (q_move rfl) rfl ?_
                  refine s_q (q_move rfl) rfl ?_
                  refine g_op (g_ownS [Res.row A n cap 50 2 (((P ++ ((L.take (st - a)) ++ ((R.take (mid - st)) ++ ((L.drop (st - a)) ++ ((R.drop (mid - st)) ++ S)))))).map En.c)] rfl (fun w1 hw1 ho1 => by have h7 := IH A n cap (P ++ ((L.take (st - a)) ++ ((R.take (mid - st)) ++ ((L.drop (st - a)) ++ ((R.drop (mid - st)) ++ S))))) P (L.take (st - a)) (R.take (mid - st)) ((L.drop (st - a)) ++ ((R.drop (mid - st)) ++ S)) (a) (st) (mid) w1 ho1 (by simp only [List.length_append, hlL, hlR, hlL2, hlR2]; omega) hn6 rfl (by first | omega | (simp only [List.length_append]; omega) | (simp; omega)) (by first | omega | (simp only [List.length_append]; omega) | (simp; omega)) (by first | omega | (simp only [List.length_append]; omega) | (simp; omega)) (by first | omega | (simp only [List.length_append]; omega) | (simp; omega)) (by first | omega | (simp only [List.length_append]; omega) | (simp; omega)) (sL.take _) (sR.take _) (by omega); exact h7) rfl ?_)
                  rintro M205 ⟨sm205, em205, lm205⟩
                  refine ⟨_, _, inferInstance, inferInstance, ?_⟩
                  have sma := sm205
                  have ema := em205
                  have lma : M205.length = mid - a := by rw [lm205, hlL, hlR]; omega
                  refine g_nil ?_
                  refine g_then ?_
                  refine g_seq ?_
                  refine g_region ?_
                  refine g_rowels (A := A) ((P ++ (M205 ++ ((L.drop (st - a)) ++ ((R.drop (mid - st)) ++ S)))).map En.c) (by first | rfl | simp only [List.append_assoc]) ?_
                  refine s_q (q_move rfl) rfl ?_
                  refine s_q (q_move rfl) rfl ?_
                  refine s_q (q_lss rfl rfl) rfl ?_
                  refine s_q (q_move rfl) rfl ?_
                  refine g_split 209 rfl (fun h16 => ?_) (fun h16 => ?_)
                  · have hme : st < m := by have h9 := of_decide_eq_true h16; omega
                    refine s_qg (q_move rfl) rfl rfl rfl ?_
                    refine s_qg (q_move rfl) rfl rfl rfl ?_
                    refine s_qg (q_lss rfl rfl) rfl rfl rfl ?_
                    refine s_q (q_pick_t rfl rfl) rfl ?_
                    refine g_nil ?_
                    refine g_then ?_
                    refine g_cond rfl (fun h17 => ?_) (fun h17 => ?_)
                    · have heb : mid + m - st < b := by have h9 := of_decide_eq_true h17; omega
                      refine g_region ?_
                      refine s_q (q_move rfl) rfl ?_
                      refine s_q (q_move rfl) rfl ?_
                      refine s_q (q_move rfl) rfl ?_
                      refine s_q (q_move rfl) rfl ?_
                      refine s_q (q_move rfl) rfl ?_
                      refine g_op (g_ownS [Res.row A n cap 50 2 (((P ++ (M205 ++ ((L.drop (st - a)) ++ ((R.drop (mid - st)) ++ S))))).map En.c)] rfl (fun w1 hw1 ho1 => by have h7 := IH A n cap (P ++ (M205 ++ ((L.drop (st - a)) ++ ((R.drop (mid - st)) ++ S)))) (P ++ M205) (L.drop (st - a)) (R.drop (mid - st)) S (mid) (((mid + m) - st)) (b) w1 ho1 (by have h9 := lma; simp only [List.length_append, hlL, hlR, hlL2, hlR2] at h9 ⊢; omega) hn6 (by simp only [List.append_assoc]) (by first | omega | (simp only [List.length_append]; omega) | (simp; omega)) (by first | omega | (simp only [List.length_append]; omega) | (simp; omega)) (by first | omega | (simp only [List.length_append]; omega) | (simp; omega)) (by first | omega | (simp only [List.length_append]; omega) | (simp; omega)) (by first | omega | (simp only [List.length_append]; omega) | (simp; omega)) (sL.drop _) (sR.drop _) (by omega); exact h7) rfl ?_)
                      rintro M219 ⟨sm219, em219, lm219⟩
                      refine ⟨_, _, inferInstance, inferInstance, ?_⟩
                      have smb := sm219
                      have emb := em219
                      have lmb : M219.length = b - mid := by rw [lm219, hlL2, hlR2]; omega
                      refine g_nil ?_
                      exact fin0 rfl (fun w' hw' => ⟨(M205 ++ M219), (by first | exact (by have h9 := two_halves sL sR (st - a) (mid - st) hlo hhi sma smb ema emb; exact ⟨h9.1, h9.2, by rw [List.length_append, lma, lmb]; omega⟩) | (dsimp only; exact (by have h9 := two_halves sL sR (st - a) (mid - st) hlo hhi sma smb ema emb; exact ⟨h9.1, h9.2, by rw [List.length_append, lma, lmb]; omega⟩))), rfl, by have h9 := wok_sub (L' := [Res.row A n cap 50 2 ((((P ++ M205) ++ (M219 ++ S))).map En.c)]) w' hw'; show WOK _ _ [Res.row A n cap 50 2 (((P ++ (((M205 ++ M219)) ++ S))).map En.c)] _; simp only [List.append_assoc] at h9 ⊢; exact h9⟩) _ (.inr rfl)
                    · have heb : b ≤ mid + m - st := by have h9 := of_decide_eq_false h17; omega
                      have smb : Srt ((L.drop (st - a)) ++ (R.drop (mid - st))) := by rw [show R.drop (mid - st) = [] from List.drop_eq_nil_of_le (by omega), List.append_nil]; exact sL.drop _
                      have emb : Same ((L.drop (st - a)) ++ (R.drop (mid - st))) ((L.drop (st - a)) ++ (R.drop (mid - st))) := Same.rfl'
                      have lmb : ((L.drop (st - a)) ++ (R.drop (mid - st))).length = b - mid := by rw [List.length_append, hlL2, hlR2]; omega
                      refine g_skip ?_
                      exact fin0 rfl (fun w' hw' => ⟨(M205 ++ ((L.drop (st - a)) ++ (R.drop (mid - st)))), (by first | exact (by have h9 := two_halves sL sR (st - a) (mid - st) hlo hhi sma smb ema emb; exact ⟨h9.1, h9.2, by rw [List.length_append, lma, lmb]; omega⟩) | (dsimp only; exact (by have h9 := two_halves sL sR (st - a) (mid - st) hlo hhi sma smb ema emb; exact ⟨h9.1, h9.2, by rw [List.length_append, lma, lmb]; omega⟩))), rfl, by have h9 := wok_sub (L' := [Res.row A n cap 50 2 (((P ++ (M205 ++ ((L.drop (st - a)) ++ ((R.drop (mid - st)) ++ S))))).map En.c)]) w' hw'; show WOK _ _ [Res.row A n cap 50 2 (((P ++ (((M205 ++ ((L.drop (st - a)) ++ (R.drop (mid - st))))) ++ S))).map En.c)] _; simp only [List.append_assoc] at h9 ⊢; exact h9⟩) _ (.inr rfl)
                  · have smb : Srt ((L.drop (st - a)) ++ (R.drop (mid - st))) := by rw [show L.drop (st - a) = [] from List.drop_eq_nil_of_le (by have h9 := of_decide_eq_false h16; omega), List.nil_append]; exact sR.drop _
                    have emb : Same ((L.drop (st - a)) ++ (R.drop (mid - st))) ((L.drop (st - a)) ++ (R.drop (mid - st))) := Same.rfl'
                    have lmb : ((L.drop (st - a)) ++ (R.drop (mid - st))).length = b - mid := by rw [List.length_append, hlL2, hlR2]; omega
                    refine g_gf rfl rfl rfl rfl ?_
                    refine g_gf rfl rfl rfl rfl ?_
                    refine g_gf rfl rfl rfl rfl ?_
                    refine s_q (q_pick_f rfl rfl) rfl ?_
                    refine g_nil ?_
                    refine g_then ?_
                    refine g_false rfl ?_
                    refine g_skip ?_
                    exact fin0 rfl (fun w' hw' => ⟨(M205 ++ ((L.drop (st - a)) ++ (R.drop (mid - st)))), (by first | exact (by have h9 := two_halves sL sR (st - a) (mid - st) hlo hhi sma smb ema emb; exact ⟨h9.1, h9.2, by rw [List.length_append, lma, lmb]; omega⟩) | (dsimp only; exact (by have h9 := two_halves sL sR (st - a) (mid - st) hlo hhi sma smb ema emb; exact ⟨h9.1, h9.2, by rw [List.length_append, lma, lmb]; omega⟩))), rfl, by have h9 := wok_sub (L' := [Res.row A n cap 50 2 (((P ++ (M205 ++ ((L.drop (st - a)) ++ ((R.drop (mid - st)) ++ S))))).map En.c)]) w' hw'; show WOK _ _ [Res.row A n cap 50 2 (((P ++ (((M205 ++ ((L.drop (st - a)) ++ (R.drop (mid - st))))) ++ S))).map En.c)] _; simp only [List.append_assoc] at h9 ⊢; exact h9⟩) _ (.inr rfl)
                · have hms1 : mid ≤ st := by have h9 := of_decide_eq_false h15; omega
                  have sma : Srt ((L.take (st - a)) ++ (R.take (mid - st))) := by rw [show mid - st = 0 from by omega, List.take_zero, List.append_nil]; exact sL.take _
                  have ema : Same ((L.take (st - a)) ++ (R.take (mid - st))) ((L.take (st - a)) ++ (R.take (mid - st))) := Same.rfl'
                  have lma : ((L.take (st - a)) ++ (R.take (mid - st))).length = mid - a := by rw [List.length_append, hlL, hlR]; omega
                  refine g_skip ?_
                  refine g_then ?_
                  refine g_seq ?_
                  refine g_region ?_
                  refine g_rowels (A := A) ((P ++ (((L.take (st - a)) ++ (R.take (mid - st))) ++ ((L.drop (st - a)) ++ ((R.drop (mid - st)) ++ S)))).map En.c) (by first | rfl | simp only [List.append_assoc]) ?_
                  refine s_q (q_move rfl) rfl ?_
                  refine s_q (q_move rfl) rfl ?_
                  refine s_q (q_lss rfl rfl) rfl ?_
                  refine s_q (q_move rfl) rfl ?_
                  refine g_split 209 rfl (fun h18 => ?_) (fun h18 => ?_)
                  · have hme : st < m := by have h9 := of_decide_eq_true h18; omega
                    refine s_qg (q_move rfl) rfl rfl rfl ?_
                    refine s_qg (q_move rfl) rfl rfl rfl ?_
                    refine s_qg (q_lss rfl rfl) rfl rfl rfl ?_
                    refine s_q (q_pick_t rfl rfl) rfl ?_
                    refine g_nil ?_
                    refine g_then ?_
                    refine g_cond rfl (fun h19 => ?_) (fun h19 => ?_)
                    · have heb : mid + m - st < b := by have h9 := of_decide_eq_true h19; omega
                      refine g_region ?_
                      refine s_q (q_move rfl) rfl ?_
                      refine s_q (q_move rfl) rfl ?_
                      refine s_q (q_move rfl) rfl ?_
                      refine s_q (q_move rfl) rfl ?_
                      refine s_q (q_move rfl) rfl ?_
                      refine g_op (g_ownS [Res.row A n cap 50 2 (((P ++ (((L.take (st - a)) ++ (R.take (mid - st))) ++ ((L.drop (st - a)) ++ ((R.drop (mid - st)) ++ S))))).map En.c)] rfl (fun w1 hw1 ho1 => by have h7 := IH A n cap (P ++ (((L.take (st - a)) ++ (R.take (mid - st))) ++ ((L.drop (st - a)) ++ ((R.drop (mid - st)) ++ S)))) (P ++ ((L.take (st - a)) ++ (R.take (mid - st)))) (L.drop (st - a)) (R.drop (mid - st)) S (mid) (((mid + m) - st)) (b) w1 ho1 (by have h9 := lma; simp only [List.length_append, hlL, hlR, hlL2, hlR2] at h9 ⊢; omega) hn6 (by simp only [List.append_assoc]) (by first | omega | (simp only [List.length_append]; omega) | (simp; omega)) (by first | omega | (simp only [List.length_append]; omega) | (simp; omega)) (by first | omega | (simp only [List.length_append]; omega) | (simp; omega)) (by first | omega | (simp only [List.length_append]; omega) | (simp; omega)) (by first | omega | (simp only [List.length_append]; omega) | (simp; omega)) (sL.drop _) (sR.drop _) (by omega); exact h7) rfl ?_)
                      rintro M219 ⟨sm219, em219, lm219⟩
                      refine ⟨_, _, inferInstance, inferInstance, ?_⟩
                      have smb := sm219
                      have emb := em219
                      have lmb : M219.length = b - mid := by rw [lm219, hlL2, hlR2]; omega
                      refine g_nil ?_
                      exact fin0 rfl (fun w' hw' => ⟨(((L.take (st - a)) ++ (R.take (mid - st))) ++ M219), (by first | exact (by have h9 := two_halves sL sR (st - a) (mid - st) hlo hhi sma smb ema emb; exact ⟨h9.1, h9.2, by rw [List.length_append, lma, lmb]; omega⟩) | (dsimp only; exact (by have h9 := two_halves sL sR (st - a) (mid - st) hlo hhi sma smb ema emb; exact ⟨h9.1, h9.2, by rw [List.length_append, lma, lmb]; omega⟩))), rfl, by have h9 := wok_sub (L' := [Res.row A n cap 50 2 ((((P ++ ((L.take (st - a)) ++ (R.take (mid - st)))) ++ (M219 ++ S))).map En.c)]) w' hw'; show WOK _ _ [Res.row A n cap 50 2 (((P ++ (((((L.take (st - a)) ++ (R.take (mid - st))) ++ M219)) ++ S))).map En.c)] _; simp only [List.append_assoc] at h9 ⊢; exact h9⟩) _ (.inr rfl)
                    · have heb : b ≤ mid + m - st := by have h9 := of_decide_eq_false h19; omega
                      have smb : Srt ((L.drop (st - a)) ++ (R.drop (mid - st))) := by rw [show R.drop (mid - st) = [] from List.drop_eq_nil_of_le (by omega), List.append_nil]; exact sL.drop _
                      have emb : Same ((L.drop (st - a)) ++ (R.drop (mid - st))) ((L.drop (st - a)) ++ (R.drop (mid - st))) := Same.rfl'
                      have lmb : ((L.drop (st - a)) ++ (R.drop (mid - st))).length = b - mid := by rw [List.length_append, hlL2, hlR2]; omega
                      refine g_skip ?_
                      exact fin0 rfl (fun w' hw' => ⟨(((L.take (st - a)) ++ (R.take (mid - st))) ++ ((L.drop (st - a)) ++ (R.drop (mid - st)))), (by first | exact (by have h9 := two_halves sL sR (st - a) (mid - st) hlo hhi sma smb ema emb; exact ⟨h9.1, h9.2, by rw [List.length_append, lma, lmb]; omega⟩) | (dsimp only; exact (by have h9 := two_halves sL sR (st - a) (mid - st) hlo hhi sma smb ema emb; exact ⟨h9.1, h9.2, by rw [List.length_append, lma, lmb]; omega⟩))), rfl, by have h9 := wok_sub (L' := [Res.row A n cap 50 2 (((P ++ (((L.take (st - a)) ++ (R.take (mid - st))) ++ ((L.drop (st - a)) ++ ((R.drop (mid - st)) ++ S))))).map En.c)]) w' hw'; show WOK _ _ [Res.row A n cap 50 2 (((P ++ (((((L.take (st - a)) ++ (R.take (mid - st))) ++ ((L.drop (st - a)) ++ (R.drop (mid - st))))) ++ S))).map En.c)] _; simp only [List.append_assoc] at h9 ⊢; exact h9⟩) _ (.inr rfl)
                  · have smb : Srt ((L.drop (st - a)) ++ (R.drop (mid - st))) := by rw [show L.drop (st - a) = [] from List.drop_eq_nil_of_le (by have h9 := of_decide_eq_false h18; omega), List.nil_append]; exact sR.drop _
                    have emb : Same ((L.drop (st - a)) ++ (R.drop (mid - st))) ((L.drop (st - a)) ++ (R.drop (mid - st))) := Same.rfl'
                    have lmb : ((L.drop (st - a)) ++ (R.drop (mid - st))).length = b - mid := by rw [List.length_append, hlL2, hlR2]; omega
                    refine g_gf rfl rfl rfl rfl ?_
                    refine g_gf rfl rfl rfl rfl ?_
                    refine g_gf rfl rfl rfl rfl ?_
                    refine s_q (q_pick_f rfl rfl) rfl ?_
                    refine g_nil ?_
                    refine g_then ?_
                    refine g_false rfl ?_
                    refine g_skip ?_
                    exact fin0 rfl (fun w' hw' => ⟨(((L.take (st - a)) ++ (R.take (mid - st))) ++ ((L.drop (st - a)) ++ (R.drop (mid - st)))), (by first | exact (by have h9 := two_halves sL sR (st - a) (mid - st) hlo hhi sma smb ema emb; exact ⟨h9.1, h9.2, by rw [List.length_append, lma, lmb]; omega⟩) | (dsimp only; exact (by have h9 := two_halves sL sR (st - a) (mid - st) hlo hhi sma smb ema emb; exact ⟨h9.1, h9.2, by rw [List.length_append, lma, lmb]; omega⟩))), rfl, by have h9 := wok_sub (L' := [Res.row A n cap 50 2 (((P ++ (((L.take (st - a)) ++ (R.take (mid - st))) ++ ((L.drop (st - a)) ++ ((R.drop (mid - st)) ++ S))))).map En.c)]) w' hw'; show WOK _ _ [Res.row A n cap 50 2 (((P ++ (((((L.take (st - a)) ++ (R.take (mid - st))) ++ ((L.drop (st - a)) ++ (R.drop (mid - st))))) ++ S))).map En.c)] _; simp only [List.append_assoc] at h9 ⊢; exact h9⟩) _ (.inr rfl)
              · have sma : Srt ((L.take (st - a)) ++ (R.take (mid - st))) := by rw [show st - a = 0 from by have h9 := of_decide_eq_false h14; omega]; exact sR.take _
                have ema : Same ((L.take (st - a)) ++ (R.take (mid - st))) ((L.take (st - a)) ++ (R.take (mid - st))) := Same.rfl'
                have lma : ((L.take (st - a)) ++ (R.take (mid - st))).length = mid - a := by rw [List.length_append, hlL, hlR]; omega
                refine g_gf rfl rfl rfl rfl ?_
                refine g_gf rfl rfl rfl rfl ?_
                refine g_gf rfl rfl rfl rfl ?_
                refine s_q (q_pick_f rfl rfl) rfl ?_
                refine g_nil ?_
                refine g_then ?_
                refine g_false rfl ?_
                refine g_skip ?_
                refine g_then ?_
                refine g_seq ?_
                refine g_region ?_
                refine g_rowels (A := A) ((P ++ (((L.take (st - a)) ++ (R.take (mid - st))) ++ ((L.drop (st - a)) ++ ((R.drop (mid - st)) ++ S)))).map En.c) (by first | rfl | simp only [List.append_assoc]) ?_
                refine s_q (q_move rfl) rfl ?_
                refine s_q (q_move rfl) rfl ?_
                refine s_q (q_lss rfl rfl) rfl ?_
                refine s_q (q_move rfl) rfl ?_
                refine g_split 209 rfl (fun h20 => ?_) (fun h20 => ?_)
                · have hme : st < m := by have h9 := of_decide_eq_true h20; omega
                  refine s_qg (q_move rfl) rfl rfl rfl ?_
                  refine s_qg (q_move rfl) rfl rfl rfl ?_
                  refine s_qg (q_lss rfl rfl) rfl rfl rfl ?_
                  refine s_q (q_pick_t rfl rfl) rfl ?_
                  refine g_nil ?_
                  refine g_then ?_
                  refine g_cond rfl (fun h21 => ?_) (fun h21 => ?_)
                  · have heb : mid + m - st < b := by have h9 := of_decide_eq_true h21; omega
                    refine g_region ?_
                    refine s_q (q_move rfl) rfl ?_
                    refine s_q (q_move rfl) rfl ?_
                    refine s_q (q_move rfl) rfl ?_
                    refine s_q (q_move rfl) rfl ?_
                    refine s_q (q_move rfl) rfl ?_
                    refine g_op (g_ownS [Res.row A n cap 50 2 (((P ++ (((L.take (st - a)) ++ (R.take (mid - st))) ++ ((L.drop (st - a)) ++ ((R.drop (mid - st)) ++ S))))).map En.c)] rfl (fun w1 hw1 ho1 => by have h7 := IH A n cap (P ++ (((L.take (st - a)) ++ (R.take (mid - st))) ++ ((L.drop (st - a)) ++ ((R.drop (mid - st)) ++ S)))) (P ++ ((L.take (st - a)) ++ (R.take (mid - st)))) (L.drop (st - a)) (R.drop (mid - st)) S (mid) (((mid + m) - st)) (b) w1 ho1 (by have h9 := lma; simp only [List.length_append, hlL, hlR, hlL2, hlR2] at h9 ⊢; omega) hn6 (by simp only [List.append_assoc]) (by first | omega | (simp only [List.length_append]; omega) | (simp; omega)) (by first | omega | (simp only [List.length_append]; omega) | (simp; omega)) (by first | omega | (simp only [List.length_append]; omega) | (simp; omega)) (by first | omega | (simp only [List.length_append]; omega) | (simp; omega)) (by first | omega | (simp only [List.length_append]; omega) | (simp; omega)) (sL.drop _) (sR.drop _) (by omega); exact h7) rfl ?_)
                    rintro M219 ⟨sm219, em219, lm219⟩
                    refine ⟨_, _, inferInstance, inferInstance, ?_⟩
                    have smb := sm219
                    have emb := em219
                    have lmb : M219.length = b - mid := by rw [lm219, hlL2, hlR2]; omega
                    refine g_nil ?_
                    exact fin0 rfl (fun w' hw' => ⟨(((L.take (st - a)) ++ (R.take (mid - st))) ++ M219), (by first | exact (by have h9 := two_halves sL sR (st - a) (mid - st) hlo hhi sma smb ema emb; exact ⟨h9.1, h9.2, by rw [List.length_append, lma, lmb]; omega⟩) | (dsimp only; exact (by have h9 := two_halves sL sR (st - a) (mid - st) hlo hhi sma smb ema emb; exact ⟨h9.1, h9.2, by rw [List.length_append, lma, lmb]; omega⟩))), rfl, by have h9 := wok_sub (L' := [Res.row A n cap 50 2 ((((P ++ ((L.take (st - a)) ++ (R.take (mid - st)))) ++ (M219 ++ S))).map En.c)]) w' hw'; show WOK _ _ [Res.row A n cap 50 2 (((P ++ (((((L.take (st - a)) ++ (R.take (mid - st))) ++ M219)) ++ S))).map En.c)] _; simp only [List.append_assoc] at h9 ⊢; exact h9⟩) _ (.inr rfl)
                  · have heb : b ≤ mid + m - st := by have h9 := of_decide_eq_false h21; omega
                    have smb : Srt ((L.drop (st - a)) ++ (R.drop (mid - st))) := by rw [show R.drop (mid - st) = [] from List.drop_eq_nil_of_le (by omega), List.append_nil]; exact sL.drop _
                    have emb : Same ((L.drop (st - a)) ++ (R.drop (mid - st))) ((L.drop (st - a)) ++ (R.drop (mid - st))) := Same.rfl'
                    have lmb : ((L.drop (st - a)) ++ (R.drop (mid - st))).length = b - mid := by rw [List.length_append, hlL2, hlR2]; omega
                    refine g_skip ?_
                    exact fin0 rfl (fun w' hw' => ⟨(((L.take (st - a)) ++ (R.take (mid - st))) ++ ((L.drop (st - a)) ++ (R.drop (mid - st)))), (by first | exact (by have h9 := two_halves sL sR (st - a) (mid - st) hlo hhi sma smb ema emb; exact ⟨h9.1, h9.2, by rw [List.length_append, lma, lmb]; omega⟩) | (dsimp only; exact (by have h9 := two_halves sL sR (st - a) (mid - st) hlo hhi sma smb ema emb; exact ⟨h9.1, h9.2, by rw [List.length_append, lma, lmb]; omega⟩))), rfl, by have h9 := wok_sub (L' := [Res.row A n cap 50 2 (((P ++ (((L.take (st - a)) ++ (R.take (mid - st))) ++ ((L.drop (st - a)) ++ ((R.drop (mid - st)) ++ S))))).map En.c)]) w' hw'; show WOK _ _ [Res.row A n cap 50 2 (((P ++ (((((L.take (st - a)) ++ (R.take (mid - st))) ++ ((L.drop (st - a)) ++ (R.drop (mid - st))))) ++ S))).map En.c)] _; simp only [List.append_assoc] at h9 ⊢; exact h9⟩) _ (.inr rfl)
                · have smb : Srt ((L.drop (st - a)) ++ (R.drop (mid - st))) := by rw [show L.drop (st - a) = [] from List.drop_eq_nil_of_le (by have h9 := of_decide_eq_false h20; omega), List.nil_append]; exact sR.drop _
                  have emb : Same ((L.drop (st - a)) ++ (R.drop (mid - st))) ((L.drop (st - a)) ++ (R.drop (mid - st))) := Same.rfl'
                  have lmb : ((L.drop (st - a)) ++ (R.drop (mid - st))).length = b - mid := by rw [List.length_append, hlL2, hlR2]; omega
                  refine g_gf rfl rfl rfl rfl ?_
                  refine g_gf rfl rfl rfl rfl ?_
                  refine g_gf rfl rfl rfl rfl ?_
                  refine s_q (q_pick_f rfl rfl) rfl ?_
                  refine g_nil ?_
                  refine g_then ?_
                  refine g_false rfl ?_
                  refine g_skip ?_
                  exact fin0 rfl (fun w' hw' => ⟨(((L.take (st - a)) ++ (R.take (mid - st))) ++ ((L.drop (st - a)) ++ (R.drop (mid - st)))), (by first | exact (by have h9 := two_halves sL sR (st - a) (mid - st) hlo hhi sma smb ema emb; exact ⟨h9.1, h9.2, by rw [List.length_append, lma, lmb]; omega⟩) | (dsimp only; exact (by have h9 := two_halves sL sR (st - a) (mid - st) hlo hhi sma smb ema emb; exact ⟨h9.1, h9.2, by rw [List.length_append, lma, lmb]; omega⟩))), rfl, by have h9 := wok_sub (L' := [Res.row A n cap 50 2 (((P ++ (((L.take (st - a)) ++ (R.take (mid - st))) ++ ((L.drop (st - a)) ++ ((R.drop (mid - st)) ++ S))))).map En.c)]) w' hw'; show WOK _ _ [Res.row A n cap 50 2 (((P ++ (((((L.take (st - a)) ++ (R.take (mid - st))) ++ ((L.drop (st - a)) ++ (R.drop (mid - st))))) ++ S))).map En.c)] _; simp only [List.append_assoc] at h9 ⊢; exact h9⟩) _ (.inr rfl)
            · have hms : mid ≤ st := by have h9 := of_decide_eq_false h13; omega
              have hn1 : R.take (mid - st) = [] := by rw [show mid - st = 0 from by omega]; rfl
              have hn2 : R.drop (mid - st) = R := by rw [show mid - st = 0 from by omega]; rfl
              refine g_skip ?_
              refine g_then ?_
              refine g_seq ?_
              refine g_seq ?_
              refine g_region ?_
              refine g_rowels (A := A) ((P ++ ((L.take (st - a)) ++ ((R.take (mid - st)) ++ ((L.drop (st - a)) ++ ((R.drop (mid - st)) ++ S))))).map En.c) (by rw [hd, hn1, List.nil_append, hn2, ← List.append_assoc (L.take (st - a)), List.take_append_drop]) ?_
              refine s_q (q_move rfl) rfl ?_
              refine s_q (q_move rfl) rfl ?_
              refine s_q (q_lss rfl rfl) rfl ?_
              refine s_q (q_move rfl) rfl ?_
              refine g_split 195 rfl (fun h22 => ?_) (fun h22 => ?_)
              · have has1 : a < st := by have h9 := of_decide_eq_true h22; omega
                refine s_qg (q_move rfl) rfl rfl rfl ?_
                refine s_qg (q_move rfl) rfl rfl rfl ?_
                refine s_qg (q_lss rfl rfl) rfl rfl rfl ?_
                refine s_q (q_pick_t rfl rfl) rfl ?_
                refine g_nil ?_
                refine g_then ?_
                refine g_cond rfl (fun h23 => ?_) (fun h23 => ?_)
                · have hms1 : st < mid := by have h9 := of_decide_eq_true h23; omega
                  refine g_region ?_
                  refine s_q (q_move rfl) rfl ?_
                  refine s_q (q_move rfl) rfl ?_
                  refine s_q (q_move rfl) rfl ?_
                  refine s_q (q_move rfl) rfl ?_
                  refine s_q (q_move rfl) rfl ?_
                  refine g_op (g_ownS [Res.row A n cap 50 2 (((P ++ ((L.take (st - a)) ++ ((R.take (mid - st)) ++ ((L.drop (st - a)) ++ ((R.drop (mid - st)) ++ S)))))).map En.c)] rfl (fun w1 hw1 ho1 => by have h7 := IH A n cap (P ++ ((L.take (st - a)) ++ ((R.take (mid - st)) ++ ((L.drop (st - a)) ++ ((R.drop (mid - st)) ++ S))))) P (L.take (st - a)) (R.take (mid - st)) ((L.drop (st - a)) ++ ((R.drop (mid - st)) ++ S)) (a) (st) (mid) w1 ho1 (by simp only [List.length_append, hlL, hlR, hlL2, hlR2]; omega) hn6 rfl (by first | omega | (simp only [List.length_append]; omega) | (simp; omega)) (by first | omega | (simp only [List.length_append]; omega) | (simp; omega)) (by first | omega | (simp only [List.length_append]; omega) | (simp; omega)) (by first | omega | (simp only [List.length_append]; omega) | (simp; omega)) (by first | omega | (simp only [List.length_append]; omega) | (simp; omega)) (sL.take _) (sR.take _) (by omega); exact h7) rfl ?_)
                  rintro M205 ⟨sm205, em205, lm205⟩
                  refine ⟨_, _, inferInstance, inferInstance, ?_⟩
                  have sma := sm205
                  have ema := em205
                  have lma : M205.length = mid - a := by rw [lm205, hlL, hlR]; omega
                  refine g_nil ?_
                  refine g_then ?_
                  refine g_seq ?_
                  refine g_region ?_
                  refine g_rowels (A := A) ((P ++ (M205 ++ ((L.drop (st - a)) ++ ((R.drop (mid - st)) ++ S)))).map En.c) (by first | rfl | simp only [List.append_assoc]) ?_
                  refine s_q (q_move rfl) rfl ?_
                  refine s_q (q_move rfl) rfl ?_
                  refine s_q (q_lss rfl rfl) rfl ?_
                  refine s_q (q_move rfl) rfl ?_
                  refine g_split 209 rfl (fun h24 => ?_) (fun h24 => ?_)
                  · have hme : st < m := by have h9 := of_decide_eq_true h24; omega
                    refine s_qg (q_move rfl) rfl rfl rfl ?_
                    refine s_qg (q_move rfl) rfl rfl rfl ?_
                    refine s_qg (q_lss rfl rfl) rfl rfl rfl ?_
                    refine s_q (q_pick_t rfl rfl) rfl ?_
                    refine g_nil ?_
                    refine g_then ?_
                    refine g_cond rfl (fun h25 => ?_) (fun h25 => ?_)
                    · have heb : mid + m - st < b := by have h9 := of_decide_eq_true h25; omega
                      refine g_region ?_
                      refine s_q (q_move rfl) rfl ?_
                      refine s_q (q_move rfl) rfl ?_
                      refine s_q (q_move rfl) rfl ?_
                      refine s_q (q_move rfl) rfl ?_
                      refine s_q (q_move rfl) rfl ?_
                      refine g_op (g_ownS [Res.row A n cap 50 2 (((P ++ (M205 ++ ((L.drop (st - a)) ++ ((R.drop (mid - st)) ++ S))))).map En.c)] rfl (fun w1 hw1 ho1 => by have h7 := IH A n cap (P ++ (M205 ++ ((L.drop (st - a)) ++ ((R.drop (mid - st)) ++ S)))) (P ++ M205) (L.drop (st - a)) (R.drop (mid - st)) S (mid) (((mid + m) - st)) (b) w1 ho1 (by have h9 := lma; simp only [List.length_append, hlL, hlR, hlL2, hlR2] at h9 ⊢; omega) hn6 (by simp only [List.append_assoc]) (by first | omega | (simp only [List.length_append]; omega) | (simp; omega)) (by first | omega | (simp only [List.length_append]; omega) | (simp; omega)) (by first | omega | (simp only [List.length_append]; omega) | (simp; omega)) (by first | omega | (simp only [List.length_append]; omega) | (simp; omega)) (by first | omega | (simp only [List.length_append]; omega) | (simp; omega)) (sL.drop _) (sR.drop _) (by omega); exact h7) rfl ?_)
                      rintro M219 ⟨sm219, em219, lm219⟩
                      refine ⟨_, _, inferInstance, inferInstance, ?_⟩
                      have smb := sm219
                      have emb := em219
                      have lmb : M219.length = b - mid := by rw [lm219, hlL2, hlR2]; omega
                      refine g_nil ?_
                      exact fin0 rfl (fun w' hw' => ⟨(M205 ++ M219), (by first | exact (by have h9 := two_halves sL sR (st - a) (mid - st) hlo hhi sma smb ema emb; exact ⟨h9.1, h9.2, by rw [List.length_append, lma, lmb]; omega⟩) | (dsimp only; exact (by have h9 := two_halves sL sR (st - a) (mid - st) hlo hhi sma smb ema emb; exact ⟨h9.1, h9.2, by rw [List.length_append, lma, lmb]; omega⟩))), rfl, by have h9 := wok_sub (L' := [Res.row A n cap 50 2 ((((P ++ M205) ++ (M219 ++ S))).map En.c)]) w' hw'; show WOK _ _ [Res.row A n cap 50 2 (((P ++ (((M205 ++ M219)) ++ S))).map En.c)] _; simp only [List.append_assoc] at h9 ⊢; exact h9⟩) _ (.inr rfl)
                    · have heb : b ≤ mid + m - st := by have h9 := of_decide_eq_false h25; omega
                      have smb : Srt ((L.drop (st - a)) ++ (R.drop (mid - st))) := by rw [show R.drop (mid - st) = [] from List.drop_eq_nil_of_le (by omega), List.append_nil]; exact sL.drop _
                      have emb : Same ((L.drop (st - a)) ++ (R.drop (mid - st))) ((L.drop (st - a)) ++ (R.drop (mid - st))) := Same.rfl'
                      have lmb : ((L.drop (st - a)) ++ (R.drop (mid - st))).length = b - mid := by rw [List.length_append, hlL2, hlR2]; omega
                      refine g_skip ?_
                      exact fin0 rfl (fun w' hw' => ⟨(M205 ++ ((L.drop (st - a)) ++ (R.drop (mid - st)))), (by first | exact (by have h9 := two_halves sL sR (st - a) (mid - st) hlo hhi sma smb ema emb; exact ⟨h9.1, h9.2, by rw [List.length_append, lma, lmb]; omega⟩) | (dsimp only; exact (by have h9 := two_halves sL sR (st - a) (mid - st) hlo hhi sma smb ema emb; exact ⟨h9.1, h9.2, by rw [List.length_append, lma, lmb]; omega⟩))), rfl, by have h9 := wok_sub (L' := [Res.row A n cap 50 2 (((P ++ (M205 ++ ((L.drop (st - a)) ++ ((R.drop (mid - st)) ++ S))))).map En.c)]) w' hw'; show WOK _ _ [Res.row A n cap 50 2 (((P ++ (((M205 ++ ((L.drop (st - a)) ++ (R.drop (mid - st))))) ++ S))).map En.c)] _; simp only [List.append_assoc] at h9 ⊢; exact h9⟩) _ (.inr rfl)
                  · have smb : Srt ((L.drop (st - a)) ++ (R.drop (mid - st))) := by rw [show L.drop (st - a) = [] from List.drop_eq_nil_of_le (by have h9 := of_decide_eq_false h24; omega), List.nil_append]; exact sR.drop _
                    have emb : Same ((L.drop (st - a)) ++ (R.drop (mid - st))) ((L.drop (st - a)) ++ (R.drop (mid - st))) := Same.rfl'
                    have lmb : ((L.drop (st - a)) ++ (R.drop (mid - st))).length = b - mid := by rw [List.length_append, hlL2, hlR2]; omega
                    refine g_gf rfl rfl rfl rfl ?_
                    refine g_gf rfl rfl rfl rfl ?_
                    refine g_gf rfl rfl rfl rfl ?_
                    refine s_q (q_pick_f rfl rfl) rfl ?_
                    refine g_nil ?_
                    refine g_then ?_
                    refine g_false rfl ?_
                    refine g_skip ?_
                    exact fin0 rfl (fun w' hw' => ⟨(M205 ++ ((L.drop (st - a)) ++ (R.drop (mid - st)))), (by first | exact (by have h9 := two_halves sL sR (st - a) (mid - st) hlo hhi sma smb ema emb; exact ⟨h9.1, h9.2, by rw [List.length_append, lma, lmb]; omega⟩) | (dsimp only; exact (by have h9 := two_halves sL sR (st - a) (mid - st) hlo hhi sma smb ema emb; exact ⟨h9.1, h9.2, by rw [List.length_append, lma, lmb]; omega⟩))), rfl, by have h9 := wok_sub (L' := [Res.row A n cap 50 2 (((P ++ (M205 ++ ((L.drop (st - a)) ++ ((R.drop (mid - st)) ++ S))))).map En.c)]) w' hw'; show WOK _ _ [Res.row A n cap 50 2 (((P ++ (((M205 ++ ((L.drop (st - a)) ++ (R.drop (mid - st))))) ++ S))).map En.c)] _; simp only [List.append_assoc] at h9 ⊢; exact h9⟩) _ (.inr rfl)
                · have hms1 : mid ≤ st := by have h9 := of_decide_eq_false h23; omega
                  have sma : Srt ((L.take (st - a)) ++ (R.take (mid - st))) := by rw [show mid - st = 0 from by omega, List.take_zero, List.append_nil]; exact sL.take _
                  have ema : Same ((L.take (st - a)) ++ (R.take (mid - st))) ((L.take (st - a)) ++ (R.take (mid - st))) := Same.rfl'
                  have lma : ((L.take (st - a)) ++ (R.take (mid - st))).length = mid - a := by rw [List.length_append, hlL, hlR]; omega
                  refine g_skip ?_
                  refine g_then ?_
                  refine g_seq ?_
                  refine g_region ?_
                  refine g_rowels (A := A) ((P ++ (((L.take (st - a)) ++ (R.take (mid - st))) ++ ((L.drop (st - a)) ++ ((R.drop (mid - st)) ++ S)))).map En.c) (by first | rfl | simp only [List.append_assoc]) ?_
                  refine s_q (q_move rfl) rfl ?_
                  refine s_q (q_move rfl) rfl ?_
                  refine s_q (q_lss rfl rfl) rfl ?_
                  refine s_q (q_move rfl) rfl ?_
                  refine g_split 209 rfl (fun h26 => ?_) (fun h26 => ?_)
                  · have hme : st < m := by have h9 := of_decide_eq_true h26; omega
                    refine s_qg (q_move rfl) rfl rfl rfl ?_
                    refine s_qg (q_move rfl) rfl rfl rfl ?_
                    refine s_qg (q_lss rfl rfl) rfl rfl rfl ?_
                    refine s_q (q_pick_t rfl rfl) rfl ?_
                    refine g_nil ?_
                    refine g_then ?_
                    refine g_cond rfl (fun h27 => ?_) (fun h27 => ?_)
                    · have heb : mid + m - st < b := by have h9 := of_decide_eq_true h27; omega
                      refine g_region ?_
                      refine s_q (q_move rfl) rfl ?_
                      refine s_q (q_move rfl) rfl ?_
                      refine s_q (q_move rfl) rfl ?_
                      refine s_q (q_move rfl) rfl ?_
                      refine s_q (q_move rfl) rfl ?_
                      refine g_op (g_ownS [Res.row A n cap 50 2 (((P ++ (((L.take (st - a)) ++ (R.take (mid - st))) ++ ((L.drop (st - a)) ++ ((R.drop (mid - st)) ++ S))))).map En.c)] rfl (fun w1 hw1 ho1 => by have h7 := IH A n cap (P ++ (((L.take (st - a)) ++ (R.take (mid - st))) ++ ((L.drop (st - a)) ++ ((R.drop (mid - st)) ++ S)))) (P ++ ((L.take (st - a)) ++ (R.take (mid - st)))) (L.drop (st - a)) (R.drop (mid - st)) S (mid) (((mid + m) - st)) (b) w1 ho1 (by have h9 := lma; simp only [List.length_append, hlL, hlR, hlL2, hlR2] at h9 ⊢; omega) hn6 (by simp only [List.append_assoc]) (by first | omega | (simp only [List.length_append]; omega) | (simp; omega)) (by first | omega | (simp only [List.length_append]; omega) | (simp; omega)) (by first | omega | (simp only [List.length_append]; omega) | (simp; omega)) (by first | omega | (simp only [List.length_append]; omega) | (simp; omega)) (by first | omega | (simp only [List.length_append]; omega) | (simp; omega)) (sL.drop _) (sR.drop _) (by omega); exact h7) rfl ?_)
                      rintro M219 ⟨sm219, em219, lm219⟩
                      refine ⟨_, _, inferInstance, inferInstance, ?_⟩
                      have smb := sm219
                      have emb := em219
                      have lmb : M219.length = b - mid := by rw [lm219, hlL2, hlR2]; omega
                      refine g_nil ?_
                      exact fin0 rfl (fun w' hw' => ⟨(((L.take (st - a)) ++ (R.take (mid - st))) ++ M219), (by first | exact (by have h9 := two_halves sL sR (st - a) (mid - st) hlo hhi sma smb ema emb; exact ⟨h9.1, h9.2, by rw [List.length_append, lma, lmb]; omega⟩) | (dsimp only; exact (by have h9 := two_halves sL sR (st - a) (mid - st) hlo hhi sma smb ema emb; exact ⟨h9.1, h9.2, by rw [List.length_append, lma, lmb]; omega⟩))), rfl, by have h9 := wok_sub (L' := [Res.row A n cap 50 2 ((((P ++ ((L.take (st - a)) ++ (R.take (mid - st)))) ++ (M219 ++ S))).map En.c)]) w' hw'; show WOK _ _ [Res.row A n cap 50 2 (((P ++ (((((L.take (st - a)) ++ (R.take (mid - st))) ++ M219)) ++ S))).map En.c)] _; simp only [List.append_assoc] at h9 ⊢; exact h9⟩) _ (.inr rfl)
                    · have heb : b ≤ mid + m - st := by have h9 := of_decide_eq_false h27; omega
                      have smb : Srt ((L.drop (st - a)) ++ (R.drop (mid - st))) := by rw [show R.drop (mid - st) = [] from List.drop_eq_nil_of_le (by omega), List.append_nil]; exact sL.drop _
                      have emb : Same ((L.drop (st - a)) ++ (R.drop (mid - st))) ((L.drop (st - a)) ++ (R.drop (mid - st))) := Same.rfl'
                      have lmb : ((L.drop (st - a)) ++ (R.drop (mid - st))).length = b - mid := by rw [List.length_append, hlL2, hlR2]; omega
                      refine g_skip ?_
                      exact fin0 rfl (fun w' hw' => ⟨(((L.take (st - a)) ++ (R.take (mid - st))) ++ ((L.drop (st - a)) ++ (R.drop (mid - st)))), (by first | exact (by have h9 := two_halves sL sR (st - a) (mid - st) hlo hhi sma smb ema emb; exact ⟨h9.1, h9.2, by rw [List.length_append, lma, lmb]; omega⟩) | (dsimp only; exact (by have h9 := two_halves sL sR (st - a) (mid - st) hlo hhi sma smb ema emb; exact ⟨h9.1, h9.2, by rw [List.length_append, lma, lmb]; omega⟩))), rfl, by have h9 := wok_sub (L' := [Res.row A n cap 50 2 (((P ++ (((L.take (st - a)) ++ (R.take (mid - st))) ++ ((L.drop (st - a)) ++ ((R.drop (mid - st)) ++ S))))).map En.c)]) w' hw'; show WOK _ _ [Res.row A n cap 50 2 (((P ++ (((((L.take (st - a)) ++ (R.take (mid - st))) ++ ((L.drop (st - a)) ++ (R.drop (mid - st))))) ++ S))).map En.c)] _; simp only [List.append_assoc] at h9 ⊢; exact h9⟩) _ (.inr rfl)
                  · have smb : Srt ((L.drop (st - a)) ++ (R.drop (mid - st))) := by rw [show L.drop (st - a) = [] from List.drop_eq_nil_of_le (by have h9 := of_decide_eq_false h26; omega), List.nil_append]; exact sR.drop _
                    have emb : Same ((L.drop (st - a)) ++ (R.drop (mid - st))) ((L.drop (st - a)) ++ (R.drop (mid - st))) := Same.rfl'
                    have lmb : ((L.drop (st - a)) ++ (R.drop (mid - st))).length = b - mid := by rw [List.length_append, hlL2, hlR2]; omega
                    refine g_gf rfl rfl rfl rfl ?_
                    refine g_gf rfl rfl rfl rfl ?_
                    refine g_gf rfl rfl rfl rfl ?_
                    refine s_q (q_pick_f rfl rfl) rfl ?_
                    refine g_nil ?_
                    refine g_then ?_
                    refine g_false rfl ?_
                    refine g_skip ?_
                    exact fin0 rfl (fun w' hw' => ⟨(((L.take (st - a)) ++ (R.take (mid - st))) ++ ((L.drop (st - a)) ++ (R.drop (mid - st)))), (by first | exact (by have h9 := two_halves sL sR (st - a) (mid - st) hlo hhi sma smb ema emb; exact ⟨h9.1, h9.2, by rw [List.length_append, lma, lmb]; omega⟩) | (dsimp only; exact (by have h9 := two_halves sL sR (st - a) (mid - st) hlo hhi sma smb ema emb; exact ⟨h9.1, h9.2, by rw [List.length_append, lma, lmb]; omega⟩))), rfl, by have h9 := wok_sub (L' := [Res.row A n cap 50 2 (((P ++ (((L.take (st - a)) ++ (R.take (mid - st))) ++ ((L.drop (st - a)) ++ ((R.drop (mid - st)) ++ S))))).map En.c)]) w' hw'; show WOK _ _ [Res.row A n cap 50 2 (((P ++ (((((L.take (st - a)) ++ (R.take (mid - st))) ++ ((L.drop (st - a)) ++ (R.drop (mid - st))))) ++ S))).map En.c)] _; simp only [List.append_assoc] at h9 ⊢; exact h9⟩) _ (.inr rfl)
              · have sma : Srt ((L.take (st - a)) ++ (R.take (mid - st))) := by rw [show st - a = 0 from by have h9 := of_decide_eq_false h22; omega]; exact sR.take _
                have ema : Same ((L.take (st - a)) ++ (R.take (mid - st))) ((L.take (st - a)) ++ (R.take (mid - st))) := Same.rfl'
                have lma : ((L.take (st - a)) ++ (R.take (mid - st))).length = mid - a := by rw [List.length_append, hlL, hlR]; omega
                refine g_gf rfl rfl rfl rfl ?_
                refine g_gf rfl rfl rfl rfl ?_
                refine g_gf rfl rfl rfl rfl ?_
                refine s_q (q_pick_f rfl rfl) rfl ?_
                refine g_nil ?_
                refine g_then ?_
                refine g_false rfl ?_
                refine g_skip ?_
                refine g_then ?_
                refine g_seq ?_
                refine g_region ?_
                refine g_rowels (A := A) ((P ++ (((L.take (st - a)) ++ (R.take (mid - st))) ++ ((L.drop (st - a)) ++ ((R.drop (mid - st)) ++ S)))).map En.c) (by first | rfl | simp only [List.append_assoc]) ?_
                refine s_q (q_move rfl) rfl ?_
                refine s_q (q_move rfl) rfl ?_
                refine s_q (q_lss rfl rfl) rfl ?_
                refine s_q (q_move rfl) rfl ?_
                refine g_split 209 rfl (fun h28 => ?_) (fun h28 => ?_)
                · have hme : st < m := by have h9 := of_decide_eq_true h28; omega
                  refine s_qg (q_move rfl) rfl rfl rfl ?_
                  refine s_qg (q_move rfl) rfl rfl rfl ?_
                  refine s_qg (q_lss rfl rfl) rfl rfl rfl ?_
                  refine s_q (q_pick_t rfl rfl) rfl ?_
                  refine g_nil ?_
                  refine g_then ?_
                  refine g_cond rfl (fun h29 => ?_) (fun h29 => ?_)
                  · have heb : mid + m - st < b := by have h9 := of_decide_eq_true h29; omega
                    refine g_region ?_
                    refine s_q (q_move rfl) rfl ?_
                    refine s_q (q_move rfl) rfl ?_
                    refine s_q (q_move rfl) rfl ?_
                    refine s_q (q_move rfl) rfl ?_
                    refine s_q (q_move rfl) rfl ?_
                    refine g_op (g_ownS [Res.row A n cap 50 2 (((P ++ (((L.take (st - a)) ++ (R.take (mid - st))) ++ ((L.drop (st - a)) ++ ((R.drop (mid - st)) ++ S))))).map En.c)] rfl (fun w1 hw1 ho1 => by have h7 := IH A n cap (P ++ (((L.take (st - a)) ++ (R.take (mid - st))) ++ ((L.drop (st - a)) ++ ((R.drop (mid - st)) ++ S)))) (P ++ ((L.take (st - a)) ++ (R.take (mid - st)))) (L.drop (st - a)) (R.drop (mid - st)) S (mid) (((mid + m) - st)) (b) w1 ho1 (by have h9 := lma; simp only [List.length_append, hlL, hlR, hlL2, hlR2] at h9 ⊢; omega) hn6 (by simp only [List.append_assoc]) (by first | omega | (simp only [List.length_append]; omega) | (simp; omega)) (by first | omega | (simp only [List.length_append]; omega) | (simp; omega)) (by first | omega | (simp only [List.length_append]; omega) | (simp; omega)) (by first | omega | (simp only [List.length_append]; omega) | (simp; omega)) (by first | omega | (simp only [List.length_append]; omega) | (simp; omega)) (sL.drop _) (sR.drop _) (by omega); exact h7) rfl ?_)
                    rintro M219 ⟨sm219, em219, lm219⟩
                    refine ⟨_, _, inferInstance, inferInstance, ?_⟩
                    have smb := sm219
                    have emb := em219
                    have lmb : M219.length = b - mid := by rw [lm219, hlL2, hlR2]; omega
                    refine g_nil ?_
                    exact fin0 rfl (fun w' hw' => ⟨(((L.take (st - a)) ++ (R.take (mid - st))) ++ M219), (by first | exact (by have h9 := two_halves sL sR (st - a) (mid - st) hlo hhi sma smb ema emb; exact ⟨h9.1, h9.2, by rw [List.length_append, lma, lmb]; omega⟩) | (dsimp only; exact (by have h9 := two_halves sL sR (st - a) (mid - st) hlo hhi sma smb ema emb; exact ⟨h9.1, h9.2, by rw [List.length_append, lma, lmb]; omega⟩))), rfl, by have h9 := wok_sub (L' := [Res.row A n cap 50 2 ((((P ++ ((L.take (st - a)) ++ (R.take (mid - st)))) ++ (M219 ++ S))).map En.c)]) w' hw'; show WOK _ _ [Res.row A n cap 50 2 (((P ++ (((((L.take (st - a)) ++ (R.take (mid - st))) ++ M219)) ++ S))).map En.c)] _; simp only [List.append_assoc] at h9 ⊢; exact h9⟩) _ (.inr rfl)
                  · have heb : b ≤ mid + m - st := by have h9 := of_decide_eq_false h29; omega
                    have smb : Srt ((L.drop (st - a)) ++ (R.drop (mid - st))) := by rw [show R.drop (mid - st) = [] from List.drop_eq_nil_of_le (by omega), List.append_nil]; exact sL.drop _
                    have emb : Same ((L.drop (st - a)) ++ (R.drop (mid - st))) ((L.drop (st - a)) ++ (R.drop (mid - st))) := Same.rfl'
                    have lmb : ((L.drop (st - a)) ++ (R.drop (mid - st))).length = b - mid := by rw [List.length_append, hlL2, hlR2]; omega
                    refine g_skip ?_
                    exact fin0 rfl (fun w' hw' => ⟨(((L.take (st - a)) ++ (R.take (mid - st))) ++ ((L.drop (st - a)) ++ (R.drop (mid - st)))), (by first | exact (by have h9 := two_halves sL sR (st - a) (mid - st) hlo hhi sma smb ema emb; exact ⟨h9.1, h9.2, by rw [List.length_append, lma, lmb]; omega⟩) | (dsimp only; exact (by have h9 := two_halves sL sR (st - a) (mid - st) hlo hhi sma smb ema emb; exact ⟨h9.1, h9.2, by rw [List.length_append, lma, lmb]; omega⟩))), rfl, by have h9 := wok_sub (L' := [Res.row A n cap 50 2 (((P ++ (((L.take (st - a)) ++ (R.take (mid - st))) ++ ((L.drop (st - a)) ++ ((R.drop (mid - st)) ++ S))))).map En.c)]) w' hw'; show WOK _ _ [Res.row A n cap 50 2 (((P ++ (((((L.take (st - a)) ++ (R.take (mid - st))) ++ ((L.drop (st - a)) ++ (R.drop (mid - st))))) ++ S))).map En.c)] _; simp only [List.append_assoc] at h9 ⊢; exact h9⟩) _ (.inr rfl)
                · have smb : Srt ((L.drop (st - a)) ++ (R.drop (mid - st))) := by rw [show L.drop (st - a) = [] from List.drop_eq_nil_of_le (by have h9 := of_decide_eq_false h28; omega), List.nil_append]; exact sR.drop _
                  have emb : Same ((L.drop (st - a)) ++ (R.drop (mid - st))) ((L.drop (st - a)) ++ (R.drop (mid - st))) := Same.rfl'
                  have lmb : ((L.drop (st - a)) ++ (R.drop (mid - st))).length = b - mid := by rw [List.length_append, hlL2, hlR2]; omega
                  refine g_gf rfl rfl rfl rfl ?_
                  refine g_gf rfl rfl rfl rfl ?_
                  refine g_gf rfl rfl rfl rfl ?_
                  refine s_q (q_pick_f rfl rfl) rfl ?_
                  refine g_nil ?_
                  refine g_then ?_
                  refine g_false rfl ?_
                  refine g_skip ?_
                  exact fin0 rfl (fun w' hw' => ⟨(((L.take (st - a)) ++ (R.take (mid - st))) ++ ((L.drop (st - a)) ++ (R.drop (mid - st)))), (by first | exact (by have h9 := two_halves sL sR (st - a) (mid - st) hlo hhi sma smb ema emb; exact ⟨h9.1, h9.2, by rw [List.length_append, lma, lmb]; omega⟩) | (dsimp only; exact (by have h9 := two_halves sL sR (st - a) (mid - st) hlo hhi sma smb ema emb; exact ⟨h9.1, h9.2, by rw [List.length_append, lma, lmb]; omega⟩))), rfl, by have h9 := wok_sub (L' := [Res.row A n cap 50 2 (((P ++ (((L.take (st - a)) ++ (R.take (mid - st))) ++ ((L.drop (st - a)) ++ ((R.drop (mid - st)) ++ S))))).map En.c)]) w' hw'; show WOK _ _ [Res.row A n cap 50 2 (((P ++ (((((L.take (st - a)) ++ (R.take (mid - st))) ++ ((L.drop (st - a)) ++ (R.drop (mid - st))))) ++ S))).map En.c)] _; simp only [List.append_assoc] at h9 ⊢; exact h9⟩) _ (.inr rfl)
          · have hn1 : L.drop (st - a) = [] := List.drop_eq_nil_of_le (by have h9 := of_decide_eq_false h12; omega)
            have hn2 : L.take (st - a) = L := List.take_of_length_le (by have h9 := of_decide_eq_false h12; omega)
            refine g_gf rfl rfl rfl rfl ?_
            refine g_gf rfl rfl rfl rfl ?_
            refine g_gf rfl rfl rfl rfl ?_
            refine s_q (q_pick_f rfl rfl) rfl ?_
            refine g_nil ?_
            refine g_then ?_
            refine g_false rfl ?_
            refine g_skip ?_
            refine g_then ?_
            refine g_seq ?_
            refine g_seq ?_
            refine g_region ?_
            refine g_rowels (A := A) ((P ++ ((L.take (st - a)) ++ ((R.take (mid - st)) ++ ((L.drop (st - a)) ++ ((R.drop (mid - st)) ++ S))))).map En.c) (by rw [hd, hn2, hn1, List.nil_append, ← List.append_assoc (R.take (mid - st)), List.take_append_drop]) ?_
            refine s_q (q_move rfl) rfl ?_
            refine s_q (q_move rfl) rfl ?_
            refine s_q (q_lss rfl rfl) rfl ?_
            refine s_q (q_move rfl) rfl ?_
            refine g_split 195 rfl (fun h30 => ?_) (fun h30 => ?_)
            · have has1 : a < st := by have h9 := of_decide_eq_true h30; omega
              refine s_qg (q_move rfl) rfl rfl rfl ?_
              refine s_qg (q_move rfl) rfl rfl rfl ?_
              refine s_qg (q_lss rfl rfl) rfl rfl rfl ?_
              refine s_q (q_pick_t rfl rfl) rfl ?_
              refine g_nil ?_
              refine g_then ?_
              refine g_cond rfl (fun h31 => ?_) (fun h31 => ?_)
              · have hms1 : st < mid := by have h9 := of_decide_eq_true h31; omega
                refine g_region ?_
                refine s_q (q_move rfl) rfl ?_
                refine s_q (q_move rfl) rfl ?_
                refine s_q (q_move rfl) rfl ?_
                refine s_q (q_move rfl) rfl ?_
                refine s_q (q_move rfl) rfl ?_
                refine g_op (g_ownS [Res.row A n cap 50 2 (((P ++ ((L.take (st - a)) ++ ((R.take (mid - st)) ++ ((L.drop (st - a)) ++ ((R.drop (mid - st)) ++ S)))))).map En.c)] rfl (fun w1 hw1 ho1 => by have h7 := IH A n cap (P ++ ((L.take (st - a)) ++ ((R.take (mid - st)) ++ ((L.drop (st - a)) ++ ((R.drop (mid - st)) ++ S))))) P (L.take (st - a)) (R.take (mid - st)) ((L.drop (st - a)) ++ ((R.drop (mid - st)) ++ S)) (a) (st) (mid) w1 ho1 (by simp only [List.length_append, hlL, hlR, hlL2, hlR2]; omega) hn6 rfl (by first | omega | (simp only [List.length_append]; omega) | (simp; omega)) (by first | omega | (simp only [List.length_append]; omega) | (simp; omega)) (by first | omega | (simp only [List.length_append]; omega) | (simp; omega)) (by first | omega | (simp only [List.length_append]; omega) | (simp; omega)) (by first | omega | (simp only [List.length_append]; omega) | (simp; omega)) (sL.take _) (sR.take _) (by omega); exact h7) rfl ?_)
                rintro M205 ⟨sm205, em205, lm205⟩
                refine ⟨_, _, inferInstance, inferInstance, ?_⟩
                have sma := sm205
                have ema := em205
                have lma : M205.length = mid - a := by rw [lm205, hlL, hlR]; omega
                refine g_nil ?_
                refine g_then ?_
                refine g_seq ?_
                refine g_region ?_
                refine g_rowels (A := A) ((P ++ (M205 ++ ((L.drop (st - a)) ++ ((R.drop (mid - st)) ++ S)))).map En.c) (by first | rfl | simp only [List.append_assoc]) ?_
                refine s_q (q_move rfl) rfl ?_
                refine s_q (q_move rfl) rfl ?_
                refine s_q (q_lss rfl rfl) rfl ?_
                refine s_q (q_move rfl) rfl ?_
                refine g_split 209 rfl (fun h32 => ?_) (fun h32 => ?_)
                · have hme : st < m := by have h9 := of_decide_eq_true h32; omega
                  refine s_qg (q_move rfl) rfl rfl rfl ?_
                  refine s_qg (q_move rfl) rfl rfl rfl ?_
                  refine s_qg (q_lss rfl rfl) rfl rfl rfl ?_
                  refine s_q (q_pick_t rfl rfl) rfl ?_
                  refine g_nil ?_
                  refine g_then ?_
                  refine g_cond rfl (fun h33 => ?_) (fun h33 => ?_)
                  · have heb : mid + m - st < b := by have h9 := of_decide_eq_true h33; omega
                    refine g_region ?_
                    refine s_q (q_move rfl) rfl ?_
                    refine s_q (q_move rfl) rfl ?_
                    refine s_q (q_move rfl) rfl ?_
                    refine s_q (q_move rfl) rfl ?_
                    refine s_q (q_move rfl) rfl ?_
                    refine g_op (g_ownS [Res.row A n cap 50 2 (((P ++ (M205 ++ ((L.drop (st - a)) ++ ((R.drop (mid - st)) ++ S))))).map En.c)] rfl (fun w1 hw1 ho1 => by have h7 := IH A n cap (P ++ (M205 ++ ((L.drop (st - a)) ++ ((R.drop (mid - st)) ++ S)))) (P ++ M205) (L.drop (st - a)) (R.drop (mid - st)) S (mid) (((mid + m) - st)) (b) w1 ho1 (by have h9 := lma; simp only [List.length_append, hlL, hlR, hlL2, hlR2] at h9 ⊢; omega) hn6 (by simp only [List.append_assoc]) (by first | omega | (simp only [List.length_append]; omega) | (simp; omega)) (by first | omega | (simp only [List.length_append]; omega) | (simp; omega)) (by first | omega | (simp only [List.length_append]; omega) | (simp; omega)) (by first | omega | (simp only [List.length_append]; omega) | (simp; omega)) (by first | omega | (simp only [List.length_append]; omega) | (simp; omega)) (sL.drop _) (sR.drop _) (by omega); exact h7) rfl ?_)
                    rintro M219 ⟨sm219, em219, lm219⟩
                    refine ⟨_, _, inferInstance, inferInstance, ?_⟩
                    have smb := sm219
                    have emb := em219
                    have lmb : M219.length = b - mid := by rw [lm219, hlL2, hlR2]; omega
                    refine g_nil ?_
                    exact fin0 rfl (fun w' hw' => ⟨(M205 ++ M219), (by first | exact (by have h9 := two_halves sL sR (st - a) (mid - st) hlo hhi sma smb ema emb; exact ⟨h9.1, h9.2, by rw [List.length_append, lma, lmb]; omega⟩) | (dsimp only; exact (by have h9 := two_halves sL sR (st - a) (mid - st) hlo hhi sma smb ema emb; exact ⟨h9.1, h9.2, by rw [List.length_append, lma, lmb]; omega⟩))), rfl, by have h9 := wok_sub (L' := [Res.row A n cap 50 2 ((((P ++ M205) ++ (M219 ++ S))).map En.c)]) w' hw'; show WOK _ _ [Res.row A n cap 50 2 (((P ++ (((M205 ++ M219)) ++ S))).map En.c)] _; simp only [List.append_assoc] at h9 ⊢; exact h9⟩) _ (.inr rfl)
                  · have heb : b ≤ mid + m - st := by have h9 := of_decide_eq_false h33; omega
                    have smb : Srt ((L.drop (st - a)) ++ (R.drop (mid - st))) := by rw [show R.drop (mid - st) = [] from List.drop_eq_nil_of_le (by omega), List.append_nil]; exact sL.drop _
                    have emb : Same ((L.drop (st - a)) ++ (R.drop (mid - st))) ((L.drop (st - a)) ++ (R.drop (mid - st))) := Same.rfl'
                    have lmb : ((L.drop (st - a)) ++ (R.drop (mid - st))).length = b - mid := by rw [List.length_append, hlL2, hlR2]; omega
                    refine g_skip ?_
                    exact fin0 rfl (fun w' hw' => ⟨(M205 ++ ((L.drop (st - a)) ++ (R.drop (mid - st)))), (by first | exact (by have h9 := two_halves sL sR (st - a) (mid - st) hlo hhi sma smb ema emb; exact ⟨h9.1, h9.2, by rw [List.length_append, lma, lmb]; omega⟩) | (dsimp only; exact (by have h9 := two_halves sL sR (st - a) (mid - st) hlo hhi sma smb ema emb; exact ⟨h9.1, h9.2, by rw [List.length_append, lma, lmb]; omega⟩))), rfl, by have h9 := wok_sub (L' := [Res.row A n cap 50 2 (((P ++ (M205 ++ ((L.drop (st - a)) ++ ((R.drop (mid - st)) ++ S))))).map En.c)]) w' hw'; show WOK _ _ [Res.row A n cap 50 2 (((P ++ (((M205 ++ ((L.drop (st - a)) ++ (R.drop (mid - st))))) ++ S))).map En.c)] _; simp only [List.append_assoc] at h9 ⊢; exact h9⟩) _ (.inr rfl)
                · have smb : Srt ((L.drop (st - a)) ++ (R.drop (mid - st))) := by rw [show L.drop (st - a) = [] from List.drop_eq_nil_of_le (by have h9 := of_decide_eq_false h32; omega), List.nil_append]; exact sR.drop _
                  have emb : Same ((L.drop (st - a)) ++ (R.drop (mid - st))) ((L.drop (st - a)) ++ (R.drop (mid - st))) := Same.rfl'
                  have lmb : ((L.drop (st - a)) ++ (R.drop (mid - st))).length = b - mid := by rw [List.length_append, hlL2, hlR2]; omega
                  refine g_gf rfl rfl rfl rfl ?_
                  refine g_gf rfl rfl rfl rfl ?_
                  refine g_gf rfl rfl rfl rfl ?_
                  refine s_q (q_pick_f rfl rfl) rfl ?_
                  refine g_nil ?_
                  refine g_then ?_
                  refine g_false rfl ?_
                  refine g_skip ?_
                  exact fin0 rfl (fun w' hw' => ⟨(M205 ++ ((L.drop (st - a)) ++ (R.drop (mid - st)))), (by first | exact (by have h9 := two_halves sL sR (st - a) (mid - st) hlo hhi sma smb ema emb; exact ⟨h9.1, h9.2, by rw [List.length_append, lma, lmb]; omega⟩) | (dsimp only; exact (by have h9 := two_halves sL sR (st - a) (mid - st) hlo hhi sma smb ema emb; exact ⟨h9.1, h9.2, by rw [List.length_append, lma, lmb]; omega⟩))), rfl, by have h9 := wok_sub (L' := [Res.row A n cap 50 2 (((P ++ (M205 ++ ((L.drop (st - a)) ++ ((R.drop (mid - st)) ++ S))))).map En.c)]) w' hw'; show WOK _ _ [Res.row A n cap 50 2 (((P ++ (((M205 ++ ((L.drop (st - a)) ++ (R.drop (mid - st))))) ++ S))).map En.c)] _; simp only [List.append_assoc] at h9 ⊢; exact h9⟩) _ (.inr rfl)
              · have hms1 : mid ≤ st := by have h9 := of_decide_eq_false h31; omega
                have sma : Srt ((L.take (st - a)) ++ (R.take (mid - st))) := by rw [show mid - st = 0 from by omega, List.take_zero, List.append_nil]; exact sL.take _
                have ema : Same ((L.take (st - a)) ++ (R.take (mid - st))) ((L.take (st - a)) ++ (R.take (mid - st))) := Same.rfl'
                have lma : ((L.take (st - a)) ++ (R.take (mid - st))).length = mid - a := by rw [List.length_append, hlL, hlR]; omega
                refine g_skip ?_
                refine g_then ?_
                refine g_seq ?_
                refine g_region ?_
                refine g_rowels (A := A) ((P ++ (((L.take (st - a)) ++ (R.take (mid - st))) ++ ((L.drop (st - a)) ++ ((R.drop (mid - st)) ++ S)))).map En.c) (by first | rfl | simp only [List.append_assoc]) ?_
                refine s_q (q_move rfl) rfl ?_
                refine s_q (q_move rfl) rfl ?_
                refine s_q (q_lss rfl rfl) rfl ?_
                refine s_q (q_move rfl) rfl ?_
                refine g_split 209 rfl (fun h34 => ?_) (fun h34 => ?_)
                · have hme : st < m := by have h9 := of_decide_eq_true h34; omega
                  refine s_qg (q_move rfl) rfl rfl rfl ?_
                  refine s_qg (q_move rfl) rfl rfl rfl ?_
                  refine s_qg (q_lss rfl rfl) rfl rfl rfl ?_
                  refine s_q (q_pick_t rfl rfl) rfl ?_
                  refine g_nil ?_
                  refine g_then ?_
                  refine g_cond rfl (fun h35 => ?_) (fun h35 => ?_)
                  · have heb : mid + m - st < b := by have h9 := of_decide_eq_true h35; omega
                    refine g_region ?_
                    refine s_q (q_move rfl) rfl ?_
                    refine s_q (q_move rfl) rfl ?_
                    refine s_q (q_move rfl) rfl ?_
                    refine s_q (q_move rfl) rfl ?_
                    refine s_q (q_move rfl) rfl ?_
                    refine g_op (g_ownS [Res.row A n cap 50 2 (((P ++ (((L.take (st - a)) ++ (R.take (mid - st))) ++ ((L.drop (st - a)) ++ ((R.drop (mid - st)) ++ S))))).map En.c)] rfl (fun w1 hw1 ho1 => by have h7 := IH A n cap (P ++ (((L.take (st - a)) ++ (R.take (mid - st))) ++ ((L.drop (st - a)) ++ ((R.drop (mid - st)) ++ S)))) (P ++ ((L.take (st - a)) ++ (R.take (mid - st)))) (L.drop (st - a)) (R.drop (mid - st)) S (mid) (((mid + m) - st)) (b) w1 ho1 (by have h9 := lma; simp only [List.length_append, hlL, hlR, hlL2, hlR2] at h9 ⊢; omega) hn6 (by simp only [List.append_assoc]) (by first | omega | (simp only [List.length_append]; omega) | (simp; omega)) (by first | omega | (simp only [List.length_append]; omega) | (simp; omega)) (by first | omega | (simp only [List.length_append]; omega) | (simp; omega)) (by first | omega | (simp only [List.length_append]; omega) | (simp; omega)) (by first | omega | (simp only [List.length_append]; omega) | (simp; omega)) (sL.drop _) (sR.drop _) (by omega); exact h7) rfl ?_)
                    rintro M219 ⟨sm219, em219, lm219⟩
                    refine ⟨_, _, inferInstance, inferInstance, ?_⟩
                    have smb := sm219
                    have emb := em219
                    have lmb : M219.length = b - mid := by rw [lm219, hlL2, hlR2]; omega
                    refine g_nil ?_
                    exact fin0 rfl (fun w' hw' => ⟨(((L.take (st - a)) ++ (R.take (mid - st))) ++ M219), (by first | exact (by have h9 := two_halves sL sR (st - a) (mid - st) hlo hhi sma smb ema emb; exact ⟨h9.1, h9.2, by rw [List.length_append, lma, lmb]; omega⟩) | (dsimp only; exact (by have h9 := two_halves sL sR (st - a) (mid - st) hlo hhi sma smb ema emb; exact ⟨h9.1, h9.2, by rw [List.length_append, lma, lmb]; omega⟩))), rfl, by have h9 := wok_sub (L' := [Res.row A n cap 50 2 ((((P ++ ((L.take (st - a)) ++ (R.take (mid - st)))) ++ (M219 ++ S))).map En.c)]) w' hw'; show WOK _ _ [Res.row A n cap 50 2 (((P ++ (((((L.take (st - a)) ++ (R.take (mid - st))) ++ M219)) ++ S))).map En.c)] _; simp only [List.append_assoc] at h9 ⊢; exact h9⟩) _ (.inr rfl)
                  · have heb : b ≤ mid + m - st := by have h9 := of_decide_eq_false h35; omega
                    have smb : Srt ((L.drop (st - a)) ++ (R.drop (mid - st))) := by rw [show R.drop (mid - st) = [] from List.drop_eq_nil_of_le (by omega), List.append_nil]; exact sL.drop _
                    have emb : Same ((L.drop (st - a)) ++ (R.drop (mid - st))) ((L.drop (st - a)) ++ (R.drop (mid - st))) := Same.rfl'
                    have lmb : ((L.drop (st - a)) ++ (R.drop (mid - st))).length = b - mid := by rw [List.length_append, hlL2, hlR2]; omega
                    refine g_skip ?_
                    exact fin0 rfl (fun w' hw' => ⟨(((L.take (st - a)) ++ (R.take (mid - st))) ++ ((L.drop (st - a)) ++ (R.drop (mid - st)))), (by first | exact (by have h9 := two_halves sL sR (st - a) (mid - st) hlo hhi sma smb ema emb; exact ⟨h9.1, h9.2, by rw [List.length_append, lma, lmb]; omega⟩) | (dsimp only; exact (by have h9 := two_halves sL sR (st - a) (mid - st) hlo hhi sma smb ema emb; exact ⟨h9.1, h9.2, by rw [List.length_append, lma, lmb]; omega⟩))), rfl, by have h9 := wok_sub (L' := [Res.row A n cap 50 2 (((P ++ (((L.take (st - a)) ++ (R.take (mid - st))) ++ ((L.drop (st - a)) ++ ((R.drop (mid - st)) ++ S))))).map En.c)]) w' hw'; show WOK _ _ [Res.row A n cap 50 2 (((P ++ (((((L.take (st - a)) ++ (R.take (mid - st))) ++ ((L.drop (st - a)) ++ (R.drop (mid - st))))) ++ S))).map En.c)] _; simp only [List.append_assoc] at h9 ⊢; exact h9⟩) _ (.inr rfl)
                · have smb : Srt ((L.drop (st - a)) ++ (R.drop (mid - st))) := by rw [show L.drop (st - a) = [] from List.drop_eq_nil_of_le (by have h9 := of_decide_eq_false h34; omega), List.nil_append]; exact sR.drop _
                  have emb : Same ((L.drop (st - a)) ++ (R.drop (mid - st))) ((L.drop (st - a)) ++ (R.drop (mid - st))) := Same.rfl'
                  have lmb : ((L.drop (st - a)) ++ (R.drop (mid - st))).length = b - mid := by rw [List.length_append, hlL2, hlR2]; omega
                  refine g_gf rfl rfl rfl rfl ?_
                  refine g_gf rfl rfl rfl rfl ?_
                  refine g_gf rfl rfl rfl rfl ?_
                  refine s_q (q_pick_f rfl rfl) rfl ?_
                  refine g_nil ?_
                  refine g_then ?_
                  refine g_false rfl ?_
                  refine g_skip ?_
                  exact fin0 rfl (fun w' hw' => ⟨(((L.take (st - a)) ++ (R.take (mid - st))) ++ ((L.drop (st - a)) ++ (R.drop (mid - st)))), (by first | exact (by have h9 := two_halves sL sR (st - a) (mid - st) hlo hhi sma smb ema emb; exact ⟨h9.1, h9.2, by rw [List.length_append, lma, lmb]; omega⟩) | (dsimp only; exact (by have h9 := two_halves sL sR (st - a) (mid - st) hlo hhi sma smb ema emb; exact ⟨h9.1, h9.2, by rw [List.length_append, lma, lmb]; omega⟩))), rfl, by have h9 := wok_sub (L' := [Res.row A n cap 50 2 (((P ++ (((L.take (st - a)) ++ (R.take (mid - st))) ++ ((L.drop (st - a)) ++ ((R.drop (mid - st)) ++ S))))).map En.c)]) w' hw'; show WOK _ _ [Res.row A n cap 50 2 (((P ++ (((((L.take (st - a)) ++ (R.take (mid - st))) ++ ((L.drop (st - a)) ++ (R.drop (mid - st))))) ++ S))).map En.c)] _; simp only [List.append_assoc] at h9 ⊢; exact h9⟩) _ (.inr rfl)
            · have sma : Srt ((L.take (st - a)) ++ (R.take (mid - st))) := by rw [show st - a = 0 from by have h9 := of_decide_eq_false h30; omega]; exact sR.take _
              have ema : Same ((L.take (st - a)) ++ (R.take (mid - st))) ((L.take (st - a)) ++ (R.take (mid - st))) := Same.rfl'
              have lma : ((L.take (st - a)) ++ (R.take (mid - st))).length = mid - a := by rw [List.length_append, hlL, hlR]; omega
              refine g_gf rfl rfl rfl rfl ?_
              refine g_gf rfl rfl rfl rfl ?_
              refine g_gf rfl rfl rfl rfl ?_
              refine s_q (q_pick_f rfl rfl) rfl ?_
              refine g_nil ?_
              refine g_then ?_
              refine g_false rfl ?_
              refine g_skip ?_
              refine g_then ?_
              refine g_seq ?_
              refine g_region ?_
              refine g_rowels (A := A) ((P ++ (((L.take (st - a)) ++ (R.take (mid - st))) ++ ((L.drop (st - a)) ++ ((R.drop (mid - st)) ++ S)))).map En.c) (by first | rfl | simp only [List.append_assoc]) ?_
              refine s_q (q_move rfl) rfl ?_
              refine s_q (q_move rfl) rfl ?_
              refine s_q (q_lss rfl rfl) rfl ?_
              refine s_q (q_move rfl) rfl ?_
              refine g_split 209 rfl (fun h36 => ?_) (fun h36 => ?_)
              · have hme : st < m := by have h9 := of_decide_eq_true h36; omega
                refine s_qg (q_move rfl) rfl rfl rfl ?_
                refine s_qg (q_move rfl) rfl rfl rfl ?_
                refine s_qg (q_lss rfl rfl) rfl rfl rfl ?_
                refine s_q (q_pick_t rfl rfl) rfl ?_
                refine g_nil ?_
                refine g_then ?_
                refine g_cond rfl (fun h37 => ?_) (fun h37 => ?_)
                · have heb : mid + m - st < b := by have h9 := of_decide_eq_true h37; omega
                  refine g_region ?_
                  refine s_q (q_move rfl) rfl ?_
                  refine s_q (q_move rfl) rfl ?_
                  refine s_q (q_move rfl) rfl ?_
                  refine s_q (q_move rfl) rfl ?_
                  refine s_q (q_move rfl) rfl ?_
                  refine g_op (g_ownS [Res.row A n cap 50 2 (((P ++ (((L.take (st - a)) ++ (R.take (mid - st))) ++ ((L.drop (st - a)) ++ ((R.drop (mid - st)) ++ S))))).map En.c)] rfl (fun w1 hw1 ho1 => by have h7 := IH A n cap (P ++ (((L.take (st - a)) ++ (R.take (mid - st))) ++ ((L.drop (st - a)) ++ ((R.drop (mid - st)) ++ S)))) (P ++ ((L.take (st - a)) ++ (R.take (mid - st)))) (L.drop (st - a)) (R.drop (mid - st)) S (mid) (((mid + m) - st)) (b) w1 ho1 (by have h9 := lma; simp only [List.length_append, hlL, hlR, hlL2, hlR2] at h9 ⊢; omega) hn6 (by simp only [List.append_assoc]) (by first | omega | (simp only [List.length_append]; omega) | (simp; omega)) (by first | omega | (simp only [List.length_append]; omega) | (simp; omega)) (by first | omega | (simp only [List.length_append]; omega) | (simp; omega)) (by first | omega | (simp only [List.length_append]; omega) | (simp; omega)) (by first | omega | (simp only [List.length_append]; omega) | (simp; omega)) (sL.drop _) (sR.drop _) (by omega); exact h7) rfl ?_)
                  rintro M219 ⟨sm219, em219, lm219⟩
                  refine ⟨_, _, inferInstance, inferInstance, ?_⟩
                  have smb := sm219
                  have emb := em219
                  have lmb : M219.length = b - mid := by rw [lm219, hlL2, hlR2]; omega
                  refine g_nil ?_
                  exact fin0 rfl (fun w' hw' => ⟨(((L.take (st - a)) ++ (R.take (mid - st))) ++ M219), (by first | exact (by have h9 := two_halves sL sR (st - a) (mid - st) hlo hhi sma smb ema emb; exact ⟨h9.1, h9.2, by rw [List.length_append, lma, lmb]; omega⟩) | (dsimp only; exact (by have h9 := two_halves sL sR (st - a) (mid - st) hlo hhi sma smb ema emb; exact ⟨h9.1, h9.2, by rw [List.length_append, lma, lmb]; omega⟩))), rfl, by have h9 := wok_sub (L' := [Res.row A n cap 50 2 ((((P ++ ((L.take (st - a)) ++ (R.take (mid - st)))) ++ (M219 ++ S))).map En.c)]) w' hw'; show WOK _ _ [Res.row A n cap 50 2 (((P ++ (((((L.take (st - a)) ++ (R.take (mid - st))) ++ M219)) ++ S))).map En.c)] _; simp only [List.append_assoc] at h9 ⊢; exact h9⟩) _ (.inr rfl)
                · have heb : b ≤ mid + m - st := by have h9 := of_decide_eq_false h37; omega
                  have smb : Srt ((L.drop (st - a)) ++ (R.drop (mid - st))) := by rw [show R.drop (mid - st) = [] from List.drop_eq_nil_of_le (by omega), List.append_nil]; exact sL.drop _
                  have emb : Same ((L.drop (st - a)) ++ (R.drop (mid - st))) ((L.drop (st - a)) ++ (R.drop (mid - st))) := Same.rfl'
                  have lmb : ((L.drop (st - a)) ++ (R.drop (mid - st))).length = b - mid := by rw [List.length_append, hlL2, hlR2]; omega
                  refine g_skip ?_
                  exact fin0 rfl (fun w' hw' => ⟨(((L.take (st - a)) ++ (R.take (mid - st))) ++ ((L.drop (st - a)) ++ (R.drop (mid - st)))), (by first | exact (by have h9 := two_halves sL sR (st - a) (mid - st) hlo hhi sma smb ema emb; exact ⟨h9.1, h9.2, by rw [List.length_append, lma, lmb]; omega⟩) | (dsimp only; exact (by have h9 := two_halves sL sR (st - a) (mid - st) hlo hhi sma smb ema emb; exact ⟨h9.1, h9.2, by rw [List.length_append, lma, lmb]; omega⟩))), rfl, by have h9 := wok_sub (L' := [Res.row A n cap 50 2 (((P ++ (((L.take (st - a)) ++ (R.take (mid - st))) ++ ((L.drop (st - a)) ++ ((R.drop (mid - st)) ++ S))))).map En.c)]) w' hw'; show WOK _ _ [Res.row A n cap 50 2 (((P ++ (((((L.take (st - a)) ++ (R.take (mid - st))) ++ ((L.drop (st - a)) ++ (R.drop (mid - st))))) ++ S))).map En.c)] _; simp only [List.append_assoc] at h9 ⊢; exact h9⟩) _ (.inr rfl)
              · have smb : Srt ((L.drop (st - a)) ++ (R.drop (mid - st))) := by rw [show L.drop (st - a) = [] from List.drop_eq_nil_of_le (by have h9 := of_decide_eq_false h36; omega), List.nil_append]; exact sR.drop _
                have emb : Same ((L.drop (st - a)) ++ (R.drop (mid - st))) ((L.drop (st - a)) ++ (R.drop (mid - st))) := Same.rfl'
                have lmb : ((L.drop (st - a)) ++ (R.drop (mid - st))).length = b - mid := by rw [List.length_append, hlL2, hlR2]; omega
                refine g_gf rfl rfl rfl rfl ?_
                refine g_gf rfl rfl rfl rfl ?_
                refine g_gf rfl rfl rfl rfl ?_
                refine s_q (q_pick_f rfl rfl) rfl ?_
                refine g_nil ?_
                refine g_then ?_
                refine g_false rfl ?_
                refine g_skip ?_
                exact fin0 rfl (fun w' hw' => ⟨(((L.take (st - a)) ++ (R.take (mid - st))) ++ ((L.drop (st - a)) ++ (R.drop (mid - st)))), (by first | exact (by have h9 := two_halves sL sR (st - a) (mid - st) hlo hhi sma smb ema emb; exact ⟨h9.1, h9.2, by rw [List.length_append, lma, lmb]; omega⟩) | (dsimp only; exact (by have h9 := two_halves sL sR (st - a) (mid - st) hlo hhi sma smb ema emb; exact ⟨h9.1, h9.2, by rw [List.length_append, lma, lmb]; omega⟩))), rfl, by have h9 := wok_sub (L' := [Res.row A n cap 50 2 (((P ++ (((L.take (st - a)) ++ (R.take (mid - st))) ++ ((L.drop (st - a)) ++ ((R.drop (mid - st)) ++ S))))).map En.c)]) w' hw'; show WOK _ _ [Res.row A n cap 50 2 (((P ++ (((((L.take (st - a)) ++ (R.take (mid - st))) ++ ((L.drop (st - a)) ++ (R.drop (mid - st))))) ++ S))).map En.c)] _; simp only [List.append_assoc] at h9 ⊢; exact h9⟩) _ (.inr rfl)
      · have hmm : m ≤ mid := by have h9 := of_decide_eq_false h9; omega
        refine g_seq ?_
        refine g_region ?_
        refine s_q (q_move rfl) rfl ?_
        refine s_q (q_assign rfl) rfl ?_
        refine g_nil ?_
        refine g_then ?_
        refine g_region ?_
        refine s_q (q_move rfl) rfl ?_
        refine s_q (q_assign rfl) rfl ?_
        refine g_nil ?_
        refine g_then ?_
        refine g_seq ?_
        refine g_region ?_
        refine s_q (q_move rfl) rfl ?_
        refine s_q (q_subn (a := (mid + m)) (b := 1) rfl rfl (by first | omega | (simp; omega) | (simp_all; omega)) (by first | omega | (simp; omega) | (simp_all; omega))) rfl ?_
        refine s_q (q_assign rfl) rfl ?_
        refine g_nil ?_
        refine g_then ?_
        refine g_seq ?_
        refine g_block ?_
        refine g_loopk [0, 1, 2, 3, 4, 18, 19, 22] (fun (x : Nat × Nat) => [(20, .int .i64 ((x.1 : Nat) : Int)), (21, .int .i64 ((x.2 : Nat) : Int))]) (fun (x : Nat × Nat) => [Res.row A n cap 50 2 ((d).map En.c)]) (fun (x : Nat × Nat) => a ≤ x.1 ∧ x.1 ≤ x.2 ∧ (x.2 ≤ mid ∧ x.2 ≤ m) ∧ mid + m ≤ x.1 + b ∧ x.1 ≤ m ∧ (∀ y ∈ L.take (x.1 - a), ∀ z ∈ R.drop (mid - x.1), y.e ≤ z.e) ∧ (∀ y ∈ L.drop (x.2 - a), ∀ z ∈ R.take (mid - x.2), z.e < y.e)) (fun (x : Nat × Nat) => x.2 - x.1) (a, m) (by (try dsimp only); exact ⟨(by omega), (by omega), (by omega), (by omega), (by omega), (fun y hy z hz => by rw [Nat.sub_self, List.take_zero] at hy; cases hy), (fun y hy z hz => by rw [List.drop_eq_nil_of_le (by omega)] at hy; cases hy)⟩) rfl (by repeat (first | exact trivial | refine ⟨rfl, ?_⟩)) wok_sub ?_
        rintro ⟨st, r⟩ ⟨has, hsr, hrm, hnb, hst0, hlo, hhi⟩
        replace has : a ≤ st := has
        replace hsr : st ≤ r := hsr
        replace hrm : r ≤ mid ∧ r ≤ m := hrm
        replace hnb : mid + m ≤ st + b := hnb
        replace hst0 : st ≤ m := hst0
        replace hlo : ∀ y ∈ L.take (st - a), ∀ z ∈ R.drop (mid - st), y.e ≤ z.e := hlo
        replace hhi : ∀ y ∈ L.drop (r - a), ∀ z ∈ R.take (mid - r), z.e < y.e := hhi
        refine g_setL (L' := [Res.row A n cap 50 2 ((d).map En.c)]) rfl ?_
        refine g_val 20 (v' := .int .i64 ((st : Nat) : Int)) rfl rfl ?_
        refine g_val 21 (v' := .int .i64 ((r : Nat) : Int)) rfl rfl ?_
        refine g_seq ?_
        refine g_seq ?_
        refine g_region ?_
        refine s_q (q_move rfl) rfl ?_
        refine s_q (q_move rfl) rfl ?_
        refine s_q (q_lss rfl rfl) rfl ?_
        refine g_nil ?_
        refine g_then ?_
        refine g_cond rfl (fun h38 => ?_) (fun h38 => ?_)
        · have hsr1 : st < r := by have h9 := of_decide_eq_true h38; omega
          refine g_skip ?_
          refine g_then ?_
          refine g_block ?_
          refine g_seq ?_
          refine g_region ?_
          refine s_q (q_move rfl) rfl ?_
          refine s_q (q_move rfl) rfl ?_
          refine s_q (q_addn (a := st) (b := r) rfl rfl (by first | omega | (simp; omega) | (simp_all; omega))) rfl ?_
          refine s_q (q_convz (z := (((st + r) : Nat) : Int)) rfl (wu64 (by omega) (by omega))) rfl ?_
          refine s_q (q_shr1 (a := st + r) rfl rfl) rfl ?_
          refine s_q (q_convz (z := ((((st + r) / 2) : Nat) : Int)) rfl (wi64 (by omega) (by omega))) rfl ?_
          refine s_q (q_assign rfl) rfl ?_
          obtain ⟨c, hhc⟩ : ∃ q : Nat, q = (st + r) / 2 := ⟨_, rfl⟩
          refine g_val 23 (v' := .int .i64 ((c : Nat) : Int)) rfl (by rw [hhc]) ?_
          have ic : c < d.length := by omega
          have ip : mid + m - 1 - c < d.length := by omega
          have gc : d[c] = L[c - a] := getL hd ha (by omega) (by omega) ic
          have gp : d[mid + m - 1 - c] = R[mid - (c + 1)] := by have h9 := getR hd ha hm (c := mid + m - 1 - c) (by omega) (by omega) ip; rw [h9]; congr 1; omega
          refine g_nil ?_
          refine g_then ?_
          refine g_seq ?_
          refine d_region [] mixed rfl rfl ?_
          refine d_q 0 rfl (by kernel_rfl) (q_move rfl) wok_sub rfl (ls' := #[true, false, false, false, false, false, false, false, false, false, false, false, false, false]) rfl ?_
          refine d_q 1 rfl (by kernel_rfl) (q_move rfl) wok_sub rfl (ls' := #[true, true, false, false, false, false, false, false, false, false, false, false, false, false]) rfl ?_
          refine d_q 2 rfl (by kernel_rfl) (q_move rfl) wok_sub rfl (ls' := #[true, true, true, false, false, false, false, false, false, false, false, false, false, false]) rfl ?_
          refine d_q 3 rfl (by kernel_rfl) (q_move rfl) wok_sub rfl (ls' := #[true, true, true, true, false, false, false, false, false, false, false, false, false, false]) rfl ?_
          refine d_q 4 rfl (by kernel_rfl) (q_subn (a := ((mid + m) - 1)) (b := c) rfl rfl (by first | omega | (simp; omega) | (simp_all; omega)) (by first | omega | (simp; omega) | (simp_all; omega))) wok_sub rfl (ls' := #[true, true, true, true, true, false, false, false, false, false, false, false, false, false]) rfl ?_
          refine d_q 5 rfl (by kernel_rfl) (q_index (i := (((mid + m) - 1) - c)) rfl rfl rfl (InRow.rdb (A := A) (els := (d).map En.c) (by first | (simpa using hn) | (simp only [List.length_map]; omega) | (simp; omega)) (map_cat (c := En.c) (fun _ => rfl) _)) (by first | omega | (simp; done) | (simp; omega))) wok_sub rfl (ls' := #[true, true, true, true, true, true, false, false, false, false, false, false, false, false]) rfl ?_
          refine d_q 6 rfl (by kernel_rfl) (q_load_ew (i := (((mid + m) - 1) - c)) rfl (InRow.rdb (A := A) (els := (d).map En.c) (by first | (simpa using hn) | (simp only [List.length_map]; omega) | (simp; omega)) (map_cat (c := En.c) (fun _ => rfl) _)) (map_get (by first | exact (by first | omega | (simp; done) | (simp; omega)) | omega | (simp_all; done) | (simp_all; omega))) rfl) wok_sub rfl (ls' := #[true, true, true, true, true, true, true, false, false, false, false, false, false, false]) rfl ?_
          refine d_q 7 rfl (by kernel_rfl) (q_move rfl) wok_sub rfl (ls' := #[true, true, true, true, true, true, true, true, false, false, false, false, false, false]) rfl ?_
          refine d_q 8 rfl (by kernel_rfl) (q_move rfl) wok_sub rfl (ls' := #[true, true, true, true, true, true, true, true, true, false, false, false, false, false]) rfl ?_
          refine d_q 9 rfl (by kernel_rfl) (q_index (i := c) rfl rfl rfl (InRow.rdb (A := A) (els := (d).map En.c) (by first | (simpa using hn) | (simp only [List.length_map]; omega) | (simp; omega)) (map_cat (c := En.c) (fun _ => rfl) _)) (by first | omega | (simp; done) | (simp; omega))) wok_sub rfl (ls' := #[true, true, true, true, true, true, true, true, true, true, false, false, false, false]) rfl ?_
          refine d_q 10 rfl (by kernel_rfl) (q_load_ew (i := c) rfl (InRow.rdb (A := A) (els := (d).map En.c) (by first | (simpa using hn) | (simp only [List.length_map]; omega) | (simp; omega)) (map_cat (c := En.c) (fun _ => rfl) _)) (map_get (by first | exact (by first | omega | (simp; done) | (simp; omega)) | omega | (simp_all; done) | (simp_all; omega))) rfl) wok_sub rfl (ls' := #[true, true, true, true, true, true, true, true, true, true, true, false, false, false]) rfl ?_
          refine d_op 11 rfl (by kernel_rfl) (ls' := #[true, true, true, true, true, true, true, true, true, true, true, true, false, false]) rfl wok_sub (g_purev rfl rfl (fun w1 hw1 => cmp_any _ _ w1) rfl ?_)
          refine d_q 12 rfl (by kernel_rfl) (q_lss rfl rfl) wok_sub rfl (ls' := #[true, true, true, true, true, true, true, true, true, true, true, true, true, false]) rfl ?_
          refine d_q 13 rfl (by kernel_rfl) (q_not rfl) wok_sub rfl (ls' := #[true, true, true, true, true, true, true, true, true, true, true, true, true, true]) rfl ?_
          refine d_end (by kernel_rfl) (.inr wok_sub) ?_
          refine g_then ?_
          refine g_cond rfl (fun h39 => ?_) (fun h39 => ?_)
          · have hlt : ¬ (R[mid - (c + 1)]).e < (L[c - a]).e := by have h9 := h39; simp only [Bool.not_eq_true'] at h9; have h8 := of_decide_eq_false h9; rw [cmp_lt, gp, gc] at h8; exact h8
            refine g_region ?_
            refine s_q (q_move rfl) rfl ?_
            refine s_q (q_inc rfl rfl (by omega)) rfl ?_
            refine s_q (q_assign rfl) rfl ?_
            refine g_nil ?_
            refine g_blk_n ?_
            exact g_again ((c + 1), r) (by (try dsimp only); exact ⟨(by omega), (by omega), hrm, (by omega), (by omega), (fun y hy z hz => by have h8 := take_le sL (k := c - a) (by omega) (Int.le_refl _) y (by rw [show c - a + 1 = c + 1 - a from by omega]; exact hy); have h9 := drop_le sR (k := mid - (c + 1)) (by omega) (Int.le_refl _) z hz; omega), hhi⟩) (by dsimp only; omega) (by repeat (first | exact trivial | refine ⟨rfl, ?_⟩)) wok_sub
          · have hlt : (R[mid - (c + 1)]).e < (L[c - a]).e := by have h9 := h39; simp only [Bool.not_eq_false'] at h9; have h8 := of_decide_eq_true h9; rw [cmp_lt, gp, gc] at h8; exact h8
            refine g_region ?_
            refine s_q (q_move rfl) rfl ?_
            refine s_q (q_assign rfl) rfl ?_
            refine g_nil ?_
            refine g_blk_n ?_
            exact g_again (st, c) (by (try dsimp only); exact ⟨has, (by omega), (by omega), hnb, hst0, hlo, (fun y hy z hz => by have h8 := drop_le sL (k := c - a) (by omega) (Int.le_refl _) y hy; have h9 := take_le sR (k := mid - (c + 1)) (by omega) (Int.le_refl _) z (by rw [show mid - (c + 1) + 1 = mid - c from by omega]; exact hz); omega)⟩) (by dsimp only; omega) (by repeat (first | exact trivial | refine ⟨rfl, ?_⟩)) wok_sub
        · have hsr1 : st = r := by have h9 := of_decide_eq_false h38; omega
          subst hsr1
          have hlL : (L.take (st - a)).length = st - a := by simp; omega
          have hlR : (R.take (mid - st)).length = mid - st := by simp; omega
          have hlL2 : (L.drop (st - a)).length = m - st := by simp; omega
          have hlR2 : (R.drop (mid - st)).length = b - (mid + m - st) := by simp; omega
          refine g_exit ?_
          refine g_then_x (g_then_x (g_blk_hit ?_))
          refine g_then ?_
          refine g_seq ?_
          refine g_region ?_
          refine s_q (q_move rfl) rfl ?_
          refine s_q (q_move rfl) rfl ?_
          refine s_q (q_subn (a := (mid + m)) (b := st) rfl rfl (by first | omega | (simp; omega) | (simp_all; omega)) (by first | omega | (simp; omega) | (simp_all; omega))) rfl ?_
          refine s_q (q_assign rfl) rfl ?_
          refine g_nil ?_
          refine g_then ?_
          refine g_seq ?_
          refine g_seq ?_
          refine g_region ?_
          refine s_q (q_move rfl) rfl ?_
          refine s_q (q_move rfl) rfl ?_
          refine s_q (q_lss rfl rfl) rfl ?_
          refine s_q (q_move rfl) rfl ?_
          refine g_split 181 rfl (fun h40 => ?_) (fun h40 => ?_)
          · have hsm : st < m := by have h9 := of_decide_eq_true h40; omega
            refine s_qg (q_move rfl) rfl rfl rfl ?_
            refine s_qg (q_move rfl) rfl rfl rfl ?_
            refine s_qg (q_lss rfl rfl) rfl rfl rfl ?_
            refine s_q (q_pick_t rfl rfl) rfl ?_
            refine g_nil ?_
            refine g_then ?_
            refine g_cond rfl (fun h41 => ?_) (fun h41 => ?_)
            · have hms : st < mid := by have h9 := of_decide_eq_true h41; omega
              refine g_region ?_
              refine s_q (q_move rfl) rfl ?_
              refine s_q (q_move rfl) rfl ?_
              refine s_q (q_move rfl) rfl ?_
              refine s_q (q_move rfl) rfl ?_
              refine s_q (q_move rfl) rfl ?_
              refine g_op (g_ownS [Res.row A n cap 50 2 ((d).map En.c)] rfl (fun w1 hw1 ho1 => by have h7 := rotate_any A n cap d (P ++ (L.take (st - a))) (L.drop (st - a)) (R.take (mid - st)) ((R.drop (mid - st)) ++ S) (st) (m) (((mid + m) - st)) w1 ho1 (by omega) hn6 (by rw [hd]; simp only [List.append_assoc]; rw [← List.append_assoc (L.take (st - a)), List.take_append_drop, ← List.append_assoc (R.take (mid - st)), List.take_append_drop]) (by first | omega | (simp; omega)) (by first | omega | (simp; omega)) (by first | omega | (simp; omega)) (by first | omega | (simp; omega)) (by first | omega | (simp; omega)); exact h7) rfl ?_)
              rintro ⟨⟩ _
              refine ⟨_, _, inferInstance, inferInstance, ?_⟩
              refine g_nil ?_
              refine g_then ?_
              refine g_seq ?_
              refine g_seq ?_
              refine g_region ?_
              refine g_rowels (A := A) ((P ++ ((L.take (st - a)) ++ ((R.take (mid - st)) ++ ((L.drop (st - a)) ++ ((R.drop (mid - st)) ++ S))))).map En.c) (by simp only [List.append_assoc]) ?_
              refine s_q (q_move rfl) rfl ?_
              refine s_q (q_move rfl) rfl ?_
              refine s_q (q_lss rfl rfl) rfl ?_
              refine s_q (q_move rfl) rfl ?_
              refine g_split 195 rfl (fun h42 => ?_) (fun h42 => ?_)
              · have has1 : a < st := by have h9 := of_decide_eq_true h42; omega
                refine s_qg (q_move rfl) rfl rfl rfl ?_
                refine s_qg (q_move rfl) rfl rfl rfl ?_
                refine s_qg (q_lss rfl rfl) rfl rfl rfl ?_
                refine s_q (q_pick_t rfl rfl) rfl ?_
                refine g_nil ?_
                refine g_then ?_
                refine g_cond rfl (fun h43 => ?_) (fun h43 => ?_)
                · have hms1 : st < mid := by have h9 := of_decide_eq_true h43; omega
                  refine g_region ?_
                  refine s_q (q_move rfl) rfl ?_
                  refine s_q (q_move rfl) rfl ?_
                  refine s_q (q_move rfl) rfl ?_
                  refine s_q (q_move rfl) rfl ?_
                  refine s_q (q_move rfl) rfl ?_
                  refine g_op (g_ownS [Res.row A n cap 50 2 (((P ++ ((L.take (st - a)) ++ ((R.take (mid - st)) ++ ((L.drop (st - a)) ++ ((R.drop (mid - st)) ++ S)))))).map En.c)] rfl (fun w1 hw1 ho1 => by have h7 := IH A n cap (P ++ ((L.take (st - a)) ++ ((R.take (mid - st)) ++ ((L.drop (st - a)) ++ ((R.drop (mid - st)) ++ S))))) P (L.take (st - a)) (R.take (mid - st)) ((L.drop (st - a)) ++ ((R.drop (mid - st)) ++ S)) (a) (st) (mid) w1 ho1 (by simp only [List.length_append, hlL, hlR, hlL2, hlR2]; omega) hn6 rfl (by first | omega | (simp only [List.length_append]; omega) | (simp; omega)) (by first | omega | (simp only [List.length_append]; omega) | (simp; omega)) (by first | omega | (simp only [List.length_append]; omega) | (simp; omega)) (by first | omega | (simp only [List.length_append]; omega) | (simp; omega)) (by first | omega | (simp only [List.length_append]; omega) | (simp; omega)) (sL.take _) (sR.take _) (by omega); exact h7) rfl ?_)
                  rintro M205 ⟨sm205, em205, lm205⟩
                  refine ⟨_, _, inferInstance, inferInstance, ?_⟩
                  have sma := sm205
                  have ema := em205
                  have lma : M205.length = mid - a := by rw [lm205, hlL, hlR]; omega
                  refine g_nil ?_
                  refine g_then ?_
                  refine g_seq ?_
                  refine g_region ?_
                  refine g_rowels (A := A) ((P ++ (M205 ++ ((L.drop (st - a)) ++ ((R.drop (mid - st)) ++ S)))).map En.c) (by first | rfl | simp only [List.append_assoc]) ?_
                  refine s_q (q_move rfl) rfl ?_
                  refine s_q (q_move rfl) rfl ?_
                  refine s_q (q_lss rfl rfl) rfl ?_
                  refine s_q (q_move rfl) rfl ?_
                  refine g_split 209 rfl (fun h44 => ?_) (fun h44 => ?_)
                  · have hme : st < m := by have h9 := of_decide_eq_true h44; omega
                    refine s_qg (q_move rfl) rfl rfl rfl ?_
                    refine s_qg (q_move rfl) rfl rfl rfl ?_
                    refine s_qg (q_lss rfl rfl) rfl rfl rfl ?_
                    refine s_q (q_pick_t rfl rfl) rfl ?_
                    refine g_nil ?_
                    refine g_then ?_
                    refine g_cond rfl (fun h45 => ?_) (fun h45 => ?_)
                    · have heb : mid + m - st < b := by have h9 := of_decide_eq_true h45; omega
                      refine g_region ?_
                      refine s_q (q_move rfl) rfl ?_
                      refine s_q (q_move rfl) rfl ?_
                      refine s_q (q_move rfl) rfl ?_
                      refine s_q (q_move rfl) rfl ?_
                      refine s_q (q_move rfl) rfl ?_
                      refine g_op (g_ownS [Res.row A n cap 50 2 (((P ++ (M205 ++ ((L.drop (st - a)) ++ ((R.drop (mid - st)) ++ S))))).map En.c)] rfl (fun w1 hw1 ho1 => by have h7 := IH A n cap (P ++ (M205 ++ ((L.drop (st - a)) ++ ((R.drop (mid - st)) ++ S)))) (P ++ M205) (L.drop (st - a)) (R.drop (mid - st)) S (mid) (((mid + m) - st)) (b) w1 ho1 (by have h9 := lma; simp only [List.length_append, hlL, hlR, hlL2, hlR2] at h9 ⊢; omega) hn6 (by simp only [List.append_assoc]) (by first | omega | (simp only [List.length_append]; omega) | (simp; omega)) (by first | omega | (simp only [List.length_append]; omega) | (simp; omega)) (by first | omega | (simp only [List.length_append]; omega) | (simp; omega)) (by first | omega | (simp only [List.length_append]; omega) | (simp; omega)) (by first | omega | (simp only [List.length_append]; omega) | (simp; omega)) (sL.drop _) (sR.drop _) (by omega); exact h7) rfl ?_)
                      rintro M219 ⟨sm219, em219, lm219⟩
                      refine ⟨_, _, inferInstance, inferInstance, ?_⟩
                      have smb := sm219
                      have emb := em219
                      have lmb : M219.length = b - mid := by rw [lm219, hlL2, hlR2]; omega
                      refine g_nil ?_
                      exact fin0 rfl (fun w' hw' => ⟨(M205 ++ M219), (by first | exact (by have h9 := two_halves sL sR (st - a) (mid - st) hlo hhi sma smb ema emb; exact ⟨h9.1, h9.2, by rw [List.length_append, lma, lmb]; omega⟩) | (dsimp only; exact (by have h9 := two_halves sL sR (st - a) (mid - st) hlo hhi sma smb ema emb; exact ⟨h9.1, h9.2, by rw [List.length_append, lma, lmb]; omega⟩))), rfl, by have h9 := wok_sub (L' := [Res.row A n cap 50 2 ((((P ++ M205) ++ (M219 ++ S))).map En.c)]) w' hw'; show WOK _ _ [Res.row A n cap 50 2 (((P ++ (((M205 ++ M219)) ++ S))).map En.c)] _; simp only [List.append_assoc] at h9 ⊢; exact h9⟩) _ (.inr rfl)
                    · have heb : b ≤ mid + m - st := by have h9 := of_decide_eq_false h45; omega
                      have smb : Srt ((L.drop (st - a)) ++ (R.drop (mid - st))) := by rw [show R.drop (mid - st) = [] from List.drop_eq_nil_of_le (by omega), List.append_nil]; exact sL.drop _
                      have emb : Same ((L.drop (st - a)) ++ (R.drop (mid - st))) ((L.drop (st - a)) ++ (R.drop (mid - st))) := Same.rfl'
                      have lmb : ((L.drop (st - a)) ++ (R.drop (mid - st))).length = b - mid := by rw [List.length_append, hlL2, hlR2]; omega
                      refine g_skip ?_
                      exact fin0 rfl (fun w' hw' => ⟨(M205 ++ ((L.drop (st - a)) ++ (R.drop (mid - st)))), (by first | exact (by have h9 := two_halves sL sR (st - a) (mid - st) hlo hhi sma smb ema emb; exact ⟨h9.1, h9.2, by rw [List.length_append, lma, lmb]; omega⟩) | (dsimp only; exact (by have h9 := two_halves sL sR (st - a) (mid - st) hlo hhi sma smb ema emb; exact ⟨h9.1, h9.2, by rw [List.length_append, lma, lmb]; omega⟩))), rfl, by have h9 := wok_sub (L' := [Res.row A n cap 50 2 (((P ++ (M205 ++ ((L.drop (st - a)) ++ ((R.drop (mid - st)) ++ S))))).map En.c)]) w' hw'; show WOK _ _ [Res.row A n cap 50 2 (((P ++ (((M205 ++ ((L.drop (st - a)) ++ (R.drop (mid - st))))) ++ S))).map En.c)] _; simp only [List.append_assoc] at h9 ⊢; exact h9⟩) _ (.inr rfl)
                  · have smb : Srt ((L.drop (st - a)) ++ (R.drop (mid - st))) := by rw [show L.drop (st - a) = [] from List.drop_eq_nil_of_le (by have h9 := of_decide_eq_false h44; omega), List.nil_append]; exact sR.drop _
                    have emb : Same ((L.drop (st - a)) ++ (R.drop (mid - st))) ((L.drop (st - a)) ++ (R.drop (mid - st))) := Same.rfl'
                    have lmb : ((L.drop (st - a)) ++ (R.drop (mid - st))).length = b - mid := by rw [List.length_append, hlL2, hlR2]; omega
                    refine g_gf rfl rfl rfl rfl ?_
                    refine g_gf rfl rfl rfl rfl ?_
                    refine g_gf rfl rfl rfl rfl ?_
                    refine s_q (q_pick_f rfl rfl) rfl ?_
                    refine g_nil ?_
                    refine g_then ?_
                    refine g_false rfl ?_
                    refine g_skip ?_
                    exact fin0 rfl (fun w' hw' => ⟨(M205 ++ ((L.drop (st - a)) ++ (R.drop (mid - st)))), (by first | exact (by have h9 := two_halves sL sR (st - a) (mid - st) hlo hhi sma smb ema emb; exact ⟨h9.1, h9.2, by rw [List.length_append, lma, lmb]; omega⟩) | (dsimp only; exact (by have h9 := two_halves sL sR (st - a) (mid - st) hlo hhi sma smb ema emb; exact ⟨h9.1, h9.2, by rw [List.length_append, lma, lmb]; omega⟩))), rfl, by have h9 := wok_sub (L' := [Res.row A n cap 50 2 (((P ++ (M205 ++ ((L.drop (st - a)) ++ ((R.drop (mid - st)) ++ S))))).map En.c)]) w' hw'; show WOK _ _ [Res.row A n cap 50 2 (((P ++ (((M205 ++ ((L.drop (st - a)) ++ (R.drop (mid - st))))) ++ S))).map En.c)] _; simp only [List.append_assoc] at h9 ⊢; exact h9⟩) _ (.inr rfl)
                · have hms1 : mid ≤ st := by have h9 := of_decide_eq_false h43; omega
                  have sma : Srt ((L.take (st - a)) ++ (R.take (mid - st))) := by rw [show mid - st = 0 from by omega, List.take_zero, List.append_nil]; exact sL.take _
                  have ema : Same ((L.take (st - a)) ++ (R.take (mid - st))) ((L.take (st - a)) ++ (R.take (mid - st))) := Same.rfl'
                  have lma : ((L.take (st - a)) ++ (R.take (mid - st))).length = mid - a := by rw [List.length_append, hlL, hlR]; omega
                  refine g_skip ?_
                  refine g_then ?_
                  refine g_seq ?_
                  refine g_region ?_
                  refine g_rowels (A := A) ((P ++ (((L.take (st - a)) ++ (R.take (mid - st))) ++ ((L.drop (st - a)) ++ ((R.drop (mid - st)) ++ S)))).map En.c) (by first | rfl | simp only [List.append_assoc]) ?_
                  refine s_q (q_move rfl) rfl ?_
                  refine s_q (q_move rfl) rfl ?_
                  refine s_q (q_lss rfl rfl) rfl ?_
                  refine s_q (q_move rfl) rfl ?_
                  refine g_split 209 rfl (fun h46 => ?_) (fun h46 => ?_)
                  · have hme : st < m := by have h9 := of_decide_eq_true h46; omega
                    refine s_qg (q_move rfl) rfl rfl rfl ?_
                    refine s_qg (q_move rfl) rfl rfl rfl ?_
                    refine s_qg (q_lss rfl rfl) rfl rfl rfl ?_
                    refine s_q (q_pick_t rfl rfl) rfl ?_
                    refine g_nil ?_
                    refine g_then ?_
                    refine g_cond rfl (fun h47 => ?_) (fun h47 => ?_)
                    · have heb : mid + m - st < b := by have h9 := of_decide_eq_true h47; omega
                      refine g_region ?_
                      refine s_q (q_move rfl) rfl ?_
                      refine s_q (q_move rfl) rfl ?_
                      refine s_q (q_move rfl) rfl ?_
                      refine s_q (q_move rfl) rfl ?_
                      refine s_q (q_move rfl) rfl ?_
                      refine g_op (g_ownS [Res.row A n cap 50 2 (((P ++ (((L.take (st - a)) ++ (R.take (mid - st))) ++ ((L.drop (st - a)) ++ ((R.drop (mid - st)) ++ S))))).map En.c)] rfl (fun w1 hw1 ho1 => by have h7 := IH A n cap (P ++ (((L.take (st - a)) ++ (R.take (mid - st))) ++ ((L.drop (st - a)) ++ ((R.drop (mid - st)) ++ S)))) (P ++ ((L.take (st - a)) ++ (R.take (mid - st)))) (L.drop (st - a)) (R.drop (mid - st)) S (mid) (((mid + m) - st)) (b) w1 ho1 (by have h9 := lma; simp only [List.length_append, hlL, hlR, hlL2, hlR2] at h9 ⊢; omega) hn6 (by simp only [List.append_assoc]) (by first | omega | (simp only [List.length_append]; omega) | (simp; omega)) (by first | omega | (simp only [List.length_append]; omega) | (simp; omega)) (by first | omega | (simp only [List.length_append]; omega) | (simp; omega)) (by first | omega | (simp only [List.length_append]; omega) | (simp; omega)) (by first | omega | (simp only [List.length_append]; omega) | (simp; omega)) (sL.drop _) (sR.drop _) (by omega); exact h7) rfl ?_)
                      rintro M219 ⟨sm219, em219, lm219⟩
                      refine ⟨_, _, inferInstance, inferInstance, ?_⟩
                      have smb := sm219
                      have emb := em219
                      have lmb : M219.length = b - mid := by rw [lm219, hlL2, hlR2]; omega
                      refine g_nil ?_
                      exact fin0 rfl (fun w' hw' => ⟨(((L.take (st - a)) ++ (R.take (mid - st))) ++ M219), (by first | exact (by have h9 := two_halves sL sR (st - a) (mid - st) hlo hhi sma smb ema emb; exact ⟨h9.1, h9.2, by rw [List.length_append, lma, lmb]; omega⟩) | (dsimp only; exact (by have h9 := two_halves sL sR (st - a) (mid - st) hlo hhi sma smb ema emb; exact ⟨h9.1, h9.2, by rw [List.length_append, lma, lmb]; omega⟩))), rfl, by have h9 := wok_sub (L' := [Res.row A n cap 50 2 ((((P ++ ((L.take (st - a)) ++ (R.take (mid - st)))) ++ (M219 ++ S))).map En.c)]) w' hw'; show WOK _ _ [Res.row A n cap 50 2 (((P ++ (((((L.take (st - a)) ++ (R.take (mid - st))) ++ M219)) ++ S))).map En.c)] _; simp only [List.append_assoc] at h9 ⊢; exact h9⟩) _ (.inr rfl)
                    · have heb : b ≤ mid + m - st := by have h9 := of_decide_eq_false h47; omega
                      have smb : Srt ((L.drop (st - a)) ++ (R.drop (mid - st))) := by rw [show R.drop (mid - st) = [] from List.drop_eq_nil_of_le (by omega), List.append_nil]; exact sL.drop _
                      have emb : Same ((L.drop (st - a)) ++ (R.drop (mid - st))) ((L.drop (st - a)) ++ (R.drop (mid - st))) := Same.rfl'
                      have lmb : ((L.drop (st - a)) ++ (R.drop (mid - st))).length = b - mid := by rw [List.length_append, hlL2, hlR2]; omega
                      refine g_skip ?_
                      exact fin0 rfl (fun w' hw' => ⟨(((L.take (st - a)) ++ (R.take (mid - st))) ++ ((L.drop (st - a)) ++ (R.drop (mid - st)))), (by first | exact (by have h9 := two_halves sL sR (st - a) (mid - st) hlo hhi sma smb ema emb; exact ⟨h9.1, h9.2, by rw [List.length_append, lma, lmb]; omega⟩) | (dsimp only; exact (by have h9 := two_halves sL sR (st - a) (mid - st) hlo hhi sma smb ema emb; exact ⟨h9.1, h9.2, by rw [List.length_append, lma, lmb]; omega⟩))), rfl, by have h9 := wok_sub (L' := [Res.row A n cap 50 2 (((P ++ (((L.take (st - a)) ++ (R.take (mid - st))) ++ ((L.drop (st - a)) ++ ((R.drop (mid - st)) ++ S))))).map En.c)]) w' hw'; show WOK _ _ [Res.row A n cap 50 2 (((P ++ (((((L.take (st - a)) ++ (R.take (mid - st))) ++ ((L.drop (st - a)) ++ (R.drop (mid - st))))) ++ S))).map En.c)] _; simp only [List.append_assoc] at h9 ⊢; exact h9⟩) _ (.inr rfl)
                  · have smb : Srt ((L.drop (st - a)) ++ (R.drop (mid - st))) := by rw [show L.drop (st - a) = [] from List.drop_eq_nil_of_le (by have h9 := of_decide_eq_false h46; omega), List.nil_append]; exact sR.drop _
                    have emb : Same ((L.drop (st - a)) ++ (R.drop (mid - st))) ((L.drop (st - a)) ++ (R.drop (mid - st))) := Same.rfl'
                    have lmb : ((L.drop (st - a)) ++ (R.drop (mid - st))).length = b - mid := by rw [List.length_append, hlL2, hlR2]; omega
                    refine g_gf rfl rfl rfl rfl ?_
                    refine g_gf rfl rfl rfl rfl ?_
                    refine g_gf rfl rfl rfl rfl ?_
                    refine s_q (q_pick_f rfl rfl) rfl ?_
                    refine g_nil ?_
                    refine g_then ?_
                    refine g_false rfl ?_
                    refine g_skip ?_
                    exact fin0 rfl (fun w' hw' => ⟨(((L.take (st - a)) ++ (R.take (mid - st))) ++ ((L.drop (st - a)) ++ (R.drop (mid - st)))), (by first | exact (by have h9 := two_halves sL sR (st - a) (mid - st) hlo hhi sma smb ema emb; exact ⟨h9.1, h9.2, by rw [List.length_append, lma, lmb]; omega⟩) | (dsimp only; exact (by have h9 := two_halves sL sR (st - a) (mid - st) hlo hhi sma smb ema emb; exact ⟨h9.1, h9.2, by rw [List.length_append, lma, lmb]; omega⟩))), rfl, by have h9 := wok_sub (L' := [Res.row A n cap 50 2 (((P ++ (((L.take (st - a)) ++ (R.take (mid - st))) ++ ((L.drop (st - a)) ++ ((R.drop (mid - st)) ++ S))))).map En.c)]) w' hw'; show WOK _ _ [Res.row A n cap 50 2 (((P ++ (((((L.take (st - a)) ++ (R.take (mid - st))) ++ ((L.drop (st - a)) ++ (R.drop (mid - st))))) ++ S))).map En.c)] _; simp only [List.append_assoc] at h9 ⊢; exact h9⟩) _ (.inr rfl)
              · have sma : Srt ((L.take (st - a)) ++ (R.take (mid - st))) := by rw [show st - a = 0 from by have h9 := of_decide_eq_false h42; omega]; exact sR.take _
                have ema : Same ((L.take (st - a)) ++ (R.take (mid - st))) ((L.take (st - a)) ++ (R.take (mid - st))) := Same.rfl'
                have lma : ((L.take (st - a)) ++ (R.take (mid - st))).length = mid - a := by rw [List.length_append, hlL, hlR]; omega
                refine g_gf rfl rfl rfl rfl ?_
                refine g_gf rfl rfl rfl rfl ?_
                refine g_gf rfl rfl rfl rfl ?_
                refine s_q (q_pick_f rfl rfl) rfl ?_
                refine g_nil ?_
                refine g_then ?_
                refine g_false rfl ?_
                refine g_skip ?_
                refine g_then ?_
                refine g_seq ?_
                refine g_region ?_
                refine g_rowels (A := A) ((P ++ (((L.take (st - a)) ++ (R.take (mid - st))) ++ ((L.drop (st - a)) ++ ((R.drop (mid - st)) ++ S)))).map En.c) (by first | rfl | simp only [List.append_assoc]) ?_
                refine s_q (q_move rfl) rfl ?_
                refine s_q (q_move rfl) rfl ?_
                refine s_q (q_lss rfl rfl) rfl ?_
                refine s_q (q_move rfl) rfl ?_
                refine g_split 209 rfl (fun h48 => ?_) (fun h48 => ?_)
                · have hme : st < m := by have h9 := of_decide_eq_true h48; omega
                  refine s_qg (q_move rfl) rfl rfl rfl ?_
                  refine s_qg (q_move rfl) rfl rfl rfl ?_
                  refine s_qg (q_lss rfl rfl) rfl rfl rfl ?_
                  refine s_q (q_pick_t rfl rfl) rfl ?_
                  refine g_nil ?_
                  refine g_then ?_
                  refine g_cond rfl (fun h49 => ?_) (fun h49 => ?_)
                  · have heb : mid + m - st < b := by have h9 := of_decide_eq_true h49; omega
                    refine g_region ?_
                    refine s_q (q_move rfl) rfl ?_
                    refine s_q (q_move rfl) rfl ?_
                    refine s_q (q_move rfl) rfl ?_
                    refine s_q (q_move rfl) rfl ?_
                    refine s_q (q_move rfl) rfl ?_
                    refine g_op (g_ownS [Res.row A n cap 50 2 (((P ++ (((L.take (st - a)) ++ (R.take (mid - st))) ++ ((L.drop (st - a)) ++ ((R.drop (mid - st)) ++ S))))).map En.c)] rfl (fun w1 hw1 ho1 => by have h7 := IH A n cap (P ++ (((L.take (st - a)) ++ (R.take (mid - st))) ++ ((L.drop (st - a)) ++ ((R.drop (mid - st)) ++ S)))) (P ++ ((L.take (st - a)) ++ (R.take (mid - st)))) (L.drop (st - a)) (R.drop (mid - st)) S (mid) (((mid + m) - st)) (b) w1 ho1 (by have h9 := lma; simp only [List.length_append, hlL, hlR, hlL2, hlR2] at h9 ⊢; omega) hn6 (by simp only [List.append_assoc]) (by first | omega | (simp only [List.length_append]; omega) | (simp; omega)) (by first | omega | (simp only [List.length_append]; omega) | (simp; omega)) (by first | omega | (simp only [List.length_append]; omega) | (simp; omega)) (by first | omega | (simp only [List.length_append]; omega) | (simp; omega)) (by first | omega | (simp only [List.length_append]; omega) | (simp; omega)) (sL.drop _) (sR.drop _) (by omega); exact h7) rfl ?_)
                    rintro M219 ⟨sm219, em219, lm219⟩
                    refine ⟨_, _, inferInstance, inferInstance, ?_⟩
                    have smb := sm219
                    have emb := em219
                    have lmb : M219.length = b - mid := by rw [lm219, hlL2, hlR2]; omega
                    refine g_nil ?_
                    exact fin0 rfl (fun w' hw' => ⟨(((L.take (st - a)) ++ (R.take (mid - st))) ++ M219), (by first | exact (by have h9 := two_halves sL sR (st - a) (mid - st) hlo hhi sma smb ema emb; exact ⟨h9.1, h9.2, by rw [List.length_append, lma, lmb]; omega⟩) | (dsimp only; exact (by have h9 := two_halves sL sR (st - a) (mid - st) hlo hhi sma smb ema emb; exact ⟨h9.1, h9.2, by rw [List.length_append, lma, lmb]; omega⟩))), rfl, by have h9 := wok_sub (L' := [Res.row A n cap 50 2 ((((P ++ ((L.take (st - a)) ++ (R.take (mid - st)))) ++ (M219 ++ S))).map En.c)]) w' hw'; show WOK _ _ [Res.row A n cap 50 2 (((P ++ (((((L.take (st - a)) ++ (R.take (mid - st))) ++ M219)) ++ S))).map En.c)] _; simp only [List.append_assoc] at h9 ⊢; exact h9⟩) _ (.inr rfl)
                  · have heb : b ≤ mid + m - st := by have h9 := of_decide_eq_false h49; omega
                    have smb : Srt ((L.drop (st - a)) ++ (R.drop (mid - st))) := by rw [show R.drop (mid - st) = [] from List.drop_eq_nil_of_le (by omega), List.append_nil]; exact sL.drop _
                    have emb : Same ((L.drop (st - a)) ++ (R.drop (mid - st))) ((L.drop (st - a)) ++ (R.drop (mid - st))) := Same.rfl'
                    have lmb : ((L.drop (st - a)) ++ (R.drop (mid - st))).length = b - mid := by rw [List.length_append, hlL2, hlR2]; omega
                    refine g_skip ?_
                    exact fin0 rfl (fun w' hw' => ⟨(((L.take (st - a)) ++ (R.take (mid - st))) ++ ((L.drop (st - a)) ++ (R.drop (mid - st)))), (by first | exact (by have h9 := two_halves sL sR (st - a) (mid - st) hlo hhi sma smb ema emb; exact ⟨h9.1, h9.2, by rw [List.length_append, lma, lmb]; omega⟩) | (dsimp only; exact (by have h9 := two_halves sL sR (st - a) (mid - st) hlo hhi sma smb ema emb; exact ⟨h9.1, h9.2, by rw [List.length_append, lma, lmb]; omega⟩))), rfl, by have h9 := wok_sub (L' := [Res.row A n cap 50 2 (((P ++ (((L.take (st - a)) ++ (R.take (mid - st))) ++ ((L.drop (st - a)) ++ ((R.drop (mid - st)) ++ S))))).map En.c)]) w' hw'; show WOK _ _ [Res.row A n cap 50 2 (((P ++ (((((L.take (st - a)) ++ (R.take (mid - st))) ++ ((L.drop (st - a)) ++ (R.drop (mid - st))))) ++ S))).map En.c)] _; simp only [List.append_assoc] at h9 ⊢; exact h9⟩) _ (.inr rfl)
                · have smb : Srt ((L.drop (st - a)) ++ (R.drop (mid - st))) := by rw [show L.drop (st - a) = [] from List.drop_eq_nil_of_le (by have h9 := of_decide_eq_false h48; omega), List.nil_append]; exact sR.drop _
                  have emb : Same ((L.drop (st - a)) ++ (R.drop (mid - st))) ((L.drop (st - a)) ++ (R.drop (mid - st))) := Same.rfl'
                  have lmb : ((L.drop (st - a)) ++ (R.drop (mid - st))).length = b - mid := by rw [List.length_append, hlL2, hlR2]; omega
                  refine g_gf rfl rfl rfl rfl ?_
                  refine g_gf rfl rfl rfl rfl ?_
                  refine g_gf rfl rfl rfl rfl ?_
                  refine s_q (q_pick_f rfl rfl) rfl ?_
                  refine g_nil ?_
                  refine g_then ?_
                  refine g_false rfl ?_
                  refine g_skip ?_
                  exact fin0 rfl (fun w' hw' => ⟨(((L.take (st - a)) ++ (R.take (mid - st))) ++ ((L.drop (st - a)) ++ (R.drop (mid - st)))), (by first | exact (by have h9 := two_halves sL sR (st - a) (mid - st) hlo hhi sma smb ema emb; exact ⟨h9.1, h9.2, by rw [List.length_append, lma, lmb]; omega⟩) | (dsimp only; exact (by have h9 := two_halves sL sR (st - a) (mid - st) hlo hhi sma smb ema emb; exact ⟨h9.1, h9.2, by rw [List.length_append, lma, lmb]; omega⟩))), rfl, by have h9 := wok_sub (L' := [Res.row A n cap 50 2 (((P ++ (((L.take (st - a)) ++ (R.take (mid - st))) ++ ((L.drop (st - a)) ++ ((R.drop (mid - st)) ++ S))))).map En.c)]) w' hw'; show WOK _ _ [Res.row A n cap 50 2 (((P ++ (((((L.take (st - a)) ++ (R.take (mid - st))) ++ ((L.drop (st - a)) ++ (R.drop (mid - st))))) ++ S))).map En.c)] _; simp only [List.append_assoc] at h9 ⊢; exact h9⟩) _ (.inr rfl)
            · have hms : mid ≤ st := by have h9 := of_decide_eq_false h41; omega
              have hn1 : R.take (mid - st) = [] := by rw [show mid - st = 0 from by omega]; rfl
              have hn2 : R.drop (mid - st) = R := by rw [show mid - st = 0 from by omega]; rfl
              refine g_skip ?_
              refine g_then ?_
              refine g_seq ?_
              refine g_seq ?_
              refine g_region ?_
              refine g_rowels (A := A) ((P ++ ((L.take (st - a)) ++ ((R.take (mid - st)) ++ ((L.drop (st - a)) ++ ((R.drop (mid - st)) ++ S))))).map En.c) (by rw [hd, hn1, List.nil_append, hn2, ← List.append_assoc (L.take (st - a)), List.take_append_drop]) ?_
              refine s_q (q_move rfl) rfl ?_
              refine s_q (q_move rfl) rfl ?_
              refine s_q (q_lss rfl rfl) rfl ?_
              refine s_q (q_move rfl) rfl ?_
              refine g_split 195 rfl (fun h50 => ?_) (fun h50 => ?_)
              · have has1 : a < st := by have h9 := of_decide_eq_true h50; omega
                refine s_qg (q_move rfl) rfl rfl rfl ?_
                refine s_qg (q_move rfl) rfl rfl rfl ?_
                refine s_qg (q_lss rfl rfl) rfl rfl rfl ?_
                refine s_q (q_pick_t rfl rfl) rfl ?_
                refine g_nil ?_
                refine g_then ?_
                refine g_cond rfl (fun h51 => ?_) (fun h51 => ?_)
                · have hms1 : st < mid := by have h9 := of_decide_eq_true h51; omega
                  refine g_region ?_
                  refine s_q (q_move rfl) rfl ?_
                  refine s_q (q_move rfl) rfl ?_
                  refine s_q (q_move rfl) rfl ?_
                  refine s_q (q_move rfl) rfl ?_
                  refine s_q (q_move rfl) rfl ?_
                  refine g_op (g_ownS [Res.row A n cap 50 2 (((P ++ ((L.take (st - a)) ++ ((R.take (mid - st)) ++ ((L.drop (st - a)) ++ ((R.drop (mid - st)) ++ S)))))).map En.c)] rfl (fun w1 hw1 ho1 => by have h7 := IH A n cap (P ++ ((L.take (st - a)) ++ ((R.take (mid - st)) ++ ((L.drop (st - a)) ++ ((R.drop (mid - st)) ++ S))))) P (L.take (st - a)) (R.take (mid - st)) ((L.drop (st - a)) ++ ((R.drop (mid - st)) ++ S)) (a) (st) (mid) w1 ho1 (by simp only [List.length_append, hlL, hlR, hlL2, hlR2]; omega) hn6 rfl (by first | omega | (simp only [List.length_append]; omega) | (simp; omega)) (by first | omega | (simp only [List.length_append]; omega) | (simp; omega)) (by first | omega | (simp only [List.length_append]; omega) | (simp; omega)) (by first | omega | (simp only [List.length_append]; omega) | (simp; omega)) (by first | omega | (simp only [List.length_append]; omega) | (simp; omega)) (sL.take _) (sR.take _) (by omega); exact h7) rfl ?_)
                  rintro M205 ⟨sm205, em205, lm205⟩
                  refine ⟨_, _, inferInstance, inferInstance, ?_⟩
                  have sma := sm205
                  have ema := em205
                  have lma : M205.length = mid - a := by rw [lm205, hlL, hlR]; omega
                  refine g_nil ?_
                  refine g_then ?_
                  refine g_seq ?_
                  refine g_region ?_
                  refine g_rowels (A := A) ((P ++ (M205 ++ ((L.drop (st - a)) ++ ((R.drop (mid - st)) ++ S)))).map En.c) (by first | rfl | simp only [List.append_assoc]) ?_
                  refine s_q (q_move rfl) rfl ?_
                  refine s_q (q_move rfl) rfl ?_
                  refine s_q (q_lss rfl rfl) rfl ?_
                  refine s_q (q_move rfl) rfl ?_
                  refine g_split 209 rfl (fun h52 => ?_) (fun h52 => ?_)
                  · have hme : st < m := by have h9 := of_decide_eq_true h52; omega
                    refine s_qg (q_move rfl) rfl rfl rfl ?_
                    refine s_qg (q_move rfl) rfl rfl rfl ?_
                    refine s_qg (q_lss rfl rfl) rfl rfl rfl ?_
                    refine s_q (q_pick_t rfl rfl) rfl ?_
                    refine g_nil ?_
                    refine g_then ?_
                    refine g_cond rfl (fun h53 => ?_) (fun h53 => ?_)
                    · have heb : mid + m - st < b := by have h9 := of_decide_eq_true h53; omega
                      refine g_region ?_
                      refine s_q (q_move rfl) rfl ?_
                      refine s_q (q_move rfl) rfl ?_
                      refine s_q (q_move rfl) rfl ?_
                      refine s_q (q_move rfl) rfl ?_
                      refine s_q (q_move rfl) rfl ?_
                      refine g_op (g_ownS [Res.row A n cap 50 2 (((P ++ (M205 ++ ((L.drop (st - a)) ++ ((R.drop (mid - st)) ++ S))))).map En.c)] rfl (fun w1 hw1 ho1 => by have h7 := IH A n cap (P ++ (M205 ++ ((L.drop (st - a)) ++ ((R.drop (mid - st)) ++ S)))) (P ++ M205) (L.drop (st - a)) (R.drop (mid - st)) S (mid) (((mid + m) - st)) (b) w1 ho1 (by have h9 := lma; simp only [List.length_append, hlL, hlR, hlL2, hlR2] at h9 ⊢; omega) hn6 (by simp only [List.append_assoc]) (by first | omega | (simp only [List.length_append]; omega) | (simp; omega)) (by first | omega | (simp only [List.length_append]; omega) | (simp; omega)) (by first | omega | (simp only [List.length_append]; omega) | (simp; omega)) (by first | omega | (simp only [List.length_append]; omega) | (simp; omega)) (by first | omega | (simp only [List.length_append]; omega) | (simp; omega)) (sL.drop _) (sR.drop _) (by omega); exact h7) rfl ?_)
                      rintro M219 ⟨sm219, em219, lm219⟩
                      refine ⟨_, _, inferInstance, inferInstance, ?_⟩
                      have smb := sm219
                      have emb := em219
                      have lmb : M219.length = b - mid := by rw [lm219, hlL2, hlR2]; omega
                      refine g_nil ?_
                      exact fin0 rfl (fun w' hw' => ⟨(M205 ++ M219), (by first | exact (by have h9 := two_halves sL sR (st - a) (mid - st) hlo hhi sma smb ema emb; exact ⟨h9.1, h9.2, by rw [List.length_append, lma, lmb]; omega⟩) | (dsimp only; exact (by have h9 := two_halves sL sR (st - a) (mid - st) hlo hhi sma smb ema emb; exact ⟨h9.1, h9.2, by rw [List.length_append, lma, lmb]; omega⟩))), rfl, by have h9 := wok_sub (L' := [Res.row A n cap 50 2 ((((P ++ M205) ++ (M219 ++ S))).map En.c)]) w' hw'; show WOK _ _ [Res.row A n cap 50 2 (((P ++ (((M205 ++ M219)) ++ S))).map En.c)] _; simp only [List.append_assoc] at h9 ⊢; exact h9⟩) _ (.inr rfl)
                    · have heb : b ≤ mid + m - st := by have h9 := of_decide_eq_false h53; omega
                      have smb : Srt ((L.drop (st - a)) ++ (R.drop (mid - st))) := by rw [show R.drop (mid - st) = [] from List.drop_eq_nil_of_le (by omega), List.append_nil]; exact sL.drop _
                      have emb : Same ((L.drop (st - a)) ++ (R.drop (mid - st))) ((L.drop (st - a)) ++ (R.drop (mid - st))) := Same.rfl'
                      have lmb : ((L.drop (st - a)) ++ (R.drop (mid - st))).length = b - mid := by rw [List.length_append, hlL2, hlR2]; omega
                      refine g_skip ?_
                      exact fin0 rfl (fun w' hw' => ⟨(M205 ++ ((L.drop (st - a)) ++ (R.drop (mid - st)))), (by first | exact (by have h9 := two_halves sL sR (st - a) (mid - st) hlo hhi sma smb ema emb; exact ⟨h9.1, h9.2, by rw [List.length_append, lma, lmb]; omega⟩) | (dsimp only; exact (by have h9 := two_halves sL sR (st - a) (mid - st) hlo hhi sma smb ema emb; exact ⟨h9.1, h9.2, by rw [List.length_append, lma, lmb]; omega⟩))), rfl, by have h9 := wok_sub (L' := [Res.row A n cap 50 2 (((P ++ (M205 ++ ((L.drop (st - a)) ++ ((R.drop (mid - st)) ++ S))))).map En.c)]) w' hw'; show WOK _ _ [Res.row A n cap 50 2 (((P ++ (((M205 ++ ((L.drop (st - a)) ++ (R.drop (mid - st))))) ++ S))).map En.c)] _; simp only [List.append_assoc] at h9 ⊢; exact h9⟩) _ (.inr rfl)
                  · have smb : Srt ((L.drop (st - a)) ++ (R.drop (mid - st))) := by rw [show L.drop (st - a) = [] from List.drop_eq_nil_of_le (by have h9 := of_decide_eq_false h52; omega), List.nil_append]; exact sR.drop _
                    have emb : Same ((L.drop (st - a)) ++ (R.drop (mid - st))) ((L.drop (st - a)) ++ (R.drop (mid - st))) := Same.rfl'
                    have lmb : ((L.drop (st - a)) ++ (R.drop (mid - st))).length = b - mid := by rw [List.length_append, hlL2, hlR2]; omega
                    refine g_gf rfl rfl rfl rfl ?_
                    refine g_gf rfl rfl rfl rfl ?_
                    refine g_gf rfl rfl rfl rfl ?_
                    refine s_q (q_pick_f rfl rfl) rfl ?_
                    refine g_nil ?_
                    refine g_then ?_
                    refine g_false rfl ?_
                    refine g_skip ?_
                    exact fin0 rfl (fun w' hw' => ⟨(M205 ++ ((L.drop (st - a)) ++ (R.drop (mid - st)))), (by first | exact (by have h9 := two_halves sL sR (st - a) (mid - st) hlo hhi sma smb ema emb; exact ⟨h9.1, h9.2, by rw [List.length_append, lma, lmb]; omega⟩) | (dsimp only; exact (by have h9 := two_halves sL sR (st - a) (mid - st) hlo hhi sma smb ema emb; exact ⟨h9.1, h9.2, by rw [List.length_append, lma, lmb]; omega⟩))), rfl, by have h9 := wok_sub (L' := [Res.row A n cap 50 2 (((P ++ (M205 ++ ((L.drop (st - a)) ++ ((R.drop (mid - st)) ++ S))))).map En.c)]) w' hw'; show WOK _ _ [Res.row A n cap 50 2 (((P ++ (((M205 ++ ((L.drop (st - a)) ++ (R.drop (mid - st))))) ++ S))).map En.c)] _; simp only [List.append_assoc] at h9 ⊢; exact h9⟩) _ (.inr rfl)
                · have hms1 : mid ≤ st := by have h9 := of_decide_eq_false h51; omega
                  have sma : Srt ((L.take (st - a)) ++ (R.take (mid - st))) := by rw [show mid - st = 0 from by omega, List.take_zero, List.append_nil]; exact sL.take _
                  have ema : Same ((L.take (st - a)) ++ (R.take (mid - st))) ((L.take (st - a)) ++ (R.take (mid - st))) := Same.rfl'
                  have lma : ((L.take (st - a)) ++ (R.take (mid - st))).length = mid - a := by rw [List.length_append, hlL, hlR]; omega
                  refine g_skip ?_
                  refine g_then ?_
                  refine g_seq ?_
                  refine g_region ?_
                  refine g_rowels (A := A) ((P ++ (((L.take (st - a)) ++ (R.take (mid - st))) ++ ((L.drop (st - a)) ++ ((R.drop (mid - st)) ++ S)))).map En.c) (by first | rfl | simp only [List.append_assoc]) ?_
                  refine s_q (q_move rfl) rfl ?_
                  refine s_q (q_move rfl) rfl ?_
                  refine s_q (q_lss rfl rfl) rfl ?_
                  refine s_q (q_move rfl) rfl ?_
                  refine g_split 209 rfl (fun h54 => ?_) (fun h54 => ?_)
                  · have hme : st < m := by have h9 := of_decide_eq_true h54; omega
                    refine s_qg (q_move rfl) rfl rfl rfl ?_
                    refine s_qg (q_move rfl) rfl rfl rfl ?_
                    refine s_qg (q_lss rfl rfl) rfl rfl rfl ?_
                    refine s_q (q_pick_t rfl rfl) rfl ?_
                    refine g_nil ?_
                    refine g_then ?_
                    refine g_cond rfl (fun h55 => ?_) (fun h55 => ?_)
                    · have heb : mid + m - st < b := by have h9 := of_decide_eq_true h55; omega
                      refine g_region ?_
                      refine s_q (q_move rfl) rfl ?_
                      refine s_q (q_move rfl) rfl ?_
                      refine s_q (q_move rfl) rfl ?_
                      refine s_q (q_move rfl) rfl ?_
                      refine s_q (q_move rfl) rfl ?_
                      refine g_op (g_ownS [Res.row A n cap 50 2 (((P ++ (((L.take (st - a)) ++ (R.take (mid - st))) ++ ((L.drop (st - a)) ++ ((R.drop (mid - st)) ++ S))))).map En.c)] rfl (fun w1 hw1 ho1 => by have h7 := IH A n cap (P ++ (((L.take (st - a)) ++ (R.take (mid - st))) ++ ((L.drop (st - a)) ++ ((R.drop (mid - st)) ++ S)))) (P ++ ((L.take (st - a)) ++ (R.take (mid - st)))) (L.drop (st - a)) (R.drop (mid - st)) S (mid) (((mid + m) - st)) (b) w1 ho1 (by have h9 := lma; simp only [List.length_append, hlL, hlR, hlL2, hlR2] at h9 ⊢; omega) hn6 (by simp only [List.append_assoc]) (by first | omega | (simp only [List.length_append]; omega) | (simp; omega)) (by first | omega | (simp only [List.length_append]; omega) | (simp; omega)) (by first | omega | (simp only [List.length_append]; omega) | (simp; omega)) (by first | omega | (simp only [List.length_append]; omega) | (simp; omega)) (by first | omega | (simp only [List.length_append]; omega) | (simp; omega)) (sL.drop _) (sR.drop _) (by omega); exact h7) rfl ?_)
                      rintro M219 ⟨sm219, em219, lm219⟩
                      refine ⟨_, _, inferInstance, inferInstance, ?_⟩
                      have smb := sm219
                      have emb := em219
                      have lmb : M219.length = b - mid := by rw [lm219, hlL2, hlR2]; omega
                      refine g_nil ?_
                      exact fin0 rfl (fun w' hw' => ⟨(((L.take (st - a)) ++ (R.take (mid - st))) ++ M219), (by first | exact (by have h9 := two_halves sL sR (st - a) (mid - st) hlo hhi sma smb ema emb; exact ⟨h9.1, h9.2, by rw [List.length_append, lma, lmb]; omega⟩) | (dsimp only; exact (by have h9 := two_halves sL sR (st - a) (mid - st) hlo hhi sma smb ema emb; exact ⟨h9.1, h9.2, by rw [List.length_append, lma, lmb]; omega⟩))), rfl, by have h9 := wok_sub (L' := [Res.row A n cap 50 2 ((((P ++ ((L.take (st - a)) ++ (R.take (mid - st)))) ++ (M219 ++ S))).map En.c)]) w' hw'; show WOK _ _ [Res.row A n cap 50 2 (((P ++ (((((L.take (st - a)) ++ (R.take (mid - st))) ++ M219)) ++ S))).map En.c)] _; simp only [List.append_assoc] at h9 ⊢; exact h9⟩) _ (.inr rfl)
                    · have heb : b ≤ mid + m - st := by have h9 := of_decide_eq_false h55; omega
                      have smb : Srt ((L.drop (st - a)) ++ (R.drop (mid - st))) := by rw [show R.drop (mid - st) = [] from List.drop_eq_nil_of_le (by omega), List.append_nil]; exact sL.drop _
                      have emb : Same ((L.drop (st - a)) ++ (R.drop (mid - st))) ((L.drop (st - a)) ++ (R.drop (mid - st))) := Same.rfl'
                      have lmb : ((L.drop (st - a)) ++ (R.drop (mid - st))).length = b - mid := by rw [List.length_append, hlL2, hlR2]; omega
                      refine g_skip ?_
                      exact fin0 rfl (fun w' hw' => ⟨(((L.take (st - a)) ++ (R.take (mid - st))) ++ ((L.drop (st - a)) ++ (R.drop (mid - st)))), (by first | exact (by have h9 := two_halves sL sR (st - a) (mid - st) hlo hhi sma smb ema emb; exact ⟨h9.1, h9.2, by rw [List.length_append, lma, lmb]; omega⟩) | (dsimp only; exact (by have h9 := two_halves sL sR (st - a) (mid - st) hlo hhi sma smb ema emb; exact ⟨h9.1, h9.2, by rw [List.length_append, lma, lmb]; omega⟩))), rfl, by have h9 := wok_sub (L' := [Res.row A n cap 50 2 (((P ++ (((L.take (st - a)) ++ (R.take (mid - st))) ++ ((L.drop (st - a)) ++ ((R.drop (mid - st)) ++ S))))).map En.c)]) w' hw'; show WOK _ _ [Res.row A n cap 50 2 (((P ++ (((((L.take (st - a)) ++ (R.take (mid - st))) ++ ((L.drop (st - a)) ++ (R.drop (mid - st))))) ++ S))).map En.c)] _; simp only [List.append_assoc] at h9 ⊢; exact h9⟩) _ (.inr rfl)
                  · have smb : Srt ((L.drop (st - a)) ++ (R.drop (mid - st))) := by rw [show L.drop (st - a) = [] from List.drop_eq_nil_of_le (by have h9 := of_decide_eq_false h54; omega), List.nil_append]; exact sR.drop _
                    have emb : Same ((L.drop (st - a)) ++ (R.drop (mid - st))) ((L.drop (st - a)) ++ (R.drop (mid - st))) := Same.rfl'
                    have lmb : ((L.drop (st - a)) ++ (R.drop (mid - st))).length = b - mid := by rw [List.length_append, hlL2, hlR2]; omega
                    refine g_gf rfl rfl rfl rfl ?_
                    refine g_gf rfl rfl rfl rfl ?_
                    refine g_gf rfl rfl rfl rfl ?_
                    refine s_q (q_pick_f rfl rfl) rfl ?_
                    refine g_nil ?_
                    refine g_then ?_
                    refine g_false rfl ?_
                    refine g_skip ?_
                    exact fin0 rfl (fun w' hw' => ⟨(((L.take (st - a)) ++ (R.take (mid - st))) ++ ((L.drop (st - a)) ++ (R.drop (mid - st)))), (by first | exact (by have h9 := two_halves sL sR (st - a) (mid - st) hlo hhi sma smb ema emb; exact ⟨h9.1, h9.2, by rw [List.length_append, lma, lmb]; omega⟩) | (dsimp only; exact (by have h9 := two_halves sL sR (st - a) (mid - st) hlo hhi sma smb ema emb; exact ⟨h9.1, h9.2, by rw [List.length_append, lma, lmb]; omega⟩))), rfl, by have h9 := wok_sub (L' := [Res.row A n cap 50 2 (((P ++ (((L.take (st - a)) ++ (R.take (mid - st))) ++ ((L.drop (st - a)) ++ ((R.drop (mid - st)) ++ S))))).map En.c)]) w' hw'; show WOK _ _ [Res.row A n cap 50 2 (((P ++ (((((L.take (st - a)) ++ (R.take (mid - st))) ++ ((L.drop (st - a)) ++ (R.drop (mid - st))))) ++ S))).map En.c)] _; simp only [List.append_assoc] at h9 ⊢; exact h9⟩) _ (.inr rfl)
              · have sma : Srt ((L.take (st - a)) ++ (R.take (mid - st))) := by rw [show st - a = 0 from by have h9 := of_decide_eq_false h50; omega]; exact sR.take _
                have ema : Same ((L.take (st - a)) ++ (R.take (mid - st))) ((L.take (st - a)) ++ (R.take (mid - st))) := Same.rfl'
                have lma : ((L.take (st - a)) ++ (R.take (mid - st))).length = mid - a := by rw [List.length_append, hlL, hlR]; omega
                refine g_gf rfl rfl rfl rfl ?_
                refine g_gf rfl rfl rfl rfl ?_
                refine g_gf rfl rfl rfl rfl ?_
                refine s_q (q_pick_f rfl rfl) rfl ?_
                refine g_nil ?_
                refine g_then ?_
                refine g_false rfl ?_
                refine g_skip ?_
                refine g_then ?_
                refine g_seq ?_
                refine g_region ?_
                refine g_rowels (A := A) ((P ++ (((L.take (st - a)) ++ (R.take (mid - st))) ++ ((L.drop (st - a)) ++ ((R.drop (mid - st)) ++ S)))).map En.c) (by first | rfl | simp only [List.append_assoc]) ?_
                refine s_q (q_move rfl) rfl ?_
                refine s_q (q_move rfl) rfl ?_
                refine s_q (q_lss rfl rfl) rfl ?_
                refine s_q (q_move rfl) rfl ?_
                refine g_split 209 rfl (fun h56 => ?_) (fun h56 => ?_)
                · have hme : st < m := by have h9 := of_decide_eq_true h56; omega
                  refine s_qg (q_move rfl) rfl rfl rfl ?_
                  refine s_qg (q_move rfl) rfl rfl rfl ?_
                  refine s_qg (q_lss rfl rfl) rfl rfl rfl ?_
                  refine s_q (q_pick_t rfl rfl) rfl ?_
                  refine g_nil ?_
                  refine g_then ?_
                  refine g_cond rfl (fun h57 => ?_) (fun h57 => ?_)
                  · have heb : mid + m - st < b := by have h9 := of_decide_eq_true h57; omega
                    refine g_region ?_
                    refine s_q (q_move rfl) rfl ?_
                    refine s_q (q_move rfl) rfl ?_
                    refine s_q (q_move rfl) rfl ?_
                    refine s_q (q_move rfl) rfl ?_
                    refine s_q (q_move rfl) rfl ?_
                    refine g_op (g_ownS [Res.row A n cap 50 2 (((P ++ (((L.take (st - a)) ++ (R.take (mid - st))) ++ ((L.drop (st - a)) ++ ((R.drop (mid - st)) ++ S))))).map En.c)] rfl (fun w1 hw1 ho1 => by have h7 := IH A n cap (P ++ (((L.take (st - a)) ++ (R.take (mid - st))) ++ ((L.drop (st - a)) ++ ((R.drop (mid - st)) ++ S)))) (P ++ ((L.take (st - a)) ++ (R.take (mid - st)))) (L.drop (st - a)) (R.drop (mid - st)) S (mid) (((mid + m) - st)) (b) w1 ho1 (by have h9 := lma; simp only [List.length_append, hlL, hlR, hlL2, hlR2] at h9 ⊢; omega) hn6 (by simp only [List.append_assoc]) (by first | omega | (simp only [List.length_append]; omega) | (simp; omega)) (by first | omega | (simp only [List.length_append]; omega) | (simp; omega)) (by first | omega | (simp only [List.length_append]; omega) | (simp; omega)) (by first | omega | (simp only [List.length_append]; omega) | (simp; omega)) (by first | omega | (simp only [List.length_append]; omega) | (simp; omega)) (sL.drop _) (sR.drop _) (by omega); exact h7) rfl ?_)
                    rintro M219 ⟨sm219, em219, lm219⟩
                    refine ⟨_, _, inferInstance, inferInstance, ?_⟩
                    have smb := sm219
                    have emb := em219
                    have lmb : M219.length = b - mid := by rw [lm219, hlL2, hlR2]; omega
                    refine g_nil ?_
                    exact fin0 rfl (fun w' hw' => ⟨(((L.take (st - a)) ++ (R.take (mid - st))) ++ M219), (by first | exact (by have h9 := two_halves sL sR (st - a) (mid - st) hlo hhi sma smb ema emb; exact ⟨h9.1, h9.2, by rw [List.length_append, lma, lmb]; omega⟩) | (dsimp only; exact (by have h9 := two_halves sL sR (st - a) (mid - st) hlo hhi sma smb ema emb; exact ⟨h9.1, h9.2, by rw [List.length_append, lma, lmb]; omega⟩))), rfl, by have h9 := wok_sub (L' := [Res.row A n cap 50 2 ((((P ++ ((L.take (st - a)) ++ (R.take (mid - st)))) ++ (M219 ++ S))).map En.c)]) w' hw'; show WOK _ _ [Res.row A n cap 50 2 (((P ++ (((((L.take (st - a)) ++ (R.take (mid - st))) ++ M219)) ++ S))).map En.c)] _; simp only [List.append_assoc] at h9 ⊢; exact h9⟩) _ (.inr rfl)
                  · have heb : b ≤ mid + m - st := by have h9 := of_decide_eq_false h57; omega
                    have smb : Srt ((L.drop (st - a)) ++ (R.drop (mid - st))) := by rw [show R.drop (mid - st) = [] from List.drop_eq_nil_of_le (by omega), List.append_nil]; exact sL.drop _
                    have emb : Same ((L.drop (st - a)) ++ (R.drop (mid - st))) ((L.drop (st - a)) ++ (R.drop (mid - st))) := Same.rfl'
                    have lmb : ((L.drop (st - a)) ++ (R.drop (mid - st))).length = b - mid := by rw [List.length_append, hlL2, hlR2]; omega
                    refine g_skip ?_
                    exact fin0 rfl (fun w' hw' => ⟨(((L.take (st - a)) ++ (R.take (mid - st))) ++ ((L.drop (st - a)) ++ (R.drop (mid - st)))), (by first | exact (by have h9 := two_halves sL sR (st - a) (mid - st) hlo hhi sma smb ema emb; exact ⟨h9.1, h9.2, by rw [List.length_append, lma, lmb]; omega⟩) | (dsimp only; exact (by have h9 := two_halves sL sR (st - a) (mid - st) hlo hhi sma smb ema emb; exact ⟨h9.1, h9.2, by rw [List.length_append, lma, lmb]; omega⟩))), rfl, by have h9 := wok_sub (L' := [Res.row A n cap 50 2 (((P ++ (((L.take (st - a)) ++ (R.take (mid - st))) ++ ((L.drop (st - a)) ++ ((R.drop (mid - st)) ++ S))))).map En.c)]) w' hw'; show WOK _ _ [Res.row A n cap 50 2 (((P ++ (((((L.take (st - a)) ++ (R.take (mid - st))) ++ ((L.drop (st - a)) ++ (R.drop (mid - st))))) ++ S))).map En.c)] _; simp only [List.append_assoc] at h9 ⊢; exact h9⟩) _ (.inr rfl)
                · have smb : Srt ((L.drop (st - a)) ++ (R.drop (mid - st))) := by rw [show L.drop (st - a) = [] from List.drop_eq_nil_of_le (by have h9 := of_decide_eq_false h56; omega), List.nil_append]; exact sR.drop _
                  have emb : Same ((L.drop (st - a)) ++ (R.drop (mid - st))) ((L.drop (st - a)) ++ (R.drop (mid - st))) := Same.rfl'
                  have lmb : ((L.drop (st - a)) ++ (R.drop (mid - st))).length = b - mid := by rw [List.length_append, hlL2, hlR2]; omega
                  refine g_gf rfl rfl rfl rfl ?_
                  refine g_gf rfl rfl rfl rfl ?_
                  refine g_gf rfl rfl rfl rfl ?_
                  refine s_q (q_pick_f rfl rfl) rfl ?_
                  refine g_nil ?_
                  refine g_then ?_
                  refine g_false rfl ?_
                  refine g_skip ?_
                  exact fin0 rfl (fun w' hw' => ⟨(((L.take (st - a)) ++ (R.take (mid - st))) ++ ((L.drop (st - a)) ++ (R.drop (mid - st)))), (by first | exact (by have h9 := two_halves sL sR (st - a) (mid - st) hlo hhi sma smb ema emb; exact ⟨h9.1, h9.2, by rw [List.length_append, lma, lmb]; omega⟩) | (dsimp only; exact (by have h9 := two_halves sL sR (st - a) (mid - st) hlo hhi sma smb ema emb; exact ⟨h9.1, h9.2, by rw [List.length_append, lma, lmb]; omega⟩))), rfl, by have h9 := wok_sub (L' := [Res.row A n cap 50 2 (((P ++ (((L.take (st - a)) ++ (R.take (mid - st))) ++ ((L.drop (st - a)) ++ ((R.drop (mid - st)) ++ S))))).map En.c)]) w' hw'; show WOK _ _ [Res.row A n cap 50 2 (((P ++ (((((L.take (st - a)) ++ (R.take (mid - st))) ++ ((L.drop (st - a)) ++ (R.drop (mid - st))))) ++ S))).map En.c)] _; simp only [List.append_assoc] at h9 ⊢; exact h9⟩) _ (.inr rfl)
          · have hn1 : L.drop (st - a) = [] := List.drop_eq_nil_of_le (by have h9 := of_decide_eq_false h40; omega)
            have hn2 : L.take (st - a) = L := List.take_of_length_le (by have h9 := of_decide_eq_false h40; omega)
            refine g_gf rfl rfl rfl rfl ?_
            refine g_gf rfl rfl rfl rfl ?_
            refine g_gf rfl rfl rfl rfl ?_
            refine s_q (q_pick_f rfl rfl) rfl ?_
            refine g_nil ?_
            refine g_then ?_
            refine g_false rfl ?_
            refine g_skip ?_
            refine g_then ?_
            refine g_seq ?_
            refine g_seq ?_
            refine g_region ?_
            refine g_rowels (A := A) ((P ++ ((L.take (st - a)) ++ ((R.take (mid - st)) ++ ((L.drop (st - a)) ++ ((R.drop (mid - st)) ++ S))))).map En.c) (by rw [hd, hn2, hn1, List.nil_append, ← List.append_assoc (R.take (mid - st)), List.take_append_drop]) ?_
            refine s_q (q_move rfl) rfl ?_
            refine s_q (q_move rfl) rfl ?_
            refine s_q (q_lss rfl rfl) rfl ?_
            refine s_q (q_move rfl) rfl ?_
            refine g_split 195 rfl (fun h58 => ?_) (fun h58 => ?_)
            · have has1 : a < st := by have h9 := of_decide_eq_true h58; omega
              refine s_qg (q_move rfl) rfl rfl rfl ?_
              refine s_qg (q_move rfl) rfl rfl rfl ?_
              refine s_qg (q_lss rfl rfl) rfl rfl rfl ?_
              refine s_q (q_pick_t rfl rfl) rfl ?_
              refine g_nil ?_
              refine g_then ?_
              refine g_cond rfl (fun h59 => ?_) (fun h59 => ?_)
              · have hms1 : st < mid := by have h9 := of_decide_eq_true h59; omega
                refine g_region ?_
                refine s_q (q_move rfl) rfl ?_
                refine s_q (q_move rfl) rfl ?_
                refine s_q (q_move rfl) rfl ?_
                refine s_q (q_move rfl) rfl ?_
                refine s_q (q_move rfl) rfl ?_
                refine g_op (g_ownS [Res.row A n cap 50 2 (((P ++ ((L.take (st - a)) ++ ((R.take (mid - st)) ++ ((L.drop (st - a)) ++ ((R.drop (mid - st)) ++ S)))))).map En.c)] rfl (fun w1 hw1 ho1 => by have h7 := IH A n cap (P ++ ((L.take (st - a)) ++ ((R.take (mid - st)) ++ ((L.drop (st - a)) ++ ((R.drop (mid - st)) ++ S))))) P (L.take (st - a)) (R.take (mid - st)) ((L.drop (st - a)) ++ ((R.drop (mid - st)) ++ S)) (a) (st) (mid) w1 ho1 (by simp only [List.length_append, hlL, hlR, hlL2, hlR2]; omega) hn6 rfl (by first | omega | (simp only [List.length_append]; omega) | (simp; omega)) (by first | omega | (simp only [List.length_append]; omega) | (simp; omega)) (by first | omega | (simp only [List.length_append]; omega) | (simp; omega)) (by first | omega | (simp only [List.length_append]; omega) | (simp; omega)) (by first | omega | (simp only [List.length_append]; omega) | (simp; omega)) (sL.take _) (sR.take _) (by omega); exact h7) rfl ?_)
                rintro M205 ⟨sm205, em205, lm205⟩
                refine ⟨_, _, inferInstance, inferInstance, ?_⟩
                have sma := sm205
                have ema := em205
                have lma : M205.length = mid - a := by rw [lm205, hlL, hlR]; omega
                refine g_nil ?_
                refine g_then ?_
                refine g_seq ?_
                refine g_region ?_
                refine g_rowels (A := A) ((P ++ (M205 ++ ((L.drop (st - a)) ++ ((R.drop (mid - st)) ++ S)))).map En.c) (by first | rfl | simp only [List.append_assoc]) ?_
                refine s_q (q_move rfl) rfl ?_
                refine s_q (q_move rfl) rfl ?_
                refine s_q (q_lss rfl rfl) rfl ?_
                refine s_q (q_move rfl) rfl ?_
                refine g_split 209 rfl (fun h60 => ?_) (fun h60 => ?_)
                · have hme : st < m := by have h9 := of_decide_eq_true h60; omega
                  refine s_qg (q_move rfl) rfl rfl rfl ?_
                  refine s_qg (q_move rfl) rfl rfl rfl ?_
                  refine s_qg (q_lss rfl rfl) rfl rfl rfl ?_
                  refine s_q (q_pick_t rfl rfl) rfl ?_
                  refine g_nil ?_
                  refine g_then ?_
                  refine g_cond rfl (fun h61 => ?_) (fun h61 => ?_)
                  · have heb : mid + m - st < b := by have h9 := of_decide_eq_true h61; omega
                    refine g_region ?_
                    refine s_q (q_move rfl) rfl ?_
                    refine s_q (q_move rfl) rfl ?_
                    refine s_q (q_move rfl) rfl ?_
                    refine s_q (q_move rfl) rfl ?_
                    refine s_q (q_move rfl) rfl ?_
                    refine g_op (g_ownS [Res.row A n cap 50 2 (((P ++ (M205 ++ ((L.drop (st - a)) ++ ((R.drop (mid - st)) ++ S))))).map En.c)] rfl (fun w1 hw1 ho1 => by have h7 := IH A n cap (P ++ (M205 ++ ((L.drop (st - a)) ++ ((R.drop (mid - st)) ++ S)))) (P ++ M205) (L.drop (st - a)) (R.drop (mid - st)) S (mid) (((mid + m) - st)) (b) w1 ho1 (by have h9 := lma; simp only [List.length_append, hlL, hlR, hlL2, hlR2] at h9 ⊢; omega) hn6 (by simp only [List.append_assoc]) (by first | omega | (simp only [List.length_append]; omega) | (simp; omega)) (by first | omega | (simp only [List.length_append]; omega) | (simp; omega)) (by first | omega | (simp only [List.length_append]; omega) | (simp; omega)) (by first | omega | (simp only [List.length_append]; omega) | (simp; omega)) (by first | omega | (simp only [List.length_append]; omega) | (simp; omega)) (sL.drop _) (sR.drop _) (by omega); exact h7) rfl ?_)
                    rintro M219 ⟨sm219, em219, lm219⟩
                    refine ⟨_, _, inferInstance, inferInstance, ?_⟩
                    have smb := sm219
                    have emb := em219
                    have lmb : M219.length = b - mid := by rw [lm219, hlL2, hlR2]; omega
                    refine g_nil ?_
                    exact fin0 rfl (fun w' hw' => ⟨(M205 ++ M219), (by first | exact (by have h9 := two_halves sL sR (st - a) (mid - st) hlo hhi sma smb ema emb; exact ⟨h9.1, h9.2, by rw [List.length_append, lma, lmb]; omega⟩) | (dsimp only; exact (by have h9 := two_halves sL sR (st - a) (mid - st) hlo hhi sma smb ema emb; exact ⟨h9.1, h9.2, by rw [List.length_append, lma, lmb]; omega⟩))), rfl, by have h9 := wok_sub (L' := [Res.row A n cap 50 2 ((((P ++ M205) ++ (M219 ++ S))).map En.c)]) w' hw'; show WOK _ _ [Res.row A n cap 50 2 (((P ++ (((M205 ++ M219)) ++ S))).map En.c)] _; simp only [List.append_assoc] at h9 ⊢; exact h9⟩) _ (.inr rfl)
                  · have heb : b ≤ mid + m - st := by have h9 := of_decide_eq_false h61; omega
                    have smb : Srt ((L.drop (st - a)) ++ (R.drop (mid - st))) := by rw [show R.drop (mid - st) = [] from List.drop_eq_nil_of_le (by omega), List.append_nil]; exact sL.drop _
                    have emb : Same ((L.drop (st - a)) ++ (R.drop (mid - st))) ((L.drop (st - a)) ++ (R.drop (mid - st))) := Same.rfl'
                    have lmb : ((L.drop (st - a)) ++ (R.drop (mid - st))).length = b - mid := by rw [List.length_append, hlL2, hlR2]; omega
                    refine g_skip ?_
                    exact fin0 rfl (fun w' hw' => ⟨(M205 ++ ((L.drop (st - a)) ++ (R.drop (mid - st)))), (by first | exact (by have h9 := two_halves sL sR (st - a) (mid - st) hlo hhi sma smb ema emb; exact ⟨h9.1, h9.2, by rw [List.length_append, lma, lmb]; omega⟩) | (dsimp only; exact (by have h9 := two_halves sL sR (st - a) (mid - st) hlo hhi sma smb ema emb; exact ⟨h9.1, h9.2, by rw [List.length_append, lma, lmb]; omega⟩))), rfl, by have h9 := wok_sub (L' := [Res.row A n cap 50 2 (((P ++ (M205 ++ ((L.drop (st - a)) ++ ((R.drop (mid - st)) ++ S))))).map En.c)]) w' hw'; show WOK _ _ [Res.row A n cap 50 2 (((P ++ (((M205 ++ ((L.drop (st - a)) ++ (R.drop (mid - st))))) ++ S))).map En.c)] _; simp only [List.append_assoc] at h9 ⊢; exact h9⟩) _ (.inr rfl)
                · have smb : Srt ((L.drop (st - a)) ++ (R.drop (mid - st))) := by rw [show L.drop (st - a) = [] from List.drop_eq_nil_of_le (by have h9 := of_decide_eq_false h60; omega), List.nil_append]; exact sR.drop _
                  have emb : Same ((L.drop (st - a)) ++ (R.drop (mid - st))) ((L.drop (st - a)) ++ (R.drop (mid - st))) := Same.rfl'
                  have lmb : ((L.drop (st - a)) ++ (R.drop (mid - st))).length = b - mid := by rw [List.length_append, hlL2, hlR2]; omega
                  refine g_gf rfl rfl rfl rfl ?_
                  refine g_gf rfl rfl rfl rfl ?_
                  refine g_gf rfl rfl rfl rfl ?_
                  refine s_q (q_pick_f rfl rfl) rfl ?_
                  refine g_nil ?_
                  refine g_then ?_
                  refine g_false rfl ?_
                  refine g_skip ?_
                  exact fin0 rfl (fun w' hw' => ⟨(M205 ++ ((L.drop (st - a)) ++ (R.drop (mid - st)))), (by first | exact (by have h9 := two_halves sL sR (st - a) (mid - st) hlo hhi sma smb ema emb; exact ⟨h9.1, h9.2, by rw [List.length_append, lma, lmb]; omega⟩) | (dsimp only; exact (by have h9 := two_halves sL sR (st - a) (mid - st) hlo hhi sma smb ema emb; exact ⟨h9.1, h9.2, by rw [List.length_append, lma, lmb]; omega⟩))), rfl, by have h9 := wok_sub (L' := [Res.row A n cap 50 2 (((P ++ (M205 ++ ((L.drop (st - a)) ++ ((R.drop (mid - st)) ++ S))))).map En.c)]) w' hw'; show WOK _ _ [Res.row A n cap 50 2 (((P ++ (((M205 ++ ((L.drop (st - a)) ++ (R.drop (mid - st))))) ++ S))).map En.c)] _; simp only [List.append_assoc] at h9 ⊢; exact h9⟩) _ (.inr rfl)
              · have hms1 : mid ≤ st := by have h9 := of_decide_eq_false h59; omega
                have sma : Srt ((L.take (st - a)) ++ (R.take (mid - st))) := by rw [show mid - st = 0 from by omega, List.take_zero, List.append_nil]; exact sL.take _
                have ema : Same ((L.take (st - a)) ++ (R.take (mid - st))) ((L.take (st - a)) ++ (R.take (mid - st))) := Same.rfl'
                have lma : ((L.take (st - a)) ++ (R.take (mid - st))).length = mid - a := by rw [List.length_append, hlL, hlR]; omega
                refine g_skip ?_
                refine g_then ?_
                refine g_seq ?_
                refine g_region ?_
                refine g_rowels (A := A) ((P ++ (((L.take (st - a)) ++ (R.take (mid - st))) ++ ((L.drop (st - a)) ++ ((R.drop (mid - st)) ++ S)))).map En.c) (by first | rfl | simp only [List.append_assoc]) ?_
                refine s_q (q_move rfl) rfl ?_
                refine s_q (q_move rfl) rfl ?_
                refine s_q (q_lss rfl rfl) rfl ?_
                refine s_q (q_move rfl) rfl ?_
                refine g_split 209 rfl (fun h62 => ?_) (fun h62 => ?_)
                · have hme : st < m := by have h9 := of_decide_eq_true h62; omega
                  refine s_qg (q_move rfl) rfl rfl rfl ?_
                  refine s_qg (q_move rfl) rfl rfl rfl ?_
                  refine s_qg (q_lss rfl rfl) rfl rfl rfl ?_
                  refine s_q (q_pick_t rfl rfl) rfl ?_
                  refine g_nil ?_
                  refine g_then ?_
                  refine g_cond rfl (fun h63 => ?_) (fun h63 => ?_)
                  · have heb : mid + m - st < b := by have h9 := of_decide_eq_true h63; omega
                    refine g_region ?_
                    refine s_q (q_move rfl) rfl ?_
                    refine s_q (q_move rfl) rfl ?_
                    refine s_q (q_move rfl) rfl ?_
                    refine s_q (q_move rfl) rfl ?_
                    refine s_q (q_move rfl) rfl ?_
                    refine g_op (g_ownS [Res.row A n cap 50 2 (((P ++ (((L.take (st - a)) ++ (R.take (mid - st))) ++ ((L.drop (st - a)) ++ ((R.drop (mid - st)) ++ S))))).map En.c)] rfl (fun w1 hw1 ho1 => by have h7 := IH A n cap (P ++ (((L.take (st - a)) ++ (R.take (mid - st))) ++ ((L.drop (st - a)) ++ ((R.drop (mid - st)) ++ S)))) (P ++ ((L.take (st - a)) ++ (R.take (mid - st)))) (L.drop (st - a)) (R.drop (mid - st)) S (mid) (((mid + m) - st)) (b) w1 ho1 (by have h9 := lma; simp only [List.length_append, hlL, hlR, hlL2, hlR2] at h9 ⊢; omega) hn6 (by simp only [List.append_assoc]) (by first | omega | (simp only [List.length_append]; omega) | (simp; omega)) (by first | omega | (simp only [List.length_append]; omega) | (simp; omega)) (by first | omega | (simp only [List.length_append]; omega) | (simp; omega)) (by first | omega | (simp only [List.length_append]; omega) | (simp; omega)) (by first | omega | (simp only [List.length_append]; omega) | (simp; omega)) (sL.drop _) (sR.drop _) (by omega); exact h7) rfl ?_)
                    rintro M219 ⟨sm219, em219, lm219⟩
                    refine ⟨_, _, inferInstance, inferInstance, ?_⟩
                    have smb := sm219
                    have emb := em219
                    have lmb : M219.length = b - mid := by rw [lm219, hlL2, hlR2]; omega
                    refine g_nil ?_
                    exact fin0 rfl (fun w' hw' => ⟨(((L.take (st - a)) ++ (R.take (mid - st))) ++ M219), (by first | exact (by have h9 := two_halves sL sR (st - a) (mid - st) hlo hhi sma smb ema emb; exact ⟨h9.1, h9.2, by rw [List.length_append, lma, lmb]; omega⟩) | (dsimp only; exact (by have h9 := two_halves sL sR (st - a) (mid - st) hlo hhi sma smb ema emb; exact ⟨h9.1, h9.2, by rw [List.length_append, lma, lmb]; omega⟩))), rfl, by have h9 := wok_sub (L' := [Res.row A n cap 50 2 ((((P ++ ((L.take (st - a)) ++ (R.take (mid - st)))) ++ (M219 ++ S))).map En.c)]) w' hw'; show WOK _ _ [Res.row A n cap 50 2 (((P ++ (((((L.take (st - a)) ++ (R.take (mid - st))) ++ M219)) ++ S))).map En.c)] _; simp only [List.append_assoc] at h9 ⊢; exact h9⟩) _ (.inr rfl)
                  · have heb : b ≤ mid + m - st := by have h9 := of_decide_eq_false h63; omega
                    have smb : Srt ((L.drop (st - a)) ++ (R.drop (mid - st))) := by rw [show R.drop (mid - st) = [] from List.drop_eq_nil_of_le (by omega), List.append_nil]; exact sL.drop _
                    have emb : Same ((L.drop (st - a)) ++ (R.drop (mid - st))) ((L.drop (st - a)) ++ (R.drop (mid - st))) := Same.rfl'
                    have lmb : ((L.drop (st - a)) ++ (R.drop (mid - st))).length = b - mid := by rw [List.length_append, hlL2, hlR2]; omega
                    refine g_skip ?_
                    exact fin0 rfl (fun w' hw' => ⟨(((L.take (st - a)) ++ (R.take (mid - st))) ++ ((L.drop (st - a)) ++ (R.drop (mid - st)))), (by first | exact (by have h9 := two_halves sL sR (st - a) (mid - st) hlo hhi sma smb ema emb; exact ⟨h9.1, h9.2, by rw [List.length_append, lma, lmb]; omega⟩) | (dsimp only; exact (by have h9 := two_halves sL sR (st - a) (mid - st) hlo hhi sma smb ema emb; exact ⟨h9.1, h9.2, by rw [List.length_append, lma, lmb]; omega⟩))), rfl, by have h9 := wok_sub (L' := [Res.row A n cap 50 2 (((P ++ (((L.take (st - a)) ++ (R.take (mid - st))) ++ ((L.drop (st - a)) ++ ((R.drop (mid - st)) ++ S))))).map En.c)]) w' hw'; show WOK _ _ [Res.row A n cap 50 2 (((P ++ (((((L.take (st - a)) ++ (R.take (mid - st))) ++ ((L.drop (st - a)) ++ (R.drop (mid - st))))) ++ S))).map En.c)] _; simp only [List.append_assoc] at h9 ⊢; exact h9⟩) _ (.inr rfl)
                · have smb : Srt ((L.drop (st - a)) ++ (R.drop (mid - st))) := by rw [show L.drop (st - a) = [] from List.drop_eq_nil_of_le (by have h9 := of_decide_eq_false h62; omega), List.nil_append]; exact sR.drop _
                  have emb : Same ((L.drop (st - a)) ++ (R.drop (mid - st))) ((L.drop (st - a)) ++ (R.drop (mid - st))) := Same.rfl'
                  have lmb : ((L.drop (st - a)) ++ (R.drop (mid - st))).length = b - mid := by rw [List.length_append, hlL2, hlR2]; omega
                  refine g_gf rfl rfl rfl rfl ?_
                  refine g_gf rfl rfl rfl rfl ?_
                  refine g_gf rfl rfl rfl rfl ?_
                  refine s_q (q_pick_f rfl rfl) rfl ?_
                  refine g_nil ?_
                  refine g_then ?_
                  refine g_false rfl ?_
                  refine g_skip ?_
                  exact fin0 rfl (fun w' hw' => ⟨(((L.take (st - a)) ++ (R.take (mid - st))) ++ ((L.drop (st - a)) ++ (R.drop (mid - st)))), (by first | exact (by have h9 := two_halves sL sR (st - a) (mid - st) hlo hhi sma smb ema emb; exact ⟨h9.1, h9.2, by rw [List.length_append, lma, lmb]; omega⟩) | (dsimp only; exact (by have h9 := two_halves sL sR (st - a) (mid - st) hlo hhi sma smb ema emb; exact ⟨h9.1, h9.2, by rw [List.length_append, lma, lmb]; omega⟩))), rfl, by have h9 := wok_sub (L' := [Res.row A n cap 50 2 (((P ++ (((L.take (st - a)) ++ (R.take (mid - st))) ++ ((L.drop (st - a)) ++ ((R.drop (mid - st)) ++ S))))).map En.c)]) w' hw'; show WOK _ _ [Res.row A n cap 50 2 (((P ++ (((((L.take (st - a)) ++ (R.take (mid - st))) ++ ((L.drop (st - a)) ++ (R.drop (mid - st))))) ++ S))).map En.c)] _; simp only [List.append_assoc] at h9 ⊢; exact h9⟩) _ (.inr rfl)
            · have sma : Srt ((L.take (st - a)) ++ (R.take (mid - st))) := by rw [show st - a = 0 from by have h9 := of_decide_eq_false h58; omega]; exact sR.take _
              have ema : Same ((L.take (st - a)) ++ (R.take (mid - st))) ((L.take (st - a)) ++ (R.take (mid - st))) := Same.rfl'
              have lma : ((L.take (st - a)) ++ (R.take (mid - st))).length = mid - a := by rw [List.length_append, hlL, hlR]; omega
              refine g_gf rfl rfl rfl rfl ?_
              refine g_gf rfl rfl rfl rfl ?_
              refine g_gf rfl rfl rfl rfl ?_
              refine s_q (q_pick_f rfl rfl) rfl ?_
              refine g_nil ?_
              refine g_then ?_
              refine g_false rfl ?_
              refine g_skip ?_
              refine g_then ?_
              refine g_seq ?_
              refine g_region ?_
              refine g_rowels (A := A) ((P ++ (((L.take (st - a)) ++ (R.take (mid - st))) ++ ((L.drop (st - a)) ++ ((R.drop (mid - st)) ++ S)))).map En.c) (by first | rfl | simp only [List.append_assoc]) ?_
              refine s_q (q_move rfl) rfl ?_
              refine s_q (q_move rfl) rfl ?_
              refine s_q (q_lss rfl rfl) rfl ?_
              refine s_q (q_move rfl) rfl ?_
              refine g_split 209 rfl (fun h64 => ?_) (fun h64 => ?_)
              · have hme : st < m := by have h9 := of_decide_eq_true h64; omega
                refine s_qg (q_move rfl) rfl rfl rfl ?_
                refine s_qg (q_move rfl) rfl rfl rfl ?_
                refine s_qg (q_lss rfl rfl) rfl rfl rfl ?_
                refine s_q (q_pick_t rfl rfl) rfl ?_
                refine g_nil ?_
                refine g_then ?_
                refine g_cond rfl (fun h65 => ?_) (fun h65 => ?_)
                · have heb : mid + m - st < b := by have h9 := of_decide_eq_true h65; omega
                  refine g_region ?_
                  refine s_q (q_move rfl) rfl ?_
                  refine s_q (q_move rfl) rfl ?_
                  refine s_q (q_move rfl) rfl ?_
                  refine s_q (q_move rfl) rfl ?_
                  refine s_q (q_move rfl) rfl ?_
                  refine g_op (g_ownS [Res.row A n cap 50 2 (((P ++ (((L.take (st - a)) ++ (R.take (mid - st))) ++ ((L.drop (st - a)) ++ ((R.drop (mid - st)) ++ S))))).map En.c)] rfl (fun w1 hw1 ho1 => by have h7 := IH A n cap (P ++ (((L.take (st - a)) ++ (R.take (mid - st))) ++ ((L.drop (st - a)) ++ ((R.drop (mid - st)) ++ S)))) (P ++ ((L.take (st - a)) ++ (R.take (mid - st)))) (L.drop (st - a)) (R.drop (mid - st)) S (mid) (((mid + m) - st)) (b) w1 ho1 (by have h9 := lma; simp only [List.length_append, hlL, hlR, hlL2, hlR2] at h9 ⊢; omega) hn6 (by simp only [List.append_assoc]) (by first | omega | (simp only [List.length_append]; omega) | (simp; omega)) (by first | omega | (simp only [List.length_append]; omega) | (simp; omega)) (by first | omega | (simp only [List.length_append]; omega) | (simp; omega)) (by first | omega | (simp only [List.length_append]; omega) | (simp; omega)) (by first | omega | (simp only [List.length_append]; omega) | (simp; omega)) (sL.drop _) (sR.drop _) (by omega); exact h7) rfl ?_)
                  rintro M219 ⟨sm219, em219, lm219⟩
                  refine ⟨_, _, inferInstance, inferInstance, ?_⟩
                  have smb := sm219
                  have emb := em219
                  have lmb : M219.length = b - mid := by rw [lm219, hlL2, hlR2]; omega
                  refine g_nil ?_
                  exact fin0 rfl (fun w' hw' => ⟨(((L.take (st - a)) ++ (R.take (mid - st))) ++ M219), (by first | exact (by have h9 := two_halves sL sR (st - a) (mid - st) hlo hhi sma smb ema emb; exact ⟨h9.1, h9.2, by rw [List.length_append, lma, lmb]; omega⟩) | (dsimp only; exact (by have h9 := two_halves sL sR (st - a) (mid - st) hlo hhi sma smb ema emb; exact ⟨h9.1, h9.2, by rw [List.length_append, lma, lmb]; omega⟩))), rfl, by have h9 := wok_sub (L' := [Res.row A n cap 50 2 ((((P ++ ((L.take (st - a)) ++ (R.take (mid - st)))) ++ (M219 ++ S))).map En.c)]) w' hw'; show WOK _ _ [Res.row A n cap 50 2 (((P ++ (((((L.take (st - a)) ++ (R.take (mid - st))) ++ M219)) ++ S))).map En.c)] _; simp only [List.append_assoc] at h9 ⊢; exact h9⟩) _ (.inr rfl)
                · have heb : b ≤ mid + m - st := by have h9 := of_decide_eq_false h65; omega
                  have smb : Srt ((L.drop (st - a)) ++ (R.drop (mid - st))) := by rw [show R.drop (mid - st) = [] from List.drop_eq_nil_of_le (by omega), List.append_nil]; exact sL.drop _
                  have emb : Same ((L.drop (st - a)) ++ (R.drop (mid - st))) ((L.drop (st - a)) ++ (R.drop (mid - st))) := Same.rfl'
                  have lmb : ((L.drop (st - a)) ++ (R.drop (mid - st))).length = b - mid := by rw [List.length_append, hlL2, hlR2]; omega
                  refine g_skip ?_
                  exact fin0 rfl (fun w' hw' => ⟨(((L.take (st - a)) ++ (R.take (mid - st))) ++ ((L.drop (st - a)) ++ (R.drop (mid - st)))), (by first | exact (by have h9 := two_halves sL sR (st - a) (mid - st) hlo hhi sma smb ema emb; exact ⟨h9.1, h9.2, by rw [List.length_append, lma, lmb]; omega⟩) | (dsimp only; exact (by have h9 := two_halves sL sR (st - a) (mid - st) hlo hhi sma smb ema emb; exact ⟨h9.1, h9.2, by rw [List.length_append, lma, lmb]; omega⟩))), rfl, by have h9 := wok_sub (L' := [Res.row A n cap 50 2 (((P ++ (((L.take (st - a)) ++ (R.take (mid - st))) ++ ((L.drop (st - a)) ++ ((R.drop (mid - st)) ++ S))))).map En.c)]) w' hw'; show WOK _ _ [Res.row A n cap 50 2 (((P ++ (((((L.take (st - a)) ++ (R.take (mid - st))) ++ ((L.drop (st - a)) ++ (R.drop (mid - st))))) ++ S))).map En.c)] _; simp only [List.append_assoc] at h9 ⊢; exact h9⟩) _ (.inr rfl)
              · have smb : Srt ((L.drop (st - a)) ++ (R.drop (mid - st))) := by rw [show L.drop (st - a) = [] from List.drop_eq_nil_of_le (by have h9 := of_decide_eq_false h64; omega), List.nil_append]; exact sR.drop _
                have emb : Same ((L.drop (st - a)) ++ (R.drop (mid - st))) ((L.drop (st - a)) ++ (R.drop (mid - st))) := Same.rfl'
                have lmb : ((L.drop (st - a)) ++ (R.drop (mid - st))).length = b - mid := by rw [List.length_append, hlL2, hlR2]; omega
                refine g_gf rfl rfl rfl rfl ?_
                refine g_gf rfl rfl rfl rfl ?_
                refine g_gf rfl rfl rfl rfl ?_
                refine s_q (q_pick_f rfl rfl) rfl ?_
                refine g_nil ?_
                refine g_then ?_
                refine g_false rfl ?_
                refine g_skip ?_
                exact fin0 rfl (fun w' hw' => ⟨(((L.take (st - a)) ++ (R.take (mid - st))) ++ ((L.drop (st - a)) ++ (R.drop (mid - st)))), (by first | exact (by have h9 := two_halves sL sR (st - a) (mid - st) hlo hhi sma smb ema emb; exact ⟨h9.1, h9.2, by rw [List.length_append, lma, lmb]; omega⟩) | (dsimp only; exact (by have h9 := two_halves sL sR (st - a) (mid - st) hlo hhi sma smb ema emb; exact ⟨h9.1, h9.2, by rw [List.length_append, lma, lmb]; omega⟩))), rfl, by have h9 := wok_sub (L' := [Res.row A n cap 50 2 (((P ++ (((L.take (st - a)) ++ (R.take (mid - st))) ++ ((L.drop (st - a)) ++ ((R.drop (mid - st)) ++ S))))).map En.c)]) w' hw'; show WOK _ _ [Res.row A n cap 50 2 (((P ++ (((((L.take (st - a)) ++ (R.take (mid - st))) ++ ((L.drop (st - a)) ++ (R.drop (mid - st))))) ++ S))).map En.c)] _; simp only [List.append_assoc] at h9 ⊢; exact h9⟩) _ (.inr rfl)

theorem sym_any : ∀ N, SymOK N
  | 0 => fun A n cap d P L R S a m b w hw hn hn6 hd ha hm hb hL0 hR0 sL sR hN => absurd hN (by omega)
  | N + 1 => fun A n cap d P L R S a m b w hw hn hn6 hd ha hm hb hL0 hR0 sL sR hN => sym_step N (sym_any N) A n cap d P L R S a m b w hw hn hn6 hd ha hm hb hL0 hR0 sL sR hN
end Go.Proofs.Ytgbghjnlicldnaa
