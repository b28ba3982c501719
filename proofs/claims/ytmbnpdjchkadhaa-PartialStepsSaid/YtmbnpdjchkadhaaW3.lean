/- walks over slices -/
import Derived.Test.YtmbnpdjchkadhaaW2
namespace Go.Proofs.Ytmbnpdjchkadhaa
open Go.RowKit Go.Eg
set_option synthInstance.maxSize 3000
set_option linter.unusedSimpArgs false
set_option linter.unusedVariables false
set_option maxHeartbeats 400000 in
theorem equal_y (A B : Option Addr) (n1 n2 cap1 cap2 : Nat) (l1 l2 : List Y) (w : World) (ha : Old w A n1 3 (l1.map Y.c)) (hb : Old w B n2 3 (l2.map Y.c)) (hc1 : n1 ≤ 9223372036854775807) : Pur Try.prog 20 [.slice A n1 cap1, .slice B n2 cap2] w (.bool (decide (l1 = l2))) := by
  refine g_start Try.func20 rfl 26 rfl (by simp) ([]) [] (WOK.start _ _) _ rfl ?_
  have e1 : n1 = l1.length := by simpa using ha.len
  have e2 : n2 = l2.length := by simpa using hb.len
  refine g_seq ?_
  refine g_region ?_
  refine s_q (q_assign rfl) rfl ?_
  refine g_nil ?_
  refine g_then ?_
  refine g_seq ?_
  refine g_seq ?_
  refine g_region ?_
  refine s_q (q_move rfl) rfl ?_
  refine s_q (q_len rfl) rfl ?_
  refine s_q (q_move rfl) rfl ?_
  refine s_q (q_len rfl) rfl ?_
  refine s_q (q_neq rfl rfl) rfl ?_
  refine g_nil ?_
  refine g_then ?_
  refine g_cond rfl (fun h1 => ?_) (fun h1 => ?_)
  · refine g_seq ?_
    refine g_region ?_
    refine s_q (q_assign rfl) rfl ?_
    refine g_nil ?_
    refine g_then ?_
    refine g_ret ?_
    refine g_then_ret ?_
    exact fin1 rfl (.tmp rfl) (fun w' hw' => ⟨by rw [decide_eq_false (fun e => by subst e; simp at h1; omega)], hw'.upd⟩) _ (.inl rfl)
  · have hn : n1 = n2 := by simp at h1; omega
    refine g_skip ?_
    refine g_then ?_
    refine g_seq ?_
    refine g_seq ?_
    refine g_region ?_
    refine s_q (q_move rfl) rfl ?_
    refine s_q (q_len rfl) rfl ?_
    refine s_q (q_move rfl) rfl ?_
    refine g_nil ?_
    refine g_then ?_
    refine g_block ?_
    refine g_loopk [0, 1, 4, 12] (fun (x : Nat) => [(13, .int .i64 ((x : Nat) : Int))]) (fun (x : Nat) => []) (fun (x : Nat) => x ≤ n1 ∧ (∀ j, j < x → l1[j]? = l2[j]?)) (fun (x : Nat) => n1 - x) 0 (by (try dsimp only); exact ⟨Nat.zero_le _, (fun j hj => absurd hj (Nat.not_lt_zero _))⟩) rfl (by repeat (first | exact trivial | refine ⟨rfl, ?_⟩)) wok_sub ?_
    rintro k ⟨le_k, pre⟩
    replace le_k : k ≤ n1 := le_k
    replace pre : ∀ j, j < k → l1[j]? = l2[j]? := pre
    refine g_seq ?_
    refine g_region ?_
    refine s_q (q_lss rfl rfl) rfl ?_
    refine g_nil ?_
    refine g_then ?_
    refine g_seq ?_
    refine g_cond rfl (fun h2 => ?_) (fun h2 => ?_)
    · have lt_k : k < n1 := by have h9 := of_decide_eq_true h2; omega
      have lk1 : k < l1.length := by omega
      have lk2 : k < l2.length := by omega
      refine g_skip ?_
      refine g_then ?_
      refine g_seq ?_
      refine g_block ?_
      refine g_seq ?_
      refine g_region ?_
      refine s_q (q_move rfl) rfl ?_
      refine s_q (q_assign rfl) rfl ?_
      refine g_nil ?_
      refine g_then ?_
      refine g_seq ?_
      refine d_region [] mixed rfl rfl ?_
      refine d_q 0 rfl (by kernel_rfl) (q_move rfl) wok_sub rfl (ls' := #[true, false, false, false, false, false, false, false, false]) rfl ?_
      refine d_q 1 rfl (by kernel_rfl) (q_move rfl) wok_sub rfl (ls' := #[true, true, false, false, false, false, false, false, false]) rfl ?_
      refine d_q 2 rfl (by kernel_rfl) (q_index (i := k) rfl rfl rfl (ha.rdb rfl) (by first | exact lt_k | omega)) wok_sub rfl (ls' := #[true, true, true, false, false, false, false, false, false]) rfl ?_
      refine d_q 3 rfl (by kernel_rfl) (q_load_ew (i := k) rfl (ha.rdb rfl) (map_get (by first | exact (by first | exact lt_k | omega) | omega | (simp_all; done) | (simp_all; omega))) rfl) wok_sub rfl (ls' := #[true, true, true, true, false, false, false, false, false]) rfl ?_
      refine d_q 4 rfl (by kernel_rfl) (q_move rfl) wok_sub rfl (ls' := #[true, true, true, true, true, false, false, false, false]) rfl ?_
      refine d_q 5 rfl (by kernel_rfl) (q_move rfl) wok_sub rfl (ls' := #[true, true, true, true, true, true, false, false, false]) rfl ?_
      refine d_q 6 rfl (by kernel_rfl) (q_index (i := k) rfl rfl rfl (hb.rdb rfl) (by first | exact lt_k | omega)) wok_sub rfl (ls' := #[true, true, true, true, true, true, true, false, false]) rfl ?_
      refine d_q 7 rfl (by kernel_rfl) (q_load_ew (i := k) rfl (hb.rdb rfl) (map_get (by first | exact (by first | exact lt_k | omega) | omega | (simp_all; done) | (simp_all; omega))) rfl) wok_sub rfl (ls' := #[true, true, true, true, true, true, true, true, false]) rfl ?_
      refine d_q 8 rfl (by kernel_rfl) (q_nes rfl rfl rfl) wok_sub rfl (ls' := #[true, true, true, true, true, true, true, true, true]) rfl ?_
      refine d_end (by kernel_rfl) (.inr wok_sub) ?_
      refine g_then ?_
      refine g_cond rfl (fun h3 => ?_) (fun h3 => ?_)
      · refine g_seq ?_
        refine g_region ?_
        refine s_q (q_assign rfl) rfl ?_
        refine g_nil ?_
        refine g_then ?_
        refine g_ret ?_
        refine g_blk_ret (g_then_ret (g_then_ret (g_blk_ret (g_then_ret ?_))))
        exact fin1 rfl (.tmp rfl) (fun w' hw' => ⟨by rw [decide_eq_false (fun e => by subst e; simp at h3)], hw'.upd⟩) _ (.inl rfl)
      · refine g_skip ?_
        refine g_blk_n ?_
        refine g_then ?_
        refine g_region ?_
        refine s_q (q_inc rfl rfl (by omega)) rfl ?_
        refine s_q (q_move rfl) rfl ?_
        refine g_nil ?_
        exact g_again (k + 1) (by (try dsimp only); exact ⟨(by first | exact lt_k | omega), (pre_succ pre (by rw [List.getElem?_eq_getElem (by omega), List.getElem?_eq_getElem (by omega)]; exact congrArg some ((Y.ext_iff' _ _).2 (by simpa using h3))))⟩) (by first | omega | (simp only; omega)) (by repeat (first | exact trivial | refine ⟨rfl, ?_⟩)) wok_sub
    · have eq_k : k = n1 := by have h9 := of_decide_eq_false h2; omega
      refine g_exit ?_
      refine g_then_x (g_then_x (g_blk_hit ?_))
      refine g_then ?_
      refine g_seq ?_
      refine g_region ?_
      refine s_q (q_assign rfl) rfl ?_
      refine g_nil ?_
      refine g_then ?_
      refine g_ret ?_
      exact fin1 rfl (.tmp rfl) (fun w' hw' => ⟨by rw [decide_eq_true (pre_all pre (by omega) (by omega))], hw'.upd⟩) _ (.inl rfl)

set_option maxHeartbeats 400000 in
theorem clone_v (A : Option Addr) (n cap : Nat) (l : List V) (w : World) (hrd : Rd w [] A n 7 (l.map V.c)) (hcap : n ≤ 1000000) : Own2 (ι := (Option Addr × Nat)) Try.prog 24 [.slice A n cap] w [] (fun x => True) (fun x => .slice x.1 l.length x.2) (fun x => [Res.row x.1 l.length x.2 24 7 (l.map V.c)]) (fun x => []) := by
  refine g_start Try.func24 rfl 8 rfl (by simp) (fps []) [] (WOK.start _ _) _ rfl ?_
  have hn : n = l.length := by have := hrd.old.len; simpa using this
  refine g_seq ?_
  refine g_region ?_
  refine s_q (q_assign rfl) rfl ?_
  refine g_nil ?_
  refine g_then ?_
  refine g_seq ?_
  refine g_seq ?_
  refine g_region ?_
  refine s_q (q_move rfl) rfl ?_
  refine s_q (q_eqsl rfl rfl) rfl ?_
  refine g_nil ?_
  refine g_then ?_
  refine g_cond rfl (fun h1 => ?_) (fun h1 => ?_)
  · refine g_seq ?_
    refine g_region ?_
    refine s_q (q_assign rfl) rfl ?_
    refine g_nil ?_
    refine g_then ?_
    refine g_ret ?_
    refine g_then_ret ?_
    have h0 : A = none := by simpa using h1
    have hl : l = [] := by
      rcases Nat.eq_zero_or_pos n with h2 | h2
      · exact List.eq_nil_of_length_eq_zero (by have := hrd.old.len; simp at this; omega)
      · have := (hrd.old.at_ h2).1; rw [h0] at this; simp at this
    subst hl
    refine g_noresL none 24 7 (([] : List V).map V.c) rfl ?_
    exact fin1 rfl (.tmp rfl) (fun w' hw' => ⟨((none : Option Addr), (0 : Nat)), (by first | exact trivial | (dsimp only; exact trivial)), rfl, by have h9 := wok_sub (L' := [Res.row none 0 0 24 7 (([] : List V).map V.c)]) w' hw'; exact h9⟩) _ (.inl rfl)
  · refine g_skip ?_
    refine g_then ?_
    refine g_seq ?_
    refine g_region ?_
    refine g_op (g_lit rfl rfl rfl rfl rfl fun b5 => ?_)
    refine g_norow (t := 5) (T := 24) (k := 7) rfl fun A5 cap5 hc5 => ?_
    refine g_rowels (A := A5) (([] : List V).map V.c) rfl ?_
    refine s_q (q_move rfl) rfl ?_
    refine g_op (g_append (A := A5) (els := (([] : List V)).map V.c) (news := ((l).map V.c)) rfl rfl hrd.rdb (map_one (c := V.c) (by intro x; simp [V.c, Value.oneCell']) _) (by first | omega | (simp; omega) | (simp_all; omega)) rfl fun A7 cap7 => ⟨_, inferInstance, ?_⟩)
    refine g_rowels (A := A7) ((l).map V.c) (by first | rfl | exact List.map_append.symm | (simp; done)) ?_
    refine g_rown (A := A7) (n) (by simp) ?_
    refine g_val 7 (v' := .slice A7 (n) cap7) rfl (by simp) ?_
    refine s_q (q_assign rfl) rfl ?_
    refine g_nil ?_
    refine g_then ?_
    refine g_ret ?_
    exact fin1 rfl (.tmp rfl) (fun w' hw' => ⟨(A7, cap7), (by first | exact trivial | (dsimp only; exact trivial)), by rw [← hn], by have h9 := wok_sub (L' := [Res.row A7 n cap7 24 7 (l.map V.c)]) w' hw'; show WOK _ _ [Res.row ((A7, cap7)).1 l.length ((A7, cap7)).2 24 7 (l.map V.c)] _; rw [← hn]; exact h9⟩) _ (.inl rfl)

set_option maxHeartbeats 400000 in
theorem same7 (A B : Option Addr) (n1 n2 cap1 cap2 : Nat) (l1 l2 : List V) (w : World) (ha : Old w A n1 7 (l1.map V.c)) (hb : Old w B n2 7 (l2.map V.c)) (hc1 : n1 ≤ 9223372036854775807) : Pur Try.prog 19 [.slice A n1 cap1, .slice B n2 cap2] w (.bool (decide (l1 = l2))) := by
  refine g_start Try.func19 rfl 26 rfl (by simp) ([]) [] (WOK.start _ _) _ rfl ?_
  have e1 : n1 = l1.length := by simpa using ha.len
  have e2 : n2 = l2.length := by simpa using hb.len
  refine g_seq ?_
  refine g_region ?_
  refine s_q (q_assign rfl) rfl ?_
  refine g_nil ?_
  refine g_then ?_
  refine g_seq ?_
  refine g_seq ?_
  refine g_region ?_
  refine s_q (q_move rfl) rfl ?_
  refine s_q (q_len rfl) rfl ?_
  refine s_q (q_move rfl) rfl ?_
  refine s_q (q_len rfl) rfl ?_
  refine s_q (q_neq rfl rfl) rfl ?_
  refine g_nil ?_
  refine g_then ?_
  refine g_cond rfl (fun h1 => ?_) (fun h1 => ?_)
  · refine g_seq ?_
    refine g_region ?_
    refine s_q (q_assign rfl) rfl ?_
    refine g_nil ?_
    refine g_then ?_
    refine g_ret ?_
    refine g_then_ret ?_
    exact fin1 rfl (.tmp rfl) (fun w' hw' => ⟨by rw [decide_eq_false (fun e => by subst e; simp at h1; omega)], hw'.upd⟩) _ (.inl rfl)
  · have hn : n1 = n2 := by simp at h1; omega
    refine g_skip ?_
    refine g_then ?_
    refine g_seq ?_
    refine g_seq ?_
    refine g_region ?_
    refine s_q (q_assign rfl) rfl ?_
    refine g_nil ?_
    refine g_then ?_
    refine g_block ?_
    refine g_loopk [0, 1, 4] (fun (x : Nat) => [(5, .int .i64 ((x : Nat) : Int))]) (fun (x : Nat) => []) (fun (x : Nat) => x ≤ n1 ∧ (∀ j, j < x → l1[j]? = l2[j]?)) (fun (x : Nat) => n1 - x) 0 (by (try dsimp only); exact ⟨Nat.zero_le _, (fun j hj => absurd hj (Nat.not_lt_zero _))⟩) rfl (by repeat (first | exact trivial | refine ⟨rfl, ?_⟩)) wok_sub ?_
    rintro k ⟨le_k, pre⟩
    replace le_k : k ≤ n1 := le_k
    replace pre : ∀ j, j < k → l1[j]? = l2[j]? := pre
    refine g_seq ?_
    refine g_seq ?_
    refine g_region ?_
    refine s_q (q_move rfl) rfl ?_
    refine s_q (q_move rfl) rfl ?_
    refine s_q (q_len rfl) rfl ?_
    refine s_q (q_lss rfl rfl) rfl ?_
    refine g_nil ?_
    refine g_then ?_
    refine g_cond rfl (fun h2 => ?_) (fun h2 => ?_)
    · have lt_k : k < n1 := by have h9 := of_decide_eq_true h2; omega
      have lk1 : k < l1.length := by omega
      have lk2 : k < l2.length := by omega
      refine g_skip ?_
      refine g_then ?_
      refine g_seq ?_
      refine g_block ?_
      refine g_seq ?_
      refine d_region [] mixed rfl rfl ?_
      refine d_q 0 rfl (by kernel_rfl) (q_move rfl) wok_sub rfl (ls' := #[true, false, false, false, false, false, false, false, false]) rfl ?_
      refine d_q 1 rfl (by kernel_rfl) (q_move rfl) wok_sub rfl (ls' := #[true, true, false, false, false, false, false, false, false]) rfl ?_
      refine d_q 2 rfl (by kernel_rfl) (q_index (i := k) rfl rfl rfl (ha.rdb rfl) (by first | exact lt_k | omega)) wok_sub rfl (ls' := #[true, true, true, false, false, false, false, false, false]) rfl ?_
      refine d_q 3 rfl (by kernel_rfl) (q_load_ew (i := k) rfl (ha.rdb rfl) (map_get (by first | exact (by first | exact lt_k | omega) | omega | (simp_all; done) | (simp_all; omega))) rfl) wok_sub rfl (ls' := #[true, true, true, true, false, false, false, false, false]) rfl ?_
      refine d_q 4 rfl (by kernel_rfl) (q_move rfl) wok_sub rfl (ls' := #[true, true, true, true, true, false, false, false, false]) rfl ?_
      refine d_q 5 rfl (by kernel_rfl) (q_move rfl) wok_sub rfl (ls' := #[true, true, true, true, true, true, false, false, false]) rfl ?_
      refine d_q 6 rfl (by kernel_rfl) (q_index (i := k) rfl rfl rfl (hb.rdb rfl) (by first | exact lt_k | omega)) wok_sub rfl (ls' := #[true, true, true, true, true, true, true, false, false]) rfl ?_
      refine d_q 7 rfl (by kernel_rfl) (q_load_ew (i := k) rfl (hb.rdb rfl) (map_get (by first | exact (by first | exact lt_k | omega) | omega | (simp_all; done) | (simp_all; omega))) rfl) wok_sub rfl (ls' := #[true, true, true, true, true, true, true, true, false]) rfl ?_
      refine d_q 8 rfl (by kernel_rfl) (q_nes rfl rfl rfl) wok_sub rfl (ls' := #[true, true, true, true, true, true, true, true, true]) rfl ?_
      refine d_end (by kernel_rfl) (.inr wok_sub) ?_
      refine g_then ?_
      refine g_cond rfl (fun h3 => ?_) (fun h3 => ?_)
      · refine g_seq ?_
        refine g_region ?_
        refine s_q (q_assign rfl) rfl ?_
        refine g_nil ?_
        refine g_then ?_
        refine g_ret ?_
        refine g_blk_ret (g_then_ret (g_then_ret (g_blk_ret (g_then_ret ?_))))
        exact fin1 rfl (.tmp rfl) (fun w' hw' => ⟨by rw [decide_eq_false (fun e => by subst e; simp at h3)], hw'.upd⟩) _ (.inl rfl)
      · refine g_skip ?_
        refine g_blk_n ?_
        refine g_then ?_
        refine g_region ?_
        refine s_q (q_move rfl) rfl ?_
        refine s_q (q_inc rfl rfl (by omega)) rfl ?_
        refine s_q (q_assign rfl) rfl ?_
        refine g_nil ?_
        exact g_again (k + 1) (by (try dsimp only); exact ⟨(by first | exact lt_k | omega), (pre_succ pre (by rw [List.getElem?_eq_getElem (by omega), List.getElem?_eq_getElem (by omega)]; exact congrArg some ((V.ext_iff' _ _).2 (by simpa using h3))))⟩) (by first | omega | (simp only; omega)) (by repeat (first | exact trivial | refine ⟨rfl, ?_⟩)) wok_sub
    · have eq_k : k = n1 := by have h9 := of_decide_eq_false h2; omega
      refine g_exit ?_
      refine g_then_x (g_then_x (g_blk_hit ?_))
      refine g_then ?_
      refine g_seq ?_
      refine g_region ?_
      refine s_q (q_assign rfl) rfl ?_
      refine g_nil ?_
      refine g_then ?_
      refine g_ret ?_
      exact fin1 rfl (.tmp rfl) (fun w' hw' => ⟨by rw [decide_eq_true (pre_all pre (by omega) (by omega))], hw'.upd⟩) _ (.inl rfl)

set_option maxHeartbeats 400000 in
theorem put7 (A : Option Addr) (n cap : Nat) (l : List V) (i : Nat) (y : V) (w : World) (hrd : Rd w [] A n 7 (l.map V.c)) (hcap : n ≤ 1000000) (hi : i < l.length) : Own2 (ι := (Option Addr × Nat)) Try.prog 27 [.slice A n cap, .int .i64 ((i : Nat) : Int), y.v] w [] (fun x => True) (fun x => .slice x.1 (l.set i y).length x.2) (fun x => [Res.row x.1 (l.set i y).length x.2 24 7 ((l.set i y).map V.c)]) (fun x => []) := by
  refine g_start Try.func27 rfl 16 rfl (by simp) (fps []) [] (WOK.start _ _) _ rfl ?_
  have hn : n = l.length := by have := hrd.old.len; simpa using this
  refine g_seq ?_
  refine g_region ?_
  refine g_op (g_box (c := V.c y) rfl rfl rfl fun b5 => ?_)
  refine s_q (q_assign rfl) rfl ?_
  refine g_nil ?_
  refine g_then ?_
  refine g_seq ?_
  refine g_region ?_
  refine g_op (g_lit rfl rfl rfl rfl rfl fun b8 => ?_)
  refine g_norow (t := 8) (T := 24) (k := 7) rfl fun A8 cap8 hc8 => ?_
  refine g_rowels (A := A8) (([] : List V).map V.c) rfl ?_
  refine s_q (q_move rfl) rfl ?_
  refine g_op (g_append (A := A8) (els := (([] : List V)).map V.c) (news := ((l).map V.c)) rfl rfl hrd.rdb (map_one (c := V.c) (by intro x; simp [V.c, Value.oneCell']) _) (by first | omega | (simp; omega) | (simp_all; omega)) rfl fun A10 cap10 => ⟨_, inferInstance, ?_⟩)
  refine g_rowels (A := A10) ((l).map V.c) (by first | rfl | exact List.map_append.symm | (simp; done)) ?_
  refine g_rown (A := A10) (n) (by simp) ?_
  refine g_val 10 (v' := .slice A10 (n) cap10) rfl (by simp) ?_
  refine s_q (q_assign rfl) rfl ?_
  refine g_nil ?_
  refine g_then ?_
  refine g_seq ?_
  refine g_region ?_
  refine s_q (q_move rfl) rfl ?_
  refine s_q (q_move rfl) rfl ?_
  refine s_q (q_loadw rfl rfl) rfl ?_
  refine s_q (q_index (i := i) rfl rfl rfl (InRow.rdb (A := A10) (els := (l).map V.c) (by first | rfl | assumption | (simp; done) | (simp_all; done) | (simp; omega) | (simp_all; omega)) (map_cat (c := V.c) (fun _ => rfl) _)) (by first | omega | (simp; done) | (simp; omega))) rfl ?_
  refine g_op (g_store_el (A := A10) (i := i) (o := 0) (cs' := V.c (y)) rfl rfl rfl rfl rfl (map_get (by first | assumption | omega | (simp_all; done) | (simp_all; omega))) (by first | (simp; done) | exact Nat.le_refl _) rfl (splice_all rfl) ?_)
  refine g_rowels (A := A10) ((l.set i y).map V.c) (by rw [List.map_set]) ?_
  refine g_nil ?_
  refine g_then ?_
  refine g_seq ?_
  refine g_region ?_
  refine s_q (q_move rfl) rfl ?_
  refine s_q (q_assign rfl) rfl ?_
  refine g_nil ?_
  refine g_then ?_
  refine g_ret ?_
  exact fin1 rfl (.tmp rfl) (fun w' hw' => ⟨(A10, cap10), (by first | exact trivial | (dsimp only; exact trivial)), by simp [hn], by have h9 := wok_sub (L' := [Res.row A10 n cap10 24 7 ((l.set i y).map V.c)]) w' hw'; show WOK _ _ [Res.row ((A10, cap10)).1 (l.set i y).length ((A10, cap10)).2 24 7 ((l.set i y).map V.c)] _; rw [List.length_set, ← hn]; exact h9⟩) _ (.inl rfl)

def pos (l : List Y) : List Y := l.filter fun y => !decide (y.a = 0)
theorem pos_succ {l : List Y} {j : Nat} (h : j < l.length) : pos (l.take (j + 1)) = pos (l.take j) ++ (if l[j].a = 0 then [] else [l[j]]) := by
  unfold pos
  rw [← List.take_append_getElem h, List.filter_append]
  by_cases h0 : l[j].a = 0 <;> simp [h0]
theorem pos_le (l : List Y) : (pos l).length ≤ l.length := List.length_filter_le _ _

set_option maxHeartbeats 400000 in
theorem pos1_any (y : Y) (w : World)  : Pur Try.prog 30 [.agg y.c.toArray] w (.bool (decide (y.a = 0))) := by
  refine g_start Try.func30 rfl 6 rfl (by simp) ([]) [] (WOK.start _ _) _ rfl ?_
  refine g_seq ?_
  refine g_region ?_
  refine g_op (g_box rfl rfl rfl fun b1 => ?_)
  refine s_q (q_assign rfl) rfl ?_
  refine g_nil ?_
  refine g_then ?_
  refine g_seq ?_
  refine g_region ?_
  refine s_q (q_field rfl) rfl ?_
  refine s_q (q_load rfl rfl) rfl ?_
  refine s_q (q_eql rfl rfl) rfl ?_
  refine s_q (q_assign rfl) rfl ?_
  refine g_nil ?_
  refine g_then ?_
  refine g_ret ?_
  exact fin1 rfl (.tmp rfl) (fun w' hw' => ⟨by rfl, hw'.upd⟩) _ (.inl rfl)

set_option maxHeartbeats 400000 in
theorem index_any (A : Option Addr) (n cap : Nat) (l : List Y) (w : World) (hw : WOK (fps [Res.row A n cap 51 3 (l.map Y.c)]) w [Res.row A n cap 51 3 (l.map Y.c)] w) (hn : n = l.length) (hcap : n ≤ 1000000) : Own2 (ι := Int) Try.prog 31 [.slice A n cap, .func (.func 30) #[] #[]] w [Res.row A n cap 51 3 (l.map Y.c)] (fun x => ((x = -1 ∧ ∀ y ∈ l, ¬ y.a = 0) ∨ ∃ k : Nat, x = k ∧ k < l.length ∧ (∀ y ∈ l.take k, ¬ y.a = 0) ∧ (l[k]?.map Y.a) = some 0)) (fun x => .int .i64 x) (fun x => []) (fun x => [Res.row A n cap 51 3 (l.map Y.c)]) := by
  refine g_start Try.func31 rfl 19 rfl (by simp) (fps [Res.row A n cap 51 3 (l.map Y.c)]) [Res.row A n cap 51 3 (l.map Y.c)] hw _ rfl ?_
  refine g_seq ?_
  refine g_region ?_
  refine s_q (q_assign rfl) rfl ?_
  refine g_nil ?_
  refine g_then ?_
  refine g_seq ?_
  refine g_seq ?_
  refine g_region ?_
  refine s_q (q_move rfl) rfl ?_
  refine s_q (q_len rfl) rfl ?_
  refine s_q (q_move rfl) rfl ?_
  refine g_nil ?_
  refine g_then ?_
  refine g_block ?_
  refine g_loopk [0, 1, 4, 7] (fun (x : Nat) => [(8, .int .i64 ((x : Nat) : Int))]) (fun (x : Nat) => [Res.row A n cap 51 3 (l.map Y.c)]) (fun (x : Nat) => x ≤ l.length ∧ (∀ y ∈ l.take x, ¬ y.a = 0)) (fun (x : Nat) => l.length - x) 0 (by (try dsimp only); exact ⟨Nat.zero_le _, (by simp)⟩) rfl (by repeat (first | exact trivial | refine ⟨rfl, ?_⟩)) wok_sub ?_
  rintro k ⟨le_k, hz⟩
  replace le_k : k ≤ l.length := le_k
  replace hz : ∀ y ∈ l.take k, ¬ y.a = 0 := hz
  refine g_seq ?_
  refine g_region ?_
  refine s_q (q_lss rfl rfl) rfl ?_
  refine g_nil ?_
  refine g_then ?_
  refine g_seq ?_
  refine g_cond rfl (fun h1 => ?_) (fun h1 => ?_)
  · have lt_k : k < l.length := by have h9 := of_decide_eq_true h1; omega
    refine g_skip ?_
    refine g_then ?_
    refine g_seq ?_
    refine g_block ?_
    refine g_seq ?_
    refine g_region ?_
    refine s_q (q_move rfl) rfl ?_
    refine s_q (q_assign rfl) rfl ?_
    refine g_nil ?_
    refine g_then ?_
    refine g_seq ?_
    refine g_region ?_
    refine s_q (q_move rfl) rfl ?_
    refine s_q (q_move rfl) rfl ?_
    refine s_q (q_move rfl) rfl ?_
    refine s_q (q_index (i := k) rfl rfl rfl (InRow.rdb (A := A) (els := l.map Y.c) (by simpa using hn) (map_cat (c := Y.c) (fun _ => rfl) _)) (by first | exact lt_k | omega)) rfl ?_
    refine s_q (q_load_ew (i := k) rfl (InRow.rdb (A := A) (els := l.map Y.c) (by simpa using hn) (map_cat (c := Y.c) (fun _ => rfl) _)) (map_get (by first | exact (by first | exact lt_k | omega) | omega | (simp_all; done) | (simp_all; omega))) rfl) rfl ?_
    refine g_op (g_purev rfl rfl (fun w1 hw1 => pos1_any l[k] w1) rfl ?_)
    refine g_nil ?_
    refine g_then ?_
    refine g_cond rfl (fun h2 => ?_) (fun h2 => ?_)
    · refine g_seq ?_
      refine g_region ?_
      refine s_q (q_move rfl) rfl ?_
      refine s_q (q_assign rfl) rfl ?_
      refine g_nil ?_
      refine g_then ?_
      refine g_ret ?_
      refine g_blk_ret (g_then_ret (g_then_ret (g_blk_ret (g_then_ret ?_))))
      exact fin1 rfl (.tmp rfl) (fun w' hw' => ⟨((k : Nat) : Int), (by first | exact .inr ⟨k, rfl, lt_k, hz, by rw [List.getElem?_eq_getElem lt_k]; simpa using h2⟩ | (dsimp only; exact .inr ⟨k, rfl, lt_k, hz, by rw [List.getElem?_eq_getElem lt_k]; simpa using h2⟩)), rfl, by have h9 := wok_sub (L' := [Res.row A n cap 51 3 (l.map Y.c)]) w' hw'; exact h9⟩) _ (.inl rfl)
    · refine g_skip ?_
      refine g_blk_n ?_
      refine g_then ?_
      refine g_region ?_
      refine s_q (q_inc rfl rfl (by omega)) rfl ?_
      refine s_q (q_move rfl) rfl ?_
      refine g_nil ?_
      exact g_again (k + 1) (by (try dsimp only); exact ⟨(by first | exact lt_k | omega), (by rw [← List.take_append_getElem lt_k]; intro y hy; rcases List.mem_append.1 hy with h | h; exact hz y h; simp at h; subst h; simpa using h2)⟩) (by first | omega | (simp only; omega)) (by repeat (first | exact trivial | refine ⟨rfl, ?_⟩)) wok_sub
  · have eq_k : k = l.length := by have h9 := of_decide_eq_false h1; omega
    refine g_exit ?_
    refine g_then_x (g_then_x (g_blk_hit ?_))
    refine g_then ?_
    refine g_seq ?_
    refine g_region ?_
    refine s_q (q_assign rfl) rfl ?_
    refine g_nil ?_
    refine g_then ?_
    refine g_ret ?_
    exact fin1 rfl (.tmp rfl) (fun w' hw' => ⟨(-1), (by first | exact .inl ⟨rfl, by rw [eq_k, List.take_length] at hz; exact hz⟩ | (dsimp only; exact .inl ⟨rfl, by rw [eq_k, List.take_length] at hz; exact hz⟩)), rfl, by have h9 := wok_sub (L' := [Res.row A n cap 51 3 (l.map Y.c)]) w' hw'; exact h9⟩) _ (.inl rfl)

theorem drop_get {α : Type} {s l : List α} {j : Nat} (h : s.drop j = l.drop j) (h1 : j < s.length) (h2 : j < l.length) : s[j] = l[j] ∧ s.drop (j + 1) = l.drop (j + 1) := by
  rw [List.drop_eq_getElem_cons h1, List.drop_eq_getElem_cons h2] at h
  injection h with h3 h4
  exact ⟨h3, h4⟩
theorem del_keep {s l : List Y} {i j : Nat} (hij : i < j) (hs : j < s.length) (hj : j < l.length) (htk : s.take i = pos (l.take j)) (hdr : s.drop j = l.drop j) (h0 : ¬ s[j].a = 0) :
    (s.set i s[j]).take (i + 1) = pos (l.take (j + 1)) ∧ (s.set i s[j]).drop (j + 1) = l.drop (j + 1) := by
  obtain ⟨h1, h2⟩ := drop_get hdr hs hj
  constructor
  · rw [pos_succ hj, ← h1, if_neg h0, ← htk, List.set_eq_take_append_cons_drop, if_pos (by omega), show s.take i ++ s[j] :: s.drop (i + 1) = (s.take i ++ [s[j]]) ++ s.drop (i + 1) by simp]
    exact List.take_left' (by simp; omega)
  · rw [List.drop_set_of_lt (by omega)]; exact h2
theorem del_drop {s l : List Y} {i j : Nat} (hs : j < s.length) (hj : j < l.length) (htk : s.take i = pos (l.take j)) (hdr : s.drop j = l.drop j) (h0 : s[j].a = 0) : s.take i = pos (l.take (j + 1)) ∧ s.drop (j + 1) = l.drop (j + 1) := by
  obtain ⟨h1, h2⟩ := drop_get hdr hs hj
  exact ⟨by rw [pos_succ hj, ← h1, if_pos h0, List.append_nil]; exact htk, h2⟩
theorem pos_pre {l : List Y} {i : Nat} (hi : i < l.length) (hp : ∀ y ∈ l.take i, ¬ y.a = 0) (ha : (l[i]?.map Y.a) = some 0) : l.take i = pos (l.take (i + 1)) := by
  have h0 : l[i].a = 0 := by rw [List.getElem?_eq_getElem hi] at ha; simpa using ha
  rw [pos_succ hi, if_pos h0, List.append_nil]
  exact (List.filter_eq_self.2 fun y hy => by simp [hp y hy]).symm
theorem pos_all {l : List Y} (hp : ∀ y ∈ l, ¬ y.a = 0) : pos l = l := List.filter_eq_self.2 fun y hy => by simp [hp y hy]

set_option maxHeartbeats 400000 in
theorem delete_any (A : Option Addr) (n cap : Nat) (l : List Y) (w : World) (hw : WOK (fps [Res.row A n cap 51 3 (l.map Y.c)]) w [Res.row A n cap 51 3 (l.map Y.c)] w) (hn : n = l.length) (hcap : n ≤ 1000000) : Own2 (ι := (Option Addr × Nat)) Try.prog 29 [.slice A n cap, .func (.func 30) #[] #[]] w [Res.row A n cap 51 3 (l.map Y.c)] (fun x => True) (fun x => .slice x.1 (pos l).length x.2) (fun x => []) (fun x => [Res.row x.1 (pos l).length x.2 51 3 ((pos l).map Y.c)]) := by
  refine g_start Try.func29 rfl 42 rfl (by simp) (fps [Res.row A n cap 51 3 (l.map Y.c)]) [Res.row A n cap 51 3 (l.map Y.c)] hw _ rfl ?_
  refine g_seq ?_
  refine g_region ?_
  refine s_q (q_assign rfl) rfl ?_
  refine g_nil ?_
  refine g_then ?_
  refine g_seq ?_
  refine g_region ?_
  refine s_q (q_move rfl) rfl ?_
  refine s_q (q_move rfl) rfl ?_
  refine g_op (g_ownS [Res.row A (n) cap 51 3 ((l).map Y.c)] rfl (fun w1 hw1 ho1 => by have h7 := index_any A (n) (cap) (l) w1 ho1 (by first | assumption | (simp; done)) (by omega); exact h7) rfl ?_)
  rintro z hz
  refine ⟨_, _, inferInstance, inferInstance, ?_⟩
  refine s_q (q_assign rfl) rfl ?_
  refine g_nil ?_
  refine g_then ?_
  refine g_seq ?_
  refine g_seq ?_
  refine g_region ?_
  refine s_q (q_move rfl) rfl ?_
  refine s_q (q_eql rfl rfl) rfl ?_
  refine g_nil ?_
  refine g_then ?_
  refine g_cond rfl (fun h1 => ?_) (fun h1 => ?_)
  · have hall : ∀ y ∈ l, ¬ y.a = 0 := by
      rcases hz with h | ⟨k, rfl, _⟩
      · exact h.2
      · exfalso; simp at h1 <;> omega
    refine g_seq ?_
    refine g_region ?_
    refine s_q (q_move rfl) rfl ?_
    refine s_q (q_assign rfl) rfl ?_
    refine g_nil ?_
    refine g_then ?_
    refine g_ret ?_
    refine g_then_ret ?_
    refine g_rown (A := A) (pos l).length (by rw [pos_all hall, hn]) ?_
    refine g_rowels (A := A) ((pos l).map Y.c) (by rw [pos_all hall]) ?_
    exact fin1 rfl (.tmp rfl) (fun w' hw' => ⟨(A, cap), (by first | exact trivial | (dsimp only; exact trivial)), by rw [pos_all hall, hn], by have h9 := wok_sub (L' := [Res.row ((A, cap)).1 (pos l).length ((A, cap)).2 51 3 ((pos l).map Y.c)]) w' hw'; exact h9⟩) _ (.inl rfl)
  · obtain ⟨i, rfl, hi, hpre, ha⟩ : ∃ k : Nat, z = k ∧ k < l.length ∧ (∀ y ∈ l.take k, ¬ y.a = 0) ∧ (l[k]?.map Y.a) = some 0 := by
      rcases hz with h | h
      · exact absurd h.1 (by simpa using h1)
      · exact h
    refine g_skip ?_
    refine g_then ?_
    refine g_seq ?_
    refine g_seq ?_
    refine g_region ?_
    refine s_q (q_move rfl) rfl ?_
    refine s_q (q_inc rfl rfl (by omega)) rfl ?_
    refine s_q (q_assign rfl) rfl ?_
    refine g_nil ?_
    refine g_then ?_
    refine g_block ?_
    refine g_loopk [0, 1, 4] (fun (x : Nat × Nat × List Y) => [(5, .int .i64 ((x.1 : Nat) : Int)), (6, .int .i64 ((x.2.1 : Nat) : Int))]) (fun (x : Nat × Nat × List Y) => [Res.row A n cap 51 3 ((x.2.2).map Y.c)]) (fun (x : Nat × Nat × List Y) => x.1 < x.2.1 ∧ x.2.1 ≤ l.length ∧ (x.2.2).length = l.length ∧ (x.2.2).take x.1 = pos (l.take x.2.1) ∧ (x.2.2).drop x.2.1 = l.drop x.2.1) (fun (x : Nat × Nat × List Y) => l.length - x.2.1) (i, (i + 1), l) (by (try dsimp only); exact ⟨(by omega), (by omega), rfl, (pos_pre hi hpre ha), rfl⟩) rfl (by repeat (first | exact trivial | refine ⟨rfl, ?_⟩)) wok_sub ?_
    rintro ⟨i1, j, s1⟩ ⟨hij, hjn, hls, htk, hdr⟩
    replace hij : i1 < j := hij
    replace hjn : j ≤ l.length := hjn
    replace hls : (s1).length = l.length := hls
    replace htk : (s1).take i1 = pos (l.take j) := htk
    replace hdr : (s1).drop j = l.drop j := hdr
    refine g_setL (L' := [Res.row A n cap 51 3 ((s1).map Y.c)]) rfl ?_
    refine g_val 5 (v' := .int .i64 ((i1 : Nat) : Int)) rfl rfl ?_
    refine g_val 6 (v' := .int .i64 ((j : Nat) : Int)) rfl rfl ?_
    refine g_seq ?_
    refine g_seq ?_
    refine g_region ?_
    refine s_q (q_move rfl) rfl ?_
    refine s_q (q_move rfl) rfl ?_
    refine s_q (q_len rfl) rfl ?_
    refine s_q (q_lss rfl rfl) rfl ?_
    refine g_nil ?_
    refine g_then ?_
    refine g_cond rfl (fun h2 => ?_) (fun h2 => ?_)
    · have lt_j : j < l.length := by have h9 := of_decide_eq_true h2; omega
      have lt_s : j < s1.length := by omega
      refine g_skip ?_
      refine g_then ?_
      refine g_seq ?_
      refine g_block ?_
      refine g_seq ?_
      refine g_region ?_
      refine s_q (q_move rfl) rfl ?_
      refine s_q (q_move rfl) rfl ?_
      refine s_q (q_index (i := j) rfl rfl rfl (InRow.rdb (A := A) (els := (s1).map Y.c) (by first | rfl | assumption | (simp; done) | (simp_all; done) | (simp; omega) | (simp_all; omega)) (map_cat (c := Y.c) (fun _ => rfl) _)) (by first | omega | (simp; done) | (simp; omega))) rfl ?_
      refine s_q (q_load_ew (i := j) rfl (InRow.rdb (A := A) (els := (s1).map Y.c) (by first | rfl | assumption | (simp; done) | (simp_all; done) | (simp; omega) | (simp_all; omega)) (map_cat (c := Y.c) (fun _ => rfl) _)) (map_get (by first | assumption | omega | (simp_all; done) | (simp_all; omega))) rfl) rfl ?_
      refine g_op (g_alloc rfl fun b7 => ?_)
      refine g_op (g_storew rfl rfl rfl rfl rfl ?_)
      refine g_nil ?_
      refine g_then ?_
      refine g_seq ?_
      refine g_region ?_
      refine s_q (q_move rfl) rfl ?_
      refine s_q (q_loadw rfl rfl) rfl ?_
      refine g_op (g_purev rfl rfl (fun w1 hw1 => pos1_any (s1)[j] w1) rfl ?_)
      refine s_q (q_not rfl) rfl ?_
      refine g_nil ?_
      refine g_then ?_
      refine g_cond rfl (fun h3 => ?_) (fun h3 => ?_)
      · refine g_seq ?_
        refine g_region ?_
        refine s_q (q_move rfl) rfl ?_
        refine s_q (q_move rfl) rfl ?_
        refine s_q (q_loadw rfl rfl) rfl ?_
        refine s_q (q_index (i := i1) rfl rfl rfl (InRow.rdb (A := A) (els := (s1).map Y.c) (by first | rfl | assumption | (simp; done) | (simp_all; done) | (simp; omega) | (simp_all; omega)) (map_cat (c := Y.c) (fun _ => rfl) _)) (by first | omega | (simp; done) | (simp; omega))) rfl ?_
        refine g_op (g_store_el (A := A) (i := i1) (o := 0) (cs' := Y.c ((s1[j]))) rfl rfl rfl rfl rfl (map_get (by first | assumption | omega | (simp_all; done) | (simp_all; omega))) (by first | (simp; done) | exact Nat.le_refl _) rfl (splice_all rfl) ?_)
        refine g_rowels (A := A) ((s1.set i1 (s1[j])).map Y.c) (by rw [List.map_set]) ?_
        refine g_nil ?_
        refine g_then ?_
        refine g_region ?_
        refine s_q (q_move rfl) rfl ?_
        refine s_q (q_inc rfl rfl (by omega)) rfl ?_
        refine s_q (q_assign rfl) rfl ?_
        refine g_nil ?_
        refine g_blk_n ?_
        refine g_then ?_
        refine g_region ?_
        refine s_q (q_move rfl) rfl ?_
        refine s_q (q_inc rfl rfl (by omega)) rfl ?_
        refine s_q (q_assign rfl) rfl ?_
        refine g_nil ?_
        exact g_again ((i1 + 1), (j + 1), (s1.set i1 s1[j])) (by (try dsimp only); exact ⟨(by omega), (by omega), (by simpa using hls), (del_keep hij lt_s lt_j htk hdr (by simpa using h3)).1, (del_keep hij lt_s lt_j htk hdr (by simpa using h3)).2⟩) (by first | omega | (simp only; omega)) (by repeat (first | exact trivial | refine ⟨rfl, ?_⟩)) wok_sub
      · refine g_skip ?_
        refine g_blk_n ?_
        refine g_then ?_
        refine g_region ?_
        refine s_q (q_move rfl) rfl ?_
        refine s_q (q_inc rfl rfl (by omega)) rfl ?_
        refine s_q (q_assign rfl) rfl ?_
        refine g_nil ?_
        exact g_again (i1, (j + 1), s1) (by (try dsimp only); exact ⟨(by omega), (by omega), hls, (del_drop lt_s lt_j htk hdr (by simpa using h3)).1, (del_drop lt_s lt_j htk hdr (by simpa using h3)).2⟩) (by first | omega | (simp only; omega)) (by repeat (first | exact trivial | refine ⟨rfl, ?_⟩)) wok_sub
    · have eq_j : j = l.length := by have h9 := of_decide_eq_false h2; omega
      rw [eq_j, List.take_length] at htk
      have hi1 : i1 = (pos l).length := by have h9 := congrArg List.length htk; simp at h9; omega
      have hlt : i1 < n := by omega
      refine g_exit ?_
      refine g_then_x (g_then_x (g_blk_hit ?_))
      refine g_then ?_
      refine g_seq ?_
      refine g_region ?_
      refine g_rowA A (by omega) fun ⟨hA, hA0⟩ hle hcm => ?_
      refine s_q (q_move rfl) rfl ?_
      refine s_q (q_move rfl) rfl ?_
      refine s_q (q_slice_l (l := i1) rfl rfl rfl (by omega)) rfl ?_
      refine g_op (g_clear (A := A) (l := i1) (n := n) (els := s1.map Y.c) rfl (fun h0 => subA_at hA (by omega)) (by omega) (by simp [Value.oneCell']) ?_)
      refine g_nil ?_
      refine g_then ?_
      refine g_seq ?_
      refine g_region ?_
      refine s_q (q_move rfl) rfl ?_
      refine s_q (q_move rfl) rfl ?_
      refine s_q (q_slice_h (h := i1) rfl rfl rfl (by omega)) rfl ?_
      refine s_q (q_assign rfl) rfl ?_
      refine g_nil ?_
      refine g_then ?_
      refine g_ret ?_
      refine g_rowTake (A := A) i1 (pos l).length ((pos l).map Y.c) (by omega) hi1 (by rw [List.append_assoc, List.take_append_of_le_length (by simp; omega), List.take_take, Nat.min_self, ← List.map_take, htk]) ?_
      exact fin1 rfl (.tmp rfl) (fun w' hw' => ⟨(subA A cap 0 3, cap), (by first | exact trivial | (dsimp only; exact trivial)), by rw [hi1], by have h9 := wok_sub (L' := [Res.row ((subA A cap 0 3, cap)).1 (pos l).length ((subA A cap 0 3, cap)).2 51 3 ((pos l).map Y.c)]) w' hw'; exact h9⟩) _ (.inl rfl)

set_option maxHeartbeats 400000 in
theorem positive_any (A : Option Addr) (n cap : Nat) (l : List Y) (w : World) (hw : WOK (fps [Res.row A n cap 51 3 (l.map Y.c)]) w [Res.row A n cap 51 3 (l.map Y.c)] w) (hn : n = l.length) (hcap : n ≤ 1000000) : Own2 (ι := (Option Addr × Nat)) Try.prog 26 [.slice A n cap] w [Res.row A n cap 51 3 (l.map Y.c)] (fun x => True) (fun x => .slice x.1 (pos l).length x.2) (fun x => []) (fun x => [Res.row x.1 (pos l).length x.2 51 3 ((pos l).map Y.c)]) := by
  refine g_start Try.func26 rfl 5 rfl (by simp) (fps [Res.row A n cap 51 3 (l.map Y.c)]) [Res.row A n cap 51 3 (l.map Y.c)] hw _ rfl ?_
  refine g_seq ?_
  refine g_region ?_
  refine s_q (q_assign rfl) rfl ?_
  refine g_nil ?_
  refine g_then ?_
  refine g_seq ?_
  refine g_region ?_
  refine s_q (q_move rfl) rfl ?_
  refine g_op (g_ownS [Res.row A (n) cap 51 3 ((l).map Y.c)] rfl (fun w1 hw1 ho1 => by have h7 := delete_any A (n) (cap) (l) w1 ho1 (by first | assumption | (simp; done)) (by first | assumption | omega); exact h7) rfl ?_)
  rintro ⟨A4, cap4⟩ _
  refine ⟨_, _, inferInstance, inferInstance, ?_⟩
  refine s_q (q_assign rfl) rfl ?_
  refine g_nil ?_
  refine g_then ?_
  refine g_ret ?_
  exact fin1 rfl (.tmp rfl) (fun w' hw' => ⟨(A4, cap4), (by first | exact trivial | (dsimp only; exact trivial)), by first | rfl | (simp_all; done), by have h9 := wok_sub (L' := [Res.row ((A4, cap4)).1 (pos l).length ((A4, cap4)).2 51 3 ((pos l).map Y.c)]) w' hw'; exact h9⟩) _ (.inl rfl)
end Go.Proofs.Ytmbnpdjchkadhaa
