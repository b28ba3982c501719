/- walks of Move and slices -/
import Derived.Test.YtljdhdlemakcaaaW5
namespace Go.Proofs.Ytljdhdlemakcaaa
open Go.RowKit Go.Eg
set_option synthInstance.maxSize 3000
set_option linter.unusedSimpArgs false
set_option linter.unusedVariables false
set_option maxHeartbeats 400000 in
theorem clone_v (A : Option Addr) (n cap : Nat) (l : List V) (w : World) (hrd : Rd w [] A n 7 (l.map V.c)) (hcap : n ≤ 1000000) : Own2 (ι := (Option Addr × Nat)) Try.prog 32 [.slice A n cap] w [] (fun x => True) (fun x => .slice x.1 l.length x.2) (fun x => [Res.row x.1 l.length x.2 24 7 (l.map V.c)]) (fun x => []) := by
  refine g_start Try.func32 rfl 8 rfl (by simp) (fps []) [] (WOK.start _ _) _ rfl ?_
  have hn : n = l.length := by have := hrd.old.len; simpa using this
  refine g_seq ?_
  refine g_region ?_
  refine s_q (q_assign rfl) rfl ?_
  refine g_nil ?_
  refine g_then ?_
  refine g_seq ?_
  refine g_seq ?_
  refine g_region ?_
  refine s_q (q_move rfl) rfl ?_
  refine s_q (q_eqsl rfl rfl) rfl ?_
  refine g_nil ?_
  refine g_then ?_
  refine g_cond rfl (fun h1 => ?_) (fun h1 => ?_)
  · refine g_seq ?_
    refine g_region ?_
    refine s_q (q_assign rfl) rfl ?_
    refine g_nil ?_
    refine g_then ?_
    refine g_ret ?_
    refine g_then_ret ?_
    have h0 : A = none := by simpa using h1
    have hl : l = [] := by
      rcases Nat.eq_zero_or_pos n with h2 | h2
      · exact List.eq_nil_of_length_eq_zero (by have := hrd.old.len; simp at this; omega)
      · have := (hrd.old.at_ h2).1; rw [h0] at this; simp at this
    subst hl
    refine g_noresL none 24 7 (([] : List V).map V.c) rfl ?_
    exact fin1 rfl (.tmp rfl) (fun w' hw' => ⟨((none : Option Addr), (0 : Nat)), (by first | exact trivial | (dsimp only; exact trivial)), rfl, by have h9 := wok_sub (L' := [Res.row none 0 0 24 7 (([] : List V).map V.c)]) w' hw'; exact h9⟩) _ (.inl rfl)
  · refine g_skip ?_
    refine g_then ?_
    refine g_seq ?_
    refine g_region ?_
    refine g_op (g_lit rfl rfl rfl rfl rfl fun b5 => ?_)
    refine g_norow (t := 5) (T := 24) (k := 7) rfl fun A5 cap5 hc5 => ?_
    refine g_rowels (A := A5) (([] : List V).map V.c) rfl ?_
    refine s_q (q_move rfl) rfl ?_
    refine g_op (g_append (A := A5) (els := (([] : List V)).map V.c) (news := ((l).map V.c)) rfl rfl hrd.rdb (map_one (c := V.c) (by intro x; simp [V.c, Value.oneCell']) _) (by first | omega | (simp; omega) | (simp_all; omega)) rfl fun A7 cap7 => ⟨_, inferInstance, ?_⟩)
    refine g_rowels (A := A7) ((l).map V.c) (by first | rfl | exact List.map_append.symm | (simp; done)) ?_
    refine g_rown (A := A7) (n) (by simp) ?_
    refine g_val 7 (v' := .slice A7 (n) cap7) rfl (by simp) ?_
    refine s_q (q_assign rfl) rfl ?_
    refine g_nil ?_
    refine g_then ?_
    refine g_ret ?_
    exact fin1 rfl (.tmp rfl) (fun w' hw' => ⟨(A7, cap7), (by first | exact trivial | (dsimp only; exact trivial)), by rw [← hn], by have h9 := wok_sub (L' := [Res.row A7 n cap7 24 7 (l.map V.c)]) w' hw'; show WOK _ _ [Res.row ((A7, cap7)).1 l.length ((A7, cap7)).2 24 7 (l.map V.c)] _; rw [← hn]; exact h9⟩) _ (.inl rfl)

set_option maxHeartbeats 400000 in
theorem same7 (A B : Option Addr) (n1 n2 cap1 cap2 : Nat) (l1 l2 : List V) (w : World) (ha : Old w A n1 7 (l1.map V.c)) (hb : Old w B n2 7 (l2.map V.c)) (hc1 : n1 ≤ 9223372036854775807) : Pur Try.prog 23 [.slice A n1 cap1, .slice B n2 cap2] w (.bool (decide (l1 = l2))) := by
  refine g_start Try.func23 rfl 26 rfl (by simp) ([]) [] (WOK.start _ _) _ rfl ?_
  have e1 : n1 = l1.length := by simpa using ha.len
  have e2 : n2 = l2.length := by simpa using hb.len
  refine g_seq ?_
  refine g_region ?_
  refine s_q (q_assign rfl) rfl ?_
  refine g_nil ?_
  refine g_then ?_
  refine g_seq ?_
  refine g_seq ?_
  refine g_region ?_
  refine s_q (q_move rfl) rfl ?_
  refine s_q (q_len rfl) rfl ?_
  refine s_q (q_move rfl) rfl ?_
  refine s_q (q_len rfl) rfl ?_
  refine s_q (q_neq rfl rfl) rfl ?_
  refine g_nil ?_
  refine g_then ?_
  refine g_cond rfl (fun h1 => ?_) (fun h1 => ?_)
  · refine g_seq ?_
    refine g_region ?_
    refine s_q (q_assign rfl) rfl ?_
    refine g_nil ?_
    refine g_then ?_
    refine g_ret ?_
    refine g_then_ret ?_
    exact fin1 rfl (.tmp rfl) (fun w' hw' => ⟨by rw [decide_eq_false (fun e => by subst e; simp at h1; omega)], hw'.upd⟩) _ (.inl rfl)
  · have hn : n1 = n2 := by simp at h1; omega
    refine g_skip ?_
    refine g_then ?_
    refine g_seq ?_
    refine g_seq ?_
    refine g_region ?_
    refine s_q (q_assign rfl) rfl ?_
    refine g_nil ?_
    refine g_then ?_
    refine g_block ?_
    refine g_loopk [0, 1, 4] (fun (x : Nat) => [(5, .int .i64 ((x : Nat) : Int))]) (fun (x : Nat) => []) (fun (x : Nat) => x ≤ n1 ∧ (∀ j, j < x → l1[j]? = l2[j]?)) (fun (x : Nat) => n1 - x) 0 (by (try dsimp only); exact ⟨Nat.zero_le _, (fun j hj => absurd hj (Nat.not_lt_zero _))⟩) rfl (by repeat (first | exact trivial | refine ⟨rfl, ?_⟩)) wok_sub ?_
    rintro k ⟨le_k, pre⟩
    replace le_k : k ≤ n1 := le_k
    replace pre : ∀ j, j < k → l1[j]? = l2[j]? := pre
    refine g_seq ?_
    refine g_seq ?_
    refine g_region ?_
    refine s_q (q_move rfl) rfl ?_
    refine s_q (q_move rfl) rfl ?_
    refine s_q (q_len rfl) rfl ?_
    refine s_q (q_lss rfl rfl) rfl ?_
    refine g_nil ?_
    refine g_then ?_
    refine g_cond rfl (fun h2 => ?_) (fun h2 => ?_)
    · have lt_k : k < n1 := by have h9 := of_decide_eq_true h2; omega
      have lk1 : k < l1.length := by omega
      have lk2 : k < l2.length := by omega
      refine g_skip ?_
      refine g_then ?_
      refine g_seq ?_
      refine g_block ?_
      refine g_seq ?_
      refine d_region [] mixed rfl rfl ?_
      refine d_q 0 rfl (by kernel_rfl) (q_move rfl) wok_sub rfl (ls' := #[true, false, false, false, false, false, false, false, false]) rfl ?_
      refine d_q 1 rfl (by kernel_rfl) (q_move rfl) wok_sub rfl (ls' := #[true, true, false, false, false, false, false, false, false]) rfl ?_
      refine d_q 2 rfl (by kernel_rfl) (q_index (i := k) rfl rfl rfl (ha.rdb rfl) (by first | exact lt_k | omega)) wok_sub rfl (ls' := #[true, true, true, false, false, false, false, false, false]) rfl ?_
      refine d_q 3 rfl (by kernel_rfl) (q_load_ew (i := k) rfl (ha.rdb rfl) (map_get (by first | exact (by first | exact lt_k | omega) | omega | (simp_all; done) | (simp_all; omega))) rfl) wok_sub rfl (ls' := #[true, true, true, true, false, false, false, false, false]) rfl ?_
      refine d_q 4 rfl (by kernel_rfl) (q_move rfl) wok_sub rfl (ls' := #[true, true, true, true, true, false, false, false, false]) rfl ?_
      refine d_q 5 rfl (by kernel_rfl) (q_move rfl) wok_sub rfl (ls' := #[true, true, true, true, true, true, false, false, false]) rfl ?_
      refine d_q 6 rfl (by kernel_rfl) (q_index (i := k) rfl rfl rfl (hb.rdb rfl) (by first | exact lt_k | omega)) wok_sub rfl (ls' := #[true, true, true, true, true, true, true, false, false]) rfl ?_
      refine d_q 7 rfl (by kernel_rfl) (q_load_ew (i := k) rfl (hb.rdb rfl) (map_get (by first | exact (by first | exact lt_k | omega) | omega | (simp_all; done) | (simp_all; omega))) rfl) wok_sub rfl (ls' := #[true, true, true, true, true, true, true, true, false]) rfl ?_
      refine d_q 8 rfl (by kernel_rfl) (q_nes rfl rfl rfl) wok_sub rfl (ls' := #[true, true, true, true, true, true, true, true, true]) rfl ?_
      refine d_end (by kernel_rfl) (.inr wok_sub) ?_
      refine g_then ?_
      refine g_cond rfl (fun h3 => ?_) (fun h3 => ?_)
      · refine g_seq ?_
        refine g_region ?_
        refine s_q (q_assign rfl) rfl ?_
        refine g_nil ?_
        refine g_then ?_
        refine g_ret ?_
        refine g_blk_ret (g_then_ret (g_then_ret (g_blk_ret (g_then_ret ?_))))
        exact fin1 rfl (.tmp rfl) (fun w' hw' => ⟨by rw [decide_eq_false (fun e => by subst e; simp at h3)], hw'.upd⟩) _ (.inl rfl)
      · refine g_skip ?_
        refine g_blk_n ?_
        refine g_then ?_
        refine g_region ?_
        refine s_q (q_move rfl) rfl ?_
        refine s_q (q_inc rfl rfl (by omega)) rfl ?_
        refine s_q (q_assign rfl) rfl ?_
        refine g_nil ?_
        exact g_again (k + 1) (by (try dsimp only); exact ⟨(by first | exact lt_k | omega), (pre_succ pre (by rw [List.getElem?_eq_getElem (by omega), List.getElem?_eq_getElem (by omega)]; exact congrArg some ((V.ext_iff' _ _).2 (by simpa using h3))))⟩) (by first | omega | (simp only; omega)) (by repeat (first | exact trivial | refine ⟨rfl, ?_⟩)) wok_sub
    · have eq_k : k = n1 := by have h9 := of_decide_eq_false h2; omega
      refine g_exit ?_
      refine g_then_x (g_then_x (g_blk_hit ?_))
      refine g_then ?_
      refine g_seq ?_
      refine g_region ?_
      refine s_q (q_assign rfl) rfl ?_
      refine g_nil ?_
      refine g_then ?_
      refine g_ret ?_
      exact fin1 rfl (.tmp rfl) (fun w' hw' => ⟨by rw [decide_eq_true (pre_all pre (by omega) (by omega))], hw'.upd⟩) _ (.inl rfl)

set_option maxHeartbeats 400000 in
theorem put7 (A : Option Addr) (n cap : Nat) (l : List V) (i : Nat) (y : V) (w : World) (hrd : Rd w [] A n 7 (l.map V.c)) (hcap : n ≤ 1000000) (hi : i < l.length) : Own2 (ι := (Option Addr × Nat)) Try.prog 17 [.slice A n cap, .int .i64 ((i : Nat) : Int), y.v] w [] (fun x => True) (fun x => .slice x.1 (l.set i y).length x.2) (fun x => [Res.row x.1 (l.set i y).length x.2 24 7 ((l.set i y).map V.c)]) (fun x => []) := by
  refine g_start Try.func17 rfl 16 rfl (by simp) (fps []) [] (WOK.start _ _) _ rfl ?_
  have hn : n = l.length := by have := hrd.old.len; simpa using this
  refine g_seq ?_
  refine g_region ?_
  refine g_op (g_box (c := V.c y) rfl rfl rfl fun b5 => ?_)
  refine s_q (q_assign rfl) rfl ?_
  refine g_nil ?_
  refine g_then ?_
  refine g_seq ?_
  refine g_region ?_
  refine g_op (g_lit rfl rfl rfl rfl rfl fun b8 => ?_)
  refine g_norow (t := 8) (T := 24) (k := 7) rfl fun A8 cap8 hc8 => ?_
  refine g_rowels (A := A8) (([] : List V).map V.c) rfl ?_
  refine s_q (q_move rfl) rfl ?_
  refine g_op (g_append (A := A8) (els := (([] : List V)).map V.c) (news := ((l).map V.c)) rfl rfl hrd.rdb (map_one (c := V.c) (by intro x; simp [V.c, Value.oneCell']) _) (by first | omega | (simp; omega) | (simp_all; omega)) rfl fun A10 cap10 => ⟨_, inferInstance, ?_⟩)
  refine g_rowels (A := A10) ((l).map V.c) (by first | rfl | exact List.map_append.symm | (simp; done)) ?_
  refine g_rown (A := A10) (n) (by simp) ?_
  refine g_val 10 (v' := .slice A10 (n) cap10) rfl (by simp) ?_
  refine s_q (q_assign rfl) rfl ?_
  refine g_nil ?_
  refine g_then ?_
  refine g_seq ?_
  refine g_region ?_
  refine s_q (q_move rfl) rfl ?_
  refine s_q (q_move rfl) rfl ?_
  refine s_q (q_loadw rfl rfl) rfl ?_
  refine s_q (q_index (i := i) rfl rfl rfl (InRow.rdb (A := A10) (els := (l).map V.c) (by first | rfl | assumption | (simp; done) | (simp_all; done) | (simp; omega) | (simp_all; omega)) (map_cat (c := V.c) (fun _ => rfl) _)) (by first | omega | (simp; done) | (simp; omega))) rfl ?_
  refine g_op (g_store_el (A := A10) (i := i) (o := 0) (cs' := V.c (y)) rfl rfl rfl rfl rfl (map_get (by first | assumption | omega | (simp_all; done) | (simp_all; omega))) (by first | (simp; done) | exact Nat.le_refl _) rfl (splice_all rfl) ?_)
  refine g_rowels (A := A10) ((l.set i y).map V.c) (by simp only [List.map_set]) ?_
  refine g_nil ?_
  refine g_then ?_
  refine g_seq ?_
  refine g_region ?_
  refine s_q (q_move rfl) rfl ?_
  refine s_q (q_assign rfl) rfl ?_
  refine g_nil ?_
  refine g_then ?_
  refine g_ret ?_
  exact fin1 rfl (.tmp rfl) (fun w' hw' => ⟨(A10, cap10), (by first | exact trivial | (dsimp only; exact trivial)), by simp [hn], by have h9 := wok_sub (L' := [Res.row A10 n cap10 24 7 ((l.set i y).map V.c)]) w' hw'; show WOK _ _ [Res.row ((A10, cap10)).1 (l.set i y).length ((A10, cap10)).2 24 7 ((l.set i y).map V.c)] _; rw [List.length_set, ← hn]; exact h9⟩) _ (.inl rfl)

set_option maxHeartbeats 400000 in
theorem equal_b (A B : Option Addr) (n1 n2 cap1 cap2 : Nat) (l1 l2 : List Bool) (w : World) (ha : Old w A n1 1 (l1.map (fun v : Bool => [Value.bool v]))) (hb : Old w B n2 1 (l2.map (fun v : Bool => [Value.bool v]))) (hc1 : n1 ≤ 9223372036854775807) : Pur Try.prog 24 [.slice A n1 cap1, .slice B n2 cap2] w (.bool (decide (l1 = l2))) := by
  refine g_start Try.func24 rfl 26 rfl (by simp) ([]) [] (WOK.start _ _) _ rfl ?_
  have e1 : n1 = l1.length := by simpa using ha.len
  have e2 : n2 = l2.length := by simpa using hb.len
  refine g_seq ?_
  refine g_region ?_
  refine s_q (q_assign rfl) rfl ?_
  refine g_nil ?_
  refine g_then ?_
  refine g_seq ?_
  refine g_seq ?_
  refine g_region ?_
  refine s_q (q_move rfl) rfl ?_
  refine s_q (q_len rfl) rfl ?_
  refine s_q (q_move rfl) rfl ?_
  refine s_q (q_len rfl) rfl ?_
  refine s_q (q_neq rfl rfl) rfl ?_
  refine g_nil ?_
  refine g_then ?_
  refine g_cond rfl (fun h1 => ?_) (fun h1 => ?_)
  · refine g_seq ?_
    refine g_region ?_
    refine s_q (q_assign rfl) rfl ?_
    refine g_nil ?_
    refine g_then ?_
    refine g_ret ?_
    refine g_then_ret ?_
    exact fin1 rfl (.tmp rfl) (fun w' hw' => ⟨by rw [decide_eq_false (fun e => by subst e; simp at h1; omega)], hw'.upd⟩) _ (.inl rfl)
  · have hn : n1 = n2 := by simp at h1; omega
    refine g_skip ?_
    refine g_then ?_
    refine g_seq ?_
    refine g_seq ?_
    refine g_region ?_
    refine s_q (q_move rfl) rfl ?_
    refine s_q (q_len rfl) rfl ?_
    refine s_q (q_move rfl) rfl ?_
    refine g_nil ?_
    refine g_then ?_
    refine g_block ?_
    refine g_loopk [0, 1, 4, 12] (fun (x : Nat) => [(13, .int .i64 ((x : Nat) : Int))]) (fun (x : Nat) => []) (fun (x : Nat) => x ≤ n1 ∧ (∀ j, j < x → l1[j]? = l2[j]?)) (fun (x : Nat) => n1 - x) 0 (by (try dsimp only); exact ⟨Nat.zero_le _, (fun j hj => absurd hj (Nat.not_lt_zero _))⟩) rfl (by repeat (first | exact trivial | refine ⟨rfl, ?_⟩)) wok_sub ?_
    rintro k ⟨le_k, pre⟩
    replace le_k : k ≤ n1 := le_k
    replace pre : ∀ j, j < k → l1[j]? = l2[j]? := pre
    refine g_seq ?_
    refine g_region ?_
    refine s_q (q_lss rfl rfl) rfl ?_
    refine g_nil ?_
    refine g_then ?_
    refine g_seq ?_
    refine g_cond rfl (fun h2 => ?_) (fun h2 => ?_)
    · have lt_k : k < n1 := by have h9 := of_decide_eq_true h2; omega
      have lk1 : k < l1.length := by omega
      have lk2 : k < l2.length := by omega
      refine g_skip ?_
      refine g_then ?_
      refine g_seq ?_
      refine g_block ?_
      refine g_seq ?_
      refine g_region ?_
      refine s_q (q_move rfl) rfl ?_
      refine s_q (q_assign rfl) rfl ?_
      refine g_nil ?_
      refine g_then ?_
      refine g_seq ?_
      refine d_region [] mixed rfl rfl ?_
      refine d_q 0 rfl (by kernel_rfl) (q_move rfl) wok_sub rfl (ls' := #[true, false, false, false, false, false, false, false, false]) rfl ?_
      refine d_q 1 rfl (by kernel_rfl) (q_move rfl) wok_sub rfl (ls' := #[true, true, false, false, false, false, false, false, false]) rfl ?_
      refine d_q 2 rfl (by kernel_rfl) (q_index (i := k) rfl rfl rfl (ha.rdb rfl) (by first | exact lt_k | omega)) wok_sub rfl (ls' := #[true, true, true, false, false, false, false, false, false]) rfl ?_
      refine d_q 3 rfl (by kernel_rfl) (q_load_el (i := k) (o := 0) rfl (ha.rdb rfl) (map_get (by first | exact (by first | exact lt_k | omega) | omega | (simp_all; done) | (simp_all; omega))) rfl rfl) wok_sub rfl (ls' := #[true, true, true, true, false, false, false, false, false]) rfl ?_
      refine d_q 4 rfl (by kernel_rfl) (q_move rfl) wok_sub rfl (ls' := #[true, true, true, true, true, false, false, false, false]) rfl ?_
      refine d_q 5 rfl (by kernel_rfl) (q_move rfl) wok_sub rfl (ls' := #[true, true, true, true, true, true, false, false, false]) rfl ?_
      refine d_q 6 rfl (by kernel_rfl) (q_index (i := k) rfl rfl rfl (hb.rdb rfl) (by first | exact lt_k | omega)) wok_sub rfl (ls' := #[true, true, true, true, true, true, true, false, false]) rfl ?_
      refine d_q 7 rfl (by kernel_rfl) (q_load_el (i := k) (o := 0) rfl (hb.rdb rfl) (map_get (by first | exact (by first | exact lt_k | omega) | omega | (simp_all; done) | (simp_all; omega))) rfl rfl) wok_sub rfl (ls' := #[true, true, true, true, true, true, true, true, false]) rfl ?_
      refine d_q 8 rfl (by kernel_rfl) (q_neq_bool (by kernel_rfl) rfl rfl) wok_sub rfl (ls' := #[true, true, true, true, true, true, true, true, true]) rfl ?_
      refine d_end (by kernel_rfl) (.inr wok_sub) ?_
      refine g_then ?_
      refine g_cond rfl (fun h3 => ?_) (fun h3 => ?_)
      · refine g_seq ?_
        refine g_region ?_
        refine s_q (q_assign rfl) rfl ?_
        refine g_nil ?_
        refine g_then ?_
        refine g_ret ?_
        refine g_blk_ret (g_then_ret (g_then_ret (g_blk_ret (g_then_ret ?_))))
        exact fin1 rfl (.tmp rfl) (fun w' hw' => ⟨by rw [decide_eq_false (fun e => by subst e; simp at h3)], hw'.upd⟩) _ (.inl rfl)
      · refine g_skip ?_
        refine g_blk_n ?_
        refine g_then ?_
        refine g_region ?_
        refine s_q (q_inc rfl rfl (by omega)) rfl ?_
        refine s_q (q_move rfl) rfl ?_
        refine g_nil ?_
        exact g_again (k + 1) (by (try dsimp only); exact ⟨(by first | exact lt_k | omega), (pre_succ pre (by rw [List.getElem?_eq_getElem (by omega), List.getElem?_eq_getElem (by omega)]; exact congrArg some (by simpa using h3)))⟩) (by first | omega | (simp only; omega)) (by repeat (first | exact trivial | refine ⟨rfl, ?_⟩)) wok_sub
    · have eq_k : k = n1 := by have h9 := of_decide_eq_false h2; omega
      refine g_exit ?_
      refine g_then_x (g_then_x (g_blk_hit ?_))
      refine g_then ?_
      refine g_seq ?_
      refine g_region ?_
      refine s_q (q_assign rfl) rfl ?_
      refine g_nil ?_
      refine g_then ?_
      refine g_ret ?_
      exact fin1 rfl (.tmp rfl) (fun w' hw' => ⟨by rw [decide_eq_true (pre_all pre (by omega) (by omega))], hw'.upd⟩) _ (.inl rfl)

def atN (l : List V) (i : Nat) : V := (l[i]?).getD V0
theorem atN_get {l : List V} {i : Nat} (h : i < l.length) : atN l i = l[i] := by unfold atN; rw [List.getElem?_eq_getElem h]; rfl
theorem atV_N (l : List V) (i : Int) : atV l i = atN l i.toNat := rfl
def mvN (l : List V) (i j : Nat) : List V := (l.set i { atN l i with bal := 0, st := 7 }).set j { atN l j with bal := IntKind.u64.wrap ((atN l j).bal + (atN l i).bal) }
theorem mvN_len (l : List V) (i j : Nat) : (mvN l i j).length = l.length := by simp [mvN]
def okReq (l : List V) (p : PP) (c : C) : Bool := decide (reqV l p.a p.b c = 0)
def stepM (c : C) (s : List V × List Bool) (p : PP) : List V × List Bool := (if okReq s.1 p c then mvN s.1 p.a.toNat p.b.toNat else s.1, s.2 ++ [okReq s.1 p c])
def runM (c : C) (l : List V) (q : List PP) : List V × List Bool := q.foldl (stepM c) (l, [])
theorem runM_succ {c : C} {l : List V} {q : List PP} {k : Nat} (h : k < q.length) : runM c l (q.take (k + 1)) = stepM c (runM c l (q.take k)) q[k] := by
  unfold runM
  rw [← List.take_append_getElem h, List.foldl_append]; rfl
theorem foldM_len (c : C) : ∀ (q : List PP) (s : List V × List Bool), (q.foldl (stepM c) s).1.length = s.1.length ∧ (q.foldl (stepM c) s).2.length = s.2.length + q.length
  | [], _ => by simp
  | p :: q, s => by
    rw [List.foldl_cons]
    obtain ⟨h1, h2⟩ := foldM_len c q (stepM c s p)
    rw [h1, h2]
    refine ⟨?_, by simp [stepM]; omega⟩
    unfold stepM
    dsimp only
    split
    · exact mvN_len _ _ _
    · rfl
theorem runM_len (c : C) (l : List V) (q : List PP) : (runM c l q).1.length = l.length ∧ (runM c l q).2.length = q.length := by
  have := foldM_len c q (l, [])
  simpa [runM] using this
theorem req_ok {l : List V} {i j : Int} {c : C} (h : reqV l i j c = 0) : 0 ≤ i ∧ i < (l.length : Int) ∧ 0 ≤ j ∧ j < (l.length : Int) ∧ i ≠ j ∧ checkV (atV l i) (atV l j) c = 0 := by
  unfold reqV at h
  split at h
  · omega
  · split at h
    · omega
    · exact ⟨by omega, by omega, by omega, by omega, by assumption, h⟩
theorem okV_mv {l : List V} (h : okV l) {i j : Nat} : okV (mvN l i j) := by
  intro x hx
  unfold mvN at hx
  rcases List.mem_or_eq_of_mem_set hx with hx | hx
  · rcases List.mem_or_eq_of_mem_set hx with hx | hx
    · exact h x hx
    · subst hx; simp
  · subst hx
    show 0 ≤ IntKind.u64.wrap _ ∧ IntKind.u64.wrap _ ≤ _
    rw [IntKind.wrap_u64]; omega
theorem okV_fold (c : C) : ∀ (q : List PP) (s : List V × List Bool), okV s.1 → okV (q.foldl (stepM c) s).1
  | [], _, h => h
  | p :: q, s, h => by
    rw [List.foldl_cons]
    refine okV_fold c q _ ?_
    unfold stepM
    dsimp only
    split
    · exact okV_mv h
    · exact h
theorem okV_run {c : C} {l : List V} (q : List PP) (h : okV l) : okV (runM c l q).1 := okV_fold c q (l, []) h
theorem step_in {c : C} {s : List V} {p : PP} {ni nj : Nat} (ha : p.a = (ni : Int)) (hb : p.b = (nj : Int)) (hi : ni < s.length) (hj : nj < s.length) (h0 : checkV s[ni] s[nj] c = 0) : (s.set ni (apS s[ni] s[nj] c)).set nj (apD s[ni] s[nj] c) = mvN s p.a.toNat p.b.toNat := by
  rw [ha, hb]
  simp only [Int.toNat_natCast, mvN, atN_get hi, atN_get hj, apS, apD, h0, if_true]

set_option maxHeartbeats 400000 in
theorem move_any (A : Option Addr) (n cap : Nat) (l : List V) (i j : Nat) (w : World) (hl : Rd w [] A n 7 (l.map V.c)) (hb : n ≤ 1000000) (hi : i < l.length) (hj : j < l.length) : Own2 (ι := (Option Addr × Nat)) Try.prog 14 [.slice A n cap, .int .i64 ((i : Nat) : Int), .int .i64 ((j : Nat) : Int)] w [] (fun x => True) (fun x => .slice x.1 (mvN l i j).length x.2) (fun x => [Res.row x.1 (mvN l i j).length x.2 24 7 ((mvN l i j).map V.c)]) (fun x => []) := by
  refine g_start Try.func14 rfl 32 rfl (by simp) (fps []) [] (WOK.start _ _) _ rfl ?_
  have hn : n = l.length := by have := hl.old.len; simpa using this
  refine g_seq ?_
  refine g_region ?_
  refine s_q (q_assign rfl) rfl ?_
  refine g_nil ?_
  refine g_then ?_
  refine g_seq ?_
  refine g_region ?_
  refine s_q (q_move rfl) rfl ?_
  refine s_q (q_move rfl) rfl ?_
  refine s_q (q_index (i := i) rfl rfl rfl hl.rdb (by first | omega | (simp; done) | (simp; omega))) rfl ?_
  refine s_q (q_load_ew (i := i) rfl hl.rdb (map_get (by first | exact (by first | omega | (simp; done) | (simp; omega)) | omega | (simp_all; done) | (simp_all; omega))) rfl) rfl ?_
  refine g_op (g_alloc rfl fun b7 => ?_)
  refine g_op (g_storew rfl rfl rfl rfl rfl ?_)
  refine g_nil ?_
  refine g_then ?_
  refine g_seq ?_
  refine g_region ?_
  refine s_q (q_move rfl) rfl ?_
  refine s_q (q_move rfl) rfl ?_
  refine s_q (q_index (i := j) rfl rfl rfl hl.rdb (by first | omega | (simp; done) | (simp; omega))) rfl ?_
  refine s_q (q_load_ew (i := j) rfl hl.rdb (map_get (by first | exact (by first | omega | (simp; done) | (simp; omega)) | omega | (simp_all; done) | (simp_all; omega))) rfl) rfl ?_
  refine g_op (g_alloc rfl fun b8 => ?_)
  refine g_op (g_storew rfl rfl rfl rfl rfl ?_)
  refine g_nil ?_
  refine g_then ?_
  refine g_seq ?_
  refine g_region ?_
  refine s_q (q_field rfl) rfl ?_
  refine s_q (q_load rfl rfl) rfl ?_
  refine s_q (q_field rfl) rfl ?_
  refine s_q (q_load rfl rfl) rfl ?_
  refine s_q (q_add rfl rfl) rfl ?_
  refine s_q (q_field rfl) rfl ?_
  refine g_op (g_store rfl rfl rfl rfl rfl rfl rfl ?_)
  refine g_blkc (b := b8) (V.c { l[j] with bal := IntKind.u64.wrap ((l[j]).bal + (l[i]).bal) }) (by simp [V.c, splice]) ?_
  refine g_nil ?_
  refine g_then ?_
  refine g_seq ?_
  refine g_region ?_
  refine s_q (q_field rfl) rfl ?_
  refine g_op (g_store rfl rfl rfl rfl rfl rfl rfl ?_)
  refine g_nil ?_
  refine g_then ?_
  refine g_seq ?_
  refine g_region ?_
  refine s_q (q_field rfl) rfl ?_
  refine g_op (g_store rfl rfl rfl rfl rfl rfl rfl ?_)
  refine g_blkc (b := b7) (V.c { l[i] with bal := 0, st := 7 }) (by simp [V.c, splice]) ?_
  refine g_nil ?_
  refine g_then ?_
  refine g_seq ?_
  refine d_region [] mixed rfl rfl ?_
  refine d_q 0 rfl (by kernel_rfl) (q_move rfl) wok_sub rfl (ls' := #[true, false, false, false, false, false, false, false]) rfl ?_
  refine d_q 1 rfl (by kernel_rfl) (q_move rfl) wok_sub rfl (ls' := #[true, true, false, false, false, false, false, false]) rfl ?_
  refine d_q 2 rfl (by kernel_rfl) (q_loadw rfl rfl) wok_sub rfl (ls' := #[true, true, true, false, false, false, false, false]) rfl ?_
  refine d_q 4 rfl (by kernel_rfl) (q_move rfl) wok_sub rfl (ls' := #[true, true, true, false, true, false, false, false]) rfl ?_
  refine d_q 5 rfl (by kernel_rfl) (q_loadw rfl rfl) wok_sub rfl (ls' := #[true, true, true, false, true, true, false, false]) rfl ?_
  refine d_op 3 rfl (by kernel_rfl) (ls' := #[true, true, true, true, true, true, false, false]) rfl wok_sub (g_ownS [] rfl (fun w1 hw1 ho1 => by have h7 := put7 A (n) (cap) (l) (i) ({ l[i] with bal := 0, st := 7 }) w1 (Rd.ofRd hw1 hl (by omega)) (by first | omega | (simp; omega)) (by first | assumption | omega | (simp; omega)); exact h7) rfl ?_)
  rintro ⟨A28, cap28⟩ _
  refine ⟨_, _, inferInstance, inferInstance, ?_⟩
  refine d_op 6 rfl (by kernel_rfl) (ls' := #[true, true, true, true, true, true, true, false]) rfl wok_sub (g_ownS [] rfl (fun w1 hw1 ho1 => by have h7 := put7 A28 (((l).set i ({ l[i] with bal := 0, st := 7 })).length) (cap28) (((l).set i ({ l[i] with bal := 0, st := 7 }))) (j) ({ l[j] with bal := IntKind.u64.wrap ((l[j]).bal + (l[i]).bal) }) w1 (Rd.ofRow (A := A28) hw1) (by first | omega | (simp; omega)) (by first | assumption | omega | (simp; omega)); exact h7) rfl ?_)
  rintro ⟨A31, cap31⟩ _
  refine ⟨_, _, inferInstance, inferInstance, ?_⟩
  refine d_q 7 rfl (by kernel_rfl) (q_assign rfl) wok_sub rfl (ls' := #[true, true, true, true, true, true, true, true]) rfl ?_
  refine d_end (by kernel_rfl) (.inr wok_sub) ?_
  refine g_then ?_
  refine g_ret ?_
  have em : (l.set i { l[i] with bal := 0, st := 7 }).set j { l[j] with bal := IntKind.u64.wrap ((l[j]).bal + (l[i]).bal) } = mvN l i j := by simp only [mvN, atN_get hi, atN_get hj]
  rw [em]
  exact fin1 rfl (.tmp rfl) (fun w' hw' => ⟨(A31, cap31), (by first | exact trivial | (dsimp only; exact trivial)), by first | rfl | (simp_all; done), by have h9 := wok_sub (L' := [Res.row ((A31, cap31)).1 (mvN l i j).length ((A31, cap31)).2 24 7 ((mvN l i j).map V.c)]) w' hw'; exact h9⟩) _ (.inl rfl)
end Go.Proofs.Ytljdhdlemakcaaa
