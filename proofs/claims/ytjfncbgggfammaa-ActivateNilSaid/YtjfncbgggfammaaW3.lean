/- walks of sums and weights -/
import Derived.Test.YtjfncbgggfammaaW2
namespace Go.Proofs.Ytjfncbgggfammaa
open Go.RowKit Go.Eg
set_option synthInstance.maxSize 3000
set_option linter.unusedSimpArgs false
set_option linter.unusedVariables false
set_option maxRecDepth 100000
def ofW (W : List Int) (i : Int) : Int := if i < 0 ∨ (W.length : Int) ≤ i then 0 else (W[i.toNat]?).getD 0
theorem ofW_hi {W : List Int} {j : Nat} (h : j < W.length) : ofW W ((j : Nat) : Int) = W[j] := by
  unfold ofW
  rw [if_neg (by omega)]
  simp [h]
theorem ofW_lo {W : List Int} {i : Int} (h : i < 0 ∨ (W.length : Int) ≤ i) : ofW W i = 0 := if_pos h

def addB (l : List Int) : Bool := decide (l.sum ≤ 18446744073709551615)
def addV (l : List Int) : Int := if l.sum ≤ 18446744073709551615 then l.sum else 0
def okU (l : List Int) : Prop := ∀ x ∈ l, 0 ≤ x ∧ x ≤ 18446744073709551615
theorem sum_nn : ∀ {l : List Int}, (∀ x ∈ l, 0 ≤ x) → 0 ≤ l.sum
  | [], _ => by simp
  | x :: l, h => by
    have := sum_nn (l := l) fun y hy => h y (by simp [hy])
    have := h x (by simp)
    simp only [List.sum_cons]; omega
theorem sum_take {l : List Int} (h : okU l) {k : Nat} (hk : k < l.length) : (l.take (k + 1)).sum = (l.take k).sum + l[k] ∧ 0 ≤ (l.take k).sum ∧ 0 ≤ l[k] ∧ l[k] ≤ 18446744073709551615 := by
  have h1 := h l[k] (List.getElem_mem _)
  refine ⟨?_, sum_nn fun x hx => (h x (List.mem_of_mem_take hx)).1, h1.1, h1.2⟩
  rw [← List.take_append_getElem hk, List.sum_append]; simp
theorem sum_le {l : List Int} (h : okU l) (k : Nat) : (l.take k).sum ≤ l.sum := by
  have e : l.sum = (l.take k).sum + (l.drop k).sum := by rw [← List.sum_append, List.take_append_drop]
  have := sum_nn (l := l.drop k) fun x hx => (h x (List.mem_of_mem_drop hx)).1
  omega
theorem add_over {l : List Int} (h : okU l) {k : Nat} (hk : 18446744073709551615 < (l.take k).sum) : addB l = false ∧ addV l = 0 := by
  have := sum_le h k
  refine ⟨decide_eq_false (by omega), if_neg (by omega)⟩
theorem add_fits {l : List Int} (h : l.sum ≤ 18446744073709551615) : addB l = true ∧ addV l = l.sum := ⟨decide_eq_true h, if_pos h⟩

set_option maxHeartbeats 400000 in
theorem sat_any (A : Option Addr) (n cap : Nat) (l : List Int) (w : World) (ha : Old w A n 1 (l.map (fun v : Int => [Value.int .u64 v]))) (hl : okU l) (hb : n ≤ 1000000) : Pur Try.prog 36 [.slice A n cap] w (.tuple [.int .u64 (if l.sum ≤ 18446744073709551615 then l.sum else 18446744073709551615), .bool (!addB l)].toArray) := by
  refine g_start Try.func36 rfl 23 rfl (by simp) ([]) [] (WOK.start _ _) _ rfl ?_
  have hn : n = l.length := by simpa using ha.len
  refine g_seq ?_
  refine g_region ?_
  refine s_q (q_assign rfl) rfl ?_
  refine s_q (q_assign rfl) rfl ?_
  refine g_nil ?_
  refine g_then ?_
  refine g_seq ?_
  refine g_region ?_
  refine s_q (q_assign rfl) rfl ?_
  refine g_nil ?_
  refine g_then ?_
  refine g_seq ?_
  refine g_seq ?_
  refine g_region ?_
  refine s_q (q_move rfl) rfl ?_
  refine s_q (q_len rfl) rfl ?_
  refine s_q (q_move rfl) rfl ?_
  refine g_nil ?_
  refine g_then ?_
  refine g_block ?_
  refine g_loopk [2, 3, 7, 8] (fun (x : Nat) => [(4, .int .u64 ((l.take x).sum)), (9, .int .i64 ((x : Nat) : Int))]) (fun (x : Nat) => []) (fun (x : Nat) => x ≤ n ∧ (l.take x).sum ≤ 18446744073709551615) (fun (x : Nat) => n - x) 0 (by (try dsimp only); exact ⟨Nat.zero_le _, (by simp)⟩) rfl (by repeat (first | exact trivial | refine ⟨rfl, ?_⟩)) wok_sub ?_
  rintro k ⟨le_k, hs⟩
  replace le_k : k ≤ n := le_k
  replace hs : (l.take k).sum ≤ 18446744073709551615 := hs
  refine g_seq ?_
  refine g_region ?_
  refine s_q (q_lss rfl rfl) rfl ?_
  refine g_nil ?_
  refine g_then ?_
  refine g_seq ?_
  refine g_cond rfl (fun h1 => ?_) (fun h1 => ?_)
  · have lt_k : k < n := by have h9 := of_decide_eq_true h1; omega
    refine g_skip ?_
    refine g_then ?_
    refine g_seq ?_
    refine g_block ?_
    refine g_seq ?_
    refine g_region ?_
    refine s_q (q_index (i := k) rfl rfl rfl (ha.rdb rfl) (by first | exact lt_k | omega)) rfl ?_
    refine s_q (q_load_el (i := k) (o := 0) rfl (ha.rdb rfl) (map_get (by first | assumption | omega)) rfl rfl) rfl ?_
    refine s_q (q_assign rfl) rfl ?_
    refine g_nil ?_
    refine g_then ?_
    refine g_seq ?_
    refine g_seq ?_
    refine g_region ?_
    refine s_q (q_move rfl) rfl ?_
    refine s_q (q_move rfl) rfl ?_
    refine s_q (q_add rfl rfl) rfl ?_
    refine s_q (q_move rfl) rfl ?_
    refine s_q (q_lss rfl rfl) rfl ?_
    refine g_nil ?_
    refine g_then ?_
    refine g_cond rfl (fun h2 => ?_) (fun h2 => ?_)
    · refine g_seq ?_
      refine g_region ?_
      refine s_q (q_assign rfl) rfl ?_
      refine s_q (q_assign rfl) rfl ?_
      refine g_nil ?_
      refine g_then ?_
      refine g_ret ?_
      refine g_then_ret (g_blk_ret (g_then_ret (g_then_ret (g_blk_ret (g_then_ret ?_)))))
      exact fin2 rfl (.tmp rfl) (.tmp rfl) (fun w' hw' => ⟨by have h9 := sum_take hl (k := k) (by omega); have h8 : 18446744073709551615 < (l.take (k + 1)).sum := (by simp at h2; rw [IntKind.wrap_u64] at h2; omega); have h7 := add_over hl h8; have h6 := sum_le hl (k + 1); rw [h7.1, if_neg (by omega)]; rfl, hw'.upd⟩) _ (.inl rfl)
    · refine g_skip ?_
      refine g_then ?_
      refine g_region ?_
      refine s_q (q_move rfl) rfl ?_
      refine s_q (q_move rfl) rfl ?_
      refine s_q (q_addz (z := (l.take (k + 1)).sum) rfl rfl (by have h9 := sum_take hl (k := k) (by omega); simp at h2; rw [IntKind.wrap_u64] at h2 ⊢; omega)) rfl ?_
      refine s_q (q_assign rfl) rfl ?_
      refine g_nil ?_
      refine g_blk_n ?_
      refine g_then ?_
      refine g_region ?_
      refine s_q (q_inc rfl rfl (by omega)) rfl ?_
      refine s_q (q_move rfl) rfl ?_
      refine g_nil ?_
      exact g_again (k + 1) (by (try dsimp only); exact ⟨(by first | exact lt_k | omega), (by have := sum_take hl (k := k) (by omega); simp at h2; rw [IntKind.wrap_u64] at h2; omega)⟩) (by first | omega | (simp only; omega)) (by repeat (first | exact trivial | refine ⟨rfl, ?_⟩)) wok_sub
  · have eq_k : k = n := by have h9 := of_decide_eq_false h1; omega
    refine g_exit ?_
    refine g_then_x (g_then_x (g_blk_hit ?_))
    refine g_then ?_
    refine g_seq ?_
    refine g_region ?_
    refine s_q (q_move rfl) rfl ?_
    refine s_q (q_assign rfl) rfl ?_
    refine s_q (q_assign rfl) rfl ?_
    refine g_nil ?_
    refine g_then ?_
    refine g_ret ?_
    exact fin2 rfl (.tmp rfl) (.tmp rfl) (fun w' hw' => ⟨by have e8 : l.take k = l := (by rw [eq_k, hn, List.take_length]); rw [e8] at hs ⊢; have h7 := add_fits hs; rw [h7.1, if_pos hs]; rfl, hw'.upd⟩) _ (.inl rfl)

set_option maxHeartbeats 400000 in
theorem add_any (A : Option Addr) (n cap : Nat) (l : List Int) (w : World) (ha : Old w A n 1 (l.map (fun v : Int => [Value.int .u64 v]))) (hl : okU l) (hb : n ≤ 1000000) : Pur Try.prog 34 [.slice A n cap] w (.tuple [.int .u64 (addV l), .bool (addB l)].toArray) := by
  refine g_start Try.func34 rfl 13 rfl (by simp) ([]) [] (WOK.start _ _) _ rfl ?_
  have hn : n = l.length := by simpa using ha.len
  refine g_seq ?_
  refine g_region ?_
  refine s_q (q_assign rfl) rfl ?_
  refine s_q (q_assign rfl) rfl ?_
  refine g_nil ?_
  refine g_then ?_
  refine g_seq ?_
  refine g_region ?_
  refine s_q (q_move rfl) rfl ?_
  refine g_op (g_pure rfl (fun w1 hw1 => sat_any A (n) (cap) (l) w1 (Rdb.toOld (ha.rdb rfl) hw1) (by first | assumption | (intro x hx; simp at hx; first | (rcases hx with rfl | rfl <;> omega) | (rcases hx with rfl | rfl | rfl <;> omega) | (subst hx; omega))) (by first | omega | (simp; omega) | (simp; done))) rfl ?_)
  refine s_q (q_move rfl) rfl ?_
  refine s_q (q_extract rfl rfl) rfl ?_
  refine s_q (q_extract rfl rfl) rfl ?_
  refine s_q (q_assign rfl) rfl ?_
  refine s_q (q_assign rfl) rfl ?_
  refine g_nil ?_
  refine g_then ?_
  refine g_seq ?_
  refine g_seq ?_
  refine g_region ?_
  refine s_q (q_move rfl) rfl ?_
  refine g_nil ?_
  refine g_then ?_
  refine g_cond rfl (fun h1 => ?_) (fun h1 => ?_)
  · refine g_seq ?_
    refine g_region ?_
    refine s_q (q_assign rfl) rfl ?_
    refine s_q (q_assign rfl) rfl ?_
    refine g_nil ?_
    refine g_then ?_
    refine g_ret ?_
    refine g_then_ret ?_
    exact fin2 rfl (.tmp rfl) (.tmp rfl) (fun w' hw' => ⟨by simp [addB] at h1; simp [addB, addV]; omega, hw'.upd⟩) _ (.inl rfl)
  · refine g_skip ?_
    refine g_then ?_
    refine g_seq ?_
    refine g_region ?_
    refine s_q (q_move rfl) rfl ?_
    refine s_q (q_assign rfl) rfl ?_
    refine s_q (q_assign rfl) rfl ?_
    refine g_nil ?_
    refine g_then ?_
    refine g_ret ?_
    exact fin2 rfl (.tmp rfl) (.tmp rfl) (fun w' hw' => ⟨by simp [addB] at h1; simp [addB, addV, h1], hw'.upd⟩) _ (.inl rfl)

set_option maxHeartbeats 400000 in
theorem max_any  (w : World)  : Pur Try.prog 31 [] w (.int .u64 18446744073709551615) := by
  refine g_start Try.func31 rfl 1 rfl (by simp) ([]) [] (WOK.start _ _) _ rfl ?_
  refine g_seq ?_
  refine g_region ?_
  refine s_q (q_assign rfl) rfl ?_
  refine g_nil ?_
  refine g_then ?_
  refine g_seq ?_
  refine g_region ?_
  refine s_q (q_assign rfl) rfl ?_
  refine g_nil ?_
  refine g_then ?_
  refine g_ret ?_
  exact fin1 rfl (.tmp rfl) (fun w' hw' => ⟨by rfl, hw'.upd⟩) _ (.inl rfl)

set_option maxHeartbeats 400000 in
theorem radd_any (A : Option Addr) (n cap : Nat) (l : List Int) (w : World) (ha : Old w A n 1 (l.map (fun v : Int => [Value.int .u64 v]))) (hl : okU l) (hb : n ≤ 1000000) : Pur Try.prog 26 [.slice A n cap] w (.tuple [.int .u64 (addV l), .bool (addB l)].toArray) := by
  refine g_start Try.func26 rfl 27 rfl (by simp) ([]) [] (WOK.start _ _) _ rfl ?_
  have hn : n = l.length := by simpa using ha.len
  refine g_seq ?_
  refine g_region ?_
  refine s_q (q_assign rfl) rfl ?_
  refine s_q (q_assign rfl) rfl ?_
  refine g_nil ?_
  refine g_then ?_
  refine g_seq ?_
  refine g_region ?_
  refine s_q (q_assign rfl) rfl ?_
  refine g_nil ?_
  refine g_then ?_
  refine g_seq ?_
  refine g_seq ?_
  refine g_region ?_
  refine s_q (q_assign rfl) rfl ?_
  refine g_nil ?_
  refine g_then ?_
  refine g_block ?_
  refine g_loopk [0, 2, 3] (fun (x : Nat) => [(4, .int .u64 ((l.take x).sum)), (5, .int .i64 ((x : Nat) : Int))]) (fun (x : Nat) => []) (fun (x : Nat) => x ≤ n ∧ (l.take x).sum ≤ 18446744073709551615) (fun (x : Nat) => n - x) 0 (by (try dsimp only); exact ⟨Nat.zero_le _, (by simp)⟩) rfl (by repeat (first | exact trivial | refine ⟨rfl, ?_⟩)) wok_sub ?_
  rintro k ⟨le_k, hs⟩
  replace le_k : k ≤ n := le_k
  replace hs : (l.take k).sum ≤ 18446744073709551615 := hs
  refine g_seq ?_
  refine g_seq ?_
  refine g_region ?_
  refine s_q (q_move rfl) rfl ?_
  refine s_q (q_move rfl) rfl ?_
  refine s_q (q_len rfl) rfl ?_
  refine s_q (q_lss rfl rfl) rfl ?_
  refine g_nil ?_
  refine g_then ?_
  refine g_cond rfl (fun h1 => ?_) (fun h1 => ?_)
  · have lt_k : k < n := by have h9 := of_decide_eq_true h1; omega
    refine g_skip ?_
    refine g_then ?_
    refine g_seq ?_
    refine g_block ?_
    refine g_seq ?_
    refine g_seq ?_
    refine d_region [] mixed rfl rfl ?_
    refine d_q 0 rfl (by kernel_rfl) (q_move rfl) wok_sub rfl (ls' := #[true, false, false, false, false, false, false, false]) rfl ?_
    refine d_q 1 rfl (by kernel_rfl) (q_move rfl) wok_sub rfl (ls' := #[true, true, false, false, false, false, false, false]) rfl ?_
    refine d_q 2 rfl (by kernel_rfl) (q_index (i := k) rfl rfl rfl (ha.rdb rfl) (by first | exact lt_k | omega)) wok_sub rfl (ls' := #[true, true, true, false, false, false, false, false]) rfl ?_
    refine d_q 3 rfl (by kernel_rfl) (q_load_el (i := k) (o := 0) rfl (ha.rdb rfl) (map_get (by first | assumption | omega)) rfl rfl) wok_sub rfl (ls' := #[true, true, true, true, false, false, false, false]) rfl ?_
    refine d_q 5 rfl (by kernel_rfl) (q_move rfl) wok_sub rfl (ls' := #[true, true, true, true, false, true, false, false]) rfl ?_
    refine d_op 4 rfl (by kernel_rfl) (ls' := #[true, true, true, true, true, true, false, false]) rfl wok_sub (g_pure rfl (fun w1 hw1 => max_any w1) rfl ?_)
    refine d_q 6 rfl (by kernel_rfl) (q_subz (z := 18446744073709551615 - (l.take k).sum) rfl rfl (by have h9 := sum_take hl (k := k) (by omega); rw [IntKind.wrap_u64]; omega)) wok_sub rfl (ls' := #[true, true, true, true, true, true, true, false]) rfl ?_
    refine d_q 7 rfl (by kernel_rfl) (q_gtr rfl rfl) wok_sub rfl (ls' := #[true, true, true, true, true, true, true, true]) rfl ?_
    refine d_end (by kernel_rfl) (.inr wok_sub) ?_
    refine g_then ?_
    refine g_cond rfl (fun h2 => ?_) (fun h2 => ?_)
    · refine g_seq ?_
      refine g_region ?_
      refine s_q (q_assign rfl) rfl ?_
      refine s_q (q_assign rfl) rfl ?_
      refine g_nil ?_
      refine g_then ?_
      refine g_ret ?_
      refine g_then_ret (g_blk_ret (g_then_ret (g_then_ret (g_blk_ret (g_then_ret ?_)))))
      exact fin2 rfl (.tmp rfl) (.tmp rfl) (fun w' hw' => ⟨by have h9 := sum_take hl (k := k) (by omega); have h8 : 18446744073709551615 < (l.take (k + 1)).sum := (by simp at h2; omega); have h7 := add_over hl h8; rw [h7.1, h7.2], hw'.upd⟩) _ (.inl rfl)
    · refine g_skip ?_
      refine g_then ?_
      refine g_region ?_
      refine s_q (q_move rfl) rfl ?_
      refine s_q (q_move rfl) rfl ?_
      refine s_q (q_move rfl) rfl ?_
      refine s_q (q_index (i := k) rfl rfl rfl (ha.rdb rfl) (by first | exact lt_k | omega)) rfl ?_
      refine s_q (q_load_el (i := k) (o := 0) rfl (ha.rdb rfl) (map_get (by first | assumption | omega)) rfl rfl) rfl ?_
      refine s_q (q_addz (z := (l.take (k + 1)).sum) rfl rfl (by have h9 := sum_take hl (k := k) (by omega); simp at h2; rw [IntKind.wrap_u64]; omega)) rfl ?_
      refine s_q (q_assign rfl) rfl ?_
      refine g_nil ?_
      refine g_blk_n ?_
      refine g_then ?_
      refine g_region ?_
      refine s_q (q_move rfl) rfl ?_
      refine s_q (q_inc rfl rfl (by omega)) rfl ?_
      refine s_q (q_assign rfl) rfl ?_
      refine g_nil ?_
      exact g_again (k + 1) (by (try dsimp only); exact ⟨(by first | exact lt_k | omega), (by have := sum_take hl (k := k) (by omega); simp at h2; omega)⟩) (by first | omega | (simp only; omega)) (by repeat (first | exact trivial | refine ⟨rfl, ?_⟩)) wok_sub
  · have eq_k : k = n := by have h9 := of_decide_eq_false h1; omega
    refine g_exit ?_
    refine g_then_x (g_then_x (g_blk_hit ?_))
    refine g_then ?_
    refine g_seq ?_
    refine g_region ?_
    refine s_q (q_move rfl) rfl ?_
    refine s_q (q_assign rfl) rfl ?_
    refine s_q (q_assign rfl) rfl ?_
    refine g_nil ?_
    refine g_then ?_
    refine g_ret ?_
    exact fin2 rfl (.tmp rfl) (.tmp rfl) (fun w' hw' => ⟨by have e8 : l.take k = l := (by rw [eq_k, hn, List.take_length]); rw [e8] at hs ⊢; have h7 := add_fits hs; rw [h7.1, h7.2], hw'.upd⟩) _ (.inl rfl)

theorem ofW_U {l : List Int} (h : okU l) (i : Int) : 0 ≤ ofW l i ∧ ofW l i ≤ 18446744073709551615 := by
  unfold ofW
  split
  · omega
  · rename_i hi
    have hj : i.toNat < l.length := by omega
    rw [List.getElem?_eq_getElem hj]
    exact h _ (List.getElem_mem hj)
theorem okU_map {l is : List Int} (h : okU l) : okU (is.map (ofW l)) := by
  intro x hx
  obtain ⟨i, _, rfl⟩ := List.mem_map.1 hx
  exact ofW_U h i

set_option maxHeartbeats 400000 in
theorem wt_any (A : Option Addr) (n cap : Nat) (l : List Int) (i : Int) (w : World) (ha : Old w A n 1 (l.map (fun v : Int => [Value.int .u64 v]))) : Pur Try.prog 35 [.slice A n cap, .int .i64 i] w (.int .u64 (ofW l i)) := by
  refine g_start Try.func35 rfl 17 rfl (by simp) ([]) [] (WOK.start _ _) _ rfl ?_
  refine g_seq ?_
  refine g_region ?_
  refine s_q (q_assign rfl) rfl ?_
  refine g_nil ?_
  refine g_then ?_
  refine g_seq ?_
  refine g_seq ?_
  refine g_region ?_
  refine s_q (q_move rfl) rfl ?_
  refine s_q (q_lss rfl rfl) rfl ?_
  refine s_q (q_move rfl) rfl ?_
  refine g_split 7 rfl (fun h1 => ?_) (fun h1 => ?_)
  · refine g_gf rfl rfl rfl rfl ?_
    refine g_gf rfl rfl rfl rfl ?_
    refine g_gf rfl rfl rfl rfl ?_
    refine g_gf rfl rfl rfl rfl ?_
    refine s_q (q_pick_t rfl rfl) rfl ?_
    refine g_nil ?_
    refine g_then ?_
    refine g_true rfl ?_
    refine g_seq ?_
    refine g_region ?_
    refine s_q (q_assign rfl) rfl ?_
    refine g_nil ?_
    refine g_then ?_
    refine g_ret ?_
    refine g_then_ret ?_
    exact fin1 rfl (.tmp rfl) (fun w' hw' => ⟨by rw [ofW_lo (by first | exact .inl (of_decide_eq_true h1) | (have h8 := ha.len; simp only [List.length_map] at h8; simp_all; omega))], hw'.upd⟩) _ (.inl rfl)
  · refine s_qg (q_move rfl) rfl rfl rfl ?_
    refine s_qg (q_move rfl) rfl rfl rfl ?_
    refine s_qg (q_len rfl) rfl rfl rfl ?_
    refine s_qg (q_geq rfl rfl) rfl rfl rfl ?_
    refine s_q (q_pick_f rfl rfl) rfl ?_
    refine g_nil ?_
    refine g_then ?_
    refine g_cond rfl (fun h2 => ?_) (fun h2 => ?_)
    · refine g_seq ?_
      refine g_region ?_
      refine s_q (q_assign rfl) rfl ?_
      refine g_nil ?_
      refine g_then ?_
      refine g_ret ?_
      refine g_then_ret ?_
      exact fin1 rfl (.tmp rfl) (fun w' hw' => ⟨by rw [ofW_lo (.inr (by have h8 := ha.len; simp only [List.length_map] at h8; have h7 := of_decide_eq_true h2; omega))], hw'.upd⟩) _ (.inl rfl)
    · have hn : n = l.length := by simpa using ha.len
      have h9 : ¬ i < 0 ∧ ¬ (l.length : Int) ≤ i := ⟨of_decide_eq_false h1, by have h7 := of_decide_eq_false h2; omega⟩
      obtain ⟨j, rfl⟩ : ∃ j : Nat, i = j := ⟨i.toNat, by omega⟩
      have hj : j < l.length := by omega
      refine g_skip ?_
      refine g_then ?_
      refine g_seq ?_
      refine g_region ?_
      refine s_q (q_move rfl) rfl ?_
      refine s_q (q_move rfl) rfl ?_
      refine s_q (q_index (i := j) rfl rfl rfl (ha.rdb rfl) (by first | omega | (simp; done) | (simp; omega))) rfl ?_
      refine s_q (q_load_el (i := j) (o := 0) rfl (ha.rdb rfl) (map_get (by first | assumption | omega)) rfl rfl) rfl ?_
      refine s_q (q_assign rfl) rfl ?_
      refine g_nil ?_
      refine g_then ?_
      refine g_ret ?_
      exact fin1 rfl (.tmp rfl) (fun w' hw' => ⟨by rw [ofW_hi hj], hw'.upd⟩) _ (.inl rfl)

set_option maxHeartbeats 400000 in
theorem of13_any (A : Option Addr) (n cap : Nat) (l : List Int) (i : Int) (w : World) (ha : Old w A n 1 (l.map (fun v : Int => [Value.int .u64 v]))) : Pur Try.prog 25 [.slice A n cap, .int .i64 i] w (.int .u64 (ofW l i)) := by
  refine g_start Try.func25 rfl 17 rfl (by simp) ([]) [] (WOK.start _ _) _ rfl ?_
  refine g_seq ?_
  refine g_region ?_
  refine s_q (q_assign rfl) rfl ?_
  refine g_nil ?_
  refine g_then ?_
  refine g_seq ?_
  refine g_seq ?_
  refine g_region ?_
  refine s_q (q_move rfl) rfl ?_
  refine s_q (q_lss rfl rfl) rfl ?_
  refine s_q (q_move rfl) rfl ?_
  refine g_split 7 rfl (fun h1 => ?_) (fun h1 => ?_)
  · refine g_gf rfl rfl rfl rfl ?_
    refine g_gf rfl rfl rfl rfl ?_
    refine g_gf rfl rfl rfl rfl ?_
    refine g_gf rfl rfl rfl rfl ?_
    refine s_q (q_pick_t rfl rfl) rfl ?_
    refine g_nil ?_
    refine g_then ?_
    refine g_true rfl ?_
    refine g_seq ?_
    refine g_region ?_
    refine s_q (q_assign rfl) rfl ?_
    refine g_nil ?_
    refine g_then ?_
    refine g_ret ?_
    refine g_then_ret ?_
    exact fin1 rfl (.tmp rfl) (fun w' hw' => ⟨by rw [ofW_lo (by first | exact .inl (of_decide_eq_true h1) | (have h8 := ha.len; simp only [List.length_map] at h8; simp_all; omega))], hw'.upd⟩) _ (.inl rfl)
  · refine s_qg (q_move rfl) rfl rfl rfl ?_
    refine s_qg (q_move rfl) rfl rfl rfl ?_
    refine s_qg (q_len rfl) rfl rfl rfl ?_
    refine s_qg (q_geq rfl rfl) rfl rfl rfl ?_
    refine s_q (q_pick_f rfl rfl) rfl ?_
    refine g_nil ?_
    refine g_then ?_
    refine g_cond rfl (fun h2 => ?_) (fun h2 => ?_)
    · refine g_seq ?_
      refine g_region ?_
      refine s_q (q_assign rfl) rfl ?_
      refine g_nil ?_
      refine g_then ?_
      refine g_ret ?_
      refine g_then_ret ?_
      exact fin1 rfl (.tmp rfl) (fun w' hw' => ⟨by rw [ofW_lo (.inr (by have h8 := ha.len; simp only [List.length_map] at h8; have h7 := of_decide_eq_true h2; omega))], hw'.upd⟩) _ (.inl rfl)
    · have hn : n = l.length := by simpa using ha.len
      have h9 : ¬ i < 0 ∧ ¬ (l.length : Int) ≤ i := ⟨of_decide_eq_false h1, by have h7 := of_decide_eq_false h2; omega⟩
      obtain ⟨j, rfl⟩ : ∃ j : Nat, i = j := ⟨i.toNat, by omega⟩
      have hj : j < l.length := by omega
      refine g_skip ?_
      refine g_then ?_
      refine g_seq ?_
      refine g_region ?_
      refine s_q (q_move rfl) rfl ?_
      refine s_q (q_move rfl) rfl ?_
      refine s_q (q_index (i := j) rfl rfl rfl (ha.rdb rfl) (by first | omega | (simp; done) | (simp; omega))) rfl ?_
      refine s_q (q_load_el (i := j) (o := 0) rfl (ha.rdb rfl) (map_get (by first | assumption | omega)) rfl rfl) rfl ?_
      refine s_q (q_assign rfl) rfl ?_
      refine g_nil ?_
      refine g_then ?_
      refine g_ret ?_
      exact fin1 rfl (.tmp rfl) (fun w' hw' => ⟨by rw [ofW_hi hj], hw'.upd⟩) _ (.inl rfl)

set_option maxHeartbeats 400000 in
theorem weight_any (A B9 : Option Addr) (n1 c1 n2 c2 : Nat) (l is : List Int) (w : World) (ha : Old w A n1 1 (l.map (fun v : Int => [Value.int .u64 v]))) (hb : Old w B9 n2 1 (is.map (fun v : Int => [Value.int .i64 v]))) (hl : okU l) (hn9 : n2 ≤ 1000) : Pur Try.prog 28 [.slice A n1 c1, .slice B9 n2 c2] w (.tuple [.int .u64 (addV (is.map (ofW l))), .bool (addB (is.map (ofW l)))].toArray) := by
  refine g_start Try.func28 rfl 26 rfl (by simp) ([]) [] (WOK.start _ _) _ rfl ?_
  have e1 : n1 = l.length := by simpa using ha.len
  have e2 : n2 = is.length := by simpa using hb.len
  refine g_seq ?_
  refine g_region ?_
  refine s_q (q_assign rfl) rfl ?_
  refine s_q (q_assign rfl) rfl ?_
  refine g_nil ?_
  refine g_then ?_
  refine g_seq ?_
  refine g_region ?_
  refine s_q (q_assign rfl) rfl ?_
  refine g_nilrow 6 23 1 rfl fun Az1 capz1 hcz1 => ?_
  refine g_rowels (A := Az1) (([] : List Int).map (fun v : Int => [Value.int .u64 v])) rfl ?_
  refine g_nil ?_
  refine g_then ?_
  refine g_seq ?_
  refine g_seq ?_
  refine g_region ?_
  refine s_q (q_move rfl) rfl ?_
  refine s_q (q_len rfl) rfl ?_
  refine s_q (q_move rfl) rfl ?_
  refine g_nil ?_
  refine g_then ?_
  refine g_block ?_
  refine g_loopk [0, 4, 5, 9, 10] (fun (x : Nat × Option Addr × Nat × List Int) => [(6, .slice x.2.1 x.2.2.2.length x.2.2.1), (11, .int .i64 ((x.1 : Nat) : Int))]) (fun (x : Nat × Option Addr × Nat × List Int) => [Res.row x.2.1 (x.2.2.2).length x.2.2.1 23 1 ((x.2.2.2).map (fun v : Int => [Value.int .u64 v]))]) (fun (x : Nat × Option Addr × Nat × List Int) => x.1 ≤ n2 ∧ x.2.2.2 = (is.take x.1).map (ofW l)) (fun (x : Nat × Option Addr × Nat × List Int) => n2 - x.1) (0, Az1, capz1, []) (by (try dsimp only); exact ⟨Nat.zero_le _, (by simp)⟩) rfl (by repeat (first | exact trivial | refine ⟨rfl, ?_⟩)) wok_sub ?_
  rintro ⟨k, B, bc, o⟩ ⟨le_k, ho⟩
  replace le_k : k ≤ n2 := le_k
  replace ho : o = (is.take k).map (ofW l) := ho
  refine g_setL (L' := [Res.row B (o).length bc 23 1 ((o).map (fun v : Int => [Value.int .u64 v]))]) rfl ?_
  refine g_val 6 (v' := .slice B o.length bc) rfl rfl ?_
  refine g_val 11 (v' := .int .i64 ((k : Nat) : Int)) rfl rfl ?_
  have hol : o.length = min k n2 := by rw [ho]; simp [e2]
  refine g_seq ?_
  refine g_region ?_
  refine s_q (q_lss rfl rfl) rfl ?_
  refine g_nil ?_
  refine g_then ?_
  refine g_seq ?_
  refine g_cond rfl (fun h1 => ?_) (fun h1 => ?_)
  · have lt_k : k < n2 := by have h9 := of_decide_eq_true h1; omega
    refine g_skip ?_
    refine g_then ?_
    refine g_seq ?_
    refine g_block ?_
    refine g_seq ?_
    refine g_region ?_
    refine s_q (q_index (i := k) rfl rfl rfl (hb.rdb rfl) (by first | exact lt_k | omega)) rfl ?_
    refine s_q (q_load_el (i := k) (o := 0) rfl (hb.rdb rfl) (map_get (by first | exact (by first | exact lt_k | omega) | omega | (simp_all; done) | (simp_all; omega))) rfl rfl) rfl ?_
    refine s_q (q_assign rfl) rfl ?_
    refine g_nil ?_
    refine g_then ?_
    refine g_region ?_
    refine s_q (q_move rfl) rfl ?_
    refine s_q (q_move rfl) rfl ?_
    refine s_q (q_move rfl) rfl ?_
    refine g_op (g_pure rfl (fun w1 hw1 => wt_any A (n1) (c1) (l) _ w1 (Rdb.toOld (ha.rdb rfl) hw1)) rfl ?_)
    refine g_op (g_lit rfl rfl rfl rfl rfl fun b19 => ?_)
    refine g_blkc (b := b19) ((([(ofW l (is[k]))] : List Int).map (fun v : Int => [Value.int .u64 v])).flatten) rfl ?_
    refine g_op (g_append (A := B) (els := (o).map (fun v : Int => [Value.int .u64 v])) (news := (([(ofW l (is[k]))] : List Int).map (fun v : Int => [Value.int .u64 v]))) rfl rfl (InL.rdb (b := b19) rfl (by simp) rfl) (map_one (c := (fun v : Int => [Value.int .u64 v])) (by intro x; simp [Value.oneCell']) _) (by first | omega | (simp; omega) | (simp_all; omega)) rfl fun A20 cap20 => ⟨_, inferInstance, ?_⟩)
    refine g_rowels (A := A20) (((o ++ [(ofW l (is[k]))])).map (fun v : Int => [Value.int .u64 v])) (by first | rfl | exact List.map_append.symm | (simp; done)) ?_
    refine s_q (q_assign rfl) rfl ?_
    refine g_nil ?_
    refine g_blk_n ?_
    refine g_then ?_
    refine g_region ?_
    refine s_q (q_inc rfl rfl (by omega)) rfl ?_
    refine s_q (q_move rfl) rfl ?_
    refine g_nil ?_
    refine g_rown (A := A20) ((o ++ [(ofW l (is[k]))])).length (by simp) ?_
    refine g_val 6 (v' := .slice A20 ((o ++ [(ofW l (is[k]))])).length cap20) rfl (by simp) ?_
    exact g_again ((k + 1), A20, cap20, (o ++ [(ofW l (is[k]))])) (by (try dsimp only); exact ⟨(by first | exact lt_k | omega), (by rw [← List.take_append_getElem (show k < is.length by omega), List.map_append, ho]; rfl)⟩) (by first | omega | (simp only; omega)) (by repeat (first | exact trivial | refine ⟨rfl, ?_⟩)) wok_sub
  · have eq_k : k = n2 := by have h9 := of_decide_eq_false h1; omega
    refine g_exit ?_
    refine g_then_x (g_then_x (g_blk_hit ?_))
    refine g_then ?_
    refine g_seq ?_
    refine g_region ?_
    refine s_q (q_move rfl) rfl ?_
    refine g_op (g_pure rfl (fun w1 hw1 => add_any B (o.length) (bc) (o) w1 (Rdb.toOld (InRow.rdb (A := B) (els := (o).map (fun v : Int => [Value.int .u64 v])) (by first | rfl | assumption | (simp; done) | (simp_all; done) | (simp; omega) | (simp_all; omega)) (map_cat (c := (fun v : Int => [Value.int .u64 v])) (fun _ => rfl) _)) hw1) (by rw [ho]; exact okU_map hl) (by first | omega | (simp; omega) | (simp; done))) rfl ?_)
    refine s_q (q_extract rfl rfl) rfl ?_
    refine s_q (q_extract rfl rfl) rfl ?_
    refine s_q (q_assign rfl) rfl ?_
    refine s_q (q_assign rfl) rfl ?_
    refine g_nil ?_
    refine g_then ?_
    refine g_ret ?_
    exact fin2 rfl (.tmp rfl) (.tmp rfl) (fun w' hw' => ⟨by have e8 : o = is.map (ofW l) := (by rw [ho, eq_k, e2, List.take_length]); rw [e8], hw'.upd⟩) _ (.inl rfl)

set_option maxHeartbeats 400000 in
theorem rweight_any (A B9 : Option Addr) (n1 c1 n2 c2 : Nat) (l is : List Int) (w : World) (ha : Old w A n1 1 (l.map (fun v : Int => [Value.int .u64 v]))) (hb : Old w B9 n2 1 (is.map (fun v : Int => [Value.int .i64 v]))) (hl : okU l) (hn9 : n2 ≤ 1000) : Pur Try.prog 16 [.slice A n1 c1, .slice B9 n2 c2] w (.tuple [.int .u64 (addV (is.map (ofW l))), .bool (addB (is.map (ofW l)))].toArray) := by
  refine g_start Try.func16 rfl 27 rfl (by simp) ([]) [] (WOK.start _ _) _ rfl ?_
  have e1 : n1 = l.length := by simpa using ha.len
  have e2 : n2 = is.length := by simpa using hb.len
  refine g_seq ?_
  refine g_region ?_
  refine s_q (q_assign rfl) rfl ?_
  refine s_q (q_assign rfl) rfl ?_
  refine g_nil ?_
  refine g_then ?_
  refine g_seq ?_
  refine g_region ?_
  refine s_q (q_assign rfl) rfl ?_
  refine g_nilrow 6 23 1 rfl fun Az1 capz1 hcz1 => ?_
  refine g_rowels (A := Az1) (([] : List Int).map (fun v : Int => [Value.int .u64 v])) rfl ?_
  refine g_nil ?_
  refine g_then ?_
  refine g_seq ?_
  refine g_seq ?_
  refine g_region ?_
  refine s_q (q_assign rfl) rfl ?_
  refine g_nil ?_
  refine g_then ?_
  refine g_block ?_
  refine g_loopk [0, 1, 4, 5] (fun (x : Nat × Option Addr × Nat × List Int) => [(6, .slice x.2.1 x.2.2.2.length x.2.2.1), (7, .int .i64 ((x.1 : Nat) : Int))]) (fun (x : Nat × Option Addr × Nat × List Int) => [Res.row x.2.1 (x.2.2.2).length x.2.2.1 23 1 ((x.2.2.2).map (fun v : Int => [Value.int .u64 v]))]) (fun (x : Nat × Option Addr × Nat × List Int) => x.1 ≤ n2 ∧ x.2.2.2 = (is.take x.1).map (ofW l)) (fun (x : Nat × Option Addr × Nat × List Int) => n2 - x.1) (0, Az1, capz1, []) (by (try dsimp only); exact ⟨Nat.zero_le _, (by simp)⟩) rfl (by repeat (first | exact trivial | refine ⟨rfl, ?_⟩)) wok_sub ?_
  rintro ⟨k, B, bc, o⟩ ⟨le_k, ho⟩
  replace le_k : k ≤ n2 := le_k
  replace ho : o = (is.take k).map (ofW l) := ho
  refine g_setL (L' := [Res.row B (o).length bc 23 1 ((o).map (fun v : Int => [Value.int .u64 v]))]) rfl ?_
  refine g_val 6 (v' := .slice B o.length bc) rfl rfl ?_
  refine g_val 7 (v' := .int .i64 ((k : Nat) : Int)) rfl rfl ?_
  have hol : o.length = min k n2 := by rw [ho]; simp [e2]
  refine g_seq ?_
  refine g_seq ?_
  refine g_region ?_
  refine s_q (q_move rfl) rfl ?_
  refine s_q (q_move rfl) rfl ?_
  refine s_q (q_len rfl) rfl ?_
  refine s_q (q_lss rfl rfl) rfl ?_
  refine g_nil ?_
  refine g_then ?_
  refine g_cond rfl (fun h1 => ?_) (fun h1 => ?_)
  · have lt_k : k < n2 := by have h9 := of_decide_eq_true h1; omega
    have lt_k : k < n2 := by have h9 := of_decide_eq_true h1; omega
    refine g_skip ?_
    refine g_then ?_
    refine g_seq ?_
    refine g_block ?_
    refine g_region ?_
    refine s_q (q_move rfl) rfl ?_
    refine s_q (q_move rfl) rfl ?_
    refine s_q (q_move rfl) rfl ?_
    refine s_q (q_move rfl) rfl ?_
    refine s_q (q_index (i := k) rfl rfl rfl (hb.rdb rfl) (by first | exact lt_k | omega)) rfl ?_
    refine s_q (q_load_el (i := k) (o := 0) rfl (hb.rdb rfl) (map_get (by first | exact (by first | exact lt_k | omega) | omega | (simp_all; done) | (simp_all; omega))) rfl rfl) rfl ?_
    refine g_op (g_pure rfl (fun w1 hw1 => of13_any A (n1) (c1) (l) _ w1 (Rdb.toOld (ha.rdb rfl) hw1)) rfl ?_)
    refine g_op (g_lit rfl rfl rfl rfl rfl fun b21 => ?_)
    refine g_blkc (b := b21) ((([(ofW l (is[k]))] : List Int).map (fun v : Int => [Value.int .u64 v])).flatten) rfl ?_
    refine g_op (g_append (A := B) (els := (o).map (fun v : Int => [Value.int .u64 v])) (news := (([(ofW l (is[k]))] : List Int).map (fun v : Int => [Value.int .u64 v]))) rfl rfl (InL.rdb (b := b21) rfl (by simp) rfl) (map_one (c := (fun v : Int => [Value.int .u64 v])) (by intro x; simp [Value.oneCell']) _) (by first | omega | (simp; omega) | (simp_all; omega)) rfl fun A22 cap22 => ⟨_, inferInstance, ?_⟩)
    refine g_rowels (A := A22) (((o ++ [(ofW l (is[k]))])).map (fun v : Int => [Value.int .u64 v])) (by first | rfl | exact List.map_append.symm | (simp; done)) ?_
    refine s_q (q_assign rfl) rfl ?_
    refine g_nil ?_
    refine g_blk_n ?_
    refine g_then ?_
    refine g_region ?_
    refine s_q (q_move rfl) rfl ?_
    refine s_q (q_inc rfl rfl (by omega)) rfl ?_
    refine s_q (q_assign rfl) rfl ?_
    refine g_nil ?_
    refine g_rown (A := A22) ((o ++ [(ofW l (is[k]))])).length (by simp) ?_
    refine g_val 6 (v' := .slice A22 ((o ++ [(ofW l (is[k]))])).length cap22) rfl (by simp) ?_
    exact g_again ((k + 1), A22, cap22, (o ++ [(ofW l (is[k]))])) (by (try dsimp only); exact ⟨(by first | exact lt_k | omega), (by rw [← List.take_append_getElem (show k < is.length by omega), List.map_append, ho]; rfl)⟩) (by first | omega | (simp only; omega)) (by repeat (first | exact trivial | refine ⟨rfl, ?_⟩)) wok_sub
  · have eq_k : k = n2 := by have h9 := of_decide_eq_false h1; omega
    have eq_k : k = n2 := by have h9 := of_decide_eq_false h1; omega
    refine g_exit ?_
    refine g_then_x (g_then_x (g_blk_hit ?_))
    refine g_then ?_
    refine g_seq ?_
    refine g_region ?_
    refine s_q (q_move rfl) rfl ?_
    refine g_op (g_pure rfl (fun w1 hw1 => radd_any B (o.length) (bc) (o) w1 (Rdb.toOld (InRow.rdb (A := B) (els := (o).map (fun v : Int => [Value.int .u64 v])) (by first | rfl | assumption | (simp; done) | (simp_all; done) | (simp; omega) | (simp_all; omega)) (map_cat (c := (fun v : Int => [Value.int .u64 v])) (fun _ => rfl) _)) hw1) (by rw [ho]; exact okU_map hl) (by first | omega | (simp; omega) | (simp; done))) rfl ?_)
    refine s_q (q_extract rfl rfl) rfl ?_
    refine s_q (q_extract rfl rfl) rfl ?_
    refine s_q (q_assign rfl) rfl ?_
    refine s_q (q_assign rfl) rfl ?_
    refine g_nil ?_
    refine g_then ?_
    refine g_ret ?_
    exact fin2 rfl (.tmp rfl) (.tmp rfl) (fun w' hw' => ⟨by have e8 : o = is.map (ofW l) := (by rw [ho, eq_k, e2, List.take_length]); rw [e8], hw'.upd⟩) _ (.inl rfl)
end Go.Proofs.Ytjfncbgggfammaa
