/- a nil ring -/
import Derived.Test.YtjfncbgggfammaaW1
namespace Go.Proofs.Ytjfncbgggfammaa
open Go.RowKit Go.Eg
set_option synthInstance.maxSize 3000
set_option linter.unusedSimpArgs false
set_option linter.unusedVariables false
set_option maxRecDepth 100000
set_option maxHeartbeats 400000 in
theorem lenN_i  (w : World)  : Pur Try.prog 15 [.pointer none] w (.int .i64 0) := by
  refine g_start Try.func15 rfl 9 rfl (by simp) ([]) [] (WOK.start _ _) _ rfl ?_
  refine g_seq ?_
  refine g_region ?_
  refine s_q (q_assign rfl) rfl ?_
  refine g_nil ?_
  refine g_then ?_
  refine g_seq ?_
  refine g_seq ?_
  refine g_region ?_
  refine s_q (q_move rfl) rfl ?_
  refine s_q (q_eqp (b := true) rfl rfl rfl) rfl ?_
  refine g_nil ?_
  refine g_then ?_
  refine g_true rfl ?_
  refine g_seq ?_
  refine g_region ?_
  refine s_q (q_assign rfl) rfl ?_
  refine g_nil ?_
  refine g_then ?_
  refine g_ret ?_
  refine g_then_ret ?_
  exact fin1 rfl (.tmp rfl) (fun w' hw' => ⟨by rfl, hw'.upd⟩) _ (.inl rfl)

set_option maxHeartbeats 400000 in
theorem freeN_i  (w : World)  : Pur Try.prog 29 [.pointer none] w (.int .i64 0) := by
  refine g_start Try.func29 rfl 14 rfl (by simp) ([]) [] (WOK.start _ _) _ rfl ?_
  refine g_seq ?_
  refine g_region ?_
  refine s_q (q_assign rfl) rfl ?_
  refine g_nil ?_
  refine g_then ?_
  refine g_seq ?_
  refine g_seq ?_
  refine g_region ?_
  refine s_q (q_move rfl) rfl ?_
  refine s_q (q_eqp (b := true) rfl rfl rfl) rfl ?_
  refine g_nil ?_
  refine g_then ?_
  refine g_true rfl ?_
  refine g_seq ?_
  refine g_region ?_
  refine s_q (q_assign rfl) rfl ?_
  refine g_nil ?_
  refine g_then ?_
  refine g_ret ?_
  refine g_then_ret ?_
  exact fin1 rfl (.tmp rfl) (fun w' hw' => ⟨by rfl, hw'.upd⟩) _ (.inl rfl)

set_option maxHeartbeats 400000 in
theorem peekN_i (i : Int) (w : World)  : Pur Try.prog 24 [.pointer none, .int .i64 i] w (.tuple [.int .i64 0, .bool false].toArray) := by
  refine g_start Try.func24 rfl 34 rfl (by simp) ([]) [] (WOK.start _ _) _ rfl ?_
  refine g_seq ?_
  refine g_region ?_
  refine s_q (q_assign rfl) rfl ?_
  refine s_q (q_assign rfl) rfl ?_
  refine g_nil ?_
  refine g_then ?_
  refine g_seq ?_
  refine g_region ?_
  refine s_q (q_assign rfl) rfl ?_
  refine g_nil ?_
  refine g_then ?_
  refine g_seq ?_
  refine g_seq ?_
  refine g_region ?_
  refine s_q (q_move rfl) rfl ?_
  refine s_q (q_lss rfl rfl) rfl ?_
  refine s_q (q_move rfl) rfl ?_
  refine g_split 9 rfl (fun h1 => ?_) (fun h1 => ?_)
  · refine g_gf rfl rfl rfl rfl ?_
    refine g_gf rfl rfl rfl rfl ?_
    refine g_gf rfl rfl rfl rfl ?_
    refine g_gf rfl rfl rfl rfl ?_
    refine s_q (q_pick_t rfl rfl) rfl ?_
    refine g_nil ?_
    refine g_then ?_
    refine g_true rfl ?_
    refine g_seq ?_
    refine g_region ?_
    refine s_q (q_move rfl) rfl ?_
    refine s_q (q_assign rfl) rfl ?_
    refine s_q (q_assign rfl) rfl ?_
    refine g_nil ?_
    refine g_then ?_
    refine g_ret ?_
    refine g_then_ret ?_
    exact fin2 rfl (.tmp rfl) (.tmp rfl) (fun w' hw' => ⟨by rfl, hw'.upd⟩) _ (.inl rfl)
  · refine s_qg (q_move rfl) rfl rfl rfl ?_
    refine s_qg (q_move rfl) rfl rfl rfl ?_
    refine g_gt rfl rfl (g_pure rfl (fun w1 hw1 => lenN_i w1) rfl ?_)
    refine s_qg (q_geq rfl rfl) rfl rfl rfl ?_
    refine s_q (q_pick_f rfl rfl) rfl ?_
    refine g_nil ?_
    refine g_then ?_
    refine g_cond rfl (fun h2 => ?_) (fun h2 => ?_)
    · refine g_seq ?_
      refine g_region ?_
      refine s_q (q_move rfl) rfl ?_
      refine s_q (q_assign rfl) rfl ?_
      refine s_q (q_assign rfl) rfl ?_
      refine g_nil ?_
      refine g_then ?_
      refine g_ret ?_
      refine g_then_ret ?_
      exact fin2 rfl (.tmp rfl) (.tmp rfl) (fun w' hw' => ⟨by rfl, hw'.upd⟩) _ (.inl rfl)
    · exfalso; simp at h1 h2; omega

set_option maxHeartbeats 400000 in
theorem popN_i  (w : World)  : Pur Try.prog 23 [.pointer none] w (.tuple [.int .i64 0, .bool false].toArray) := by
  refine g_start Try.func23 rfl 46 rfl (by simp) ([]) [] (WOK.start _ _) _ rfl ?_
  refine g_seq ?_
  refine g_region ?_
  refine s_q (q_assign rfl) rfl ?_
  refine s_q (q_assign rfl) rfl ?_
  refine g_nil ?_
  refine g_then ?_
  refine g_seq ?_
  refine g_region ?_
  refine s_q (q_move rfl) rfl ?_
  refine g_op (g_pure rfl (fun w1 hw1 => peekN_i _ w1) rfl ?_)
  refine s_q (q_move rfl) rfl ?_
  refine s_q (q_extract rfl rfl) rfl ?_
  refine s_q (q_extract rfl rfl) rfl ?_
  refine s_q (q_assign rfl) rfl ?_
  refine s_q (q_assign rfl) rfl ?_
  refine g_nil ?_
  refine g_then ?_
  refine g_seq ?_
  refine g_seq ?_
  refine g_region ?_
  refine s_q (q_move rfl) rfl ?_
  refine g_nil ?_
  refine g_then ?_
  refine g_false rfl ?_
  refine g_skip ?_
  refine g_then ?_
  refine g_seq ?_
  refine g_region ?_
  refine s_q (q_move rfl) rfl ?_
  refine s_q (q_move rfl) rfl ?_
  refine s_q (q_assign rfl) rfl ?_
  refine s_q (q_assign rfl) rfl ?_
  refine g_nil ?_
  refine g_then ?_
  refine g_ret ?_
  exact fin2 rfl (.tmp rfl) (.tmp rfl) (fun w' hw' => ⟨by rfl, hw'.upd⟩) _ (.inl rfl)

set_option maxHeartbeats 400000 in
theorem pushN_i (A : Option Addr) (n cap : Nat) (w : World)  : Pur Try.prog 20 [.pointer none, .slice A n cap] w (.int .i64 0) := by
  refine g_start Try.func20 rfl 53 rfl (by simp) ([]) [] (WOK.start _ _) _ rfl ?_
  refine g_seq ?_
  refine g_region ?_
  refine s_q (q_assign rfl) rfl ?_
  refine g_nil ?_
  refine g_then ?_
  refine g_seq ?_
  refine g_region ?_
  refine s_q (q_move rfl) rfl ?_
  refine s_q (q_len rfl) rfl ?_
  refine s_q (q_move rfl) rfl ?_
  refine g_op (g_pure rfl (fun w1 hw1 => freeN_i w1) rfl ?_)
  refine s_q (q_min rfl rfl) rfl ?_
  refine s_q (q_assign rfl) rfl ?_
  refine g_val 5 (v' := .int .i64 ((0 : Nat) : Int)) rfl (by simp; omega) ?_
  refine g_nil ?_
  refine g_then ?_
  refine g_seq ?_
  refine g_seq ?_
  refine g_region ?_
  refine s_q (q_move rfl) rfl ?_
  refine s_q (q_move rfl) rfl ?_
  refine s_q (q_slice_h (h := 0) rfl rfl rfl (by omega)) rfl ?_
  refine s_q (q_len rfl) rfl ?_
  refine s_q (q_move rfl) rfl ?_
  refine g_nil ?_
  refine g_then ?_
  refine g_block ?_
  refine g_loopk [0, 4, 5, 15, 16] (fun (x : Nat) => [(17, .int .i64 ((x : Nat) : Int))]) (fun (x : Nat) => []) (fun (x : Nat) => x ≤ 0) (fun (x : Nat) => 0 - x) 0 (by (try dsimp only); exact Nat.zero_le _) rfl (by repeat (first | exact trivial | refine ⟨rfl, ?_⟩)) wok_sub ?_
  rintro k le_k
  replace le_k : k ≤ 0 := le_k
  refine g_seq ?_
  refine g_region ?_
  refine s_q (q_lss rfl rfl) rfl ?_
  refine g_nil ?_
  refine g_then ?_
  refine g_seq ?_
  refine g_cond rfl (fun h1 => ?_) (fun h1 => ?_)
  · have lt_k : k < 0 := by have h9 := of_decide_eq_true h1; omega
    exfalso; omega
  · have eq_k : k = 0 := by have h9 := of_decide_eq_false h1; omega
    refine g_exit ?_
    refine g_then_x (g_then_x (g_blk_hit ?_))
    refine g_then ?_
    refine g_seq ?_
    refine g_region ?_
    refine s_q (q_move rfl) rfl ?_
    refine s_q (q_assign rfl) rfl ?_
    refine g_nil ?_
    refine g_then ?_
    refine g_ret ?_
    exact fin1 rfl (.tmp rfl) (fun w' hw' => ⟨by rfl, hw'.upd⟩) _ (.inl rfl)

set_option maxHeartbeats 400000 in
theorem allN_i  (w : World)  : Pur Try.prog 14 [.pointer none] w (.slice none 0 0) := by
  refine g_start Try.func14 rfl 24 rfl (by simp) ([]) [] (WOK.start _ _) _ rfl ?_
  refine g_seq ?_
  refine g_region ?_
  refine s_q (q_assign rfl) rfl ?_
  refine g_nil ?_
  refine g_then ?_
  refine g_seq ?_
  refine g_region ?_
  refine s_q (q_assign rfl) rfl ?_
  refine g_nil ?_
  refine g_then ?_
  refine g_seq ?_
  refine g_seq ?_
  refine g_region ?_
  refine s_q (q_move rfl) rfl ?_
  refine g_op (g_pure rfl (fun w1 hw1 => lenN_i w1) rfl ?_)
  refine s_q (q_move rfl) rfl ?_
  refine g_nil ?_
  refine g_then ?_
  refine g_block ?_
  refine g_loopk [0, 2, 8] (fun (x : Nat) => [(3, .slice none 0 0), (9, .int .i64 ((x : Nat) : Int))]) (fun (x : Nat) => []) (fun (x : Nat) => x ≤ 0) (fun (x : Nat) => 0 - x) 0 (by (try dsimp only); exact Nat.zero_le _) rfl (by repeat (first | exact trivial | refine ⟨rfl, ?_⟩)) wok_sub ?_
  rintro k le_k
  replace le_k : k ≤ 0 := le_k
  refine g_seq ?_
  refine g_region ?_
  refine s_q (q_lss rfl rfl) rfl ?_
  refine g_nil ?_
  refine g_then ?_
  refine g_seq ?_
  refine g_cond rfl (fun h1 => ?_) (fun h1 => ?_)
  · have lt_k : k < 0 := by have h9 := of_decide_eq_true h1; omega
    exfalso; omega
  · have eq_k : k = 0 := by have h9 := of_decide_eq_false h1; omega
    refine g_exit ?_
    refine g_then_x (g_then_x (g_blk_hit ?_))
    refine g_then ?_
    refine g_seq ?_
    refine g_region ?_
    refine s_q (q_move rfl) rfl ?_
    refine s_q (q_assign rfl) rfl ?_
    refine g_nil ?_
    refine g_then ?_
    refine g_ret ?_
    exact fin1 rfl (.tmp rfl) (fun w' hw' => ⟨by rfl, hw'.upd⟩) _ (.inl rfl)

set_option maxHeartbeats 400000 in
theorem equal_i (A B : Option Addr) (n1 n2 cap1 cap2 : Nat) (l1 l2 : List Int) (w : World) (ha : Old w A n1 1 (l1.map (fun v : Int => [Value.int .i64 v]))) (hb : Old w B n2 1 (l2.map (fun v : Int => [Value.int .i64 v]))) (hc1 : n1 ≤ 9223372036854775807) : Pur Try.prog 13 [.slice A n1 cap1, .slice B n2 cap2] w (.bool (decide (l1 = l2))) := by
  refine g_start Try.func13 rfl 26 rfl (by simp) ([]) [] (WOK.start _ _) _ rfl ?_
  have e1 : n1 = l1.length := by simpa using ha.len
  have e2 : n2 = l2.length := by simpa using hb.len
  refine g_seq ?_
  refine g_region ?_
  refine s_q (q_assign rfl) rfl ?_
  refine g_nil ?_
  refine g_then ?_
  refine g_seq ?_
  refine g_seq ?_
  refine g_region ?_
  refine s_q (q_move rfl) rfl ?_
  refine s_q (q_len rfl) rfl ?_
  refine s_q (q_move rfl) rfl ?_
  refine s_q (q_len rfl) rfl ?_
  refine s_q (q_neq rfl rfl) rfl ?_
  refine g_nil ?_
  refine g_then ?_
  refine g_cond rfl (fun h1 => ?_) (fun h1 => ?_)
  · refine g_seq ?_
    refine g_region ?_
    refine s_q (q_assign rfl) rfl ?_
    refine g_nil ?_
    refine g_then ?_
    refine g_ret ?_
    refine g_then_ret ?_
    exact fin1 rfl (.tmp rfl) (fun w' hw' => ⟨by rw [decide_eq_false (fun e => by subst e; simp at h1; omega)], hw'.upd⟩) _ (.inl rfl)
  · have hn : n1 = n2 := by simp at h1; omega
    refine g_skip ?_
    refine g_then ?_
    refine g_seq ?_
    refine g_seq ?_
    refine g_region ?_
    refine s_q (q_move rfl) rfl ?_
    refine s_q (q_len rfl) rfl ?_
    refine s_q (q_move rfl) rfl ?_
    refine g_nil ?_
    refine g_then ?_
    refine g_block ?_
    refine g_loopk [0, 1, 4, 12] (fun (x : Nat) => [(13, .int .i64 ((x : Nat) : Int))]) (fun (x : Nat) => []) (fun (x : Nat) => x ≤ n1 ∧ (∀ j, j < x → l1[j]? = l2[j]?)) (fun (x : Nat) => n1 - x) 0 (by (try dsimp only); exact ⟨Nat.zero_le _, (fun j hj => absurd hj (Nat.not_lt_zero _))⟩) rfl (by repeat (first | exact trivial | refine ⟨rfl, ?_⟩)) wok_sub ?_
    rintro k ⟨le_k, pre⟩
    replace le_k : k ≤ n1 := le_k
    replace pre : ∀ j, j < k → l1[j]? = l2[j]? := pre
    refine g_seq ?_
    refine g_region ?_
    refine s_q (q_lss rfl rfl) rfl ?_
    refine g_nil ?_
    refine g_then ?_
    refine g_seq ?_
    refine g_cond rfl (fun h2 => ?_) (fun h2 => ?_)
    · have lt_k : k < n1 := by have h9 := of_decide_eq_true h2; omega
      have lk1 : k < l1.length := by omega
      have lk2 : k < l2.length := by omega
      refine g_skip ?_
      refine g_then ?_
      refine g_seq ?_
      refine g_block ?_
      refine g_seq ?_
      refine g_region ?_
      refine s_q (q_move rfl) rfl ?_
      refine s_q (q_assign rfl) rfl ?_
      refine g_nil ?_
      refine g_then ?_
      refine g_seq ?_
      refine d_region [] mixed rfl rfl ?_
      refine d_q 0 rfl (by kernel_rfl) (q_move rfl) wok_sub rfl (ls' := #[true, false, false, false, false, false, false, false, false]) rfl ?_
      refine d_q 1 rfl (by kernel_rfl) (q_move rfl) wok_sub rfl (ls' := #[true, true, false, false, false, false, false, false, false]) rfl ?_
      refine d_q 2 rfl (by kernel_rfl) (q_index (i := k) rfl rfl rfl (ha.rdb rfl) (by first | exact lt_k | omega)) wok_sub rfl (ls' := #[true, true, true, false, false, false, false, false, false]) rfl ?_
      refine d_q 3 rfl (by kernel_rfl) (q_load_el (i := k) (o := 0) rfl (ha.rdb rfl) (map_get (by first | exact (by first | exact lt_k | omega) | omega | (simp_all; done) | (simp_all; omega))) rfl rfl) wok_sub rfl (ls' := #[true, true, true, true, false, false, false, false, false]) rfl ?_
      refine d_q 4 rfl (by kernel_rfl) (q_move rfl) wok_sub rfl (ls' := #[true, true, true, true, true, false, false, false, false]) rfl ?_
      refine d_q 5 rfl (by kernel_rfl) (q_move rfl) wok_sub rfl (ls' := #[true, true, true, true, true, true, false, false, false]) rfl ?_
      refine d_q 6 rfl (by kernel_rfl) (q_index (i := k) rfl rfl rfl (hb.rdb rfl) (by first | exact lt_k | omega)) wok_sub rfl (ls' := #[true, true, true, true, true, true, true, false, false]) rfl ?_
      refine d_q 7 rfl (by kernel_rfl) (q_load_el (i := k) (o := 0) rfl (hb.rdb rfl) (map_get (by first | exact (by first | exact lt_k | omega) | omega | (simp_all; done) | (simp_all; omega))) rfl rfl) wok_sub rfl (ls' := #[true, true, true, true, true, true, true, true, false]) rfl ?_
      refine d_q 8 rfl (by kernel_rfl) (q_neq rfl rfl) wok_sub rfl (ls' := #[true, true, true, true, true, true, true, true, true]) rfl ?_
      refine d_end (by kernel_rfl) (.inr wok_sub) ?_
      refine g_then ?_
      refine g_cond rfl (fun h3 => ?_) (fun h3 => ?_)
      · refine g_seq ?_
        refine g_region ?_
        refine s_q (q_assign rfl) rfl ?_
        refine g_nil ?_
        refine g_then ?_
        refine g_ret ?_
        refine g_blk_ret (g_then_ret (g_then_ret (g_blk_ret (g_then_ret ?_))))
        exact fin1 rfl (.tmp rfl) (fun w' hw' => ⟨by rw [decide_eq_false (fun e => by subst e; simp at h3)], hw'.upd⟩) _ (.inl rfl)
      · refine g_skip ?_
        refine g_blk_n ?_
        refine g_then ?_
        refine g_region ?_
        refine s_q (q_inc rfl rfl (by omega)) rfl ?_
        refine s_q (q_move rfl) rfl ?_
        refine g_nil ?_
        exact g_again (k + 1) (by (try dsimp only); exact ⟨(by first | exact lt_k | omega), (pre_succ pre (by rw [List.getElem?_eq_getElem (by omega), List.getElem?_eq_getElem (by omega)]; exact congrArg some (by simpa using h3)))⟩) (by first | omega | (simp only; omega)) (by repeat (first | exact trivial | refine ⟨rfl, ?_⟩)) wok_sub
    · have eq_k : k = n1 := by have h9 := of_decide_eq_false h2; omega
      refine g_exit ?_
      refine g_then_x (g_then_x (g_blk_hit ?_))
      refine g_then ?_
      refine g_seq ?_
      refine g_region ?_
      refine s_q (q_assign rfl) rfl ?_
      refine g_nil ?_
      refine g_then ?_
      refine g_ret ?_
      exact fin1 rfl (.tmp rfl) (fun w' hw' => ⟨by rw [decide_eq_true (pre_all pre (by omega) (by omega))], hw'.upd⟩) _ (.inl rfl)
end Go.Proofs.Ytjfncbgggfammaa
