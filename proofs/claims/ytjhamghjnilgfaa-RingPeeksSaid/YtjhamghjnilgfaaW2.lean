/- walks of alive and Equal -/
import Derived.Test.YtjhamghjnilgfaaW1
namespace Go.Proofs.Ytjhamghjnilgfaa
open Go.RowKit Go.Eg
set_option linter.unusedSimpArgs false
set_option linter.unusedVariables false
set_option maxHeartbeats 400000 in
theorem alive_any  (w : World)  : Pur Try.prog 9 [] w (.bool true) := by
  refine g_start Try.func9 rfl 35 rfl (by simp) ([]) [] (WOK.start _ _) _ rfl ?_
  refine g_seq ?_
  refine g_region ?_
  refine s_q (q_assign rfl) rfl ?_
  refine g_nil ?_
  refine g_then ?_
  refine g_seq ?_
  refine g_region ?_
  refine g_op (g_ownS [] rfl (fun w1 hw1 ho1 => by have h7 := new_i (2) w1 (by omega); exact h7) rfl ?_)
  rintro ⟨b5, g5⟩ ⟨r5, s5⟩
  refine ⟨_, _, inferInstance, inferInstance, ?_⟩
  simp only at r5 s5
  refine s_q (q_assign rfl) rfl ?_
  refine g_nil ?_
  refine g_then ?_
  refine g_seq ?_
  refine g_seq ?_
  refine g_region ?_
  refine s_q (q_move rfl) rfl ?_
  refine s_q (q_eqp (b := false) rfl rfl rfl) rfl ?_
  refine g_nil ?_
  refine g_then ?_
  refine g_false rfl ?_
  refine g_skip ?_
  refine g_then ?_
  refine g_seq ?_
  refine g_region ?_
  refine s_q (q_move rfl) rfl ?_
  refine g_op (g_lit rfl rfl rfl rfl rfl fun b9 => ?_)
  refine g_blkc (b := b9) ((([1, 2, 3] : List Int).map (fun v : Int => [Value.int .i64 v])).flatten) rfl ?_
  refine g_op (g_ownS [Res.blk b5 61 (Rg.c g5), Res.row (Rg.A g5) (Rg.s g5).length (Rg.cap g5) 3 1 (Rg.s g5)] rfl (fun w1 hw1 ho1 => by have h7 := push_i b5 g5 ([] : List Int) [1, 2, 3] (some ⟨b9, 0, none⟩) 3 w1 ho1 r5 (Rd.ofBlk (b := b9) hw1 rfl (by simp) rfl) (by simp); exact h7) rfl ?_)
  rintro g10 ⟨r10, s10⟩
  refine ⟨_, _, inferInstance, inferInstance, ?_⟩
  refine s_q (q_assign rfl) rfl ?_
  refine g_nil ?_
  refine g_then ?_
  refine g_seq ?_
  refine g_region ?_
  refine s_q (q_move rfl) rfl ?_
  refine g_op (g_ownS [Res.blk b5 61 (Rg.c g10), Res.row (Rg.A g10) (Rg.s g10).length (Rg.cap g10) 3 1 (Rg.s g10)] rfl (fun w1 hw1 ho1 => by have h7 := pop_i b5 g10 (([] : List Int) ++ ([1, 2, 3] : List Int).take (min ([1, 2, 3] : List Int).length (Rg.size g5 - (([] : List Int)).length))) w1 ho1 r10; exact h7) rfl ?_)
  rintro g13 ⟨r13, s13⟩
  refine ⟨_, _, inferInstance, inferInstance, ?_⟩
  refine s_q (q_move rfl) rfl ?_
  refine s_q (q_extract rfl rfl) rfl ?_
  refine s_q (q_extract rfl rfl) rfl ?_
  refine s_q (q_assign rfl) rfl ?_
  refine s_q (q_assign rfl) rfl ?_
  refine g_nil ?_
  refine g_then ?_
  refine g_seq ?_
  refine g_region ?_
  refine s_q (q_move rfl) rfl ?_
  refine s_q (q_eql rfl rfl) rfl ?_
  refine s_q (q_move rfl) rfl ?_
  refine g_split 18 rfl (fun h1 => ?_) (fun h1 => ?_)
  · refine s_qg (q_move rfl) rfl rfl rfl ?_
    refine s_qg (q_eql rfl rfl) rfl rfl rfl ?_
    refine s_q (q_pick_t rfl rfl) rfl ?_
    refine s_q (q_move rfl) rfl ?_
    refine g_split 22 rfl (fun h2 => ?_) (fun h2 => ?_)
    · refine s_qg (q_move rfl) rfl rfl rfl ?_
      refine s_q (q_pick_t rfl rfl) rfl ?_
      refine s_q (q_move rfl) rfl ?_
      refine g_split 25 rfl (fun h3 => ?_) (fun h3 => ?_)
      · refine s_qg (q_move rfl) rfl rfl rfl ?_
        refine g_gt rfl rfl (g_keep [Res.blk b5 61 (Rg.c g13), Res.row (Rg.A g13) (Rg.s g13).length (Rg.cap g13) 3 1 (Rg.s g13)] rfl (fun w1 hw1 ho1 => by exact len_i b5 g13 (([] : List Int) ++ ([1, 2, 3] : List Int).take (min ([1, 2, 3] : List Int).length (Rg.size g5 - (([] : List Int)).length))).tail w1 ho1 r13) rfl ?_)
        refine s_qg (q_eql rfl rfl) rfl rfl rfl ?_
        refine s_q (q_pick_t rfl rfl) rfl ?_
        refine s_q (q_move rfl) rfl ?_
        refine g_split 30 rfl (fun h4 => ?_) (fun h4 => ?_)
        · refine s_qg (q_move rfl) rfl rfl rfl ?_
          refine g_gt rfl rfl (g_keep [Res.blk b5 61 (Rg.c g13), Res.row (Rg.A g13) (Rg.s g13).length (Rg.cap g13) 3 1 (Rg.s g13)] rfl (fun w1 hw1 ho1 => by exact free_i b5 g13 (([] : List Int) ++ ([1, 2, 3] : List Int).take (min ([1, 2, 3] : List Int).length (Rg.size g5 - (([] : List Int)).length))).tail w1 ho1 r13) rfl ?_)
          refine s_qg (q_eql rfl rfl) rfl rfl rfl ?_
          refine s_q (q_pick_t rfl rfl) rfl ?_
          refine s_q (q_assign rfl) rfl ?_
          refine g_nil ?_
          refine g_then ?_
          refine g_ret ?_
          exact fin1 rfl (.tmp rfl) (fun w' hw' => ⟨by first | rfl | (simp_all; done) | (simp_all; omega), hw'.upd⟩) _ (.inl rfl)
        · refine g_gf rfl rfl rfl rfl ?_
          refine g_gf rfl rfl rfl rfl ?_
          refine g_gf rfl rfl rfl rfl ?_
          refine s_q (q_pick_f rfl rfl) rfl ?_
          refine s_q (q_assign rfl) rfl ?_
          refine g_nil ?_
          refine g_then ?_
          refine g_ret ?_
          exact fin1 rfl (.tmp rfl) (fun w' hw' => ⟨by first | rfl | (simp_all; done) | (simp_all; omega), hw'.upd⟩) _ (.inl rfl)
      · refine g_gf rfl rfl rfl rfl ?_
        refine g_gf rfl rfl rfl rfl ?_
        refine g_gf rfl rfl rfl rfl ?_
        refine s_q (q_pick_f rfl rfl) rfl ?_
        refine s_q (q_move rfl) rfl ?_
        refine g_gf rfl rfl rfl rfl ?_
        refine g_gf rfl rfl rfl rfl ?_
        refine g_gf rfl rfl rfl rfl ?_
        refine s_q (q_pick_f rfl rfl) rfl ?_
        refine s_q (q_assign rfl) rfl ?_
        refine g_nil ?_
        refine g_then ?_
        refine g_ret ?_
        exact fin1 rfl (.tmp rfl) (fun w' hw' => ⟨by first | rfl | (simp_all; done) | (simp_all; omega), hw'.upd⟩) _ (.inl rfl)
    · refine g_gf rfl rfl rfl rfl ?_
      refine s_q (q_pick_f rfl rfl) rfl ?_
      refine s_q (q_move rfl) rfl ?_
      refine g_gf rfl rfl rfl rfl ?_
      refine g_gf rfl rfl rfl rfl ?_
      refine g_gf rfl rfl rfl rfl ?_
      refine s_q (q_pick_f rfl rfl) rfl ?_
      refine s_q (q_move rfl) rfl ?_
      refine g_gf rfl rfl rfl rfl ?_
      refine g_gf rfl rfl rfl rfl ?_
      refine g_gf rfl rfl rfl rfl ?_
      refine s_q (q_pick_f rfl rfl) rfl ?_
      refine s_q (q_assign rfl) rfl ?_
      refine g_nil ?_
      refine g_then ?_
      refine g_ret ?_
      exact fin1 rfl (.tmp rfl) (fun w' hw' => ⟨by first | rfl | (simp_all; done) | (simp_all; omega), hw'.upd⟩) _ (.inl rfl)
  · refine g_gf rfl rfl rfl rfl ?_
    refine g_gf rfl rfl rfl rfl ?_
    refine s_q (q_pick_f rfl rfl) rfl ?_
    refine s_q (q_move rfl) rfl ?_
    refine g_gf rfl rfl rfl rfl ?_
    refine s_q (q_pick_f rfl rfl) rfl ?_
    refine s_q (q_move rfl) rfl ?_
    refine g_gf rfl rfl rfl rfl ?_
    refine g_gf rfl rfl rfl rfl ?_
    refine g_gf rfl rfl rfl rfl ?_
    refine s_q (q_pick_f rfl rfl) rfl ?_
    refine s_q (q_move rfl) rfl ?_
    refine g_gf rfl rfl rfl rfl ?_
    refine g_gf rfl rfl rfl rfl ?_
    refine g_gf rfl rfl rfl rfl ?_
    refine s_q (q_pick_f rfl rfl) rfl ?_
    refine s_q (q_assign rfl) rfl ?_
    refine g_nil ?_
    refine g_then ?_
    refine g_ret ?_
    exact fin1 rfl (.tmp rfl) (fun w' hw' => ⟨by first | rfl | (simp_all; done) | (simp_all; omega), hw'.upd⟩) _ (.inl rfl)

set_option maxHeartbeats 400000 in
theorem equal_i (A B : Option Addr) (n1 n2 cap1 cap2 : Nat) (l1 l2 : List Int) (w : World) (ha : Old w A n1 1 (l1.map (fun v : Int => [Value.int .i64 v]))) (hb : Old w B n2 1 (l2.map (fun v : Int => [Value.int .i64 v]))) (hc1 : n1 ≤ 1152921504606846976) : Pur Try.prog 15 [.slice A n1 cap1, .slice B n2 cap2] w (.bool (decide (l1 = l2))) := by
  refine g_start Try.func15 rfl 26 rfl (by simp) ([]) [] (WOK.start _ _) _ rfl ?_
  have e1 : n1 = l1.length := by simpa using ha.len
  have e2 : n2 = l2.length := by simpa using hb.len
  refine g_seq ?_
  refine g_region ?_
  refine s_q (q_assign rfl) rfl ?_
  refine g_nil ?_
  refine g_then ?_
  refine g_seq ?_
  refine g_seq ?_
  refine g_region ?_
  refine s_q (q_move rfl) rfl ?_
  refine s_q (q_len rfl) rfl ?_
  refine s_q (q_move rfl) rfl ?_
  refine s_q (q_len rfl) rfl ?_
  refine s_q (q_neq rfl rfl) rfl ?_
  refine g_nil ?_
  refine g_then ?_
  refine g_cond rfl (fun h1 => ?_) (fun h1 => ?_)
  · refine g_seq ?_
    refine g_region ?_
    refine s_q (q_assign rfl) rfl ?_
    refine g_nil ?_
    refine g_then ?_
    refine g_ret ?_
    refine g_then_ret ?_
    exact fin1 rfl (.tmp rfl) (fun w' hw' => ⟨by rw [decide_eq_false (fun e => by subst e; simp at h1; omega)], hw'.upd⟩) _ (.inl rfl)
  · have hn : n1 = n2 := by simp at h1; omega
    refine g_skip ?_
    refine g_then ?_
    refine g_seq ?_
    refine g_seq ?_
    refine g_region ?_
    refine s_q (q_move rfl) rfl ?_
    refine s_q (q_len rfl) rfl ?_
    refine s_q (q_move rfl) rfl ?_
    refine g_nil ?_
    refine g_then ?_
    refine g_block ?_
    refine g_loopk [0, 1, 4, 12] (fun (x : Nat) => [(13, .int .i64 ((x : Nat) : Int))]) (fun (x : Nat) => []) (fun (x : Nat) => x ≤ n1 ∧ (∀ j, j < x → l1[j]? = l2[j]?)) (fun (x : Nat) => n1 - x) 0 (by (try dsimp only); exact ⟨Nat.zero_le _, (fun j hj => absurd hj (Nat.not_lt_zero _))⟩) rfl (by repeat (first | exact trivial | refine ⟨rfl, ?_⟩)) wok_sub ?_
    rintro k ⟨le_k, pre⟩
    replace le_k : k ≤ n1 := le_k
    replace pre : ∀ j, j < k → l1[j]? = l2[j]? := pre
    refine g_seq ?_
    refine g_region ?_
    refine s_q (q_lss rfl rfl) rfl ?_
    refine g_nil ?_
    refine g_then ?_
    refine g_seq ?_
    refine g_cond rfl (fun h2 => ?_) (fun h2 => ?_)
    · have lt_k : k < n1 := by have h9 := of_decide_eq_true h2; omega
      have lk1 : k < l1.length := by omega
      have lk2 : k < l2.length := by omega
      refine g_skip ?_
      refine g_then ?_
      refine g_seq ?_
      refine g_block ?_
      refine g_seq ?_
      refine g_region ?_
      refine s_q (q_move rfl) rfl ?_
      refine s_q (q_assign rfl) rfl ?_
      refine g_nil ?_
      refine g_then ?_
      refine g_seq ?_
      refine d_region [] mixed rfl rfl ?_
      refine d_q 0 rfl (by kernel_rfl) (q_move rfl) wok_sub rfl (ls' := #[true, false, false, false, false, false, false, false, false]) rfl ?_
      refine d_q 1 rfl (by kernel_rfl) (q_move rfl) wok_sub rfl (ls' := #[true, true, false, false, false, false, false, false, false]) rfl ?_
      refine d_q 2 rfl (by kernel_rfl) (q_index (i := k) rfl rfl rfl (ha.rdb rfl) (by first | exact lt_k | omega)) wok_sub rfl (ls' := #[true, true, true, false, false, false, false, false, false]) rfl ?_
      refine d_q 3 rfl (by kernel_rfl) (q_load_el (i := k) (o := 0) rfl (ha.rdb rfl) (map_get (by first | exact (by first | exact lt_k | omega) | omega | (simp_all; done) | (simp_all; omega))) rfl rfl) wok_sub rfl (ls' := #[true, true, true, true, false, false, false, false, false]) rfl ?_
      refine d_q 4 rfl (by kernel_rfl) (q_move rfl) wok_sub rfl (ls' := #[true, true, true, true, true, false, false, false, false]) rfl ?_
      refine d_q 5 rfl (by kernel_rfl) (q_move rfl) wok_sub rfl (ls' := #[true, true, true, true, true, true, false, false, false]) rfl ?_
      refine d_q 6 rfl (by kernel_rfl) (q_index (i := k) rfl rfl rfl (hb.rdb rfl) (by first | exact lt_k | omega)) wok_sub rfl (ls' := #[true, true, true, true, true, true, true, false, false]) rfl ?_
      refine d_q 7 rfl (by kernel_rfl) (q_load_el (i := k) (o := 0) rfl (hb.rdb rfl) (map_get (by first | exact (by first | exact lt_k | omega) | omega | (simp_all; done) | (simp_all; omega))) rfl rfl) wok_sub rfl (ls' := #[true, true, true, true, true, true, true, true, false]) rfl ?_
      refine d_q 8 rfl (by kernel_rfl) (q_neq rfl rfl) wok_sub rfl (ls' := #[true, true, true, true, true, true, true, true, true]) rfl ?_
      refine d_end (by kernel_rfl) (.inr wok_sub) ?_
      refine g_then ?_
      refine g_cond rfl (fun h3 => ?_) (fun h3 => ?_)
      · refine g_seq ?_
        refine g_region ?_
        refine s_q (q_assign rfl) rfl ?_
        refine g_nil ?_
        refine g_then ?_
        refine g_ret ?_
        refine g_blk_ret (g_then_ret (g_then_ret (g_blk_ret (g_then_ret ?_))))
        exact fin1 rfl (.tmp rfl) (fun w' hw' => ⟨by rw [decide_eq_false (fun e => by subst e; simp at h3)], hw'.upd⟩) _ (.inl rfl)
      · refine g_skip ?_
        refine g_blk_n ?_
        refine g_then ?_
        refine g_region ?_
        refine s_q (q_inc rfl rfl (by omega)) rfl ?_
        refine s_q (q_move rfl) rfl ?_
        refine g_nil ?_
        exact g_again (k + 1) (by (try dsimp only); exact ⟨(by first | exact lt_k | omega), (pre_succ pre (by rw [List.getElem?_eq_getElem (by omega), List.getElem?_eq_getElem (by omega)]; exact congrArg some (by simpa using h3)))⟩) (by first | omega | (simp only; omega)) (by repeat (first | exact trivial | refine ⟨rfl, ?_⟩)) wok_sub
    · have eq_k : k = n1 := by have h9 := of_decide_eq_false h2; omega
      refine g_exit ?_
      refine g_then_x (g_then_x (g_blk_hit ?_))
      refine g_then ?_
      refine g_seq ?_
      refine g_region ?_
      refine s_q (q_assign rfl) rfl ?_
      refine g_nil ?_
      refine g_then ?_
      refine g_ret ?_
      exact fin1 rfl (.tmp rfl) (fun w' hw' => ⟨by rw [decide_eq_true (pre_all pre (by omega) (by omega))], hw'.upd⟩) _ (.inl rfl)
end Go.Proofs.Ytjhamghjnilgfaa
