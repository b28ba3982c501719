/- walks of same and the example -/
import Derived.Test.YtmolaicpbaiioaaWP
namespace Go.Proofs.Ytmolaicpbaiioaa
open Go.RowKit Go.Eg
set_option synthInstance.maxSize 3000
set_option linter.unusedSimpArgs false
set_option linter.unusedVariables false
set_option maxRecDepth 100000
set_option maxHeartbeats 400000 in
theorem same1_any (x y : As) (w : World)  : Pur Try.prog 52 [.agg x.cs.toArray, .agg y.cs.toArray] w (.bool (decide (x = y))) := by
  refine g_start Try.func52 rfl 8 rfl (by simp) ([]) [] (WOK.start _ _) _ rfl ?_
  refine g_seq ?_
  refine g_region ?_
  refine g_op (g_box rfl rfl rfl fun b2 => ?_)
  refine g_op (g_box rfl rfl rfl fun b3 => ?_)
  refine s_q (q_assign rfl) rfl ?_
  refine g_nil ?_
  refine g_then ?_
  refine g_seq ?_
  refine g_region ?_
  refine s_q (q_loadw rfl rfl) rfl ?_
  refine s_q (q_loadw rfl rfl) rfl ?_
  refine s_q (q_eqs rfl rfl rfl) rfl ?_
  refine s_q (q_assign rfl) rfl ?_
  refine g_nil ?_
  refine g_then ?_
  refine g_ret ?_
  exact fin1 rfl (.tmp rfl) (fun w' hw' => ⟨by simp [As.ext_iff', Bool.and_assoc], hw'.upd⟩) _ (.inl rfl)

set_option maxHeartbeats 400000 in
theorem eqf_any (A B : Option Addr) (n1 n2 cap1 cap2 : Nat) (l1 l2 : List As) (w : World) (ha : Old w A n1 3 (l1.map As.cs)) (hb : Old w B n2 3 (l2.map As.cs)) (hc1 : n1 ≤ 9223372036854775807) : Pur Try.prog 51 [.slice A n1 cap1, .slice B n2 cap2, .func (.func 52) #[] #[]] w (.bool (decide (l1 = l2))) := by
  refine g_start Try.func51 rfl 32 rfl (by simp) ([]) [] (WOK.start _ _) _ rfl ?_
  have e1 : n1 = l1.length := by simpa using ha.len
  have e2 : n2 = l2.length := by simpa using hb.len
  refine g_seq ?_
  refine g_region ?_
  refine s_q (q_assign rfl) rfl ?_
  refine g_nil ?_
  refine g_then ?_
  refine g_seq ?_
  refine g_seq ?_
  refine g_region ?_
  refine s_q (q_move rfl) rfl ?_
  refine s_q (q_len rfl) rfl ?_
  refine s_q (q_move rfl) rfl ?_
  refine s_q (q_len rfl) rfl ?_
  refine s_q (q_neq rfl rfl) rfl ?_
  refine g_nil ?_
  refine g_then ?_
  refine g_cond rfl (fun h1 => ?_) (fun h1 => ?_)
  · refine g_seq ?_
    refine g_region ?_
    refine s_q (q_assign rfl) rfl ?_
    refine g_nil ?_
    refine g_then ?_
    refine g_ret ?_
    refine g_then_ret ?_
    exact fin1 rfl (.tmp rfl) (fun w' hw' => ⟨by rw [decide_eq_false (fun e => by subst e; simp at h1; omega)], hw'.upd⟩) _ (.inl rfl)
  · have hn : n1 = n2 := by simp at h1; omega
    refine g_skip ?_
    refine g_then ?_
    refine g_seq ?_
    refine g_seq ?_
    refine g_region ?_
    refine s_q (q_move rfl) rfl ?_
    refine s_q (q_len rfl) rfl ?_
    refine s_q (q_move rfl) rfl ?_
    refine g_nil ?_
    refine g_then ?_
    refine g_block ?_
    refine g_loopk [1, 2, 6, 15, 16] (fun (x : Nat) => [(17, .int .i64 ((x : Nat) : Int))]) (fun (x : Nat) => []) (fun (x : Nat) => x ≤ n1 ∧ (∀ j, j < x → l1[j]? = l2[j]?)) (fun (x : Nat) => n1 - x) 0 (by (try dsimp only); exact ⟨Nat.zero_le _, (fun j hj => absurd hj (Nat.not_lt_zero _))⟩) rfl (by repeat (first | exact trivial | refine ⟨rfl, ?_⟩)) wok_sub ?_
    rintro k ⟨le_k, pre⟩
    replace le_k : k ≤ n1 := le_k
    replace pre : ∀ j, j < k → l1[j]? = l2[j]? := pre
    refine g_seq ?_
    refine g_region ?_
    refine s_q (q_lss rfl rfl) rfl ?_
    refine g_nil ?_
    refine g_then ?_
    refine g_seq ?_
    refine g_cond rfl (fun h2 => ?_) (fun h2 => ?_)
    · have lt_k : k < n1 := by have h9 := of_decide_eq_true h2; omega
      have lk1 : k < l1.length := by omega
      have lk2 : k < l2.length := by omega
      refine g_skip ?_
      refine g_then ?_
      refine g_seq ?_
      refine g_block ?_
      refine g_seq ?_
      refine g_region ?_
      refine s_q (q_move rfl) rfl ?_
      refine s_q (q_index (i := k) rfl rfl rfl (ha.rdb rfl) (by first | exact lt_k | omega)) rfl ?_
      refine s_q (q_load_ew (i := k) rfl (ha.rdb rfl) (map_get (by first | exact (by first | exact lt_k | omega) | omega | (simp_all; done) | (simp_all; omega))) rfl) rfl ?_
      refine g_op (g_alloc rfl fun b8 => ?_)
      refine s_q (q_assign rfl) rfl ?_
      refine g_op (g_storew rfl rfl rfl rfl rfl ?_)
      refine g_nil ?_
      refine g_then ?_
      refine g_seq ?_
      refine g_region ?_
      refine s_q (q_move rfl) rfl ?_
      refine s_q (q_move rfl) rfl ?_
      refine s_q (q_index (i := k) rfl rfl rfl (hb.rdb rfl) (by first | exact lt_k | omega)) rfl ?_
      refine s_q (q_load_ew (i := k) rfl (hb.rdb rfl) (map_get (by first | exact (by first | exact lt_k | omega) | omega | (simp_all; done) | (simp_all; omega))) rfl) rfl ?_
      refine g_op (g_alloc rfl fun b9 => ?_)
      refine g_op (g_storew rfl rfl rfl rfl rfl ?_)
      refine g_nil ?_
      refine g_then ?_
      refine g_seq ?_
      refine g_region ?_
      refine s_q (q_move rfl) rfl ?_
      refine s_q (q_loadw rfl rfl) rfl ?_
      refine s_q (q_loadw rfl rfl) rfl ?_
      refine g_op (g_purev (f := 52) (vs := [.agg (As.cs l1[k]).toArray, .agg (As.cs l2[k]).toArray]) rfl rfl (fun w1 hw1 => same1_any l1[k] l2[k] w1) rfl ?_)
      refine s_q (q_not rfl) rfl ?_
      refine g_nil ?_
      refine g_then ?_
      refine g_cond rfl (fun h3 => ?_) (fun h3 => ?_)
      · refine g_seq ?_
        refine g_region ?_
        refine s_q (q_assign rfl) rfl ?_
        refine g_nil ?_
        refine g_then ?_
        refine g_ret ?_
        refine g_blk_ret (g_then_ret (g_then_ret (g_blk_ret (g_then_ret ?_))))
        exact fin1 rfl (.tmp rfl) (fun w' hw' => ⟨by rw [decide_eq_false (fun e => by subst e; simp at h3)], hw'.upd⟩) _ (.inl rfl)
      · refine g_skip ?_
        refine g_blk_n ?_
        refine g_then ?_
        refine g_region ?_
        refine s_q (q_inc rfl rfl (by omega)) rfl ?_
        refine s_q (q_move rfl) rfl ?_
        refine g_nil ?_
        exact g_again (k + 1) (by (try dsimp only); exact ⟨(by first | exact lt_k | omega), (pre_succ pre (by rw [List.getElem?_eq_getElem (by omega), List.getElem?_eq_getElem (by omega)]; exact congrArg some (by simpa using h3)))⟩) (by first | omega | (simp only; omega)) (by repeat (first | exact trivial | refine ⟨rfl, ?_⟩)) wok_sub
    · have eq_k : k = n1 := by have h9 := of_decide_eq_false h2; omega
      refine g_exit ?_
      refine g_then_x (g_then_x (g_blk_hit ?_))
      refine g_then ?_
      refine g_seq ?_
      refine g_region ?_
      refine s_q (q_assign rfl) rfl ?_
      refine g_nil ?_
      refine g_then ?_
      refine g_ret ?_
      exact fin1 rfl (.tmp rfl) (fun w' hw' => ⟨by rw [decide_eq_true (pre_all pre (by omega) (by omega))], hw'.upd⟩) _ (.inl rfl)

set_option maxHeartbeats 400000 in
theorem same_any (A B : Option Addr) (n1 n2 cap1 cap2 : Nat) (l1 l2 : List As) (w : World) (ha : Old w A n1 3 (l1.map As.cs)) (hb : Old w B n2 3 (l2.map As.cs)) (hc1 : n1 ≤ 9223372036854775807) : Pur Try.prog 24 [.slice A n1 cap1, .slice B n2 cap2] w (.bool (decide (l1 = l2))) := by
  refine g_start Try.func24 rfl 8 rfl (by simp) ([]) [] (WOK.start _ _) _ rfl ?_
  refine g_seq ?_
  refine g_region ?_
  refine s_q (q_assign rfl) rfl ?_
  refine g_nil ?_
  refine g_then ?_
  refine g_seq ?_
  refine g_region ?_
  refine s_q (q_move rfl) rfl ?_
  refine s_q (q_move rfl) rfl ?_
  refine g_op (g_pure rfl (fun w1 hw1 => eqf_any A B _ _ _ _ (l1) (l2) w1 (Rdb.toOld (ha.rdb rfl) hw1) (Rdb.toOld (hb.rdb rfl) hw1) (by first | omega | (simp; omega) | (simp_all; omega))) rfl ?_)
  refine s_q (q_assign rfl) rfl ?_
  refine g_nil ?_
  refine g_then ?_
  refine g_ret ?_
  exact fin1 rfl (.tmp rfl) (fun w' hw' => ⟨by rfl, hw'.upd⟩) _ (.inl rfl)

set_option maxHeartbeats 400000 in
theorem equal_as (A B : Option Addr) (n1 n2 cap1 cap2 : Nat) (l1 l2 : List As) (w : World) (ha : Old w A n1 3 (l1.map As.cs)) (hb : Old w B n2 3 (l2.map As.cs)) (hc1 : n1 ≤ 9223372036854775807) : Pur Try.prog 28 [.slice A n1 cap1, .slice B n2 cap2] w (.bool (decide (l1 = l2))) := by
  refine g_start Try.func28 rfl 26 rfl (by simp) ([]) [] (WOK.start _ _) _ rfl ?_
  have e1 : n1 = l1.length := by simpa using ha.len
  have e2 : n2 = l2.length := by simpa using hb.len
  refine g_seq ?_
  refine g_region ?_
  refine s_q (q_assign rfl) rfl ?_
  refine g_nil ?_
  refine g_then ?_
  refine g_seq ?_
  refine g_seq ?_
  refine g_region ?_
  refine s_q (q_move rfl) rfl ?_
  refine s_q (q_len rfl) rfl ?_
  refine s_q (q_move rfl) rfl ?_
  refine s_q (q_len rfl) rfl ?_
  refine s_q (q_neq rfl rfl) rfl ?_
  refine g_nil ?_
  refine g_then ?_
  refine g_cond rfl (fun h1 => ?_) (fun h1 => ?_)
  · refine g_seq ?_
    refine g_region ?_
    refine s_q (q_assign rfl) rfl ?_
    refine g_nil ?_
    refine g_then ?_
    refine g_ret ?_
    refine g_then_ret ?_
    exact fin1 rfl (.tmp rfl) (fun w' hw' => ⟨by rw [decide_eq_false (fun e => by subst e; simp at h1; omega)], hw'.upd⟩) _ (.inl rfl)
  · have hn : n1 = n2 := by simp at h1; omega
    refine g_skip ?_
    refine g_then ?_
    refine g_seq ?_
    refine g_seq ?_
    refine g_region ?_
    refine s_q (q_move rfl) rfl ?_
    refine s_q (q_len rfl) rfl ?_
    refine s_q (q_move rfl) rfl ?_
    refine g_nil ?_
    refine g_then ?_
    refine g_block ?_
    refine g_loopk [0, 1, 4, 12] (fun (x : Nat) => [(13, .int .i64 ((x : Nat) : Int))]) (fun (x : Nat) => []) (fun (x : Nat) => x ≤ n1 ∧ (∀ j, j < x → l1[j]? = l2[j]?)) (fun (x : Nat) => n1 - x) 0 (by (try dsimp only); exact ⟨Nat.zero_le _, (fun j hj => absurd hj (Nat.not_lt_zero _))⟩) rfl (by repeat (first | exact trivial | refine ⟨rfl, ?_⟩)) wok_sub ?_
    rintro k ⟨le_k, pre⟩
    replace le_k : k ≤ n1 := le_k
    replace pre : ∀ j, j < k → l1[j]? = l2[j]? := pre
    refine g_seq ?_
    refine g_region ?_
    refine s_q (q_lss rfl rfl) rfl ?_
    refine g_nil ?_
    refine g_then ?_
    refine g_seq ?_
    refine g_cond rfl (fun h2 => ?_) (fun h2 => ?_)
    · have lt_k : k < n1 := by have h9 := of_decide_eq_true h2; omega
      have lk1 : k < l1.length := by omega
      have lk2 : k < l2.length := by omega
      refine g_skip ?_
      refine g_then ?_
      refine g_seq ?_
      refine g_block ?_
      refine g_seq ?_
      refine g_region ?_
      refine s_q (q_move rfl) rfl ?_
      refine s_q (q_assign rfl) rfl ?_
      refine g_nil ?_
      refine g_then ?_
      refine g_seq ?_
      refine d_region [] mixed rfl rfl ?_
      refine d_q 0 rfl (by kernel_rfl) (q_move rfl) wok_sub rfl (ls' := #[true, false, false, false, false, false, false, false, false]) rfl ?_
      refine d_q 1 rfl (by kernel_rfl) (q_move rfl) wok_sub rfl (ls' := #[true, true, false, false, false, false, false, false, false]) rfl ?_
      refine d_q 2 rfl (by kernel_rfl) (q_index (i := k) rfl rfl rfl (ha.rdb rfl) (by first | exact lt_k | omega)) wok_sub rfl (ls' := #[true, true, true, false, false, false, false, false, false]) rfl ?_
      refine d_q 3 rfl (by kernel_rfl) (q_load_ew (i := k) rfl (ha.rdb rfl) (map_get (by first | exact (by first | exact lt_k | omega) | omega | (simp_all; done) | (simp_all; omega))) rfl) wok_sub rfl (ls' := #[true, true, true, true, false, false, false, false, false]) rfl ?_
      refine d_q 4 rfl (by kernel_rfl) (q_move rfl) wok_sub rfl (ls' := #[true, true, true, true, true, false, false, false, false]) rfl ?_
      refine d_q 5 rfl (by kernel_rfl) (q_move rfl) wok_sub rfl (ls' := #[true, true, true, true, true, true, false, false, false]) rfl ?_
      refine d_q 6 rfl (by kernel_rfl) (q_index (i := k) rfl rfl rfl (hb.rdb rfl) (by first | exact lt_k | omega)) wok_sub rfl (ls' := #[true, true, true, true, true, true, true, false, false]) rfl ?_
      refine d_q 7 rfl (by kernel_rfl) (q_load_ew (i := k) rfl (hb.rdb rfl) (map_get (by first | exact (by first | exact lt_k | omega) | omega | (simp_all; done) | (simp_all; omega))) rfl) wok_sub rfl (ls' := #[true, true, true, true, true, true, true, true, false]) rfl ?_
      refine d_q 8 rfl (by kernel_rfl) (q_nes rfl rfl rfl) wok_sub rfl (ls' := #[true, true, true, true, true, true, true, true, true]) rfl ?_
      refine d_end (by kernel_rfl) (.inr wok_sub) ?_
      refine g_then ?_
      refine g_cond rfl (fun h3 => ?_) (fun h3 => ?_)
      · refine g_seq ?_
        refine g_region ?_
        refine s_q (q_assign rfl) rfl ?_
        refine g_nil ?_
        refine g_then ?_
        refine g_ret ?_
        refine g_blk_ret (g_then_ret (g_then_ret (g_blk_ret (g_then_ret ?_))))
        exact fin1 rfl (.tmp rfl) (fun w' hw' => ⟨by rw [decide_eq_false (fun e => by subst e; simp at h3)], hw'.upd⟩) _ (.inl rfl)
      · refine g_skip ?_
        refine g_blk_n ?_
        refine g_then ?_
        refine g_region ?_
        refine s_q (q_inc rfl rfl (by omega)) rfl ?_
        refine s_q (q_move rfl) rfl ?_
        refine g_nil ?_
        exact g_again (k + 1) (by (try dsimp only); exact ⟨(by first | exact lt_k | omega), (pre_succ pre (by rw [List.getElem?_eq_getElem (by omega), List.getElem?_eq_getElem (by omega)]; exact congrArg some ((As.ext_iff' _ _).2 (by simpa using h3))))⟩) (by first | omega | (simp only; omega)) (by repeat (first | exact trivial | refine ⟨rfl, ?_⟩)) wok_sub
    · have eq_k : k = n1 := by have h9 := of_decide_eq_false h2; omega
      refine g_exit ?_
      refine g_then_x (g_then_x (g_blk_hit ?_))
      refine g_then ?_
      refine g_seq ?_
      refine g_region ?_
      refine s_q (q_assign rfl) rfl ?_
      refine g_nil ?_
      refine g_then ?_
      refine g_ret ?_
      exact fin1 rfl (.tmp rfl) (fun w' hw' => ⟨by rw [decide_eq_true (pre_all pre (by omega) (by omega))], hw'.upd⟩) _ (.inl rfl)

set_option maxHeartbeats 400000 in
theorem alive_any  (w : World)  : Pur Try.prog 10 [] w (.bool true) := by
  refine g_start Try.func10 rfl 52 rfl (by simp) ([]) [] (WOK.start _ _) _ rfl ?_
  refine g_seq ?_
  refine g_region ?_
  refine s_q (q_assign rfl) rfl ?_
  refine g_nil ?_
  refine g_then ?_
  refine g_seq ?_
  refine g_region ?_
  refine g_op (g_ownS [] rfl (fun w1 hw1 ho1 => by have h7 := lnew_any (4) w1 (by omega); exact h7) rfl ?_)
  rintro ⟨b5, ba5, bb5, g5, gg5⟩ ⟨r5, s5, rr5, ss5⟩
  refine ⟨_, _, inferInstance, inferInstance, ?_⟩
  simp only at r5 s5 rr5 ss5
  refine g_op (g_ownS [] rfl (fun w1 hw1 ho1 => by have h7 := mnew_any w1; exact h7) rfl ?_)
  rintro mb6 _
  refine ⟨_, _, inferInstance, inferInstance, ?_⟩
  refine s_q (q_assign rfl) rfl ?_
  refine s_q (q_assign rfl) rfl ?_
  refine g_nil ?_
  refine g_then ?_
  refine g_seq ?_
  refine g_seq ?_
  refine g_region ?_
  refine s_q (q_move rfl) rfl ?_
  refine s_q (q_eqp (b := false) rfl rfl rfl) rfl ?_
  refine s_q (q_move rfl) rfl ?_
  refine s_qg (q_move rfl) rfl rfl rfl ?_
  refine s_qg (q_eqp (b := false) rfl rfl rfl) rfl rfl rfl ?_
  refine s_q (q_pick_f rfl rfl) rfl ?_
  refine s_q (q_move rfl) rfl ?_
  refine s_qg (q_move rfl) rfl rfl rfl ?_
  refine g_gt rfl rfl (g_ownS [Res.blk b5 77 [Value.pointer (some ⟨ba5, 0, none⟩), Value.pointer (some ⟨bb5, 0, none⟩)], Res.blk ba5 108 (Rg.c g5), Res.row (Rg.A g5) (Rg.s g5).length (Rg.cap g5) 3 1 (Rg.s g5), Res.blk bb5 108 (Rg.c gg5), Res.row (Rg.A gg5) (Rg.s gg5).length (Rg.cap gg5) 3 1 (Rg.s gg5)] rfl (fun w1 hw1 ho1 => by have h7 := lpush_any b5 ba5 bb5 g5 gg5 (LL.mk [] []) (4) (1) (0) w1 ho1 r5 rr5 s5 ss5 (by omega); exact h7) rfl ?_)
  rintro ⟨g15, gg15⟩ ⟨r15, rr15, s15, ss15⟩
  refine ⟨_, _, inferInstance, inferInstance, ?_⟩
  simp only at r15 rr15 s15 ss15
  refine s_qg (q_neq rfl rfl) rfl rfl rfl ?_
  refine g_litb 16 (b := false) rfl (by decide) ?_
  refine s_q (q_pick_f rfl rfl) rfl ?_
  refine s_q (q_move rfl) rfl ?_
  refine s_qg (q_move rfl) rfl rfl rfl ?_
  refine g_gt rfl rfl (g_ownS [Res.blk b5 77 [Value.pointer (some ⟨ba5, 0, none⟩), Value.pointer (some ⟨bb5, 0, none⟩)], Res.blk ba5 108 (Rg.c g15), Res.row (Rg.A g15) (Rg.s g15).length (Rg.cap g15) 3 1 (Rg.s g15), Res.blk bb5 108 (Rg.c gg15), Res.row (Rg.A gg15) (Rg.s gg15).length (Rg.cap gg15) 3 1 (Rg.s gg15)] rfl (fun w1 hw1 ho1 => by have h7 := lpush_any b5 ba5 bb5 g15 gg15 (pushL (4) (1) (0) (LL.mk [] [])) (4) (0) (1) w1 ho1 r15 rr15 s15 ss15 (by omega); exact h7) rfl ?_)
  rintro ⟨g20, gg20⟩ ⟨r20, rr20, s20, ss20⟩
  refine ⟨_, _, inferInstance, inferInstance, ?_⟩
  simp only at r20 rr20 s20 ss20
  refine s_qg (q_neq rfl rfl) rfl rfl rfl ?_
  refine g_litb 21 (b := false) rfl (by decide) ?_
  refine s_q (q_pick_f rfl rfl) rfl ?_
  refine g_nil ?_
  refine g_then ?_
  refine g_false rfl ?_
  refine g_skip ?_
  refine g_then ?_
  refine g_seq ?_
  refine g_region ?_
  refine s_q (q_move rfl) rfl ?_
  refine s_q (q_move rfl) rfl ?_
  refine g_op (g_lit rfl rfl rfl rfl rfl fun b25 => ?_)
  refine g_blkc (b := b25) ((([4, 8] : List Int).map (fun v : Int => [Value.int .u64 v])).flatten) rfl ?_
  refine g_op (g_ownS [Res.blk b5 77 [Value.pointer (some ⟨ba5, 0, none⟩), Value.pointer (some ⟨bb5, 0, none⟩)], Res.blk ba5 108 (Rg.c g20), Res.row (Rg.A g20) (Rg.s g20).length (Rg.cap g20) 3 1 (Rg.s g20), Res.blk bb5 108 (Rg.c gg20), Res.row (Rg.A gg20) (Rg.s gg20).length (Rg.cap gg20) 3 1 (Rg.s gg20), Res.blk mb6 84 (M.c M0)] rfl (fun w1 hw1 ho1 => by have h7 := astep_any (5) (10) b5 ba5 bb5 mb6 g20 gg20 (pushL (4) (0) (1) (pushL (4) (1) (0) (LL.mk [] []))) (4) M0 (some ⟨b25, 0, none⟩) (2) (2) (([4, 8] : List Int)) w1 ho1 r20 rr20 s20 ss20 (by omega) (show (pushL 4 (0) (1) (pushL 4 (1) (0) (LL.mk [] []))).f.length ≤ 4 ∧ (pushL 4 (0) (1) (pushL 4 (1) (0) (LL.mk [] []))).v.length ≤ 4 by decide) (Rd.ofBlk (b := b25) (els := (([4, 8] : List Int)).map (fun v : Int => [Value.int .u64 v])) hw1 rfl (by simp) rfl) (by omega); exact h7) rfl ?_)
  rintro ⟨O26, oc26, g26, gg26⟩ ⟨r26, rr26, s26, ss26⟩
  refine ⟨_, _, inferInstance, inferInstance, ?_⟩
  simp only at r26 rr26 s26 ss26
  have hq26 := stepM_len (W := ([4, 8] : List Int)) (e := 5) (lim := 10) (m := M0) (show (pushL 4 (0) (1) (pushL 4 (1) (0) (LL.mk [] []))).f.length ≤ 4 ∧ (pushL 4 (0) (1) (pushL 4 (1) (0) (LL.mk [] []))).v.length ≤ 4 by decide)
  refine s_q (q_assign rfl) rfl ?_
  refine g_nil ?_
  refine g_then ?_
  refine g_seq ?_
  refine g_region ?_
  refine s_q (q_move rfl) rfl ?_
  refine s_q (q_move rfl) rfl ?_
  refine g_op (g_lit rfl rfl rfl rfl rfl fun b29 => ?_)
  refine g_blkc (b := b29) ((([4, 8] : List Int).map (fun v : Int => [Value.int .u64 v])).flatten) rfl ?_
  refine g_op (g_ownS [Res.blk b5 77 [Value.pointer (some ⟨ba5, 0, none⟩), Value.pointer (some ⟨bb5, 0, none⟩)], Res.blk ba5 108 (Rg.c g26), Res.row (Rg.A g26) (Rg.s g26).length (Rg.cap g26) 3 1 (Rg.s g26), Res.blk bb5 108 (Rg.c gg26), Res.row (Rg.A gg26) (Rg.s gg26).length (Rg.cap gg26) 3 1 (Rg.s gg26), Res.blk mb6 84 (M.c (stepM (([4, 8] : List Int)) (5) (10) (pushL (4) (0) (1) (pushL (4) (1) (0) (LL.mk [] []))) M0).2.2)] rfl (fun w1 hw1 ho1 => by have h7 := astep_any (6) (10) b5 ba5 bb5 mb6 g26 gg26 (stepM (([4, 8] : List Int)) (5) (10) (pushL (4) (0) (1) (pushL (4) (1) (0) (LL.mk [] []))) M0).2.1 (4) (stepM (([4, 8] : List Int)) (5) (10) (pushL (4) (0) (1) (pushL (4) (1) (0) (LL.mk [] []))) M0).2.2 (some ⟨b29, 0, none⟩) (2) (2) (([4, 8] : List Int)) w1 ho1 r26 rr26 s26 ss26 (by omega) hq26 (Rd.ofBlk (b := b29) (els := (([4, 8] : List Int)).map (fun v : Int => [Value.int .u64 v])) hw1 rfl (by simp) rfl) (by omega); exact h7) rfl ?_)
  rintro ⟨O30, oc30, g30, gg30⟩ ⟨r30, rr30, s30, ss30⟩
  refine ⟨_, _, inferInstance, inferInstance, ?_⟩
  simp only at r30 rr30 s30 ss30
  have hq30 := stepM_len (W := ([4, 8] : List Int)) (e := 6) (lim := 10) (m := (stepM (([4, 8] : List Int)) (5) (10) (pushL (4) (0) (1) (pushL (4) (1) (0) (LL.mk [] []))) M0).2.2) hq26
  refine s_q (q_assign rfl) rfl ?_
  refine g_nil ?_
  refine g_then ?_
  refine g_seq ?_
  refine g_region ?_
  refine g_op (g_lit rfl rfl rfl rfl rfl fun b31 => ?_)
  refine g_blkc (b := b31) ((([4, 25, 3] : List Int).map (fun v : Int => [Value.int .u64 v])).flatten) rfl ?_
  refine g_op (g_ownS [] rfl (fun w1 hw1 ho1 => by have h7 := forecast_any 0 10 (some ⟨b31, 0, none⟩) (3) (3) (([4, 25, 3] : List Int)) w1 (Rdb.toOld (InL.rdb (b := b31) (els := (([4, 25, 3] : List Int)).map (fun v : Int => [Value.int .u64 v])) rfl (by simp) rfl) hw1) (by intro x hx; simp at hx; rcases hx with rfl | rfl | rfl <;> omega) (by omega) (by omega) (by first | omega | (simp; done) | (simp; omega)); exact h7) rfl ?_)
  rintro ⟨A32, cap32⟩ _
  refine ⟨_, _, inferInstance, inferInstance, ?_⟩
  refine g_op (g_lit rfl rfl rfl rfl rfl fun b33 => ?_)
  refine g_blkc (b := b33) ((([1, 3, 4] : List Int).map (fun v : Int => [Value.int .i64 v])).flatten) rfl ?_
  refine g_op (g_pure rfl (fun w1 hw1 => equal_i A32 (some ⟨b33, 0, none⟩) _ _ _ _ ((fcV 0 10 ([4, 25, 3] : List Int))) (([1, 3, 4] : List Int)) w1 (Rdb.toOld (InRow.rdb (A := A32) (els := ((fcV 0 10 ([4, 25, 3] : List Int))).map (fun v : Int => [Value.int .i64 v])) (by first | rfl | assumption | (simp; done) | (simp_all; done) | (simp; omega) | (simp_all; omega)) (map_cat (c := (fun v : Int => [Value.int .i64 v])) (fun _ => rfl) _)) hw1) (Rdb.toOld (InL.rdb (b := b33) (els := (([1, 3, 4] : List Int).map (fun v : Int => [Value.int .i64 v]))) rfl (by simp) rfl) hw1) (row_max (A := A32) hw1)) rfl ?_)
  refine g_litb 34 (b := true) rfl (by decide) ?_
  refine s_q (q_move rfl) rfl ?_
  refine s_qg (q_move rfl) rfl rfl rfl ?_
  refine s_qg (q_build rfl rfl) rfl rfl rfl ?_
  refine g_gt rfl rfl (g_lit rfl rfl rfl rfl rfl fun b38 => ?_)
  refine g_blkc (b := b38) ((([(As.mk 1 0 6)] : List As).map As.cs).flatten) rfl ?_
  refine g_gt rfl rfl (g_pure rfl (fun w1 hw1 => equal_as O26 (some ⟨b38, 0, none⟩) _ _ _ _ ((stepM (([4, 8] : List Int)) (5) (10) (pushL (4) (0) (1) (pushL (4) (1) (0) (LL.mk [] []))) M0).1) (([(As.mk 1 0 6)] : List As)) w1 (Rdb.toOld (InRow.rdb (A := O26) (els := ((stepM (([4, 8] : List Int)) (5) (10) (pushL (4) (0) (1) (pushL (4) (1) (0) (LL.mk [] []))) M0).1).map As.cs) (by first | rfl | assumption | (simp; done) | (simp_all; done) | (simp; omega) | (simp_all; omega)) (map_cat (c := As.cs) (fun _ => rfl) _)) hw1) (Rdb.toOld (InL.rdb (b := b38) (els := (([(As.mk 1 0 6)] : List As).map As.cs)) rfl (by simp [As.cs]) rfl) hw1) (row_max (A := O26) hw1)) rfl ?_)
  refine g_litb 39 (b := true) rfl (by decide) ?_
  refine s_q (q_pick_t rfl rfl) rfl ?_
  refine s_q (q_move rfl) rfl ?_
  refine s_qg (q_move rfl) rfl rfl rfl ?_
  refine s_qg (q_build rfl rfl) rfl rfl rfl ?_
  refine g_gt rfl rfl (g_lit rfl rfl rfl rfl rfl fun b44 => ?_)
  refine g_blkc (b := b44) ((([(As.mk 0 1 7)] : List As).map As.cs).flatten) rfl ?_
  refine g_gt rfl rfl (g_pure rfl (fun w1 hw1 => equal_as O30 (some ⟨b44, 0, none⟩) _ _ _ _ ((stepM (([4, 8] : List Int)) (6) (10) (stepM (([4, 8] : List Int)) (5) (10) (pushL (4) (0) (1) (pushL (4) (1) (0) (LL.mk [] []))) M0).2.1 (stepM (([4, 8] : List Int)) (5) (10) (pushL (4) (0) (1) (pushL (4) (1) (0) (LL.mk [] []))) M0).2.2).1) (([(As.mk 0 1 7)] : List As)) w1 (Rdb.toOld (InRow.rdb (A := O30) (els := ((stepM (([4, 8] : List Int)) (6) (10) (stepM (([4, 8] : List Int)) (5) (10) (pushL (4) (0) (1) (pushL (4) (1) (0) (LL.mk [] []))) M0).2.1 (stepM (([4, 8] : List Int)) (5) (10) (pushL (4) (0) (1) (pushL (4) (1) (0) (LL.mk [] []))) M0).2.2).1).map As.cs) (by first | rfl | assumption | (simp; done) | (simp_all; done) | (simp; omega) | (simp_all; omega)) (map_cat (c := As.cs) (fun _ => rfl) _)) hw1) (Rdb.toOld (InL.rdb (b := b44) (els := (([(As.mk 0 1 7)] : List As).map As.cs)) rfl (by simp [As.cs]) rfl) hw1) (row_max (A := O30) hw1)) rfl ?_)
  refine g_litb 45 (b := true) rfl (by decide) ?_
  refine s_q (q_pick_t rfl rfl) rfl ?_
  refine s_q (q_move rfl) rfl ?_
  refine s_qg (q_move rfl) rfl rfl rfl ?_
  refine g_gt rfl rfl (g_keep [Res.blk mb6 84 (M.c (stepM (([4, 8] : List Int)) (6) (10) (stepM (([4, 8] : List Int)) (5) (10) (pushL (4) (0) (1) (pushL (4) (1) (0) (LL.mk [] []))) M0).2.1 (stepM (([4, 8] : List Int)) (5) (10) (pushL (4) (0) (1) (pushL (4) (1) (0) (LL.mk [] []))) M0).2.2).2.2)] rfl (fun w1 hw1 ho1 => by exact mbalance_any mb6 (stepM (([4, 8] : List Int)) (6) (10) (stepM (([4, 8] : List Int)) (5) (10) (pushL (4) (0) (1) (pushL (4) (1) (0) (LL.mk [] []))) M0).2.1 (stepM (([4, 8] : List Int)) (5) (10) (pushL (4) (0) (1) (pushL (4) (1) (0) (LL.mk [] []))) M0).2.2).2.2 w1 ho1) rfl ?_)
  refine s_qg (q_eql rfl rfl) rfl rfl rfl ?_
  refine g_litb 50 (b := true) rfl (by decide) ?_
  refine s_q (q_pick_t rfl rfl) rfl ?_
  refine s_q (q_assign rfl) rfl ?_
  refine g_nil ?_
  refine g_then ?_
  refine g_ret ?_
  exact fin1 rfl (.tmp rfl) (fun w' hw' => ⟨by rfl, hw'.upd⟩) _ (.inl rfl)
end Go.Proofs.Ytmolaicpbaiioaa
