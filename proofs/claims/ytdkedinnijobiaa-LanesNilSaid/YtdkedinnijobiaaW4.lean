/- nil lanes -/
import Derived.Test.YtdkedinnijobiaaW3
namespace Go.Proofs.Ytdkedinnijobiaa
open Go.RowKit Go.Eg
set_option synthInstance.maxSize 3000
set_option linter.unusedSimpArgs false
set_option linter.unusedVariables false
set_option maxHeartbeats 400000 in
theorem classN (c : Int) (w : World)  : Pur Try.prog 22 [.pointer none, .int .i64 c] w (.pointer none) := by
  refine g_start Try.func22 rfl 12 rfl (by simp) ([]) [] (WOK.start _ _) _ rfl ?_
  refine g_seq ?_
  refine g_region ?_
  refine s_q (q_assign rfl) rfl ?_
  refine g_nil ?_
  refine g_then ?_
  refine g_seq ?_
  refine g_seq ?_
  refine g_region ?_
  refine s_q (q_move rfl) rfl ?_
  refine s_q (q_eqp (b := true) rfl rfl rfl) rfl ?_
  refine g_nil ?_
  refine g_then ?_
  refine g_true rfl ?_
  refine g_seq ?_
  refine g_region ?_
  refine s_q (q_assign rfl) rfl ?_
  refine g_nil ?_
  refine g_then ?_
  refine g_ret ?_
  refine g_then_ret ?_
  exact fin1 rfl (.tmp rfl) (fun w' hw' => ⟨by rfl, hw'.upd⟩) _ (.inl rfl)

set_option maxHeartbeats 400000 in
theorem llenN (c : Int) (w : World)  : Pur Try.prog 12 [.pointer none, .int .i64 c] w (.int .i64 0) := by
  refine g_start Try.func12 rfl 9 rfl (by simp) ([]) [] (WOK.start _ _) _ rfl ?_
  refine g_seq ?_
  refine g_region ?_
  refine s_q (q_assign rfl) rfl ?_
  refine g_nil ?_
  refine g_then ?_
  refine g_seq ?_
  refine g_region ?_
  refine s_q (q_move rfl) rfl ?_
  refine s_q (q_move rfl) rfl ?_
  refine g_op (g_pure rfl (fun w1 hw1 => classN _ w1) rfl ?_)
  refine g_op (g_pure rfl (fun w1 hw1 => lenN_i w1) rfl ?_)
  refine s_q (q_assign rfl) rfl ?_
  refine g_nil ?_
  refine g_then ?_
  refine g_ret ?_
  exact fin1 rfl (.tmp rfl) (fun w' hw' => ⟨by rfl, hw'.upd⟩) _ (.inl rfl)

set_option maxHeartbeats 400000 in
theorem lfreeN (c : Int) (w : World)  : Pur Try.prog 16 [.pointer none, .int .i64 c] w (.int .i64 0) := by
  refine g_start Try.func16 rfl 9 rfl (by simp) ([]) [] (WOK.start _ _) _ rfl ?_
  refine g_seq ?_
  refine g_region ?_
  refine s_q (q_assign rfl) rfl ?_
  refine g_nil ?_
  refine g_then ?_
  refine g_seq ?_
  refine g_region ?_
  refine s_q (q_move rfl) rfl ?_
  refine s_q (q_move rfl) rfl ?_
  refine g_op (g_pure rfl (fun w1 hw1 => classN _ w1) rfl ?_)
  refine g_op (g_pure rfl (fun w1 hw1 => freeN_i w1) rfl ?_)
  refine s_q (q_assign rfl) rfl ?_
  refine g_nil ?_
  refine g_then ?_
  refine g_ret ?_
  exact fin1 rfl (.tmp rfl) (fun w' hw' => ⟨by rfl, hw'.upd⟩) _ (.inl rfl)

set_option maxHeartbeats 400000 in
theorem lallN (c : Int) (w : World)  : Pur Try.prog 20 [.pointer none, .int .i64 c] w (.slice none 0 0) := by
  refine g_start Try.func20 rfl 9 rfl (by simp) ([]) [] (WOK.start _ _) _ rfl ?_
  refine g_seq ?_
  refine g_region ?_
  refine s_q (q_assign rfl) rfl ?_
  refine g_nil ?_
  refine g_then ?_
  refine g_seq ?_
  refine g_region ?_
  refine s_q (q_move rfl) rfl ?_
  refine s_q (q_move rfl) rfl ?_
  refine g_op (g_pure rfl (fun w1 hw1 => classN _ w1) rfl ?_)
  refine g_op (g_pure rfl (fun w1 hw1 => allN_i w1) rfl ?_)
  refine s_q (q_assign rfl) rfl ?_
  refine g_nil ?_
  refine g_then ?_
  refine g_ret ?_
  exact fin1 rfl (.tmp rfl) (fun w' hw' => ⟨by rfl, hw'.upd⟩) _ (.inl rfl)

set_option maxHeartbeats 400000 in
theorem laheadN (c : Int) (w : World)  : Pur Try.prog 15 [.pointer none, .int .i64 c] w (.slice none 0 0) := by
  refine g_start Try.func15 rfl 22 rfl (by simp) ([]) [] (WOK.start _ _) _ rfl ?_
  refine g_seq ?_
  refine g_region ?_
  refine s_q (q_assign rfl) rfl ?_
  refine g_nil ?_
  refine g_then ?_
  refine g_seq ?_
  refine g_seq ?_
  refine g_region ?_
  refine s_q (q_move rfl) rfl ?_
  refine s_q (q_move rfl) rfl ?_
  refine g_op (g_pure rfl (fun w1 hw1 => classN _ w1) rfl ?_)
  refine s_q (q_eqp (b := true) rfl rfl rfl) rfl ?_
  refine g_nil ?_
  refine g_then ?_
  refine g_true rfl ?_
  refine g_seq ?_
  refine g_region ?_
  refine s_q (q_assign rfl) rfl ?_
  refine g_nil ?_
  refine g_then ?_
  refine g_ret ?_
  refine g_then_ret ?_
  exact fin1 rfl (.tmp rfl) (fun w' hw' => ⟨by rfl, hw'.upd⟩) _ (.inl rfl)

set_option maxHeartbeats 400000 in
theorem lpushN (c i : Int) (w : World)  : Pur Try.prog 11 [.pointer none, .int .i64 c, .int .i64 i] w (.int .i64 1) := by
  refine g_start Try.func11 rfl 22 rfl (by simp) ([]) [] (WOK.start _ _) _ rfl ?_
  refine g_seq ?_
  refine g_region ?_
  refine s_q (q_assign rfl) rfl ?_
  refine g_nil ?_
  refine g_then ?_
  refine g_seq ?_
  refine g_seq ?_
  refine g_region ?_
  refine s_q (q_move rfl) rfl ?_
  refine s_q (q_eqp (b := true) rfl rfl rfl) rfl ?_
  refine g_nil ?_
  refine g_then ?_
  refine g_true rfl ?_
  refine g_seq ?_
  refine g_region ?_
  refine s_q (q_assign rfl) rfl ?_
  refine g_nil ?_
  refine g_then ?_
  refine g_ret ?_
  refine g_then_ret ?_
  exact fin1 rfl (.tmp rfl) (fun w' hw' => ⟨by rfl, hw'.upd⟩) _ (.inl rfl)

set_option maxHeartbeats 400000 in
theorem firstN  (w : World)  : Pur Try.prog 25 [.pointer none] w (.int .i64 (-1)) := by
  refine g_start Try.func25 rfl 16 rfl (by simp) ([]) [] (WOK.start _ _) _ rfl ?_
  refine g_seq ?_
  refine g_region ?_
  refine s_q (q_assign rfl) rfl ?_
  refine g_nil ?_
  refine g_then ?_
  refine g_scope ?_
  refine g_seq ?_
  refine g_region ?_
  refine s_q (q_assign rfl) rfl ?_
  refine g_nil ?_
  refine g_then ?_
  refine g_seq ?_
  refine g_label ?_
  refine g_then ?_
  refine g_seq ?_
  refine g_seq ?_
  refine g_region ?_
  refine s_q (q_move rfl) rfl ?_
  refine g_nil ?_
  refine g_then ?_
  refine g_block ?_
  refine g_loopk [0, 2, 3] (fun (x : Nat) => [(3, .int .i64 (-1)), (5, .int .i64 ((x : Nat) : Int))]) (fun (x : Nat) => []) (fun (x : Nat) => x ≤ 2) (fun (x : Nat) => 2 - x) 0 (by (try dsimp only); exact Nat.zero_le _) rfl (by repeat (first | exact trivial | refine ⟨rfl, ?_⟩)) wok_sub ?_
  rintro k le_k
  replace le_k : k ≤ 2 := le_k
  refine g_seq ?_
  refine g_region ?_
  refine s_q (q_lss rfl rfl) rfl ?_
  refine g_nil ?_
  refine g_then ?_
  refine g_seq ?_
  refine g_cond rfl (fun h1 => ?_) (fun h1 => ?_)
  · have lt_k : k < 2 := by have h9 := of_decide_eq_true h1; omega
    refine g_skip ?_
    refine g_then ?_
    refine g_seq ?_
    refine g_block ?_
    refine g_seq ?_
    refine g_region ?_
    refine s_q (q_move rfl) rfl ?_
    refine s_q (q_assign rfl) rfl ?_
    refine g_nil ?_
    refine g_then ?_
    refine g_seq ?_
    refine g_region ?_
    refine s_q (q_move rfl) rfl ?_
    refine s_q (q_move rfl) rfl ?_
    refine g_op (g_pure rfl (fun w1 hw1 => classN _ w1) rfl ?_)
    refine g_op (g_pure rfl (fun w1 hw1 => lenN_i w1) rfl ?_)
    refine s_q (q_gtr rfl rfl) rfl ?_
    refine g_nil ?_
    refine g_then ?_
    refine g_cond rfl (fun h2 => ?_) (fun h2 => ?_)
    · exfalso; simp at h2
    · refine g_skip ?_
      refine g_blk_n ?_
      refine g_then ?_
      refine g_region ?_
      refine s_q (q_inc rfl rfl (by omega)) rfl ?_
      refine s_q (q_move rfl) rfl ?_
      refine g_nil ?_
      exact g_again (k + 1) (by (try dsimp only); exact (by first | exact lt_k | omega)) (by first | omega | (simp only; omega)) (by repeat (first | exact trivial | refine ⟨rfl, ?_⟩)) wok_sub
  · have eq_k : k = 2 := by have h9 := of_decide_eq_false h1; omega
    refine g_exit ?_
    refine g_then_x (g_then_x (g_blk_hit ?_))
    refine g_then ?_
    refine g_seq ?_
    refine g_region ?_
    refine s_q (q_move rfl) rfl ?_
    refine s_q (q_assign rfl) rfl ?_
    refine g_nil ?_
    refine g_then ?_
    refine g_ret ?_
    refine g_ng_ret ?_
    exact fin1 rfl (.tmp rfl) (fun w' hw' => ⟨by rfl, hw'.upd⟩) _ (.inl rfl)

set_option maxHeartbeats 400000 in
theorem lheadN  (w : World)  : Pur Try.prog 19 [.pointer none] w (.tuple [.int .i64 0, .int .i64 0, .bool false].toArray) := by
  refine g_start Try.func19 rfl 21 rfl (by simp) ([]) [] (WOK.start _ _) _ rfl ?_
  refine g_seq ?_
  refine g_region ?_
  refine s_q (q_assign rfl) rfl ?_
  refine s_q (q_assign rfl) rfl ?_
  refine s_q (q_assign rfl) rfl ?_
  refine g_nil ?_
  refine g_then ?_
  refine g_seq ?_
  refine g_region ?_
  refine s_q (q_move rfl) rfl ?_
  refine g_op (g_pure rfl (fun w1 hw1 => firstN w1) rfl ?_)
  refine s_q (q_assign rfl) rfl ?_
  refine g_nil ?_
  refine g_then ?_
  refine g_seq ?_
  refine g_region ?_
  refine s_q (q_move rfl) rfl ?_
  refine s_q (q_move rfl) rfl ?_
  refine g_op (g_pure rfl (fun w1 hw1 => classN _ w1) rfl ?_)
  refine g_op (g_pure rfl (fun w1 hw1 => peekN_i _ w1) rfl ?_)
  refine s_q (q_move rfl) rfl ?_
  refine s_q (q_extract rfl rfl) rfl ?_
  refine s_q (q_extract rfl rfl) rfl ?_
  refine s_q (q_assign rfl) rfl ?_
  refine s_q (q_assign rfl) rfl ?_
  refine g_nil ?_
  refine g_then ?_
  refine g_seq ?_
  refine g_region ?_
  refine s_q (q_move rfl) rfl ?_
  refine s_q (q_move rfl) rfl ?_
  refine s_q (q_max rfl rfl) rfl ?_
  refine s_q (q_move rfl) rfl ?_
  refine s_q (q_assign rfl) rfl ?_
  refine s_q (q_assign rfl) rfl ?_
  refine s_q (q_assign rfl) rfl ?_
  refine g_nil ?_
  refine g_then ?_
  refine g_ret ?_
  exact fin3 rfl (.tmp rfl) (.tmp rfl) (.tmp rfl) (fun w' hw' => ⟨by rfl, hw'.upd⟩) _ (.inl rfl)

set_option maxHeartbeats 400000 in
theorem lpopN  (w : World)  : Pur Try.prog 13 [.pointer none] w (.tuple [.int .i64 0, .int .i64 0, .bool false].toArray) := by
  refine g_start Try.func13 rfl 21 rfl (by simp) ([]) [] (WOK.start _ _) _ rfl ?_
  refine g_seq ?_
  refine g_region ?_
  refine s_q (q_assign rfl) rfl ?_
  refine s_q (q_assign rfl) rfl ?_
  refine s_q (q_assign rfl) rfl ?_
  refine g_nil ?_
  refine g_then ?_
  refine g_seq ?_
  refine g_region ?_
  refine s_q (q_move rfl) rfl ?_
  refine g_op (g_pure rfl (fun w1 hw1 => firstN w1) rfl ?_)
  refine s_q (q_assign rfl) rfl ?_
  refine g_nil ?_
  refine g_then ?_
  refine g_seq ?_
  refine g_region ?_
  refine s_q (q_move rfl) rfl ?_
  refine s_q (q_move rfl) rfl ?_
  refine g_op (g_pure rfl (fun w1 hw1 => classN _ w1) rfl ?_)
  refine g_op (g_pure rfl (fun w1 hw1 => popN_i w1) rfl ?_)
  refine s_q (q_move rfl) rfl ?_
  refine s_q (q_extract rfl rfl) rfl ?_
  refine s_q (q_extract rfl rfl) rfl ?_
  refine s_q (q_assign rfl) rfl ?_
  refine s_q (q_assign rfl) rfl ?_
  refine g_nil ?_
  refine g_then ?_
  refine g_seq ?_
  refine g_region ?_
  refine s_q (q_move rfl) rfl ?_
  refine s_q (q_move rfl) rfl ?_
  refine s_q (q_max rfl rfl) rfl ?_
  refine s_q (q_move rfl) rfl ?_
  refine s_q (q_assign rfl) rfl ?_
  refine s_q (q_assign rfl) rfl ?_
  refine s_q (q_assign rfl) rfl ?_
  refine g_nil ?_
  refine g_then ?_
  refine g_ret ?_
  exact fin3 rfl (.tmp rfl) (.tmp rfl) (.tmp rfl) (fun w' hw' => ⟨by rfl, hw'.upd⟩) _ (.inl rfl)
end Go.Proofs.Ytdkedinnijobiaa
