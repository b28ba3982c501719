/- the example -/
import Derived.Test.YtjfncbgggfammaaW7
namespace Go.Proofs.Ytjfncbgggfammaa
open Go.RowKit Go.Eg
set_option synthInstance.maxSize 3000
set_option linter.unusedSimpArgs false
set_option linter.unusedVariables false
set_option maxRecDepth 100000
set_option maxHeartbeats 400000 in
theorem alive_any  (w : World)  : Pur Try.prog 9 [] w (.bool true) := by
  refine g_start Try.func9 rfl 42 rfl (by simp) ([]) [] (WOK.start _ _) _ rfl ?_
  refine g_seq ?_
  refine g_region ?_
  refine s_q (q_assign rfl) rfl ?_
  refine g_nil ?_
  refine g_then ?_
  refine g_seq ?_
  refine g_region ?_
  refine g_op (g_ownS [] rfl (fun w1 hw1 ho1 => by have h7 := new_i (4) w1 (by omega); exact h7) rfl ?_)
  rintro ⟨b6, g6⟩ ⟨r6, s6⟩
  refine ⟨_, _, inferInstance, inferInstance, ?_⟩
  simp only at r6 s6
  refine s_q (q_assign rfl) rfl ?_
  refine g_nil ?_
  refine g_then ?_
  refine g_seq ?_
  refine g_seq ?_
  refine g_region ?_
  refine s_q (q_move rfl) rfl ?_
  refine s_q (q_eqp (b := false) rfl rfl rfl) rfl ?_
  refine s_q (q_move rfl) rfl ?_
  refine s_qg (q_move rfl) rfl rfl rfl ?_
  refine g_gt rfl rfl (g_lit rfl rfl rfl rfl rfl fun b11 => ?_)
  refine g_blkc (b := b11) ((([0, 1, 2] : List Int).map (fun v : Int => [Value.int .i64 v])).flatten) rfl ?_
  refine g_gt rfl rfl (g_ownS [Res.blk b6 50 (Rg.c g6), Res.row (Rg.A g6) (Rg.s g6).length (Rg.cap g6) 3 1 (Rg.s g6)] rfl (fun w1 hw1 ho1 => by have h7 := push_i b6 g6 ([] : List Int) [0, 1, 2] (some ⟨b11, 0, none⟩) 3 w1 ho1 r6 (Rd.ofBlk (b := b11) hw1 rfl (by simp) rfl) (by simp); exact h7) rfl ?_)
  rintro g12 ⟨r12, s12⟩
  refine ⟨_, _, inferInstance, inferInstance, ?_⟩
  have r12b : g12.Rep 1 (([0, 1, 2] : List Int).map (fun v : Int => [Value.int .i64 v])) := by rw [s6] at r12; simpa using r12
  refine s_qg (q_neq rfl rfl) rfl rfl rfl ?_
  refine g_litb 13 (b := false) rfl (by rw [s6]; decide) ?_
  refine s_q (q_pick_f rfl rfl) rfl ?_
  refine g_nil ?_
  refine g_then ?_
  refine g_false rfl ?_
  refine g_skip ?_
  refine g_then ?_
  refine g_seq ?_
  refine g_region ?_
  refine g_op (g_lit rfl rfl rfl rfl rfl fun b15 => ?_)
  refine g_blkc (b := b15) ((([25, 4, 5] : List Int).map (fun v : Int => [Value.int .u64 v])).flatten) rfl ?_
  refine s_q (q_assign rfl) rfl ?_
  refine g_nil ?_
  refine g_then ?_
  refine g_seq ?_
  refine g_region ?_
  refine s_q (q_move rfl) rfl ?_
  refine s_q (q_move rfl) rfl ?_
  refine g_op (g_keep [Res.blk b6 50 (Rg.c g12), Res.row (Rg.A g12) (Rg.s g12).length (Rg.cap g12) 3 1 (Rg.s g12)] rfl (fun w1 hw1 ho1 => by exact wait_any b6 g12 (10) (2) (some ⟨b15, 0, none⟩) (3) (3) ([25, 4, 5] : List Int) ([0, 1, 2] : List Int) w1 ho1 r12b (Rd.ofBlk (b := b15) (els := (([25, 4, 5] : List Int)).map (fun v : Int => [Value.int .u64 v])) hw1 rfl (by simp) rfl) (by intro x hx; simp at hx; rcases hx with rfl | rfl | rfl <;> omega) (by omega) (by omega) (by first | omega | (simp; done) | (simp; omega) | decide)) rfl ?_)
  refine s_q (q_assign rfl) rfl ?_
  refine g_nil ?_
  refine g_then ?_
  refine g_seq ?_
  refine g_region ?_
  refine s_q (q_move rfl) rfl ?_
  refine s_q (q_move rfl) rfl ?_
  refine g_op (g_ownS [Res.blk b6 50 (Rg.c g12), Res.row (Rg.A g12) (Rg.s g12).length (Rg.cap g12) 3 1 (Rg.s g12)] rfl (fun w1 hw1 ho1 => by have h7 := step_any b6 g12 (10) (some ⟨b15, 0, none⟩) (3) (3) ([25, 4, 5] : List Int) ([0, 1, 2] : List Int) w1 ho1 r12b (Rd.ofBlk (b := b15) (els := (([25, 4, 5] : List Int)).map (fun v : Int => [Value.int .u64 v])) hw1 rfl (by simp) rfl) (by intro x hx; simp at hx; rcases hx with rfl | rfl | rfl <;> omega) (by omega) (by first | omega | (simp; done) | (simp; omega) | decide); exact h7) rfl ?_)
  rintro ⟨A21, cap21, g21⟩ ⟨r21, s21⟩
  refine ⟨_, _, inferInstance, inferInstance, ?_⟩
  simp only at r21 s21
  refine s_q (q_assign rfl) rfl ?_
  refine g_nil ?_
  refine g_then ?_
  refine g_seq ?_
  refine g_region ?_
  refine s_q (q_move rfl) rfl ?_
  refine s_q (q_move rfl) rfl ?_
  refine g_op (g_ownS [Res.blk b6 50 (Rg.c g21), Res.row (Rg.A g21) (Rg.s g21).length (Rg.cap g21) 3 1 (Rg.s g21)] rfl (fun w1 hw1 ho1 => by have h7 := step_any b6 g21 (10) (some ⟨b15, 0, none⟩) (3) (3) ([25, 4, 5] : List Int) (([0, 1, 2] : List Int).drop (batF 10 ([25, 4, 5] : List Int) ([0, 1, 2] : List Int) 0 true).length) w1 ho1 r21 (Rd.ofBlk (b := b15) (els := (([25, 4, 5] : List Int)).map (fun v : Int => [Value.int .u64 v])) hw1 rfl (by simp) rfl) (by intro x hx; simp at hx; rcases hx with rfl | rfl | rfl <;> omega) (by omega) (by first | omega | (simp; done) | (simp; omega) | decide); exact h7) rfl ?_)
  rintro ⟨A24, cap24, g24⟩ ⟨r24, s24⟩
  refine ⟨_, _, inferInstance, inferInstance, ?_⟩
  simp only at r24 s24
  refine s_q (q_assign rfl) rfl ?_
  refine g_nil ?_
  refine g_then ?_
  refine g_seq ?_
  refine g_region ?_
  refine s_q (q_move rfl) rfl ?_
  refine s_q (q_eql rfl rfl) rfl ?_
  refine g_litb 26 (b := true) rfl (by decide) ?_
  refine s_q (q_move rfl) rfl ?_
  refine s_qg (q_move rfl) rfl rfl rfl ?_
  refine g_gt rfl rfl (g_lit rfl rfl rfl rfl rfl fun b29 => ?_)
  refine g_blkc (b := b29) ((([0] : List Int).map (fun v : Int => [Value.int .i64 v])).flatten) rfl ?_
  refine g_gt rfl rfl (g_pure rfl (fun w1 hw1 => equal_i A21 (some ⟨b29, 0, none⟩) _ _ _ _ ((batF 10 ([25, 4, 5] : List Int) ([0, 1, 2] : List Int) 0 true)) (([0] : List Int)) w1 (Rdb.toOld (InRow.rdb (A := A21) (els := ((batF 10 ([25, 4, 5] : List Int) ([0, 1, 2] : List Int) 0 true)).map (fun v : Int => [Value.int .i64 v])) (by first | rfl | assumption | (simp; done) | (simp_all; done) | (simp; omega) | (simp_all; omega)) (map_cat (c := (fun v : Int => [Value.int .i64 v])) (fun _ => rfl) _)) hw1) (Rdb.toOld (InL.rdb (b := b29) (els := (([0] : List Int).map (fun v : Int => [Value.int .i64 v]))) rfl (by simp) rfl) hw1) (row_max (A := A21) hw1)) rfl ?_)
  refine g_litb 30 (b := true) rfl (by decide) ?_
  refine s_q (q_pick_t rfl rfl) rfl ?_
  refine s_q (q_move rfl) rfl ?_
  refine s_qg (q_move rfl) rfl rfl rfl ?_
  refine g_gt rfl rfl (g_lit rfl rfl rfl rfl rfl fun b34 => ?_)
  refine g_blkc (b := b34) ((([1, 2] : List Int).map (fun v : Int => [Value.int .i64 v])).flatten) rfl ?_
  refine g_gt rfl rfl (g_pure rfl (fun w1 hw1 => equal_i A24 (some ⟨b34, 0, none⟩) _ _ _ _ ((batF 10 ([25, 4, 5] : List Int) (([0, 1, 2] : List Int).drop (batF 10 ([25, 4, 5] : List Int) ([0, 1, 2] : List Int) 0 true).length) 0 true)) (([1, 2] : List Int)) w1 (Rdb.toOld (InRow.rdb (A := A24) (els := ((batF 10 ([25, 4, 5] : List Int) (([0, 1, 2] : List Int).drop (batF 10 ([25, 4, 5] : List Int) ([0, 1, 2] : List Int) 0 true).length) 0 true)).map (fun v : Int => [Value.int .i64 v])) (by first | rfl | assumption | (simp; done) | (simp_all; done) | (simp; omega) | (simp_all; omega)) (map_cat (c := (fun v : Int => [Value.int .i64 v])) (fun _ => rfl) _)) hw1) (Rdb.toOld (InL.rdb (b := b34) (els := (([1, 2] : List Int).map (fun v : Int => [Value.int .i64 v]))) rfl (by simp) rfl) hw1) (row_max (A := A24) hw1)) rfl ?_)
  refine g_litb 35 (b := true) rfl (by decide) ?_
  refine s_q (q_pick_t rfl rfl) rfl ?_
  refine s_q (q_move rfl) rfl ?_
  refine s_qg (q_move rfl) rfl rfl rfl ?_
  refine g_gt rfl rfl (g_keep [Res.blk b6 50 (Rg.c g24), Res.row (Rg.A g24) (Rg.s g24).length (Rg.cap g24) 3 1 (Rg.s g24)] rfl (fun w1 hw1 ho1 => by exact len_i b6 g24 ((([0, 1, 2] : List Int).drop (batF 10 ([25, 4, 5] : List Int) ([0, 1, 2] : List Int) 0 true).length).drop (batF 10 ([25, 4, 5] : List Int) (([0, 1, 2] : List Int).drop (batF 10 ([25, 4, 5] : List Int) ([0, 1, 2] : List Int) 0 true).length) 0 true).length) w1 ho1 r24) rfl ?_)
  refine s_qg (q_eql rfl rfl) rfl rfl rfl ?_
  refine g_litb 40 (b := true) rfl (by decide) ?_
  refine s_q (q_pick_t rfl rfl) rfl ?_
  refine s_q (q_assign rfl) rfl ?_
  refine g_nil ?_
  refine g_then ?_
  refine g_ret ?_
  exact fin1 rfl (.tmp rfl) (fun w' hw' => ⟨by rfl, hw'.upd⟩) _ (.inl rfl)
end Go.Proofs.Ytjfncbgggfammaa
