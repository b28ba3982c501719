/- BucketPlays: for every length and every list of operations the law returns true. No condition. -/
import Derived.Test.YtgbghjnlicldnaaW5
namespace Go.Proofs.Ytgbghjnlicldnaa
open Go.RowKit Go.Eg
set_option synthInstance.maxSize 3000
set_option linter.unusedSimpArgs false
set_option linter.unusedVariables false
set_option maxRecDepth 100000
set_option maxHeartbeats 400000 in
theorem law_bucketPlays_bad (z : Int) (A_ops : Option Addr) (c_ops : Nat) (ops : List Op) (w : World) (hz : z < 1 ∨ 4096 < z) (o_ops : Old w A_ops ops.length 3 (ops.map Op.c)) (h_ops : ops.length ≤ c_ops ∧ c_ops ≤ 9223372036854775807) (k_ops : ∀ x ∈ ops, (fun x : Op => x.ok) x) : Pur Try.prog 3 [.int .i64 z, .slice A_ops ops.length c_ops] w (.bool true) := by
  refine g_start Try.func3 rfl 75 rfl (by simp) ([]) [] (WOK.start _ _) _ rfl ?_
  refine g_seq ?_
  refine g_region ?_
  refine s_q (q_assign rfl) rfl ?_
  refine g_nil ?_
  refine g_then ?_
  refine g_seq ?_
  refine g_region ?_
  refine s_q (q_move rfl) rfl ?_
  refine g_op (g_pure rfl (fun w1 hw1 => bnew_bad z w1 hz) rfl ?_)
  refine s_q (q_assign rfl) rfl ?_
  refine g_nil ?_
  refine g_then ?_
  refine g_seq ?_
  refine g_seq ?_
  refine g_region ?_
  refine s_q (q_move rfl) rfl ?_
  refine s_q (q_lss rfl rfl) rfl ?_
  refine s_q (q_move rfl) rfl ?_
  refine g_split 17 rfl (fun h1 => ?_) (fun h1 => ?_)
  · refine g_gf rfl rfl rfl rfl ?_
    refine g_gf rfl rfl rfl rfl ?_
    refine s_q (q_pick_t rfl rfl) rfl ?_
    refine g_nil ?_
    refine g_then ?_
    refine g_true rfl ?_
    refine g_seq ?_
    refine g_region ?_
    refine g_op (g_pure rfl (fun w1 hw1 => alive_any w1) rfl ?_)
    refine s_q (q_move rfl) rfl ?_
    refine s_qg (q_move rfl) rfl rfl rfl ?_
    refine s_qg (q_eqp (b := true) rfl rfl rfl) rfl rfl rfl ?_
    refine s_q (q_pick_t rfl rfl) rfl ?_
    refine s_q (q_assign rfl) rfl ?_
    refine g_nil ?_
    refine g_then ?_
    refine g_ret ?_
    refine g_then_ret ?_
    exact fin1 rfl (.tmp rfl) (fun w' hw' => ⟨by first | rfl | (simp_all; done) | (simp_all; omega), hw'.upd⟩) _ (.inl rfl)
  · refine s_qg (q_move rfl) rfl rfl rfl ?_
    refine s_qg (q_gtr rfl rfl) rfl rfl rfl ?_
    refine s_q (q_pick_f rfl rfl) rfl ?_
    refine g_nil ?_
    refine g_then ?_
    refine g_cond rfl (fun h2 => ?_) (fun h2 => ?_)
    · refine g_seq ?_
      refine g_region ?_
      refine g_op (g_pure rfl (fun w1 hw1 => alive_any w1) rfl ?_)
      refine s_q (q_move rfl) rfl ?_
      refine s_qg (q_move rfl) rfl rfl rfl ?_
      refine s_qg (q_eqp (b := true) rfl rfl rfl) rfl rfl rfl ?_
      refine s_q (q_pick_t rfl rfl) rfl ?_
      refine s_q (q_assign rfl) rfl ?_
      refine g_nil ?_
      refine g_then ?_
      refine g_ret ?_
      refine g_then_ret ?_
      exact fin1 rfl (.tmp rfl) (fun w' hw' => ⟨by first | rfl | (simp_all; done) | (simp_all; omega), hw'.upd⟩) _ (.inl rfl)
    · exfalso; simp at h1 h2; omega

set_option maxHeartbeats 400000 in
theorem law_bucketPlays_ok (n : Nat) (A_ops : Option Addr) (c_ops : Nat) (ops : List Op) (w : World) (hn : 1 ≤ n ∧ n ≤ 4096) (o_ops : Old w A_ops ops.length 3 (ops.map Op.c)) (h_ops : ops.length ≤ c_ops ∧ c_ops ≤ 9223372036854775807) (k_ops : ∀ x ∈ ops, (fun x : Op => x.ok) x) : Pur Try.prog 3 [.int .i64 ((n : Nat) : Int), .slice A_ops ops.length c_ops] w (.bool true) := by
  refine g_start Try.func3 rfl 75 rfl (by simp) ([]) [] (WOK.start _ _) _ rfl ?_
  refine g_seq ?_
  refine g_region ?_
  refine s_q (q_assign rfl) rfl ?_
  refine g_nil ?_
  refine g_then ?_
  refine g_seq ?_
  refine g_region ?_
  refine s_q (q_move rfl) rfl ?_
  refine g_op (g_ownS [] rfl (fun w1 hw1 ho1 => by have h7 := bnew_any (n) w1 (by omega); exact h7) rfl ?_)
  rintro ⟨b14, g14⟩ ⟨r14, s14⟩
  refine ⟨_, _, inferInstance, inferInstance, ?_⟩
  simp only at r14 s14
  refine s_q (q_assign rfl) rfl ?_
  refine g_nil ?_
  refine g_then ?_
  refine g_seq ?_
  refine g_seq ?_
  refine g_region ?_
  refine s_q (q_move rfl) rfl ?_
  refine s_q (q_lss rfl rfl) rfl ?_
  refine g_litb 16 (b := false) rfl (by simp; omega) ?_
  refine s_q (q_move rfl) rfl ?_
  refine s_qg (q_move rfl) rfl rfl rfl ?_
  refine s_qg (q_gtr rfl rfl) rfl rfl rfl ?_
  refine g_litb 19 (b := false) rfl (by simp; omega) ?_
  refine s_q (q_pick_f rfl rfl) rfl ?_
  refine g_nil ?_
  refine g_then ?_
  refine g_false rfl ?_
  refine g_skip ?_
  refine g_then ?_
  refine g_seq ?_
  refine g_seq ?_
  refine g_region ?_
  refine s_q (q_move rfl) rfl ?_
  refine s_q (q_eqp (b := false) rfl rfl rfl) rfl ?_
  refine g_nil ?_
  refine g_then ?_
  refine g_false rfl ?_
  refine g_skip ?_
  refine g_then ?_
  refine g_seq ?_
  refine g_seq ?_
  refine g_region ?_
  refine s_q (q_move rfl) rfl ?_
  refine s_q (q_len rfl) rfl ?_
  refine s_q (q_gtr rfl rfl) rfl ?_
  refine g_nil ?_
  refine g_then ?_
  refine g_cond rfl (fun h1 => ?_) (fun h1 => ?_)
  · refine g_seq ?_
    refine g_region ?_
    refine g_op (g_pure rfl (fun w1 hw1 => alive_any w1) rfl ?_)
    refine s_q (q_assign rfl) rfl ?_
    refine g_nil ?_
    refine g_then ?_
    refine g_ret ?_
    refine g_then_ret ?_
    exact fin1 rfl (.tmp rfl) (fun w' hw' => ⟨by first | rfl | (simp_all; done) | (simp_all; omega), hw'.upd⟩) _ (.inl rfl)
  · have hn100 : ops.length ≤ 100 := by have h9 := of_decide_eq_false h1; omega
    refine g_skip ?_
    refine g_then ?_
    refine g_seq ?_
    refine g_region ?_
    refine s_q (q_build (c := [Value.slice none 0 0, Value.slice none 0 0]) rfl rfl) rfl ?_
    refine g_op (g_box (c := [Value.slice none 0 0, Value.slice none 0 0]) rfl rfl rfl fun b33 => ?_)
    refine g_blkc (b := b33) [Value.slice none ((esF (ops.take 0)).map En.e).length 0, Value.slice none ((esF (ops.take 0)).map En.i).length 0] rfl ?_
    refine g_noresN none 3 1 ((esF (ops.take 0)).map En.e).length (((esF (ops.take 0)).map En.e).map (fun v : Int => [Value.int .i64 v])) rfl rfl ?_
    refine g_noresN none 3 1 ((esF (ops.take 0)).map En.i).length (((esF (ops.take 0)).map En.i).map (fun v : Int => [Value.int .i64 v])) rfl rfl ?_
    refine s_q (q_assign rfl) rfl ?_
    refine g_nil ?_
    refine g_then ?_
    refine g_seq ?_
    refine g_seq ?_
    refine g_region ?_
    refine s_q (q_move rfl) rfl ?_
    refine s_q (q_len rfl) rfl ?_
    refine s_q (q_move rfl) rfl ?_
    refine g_nil ?_
    refine g_then ?_
    refine g_block ?_
    refine g_loopk [4, 5, 6, 34, 35] (fun (x : Nat × BR × Option Addr × Nat × Option Addr × Nat) => [(36, .int .i64 ((x.1 : Nat) : Int))]) (fun (x : Nat × BR × Option Addr × Nat × Option Addr × Nat) => [Res.blk b14 57 [Value.slice (BR.A x.2.1) (BR.bs x.2.1).length (BR.cap x.2.1), Value.int .i64 (BR.n x.2.1)], Res.row (BR.A x.2.1) (BR.bs x.2.1).length (BR.cap x.2.1) 47 1 ((BR.bs x.2.1).map (fun k : Bk En => [k.v])), bks 50 2 En.c (BR.bs x.2.1), Res.blk b33 29 [Value.slice x.2.2.1 ((esF (ops.take x.1)).map En.e).length x.2.2.2.1, Value.slice x.2.2.2.2.1 ((esF (ops.take x.1)).map En.i).length x.2.2.2.2.2], Res.row x.2.2.1 ((esF (ops.take x.1)).map En.e).length x.2.2.2.1 3 1 (((esF (ops.take x.1)).map En.e).map (fun v : Int => [Value.int .i64 v])), Res.row x.2.2.2.2.1 ((esF (ops.take x.1)).map En.i).length x.2.2.2.2.2 3 1 (((esF (ops.take x.1)).map En.i).map (fun v : Int => [Value.int .i64 v]))]) (fun (x : Nat × BR × Option Addr × Nat × Option Addr × Nat) => x.1 ≤ ops.length ∧ (x.2.1).Rep (esF (ops.take x.1)) ∧ (x.2.1).bs.length = g14.bs.length) (fun (x : Nat × BR × Option Addr × Nat × Option Addr × Nat) => ops.length - x.1) (0, g14, none, 0, none, 0) (by (try dsimp only); exact ⟨Nat.zero_le _, r14, rfl⟩) rfl (by repeat (first | exact trivial | refine ⟨rfl, ?_⟩)) wok_sub ?_
    rintro ⟨k, g1, A0, c0, A1, c1⟩ ⟨le_k, hr, hs⟩
    replace le_k : k ≤ ops.length := le_k
    replace hr : (g1).Rep (esF (ops.take k)) := hr
    replace hs : (g1).bs.length = g14.bs.length := hs
    refine g_setL (L' := [Res.blk b14 57 [Value.slice (BR.A g1) (BR.bs g1).length (BR.cap g1), Value.int .i64 (BR.n g1)], Res.row (BR.A g1) (BR.bs g1).length (BR.cap g1) 47 1 ((BR.bs g1).map (fun k : Bk En => [k.v])), bks 50 2 En.c (BR.bs g1), Res.blk b33 29 [Value.slice A0 ((esF (ops.take k)).map En.e).length c0, Value.slice A1 ((esF (ops.take k)).map En.i).length c1], Res.row A0 ((esF (ops.take k)).map En.e).length c0 3 1 (((esF (ops.take k)).map En.e).map (fun v : Int => [Value.int .i64 v])), Res.row A1 ((esF (ops.take k)).map En.i).length c1 3 1 (((esF (ops.take k)).map En.i).map (fun v : Int => [Value.int .i64 v]))]) rfl ?_
    refine g_val 36 (v' := .int .i64 ((k : Nat) : Int)) rfl rfl ?_
    have hel := esF_len ops k
    refine g_seq ?_
    refine g_region ?_
    refine s_q (q_lss rfl rfl) rfl ?_
    refine g_nil ?_
    refine g_then ?_
    refine g_seq ?_
    refine g_cond rfl (fun h2 => ?_) (fun h2 => ?_)
    · have lt_k : k < ops.length := by have h9 := of_decide_eq_true h2; omega
      have hsl := stepE_len (esF (ops.take k)) ops[k]
      refine g_skip ?_
      refine g_then ?_
      refine g_seq ?_
      refine g_block ?_
      refine g_seq ?_
      refine g_region ?_
      refine s_q (q_index (i := k) rfl rfl rfl (o_ops.rdb rfl) (by first | exact lt_k | omega)) rfl ?_
      refine s_q (q_load_ew (i := k) rfl (o_ops.rdb rfl) (map_get (by first | assumption | omega)) rfl) rfl ?_
      refine g_op (g_alloc rfl fun b8 => ?_)
      refine g_op (g_storew rfl rfl rfl rfl rfl ?_)
      refine g_nil ?_
      refine g_then ?_
      refine g_seq ?_
      refine g_seq ?_
      refine d_regionL (L0 := [Res.blk b8 31 (ops[k]).c]) [] mixed rfl rfl wok_sub ?_
      refine d_q 0 rfl (by kernel_rfl) (q_move rfl) wok_sub rfl (ls' := #[true, false, false, false, false, false, false, false, false, false, false, false, false, false, false]) rfl ?_
      refine d_q 1 rfl (by kernel_rfl) (q_move rfl) wok_sub rfl (ls' := #[true, true, false, false, false, false, false, false, false, false, false, false, false, false, false]) rfl ?_
      refine d_q 2 rfl (by kernel_rfl) (q_loadw rfl rfl) wok_sub rfl (ls' := #[true, true, true, false, false, false, false, false, false, false, false, false, false, false, false]) rfl ?_
      refine d_op 3 rfl (by kernel_rfl) (ls' := #[true, true, true, true, false, false, false, false, false, false, false, false, false, false, false]) rfl wok_sub (g_ownS [Res.blk b14 57 [Value.slice (BR.A g1) (BR.bs g1).length (BR.cap g1), Value.int .i64 (BR.n g1)], Res.row (BR.A g1) (BR.bs g1).length (BR.cap g1) 47 1 ((BR.bs g1).map (fun k : Bk En => [k.v])), bks 50 2 En.c (BR.bs g1), Res.blk b33 29 [Value.slice A0 ((esF (ops.take k)).map En.e).length c0, Value.slice A1 ((esF (ops.take k)).map En.i).length c1], Res.row A0 ((esF (ops.take k)).map En.e).length c0 3 1 (((esF (ops.take k)).map En.e).map (fun v : Int => [Value.int .i64 v])), Res.row A1 ((esF (ops.take k)).map En.i).length c1 3 1 (((esF (ops.take k)).map En.i).map (fun v : Int => [Value.int .i64 v]))] rfl (fun w1 hw1 ho1 => by have h7 := do_any b14 g1 b33 A0 c0 A1 c1 (esF (ops.take k)) (ops[k]) w1 ho1 hr (by first | omega | (simp; omega)); exact h7) rfl ?_)
      rintro ⟨g43, A43, c43, B43, d43⟩ ⟨r43, s43⟩
      refine ⟨_, _, inferInstance, inferInstance, ?_⟩
      simp only at r43 s43
      refine d_clsL wok_sub ?_
      refine d_q 4 rfl (by kernel_rfl) (q_not rfl) wok_sub rfl (ls' := #[true, true, true, true, true, false, false, false, false, false, false, false, false, false, false]) rfl ?_
      refine g_litb 44 (b := false) rfl (rfl) ?_
      refine d_q 5 rfl (by kernel_rfl) (q_move rfl) wok_sub rfl (ls' := #[true, true, true, true, true, true, false, false, false, false, false, false, false, false, false]) rfl ?_
      refine d_qg 6 rfl (by kernel_rfl) (q_move rfl) rfl rfl wok_sub rfl (ls' := #[true, true, true, true, true, true, true, false, false, false, false, false, false, false, false]) rfl ?_
      refine d_qg 8 rfl (by kernel_rfl) (q_move rfl) rfl rfl wok_sub rfl (ls' := #[true, true, true, true, true, true, true, false, true, false, false, false, false, false, false]) rfl ?_
      refine d_qg 9 rfl (by kernel_rfl) (q_nilck rfl) rfl rfl wok_sub rfl (ls' := #[true, true, true, true, true, true, true, false, true, true, false, false, false, false, false]) rfl ?_
      refine d_qg 10 rfl (by kernel_rfl) (q_field rfl) rfl rfl wok_sub rfl (ls' := #[true, true, true, true, true, true, true, false, true, true, true, false, false, false, false]) rfl ?_
      refine d_qg 11 rfl (by kernel_rfl) (q_load rfl rfl) rfl rfl wok_sub rfl (ls' := #[true, true, true, true, true, true, true, false, true, true, true, true, false, false, false]) rfl ?_
      refine d_qg 12 rfl (by kernel_rfl) (q_len rfl) rfl rfl wok_sub rfl (ls' := #[true, true, true, true, true, true, true, false, true, true, true, true, true, false, false]) rfl ?_
      refine d_opg 7 rfl (by kernel_rfl) (ls' := #[true, true, true, true, true, true, true, true, true, true, true, true, true, false, false]) rfl rfl rfl wok_sub (g_keep [Res.blk b14 57 [Value.slice (BR.A g43) (BR.bs g43).length (BR.cap g43), Value.int .i64 (BR.n g43)], Res.row (BR.A g43) (BR.bs g43).length (BR.cap g43) 47 1 ((BR.bs g43).map (fun k : Bk En => [k.v])), bks 50 2 En.c (BR.bs g43)] rfl (fun w1 hw1 ho1 => by exact blen_any b14 g43 (stepE (esF (ops.take k)) ops[k]) w1 ho1 r43) rfl ?_)
      refine d_qg 13 rfl (by kernel_rfl) (q_neq rfl rfl) rfl rfl wok_sub rfl (ls' := #[true, true, true, true, true, true, true, true, true, true, true, true, true, true, false]) rfl ?_
      refine g_litb 53 (b := false) rfl (by simp) ?_
      refine d_q 14 rfl (by kernel_rfl) (q_pick_f rfl rfl) wok_sub rfl (ls' := #[true, true, true, true, true, true, true, true, true, true, true, true, true, true, true]) rfl ?_
      refine d_end (by kernel_rfl) (.inr wok_sub) ?_
      refine g_then ?_
      refine g_false rfl ?_
      refine g_skip ?_
      refine g_then ?_
      refine g_seq ?_
      refine g_region ?_
      refine s_q (q_move rfl) rfl ?_
      refine g_op (g_keep [Res.blk b14 57 [Value.slice (BR.A g43) (BR.bs g43).length (BR.cap g43), Value.int .i64 (BR.n g43)], Res.row (BR.A g43) (BR.bs g43).length (BR.cap g43) 47 1 ((BR.bs g43).map (fun k : Bk En => [k.v])), bks 50 2 En.c (BR.bs g43)] rfl (fun w1 hw1 ho1 => by exact bnext_any b14 g43 (stepE (esF (ops.take k)) ops[k]) w1 ho1 r43 (by first | omega | (simp; omega))) rfl ?_)
      refine s_q (q_move rfl) rfl ?_
      refine s_q (q_extract rfl rfl) rfl ?_
      refine s_q (q_extract rfl rfl) rfl ?_
      refine s_q (q_assign rfl) rfl ?_
      refine s_q (q_assign rfl) rfl ?_
      refine g_nil ?_
      refine g_then ?_
      refine g_seq ?_
      refine g_region ?_
      refine s_q (q_move rfl) rfl ?_
      refine g_op (g_keep [Res.blk b33 29 [Value.slice A43 ((stepE (esF (ops.take k)) ops[k]).map En.e).length c43, Value.slice B43 ((stepE (esF (ops.take k)) ops[k]).map En.i).length d43], Res.row A43 ((stepE (esF (ops.take k)) ops[k]).map En.e).length c43 3 1 (((stepE (esF (ops.take k)) ops[k]).map En.e).map (fun v : Int => [Value.int .i64 v])), Res.row B43 ((stepE (esF (ops.take k)) ops[k]).map En.i).length d43 3 1 (((stepE (esF (ops.take k)) ops[k]).map En.i).map (fun v : Int => [Value.int .i64 v]))] rfl (fun w1 hw1 ho1 => by exact rnext_any b33 A43 c43 B43 d43 (stepE (esF (ops.take k)) ops[k]) w1 ho1 (by first | omega | (simp; omega))) rfl ?_)
      refine s_q (q_move rfl) rfl ?_
      refine s_q (q_extract rfl rfl) rfl ?_
      refine s_q (q_extract rfl rfl) rfl ?_
      refine s_q (q_assign rfl) rfl ?_
      refine s_q (q_assign rfl) rfl ?_
      refine g_nil ?_
      refine g_then ?_
      refine g_seq ?_
      refine g_region ?_
      refine s_q (q_move rfl) rfl ?_
      refine s_q (q_move rfl) rfl ?_
      refine s_q (q_neq rfl rfl) rfl ?_
      refine g_litb 67 (b := false) rfl (by simp) ?_
      refine s_q (q_move rfl) rfl ?_
      refine s_qg (q_move rfl) rfl rfl rfl ?_
      refine s_qg (q_move rfl) rfl rfl rfl ?_
      refine s_qg (q_neq_bool (by kernel_rfl) rfl rfl) rfl rfl rfl ?_
      refine g_litb 71 (b := false) rfl (by simp) ?_
      refine s_q (q_pick_f rfl rfl) rfl ?_
      refine g_nil ?_
      refine g_then ?_
      refine g_false rfl ?_
      refine g_skip ?_
      refine g_blk_n ?_
      refine g_then ?_
      refine g_region ?_
      refine s_q (q_inc rfl rfl (by omega)) rfl ?_
      refine s_q (q_move rfl) rfl ?_
      refine g_nil ?_
      rw [← esF_succ lt_k]
      exact g_again ((k + 1), g43, A43, c43, B43, d43) (by (try dsimp only); exact ⟨(by first | exact lt_k | omega), (by rw [esF_succ lt_k]; exact r43), (by rw [s43]; exact hs)⟩) (by first | omega | (simp only; omega)) (by repeat (first | exact trivial | refine ⟨rfl, ?_⟩)) wok_sub
    · have eq_k : k = ops.length := by have h9 := of_decide_eq_false h2; omega
      refine g_exit ?_
      refine g_then_x (g_then_x (g_blk_hit ?_))
      refine g_then ?_
      refine g_seq ?_
      refine g_region ?_
      refine g_op (g_pure rfl (fun w1 hw1 => alive_any w1) rfl ?_)
      refine s_q (q_assign rfl) rfl ?_
      refine g_nil ?_
      refine g_then ?_
      refine g_ret ?_
      exact fin1 rfl (.tmp rfl) (fun w' hw' => ⟨by first | rfl | (simp_all; done) | (simp_all; omega), hw'.upd⟩) _ (.inl rfl)

theorem main_bucketPlays (v0 : Value) (v1 : Value) (W : World) (a0 : Arg Try.prog W 3 v0) (a1 : Arg Try.prog W 22 v1) : Pur Try.prog 3 [v0, v1] W (.bool true) := by
  obtain ⟨z, rfl, h_z⟩ := Arg.int Try.underlying3 a0
  obtain ⟨A_ops, c_ops, ops, rfl, hle1, hm1, o_ops, k_ops⟩ := Arg.slice Op.c (fun x : Op => x.ok) Try.underlying22 (show Try.prog.cellsOf 31 = 3 by kernel_rfl) (by omega) (openOp) a1
  have h_ops : ops.length ≤ c_ops ∧ c_ops ≤ 9223372036854775807 := ⟨hle1, by unfold maxLen at hm1; omega⟩
  by_cases hz : z < 1 ∨ 4096 < z
  · exact law_bucketPlays_bad z A_ops c_ops ops W hz o_ops h_ops k_ops
  · obtain ⟨n, rfl⟩ : ∃ n : Nat, z = n := ⟨z.toNat, by omega⟩
    exact law_bucketPlays_ok n A_ops c_ops ops W (by omega) o_ops h_ops k_ops

namespace LawBucketPlays
open Go.ChangeShapes Go.WideShapes Go.ChangeAt Go.RowKit Go.Eg
set_option linter.unusedVariables false
theorem own : ownKnob Try.prog.godebug = none := by kernel_rfl
theorem laidOut : laidOutB Try.prog = true := by kernel_rfl
set_option maxRecDepth 100000 in
theorem lifted (os : Os) (started : os.Started) (H : Type) (enc : TypeId × Value → H) :
    ReturnsInHanded {} Try.checked os 3 .any (Rows.bucketPlaysSpec.pre6 enc Try.prog Try.f3 Rows.bucketPlaysRow.domain false) (Rows.bucketPlaysSpec.post enc Try.prog Try.f3 false true false false) := by
  refine returnsInHanded_of_change (C := Try.checked) own started (by kernel_rfl) Try.func3
    (ChangeSpec.witness6 (enc := enc) (C := Try.checked) false ⟨#[], #[.int .i64 0, .slice none 0 0], []⟩ 8 (by kernel_rfl) (by kernel_rfl) (by kernel_rfl) (by kernel_rfl)) ?_
  intro W base args ds gs before hval0 hW hcnd _
  have hval : ∀ (j : Nat) t v, Try.f3.params[j]? = some t → args[j]? = some v → Value.okWide Try.prog W .any base t v := hval0
  have hW' := hW
  obtain ⟨p, q, hA0, hV, rfl, hfz, hnd⟩ := hW
  have hA : DataW.TrodAll enc Try.prog W 0 (fun _ => true) true Try.f3.params.toList args.toList ds p := hA0
  rw [Try.params3] at hA hval
  obtain ⟨v0, vs0, d0, ds0, p0, q0, hargs, rfl, rfl, h0, r0⟩ := trodAll_cons hA
  obtain ⟨v1, vs1, d1, ds1, p1, q1, rfl, rfl, rfl, h1, r1⟩ := trodAll_cons r0
  obtain ⟨rfl, rfl, rfl⟩ := trodAll_nil r1
  obtain rfl : args = #[v0, v1] := by cases args; simp_all
  obtain ⟨rfl, rfl⟩ := trodVars_none hV
  have a0 := Arg.of h0 (hval 0 3 v0 rfl rfl)
  have lt0 : ∀ x ∈ p0, x.block < W.heap.size := by obtain ⟨m, hm⟩ := h0; exact DataW.trod_lt m _ _ _ hm
  have a1 := Arg.of h1 (hval 1 22 v1 rfl rfl)
  have lt1 : ∀ x ∈ p1, x.block < W.heap.size := by obtain ⟨m, hm⟩ := h1; exact DataW.trod_lt m _ _ _ hm
  clear hA0 hval0
  simp only [List.append_nil] at hW'
  refine Calls.mono (main_bucketPlays v0 v1 W a0 a1) ?_
  rintro e W' ⟨v, rfl, rfl, hu⟩
  have bel := hu.below
  have targ := (trodAll_cons_mk (Below.trod laidOut (by kernel_rfl) (of_decide_eq_true (by kernel_rfl)) h0 bel lt0) (trodAll_cons_mk (Below.trod laidOut (by kernel_rfl) (of_decide_eq_true (by kernel_rfl)) h1 bel lt1) trodAll_mk0))
  simp only [List.append_nil] at targ
  exact ⟨_, rfl, _, _, _, [], _, [], hW', trodAll_mk1 (shut_bool Try.underlying4 _), targ, rfl, bel.frame _, fun h => by cases h⟩
theorem over : Rows.bucketPlaysRow.holds Try.pinned (OpenSpec.ofChange Rows.bucketPlaysSpec) :=
  OpenClaim.holds_of_wide 3 Try.f3 rfl rfl rfl rfl rfl rfl rfl ⟨rfl, rfl, rfl, rfl, rfl⟩ rfl rfl rfl rfl rfl (by kernel_rfl) Try.func3 (by kernel_rfl)
    (of_decide_eq_true (by kernel_rfl)) (by unfold Func.isWrapper; first | (rw [if_pos (by decide +kernel)]; kernel_rfl) | (rw [if_neg (by decide +kernel)]; exact ⟨rfl, rfl⟩))
    (fun os started H enc _ => lifted os started H enc)
theorem proved : Rows.BucketPlaysSaid := over
end LawBucketPlays
end Go.Proofs.Ytgbghjnlicldnaa
