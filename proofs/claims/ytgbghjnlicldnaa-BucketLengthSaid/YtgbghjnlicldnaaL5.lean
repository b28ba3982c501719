/- BucketLength: for every two lengths and list of operations the law returns true. No condition. -/
import Derived.Test.YtgbghjnlicldnaaWB
namespace Go.Proofs.Ytgbghjnlicldnaa
open Go.RowKit Go.Eg
set_option synthInstance.maxSize 3000
set_option linter.unusedSimpArgs false
set_option linter.unusedVariables false
set_option maxRecDepth 100000
set_option maxHeartbeats 400000 in
theorem law_bucketLength (a : Nat) (b : Nat) (A_ops : Option Addr) (c_ops : Nat) (ops : List Op) (w : World) (h_a : a < 256) (h_b : b < 256) (o_ops : Old w A_ops ops.length 3 (ops.map Op.c)) (h_ops : ops.length ≤ c_ops ∧ c_ops ≤ 9223372036854775807) (k_ops : ∀ x ∈ ops, (fun x : Op => x.ok) x) : Pur Try.prog 7 [.int .u8 ((a : Nat) : Int), .int .u8 ((b : Nat) : Int), .slice A_ops ops.length c_ops] w (.bool true) := by
  refine g_start Try.func7 rfl 85 rfl (by simp) ([]) [] (WOK.start _ _) _ rfl ?_
  refine g_seq ?_
  refine g_region ?_
  refine s_q (q_assign rfl) rfl ?_
  refine g_nil ?_
  refine g_then ?_
  refine g_seq ?_
  refine g_region ?_
  refine s_q (q_move rfl) rfl ?_
  refine s_q (q_convz (z := ((a : Nat) : Int)) rfl (wi64 (by omega) (by omega))) rfl ?_
  refine s_q (q_inc rfl rfl (by omega)) rfl ?_
  refine g_op (g_ownS [] rfl (fun w1 hw1 ho1 => by have h7 := bnew_any ((a + 1)) w1 (by omega); exact h7) rfl ?_)
  rintro ⟨b14, g14⟩ ⟨r14, s14⟩
  refine ⟨_, _, inferInstance, inferInstance, ?_⟩
  simp only at r14 s14
  refine s_q (q_move rfl) rfl ?_
  refine s_q (q_convz (z := ((b : Nat) : Int)) rfl (wi64 (by omega) (by omega))) rfl ?_
  refine s_q (q_inc rfl rfl (by omega)) rfl ?_
  refine g_op (g_ownS [] rfl (fun w1 hw1 ho1 => by have h7 := bnew_any ((b + 1)) w1 (by omega); exact h7) rfl ?_)
  rintro ⟨b18, g18⟩ ⟨r18, s18⟩
  refine ⟨_, _, inferInstance, inferInstance, ?_⟩
  simp only at r18 s18
  refine s_q (q_assign rfl) rfl ?_
  refine s_q (q_assign rfl) rfl ?_
  refine g_nil ?_
  refine g_then ?_
  refine g_seq ?_
  refine g_seq ?_
  refine g_region ?_
  refine s_q (q_move rfl) rfl ?_
  refine s_q (q_eqp (b := false) rfl rfl rfl) rfl ?_
  refine s_q (q_move rfl) rfl ?_
  refine s_qg (q_move rfl) rfl rfl rfl ?_
  refine s_qg (q_eqp (b := false) rfl rfl rfl) rfl rfl rfl ?_
  refine s_q (q_pick_f rfl rfl) rfl ?_
  refine g_nil ?_
  refine g_then ?_
  refine g_false rfl ?_
  refine g_skip ?_
  refine g_then ?_
  refine g_seq ?_
  refine g_seq ?_
  refine g_region ?_
  refine s_q (q_move rfl) rfl ?_
  refine s_q (q_len rfl) rfl ?_
  refine s_q (q_gtr rfl rfl) rfl ?_
  refine g_nil ?_
  refine g_then ?_
  refine g_cond rfl (fun h1 => ?_) (fun h1 => ?_)
  · refine g_seq ?_
    refine g_region ?_
    refine g_op (g_pure rfl (fun w1 hw1 => alive_any w1) rfl ?_)
    refine s_q (q_assign rfl) rfl ?_
    refine g_nil ?_
    refine g_then ?_
    refine g_ret ?_
    refine g_then_ret ?_
    exact fin1 rfl (.tmp rfl) (fun w' hw' => ⟨by first | rfl | (simp_all; done) | (simp_all; omega), hw'.upd⟩) _ (.inl rfl)
  · have hn100 : ops.length ≤ 100 := by have h9 := of_decide_eq_false h1; omega
    refine g_skip ?_
    refine g_then ?_
    refine g_seq ?_
    refine g_seq ?_
    refine g_region ?_
    refine s_q (q_move rfl) rfl ?_
    refine s_q (q_len rfl) rfl ?_
    refine s_q (q_move rfl) rfl ?_
    refine g_nil ?_
    refine g_then ?_
    refine g_block ?_
    refine g_loopk [6, 7, 8, 29, 30] (fun (x : Nat × BR × BR) => [(31, .int .i64 ((x.1 : Nat) : Int))]) (fun (x : Nat × BR × BR) => [Res.blk b14 57 [Value.slice (BR.A x.2.1) (BR.bs x.2.1).length (BR.cap x.2.1), Value.int .i64 (BR.n x.2.1)], Res.row (BR.A x.2.1) (BR.bs x.2.1).length (BR.cap x.2.1) 47 1 ((BR.bs x.2.1).map (fun k : Bk En => [k.v])), bks 50 2 En.c (BR.bs x.2.1), Res.blk b18 57 [Value.slice (BR.A x.2.2) (BR.bs x.2.2).length (BR.cap x.2.2), Value.int .i64 (BR.n x.2.2)], Res.row (BR.A x.2.2) (BR.bs x.2.2).length (BR.cap x.2.2) 47 1 ((BR.bs x.2.2).map (fun k : Bk En => [k.v])), bks 50 2 En.c (BR.bs x.2.2)]) (fun (x : Nat × BR × BR) => x.1 ≤ ops.length ∧ (x.2.1).Rep (esF (ops.take x.1)) ∧ (x.2.2).Rep (esF (ops.take x.1))) (fun (x : Nat × BR × BR) => ops.length - x.1) (0, g14, g18) (by (try dsimp only); exact ⟨Nat.zero_le _, r14, r18⟩) rfl (by repeat (first | exact trivial | refine ⟨rfl, ?_⟩)) wok_sub ?_
    rintro ⟨k, g1, g2⟩ ⟨le_k, hr1, hr2⟩
    replace le_k : k ≤ ops.length := le_k
    replace hr1 : (g1).Rep (esF (ops.take k)) := hr1
    replace hr2 : (g2).Rep (esF (ops.take k)) := hr2
    refine g_setL (L' := [Res.blk b14 57 [Value.slice (BR.A g1) (BR.bs g1).length (BR.cap g1), Value.int .i64 (BR.n g1)], Res.row (BR.A g1) (BR.bs g1).length (BR.cap g1) 47 1 ((BR.bs g1).map (fun k : Bk En => [k.v])), bks 50 2 En.c (BR.bs g1), Res.blk b18 57 [Value.slice (BR.A g2) (BR.bs g2).length (BR.cap g2), Value.int .i64 (BR.n g2)], Res.row (BR.A g2) (BR.bs g2).length (BR.cap g2) 47 1 ((BR.bs g2).map (fun k : Bk En => [k.v])), bks 50 2 En.c (BR.bs g2)]) rfl ?_
    refine g_val 31 (v' := .int .i64 ((k : Nat) : Int)) rfl rfl ?_
    have hel := esF_len ops k
    refine g_seq ?_
    refine g_region ?_
    refine s_q (q_lss rfl rfl) rfl ?_
    refine g_nil ?_
    refine g_then ?_
    refine g_seq ?_
    refine g_cond rfl (fun h2 => ?_) (fun h2 => ?_)
    · have lt_k : k < ops.length := by have h9 := of_decide_eq_true h2; omega
      refine g_skip ?_
      refine g_then ?_
      refine g_seq ?_
      refine g_block ?_
      refine g_seq ?_
      refine g_region ?_
      refine s_q (q_index (i := k) rfl rfl rfl (o_ops.rdb rfl) (by first | exact lt_k | omega)) rfl ?_
      refine s_q (q_load_ew (i := k) rfl (o_ops.rdb rfl) (map_get (by first | assumption | omega)) rfl) rfl ?_
      refine g_op (g_alloc rfl fun b10 => ?_)
      refine g_op (g_storew rfl rfl rfl rfl rfl ?_)
      refine g_nil ?_
      refine g_then ?_
      refine g_seq ?_
      refine d_regionL (L0 := [Res.blk b10 31 (ops[k]).c]) [] mixed rfl rfl wok_sub ?_
      refine d_q 0 rfl (by kernel_rfl) (q_field rfl) wok_sub rfl (ls' := #[true, false, false, false, false, false, false, false, false, false, false, false, false, false, false, false, false, false, false, false, false, false, false, false, false, false, false, false, false, false, false, false, false, false]) rfl ?_
      refine d_q 1 rfl (by kernel_rfl) (q_load rfl rfl) wok_sub rfl (ls' := #[true, true, false, false, false, false, false, false, false, false, false, false, false, false, false, false, false, false, false, false, false, false, false, false, false, false, false, false, false, false, false, false, false, false]) rfl ?_
      refine d_q 2 rfl (by kernel_rfl) (q_move rfl) wok_sub rfl (ls' := #[true, true, true, false, false, false, false, false, false, false, false, false, false, false, false, false, false, false, false, false, false, false, false, false, false, false, false, false, false, false, false, false, false, false]) rfl ?_
      refine g_split 37 rfl (fun h3 => ?_) (fun h3 => ?_)
      · have hd : (ops[k]).due = true := h3
        refine d_qg 3 rfl (by kernel_rfl) (q_move rfl) rfl rfl wok_sub rfl (ls' := #[true, true, true, true, false, false, false, false, false, false, false, false, false, false, false, false, false, false, false, false, false, false, false, false, false, false, false, false, false, false, false, false, false, false]) rfl ?_
        refine d_qg 4 rfl (by kernel_rfl) (q_field rfl) rfl rfl wok_sub rfl (ls' := #[true, true, true, true, true, false, false, false, false, false, false, false, false, false, false, false, false, false, false, false, false, false, false, false, false, false, false, false, false, false, false, false, false, false]) rfl ?_
        refine d_qg 5 rfl (by kernel_rfl) (q_load rfl rfl) rfl rfl wok_sub rfl (ls' := #[true, true, true, true, true, true, false, false, false, false, false, false, false, false, false, false, false, false, false, false, false, false, false, false, false, false, false, false, false, false, false, false, false, false]) rfl ?_
        refine d_qg 7 rfl (by kernel_rfl) (q_move rfl) rfl rfl wok_sub rfl (ls' := #[true, true, true, true, true, true, false, true, false, false, false, false, false, false, false, false, false, false, false, false, false, false, false, false, false, false, false, false, false, false, false, false, false, false]) rfl ?_
        refine d_qg 8 rfl (by kernel_rfl) (q_field rfl) rfl rfl wok_sub rfl (ls' := #[true, true, true, true, true, true, false, true, true, false, false, false, false, false, false, false, false, false, false, false, false, false, false, false, false, false, false, false, false, false, false, false, false, false]) rfl ?_
        refine d_qg 9 rfl (by kernel_rfl) (q_load rfl rfl) rfl rfl wok_sub rfl (ls' := #[true, true, true, true, true, true, false, true, true, true, false, false, false, false, false, false, false, false, false, false, false, false, false, false, false, false, false, false, false, false, false, false, false, false]) rfl ?_
        refine d_opg 6 rfl (by kernel_rfl) (ls' := #[true, true, true, true, true, true, true, true, true, true, false, false, false, false, false, false, false, false, false, false, false, false, false, false, false, false, false, false, false, false, false, false, false, false]) rfl rfl rfl wok_sub (g_ownS [Res.blk b14 57 [Value.slice (BR.A g1) (BR.bs g1).length (BR.cap g1), Value.int .i64 (BR.n g1)], Res.row (BR.A g1) (BR.bs g1).length (BR.cap g1) 47 1 ((BR.bs g1).map (fun k : Bk En => [k.v])), bks 50 2 En.c (BR.bs g1)] rfl (fun w1 hw1 ho1 => by have h7 := bdue_any b14 g1 (esF (ops.take k)) ((ops[k]).e) w1 ho1 hr1 (by first | omega | (simp; omega)); exact h7) rfl ?_)
        rintro ⟨A41, cap41, g41⟩ ⟨r41, s41⟩
        refine ⟨_, _, inferInstance, inferInstance, ?_⟩
        simp only at r41 s41
        refine d_opg 10 rfl (by kernel_rfl) (ls' := #[true, true, true, true, true, true, true, true, true, true, true, false, false, false, false, false, false, false, false, false, false, false, false, false, false, false, false, false, false, false, false, false, false, false]) rfl rfl rfl wok_sub (g_ownS [Res.blk b18 57 [Value.slice (BR.A g2) (BR.bs g2).length (BR.cap g2), Value.int .i64 (BR.n g2)], Res.row (BR.A g2) (BR.bs g2).length (BR.cap g2) 47 1 ((BR.bs g2).map (fun k : Bk En => [k.v])), bks 50 2 En.c (BR.bs g2)] rfl (fun w1 hw1 ho1 => by have h7 := bdue_any b18 g2 (esF (ops.take k)) ((ops[k]).e) w1 ho1 hr2 (by first | omega | (simp; omega)); exact h7) rfl ?_)
        rintro ⟨A45, cap45, g45⟩ ⟨r45, s45⟩
        refine ⟨_, _, inferInstance, inferInstance, ?_⟩
        simp only at r45 s45
        refine d_opg 11 rfl (by kernel_rfl) (ls' := #[true, true, true, true, true, true, true, true, true, true, true, true, false, false, false, false, false, false, false, false, false, false, false, false, false, false, false, false, false, false, false, false, false, false]) rfl rfl rfl wok_sub (g_pure rfl (fun w1 hw1 => equal_i A41 A45 _ _ _ _ ((dueO (ops[k]).e (esF (ops.take k)))) ((dueO (ops[k]).e (esF (ops.take k)))) w1 (Rdb.toOld (InRow.rdb (A := A41) (els := ((dueO (ops[k]).e (esF (ops.take k)))).map (fun v : Int => [Value.int .i64 v])) (by first | rfl | assumption | (simp; done) | (simp_all; done) | (simp; omega) | (simp_all; omega)) (map_cat (c := (fun v : Int => [Value.int .i64 v])) (fun _ => rfl) _)) hw1) (Rdb.toOld (InRow.rdb (A := A45) (els := ((dueO (ops[k]).e (esF (ops.take k)))).map (fun v : Int => [Value.int .i64 v])) (by first | rfl | assumption | (simp; done) | (simp_all; done) | (simp; omega) | (simp_all; omega)) (map_cat (c := (fun v : Int => [Value.int .i64 v])) (fun _ => rfl) _)) hw1) (row_max (A := A41) hw1)) rfl ?_)
        refine d_qg 12 rfl (by kernel_rfl) (q_not rfl) rfl rfl wok_sub rfl (ls' := #[true, true, true, true, true, true, true, true, true, true, true, true, true, false, false, false, false, false, false, false, false, false, false, false, false, false, false, false, false, false, false, false, false, false]) rfl ?_
        refine g_litb 47 (b := false) rfl (by simp) ?_
        refine d_q 13 rfl (by kernel_rfl) (q_pick_t rfl rfl) wok_sub rfl (ls' := #[true, true, true, true, true, true, true, true, true, true, true, true, true, true, false, false, false, false, false, false, false, false, false, false, false, false, false, false, false, false, false, false, false, false]) rfl ?_
        refine d_q 14 rfl (by kernel_rfl) (q_move rfl) wok_sub rfl (ls' := #[true, true, true, true, true, true, true, true, true, true, true, true, true, true, true, false, false, false, false, false, false, false, false, false, false, false, false, false, false, false, false, false, false, false]) rfl ?_
        refine d_qg 15 rfl (by kernel_rfl) (q_field rfl) rfl rfl wok_sub rfl (ls' := #[true, true, true, true, true, true, true, true, true, true, true, true, true, true, true, true, false, false, false, false, false, false, false, false, false, false, false, false, false, false, false, false, false, false]) rfl ?_
        refine d_qg 16 rfl (by kernel_rfl) (q_load rfl rfl) rfl rfl wok_sub rfl (ls' := #[true, true, true, true, true, true, true, true, true, true, true, true, true, true, true, true, true, false, false, false, false, false, false, false, false, false, false, false, false, false, false, false, false, false]) rfl ?_
        refine d_qg 17 rfl (by kernel_rfl) (q_not rfl) rfl rfl wok_sub rfl (ls' := #[true, true, true, true, true, true, true, true, true, true, true, true, true, true, true, true, true, true, false, false, false, false, false, false, false, false, false, false, false, false, false, false, false, false]) rfl ?_
        refine g_litb 52 (b := false) rfl (by rw [hd]; rfl) ?_
        refine d_qg 18 rfl (by kernel_rfl) (q_move rfl) rfl rfl wok_sub rfl (ls' := #[true, true, true, true, true, true, true, true, true, true, true, true, true, true, true, true, true, true, true, false, false, false, false, false, false, false, false, false, false, false, false, false, false, false]) rfl ?_
        refine d_gf 19 rfl (by kernel_rfl) rfl rfl rfl wok_sub rfl (ls' := #[true, true, true, true, true, true, true, true, true, true, true, true, true, true, true, true, true, true, true, true, false, false, false, false, false, false, false, false, false, false, false, false, false, false]) rfl ?_
        refine d_gf 20 rfl (by kernel_rfl) rfl rfl rfl wok_sub rfl (ls' := #[true, true, true, true, true, true, true, true, true, true, true, true, true, true, true, true, true, true, true, true, true, false, false, false, false, false, false, false, false, false, false, false, false, false]) rfl ?_
        refine d_gf 21 rfl (by kernel_rfl) rfl rfl rfl wok_sub rfl (ls' := #[true, true, true, true, true, true, true, true, true, true, true, true, true, true, true, true, true, true, true, true, true, true, false, false, false, false, false, false, false, false, false, false, false, false]) rfl ?_
        refine d_gf 22 rfl (by kernel_rfl) rfl rfl rfl wok_sub rfl (ls' := #[true, true, true, true, true, true, true, true, true, true, true, true, true, true, true, true, true, true, true, true, true, true, true, false, false, false, false, false, false, false, false, false, false, false]) rfl ?_
        refine d_gf 23 rfl (by kernel_rfl) rfl rfl rfl wok_sub rfl (ls' := #[true, true, true, true, true, true, true, true, true, true, true, true, true, true, true, true, true, true, true, true, true, true, true, true, false, false, false, false, false, false, false, false, false, false]) rfl ?_
        refine d_gf 24 rfl (by kernel_rfl) rfl rfl rfl wok_sub rfl (ls' := #[true, true, true, true, true, true, true, true, true, true, true, true, true, true, true, true, true, true, true, true, true, true, true, true, true, false, false, false, false, false, false, false, false, false]) rfl ?_
        refine d_gf 25 rfl (by kernel_rfl) rfl rfl rfl wok_sub rfl (ls' := #[true, true, true, true, true, true, true, true, true, true, true, true, true, true, true, true, true, true, true, true, true, true, true, true, true, true, false, false, false, false, false, false, false, false]) rfl ?_
        refine d_gf 26 rfl (by kernel_rfl) rfl rfl rfl wok_sub rfl (ls' := #[true, true, true, true, true, true, true, true, true, true, true, true, true, true, true, true, true, true, true, true, true, true, true, true, true, true, true, false, false, false, false, false, false, false]) rfl ?_
        refine d_gf 27 rfl (by kernel_rfl) rfl rfl rfl wok_sub rfl (ls' := #[true, true, true, true, true, true, true, true, true, true, true, true, true, true, true, true, true, true, true, true, true, true, true, true, true, true, true, true, false, false, false, false, false, false]) rfl ?_
        refine d_gf 28 rfl (by kernel_rfl) rfl rfl rfl wok_sub rfl (ls' := #[true, true, true, true, true, true, true, true, true, true, true, true, true, true, true, true, true, true, true, true, true, true, true, true, true, true, true, true, true, false, false, false, false, false]) rfl ?_
        refine d_gf 29 rfl (by kernel_rfl) rfl rfl rfl wok_sub rfl (ls' := #[true, true, true, true, true, true, true, true, true, true, true, true, true, true, true, true, true, true, true, true, true, true, true, true, true, true, true, true, true, true, false, false, false, false]) rfl ?_
        refine d_gf 30 rfl (by kernel_rfl) rfl rfl rfl wok_sub rfl (ls' := #[true, true, true, true, true, true, true, true, true, true, true, true, true, true, true, true, true, true, true, true, true, true, true, true, true, true, true, true, true, true, true, false, false, false]) rfl ?_
        refine d_gf 31 rfl (by kernel_rfl) rfl rfl rfl wok_sub rfl (ls' := #[true, true, true, true, true, true, true, true, true, true, true, true, true, true, true, true, true, true, true, true, true, true, true, true, true, true, true, true, true, true, true, true, false, false]) rfl ?_
        refine d_qg 32 rfl (by kernel_rfl) (q_pick_f rfl rfl) rfl rfl wok_sub rfl (ls' := #[true, true, true, true, true, true, true, true, true, true, true, true, true, true, true, true, true, true, true, true, true, true, true, true, true, true, true, true, true, true, true, true, true, false]) rfl ?_
        refine d_q 33 rfl (by kernel_rfl) (q_pick_f rfl rfl) wok_sub rfl (ls' := #[true, true, true, true, true, true, true, true, true, true, true, true, true, true, true, true, true, true, true, true, true, true, true, true, true, true, true, true, true, true, true, true, true, true]) rfl ?_
        refine d_end (by kernel_rfl) (.inr wok_sub) ?_
        refine g_then ?_
        refine g_false rfl ?_
        refine g_skip ?_
        refine g_blk_n ?_
        refine g_then ?_
        refine g_region ?_
        refine s_q (q_inc rfl rfl (by omega)) rfl ?_
        refine s_q (q_move rfl) rfl ?_
        refine g_nil ?_
        exact g_again ((k + 1), g41, g45) (by (try dsimp only); exact ⟨(by first | exact lt_k | omega), (by rw [esF_succ lt_k, stepE, if_pos hd]; exact r41), (by rw [esF_succ lt_k, stepE, if_pos hd]; exact r45)⟩) (by first | omega | (simp only; omega)) (by repeat (first | exact trivial | refine ⟨rfl, ?_⟩)) wok_sub
      · have hd : ¬ (ops[k]).due = true := by rw [h3]; decide
        refine d_gf 3 rfl (by kernel_rfl) rfl rfl rfl wok_sub rfl (ls' := #[true, true, true, true, false, false, false, false, false, false, false, false, false, false, false, false, false, false, false, false, false, false, false, false, false, false, false, false, false, false, false, false, false, false]) rfl ?_
        refine d_gf 4 rfl (by kernel_rfl) rfl rfl rfl wok_sub rfl (ls' := #[true, true, true, true, true, false, false, false, false, false, false, false, false, false, false, false, false, false, false, false, false, false, false, false, false, false, false, false, false, false, false, false, false, false]) rfl ?_
        refine d_gf 5 rfl (by kernel_rfl) rfl rfl rfl wok_sub rfl (ls' := #[true, true, true, true, true, true, false, false, false, false, false, false, false, false, false, false, false, false, false, false, false, false, false, false, false, false, false, false, false, false, false, false, false, false]) rfl ?_
        refine d_gf 6 rfl (by kernel_rfl) rfl rfl rfl wok_sub rfl (ls' := #[true, true, true, true, true, true, true, false, false, false, false, false, false, false, false, false, false, false, false, false, false, false, false, false, false, false, false, false, false, false, false, false, false, false]) rfl ?_
        refine d_gf 7 rfl (by kernel_rfl) rfl rfl rfl wok_sub rfl (ls' := #[true, true, true, true, true, true, true, true, false, false, false, false, false, false, false, false, false, false, false, false, false, false, false, false, false, false, false, false, false, false, false, false, false, false]) rfl ?_
        refine d_gf 8 rfl (by kernel_rfl) rfl rfl rfl wok_sub rfl (ls' := #[true, true, true, true, true, true, true, true, true, false, false, false, false, false, false, false, false, false, false, false, false, false, false, false, false, false, false, false, false, false, false, false, false, false]) rfl ?_
        refine d_gf 9 rfl (by kernel_rfl) rfl rfl rfl wok_sub rfl (ls' := #[true, true, true, true, true, true, true, true, true, true, false, false, false, false, false, false, false, false, false, false, false, false, false, false, false, false, false, false, false, false, false, false, false, false]) rfl ?_
        refine d_gf 10 rfl (by kernel_rfl) rfl rfl rfl wok_sub rfl (ls' := #[true, true, true, true, true, true, true, true, true, true, true, false, false, false, false, false, false, false, false, false, false, false, false, false, false, false, false, false, false, false, false, false, false, false]) rfl ?_
        refine d_gf 11 rfl (by kernel_rfl) rfl rfl rfl wok_sub rfl (ls' := #[true, true, true, true, true, true, true, true, true, true, true, true, false, false, false, false, false, false, false, false, false, false, false, false, false, false, false, false, false, false, false, false, false, false]) rfl ?_
        refine d_gf 12 rfl (by kernel_rfl) rfl rfl rfl wok_sub rfl (ls' := #[true, true, true, true, true, true, true, true, true, true, true, true, true, false, false, false, false, false, false, false, false, false, false, false, false, false, false, false, false, false, false, false, false, false]) rfl ?_
        refine d_q 13 rfl (by kernel_rfl) (q_pick_f rfl rfl) wok_sub rfl (ls' := #[true, true, true, true, true, true, true, true, true, true, true, true, true, true, false, false, false, false, false, false, false, false, false, false, false, false, false, false, false, false, false, false, false, false]) rfl ?_
        refine d_q 14 rfl (by kernel_rfl) (q_move rfl) wok_sub rfl (ls' := #[true, true, true, true, true, true, true, true, true, true, true, true, true, true, true, false, false, false, false, false, false, false, false, false, false, false, false, false, false, false, false, false, false, false]) rfl ?_
        refine d_qg 15 rfl (by kernel_rfl) (q_field rfl) rfl rfl wok_sub rfl (ls' := #[true, true, true, true, true, true, true, true, true, true, true, true, true, true, true, true, false, false, false, false, false, false, false, false, false, false, false, false, false, false, false, false, false, false]) rfl ?_
        refine d_qg 16 rfl (by kernel_rfl) (q_load rfl rfl) rfl rfl wok_sub rfl (ls' := #[true, true, true, true, true, true, true, true, true, true, true, true, true, true, true, true, true, false, false, false, false, false, false, false, false, false, false, false, false, false, false, false, false, false]) rfl ?_
        refine d_qg 17 rfl (by kernel_rfl) (q_not rfl) rfl rfl wok_sub rfl (ls' := #[true, true, true, true, true, true, true, true, true, true, true, true, true, true, true, true, true, true, false, false, false, false, false, false, false, false, false, false, false, false, false, false, false, false]) rfl ?_
        refine g_litb 52 (b := true) rfl (by simp [hd]) ?_
        refine d_qg 18 rfl (by kernel_rfl) (q_move rfl) rfl rfl wok_sub rfl (ls' := #[true, true, true, true, true, true, true, true, true, true, true, true, true, true, true, true, true, true, true, false, false, false, false, false, false, false, false, false, false, false, false, false, false, false]) rfl ?_
        refine d_qg 19 rfl (by kernel_rfl) (q_move rfl) rfl rfl wok_sub rfl (ls' := #[true, true, true, true, true, true, true, true, true, true, true, true, true, true, true, true, true, true, true, true, false, false, false, false, false, false, false, false, false, false, false, false, false, false]) rfl ?_
        refine d_qg 20 rfl (by kernel_rfl) (q_field rfl) rfl rfl wok_sub rfl (ls' := #[true, true, true, true, true, true, true, true, true, true, true, true, true, true, true, true, true, true, true, true, true, false, false, false, false, false, false, false, false, false, false, false, false, false]) rfl ?_
        refine d_qg 21 rfl (by kernel_rfl) (q_load rfl rfl) rfl rfl wok_sub rfl (ls' := #[true, true, true, true, true, true, true, true, true, true, true, true, true, true, true, true, true, true, true, true, true, true, false, false, false, false, false, false, false, false, false, false, false, false]) rfl ?_
        refine d_qg 22 rfl (by kernel_rfl) (q_field rfl) rfl rfl wok_sub rfl (ls' := #[true, true, true, true, true, true, true, true, true, true, true, true, true, true, true, true, true, true, true, true, true, true, true, false, false, false, false, false, false, false, false, false, false, false]) rfl ?_
        refine d_qg 23 rfl (by kernel_rfl) (q_load rfl rfl) rfl rfl wok_sub rfl (ls' := #[true, true, true, true, true, true, true, true, true, true, true, true, true, true, true, true, true, true, true, true, true, true, true, true, false, false, false, false, false, false, false, false, false, false]) rfl ?_
        refine d_qg 25 rfl (by kernel_rfl) (q_move rfl) rfl rfl wok_sub rfl (ls' := #[true, true, true, true, true, true, true, true, true, true, true, true, true, true, true, true, true, true, true, true, true, true, true, true, false, true, false, false, false, false, false, false, false, false]) rfl ?_
        refine d_qg 26 rfl (by kernel_rfl) (q_field rfl) rfl rfl wok_sub rfl (ls' := #[true, true, true, true, true, true, true, true, true, true, true, true, true, true, true, true, true, true, true, true, true, true, true, true, false, true, true, false, false, false, false, false, false, false]) rfl ?_
        refine d_qg 27 rfl (by kernel_rfl) (q_load rfl rfl) rfl rfl wok_sub rfl (ls' := #[true, true, true, true, true, true, true, true, true, true, true, true, true, true, true, true, true, true, true, true, true, true, true, true, false, true, true, true, false, false, false, false, false, false]) rfl ?_
        refine d_qg 28 rfl (by kernel_rfl) (q_field rfl) rfl rfl wok_sub rfl (ls' := #[true, true, true, true, true, true, true, true, true, true, true, true, true, true, true, true, true, true, true, true, true, true, true, true, false, true, true, true, true, false, false, false, false, false]) rfl ?_
        refine d_qg 29 rfl (by kernel_rfl) (q_load rfl rfl) rfl rfl wok_sub rfl (ls' := #[true, true, true, true, true, true, true, true, true, true, true, true, true, true, true, true, true, true, true, true, true, true, true, true, false, true, true, true, true, true, false, false, false, false]) rfl ?_
        refine d_opg 24 rfl (by kernel_rfl) (ls' := #[true, true, true, true, true, true, true, true, true, true, true, true, true, true, true, true, true, true, true, true, true, true, true, true, true, true, true, true, true, true, false, false, false, false]) rfl rfl rfl wok_sub (g_ownS [Res.blk b14 57 [Value.slice (BR.A g1) (BR.bs g1).length (BR.cap g1), Value.int .i64 (BR.n g1)], Res.row (BR.A g1) (BR.bs g1).length (BR.cap g1) 47 1 ((BR.bs g1).map (fun k : Bk En => [k.v])), bks 50 2 En.c (BR.bs g1)] rfl (fun w1 hw1 ho1 => by have h7 := bput_any b14 g1 (esF (ops.take k)) ((ops[k]).e) ((ops[k]).i) w1 ho1 hr1 (by first | omega | (simp; omega)); exact h7) rfl ?_)
        rintro g59 ⟨r59, s59⟩
        refine ⟨_, _, inferInstance, inferInstance, ?_⟩
        refine d_opg 30 rfl (by kernel_rfl) (ls' := #[true, true, true, true, true, true, true, true, true, true, true, true, true, true, true, true, true, true, true, true, true, true, true, true, true, true, true, true, true, true, true, false, false, false]) rfl rfl rfl wok_sub (g_ownS [Res.blk b18 57 [Value.slice (BR.A g2) (BR.bs g2).length (BR.cap g2), Value.int .i64 (BR.n g2)], Res.row (BR.A g2) (BR.bs g2).length (BR.cap g2) 47 1 ((BR.bs g2).map (fun k : Bk En => [k.v])), bks 50 2 En.c (BR.bs g2)] rfl (fun w1 hw1 ho1 => by have h7 := bput_any b18 g2 (esF (ops.take k)) ((ops[k]).e) ((ops[k]).i) w1 ho1 hr2 (by first | omega | (simp; omega)); exact h7) rfl ?_)
        rintro g65 ⟨r65, s65⟩
        refine ⟨_, _, inferInstance, inferInstance, ?_⟩
        refine d_qg 31 rfl (by kernel_rfl) (q_neq_bool (by kernel_rfl) rfl rfl) rfl rfl wok_sub rfl (ls' := #[true, true, true, true, true, true, true, true, true, true, true, true, true, true, true, true, true, true, true, true, true, true, true, true, true, true, true, true, true, true, true, true, false, false]) rfl ?_
        refine g_litb 66 (b := false) rfl (by simp) ?_
        refine d_qg 32 rfl (by kernel_rfl) (q_pick_t rfl rfl) rfl rfl wok_sub rfl (ls' := #[true, true, true, true, true, true, true, true, true, true, true, true, true, true, true, true, true, true, true, true, true, true, true, true, true, true, true, true, true, true, true, true, true, false]) rfl ?_
        refine d_q 33 rfl (by kernel_rfl) (q_pick_f rfl rfl) wok_sub rfl (ls' := #[true, true, true, true, true, true, true, true, true, true, true, true, true, true, true, true, true, true, true, true, true, true, true, true, true, true, true, true, true, true, true, true, true, true]) rfl ?_
        refine d_end (by kernel_rfl) (.inr wok_sub) ?_
        refine g_then ?_
        refine g_false rfl ?_
        refine g_skip ?_
        refine g_blk_n ?_
        refine g_then ?_
        refine g_region ?_
        refine s_q (q_inc rfl rfl (by omega)) rfl ?_
        refine s_q (q_move rfl) rfl ?_
        refine g_nil ?_
        exact g_again ((k + 1), g59, g65) (by (try dsimp only); exact ⟨(by first | exact lt_k | omega), (by rw [esF_succ lt_k, stepE, if_neg hd]; exact r59), (by rw [esF_succ lt_k, stepE, if_neg hd]; exact r65)⟩) (by first | omega | (simp only; omega)) (by repeat (first | exact trivial | refine ⟨rfl, ?_⟩)) wok_sub
    · have eq_k : k = ops.length := by have h9 := of_decide_eq_false h2; omega
      rw [eq_k, List.take_length] at hr1 hr2
      have hel2 : (esF ops).length ≤ 100 := by have h9 := esF_len ops ops.length; rw [List.take_length] at h9; omega
      refine g_exit ?_
      refine g_then_x (g_then_x (g_blk_hit ?_))
      refine g_then ?_
      refine g_seq ?_
      refine g_region ?_
      refine g_op (g_pure rfl (fun w1 hw1 => alive_any w1) rfl ?_)
      refine s_q (q_move rfl) rfl ?_
      refine s_qg (q_move rfl) rfl rfl rfl ?_
      refine g_gt rfl rfl (g_keep [Res.blk b14 57 [Value.slice (BR.A g1) (BR.bs g1).length (BR.cap g1), Value.int .i64 (BR.n g1)], Res.row (BR.A g1) (BR.bs g1).length (BR.cap g1) 47 1 ((BR.bs g1).map (fun k : Bk En => [k.v])), bks 50 2 En.c (BR.bs g1)] rfl (fun w1 hw1 ho1 => by exact blen_any b14 g1 (esF ops) w1 ho1 hr1) rfl ?_)
      refine s_qg (q_move rfl) rfl rfl rfl ?_
      refine g_gt rfl rfl (g_keep [Res.blk b18 57 [Value.slice (BR.A g2) (BR.bs g2).length (BR.cap g2), Value.int .i64 (BR.n g2)], Res.row (BR.A g2) (BR.bs g2).length (BR.cap g2) 47 1 ((BR.bs g2).map (fun k : Bk En => [k.v])), bks 50 2 En.c (BR.bs g2)] rfl (fun w1 hw1 ho1 => by exact blen_any b18 g2 (esF ops) w1 ho1 hr2) rfl ?_)
      refine s_qg (q_eql rfl rfl) rfl rfl rfl ?_
      refine g_litb 76 (b := true) rfl (by simp) ?_
      refine s_q (q_pick_t rfl rfl) rfl ?_
      refine s_q (q_move rfl) rfl ?_
      refine s_qg (q_move rfl) rfl rfl rfl ?_
      refine g_gt rfl rfl (g_ownS [Res.blk b14 57 [Value.slice (BR.A g1) (BR.bs g1).length (BR.cap g1), Value.int .i64 (BR.n g1)], Res.row (BR.A g1) (BR.bs g1).length (BR.cap g1) 47 1 ((BR.bs g1).map (fun k : Bk En => [k.v])), bks 50 2 En.c (BR.bs g1)] rfl (fun w1 hw1 ho1 => by have h7 := ball_any b14 g1 (esF ops) w1 ho1 hr1 (by first | omega | (simp; omega)); exact h7) rfl ?_)
      rintro ⟨A80, cap80, l80⟩ ⟨sl80, el80, ll80⟩
      refine ⟨_, _, inferInstance, inferInstance, ?_⟩
      simp only at sl80 el80 ll80
      refine s_qg (q_move rfl) rfl rfl rfl ?_
      refine g_gt rfl rfl (g_ownS [Res.blk b18 57 [Value.slice (BR.A g2) (BR.bs g2).length (BR.cap g2), Value.int .i64 (BR.n g2)], Res.row (BR.A g2) (BR.bs g2).length (BR.cap g2) 47 1 ((BR.bs g2).map (fun k : Bk En => [k.v])), bks 50 2 En.c (BR.bs g2)] rfl (fun w1 hw1 ho1 => by have h7 := ball_any b18 g2 (esF ops) w1 ho1 hr2 (by first | omega | (simp; omega)); exact h7) rfl ?_)
      rintro ⟨A82, cap82, l82⟩ ⟨sl82, el82, ll82⟩
      refine ⟨_, _, inferInstance, inferInstance, ?_⟩
      simp only at sl82 el82 ll82
      refine g_gt rfl rfl (g_pure rfl (fun w1 hw1 => equal_en A80 A82 _ _ _ _ (l80) (l82) w1 (Rdb.toOld (InRow.rdb (A := A80) (els := (l80).map En.c) (by first | rfl | assumption | (simp; done) | (simp_all; done) | (simp; omega) | (simp_all; omega)) (map_cat (c := En.c) (fun _ => rfl) _)) hw1) (Rdb.toOld (InRow.rdb (A := A82) (els := (l82).map En.c) (by first | rfl | assumption | (simp; done) | (simp_all; done) | (simp; omega) | (simp_all; omega)) (map_cat (c := En.c) (fun _ => rfl) _)) hw1) (row_max (A := A80) hw1)) rfl ?_)
      refine g_litb 83 (b := true) rfl (decide_eq_true (Srt.eq sl80 sl82 (el80.trans el82.symm))) ?_
      refine s_q (q_pick_t rfl rfl) rfl ?_
      refine s_q (q_assign rfl) rfl ?_
      refine g_nil ?_
      refine g_then ?_
      refine g_ret ?_
      exact fin1 rfl (.tmp rfl) (fun w' hw' => ⟨by first | rfl | (simp_all; done) | (simp_all; omega), hw'.upd⟩) _ (.inl rfl)

theorem main_bucketLength (v0 : Value) (v1 : Value) (v2 : Value) (W : World) (a0 : Arg Try.prog W 5 v0) (a1 : Arg Try.prog W 5 v1) (a2 : Arg Try.prog W 22 v2) : Pur Try.prog 7 [v0, v1, v2] W (.bool true) := by
  obtain ⟨z0, rfl, hz0⟩ := Arg.int Try.underlying5 a0
  obtain ⟨a, rfl⟩ : ∃ q : Nat, z0 = q := ⟨z0.toNat, by have h0 : 0 ≤ z0 ∧ z0 ≤ 255 := hz0; omega⟩
  have h_a : a < 256 := by have h0 : 0 ≤ ((a : Nat) : Int) ∧ ((a : Nat) : Int) ≤ 255 := hz0; omega
  obtain ⟨z1, rfl, hz1⟩ := Arg.int Try.underlying5 a1
  obtain ⟨b, rfl⟩ : ∃ q : Nat, z1 = q := ⟨z1.toNat, by have h0 : 0 ≤ z1 ∧ z1 ≤ 255 := hz1; omega⟩
  have h_b : b < 256 := by have h0 : 0 ≤ ((b : Nat) : Int) ∧ ((b : Nat) : Int) ≤ 255 := hz1; omega
  obtain ⟨A_ops, c_ops, ops, rfl, hle2, hm2, o_ops, k_ops⟩ := Arg.slice Op.c (fun x : Op => x.ok) Try.underlying22 (show Try.prog.cellsOf 31 = 3 by kernel_rfl) (by omega) (openOp) a2
  have h_ops : ops.length ≤ c_ops ∧ c_ops ≤ 9223372036854775807 := ⟨hle2, by unfold maxLen at hm2; omega⟩
  exact law_bucketLength a b A_ops c_ops ops W h_a h_b o_ops h_ops k_ops

namespace LawBucketLength
open Go.ChangeShapes Go.WideShapes Go.ChangeAt Go.RowKit Go.Eg
set_option linter.unusedVariables false
theorem own : ownKnob Try.prog.godebug = none := by kernel_rfl
theorem laidOut : laidOutB Try.prog = true := by kernel_rfl
set_option maxRecDepth 100000 in
theorem lifted (os : Os) (started : os.Started) (H : Type) (enc : TypeId × Value → H) :
    ReturnsInHanded {} Try.checked os 7 .any (Rows.bucketLengthSpec.pre6 enc Try.prog Try.f7 Rows.bucketLengthRow.domain false) (Rows.bucketLengthSpec.post enc Try.prog Try.f7 false true false false) := by
  refine returnsInHanded_of_change (C := Try.checked) own started (by kernel_rfl) Try.func7
    (ChangeSpec.witness6 (enc := enc) (C := Try.checked) false ⟨#[], #[.int .u8 0, .int .u8 0, .slice none 0 0], []⟩ 8 (by kernel_rfl) (by kernel_rfl) (by kernel_rfl) (by kernel_rfl)) ?_
  intro W base args ds gs before hval0 hW hcnd _
  have hval : ∀ (j : Nat) t v, Try.f7.params[j]? = some t → args[j]? = some v → Value.okWide Try.prog W .any base t v := hval0
  have hW' := hW
  obtain ⟨p, q, hA0, hV, rfl, hfz, hnd⟩ := hW
  have hA : DataW.TrodAll enc Try.prog W 0 (fun _ => true) true Try.f7.params.toList args.toList ds p := hA0
  rw [Try.params7] at hA hval
  obtain ⟨v0, vs0, d0, ds0, p0, q0, hargs, rfl, rfl, h0, r0⟩ := trodAll_cons hA
  obtain ⟨v1, vs1, d1, ds1, p1, q1, rfl, rfl, rfl, h1, r1⟩ := trodAll_cons r0
  obtain ⟨v2, vs2, d2, ds2, p2, q2, rfl, rfl, rfl, h2, r2⟩ := trodAll_cons r1
  obtain ⟨rfl, rfl, rfl⟩ := trodAll_nil r2
  obtain rfl : args = #[v0, v1, v2] := by cases args; simp_all
  obtain ⟨rfl, rfl⟩ := trodVars_none hV
  have a0 := Arg.of h0 (hval 0 5 v0 rfl rfl)
  have lt0 : ∀ x ∈ p0, x.block < W.heap.size := by obtain ⟨m, hm⟩ := h0; exact DataW.trod_lt m _ _ _ hm
  have a1 := Arg.of h1 (hval 1 5 v1 rfl rfl)
  have lt1 : ∀ x ∈ p1, x.block < W.heap.size := by obtain ⟨m, hm⟩ := h1; exact DataW.trod_lt m _ _ _ hm
  have a2 := Arg.of h2 (hval 2 22 v2 rfl rfl)
  have lt2 : ∀ x ∈ p2, x.block < W.heap.size := by obtain ⟨m, hm⟩ := h2; exact DataW.trod_lt m _ _ _ hm
  clear hA0 hval0
  simp only [List.append_nil] at hW'
  refine Calls.mono (main_bucketLength v0 v1 v2 W a0 a1 a2) ?_
  rintro e W' ⟨v, rfl, rfl, hu⟩
  have bel := hu.below
  have targ := (trodAll_cons_mk (Below.trod laidOut (by kernel_rfl) (of_decide_eq_true (by kernel_rfl)) h0 bel lt0) (trodAll_cons_mk (Below.trod laidOut (by kernel_rfl) (of_decide_eq_true (by kernel_rfl)) h1 bel lt1) (trodAll_cons_mk (Below.trod laidOut (by kernel_rfl) (of_decide_eq_true (by kernel_rfl)) h2 bel lt2) trodAll_mk0)))
  simp only [List.append_nil] at targ
  exact ⟨_, rfl, _, _, _, [], _, [], hW', trodAll_mk1 (shut_bool Try.underlying4 _), targ, rfl, bel.frame _, fun h => by cases h⟩
theorem over : Rows.bucketLengthRow.holds Try.pinned (OpenSpec.ofChange Rows.bucketLengthSpec) :=
  OpenClaim.holds_of_wide 7 Try.f7 rfl rfl rfl rfl rfl rfl rfl ⟨rfl, rfl, rfl, rfl, rfl⟩ rfl rfl rfl rfl rfl (by kernel_rfl) Try.func7 (by kernel_rfl)
    (of_decide_eq_true (by kernel_rfl)) (by unfold Func.isWrapper; first | (rw [if_pos (by decide +kernel)]; kernel_rfl) | (rw [if_neg (by decide +kernel)]; exact ⟨rfl, rfl⟩))
    (fun os started H enc _ => lifted os started H enc)
theorem proved : Rows.BucketLengthSaid := over
end LawBucketLength
end Go.Proofs.Ytgbghjnlicldnaa
