/- BucketLoads: for every length, list of operations and number the law returns true. No condition. -/
import Derived.Test.YtgbghjnlicldnaaW5
namespace Go.Proofs.Ytgbghjnlicldnaa
open Go.RowKit Go.Eg
set_option synthInstance.maxSize 3000
set_option linter.unusedSimpArgs false
set_option linter.unusedVariables false
set_option maxRecDepth 100000
def sumL (m : Nat) (es : List En) (q : Nat) : Nat := ((List.range q).flatMap fun k : Nat => es.filter fun x => decide (x.e % (m : Int) = k)).length
theorem sumL_succ (m : Nat) (es : List En) (q : Nat) : sumL m es (q + 1) = sumL m es q + (es.filter fun x => decide (x.e % (m : Int) = ((q : Nat) : Int))).length := by
  unfold sumL; rw [List.range_succ, List.flatMap_append, List.length_append]; simp
theorem sumL_all {m : Nat} {es : List En} (hm : 0 < m) : sumL m es m = es.length := by
  unfold sumL
  refine (perm_flat fun x _ => ⟨(x.e % (m : Int)).toNat, ?_, ?_⟩).length_eq
  · have h1 := Int.emod_lt_of_pos x.e (show (0 : Int) < (m : Int) by omega)
    have h2 := Int.emod_nonneg x.e (show (m : Int) ≠ 0 by omega)
    omega
  · have h2 := Int.emod_nonneg x.e (show (m : Int) ≠ 0 by omega)
    omega

set_option maxHeartbeats 400000 in
theorem law_bucketLoads (len : Nat) (A_ops : Option Addr) (c_ops : Nat) (ops : List Op) (bn : Int) (w : World) (h_len : len < 256) (o_ops : Old w A_ops ops.length 3 (ops.map Op.c)) (h_ops : ops.length ≤ c_ops ∧ c_ops ≤ 9223372036854775807) (k_ops : ∀ x ∈ ops, (fun x : Op => x.ok) x) (h_bn : -9223372036854775808 ≤ bn ∧ bn ≤ 9223372036854775807) : Pur Try.prog 4 [.int .u8 ((len : Nat) : Int), .slice A_ops ops.length c_ops, .int .i64 bn] w (.bool true) := by
  refine g_start Try.func4 rfl 84 rfl (by simp) ([]) [] (WOK.start _ _) _ rfl ?_
  refine g_seq ?_
  refine g_region ?_
  refine s_q (q_assign rfl) rfl ?_
  refine g_nil ?_
  refine g_then ?_
  refine g_seq ?_
  refine g_region ?_
  refine s_q (q_move rfl) rfl ?_
  refine s_q (q_convz (z := ((len : Nat) : Int)) rfl (wi64 (by omega) (by omega))) rfl ?_
  refine s_q (q_remn (a := len) (b := 12) rfl rfl (by first | omega | (simp; omega) | (simp_all; omega))) rfl ?_
  refine s_q (q_inc rfl rfl (by omega)) rfl ?_
  refine s_q (q_assign rfl) rfl ?_
  refine g_nil ?_
  refine g_then ?_
  refine g_seq ?_
  refine g_region ?_
  refine s_q (q_move rfl) rfl ?_
  refine g_op (g_ownS [] rfl (fun w1 hw1 ho1 => by have h7 := bnew_any (((len % 12) + 1)) w1 (by omega); exact h7) rfl ?_)
  rintro ⟨b19, g19⟩ ⟨r19, s19⟩
  refine ⟨_, _, inferInstance, inferInstance, ?_⟩
  simp only at r19 s19
  refine s_q (q_build (c := [Value.slice none 0 0, Value.slice none 0 0]) rfl rfl) rfl ?_
  refine g_op (g_box (c := [Value.slice none 0 0, Value.slice none 0 0]) rfl rfl rfl fun b21 => ?_)
  refine g_blkc (b := b21) [Value.slice none ((esF (ops.take 0)).map En.e).length 0, Value.slice none ((esF (ops.take 0)).map En.i).length 0] rfl ?_
  refine g_noresN none 3 1 ((esF (ops.take 0)).map En.e).length (((esF (ops.take 0)).map En.e).map (fun v : Int => [Value.int .i64 v])) rfl rfl ?_
  refine g_noresN none 3 1 ((esF (ops.take 0)).map En.i).length (((esF (ops.take 0)).map En.i).map (fun v : Int => [Value.int .i64 v])) rfl rfl ?_
  refine s_q (q_assign rfl) rfl ?_
  refine s_q (q_assign rfl) rfl ?_
  refine g_nil ?_
  refine g_then ?_
  refine g_seq ?_
  refine g_seq ?_
  refine g_region ?_
  refine s_q (q_move rfl) rfl ?_
  refine s_q (q_eqp (b := false) rfl rfl rfl) rfl ?_
  refine g_nil ?_
  refine g_then ?_
  refine g_false rfl ?_
  refine g_skip ?_
  refine g_then ?_
  refine g_seq ?_
  refine g_seq ?_
  refine g_region ?_
  refine s_q (q_move rfl) rfl ?_
  refine s_q (q_len rfl) rfl ?_
  refine s_q (q_gtr rfl rfl) rfl ?_
  refine g_nil ?_
  refine g_then ?_
  refine g_cond rfl (fun h1 => ?_) (fun h1 => ?_)
  · refine g_seq ?_
    refine g_region ?_
    refine g_op (g_pure rfl (fun w1 hw1 => alive_any w1) rfl ?_)
    refine s_q (q_assign rfl) rfl ?_
    refine g_nil ?_
    refine g_then ?_
    refine g_ret ?_
    refine g_then_ret ?_
    exact fin1 rfl (.tmp rfl) (fun w' hw' => ⟨by first | rfl | (simp_all; done) | (simp_all; omega), hw'.upd⟩) _ (.inl rfl)
  · have hn100 : ops.length ≤ 100 := by have h9 := of_decide_eq_false h1; omega
    refine g_skip ?_
    refine g_then ?_
    refine g_seq ?_
    refine g_seq ?_
    refine g_region ?_
    refine s_q (q_move rfl) rfl ?_
    refine s_q (q_len rfl) rfl ?_
    refine s_q (q_move rfl) rfl ?_
    refine g_nil ?_
    refine g_then ?_
    refine g_block ?_
    refine g_loopk [2, 6, 7, 8, 9, 28, 29] (fun (x : Nat × BR × Option Addr × Nat × Option Addr × Nat) => [(30, .int .i64 ((x.1 : Nat) : Int))]) (fun (x : Nat × BR × Option Addr × Nat × Option Addr × Nat) => [Res.blk b19 57 [Value.slice (BR.A x.2.1) (BR.bs x.2.1).length (BR.cap x.2.1), Value.int .i64 (BR.n x.2.1)], Res.row (BR.A x.2.1) (BR.bs x.2.1).length (BR.cap x.2.1) 47 1 ((BR.bs x.2.1).map (fun k : Bk En => [k.v])), bks 50 2 En.c (BR.bs x.2.1), Res.blk b21 29 [Value.slice x.2.2.1 ((esF (ops.take x.1)).map En.e).length x.2.2.2.1, Value.slice x.2.2.2.2.1 ((esF (ops.take x.1)).map En.i).length x.2.2.2.2.2], Res.row x.2.2.1 ((esF (ops.take x.1)).map En.e).length x.2.2.2.1 3 1 (((esF (ops.take x.1)).map En.e).map (fun v : Int => [Value.int .i64 v])), Res.row x.2.2.2.2.1 ((esF (ops.take x.1)).map En.i).length x.2.2.2.2.2 3 1 (((esF (ops.take x.1)).map En.i).map (fun v : Int => [Value.int .i64 v]))]) (fun (x : Nat × BR × Option Addr × Nat × Option Addr × Nat) => x.1 ≤ ops.length ∧ (x.2.1).Rep (esF (ops.take x.1)) ∧ (x.2.1).bs.length = g19.bs.length) (fun (x : Nat × BR × Option Addr × Nat × Option Addr × Nat) => ops.length - x.1) (0, g19, none, 0, none, 0) (by (try dsimp only); exact ⟨Nat.zero_le _, r19, rfl⟩) rfl (by repeat (first | exact trivial | refine ⟨rfl, ?_⟩)) wok_sub ?_
    rintro ⟨k, g1, A0, c0, A1, c1⟩ ⟨le_k, hr, hs⟩
    replace le_k : k ≤ ops.length := le_k
    replace hr : (g1).Rep (esF (ops.take k)) := hr
    replace hs : (g1).bs.length = g19.bs.length := hs
    refine g_setL (L' := [Res.blk b19 57 [Value.slice (BR.A g1) (BR.bs g1).length (BR.cap g1), Value.int .i64 (BR.n g1)], Res.row (BR.A g1) (BR.bs g1).length (BR.cap g1) 47 1 ((BR.bs g1).map (fun k : Bk En => [k.v])), bks 50 2 En.c (BR.bs g1), Res.blk b21 29 [Value.slice A0 ((esF (ops.take k)).map En.e).length c0, Value.slice A1 ((esF (ops.take k)).map En.i).length c1], Res.row A0 ((esF (ops.take k)).map En.e).length c0 3 1 (((esF (ops.take k)).map En.e).map (fun v : Int => [Value.int .i64 v])), Res.row A1 ((esF (ops.take k)).map En.i).length c1 3 1 (((esF (ops.take k)).map En.i).map (fun v : Int => [Value.int .i64 v]))]) rfl ?_
    refine g_val 30 (v' := .int .i64 ((k : Nat) : Int)) rfl rfl ?_
    have hel := esF_len ops k
    refine g_seq ?_
    refine g_region ?_
    refine s_q (q_lss rfl rfl) rfl ?_
    refine g_nil ?_
    refine g_then ?_
    refine g_seq ?_
    refine g_cond rfl (fun h2 => ?_) (fun h2 => ?_)
    · have lt_k : k < ops.length := by have h9 := of_decide_eq_true h2; omega
      have hsl := stepE_len (esF (ops.take k)) ops[k]
      refine g_skip ?_
      refine g_then ?_
      refine g_seq ?_
      refine g_block ?_
      refine g_seq ?_
      refine g_region ?_
      refine s_q (q_index (i := k) rfl rfl rfl (o_ops.rdb rfl) (by first | exact lt_k | omega)) rfl ?_
      refine s_q (q_load_ew (i := k) rfl (o_ops.rdb rfl) (map_get (by first | assumption | omega)) rfl) rfl ?_
      refine g_op (g_alloc rfl fun b11 => ?_)
      refine g_op (g_storew rfl rfl rfl rfl rfl ?_)
      refine g_nil ?_
      refine g_then ?_
      refine g_region ?_
      refine s_q (q_move rfl) rfl ?_
      refine s_q (q_move rfl) rfl ?_
      refine s_q (q_loadw rfl rfl) rfl ?_
      refine g_op (g_ownS [Res.blk b19 57 [Value.slice (BR.A g1) (BR.bs g1).length (BR.cap g1), Value.int .i64 (BR.n g1)], Res.row (BR.A g1) (BR.bs g1).length (BR.cap g1) 47 1 ((BR.bs g1).map (fun k : Bk En => [k.v])), bks 50 2 En.c (BR.bs g1), Res.blk b21 29 [Value.slice A0 ((esF (ops.take k)).map En.e).length c0, Value.slice A1 ((esF (ops.take k)).map En.i).length c1], Res.row A0 ((esF (ops.take k)).map En.e).length c0 3 1 (((esF (ops.take k)).map En.e).map (fun v : Int => [Value.int .i64 v])), Res.row A1 ((esF (ops.take k)).map En.i).length c1 3 1 (((esF (ops.take k)).map En.i).map (fun v : Int => [Value.int .i64 v]))] rfl (fun w1 hw1 ho1 => by have h7 := do_any b19 g1 b21 A0 c0 A1 c1 (esF (ops.take k)) (ops[k]) w1 ho1 hr (by first | omega | (simp; omega)); exact h7) rfl ?_)
      rintro ⟨g37, A37, c37, B37, d37⟩ ⟨r37, s37⟩
      refine ⟨_, _, inferInstance, inferInstance, ?_⟩
      simp only at r37 s37
      refine g_nil ?_
      refine g_blk_n ?_
      refine g_then ?_
      refine g_region ?_
      refine s_q (q_inc rfl rfl (by omega)) rfl ?_
      refine s_q (q_move rfl) rfl ?_
      refine g_nil ?_
      rw [← esF_succ lt_k]
      exact g_again ((k + 1), g37, A37, c37, B37, d37) (by (try dsimp only); exact ⟨(by first | exact lt_k | omega), (by rw [esF_succ lt_k]; exact r37), (by rw [s37]; exact hs)⟩) (by first | omega | (simp only; omega)) (by repeat (first | exact trivial | refine ⟨rfl, ?_⟩)) wok_sub
    · have eq_k : k = ops.length := by have h9 := of_decide_eq_false h2; omega
      rw [eq_k, List.take_length] at hr
      rw [eq_k, List.take_length]
      have hel2 : (esF ops).length ≤ 100 := by have h9 := esF_len ops ops.length; rw [List.take_length] at h9; omega
      have hlen : (BR.bs g1).length = (len % 12 + 1) := by rw [hs, s19]
      refine g_exit ?_
      refine g_then_x (g_then_x (g_blk_hit ?_))
      refine g_then ?_
      refine g_seq ?_
      refine g_region ?_
      refine s_q (q_assign rfl) rfl ?_
      refine g_nil ?_
      refine g_then ?_
      refine g_seq ?_
      refine g_seq ?_
      refine g_region ?_
      refine s_q (q_move rfl) rfl ?_
      refine s_q (q_move rfl) rfl ?_
      refine g_nil ?_
      refine g_then ?_
      refine g_block ?_
      refine g_loopk [2, 6, 7, 8, 9, 39] (fun (x : Nat × Nat) => [(12, .int .i64 ((x.2 : Nat) : Int)), (40, .int .i64 ((x.1 : Nat) : Int))]) (fun (x : Nat × Nat) => [Res.blk b19 57 [Value.slice (BR.A g1) (BR.bs g1).length (BR.cap g1), Value.int .i64 (BR.n g1)], Res.row (BR.A g1) (BR.bs g1).length (BR.cap g1) 47 1 ((BR.bs g1).map (fun k : Bk En => [k.v])), bks 50 2 En.c (BR.bs g1), Res.blk b21 29 [Value.slice A0 ((esF ops).map En.e).length c0, Value.slice A1 ((esF ops).map En.i).length c1], Res.row A0 ((esF ops).map En.e).length c0 3 1 (((esF ops).map En.e).map (fun v : Int => [Value.int .i64 v])), Res.row A1 ((esF ops).map En.i).length c1 3 1 (((esF ops).map En.i).map (fun v : Int => [Value.int .i64 v]))]) (fun (x : Nat × Nat) => x.1 ≤ (len % 12 + 1) ∧ x.2 = sumL (len % 12 + 1) (esF ops) x.1 ∧ x.2 ≤ 100 * x.1) (fun (x : Nat × Nat) => (len % 12 + 1) - x.1) (0, 0) (by (try dsimp only); exact ⟨Nat.zero_le _, rfl, (by omega)⟩) rfl (by repeat (first | exact trivial | refine ⟨rfl, ?_⟩)) wok_sub ?_
      rintro ⟨q, s9⟩ ⟨le_q, hs9, hsb⟩
      replace le_q : q ≤ (len % 12 + 1) := le_q
      replace hs9 : s9 = sumL (len % 12 + 1) (esF ops) q := hs9
      replace hsb : s9 ≤ 100 * q := hsb
      refine g_setL (L' := [Res.blk b19 57 [Value.slice (BR.A g1) (BR.bs g1).length (BR.cap g1), Value.int .i64 (BR.n g1)], Res.row (BR.A g1) (BR.bs g1).length (BR.cap g1) 47 1 ((BR.bs g1).map (fun k : Bk En => [k.v])), bks 50 2 En.c (BR.bs g1), Res.blk b21 29 [Value.slice A0 ((esF ops).map En.e).length c0, Value.slice A1 ((esF ops).map En.i).length c1], Res.row A0 ((esF ops).map En.e).length c0 3 1 (((esF ops).map En.e).map (fun v : Int => [Value.int .i64 v])), Res.row A1 ((esF ops).map En.i).length c1 3 1 (((esF ops).map En.i).map (fun v : Int => [Value.int .i64 v]))]) rfl ?_
      refine g_val 12 (v' := .int .i64 ((s9 : Nat) : Int)) rfl rfl ?_
      refine g_val 40 (v' := .int .i64 ((q : Nat) : Int)) rfl rfl ?_
      refine g_seq ?_
      refine g_region ?_
      refine s_q (q_lss rfl rfl) rfl ?_
      refine g_nil ?_
      refine g_then ?_
      refine g_seq ?_
      refine g_cond rfl (fun h3 => ?_) (fun h3 => ?_)
      · have lt_q : q < (len % 12 + 1) := by have h9 := of_decide_eq_true h3; omega
        have hcn : ((esF ops).filter fun x => decide (x.e % (((len % 12 + 1) : Nat) : Int) = ((q : Nat) : Int))).length ≤ 100 := Nat.le_trans (List.length_filter_le _ _) hel2
        refine g_skip ?_
        refine g_then ?_
        refine g_seq ?_
        refine g_block ?_
        refine g_seq ?_
        refine g_region ?_
        refine s_q (q_move rfl) rfl ?_
        refine s_q (q_assign rfl) rfl ?_
        refine g_nil ?_
        refine g_then ?_
        refine g_seq ?_
        refine g_seq ?_
        refine g_region ?_
        refine s_q (q_move rfl) rfl ?_
        refine s_q (q_move rfl) rfl ?_
        refine g_op (g_keep [Res.blk b19 57 [Value.slice (BR.A g1) (BR.bs g1).length (BR.cap g1), Value.int .i64 (BR.n g1)], Res.row (BR.A g1) (BR.bs g1).length (BR.cap g1) 47 1 ((BR.bs g1).map (fun k : Bk En => [k.v])), bks 50 2 En.c (BR.bs g1)] rfl (fun w1 hw1 ho1 => by exact bload_any b19 g1 (esF ops) (((q : Nat) : Int)) w1 ho1 hr) rfl ?_)
        refine s_q (q_move rfl) rfl ?_
        refine s_q (q_move rfl) rfl ?_
        refine s_q (q_move rfl) rfl ?_
        refine g_op (g_keep [Res.blk b21 29 [Value.slice A0 ((esF ops).map En.e).length c0, Value.slice A1 ((esF ops).map En.i).length c1], Res.row A0 ((esF ops).map En.e).length c0 3 1 (((esF ops).map En.e).map (fun v : Int => [Value.int .i64 v])), Res.row A1 ((esF ops).map En.i).length c1 3 1 (((esF ops).map En.i).map (fun v : Int => [Value.int .i64 v]))] rfl (fun w1 hw1 ho1 => by exact rload_any b21 A0 c0 A1 c1 (esF ops) (((len % 12) + 1)) (((q : Nat) : Int)) w1 ho1 (by first | omega | (simp; omega)) (by omega) hr.ok) rfl ?_)
        refine s_q (q_neq rfl rfl) rfl ?_
        refine g_litb 50 (b := false) rfl (by rw [hlen, loadE, if_pos ⟨by omega, by omega⟩]; simp) ?_
        refine g_nil ?_
        refine g_then ?_
        refine g_false rfl ?_
        refine g_skip ?_
        refine g_then ?_
        refine g_region ?_
        refine s_q (q_move rfl) rfl ?_
        refine s_q (q_move rfl) rfl ?_
        refine s_q (q_move rfl) rfl ?_
        refine g_op (g_keep [Res.blk b19 57 [Value.slice (BR.A g1) (BR.bs g1).length (BR.cap g1), Value.int .i64 (BR.n g1)], Res.row (BR.A g1) (BR.bs g1).length (BR.cap g1) 47 1 ((BR.bs g1).map (fun k : Bk En => [k.v])), bks 50 2 En.c (BR.bs g1)] rfl (fun w1 hw1 ho1 => by exact bload_any b19 g1 (esF ops) (((q : Nat) : Int)) w1 ho1 hr) rfl ?_)
        refine s_q (q_addz (z := (((s9 + ((esF ops).filter fun x => decide (x.e % (((len % 12 + 1) : Nat) : Int) = ((q : Nat) : Int))).length) : Nat) : Int)) rfl rfl (by rw [hlen, loadE, if_pos ⟨by omega, by omega⟩]; rw [wi64 (by omega) (by omega)]; omega)) rfl ?_
        refine s_q (q_assign rfl) rfl ?_
        refine g_nil ?_
        refine g_blk_n ?_
        refine g_then ?_
        refine g_region ?_
        refine s_q (q_inc rfl rfl (by omega)) rfl ?_
        refine s_q (q_move rfl) rfl ?_
        refine g_nil ?_
        exact g_again ((q + 1), (s9 + ((esF ops).filter fun x => decide (x.e % (((len % 12 + 1) : Nat) : Int) = ((q : Nat) : Int))).length)) (by (try dsimp only); exact ⟨(by first | exact lt_q | omega), (by rw [sumL_succ, ← hs9]), (by omega)⟩) (by dsimp only; omega) (by repeat (first | exact trivial | refine ⟨rfl, ?_⟩)) wok_sub
      · have eq_q : q = (len % 12 + 1) := by have h9 := of_decide_eq_false h3; omega
        have hsum : s9 = (esF ops).length := by rw [hs9, eq_q]; exact sumL_all (by omega)
        refine g_exit ?_
        refine g_then_x (g_then_x (g_blk_hit ?_))
        refine g_then ?_
        refine g_seq ?_
        refine g_seq ?_
        refine g_region ?_
        refine s_q (q_move rfl) rfl ?_
        refine s_q (q_lss rfl rfl) rfl ?_
        refine s_q (q_move rfl) rfl ?_
        refine g_split 59 rfl (fun h4 => ?_) (fun h4 => ?_)
        · have hbn : ¬ (0 ≤ bn ∧ bn < (((len % 12 + 1) : Nat) : Int)) := by have h9 := of_decide_eq_true h4; omega
          refine g_gf rfl rfl rfl rfl ?_
          refine g_gf rfl rfl rfl rfl ?_
          refine g_gf rfl rfl rfl rfl ?_
          refine s_q (q_pick_t rfl rfl) rfl ?_
          refine g_nil ?_
          refine g_then ?_
          refine g_true rfl ?_
          refine g_seq ?_
          refine g_region ?_
          refine g_op (g_pure rfl (fun w1 hw1 => alive_any w1) rfl ?_)
          refine s_q (q_move rfl) rfl ?_
          refine s_qg (q_move rfl) rfl rfl rfl ?_
          refine s_qg (q_move rfl) rfl rfl rfl ?_
          refine g_gt rfl rfl (g_keep [Res.blk b19 57 [Value.slice (BR.A g1) (BR.bs g1).length (BR.cap g1), Value.int .i64 (BR.n g1)], Res.row (BR.A g1) (BR.bs g1).length (BR.cap g1) 47 1 ((BR.bs g1).map (fun k : Bk En => [k.v])), bks 50 2 En.c (BR.bs g1)] rfl (fun w1 hw1 ho1 => by exact bload_any b19 g1 (esF ops) (bn) w1 ho1 hr) rfl ?_)
          refine s_qg (q_eql rfl rfl) rfl rfl rfl ?_
          refine g_litb 69 (b := true) rfl (decide_eq_true (by rw [hlen, loadE, if_neg hbn])) ?_
          refine s_q (q_pick_t rfl rfl) rfl ?_
          refine s_q (q_move rfl) rfl ?_
          refine s_qg (q_move rfl) rfl rfl rfl ?_
          refine s_qg (q_move rfl) rfl rfl rfl ?_
          refine g_gt rfl rfl (g_keep [Res.blk b19 57 [Value.slice (BR.A g1) (BR.bs g1).length (BR.cap g1), Value.int .i64 (BR.n g1)], Res.row (BR.A g1) (BR.bs g1).length (BR.cap g1) 47 1 ((BR.bs g1).map (fun k : Bk En => [k.v])), bks 50 2 En.c (BR.bs g1)] rfl (fun w1 hw1 ho1 => by exact blen_any b19 g1 (esF ops) w1 ho1 hr) rfl ?_)
          refine s_qg (q_eql rfl rfl) rfl rfl rfl ?_
          refine g_litb 75 (b := true) rfl (decide_eq_true (by rw [hsum])) ?_
          refine s_q (q_pick_t rfl rfl) rfl ?_
          refine s_q (q_assign rfl) rfl ?_
          refine g_nil ?_
          refine g_then ?_
          refine g_ret ?_
          refine g_then_ret ?_
          exact fin1 rfl (.tmp rfl) (fun w' hw' => ⟨by first | rfl | (simp_all; done) | (simp_all; omega), hw'.upd⟩) _ (.inl rfl)
        · refine s_qg (q_move rfl) rfl rfl rfl ?_
          refine s_qg (q_move rfl) rfl rfl rfl ?_
          refine s_qg (q_geq rfl rfl) rfl rfl rfl ?_
          refine s_q (q_pick_f rfl rfl) rfl ?_
          refine g_nil ?_
          refine g_then ?_
          refine g_cond rfl (fun h5 => ?_) (fun h5 => ?_)
          · have hbn : ¬ (0 ≤ bn ∧ bn < (((len % 12 + 1) : Nat) : Int)) := by have h9 := of_decide_eq_true h5; omega
            refine g_seq ?_
            refine g_region ?_
            refine g_op (g_pure rfl (fun w1 hw1 => alive_any w1) rfl ?_)
            refine s_q (q_move rfl) rfl ?_
            refine s_qg (q_move rfl) rfl rfl rfl ?_
            refine s_qg (q_move rfl) rfl rfl rfl ?_
            refine g_gt rfl rfl (g_keep [Res.blk b19 57 [Value.slice (BR.A g1) (BR.bs g1).length (BR.cap g1), Value.int .i64 (BR.n g1)], Res.row (BR.A g1) (BR.bs g1).length (BR.cap g1) 47 1 ((BR.bs g1).map (fun k : Bk En => [k.v])), bks 50 2 En.c (BR.bs g1)] rfl (fun w1 hw1 ho1 => by exact bload_any b19 g1 (esF ops) (bn) w1 ho1 hr) rfl ?_)
            refine s_qg (q_eql rfl rfl) rfl rfl rfl ?_
            refine g_litb 69 (b := true) rfl (decide_eq_true (by rw [hlen, loadE, if_neg hbn])) ?_
            refine s_q (q_pick_t rfl rfl) rfl ?_
            refine s_q (q_move rfl) rfl ?_
            refine s_qg (q_move rfl) rfl rfl rfl ?_
            refine s_qg (q_move rfl) rfl rfl rfl ?_
            refine g_gt rfl rfl (g_keep [Res.blk b19 57 [Value.slice (BR.A g1) (BR.bs g1).length (BR.cap g1), Value.int .i64 (BR.n g1)], Res.row (BR.A g1) (BR.bs g1).length (BR.cap g1) 47 1 ((BR.bs g1).map (fun k : Bk En => [k.v])), bks 50 2 En.c (BR.bs g1)] rfl (fun w1 hw1 ho1 => by exact blen_any b19 g1 (esF ops) w1 ho1 hr) rfl ?_)
            refine s_qg (q_eql rfl rfl) rfl rfl rfl ?_
            refine g_litb 75 (b := true) rfl (decide_eq_true (by rw [hsum])) ?_
            refine s_q (q_pick_t rfl rfl) rfl ?_
            refine s_q (q_assign rfl) rfl ?_
            refine g_nil ?_
            refine g_then ?_
            refine g_ret ?_
            refine g_then_ret ?_
            exact fin1 rfl (.tmp rfl) (fun w' hw' => ⟨by first | rfl | (simp_all; done) | (simp_all; omega), hw'.upd⟩) _ (.inl rfl)
          · refine g_skip ?_
            refine g_then ?_
            refine g_seq ?_
            refine g_region ?_
            refine g_op (g_pure rfl (fun w1 hw1 => alive_any w1) rfl ?_)
            refine s_q (q_move rfl) rfl ?_
            refine s_qg (q_move rfl) rfl rfl rfl ?_
            refine s_qg (q_move rfl) rfl rfl rfl ?_
            refine g_gt rfl rfl (g_keep [Res.blk b19 57 [Value.slice (BR.A g1) (BR.bs g1).length (BR.cap g1), Value.int .i64 (BR.n g1)], Res.row (BR.A g1) (BR.bs g1).length (BR.cap g1) 47 1 ((BR.bs g1).map (fun k : Bk En => [k.v])), bks 50 2 En.c (BR.bs g1)] rfl (fun w1 hw1 ho1 => by exact blen_any b19 g1 (esF ops) w1 ho1 hr) rfl ?_)
            refine s_qg (q_eql rfl rfl) rfl rfl rfl ?_
            refine g_litb 82 (b := true) rfl (decide_eq_true (by rw [hsum])) ?_
            refine s_q (q_pick_t rfl rfl) rfl ?_
            refine s_q (q_assign rfl) rfl ?_
            refine g_nil ?_
            refine g_then ?_
            refine g_ret ?_
            exact fin1 rfl (.tmp rfl) (fun w' hw' => ⟨by first | rfl | (simp_all; done) | (simp_all; omega), hw'.upd⟩) _ (.inl rfl)

theorem main_bucketLoads (v0 : Value) (v1 : Value) (v2 : Value) (W : World) (a0 : Arg Try.prog W 5 v0) (a1 : Arg Try.prog W 22 v1) (a2 : Arg Try.prog W 3 v2) : Pur Try.prog 4 [v0, v1, v2] W (.bool true) := by
  obtain ⟨z0, rfl, hz0⟩ := Arg.int Try.underlying5 a0
  obtain ⟨len, rfl⟩ : ∃ q : Nat, z0 = q := ⟨z0.toNat, by have h0 : 0 ≤ z0 ∧ z0 ≤ 255 := hz0; omega⟩
  have h_len : len < 256 := by have h0 : 0 ≤ ((len : Nat) : Int) ∧ ((len : Nat) : Int) ≤ 255 := hz0; omega
  obtain ⟨A_ops, c_ops, ops, rfl, hle1, hm1, o_ops, k_ops⟩ := Arg.slice Op.c (fun x : Op => x.ok) Try.underlying22 (show Try.prog.cellsOf 31 = 3 by kernel_rfl) (by omega) (openOp) a1
  have h_ops : ops.length ≤ c_ops ∧ c_ops ≤ 9223372036854775807 := ⟨hle1, by unfold maxLen at hm1; omega⟩
  obtain ⟨bn, rfl, h_bn⟩ := Arg.int Try.underlying3 a2
  exact law_bucketLoads len A_ops c_ops ops bn W h_len o_ops h_ops k_ops h_bn

namespace LawBucketLoads
open Go.ChangeShapes Go.WideShapes Go.ChangeAt Go.RowKit Go.Eg
set_option linter.unusedVariables false
theorem own : ownKnob Try.prog.godebug = none := by kernel_rfl
theorem laidOut : laidOutB Try.prog = true := by kernel_rfl
set_option maxRecDepth 100000 in
theorem lifted (os : Os) (started : os.Started) (H : Type) (enc : TypeId × Value → H) :
    ReturnsInHanded {} Try.checked os 4 .any (Rows.bucketLoadsSpec.pre6 enc Try.prog Try.f4 Rows.bucketLoadsRow.domain false) (Rows.bucketLoadsSpec.post enc Try.prog Try.f4 false true false false) := by
  refine returnsInHanded_of_change (C := Try.checked) own started (by kernel_rfl) Try.func4
    (ChangeSpec.witness6 (enc := enc) (C := Try.checked) false ⟨#[], #[.int .u8 0, .slice none 0 0, .int .i64 0], []⟩ 8 (by kernel_rfl) (by kernel_rfl) (by kernel_rfl) (by kernel_rfl)) ?_
  intro W base args ds gs before hval0 hW hcnd _
  have hval : ∀ (j : Nat) t v, Try.f4.params[j]? = some t → args[j]? = some v → Value.okWide Try.prog W .any base t v := hval0
  have hW' := hW
  obtain ⟨p, q, hA0, hV, rfl, hfz, hnd⟩ := hW
  have hA : DataW.TrodAll enc Try.prog W 0 (fun _ => true) true Try.f4.params.toList args.toList ds p := hA0
  rw [Try.params4] at hA hval
  obtain ⟨v0, vs0, d0, ds0, p0, q0, hargs, rfl, rfl, h0, r0⟩ := trodAll_cons hA
  obtain ⟨v1, vs1, d1, ds1, p1, q1, rfl, rfl, rfl, h1, r1⟩ := trodAll_cons r0
  obtain ⟨v2, vs2, d2, ds2, p2, q2, rfl, rfl, rfl, h2, r2⟩ := trodAll_cons r1
  obtain ⟨rfl, rfl, rfl⟩ := trodAll_nil r2
  obtain rfl : args = #[v0, v1, v2] := by cases args; simp_all
  obtain ⟨rfl, rfl⟩ := trodVars_none hV
  have a0 := Arg.of h0 (hval 0 5 v0 rfl rfl)
  have lt0 : ∀ x ∈ p0, x.block < W.heap.size := by obtain ⟨m, hm⟩ := h0; exact DataW.trod_lt m _ _ _ hm
  have a1 := Arg.of h1 (hval 1 22 v1 rfl rfl)
  have lt1 : ∀ x ∈ p1, x.block < W.heap.size := by obtain ⟨m, hm⟩ := h1; exact DataW.trod_lt m _ _ _ hm
  have a2 := Arg.of h2 (hval 2 3 v2 rfl rfl)
  have lt2 : ∀ x ∈ p2, x.block < W.heap.size := by obtain ⟨m, hm⟩ := h2; exact DataW.trod_lt m _ _ _ hm
  clear hA0 hval0
  simp only [List.append_nil] at hW'
  refine Calls.mono (main_bucketLoads v0 v1 v2 W a0 a1 a2) ?_
  rintro e W' ⟨v, rfl, rfl, hu⟩
  have bel := hu.below
  have targ := (trodAll_cons_mk (Below.trod laidOut (by kernel_rfl) (of_decide_eq_true (by kernel_rfl)) h0 bel lt0) (trodAll_cons_mk (Below.trod laidOut (by kernel_rfl) (of_decide_eq_true (by kernel_rfl)) h1 bel lt1) (trodAll_cons_mk (Below.trod laidOut (by kernel_rfl) (of_decide_eq_true (by kernel_rfl)) h2 bel lt2) trodAll_mk0)))
  simp only [List.append_nil] at targ
  exact ⟨_, rfl, _, _, _, [], _, [], hW', trodAll_mk1 (shut_bool Try.underlying4 _), targ, rfl, bel.frame _, fun h => by cases h⟩
theorem over : Rows.bucketLoadsRow.holds Try.pinned (OpenSpec.ofChange Rows.bucketLoadsSpec) :=
  OpenClaim.holds_of_wide 4 Try.f4 rfl rfl rfl rfl rfl rfl rfl ⟨rfl, rfl, rfl, rfl, rfl⟩ rfl rfl rfl rfl rfl (by kernel_rfl) Try.func4 (by kernel_rfl)
    (of_decide_eq_true (by kernel_rfl)) (by unfold Func.isWrapper; first | (rw [if_pos (by decide +kernel)]; kernel_rfl) | (rw [if_neg (by decide +kernel)]; exact ⟨rfl, rfl⟩))
    (fun os started H enc _ => lifted os started H enc)
theorem proved : Rows.BucketLoadsSaid := over
end LawBucketLoads
end Go.Proofs.Ytgbghjnlicldnaa
