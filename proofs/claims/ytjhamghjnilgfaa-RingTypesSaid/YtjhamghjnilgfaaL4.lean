/- RingTypes: for every list of strings the law returns true. No condition. -/
import Derived.Test.YtjhamghjnilgfaaW4
import Derived.Test.YtjhamghjnilgfaaW5
namespace Go.Proofs.Ytjhamghjnilgfaa
open Go.RowKit Go.Eg
set_option linter.unusedSimpArgs false
set_option linter.unusedVariables false
set_option maxHeartbeats 400000 in
theorem law_ringTypes (A_l : Option Addr) (c_l : Nat) (l : List ByteArray) (w : World) (o_l : Old w A_l l.length 1 (l.map (fun v : ByteArray => [Value.string v]))) (h_l : l.length ≤ c_l ∧ c_l ≤ 9223372036854775807) (k_l : ∀ x ∈ l, (fun x : ByteArray => x.size ≤ maxLen) x) : Pur Try.prog 5 [.slice A_l l.length c_l] w (.bool true) := by
  refine g_start Try.func5 rfl 135 rfl (by simp) ([]) [] (WOK.start _ _) _ rfl ?_
  refine g_seq ?_
  refine g_region ?_
  refine s_q (q_assign rfl) rfl ?_
  refine g_nil ?_
  refine g_then ?_
  refine g_seq ?_
  refine g_seq ?_
  refine g_region ?_
  refine s_q (q_move rfl) rfl ?_
  refine s_q (q_len rfl) rfl ?_
  refine s_q (q_gtr rfl rfl) rfl ?_
  refine g_nil ?_
  refine g_then ?_
  refine g_cond rfl (fun h1 => ?_) (fun h1 => ?_)
  · refine g_seq ?_
    refine g_region ?_
    refine g_op (g_pure rfl (fun w1 hw1 => alive_any w1) rfl ?_)
    refine s_q (q_assign rfl) rfl ?_
    refine g_nil ?_
    refine g_then ?_
    refine g_ret ?_
    refine g_then_ret ?_
    exact fin1 rfl (.tmp rfl) (fun w' hw' => ⟨by first | rfl | (simp_all; done) | (simp_all; omega), hw'.upd⟩) _ (.inl rfl)
  · refine g_skip ?_
    refine g_then ?_
    refine g_seq ?_
    refine g_seq ?_
    refine g_region ?_
    refine s_q (q_move rfl) rfl ?_
    refine s_q (q_len rfl) rfl ?_
    refine s_q (q_move rfl) rfl ?_
    refine g_nil ?_
    refine g_then ?_
    refine g_block ?_
    refine g_loopk [0, 2, 22, 23] (fun (x : Nat) => [(24, .int .i64 ((x : Nat) : Int))]) (fun (x : Nat) => []) (fun (x : Nat) => x ≤ l.length) (fun (x : Nat) => l.length - x) 0 (by (try dsimp only); exact Nat.zero_le _) rfl (by repeat (first | exact trivial | refine ⟨rfl, ?_⟩)) wok_sub ?_
    rintro j le_j
    replace le_j : j ≤ l.length := le_j
    refine g_seq ?_
    refine g_region ?_
    refine s_q (q_lss rfl rfl) rfl ?_
    refine g_nil ?_
    refine g_then ?_
    refine g_seq ?_
    refine g_cond rfl (fun h2 => ?_) (fun h2 => ?_)
    · have lt_j : j < l.length := by have h9 := of_decide_eq_true h2; omega
      refine g_skip ?_
      refine g_then ?_
      refine g_seq ?_
      refine g_block ?_
      refine g_seq ?_
      refine g_region ?_
      refine s_q (q_index (i := j) rfl rfl rfl (o_l.rdb rfl) (by first | exact lt_j | omega)) rfl ?_
      refine s_q (q_load_el (i := j) (o := 0) rfl (o_l.rdb rfl) (map_get (by first | assumption | omega)) rfl rfl) rfl ?_
      refine s_q (q_assign rfl) rfl ?_
      refine g_nil ?_
      refine g_then ?_
      refine g_seq ?_
      refine g_region ?_
      refine s_q (q_move rfl) rfl ?_
      refine s_q (q_len_str (by kernel_rfl) rfl) rfl ?_
      refine s_q (q_gtr rfl rfl) rfl ?_
      refine g_nil ?_
      refine g_then ?_
      refine g_cond rfl (fun h3 => ?_) (fun h3 => ?_)
      · refine g_seq ?_
        refine g_region ?_
        refine g_op (g_pure rfl (fun w1 hw1 => alive_any w1) rfl ?_)
        refine s_q (q_assign rfl) rfl ?_
        refine g_nil ?_
        refine g_then ?_
        refine g_ret ?_
        refine g_blk_ret (g_then_ret (g_then_ret (g_blk_ret (g_then_ret ?_))))
        exact fin1 rfl (.tmp rfl) (fun w' hw' => ⟨by first | rfl | (simp_all; done) | (simp_all; omega), hw'.upd⟩) _ (.inl rfl)
      · refine g_skip ?_
        refine g_blk_n ?_
        refine g_then ?_
        refine g_region ?_
        refine s_q (q_inc rfl rfl (by omega)) rfl ?_
        refine s_q (q_move rfl) rfl ?_
        refine g_nil ?_
        exact g_again (j + 1) (by (try dsimp only); exact (by first | exact lt_j | omega)) (by first | omega | (simp only; omega)) (by repeat (first | exact trivial | refine ⟨rfl, ?_⟩)) wok_sub
    · have eq_j : j = l.length := by have h9 := of_decide_eq_false h2; omega
      refine g_exit ?_
      refine g_then_x (g_then_x (g_blk_hit ?_))
      refine g_then ?_
      refine g_seq ?_
      refine g_region ?_
      refine g_op (g_ownS [] rfl (fun w1 hw1 ho1 => by have h7 := new_s (3) w1 (by omega); exact h7) rfl ?_)
      rintro ⟨b33, g33⟩ ⟨r33, s33⟩
      refine ⟨_, _, inferInstance, inferInstance, ?_⟩
      simp only at r33 s33
      refine g_op (g_ownS [] rfl (fun w1 hw1 ho1 => by have h7 := new_p (3) w1 (by omega); exact h7) rfl ?_)
      rintro ⟨b34, g34⟩ ⟨r34, s34⟩
      refine ⟨_, _, inferInstance, inferInstance, ?_⟩
      simp only at r34 s34
      refine s_q (q_assign rfl) rfl ?_
      refine s_q (q_assign rfl) rfl ?_
      refine g_nil ?_
      refine g_then ?_
      refine g_seq ?_
      refine g_seq ?_
      refine g_region ?_
      refine s_q (q_move rfl) rfl ?_
      refine s_q (q_eqp (b := false) rfl rfl rfl) rfl ?_
      refine s_q (q_move rfl) rfl ?_
      refine s_qg (q_move rfl) rfl rfl rfl ?_
      refine s_qg (q_eqp (b := false) rfl rfl rfl) rfl rfl rfl ?_
      refine s_q (q_pick_f rfl rfl) rfl ?_
      refine g_nil ?_
      refine g_then ?_
      refine g_false rfl ?_
      refine g_skip ?_
      refine g_then ?_
      refine g_seq ?_
      refine g_seq ?_
      refine g_region ?_
      refine s_q (q_move rfl) rfl ?_
      refine s_q (q_len rfl) rfl ?_
      refine s_q (q_move rfl) rfl ?_
      refine g_nil ?_
      refine g_then ?_
      refine g_block ?_
      refine g_loopk [0, 2, 5, 6, 41, 42] (fun (x : Nat × Rg × Rg × List ByteArray) => [(43, .int .i64 ((x.1 : Nat) : Int))]) (fun (x : Nat × Rg × Rg × List ByteArray) => [Res.blk b33 63 (Rg.c x.2.1), Res.row (Rg.A x.2.1) (Rg.s x.2.1).length (Rg.cap x.2.1) 9 1 (Rg.s x.2.1), Res.blk b34 66 (Rg.c x.2.2.1), Res.row (Rg.A x.2.2.1) (Rg.s x.2.2.1).length (Rg.cap x.2.2.1) 38 2 (Rg.s x.2.2.1)]) (fun (x : Nat × Rg × Rg × List ByteArray) => x.1 ≤ l.length ∧ Rg.Rep x.2.1 1 ((x.2.2.2).map (fun v : ByteArray => [Value.string v])) ∧ Rg.Rep x.2.2.1 2 (((x.2.2.2).map (fun v : ByteArray => (v, v))).map (fun v : ByteArray × ByteArray => [Value.string v.1, Value.string v.2])) ∧ Rg.size x.2.1 = 3 ∧ Rg.size x.2.2.1 = 3) (fun (x : Nat × Rg × Rg × List ByteArray) => l.length - x.1) (0, g33, g34, ([] : List ByteArray)) (by (try dsimp only); exact ⟨Nat.zero_le _, r33, r34, s33, s34⟩) rfl (by repeat (first | exact trivial | refine ⟨rfl, ?_⟩)) wok_sub ?_
      rintro ⟨k, ga, gb, la⟩ ⟨le_k, ha, hb, sa, sb⟩
      replace le_k : k ≤ l.length := le_k
      replace ha : Rg.Rep ga 1 ((la).map (fun v : ByteArray => [Value.string v])) := ha
      replace hb : Rg.Rep gb 2 (((la).map (fun v : ByteArray => (v, v))).map (fun v : ByteArray × ByteArray => [Value.string v.1, Value.string v.2])) := hb
      replace sa : Rg.size ga = 3 := sa
      replace sb : Rg.size gb = 3 := sb
      refine g_setL (L' := [Res.blk b33 63 (Rg.c ga), Res.row (Rg.A ga) (Rg.s ga).length (Rg.cap ga) 9 1 (Rg.s ga), Res.blk b34 66 (Rg.c gb), Res.row (Rg.A gb) (Rg.s gb).length (Rg.cap gb) 38 2 (Rg.s gb)]) rfl ?_
      refine g_val 43 (v' := .int .i64 ((k : Nat) : Int)) rfl rfl ?_
      refine g_seq ?_
      refine g_region ?_
      refine s_q (q_lss rfl rfl) rfl ?_
      refine g_nil ?_
      refine g_then ?_
      refine g_seq ?_
      refine g_cond rfl (fun h4 => ?_) (fun h4 => ?_)
      · have lt_k : k < l.length := by have h9 := of_decide_eq_true h4; omega
        refine g_skip ?_
        refine g_then ?_
        refine g_seq ?_
        refine g_block ?_
        refine g_seq ?_
        refine g_region ?_
        refine s_q (q_index (i := k) rfl rfl rfl (o_l.rdb rfl) (by first | exact lt_k | omega)) rfl ?_
        refine s_q (q_load_el (i := k) (o := 0) rfl (o_l.rdb rfl) (map_get (by first | assumption | omega)) rfl rfl) rfl ?_
        refine s_q (q_assign rfl) rfl ?_
        refine g_nil ?_
        refine g_then ?_
        refine g_seq ?_
        refine g_region ?_
        refine s_q (q_move rfl) rfl ?_
        refine s_q (q_move rfl) rfl ?_
        refine g_op (g_lit rfl rfl rfl rfl rfl fun b49 => ?_)
        refine g_blkc (b := b49) ((([l[k]] : List ByteArray).map (fun v : ByteArray => [Value.string v])).flatten) rfl ?_
        refine g_op (g_ownS [Res.blk b33 63 (Rg.c ga), Res.row (Rg.A ga) (Rg.s ga).length (Rg.cap ga) 9 1 (Rg.s ga)] rfl (fun w1 hw1 ho1 => by have h7 := push_s b33 ga la [l[k]] (some ⟨b49, 0, none⟩) 1 w1 ho1 ha (Rd.ofBlk (b := b49) hw1 rfl (by simp) rfl) (by simp); exact h7) rfl ?_)
        rintro g50 ⟨r50, s50⟩
        refine ⟨_, _, inferInstance, inferInstance, ?_⟩
        refine s_q (q_move rfl) rfl ?_
        refine s_q (q_move rfl) rfl ?_
        refine s_q (q_move rfl) rfl ?_
        refine s_q (q_build (c := [Value.string l[k], Value.string l[k]]) rfl rfl) rfl ?_
        refine g_op (g_lit rfl rfl rfl rfl rfl fun b55 => ?_)
        refine g_blkc (b := b55) ((([(l[k], l[k])] : List (ByteArray × ByteArray)).map (fun v : ByteArray × ByteArray => [Value.string v.1, Value.string v.2])).flatten) rfl ?_
        refine g_op (g_ownS [Res.blk b34 66 (Rg.c gb), Res.row (Rg.A gb) (Rg.s gb).length (Rg.cap gb) 38 2 (Rg.s gb)] rfl (fun w1 hw1 ho1 => by have h7 := push_p b34 gb (la.map (fun v : ByteArray => (v, v))) [(l[k], l[k])] (some ⟨b55, 0, none⟩) 1 w1 ho1 hb (Rd.ofBlk (b := b55) hw1 rfl (by simp) rfl) (by simp); exact h7) rfl ?_)
        rintro g56 ⟨r56, s56⟩
        refine ⟨_, _, inferInstance, inferInstance, ?_⟩
        refine s_q (q_neq rfl rfl) rfl ?_
        refine g_litb 57 (b := false) rfl (by simp; omega) ?_
        refine g_nil ?_
        refine g_then ?_
        refine g_false rfl ?_
        refine g_skip ?_
        refine g_blk_n ?_
        refine g_then ?_
        refine g_region ?_
        refine s_q (q_inc rfl rfl (by omega)) rfl ?_
        refine s_q (q_move rfl) rfl ?_
        refine g_nil ?_
        have hb2 : Rg.Rep g56 2 (((la ++ ([l[k]] : List ByteArray).take (min ([l[k]] : List ByteArray).length (Rg.size ga - la.length))).map (fun v : ByteArray => (v, v))).map (fun v : ByteArray × ByteArray => [Value.string v.1, Value.string v.2])) := by rw [show min ([(l[k], l[k])] : List (ByteArray × ByteArray)).length (Rg.size gb - (la.map (fun v : ByteArray => (v, v))).length) = min ([l[k]] : List ByteArray).length (Rg.size ga - la.length) from by simp; omega] at r56; rw [List.map_append, List.map_take]; exact r56
        exact g_again ((k + 1), g50, g56, (la ++ ([l[k]] : List ByteArray).take (min ([l[k]] : List ByteArray).length (Rg.size ga - la.length)))) (by (try dsimp only); exact ⟨(by first | exact lt_k | omega), r50, hb2, (by omega), (by omega)⟩) (by first | omega | (simp only; omega)) (by repeat (first | exact trivial | refine ⟨rfl, ?_⟩)) wok_sub
      · have eq_k : k = l.length := by have h9 := of_decide_eq_false h4; omega
        refine g_exit ?_
        refine g_then_x (g_then_x (g_blk_hit ?_))
        refine g_then ?_
        refine g_seq ?_
        refine g_seq ?_
        refine g_region ?_
        refine s_q (q_move rfl) rfl ?_
        refine s_q (q_len rfl) rfl ?_
        refine s_q (q_move rfl) rfl ?_
        refine g_nil ?_
        refine g_then ?_
        refine g_block ?_
        refine g_loopk [2, 5, 6, 60] (fun (x : Nat × Rg × Rg × List ByteArray) => [(61, .int .i64 ((x.1 : Nat) : Int))]) (fun (x : Nat × Rg × Rg × List ByteArray) => [Res.blk b33 63 (Rg.c x.2.1), Res.row (Rg.A x.2.1) (Rg.s x.2.1).length (Rg.cap x.2.1) 9 1 (Rg.s x.2.1), Res.blk b34 66 (Rg.c x.2.2.1), Res.row (Rg.A x.2.2.1) (Rg.s x.2.2.1).length (Rg.cap x.2.2.1) 38 2 (Rg.s x.2.2.1)]) (fun (x : Nat × Rg × Rg × List ByteArray) => x.1 ≤ l.length ∧ Rg.Rep x.2.1 1 ((x.2.2.2).map (fun v : ByteArray => [Value.string v])) ∧ Rg.Rep x.2.2.1 2 (((x.2.2.2).map (fun v : ByteArray => (v, v))).map (fun v : ByteArray × ByteArray => [Value.string v.1, Value.string v.2]))) (fun (x : Nat × Rg × Rg × List ByteArray) => l.length - x.1) (0, ga, gb, la) (by (try dsimp only); exact ⟨Nat.zero_le _, ha, hb⟩) rfl (by repeat (first | exact trivial | refine ⟨rfl, ?_⟩)) wok_sub ?_
        rintro ⟨i2, gc, gd, lb⟩ ⟨le_i2, ha2, hb2⟩
        replace le_i2 : i2 ≤ l.length := le_i2
        replace ha2 : Rg.Rep gc 1 ((lb).map (fun v : ByteArray => [Value.string v])) := ha2
        replace hb2 : Rg.Rep gd 2 (((lb).map (fun v : ByteArray => (v, v))).map (fun v : ByteArray × ByteArray => [Value.string v.1, Value.string v.2])) := hb2
        refine g_setL (L' := [Res.blk b33 63 (Rg.c gc), Res.row (Rg.A gc) (Rg.s gc).length (Rg.cap gc) 9 1 (Rg.s gc), Res.blk b34 66 (Rg.c gd), Res.row (Rg.A gd) (Rg.s gd).length (Rg.cap gd) 38 2 (Rg.s gd)]) rfl ?_
        refine g_val 61 (v' := .int .i64 ((i2 : Nat) : Int)) rfl rfl ?_
        refine g_seq ?_
        refine g_region ?_
        refine s_q (q_lss rfl rfl) rfl ?_
        refine g_nil ?_
        refine g_then ?_
        refine g_seq ?_
        refine g_cond rfl (fun h5 => ?_) (fun h5 => ?_)
        · have lt_i2 : i2 < l.length := by have h9 := of_decide_eq_true h5; omega
          refine g_skip ?_
          refine g_then ?_
          refine g_seq ?_
          refine g_block ?_
          refine g_seq ?_
          refine g_region ?_
          refine s_q (q_move rfl) rfl ?_
          refine g_op (g_ownS [Res.blk b33 63 (Rg.c gc), Res.row (Rg.A gc) (Rg.s gc).length (Rg.cap gc) 9 1 (Rg.s gc)] rfl (fun w1 hw1 ho1 => by have h7 := pop_s b33 gc lb w1 ho1 ha2; exact h7) rfl ?_)
          rintro g65 ⟨r65, s65⟩
          refine ⟨_, _, inferInstance, inferInstance, ?_⟩
          refine s_q (q_move rfl) rfl ?_
          refine s_q (q_extract rfl rfl) rfl ?_
          refine s_q (q_extract rfl rfl) rfl ?_
          refine s_q (q_assign rfl) rfl ?_
          refine s_q (q_assign rfl) rfl ?_
          refine g_nil ?_
          refine g_then ?_
          refine g_seq ?_
          refine g_region ?_
          refine s_q (q_move rfl) rfl ?_
          refine g_op (g_ownS [Res.blk b34 66 (Rg.c gd), Res.row (Rg.A gd) (Rg.s gd).length (Rg.cap gd) 38 2 (Rg.s gd)] rfl (fun w1 hw1 ho1 => by have h7 := pop_p b34 gd (lb.map (fun v : ByteArray => (v, v))) w1 ho1 hb2; exact h7) rfl ?_)
          rintro g70 ⟨r70, s70⟩
          refine ⟨_, _, inferInstance, inferInstance, ?_⟩
          refine s_q (q_move rfl) rfl ?_
          refine s_q (q_extract rfl rfl) rfl ?_
          refine s_q (q_extract rfl rfl) rfl ?_
          refine g_op (g_alloc rfl fun b11 => ?_)
          refine g_op (g_storew rfl rfl rfl rfl rfl ?_)
          refine s_q (q_assign rfl) rfl ?_
          refine g_nil ?_
          refine g_then ?_
          refine g_seq ?_
          refine g_region ?_
          refine s_q (q_move rfl) rfl ?_
          refine s_q (q_move rfl) rfl ?_
          refine s_q (q_neq_bool (by kernel_rfl) rfl rfl) rfl ?_
          refine g_litb 75 (b := false) rfl (by cases lb <;> rfl) ?_
          refine s_q (q_move rfl) rfl ?_
          refine s_qg (q_loadw rfl rfl) rfl rfl rfl ?_
          refine s_qg (q_move rfl) rfl rfl rfl ?_
          refine s_qg (q_move rfl) rfl rfl rfl ?_
          refine s_qg (q_build rfl rfl) rfl rfl rfl ?_
          refine s_qg (q_nea rfl rfl rfl) rfl rfl rfl ?_
          refine g_litb 81 (b := false) rfl (by cases lb with | nil => simp | cons x r => simp) ?_
          refine s_q (q_pick_f rfl rfl) rfl ?_
          refine g_nil ?_
          refine g_then ?_
          refine g_false rfl ?_
          refine g_skip ?_
          refine g_blk_n ?_
          refine g_then ?_
          refine g_region ?_
          refine s_q (q_inc rfl rfl (by omega)) rfl ?_
          refine s_q (q_move rfl) rfl ?_
          refine g_nil ?_
          exact g_again ((i2 + 1), g65, g70, lb.tail) (by (try dsimp only); exact ⟨(by first | exact lt_i2 | omega), r65, (by cases lb with | nil => exact r70 | cons x r => exact r70)⟩) (by first | omega | (simp only; omega)) (by repeat (first | exact trivial | refine ⟨rfl, ?_⟩)) wok_sub
        · have eq_i2 : i2 = l.length := by have h9 := of_decide_eq_false h5; omega
          refine g_exit ?_
          refine g_then_x (g_then_x (g_blk_hit ?_))
          refine g_then ?_
          refine g_seq ?_
          refine g_region ?_
          refine s_q (q_assign rfl) rfl ?_
          refine g_nil ?_
          refine g_then ?_
          refine g_seq ?_
          refine g_region ?_
          refine s_q (q_move rfl) rfl ?_
          refine g_op (g_pure rfl (fun w1 hw1 => clearN_i w1) rfl ?_)
          refine g_nil ?_
          refine g_then ?_
          refine g_seq ?_
          refine g_region ?_
          refine s_q (q_move rfl) rfl ?_
          refine g_op (g_pure rfl (fun w1 hw1 => popN_i w1) rfl ?_)
          refine s_q (q_move rfl) rfl ?_
          refine s_q (q_extract rfl rfl) rfl ?_
          refine s_q (q_extract rfl rfl) rfl ?_
          refine s_q (q_assign rfl) rfl ?_
          refine s_q (q_assign rfl) rfl ?_
          refine g_nil ?_
          refine g_then ?_
          refine g_seq ?_
          refine g_region ?_
          refine s_q (q_move rfl) rfl ?_
          refine g_op (g_pure rfl (fun w1 hw1 => peekN_i _ w1) rfl ?_)
          refine s_q (q_move rfl) rfl ?_
          refine s_q (q_extract rfl rfl) rfl ?_
          refine s_q (q_extract rfl rfl) rfl ?_
          refine s_q (q_assign rfl) rfl ?_
          refine s_q (q_assign rfl) rfl ?_
          refine g_nil ?_
          refine g_then ?_
          refine g_seq ?_
          refine g_region ?_
          refine g_op (g_pure rfl (fun w1 hw1 => alive_any w1) rfl ?_)
          refine s_q (q_move rfl) rfl ?_
          refine s_qg (q_move rfl) rfl rfl rfl ?_
          refine g_gt rfl rfl (g_lit rfl rfl rfl rfl rfl fun b99 => ?_)
          refine g_blkc (b := b99) ((([1] : List Int).map (fun v : Int => [Value.int .i64 v])).flatten) rfl ?_
          refine g_gt rfl rfl (g_pure rfl (fun w1 hw1 => pushN_i _ _ _ w1) rfl ?_)
          refine s_qg (q_eql rfl rfl) rfl rfl rfl ?_
          refine s_q (q_pick_t rfl rfl) rfl ?_
          refine s_q (q_move rfl) rfl ?_
          refine g_split 103 rfl (fun h6 => ?_) (fun h6 => ?_)
          · refine s_qg (q_move rfl) rfl rfl rfl ?_
            refine g_gt rfl rfl (g_pure rfl (fun w1 hw1 => lenN_i w1) rfl ?_)
            refine s_qg (q_eql rfl rfl) rfl rfl rfl ?_
            refine s_q (q_pick_t rfl rfl) rfl ?_
            refine s_q (q_move rfl) rfl ?_
            refine g_split 108 rfl (fun h7 => ?_) (fun h7 => ?_)
            · refine s_qg (q_move rfl) rfl rfl rfl ?_
              refine g_gt rfl rfl (g_pure rfl (fun w1 hw1 => freeN_i w1) rfl ?_)
              refine s_qg (q_eql rfl rfl) rfl rfl rfl ?_
              refine s_q (q_pick_t rfl rfl) rfl ?_
              refine s_q (q_move rfl) rfl ?_
              refine g_split 113 rfl (fun h8 => ?_) (fun h8 => ?_)
              · refine s_qg (q_move rfl) rfl rfl rfl ?_
                refine g_gt rfl rfl (g_pure rfl (fun w1 hw1 => allN_i w1) rfl ?_)
                refine s_qg (q_len rfl) rfl rfl rfl ?_
                refine s_qg (q_eql rfl rfl) rfl rfl rfl ?_
                refine s_q (q_pick_t rfl rfl) rfl ?_
                refine s_q (q_move rfl) rfl ?_
                refine g_split 119 rfl (fun h9 => ?_) (fun h9 => ?_)
                · refine s_qg (q_move rfl) rfl rfl rfl ?_
                  refine s_qg (q_eql rfl rfl) rfl rfl rfl ?_
                  refine s_q (q_pick_t rfl rfl) rfl ?_
                  refine s_q (q_move rfl) rfl ?_
                  refine g_split 123 rfl (fun h10 => ?_) (fun h10 => ?_)
                  · refine s_qg (q_move rfl) rfl rfl rfl ?_
                    refine s_qg (q_not rfl) rfl rfl rfl ?_
                    refine s_q (q_pick_t rfl rfl) rfl ?_
                    refine s_q (q_move rfl) rfl ?_
                    refine s_qg (q_move rfl) rfl rfl rfl ?_
                    refine s_qg (q_eql rfl rfl) rfl rfl rfl ?_
                    refine s_q (q_pick_t rfl rfl) rfl ?_
                    refine s_q (q_move rfl) rfl ?_
                    refine g_split 131 rfl (fun h11 => ?_) (fun h11 => ?_)
                    · refine s_qg (q_move rfl) rfl rfl rfl ?_
                      refine s_qg (q_not rfl) rfl rfl rfl ?_
                      refine s_q (q_pick_t rfl rfl) rfl ?_
                      refine s_q (q_assign rfl) rfl ?_
                      refine g_nil ?_
                      refine g_then ?_
                      refine g_ret ?_
                      exact fin1 rfl (.tmp rfl) (fun w' hw' => ⟨by first | rfl | (simp_all; done) | (simp_all; omega), hw'.upd⟩) _ (.inl rfl)
                    · refine g_gf rfl rfl rfl rfl ?_
                      refine g_gf rfl rfl rfl rfl ?_
                      refine s_q (q_pick_f rfl rfl) rfl ?_
                      refine s_q (q_assign rfl) rfl ?_
                      refine g_nil ?_
                      refine g_then ?_
                      refine g_ret ?_
                      exact fin1 rfl (.tmp rfl) (fun w' hw' => ⟨by first | rfl | (simp_all; done) | (simp_all; omega), hw'.upd⟩) _ (.inl rfl)
                  · refine g_gf rfl rfl rfl rfl ?_
                    refine g_gf rfl rfl rfl rfl ?_
                    refine s_q (q_pick_f rfl rfl) rfl ?_
                    refine s_q (q_move rfl) rfl ?_
                    refine g_gf rfl rfl rfl rfl ?_
                    refine g_gf rfl rfl rfl rfl ?_
                    refine s_q (q_pick_f rfl rfl) rfl ?_
                    refine s_q (q_move rfl) rfl ?_
                    refine g_gf rfl rfl rfl rfl ?_
                    refine g_gf rfl rfl rfl rfl ?_
                    refine s_q (q_pick_f rfl rfl) rfl ?_
                    refine s_q (q_assign rfl) rfl ?_
                    refine g_nil ?_
                    refine g_then ?_
                    refine g_ret ?_
                    exact fin1 rfl (.tmp rfl) (fun w' hw' => ⟨by first | rfl | (simp_all; done) | (simp_all; omega), hw'.upd⟩) _ (.inl rfl)
                · refine g_gf rfl rfl rfl rfl ?_
                  refine g_gf rfl rfl rfl rfl ?_
                  refine s_q (q_pick_f rfl rfl) rfl ?_
                  refine s_q (q_move rfl) rfl ?_
                  refine g_gf rfl rfl rfl rfl ?_
                  refine g_gf rfl rfl rfl rfl ?_
                  refine s_q (q_pick_f rfl rfl) rfl ?_
                  refine s_q (q_move rfl) rfl ?_
                  refine g_gf rfl rfl rfl rfl ?_
                  refine g_gf rfl rfl rfl rfl ?_
                  refine s_q (q_pick_f rfl rfl) rfl ?_
                  refine s_q (q_move rfl) rfl ?_
                  refine g_gf rfl rfl rfl rfl ?_
                  refine g_gf rfl rfl rfl rfl ?_
                  refine s_q (q_pick_f rfl rfl) rfl ?_
                  refine s_q (q_assign rfl) rfl ?_
                  refine g_nil ?_
                  refine g_then ?_
                  refine g_ret ?_
                  exact fin1 rfl (.tmp rfl) (fun w' hw' => ⟨by first | rfl | (simp_all; done) | (simp_all; omega), hw'.upd⟩) _ (.inl rfl)
              · refine g_gf rfl rfl rfl rfl ?_
                refine g_gf rfl rfl rfl rfl ?_
                refine g_gf rfl rfl rfl rfl ?_
                refine g_gf rfl rfl rfl rfl ?_
                refine s_q (q_pick_f rfl rfl) rfl ?_
                refine s_q (q_move rfl) rfl ?_
                refine g_gf rfl rfl rfl rfl ?_
                refine g_gf rfl rfl rfl rfl ?_
                refine s_q (q_pick_f rfl rfl) rfl ?_
                refine s_q (q_move rfl) rfl ?_
                refine g_gf rfl rfl rfl rfl ?_
                refine g_gf rfl rfl rfl rfl ?_
                refine s_q (q_pick_f rfl rfl) rfl ?_
                refine s_q (q_move rfl) rfl ?_
                refine g_gf rfl rfl rfl rfl ?_
                refine g_gf rfl rfl rfl rfl ?_
                refine s_q (q_pick_f rfl rfl) rfl ?_
                refine s_q (q_move rfl) rfl ?_
                refine g_gf rfl rfl rfl rfl ?_
                refine g_gf rfl rfl rfl rfl ?_
                refine s_q (q_pick_f rfl rfl) rfl ?_
                refine s_q (q_assign rfl) rfl ?_
                refine g_nil ?_
                refine g_then ?_
                refine g_ret ?_
                exact fin1 rfl (.tmp rfl) (fun w' hw' => ⟨by first | rfl | (simp_all; done) | (simp_all; omega), hw'.upd⟩) _ (.inl rfl)
            · refine g_gf rfl rfl rfl rfl ?_
              refine g_gf rfl rfl rfl rfl ?_
              refine g_gf rfl rfl rfl rfl ?_
              refine s_q (q_pick_f rfl rfl) rfl ?_
              refine s_q (q_move rfl) rfl ?_
              refine g_gf rfl rfl rfl rfl ?_
              refine g_gf rfl rfl rfl rfl ?_
              refine g_gf rfl rfl rfl rfl ?_
              refine g_gf rfl rfl rfl rfl ?_
              refine s_q (q_pick_f rfl rfl) rfl ?_
              refine s_q (q_move rfl) rfl ?_
              refine g_gf rfl rfl rfl rfl ?_
              refine g_gf rfl rfl rfl rfl ?_
              refine s_q (q_pick_f rfl rfl) rfl ?_
              refine s_q (q_move rfl) rfl ?_
              refine g_gf rfl rfl rfl rfl ?_
              refine g_gf rfl rfl rfl rfl ?_
              refine s_q (q_pick_f rfl rfl) rfl ?_
              refine s_q (q_move rfl) rfl ?_
              refine g_gf rfl rfl rfl rfl ?_
              refine g_gf rfl rfl rfl rfl ?_
              refine s_q (q_pick_f rfl rfl) rfl ?_
              refine s_q (q_move rfl) rfl ?_
              refine g_gf rfl rfl rfl rfl ?_
              refine g_gf rfl rfl rfl rfl ?_
              refine s_q (q_pick_f rfl rfl) rfl ?_
              refine s_q (q_assign rfl) rfl ?_
              refine g_nil ?_
              refine g_then ?_
              refine g_ret ?_
              exact fin1 rfl (.tmp rfl) (fun w' hw' => ⟨by first | rfl | (simp_all; done) | (simp_all; omega), hw'.upd⟩) _ (.inl rfl)
          · refine g_gf rfl rfl rfl rfl ?_
            refine g_gf rfl rfl rfl rfl ?_
            refine g_gf rfl rfl rfl rfl ?_
            refine s_q (q_pick_f rfl rfl) rfl ?_
            refine s_q (q_move rfl) rfl ?_
            refine g_gf rfl rfl rfl rfl ?_
            refine g_gf rfl rfl rfl rfl ?_
            refine g_gf rfl rfl rfl rfl ?_
            refine s_q (q_pick_f rfl rfl) rfl ?_
            refine s_q (q_move rfl) rfl ?_
            refine g_gf rfl rfl rfl rfl ?_
            refine g_gf rfl rfl rfl rfl ?_
            refine g_gf rfl rfl rfl rfl ?_
            refine g_gf rfl rfl rfl rfl ?_
            refine s_q (q_pick_f rfl rfl) rfl ?_
            refine s_q (q_move rfl) rfl ?_
            refine g_gf rfl rfl rfl rfl ?_
            refine g_gf rfl rfl rfl rfl ?_
            refine s_q (q_pick_f rfl rfl) rfl ?_
            refine s_q (q_move rfl) rfl ?_
            refine g_gf rfl rfl rfl rfl ?_
            refine g_gf rfl rfl rfl rfl ?_
            refine s_q (q_pick_f rfl rfl) rfl ?_
            refine s_q (q_move rfl) rfl ?_
            refine g_gf rfl rfl rfl rfl ?_
            refine g_gf rfl rfl rfl rfl ?_
            refine s_q (q_pick_f rfl rfl) rfl ?_
            refine s_q (q_move rfl) rfl ?_
            refine g_gf rfl rfl rfl rfl ?_
            refine g_gf rfl rfl rfl rfl ?_
            refine s_q (q_pick_f rfl rfl) rfl ?_
            refine s_q (q_assign rfl) rfl ?_
            refine g_nil ?_
            refine g_then ?_
            refine g_ret ?_
            exact fin1 rfl (.tmp rfl) (fun w' hw' => ⟨by first | rfl | (simp_all; done) | (simp_all; omega), hw'.upd⟩) _ (.inl rfl)

theorem main_ringTypes (v0 : Value) (W : World) (a0 : Arg Try.prog W 33 v0) : Pur Try.prog 5 [v0] W (.bool true) := by
  obtain ⟨A_l, c_l, l, rfl, hle0, hm0, o_l, k_l⟩ := Arg.slice (fun v : ByteArray => [Value.string v]) (fun x : ByteArray => x.size ≤ maxLen) Try.underlying33 (show Try.prog.cellsOf 9 = 1 by kernel_rfl) (by omega) (fun f cs h => OKc.str Try.underlying9 h) a0
  have h_l : l.length ≤ c_l ∧ c_l ≤ 9223372036854775807 := ⟨hle0, by unfold maxLen at hm0; omega⟩
  exact law_ringTypes A_l c_l l W o_l h_l k_l

namespace LawRingTypes
open Go.ChangeShapes Go.WideShapes Go.ChangeAt Go.RowKit Go.Eg
set_option linter.unusedVariables false
theorem own : ownKnob Try.prog.godebug = none := by kernel_rfl
theorem laidOut : laidOutB Try.prog = true := by kernel_rfl
set_option maxRecDepth 100000 in
theorem lifted (os : Os) (started : os.Started) (H : Type) (enc : TypeId × Value → H) :
    ReturnsInHanded {} Try.checked os 5 .any (Rows.ringTypesSpec.pre6 enc Try.prog Try.f5 Rows.ringTypesRow.domain false) (Rows.ringTypesSpec.post enc Try.prog Try.f5 false true false false) := by
  refine returnsInHanded_of_change (C := Try.checked) own started (by kernel_rfl) Try.func5
    (ChangeSpec.witness6 (enc := enc) (C := Try.checked) false ⟨#[], #[.slice none 0 0], []⟩ 8 (by kernel_rfl) (by kernel_rfl) (by kernel_rfl) (by kernel_rfl)) ?_
  intro W base args ds gs before hval0 hW hcnd _
  have hval : ∀ (j : Nat) t v, Try.f5.params[j]? = some t → args[j]? = some v → Value.okWide Try.prog W .any base t v := hval0
  have hW' := hW
  obtain ⟨p, q, hA0, hV, rfl, hfz, hnd⟩ := hW
  have hA : DataW.TrodAll enc Try.prog W 0 (fun _ => true) true Try.f5.params.toList args.toList ds p := hA0
  rw [Try.params5] at hA hval
  obtain ⟨v0, vs0, d0, ds0, p0, q0, hargs, rfl, rfl, h0, r0⟩ := trodAll_cons hA
  obtain ⟨rfl, rfl, rfl⟩ := trodAll_nil r0
  obtain rfl : args = #[v0] := by cases args; simp_all
  obtain ⟨rfl, rfl⟩ := trodVars_none hV
  have a0 := Arg.of h0 (hval 0 33 v0 rfl rfl)
  have lt0 : ∀ x ∈ p0, x.block < W.heap.size := by obtain ⟨m, hm⟩ := h0; exact DataW.trod_lt m _ _ _ hm
  clear hA0 hval0
  simp only [List.append_nil] at hW'
  refine Calls.mono (main_ringTypes v0 W a0) ?_
  rintro e W' ⟨v, rfl, rfl, hu⟩
  have bel := hu.below
  have targ := (trodAll_cons_mk (Below.trod laidOut (by kernel_rfl) (of_decide_eq_true (by kernel_rfl)) h0 bel lt0) trodAll_mk0)
  simp only [List.append_nil] at targ
  exact ⟨_, rfl, _, _, _, [], _, [], hW', trodAll_mk1 (shut_bool Try.underlying4 _), targ, rfl, bel.frame _, fun h => by cases h⟩
theorem over : Rows.ringTypesRow.holds Try.pinned (OpenSpec.ofChange Rows.ringTypesSpec) :=
  OpenClaim.holds_of_wide 5 Try.f5 rfl rfl rfl rfl rfl rfl rfl ⟨rfl, rfl, rfl, rfl, rfl⟩ rfl rfl rfl rfl rfl (by kernel_rfl) Try.func5 (by kernel_rfl)
    (of_decide_eq_true (by kernel_rfl)) (by unfold Func.isWrapper; first | (rw [if_pos (by decide +kernel)]; kernel_rfl) | (rw [if_neg (by decide +kernel)]; exact ⟨rfl, rfl⟩))
    (fun os started H enc _ => lifted os started H enc)
theorem proved : Rows.RingTypesSaid := over
end LawRingTypes
end Go.Proofs.Ytjhamghjnilgfaa
