/- a nil ring -/
import Derived.Test.YtjfncbgggfammaaWH
namespace Go.Proofs.Ytjfncbgggfammaa
open Go.RowKit Go.Eg
set_option synthInstance.maxSize 3000
set_option linter.unusedSimpArgs false
set_option linter.unusedVariables false
set_option maxRecDepth 100000
set_option maxHeartbeats 400000 in
theorem batch1_nil (l9 : Nat) (B9 : List Int → Res → Prop) (r : Res) (b6 b4 b5 b7 : Nat) (lim : Int) (W : Option Addr) (wn wc : Nat) (w : World) (hw : WOK (fps [Res.blk b6 23 [Value.int .u64 lim], Res.blk b4 26 [Value.pointer none], Res.blk b5 3 [Value.int .i64 0], Res.blk b7 24 [Value.slice W wn wc], r]) w [Res.blk b6 23 [Value.int .u64 lim], Res.blk b4 26 [Value.pointer none], Res.blk b5 3 [Value.int .i64 0], Res.blk b7 24 [Value.slice W wn wc], r] w) (hB0 : B9 [] r) (hlim : 0 ≤ lim ∧ lim ≤ 18446744073709551615) : Ret Try.prog 32 [.func (.yield l9) #[] #[], .pointer (some ⟨b6, 0, none⟩), .pointer (some ⟨b4, 0, none⟩), .pointer (some ⟨b5, 0, none⟩), .pointer (some ⟨b7, 0, none⟩)] w (fun _ w2 => ∃ r2, B9 [] r2 ∧ WOK (fps [Res.blk b6 23 [Value.int .u64 lim], Res.blk b4 26 [Value.pointer none], Res.blk b5 3 [Value.int .i64 0], Res.blk b7 24 [Value.slice W wn wc], r]) w [Res.blk b6 23 [Value.int .u64 lim], Res.blk b4 26 [Value.pointer none], Res.blk b5 3 [Value.int .i64 0], Res.blk b7 24 [Value.slice W wn wc], r2] w2) := by
  refine g_start Try.func32 rfl 38 rfl (by simp) (fps [Res.blk b6 23 [Value.int .u64 lim], Res.blk b4 26 [Value.pointer none], Res.blk b5 3 [Value.int .i64 0], Res.blk b7 24 [Value.slice W wn wc], r]) [Res.blk b6 23 [Value.int .u64 lim], Res.blk b4 26 [Value.pointer none], Res.blk b5 3 [Value.int .i64 0], Res.blk b7 24 [Value.slice W wn wc], r] hw _ rfl ?_
  refine g_seq ?_
  refine g_region ?_
  refine s_q (q_load rfl rfl) rfl ?_
  refine g_op (g_ownS [] rfl (fun w1 hw1 ho1 => by have h7 := budget_any (lim) w1; exact h7) rfl ?_)
  rintro ⟨sb10, fb10, lb10⟩ _
  refine ⟨_, _, inferInstance, inferInstance, ?_⟩
  refine s_q (q_assign rfl) rfl ?_
  refine g_nil ?_
  refine g_then ?_
  refine g_block ?_
  refine g_loopk [0, 2, 3, 4, 6] (fun (x : Unit) => []) (fun (x : Unit) => [Res.blk sb10 23 [Value.int .u64 (0)], Res.blk fb10 4 [Value.bool (true)], Res.blk lb10 23 [Value.int .u64 lim], Res.blk b6 23 [Value.int .u64 lim], Res.blk b4 26 [Value.pointer none], Res.blk b5 3 [Value.int .i64 0], Res.blk b7 24 [Value.slice W wn wc], r]) (fun (x : Unit) => 0 ≤ lim) (fun (x : Unit) => 0) () (by (try dsimp only); exact hlim.1) rfl (by repeat (first | exact trivial | refine ⟨rfl, ?_⟩)) wok_sub ?_
  rintro k hz
  replace hz : 0 ≤ lim := hz
  refine g_block ?_
  refine g_seq ?_
  refine g_region ?_
  refine s_q (q_load rfl rfl) rfl ?_
  refine s_q (q_load rfl rfl) rfl ?_
  refine g_op (g_pure rfl (fun w1 hw1 => peekN_i _ w1) rfl ?_)
  refine s_q (q_move rfl) rfl ?_
  refine s_q (q_extract rfl rfl) rfl ?_
  refine s_q (q_extract rfl rfl) rfl ?_
  refine s_q (q_assign rfl) rfl ?_
  refine s_q (q_assign rfl) rfl ?_
  refine g_nil ?_
  refine g_then ?_
  refine g_seq ?_
  refine g_seq ?_
  refine g_region ?_
  refine s_q (q_move rfl) rfl ?_
  refine s_q (q_not rfl) rfl ?_
  refine s_q (q_move rfl) rfl ?_
  refine g_gf rfl rfl rfl rfl ?_
  refine g_gf rfl rfl rfl rfl ?_
  refine g_gf rfl rfl rfl rfl ?_
  refine g_gf rfl rfl rfl rfl ?_
  refine g_gf rfl rfl rfl rfl ?_
  refine g_gf rfl rfl rfl rfl ?_
  refine g_gf rfl rfl rfl rfl ?_
  refine g_gf rfl rfl rfl rfl ?_
  refine g_gf rfl rfl rfl rfl ?_
  refine s_q (q_pick_t rfl rfl) rfl ?_
  refine s_q (q_move rfl) rfl ?_
  refine g_gf rfl rfl rfl rfl ?_
  refine g_gf rfl rfl rfl rfl ?_
  refine g_gf rfl rfl rfl rfl ?_
  refine g_gf rfl rfl rfl rfl ?_
  refine s_q (q_pick_t rfl rfl) rfl ?_
  refine g_nil ?_
  refine g_then ?_
  refine g_true rfl ?_
  refine g_ret ?_
  refine g_then_ret (g_blk_ret (g_then_ret (g_blk_ret ?_)))
  exact fin0 rfl (fun w' hw' => ⟨r, hB0, by have h9 := wok_sub (L' := [Res.blk b6 23 [Value.int .u64 lim], Res.blk b4 26 [Value.pointer none], Res.blk b5 3 [Value.int .i64 0], Res.blk b7 24 [Value.slice W wn wc], r]) w' hw'; exact h9⟩) _ (.inl rfl)

set_option maxHeartbeats 400000 in
theorem step_nil (lim : Int) (W : Option Addr) (wn wc : Nat) (w : World) (hlim : 0 ≤ lim ∧ lim ≤ 18446744073709551615) : Own2 (ι := (Option Addr × Nat)) Try.prog 11 [.pointer none, .int .u64 lim, .slice W wn wc] w [] (fun x => True) (fun x => .slice x.1 ([] : List Int).length x.2) (fun x => [Res.row x.1 ([] : List Int).length x.2 3 1 (([] : List Int).map (fun v : Int => [Value.int .i64 v]))]) (fun x => []) := by
  refine g_startM Try.func11 rfl 26 rfl (by simp) (fps []) [] (WOK.start _ _) _ rfl ?_
  refine g_seq ?_
  refine g_region ?_
  refine s_q (q_assign rfl) rfl ?_
  refine g_nil ?_
  refine g_then ?_
  refine g_seq ?_
  refine g_region ?_
  refine g_op (g_alloc rfl fun b7 => ?_)
  refine g_blkc (b := b7) [Value.slice none ([] : List Int).length 0] rfl ?_
  refine g_noresL none 3 1 (([] : List Int).map (fun v : Int => [Value.int .i64 v])) rfl ?_
  refine g_nil ?_
  refine g_then ?_
  refine g_seq ?_
  refine g_seq ?_
  refine g_region ?_
  refine s_q (q_move rfl) rfl ?_
  refine s_q (q_move rfl) rfl ?_
  refine s_q (q_move rfl) rfl ?_
  refine g_op (g_ownS [] rfl (fun w1 hw1 ho1 => by have h7 := batch_any none (lim) W (wn) (wc) w1; exact h7) rfl ?_)
  rintro ⟨bl12, bq12, bf12, bw12⟩ _
  refine ⟨_, _, inferInstance, inferInstance, ?_⟩
  refine g_nil ?_
  refine g_then ?_
  refine g_block ?_
  refine g_rangeFunc (fst := []) (cap := [Value.pointer (some ⟨bl12, 0, none⟩), Value.pointer (some ⟨bq12, 0, none⟩), Value.pointer (some ⟨bf12, 0, none⟩), Value.pointer (some ⟨bw12, 0, none⟩)]) (enc := (fun x : Int => Value.int .i64 x)) (all := ([] : List Int)) rfl rfl [Res.blk bl12 23 [Value.int .u64 lim], Res.blk bq12 26 [Value.pointer none], Res.blk bf12 3 [Value.int .i64 0], Res.blk bw12 24 [Value.slice W wn wc]] [Res.blk bl12 23 [Value.int .u64 lim], Res.blk bq12 26 [Value.pointer none], Res.blk bf12 3 [Value.int .i64 0], Res.blk bw12 24 [Value.slice W wn wc]] [] (fun (y9 : Option Addr × Nat × List Int) => [Res.blk b7 22 [Value.slice y9.1 y9.2.2.length y9.2.1], Res.row y9.1 y9.2.2.length y9.2.1 3 1 (y9.2.2.map (fun v : Int => [Value.int .i64 v]))]) (fun pre (y9 : Option Addr × Nat × List Int) => y9.2.2 = pre) (none, 0, []) (rfl) (fun w1 hw1 => by have h9 := wok_sub (L' := [Res.blk bl12 23 [Value.int .u64 lim], Res.blk bq12 26 [Value.pointer none], Res.blk bf12 3 [Value.int .i64 0], Res.blk bw12 24 [Value.slice W wn wc], Res.blk b7 22 [Value.slice none ([] : List Int).length 0], Res.row none ([] : List Int).length 0 3 1 (([] : List Int).map (fun v : Int => [Value.int .i64 v]))]) w1 hw1; exact h9) (fun w1 hw1 => by intro l9 B9 r9 hY9 hB9 hc9 ho9; exact batch1_nil l9 B9 r9 bl12 bq12 bf12 bw12 lim W wn wc w1 ho9 hB9 hlim) (fun x9 => [(8, Value.int .i64 x9), (7, Value.pointer (some ⟨b7, 0, none⟩))]) ?_ ?_ ?_
  · rintro l9 pre x9 ⟨A9, c9, o9⟩ w9 hpre9 hp9
    refine g_region ?_
    refine s_q (q_assign rfl) rfl ?_
    refine g_nil ?_
    exact g_asg (by repeat (first | exact trivial | refine ⟨rfl, ?_⟩)) wok_sub
  · rintro l9 pre x9 ⟨A9, c9, o9⟩ w9 hpre9 hp9
    replace hp9 : o9 = pre := hp9
    have hbl := hpre9.length_le
    simp only [List.length_append, List.length_cons, List.length_nil] at hbl
    omega
  rintro ⟨A9, c9, o9⟩ hp9 m9
  refine g_setL (L' := [Res.obj m9 (.deferred (some [])), Res.blk bl12 23 [Value.int .u64 lim], Res.blk bq12 26 [Value.pointer none], Res.blk bf12 3 [Value.int .i64 0], Res.blk bw12 24 [Value.slice W wn wc], Res.blk b7 22 [Value.slice A9 o9.length c9], Res.row A9 o9.length c9 3 1 (o9.map (fun v : Int => [Value.int .i64 v]))]) rfl ?_
  replace hp9 : o9 = ([] : List Int) := hp9
  have hbl3 : o9.length = 0 := by rw [hp9]; rfl
  refine g_blk_n ?_
  refine g_then ?_
  refine g_seq ?_
  refine g_seq ?_
  refine g_region ?_
  refine s_q (q_load rfl rfl) rfl ?_
  refine s_q (q_len rfl) rfl ?_
  refine s_q (q_move rfl) rfl ?_
  refine g_nil ?_
  refine g_then ?_
  refine g_block ?_
  refine g_loopk [0, 6, 7, 19] (fun (x : Nat) => [(20, .int .i64 ((x : Nat) : Int))]) (fun (x : Nat) => [Res.obj m9 (.deferred (some [])), Res.blk b7 22 [Value.slice A9 o9.length c9], Res.row A9 o9.length c9 3 1 (o9.map (fun v : Int => [Value.int .i64 v]))]) (fun (x : Nat) => x ≤ o9.length) (fun (x : Nat) => o9.length - x) 0 (by (try dsimp only); exact Nat.zero_le _) rfl (by repeat (first | exact trivial | refine ⟨rfl, ?_⟩)) wok_sub ?_
  rintro i le_i
  replace le_i : i ≤ o9.length := le_i
  refine g_seq ?_
  refine g_region ?_
  refine s_q (q_lss rfl rfl) rfl ?_
  refine g_nil ?_
  refine g_then ?_
  refine g_seq ?_
  refine g_cond rfl (fun h1 => ?_) (fun h1 => ?_)
  · have lt_i : i < o9.length := by have h9 := of_decide_eq_true h1; omega
    refine g_skip ?_
    refine g_then ?_
    refine g_seq ?_
    refine g_block ?_
    refine g_region ?_
    refine s_q (q_move rfl) rfl ?_
    refine g_op (g_pure rfl (fun w1 hw1 => popN_i w1) rfl ?_)
    refine g_nil ?_
    refine g_blk_n ?_
    refine g_then ?_
    refine g_region ?_
    refine s_q (q_inc rfl rfl (by omega)) rfl ?_
    refine s_q (q_move rfl) rfl ?_
    refine g_nil ?_
    exact g_again (i + 1) (by (try dsimp only); exact (by first | exact lt_i | omega)) (by first | omega | (simp only; omega)) (by repeat (first | exact trivial | refine ⟨rfl, ?_⟩)) wok_sub
  · have eq_i : i = o9.length := by have h9 := of_decide_eq_false h1; omega
    refine g_exit ?_
    refine g_then_x (g_then_x (g_blk_hit ?_))
    refine g_then ?_
    refine g_seq ?_
    refine g_region ?_
    refine s_q (q_load rfl rfl) rfl ?_
    refine s_q (q_assign rfl) rfl ?_
    refine g_nil ?_
    refine g_then ?_
    refine g_ret ?_
    subst hp9
    exact finM1 rfl (.tmp rfl) (fun w' hw' => ⟨(A9, c9), (by first | exact trivial | (dsimp only; exact trivial)), rfl, by have h9 := wok_sub (L' := [Res.row ((A9, c9)).1 ([] : List Int).length ((A9, c9)).2 3 1 (([] : List Int).map (fun v : Int => [Value.int .i64 v]))]) w' hw'; exact h9⟩) _ (.inl rfl)

set_option maxHeartbeats 400000 in
theorem wait_nil (lim w9 : Int) (W : Option Addr) (wn wc : Nat) (w : World)  : Pur Try.prog 17 [.pointer none, .int .u64 lim, .slice W wn wc, .int .u64 w9] w (.int .i64 0) := by
  refine g_start Try.func17 rfl 54 rfl (by simp) ([]) [] (WOK.start _ _) _ rfl ?_
  refine g_seq ?_
  refine g_region ?_
  refine s_q (q_assign rfl) rfl ?_
  refine g_nil ?_
  refine g_then ?_
  refine g_seq ?_
  refine g_seq ?_
  refine g_region ?_
  refine s_q (q_move rfl) rfl ?_
  refine s_q (q_eqp (b := true) rfl rfl rfl) rfl ?_
  refine g_nil ?_
  refine g_then ?_
  refine g_true rfl ?_
  refine g_seq ?_
  refine g_region ?_
  refine s_q (q_assign rfl) rfl ?_
  refine g_nil ?_
  refine g_then ?_
  refine g_ret ?_
  refine g_then_ret ?_
  exact fin1 rfl (.tmp rfl) (fun w' hw' => ⟨by rfl, hw'.upd⟩) _ (.inl rfl)

set_option maxHeartbeats 400000 in
theorem max14_any  (w : World)  : Pur Try.prog 21 [] w (.int .u64 18446744073709551615) := by
  refine g_start Try.func21 rfl 2 rfl (by simp) ([]) [] (WOK.start _ _) _ rfl ?_
  refine g_seq ?_
  refine g_region ?_
  refine s_q (q_assign rfl) rfl ?_
  refine g_nil ?_
  refine g_then ?_
  refine g_seq ?_
  refine g_region ?_
  refine g_op (g_pure rfl (fun w1 hw1 => max_any w1) rfl ?_)
  refine s_q (q_assign rfl) rfl ?_
  refine g_nil ?_
  refine g_then ?_
  refine g_ret ?_
  exact fin1 rfl (.tmp rfl) (fun w' hw' => ⟨by rfl, hw'.upd⟩) _ (.inl rfl)

theorem bat_zero {lim : Int} (hl : 0 ≤ lim) : ∀ (l : List Int) (f : Bool), batF lim [] l 0 f = l
  | [], _ => rfl
  | i :: r, f => by
    have e0 : ofW [] i = 0 := by unfold ofW; split <;> simp
    have eb : budB lim 0 f (ofW [] i) true = true := by rw [e0]; unfold budB addB addV; simp; omega
    have es : budS lim 0 f (ofW [] i) true = 0 := by unfold budS; rw [eb, if_pos rfl, e0]; rfl
    rw [batF, if_pos eb, es, bat_zero hl r]
end Go.Proofs.Ytjfncbgggfammaa
