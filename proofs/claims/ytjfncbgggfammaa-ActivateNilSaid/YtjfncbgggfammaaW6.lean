/- walk of activate.Step -/
import Derived.Test.YtjfncbgggfammaaW5
namespace Go.Proofs.Ytjfncbgggfammaa
open Go.RowKit Go.Eg
set_option synthInstance.maxSize 3000
set_option linter.unusedSimpArgs false
set_option linter.unusedVariables false
set_option maxRecDepth 100000
theorem bat_len (lim : Int) (ws : List Int) : ∀ (l : List Int) (s : Int) (f : Bool), (batF lim ws l s f).length ≤ l.length
  | [], _, _ => by simp [batF]
  | i :: l, s, f => by
    unfold batF
    split
    · have := bat_len lim ws l (budS lim s f (ofW ws i) true) (budF lim s f (ofW ws i) true)
      simp only [List.length_cons]; omega
    · simp

set_option maxHeartbeats 400000 in
theorem step_any (rb : Nat) (g : Rg) (lim : Int) (W : Option Addr) (wn wc : Nat) (ws l : List Int) (w : World) (hw : WOK (fps [Res.blk rb 50 (Rg.c g), Res.row (Rg.A g) (Rg.s g).length (Rg.cap g) 3 1 (Rg.s g)]) w [Res.blk rb 50 (Rg.c g), Res.row (Rg.A g) (Rg.s g).length (Rg.cap g) 3 1 (Rg.s g)] w) (h : g.Rep 1 (l.map (fun v : Int => [Value.int .i64 v]))) (hw9 : Rd w [Res.blk rb 50 (Rg.c g), Res.row (Rg.A g) (Rg.s g).length (Rg.cap g) 3 1 (Rg.s g)] W wn 1 (ws.map (fun v : Int => [Value.int .u64 v]))) (hokw : okU ws) (hlim : 0 ≤ lim ∧ lim ≤ 18446744073709551615) (hln : l.length ≤ 1000000) : Own2 (ι := (Option Addr × Nat × Rg)) Try.prog 11 [.pointer (some ⟨rb, 0, none⟩), .int .u64 lim, .slice W wn wc] w [Res.blk rb 50 (Rg.c g), Res.row (Rg.A g) (Rg.s g).length (Rg.cap g) 3 1 (Rg.s g)] (fun x => x.2.2.Rep 1 ((l.drop (batF lim ws l 0 true).length).map (fun v : Int => [Value.int .i64 v])) ∧ x.2.2.size = g.size) (fun x => .slice x.1 (batF lim ws l 0 true).length x.2.1) (fun x => [Res.row x.1 (batF lim ws l 0 true).length x.2.1 3 1 ((batF lim ws l 0 true).map (fun v : Int => [Value.int .i64 v]))]) (fun x => [Res.blk rb 50 (Rg.c x.2.2), Res.row (Rg.A x.2.2) (Rg.s x.2.2).length (Rg.cap x.2.2) 3 1 (Rg.s x.2.2)]) := by
  refine g_startM Try.func11 rfl 26 rfl (by simp) (fps [Res.blk rb 50 (Rg.c g), Res.row (Rg.A g) (Rg.s g).length (Rg.cap g) 3 1 (Rg.s g)]) [Res.blk rb 50 (Rg.c g), Res.row (Rg.A g) (Rg.s g).length (Rg.cap g) 3 1 (Rg.s g)] hw _ rfl ?_
  refine g_seq ?_
  refine g_region ?_
  refine s_q (q_assign rfl) rfl ?_
  refine g_nil ?_
  refine g_then ?_
  refine g_seq ?_
  refine g_region ?_
  refine g_op (g_alloc rfl fun b7 => ?_)
  refine g_blkc (b := b7) [Value.slice none ([] : List Int).length 0] rfl ?_
  refine g_noresL none 3 1 (([] : List Int).map (fun v : Int => [Value.int .i64 v])) rfl ?_
  refine g_nil ?_
  refine g_then ?_
  refine g_seq ?_
  refine g_seq ?_
  refine g_region ?_
  refine s_q (q_move rfl) rfl ?_
  refine s_q (q_move rfl) rfl ?_
  refine s_q (q_move rfl) rfl ?_
  refine g_op (g_ownS [] rfl (fun w1 hw1 ho1 => by have h7 := batch_any (some ⟨rb, 0, none⟩) (lim) W (wn) (wc) w1; exact h7) rfl ?_)
  rintro ⟨bl12, bq12, bf12, bw12⟩ _
  refine ⟨_, _, inferInstance, inferInstance, ?_⟩
  refine g_nil ?_
  refine g_then ?_
  refine g_block ?_
  refine g_rangeFunc (fst := []) (cap := [Value.pointer (some ⟨bl12, 0, none⟩), Value.pointer (some ⟨bq12, 0, none⟩), Value.pointer (some ⟨bf12, 0, none⟩), Value.pointer (some ⟨bw12, 0, none⟩)]) (enc := (fun x : Int => Value.int .i64 x)) (all := (batF lim ws l 0 true)) rfl rfl [Res.blk bl12 23 [Value.int .u64 lim], Res.blk bq12 26 [Value.pointer (some ⟨rb, 0, none⟩)], Res.blk bf12 3 [Value.int .i64 0], Res.blk bw12 24 [Value.slice W wn wc], Res.blk rb 50 (Rg.c g), Res.row (Rg.A g) (Rg.s g).length (Rg.cap g) 3 1 (Rg.s g)] [Res.blk bl12 23 [Value.int .u64 lim], Res.blk bq12 26 [Value.pointer (some ⟨rb, 0, none⟩)], Res.blk bf12 3 [Value.int .i64 (((batF lim ws l 0 true).length : Nat) : Int)], Res.blk bw12 24 [Value.slice W wn wc], Res.blk rb 50 (Rg.c g), Res.row (Rg.A g) (Rg.s g).length (Rg.cap g) 3 1 (Rg.s g)] [] (fun (y9 : Option Addr × Nat × List Int) => [Res.blk b7 22 [Value.slice y9.1 y9.2.2.length y9.2.1], Res.row y9.1 y9.2.2.length y9.2.1 3 1 (y9.2.2.map (fun v : Int => [Value.int .i64 v]))]) (fun pre (y9 : Option Addr × Nat × List Int) => y9.2.2 = pre) (none, 0, []) (rfl) (fun w1 hw1 => by have h9 := wok_sub (L' := [Res.blk bl12 23 [Value.int .u64 lim], Res.blk bq12 26 [Value.pointer (some ⟨rb, 0, none⟩)], Res.blk bf12 3 [Value.int .i64 0], Res.blk bw12 24 [Value.slice W wn wc], Res.blk rb 50 (Rg.c g), Res.row (Rg.A g) (Rg.s g).length (Rg.cap g) 3 1 (Rg.s g), Res.blk b7 22 [Value.slice none ([] : List Int).length 0], Res.row none ([] : List Int).length 0 3 1 (([] : List Int).map (fun v : Int => [Value.int .i64 v]))]) w1 hw1; exact h9) (fun w1 hw1 => by intro l9 B9 r9 hY9 hB9 hc9 ho9; have hc8 : WOK _ _ [Res.blk bl12 23 [Value.int .u64 lim], Res.blk bq12 26 [Value.pointer (some ⟨rb, 0, none⟩)], Res.blk bf12 3 [Value.int .i64 0], Res.blk bw12 24 [Value.slice W wn wc], Res.blk rb 50 (Rg.c g), Res.row (Rg.A g) (Rg.s g).length (Rg.cap g) 3 1 (Rg.s g), r9] w1 := hc9; exact batch1_any l9 B9 r9 bl12 bq12 bf12 bw12 rb g lim W wn wc ws l w1 ho9 hY9 hB9 h (Rd.ofRd hc8 hw9 (by omega)) hokw hlim hln) (fun x9 => [(8, Value.int .i64 x9), (7, Value.pointer (some ⟨b7, 0, none⟩))]) ?_ ?_ ?_
  · rintro l9 pre x9 ⟨A9, c9, o9⟩ w9 hpre9 hp9
    refine g_region ?_
    refine s_q (q_assign rfl) rfl ?_
    refine g_nil ?_
    exact g_asg (by repeat (first | exact trivial | refine ⟨rfl, ?_⟩)) wok_sub
  · rintro l9 pre x9 ⟨A9, c9, o9⟩ w9 hpre9 hp9
    replace hp9 : o9 = pre := hp9
    have hbl := hpre9.length_le
    have hbl2 := bat_len lim ws l 0 true
    simp only [List.length_append, List.length_cons, List.length_nil] at hbl
    have hbl3 : o9.length ≤ 1000000 := by rw [hp9]; omega
    refine g_setL (L' := [Res.blk b7 22 [Value.slice A9 o9.length c9], Res.row A9 o9.length c9 3 1 (o9.map (fun v : Int => [Value.int .i64 v]))]) rfl ?_
    refine g_block ?_
    refine g_region ?_
    refine s_q (q_load rfl rfl) rfl ?_
    refine s_q (q_move rfl) rfl ?_
    refine g_op (g_lit rfl rfl rfl rfl rfl fun b16 => ?_)
    refine g_blkc (b := b16) ((([x9] : List Int).map (fun v : Int => [Value.int .i64 v])).flatten) rfl ?_
    refine g_op (g_append (A := A9) (els := (o9).map (fun v : Int => [Value.int .i64 v])) (news := (([x9] : List Int).map (fun v : Int => [Value.int .i64 v]))) rfl rfl (InL.rdb (b := b16) rfl (by simp) rfl) (map_one (c := (fun v : Int => [Value.int .i64 v])) (by intro x; simp [Value.oneCell']) _) (by omega) rfl fun A17 cap17 => ⟨_, inferInstance, ?_⟩)
    refine g_rowels (A := A17) (((o9 ++ [x9])).map (fun v : Int => [Value.int .i64 v])) (by first | rfl | exact List.map_append.symm | (simp; done)) ?_
    refine g_op (g_store rfl rfl rfl rfl rfl rfl rfl ?_)
    refine g_nil ?_
    refine g_blk_n ?_
    refine g_rown (A := A17) ((o9 ++ [x9]) : List Int).length (by simp) ?_
    refine g_blkc (b := b7) [Value.slice A17 ((o9 ++ [x9]) : List Int).length cap17] (by simp [splice]) ?_
    exact g_round (fun w2 hw2 => ⟨(A17, cap17, (o9 ++ [x9] : List Int)), by show o9 ++ [x9] = pre ++ [x9]; rw [hp9], by have h9 := wok_sub (L' := [Res.blk b7 22 [Value.slice A17 (o9 ++ [x9] : List Int).length cap17], Res.row A17 (o9 ++ [x9] : List Int).length cap17 3 1 ((o9 ++ [x9] : List Int).map (fun v : Int => [Value.int .i64 v]))]) w2 hw2; exact h9⟩)
  rintro ⟨A9, c9, o9⟩ hp9 m9
  refine g_setL (L' := [Res.obj m9 (.deferred (some [])), Res.blk bl12 23 [Value.int .u64 lim], Res.blk bq12 26 [Value.pointer (some ⟨rb, 0, none⟩)], Res.blk bf12 3 [Value.int .i64 (((batF lim ws l 0 true).length : Nat) : Int)], Res.blk bw12 24 [Value.slice W wn wc], Res.blk rb 50 (Rg.c g), Res.row (Rg.A g) (Rg.s g).length (Rg.cap g) 3 1 (Rg.s g), Res.blk b7 22 [Value.slice A9 o9.length c9], Res.row A9 o9.length c9 3 1 (o9.map (fun v : Int => [Value.int .i64 v]))]) rfl ?_
  replace hp9 : o9 = (batF lim ws l 0 true) := hp9
  have hbl2 := bat_len lim ws l 0 true
  have hbl3 : o9.length ≤ l.length := by rw [hp9]; exact hbl2
  refine g_blk_n ?_
  refine g_then ?_
  refine g_seq ?_
  refine g_seq ?_
  refine g_region ?_
  refine s_q (q_load rfl rfl) rfl ?_
  refine s_q (q_len rfl) rfl ?_
  refine s_q (q_move rfl) rfl ?_
  refine g_nil ?_
  refine g_then ?_
  refine g_block ?_
  refine g_loopk [0, 6, 7, 19] (fun (x : Nat × Rg) => [(20, .int .i64 ((x.1 : Nat) : Int))]) (fun (x : Nat × Rg) => [Res.obj m9 (.deferred (some [])), Res.blk b7 22 [Value.slice A9 o9.length c9], Res.row A9 o9.length c9 3 1 (o9.map (fun v : Int => [Value.int .i64 v])), Res.blk rb 50 (Rg.c x.2), Res.row (Rg.A x.2) (Rg.s x.2).length (Rg.cap x.2) 3 1 (Rg.s x.2)]) (fun (x : Nat × Rg) => x.1 ≤ o9.length ∧ (x.2).Rep 1 ((l.drop x.1).map (fun v : Int => [Value.int .i64 v])) ∧ (x.2).size = g.size) (fun (x : Nat × Rg) => o9.length - x.1) (0, g) (by (try dsimp only); exact ⟨Nat.zero_le _, (by simpa using h), rfl⟩) rfl (by repeat (first | exact trivial | refine ⟨rfl, ?_⟩)) wok_sub ?_
  rintro ⟨i, g1⟩ ⟨le_i, hr, hz⟩
  replace le_i : i ≤ o9.length := le_i
  replace hr : (g1).Rep 1 ((l.drop i).map (fun v : Int => [Value.int .i64 v])) := hr
  replace hz : (g1).size = g.size := hz
  refine g_setL (L' := [Res.obj m9 (.deferred (some [])), Res.blk b7 22 [Value.slice A9 o9.length c9], Res.row A9 o9.length c9 3 1 (o9.map (fun v : Int => [Value.int .i64 v])), Res.blk rb 50 (Rg.c g1), Res.row (Rg.A g1) (Rg.s g1).length (Rg.cap g1) 3 1 (Rg.s g1)]) rfl ?_
  refine g_val 20 (v' := .int .i64 ((i : Nat) : Int)) rfl rfl ?_
  refine g_seq ?_
  refine g_region ?_
  refine s_q (q_lss rfl rfl) rfl ?_
  refine g_nil ?_
  refine g_then ?_
  refine g_seq ?_
  refine g_cond rfl (fun h1 => ?_) (fun h1 => ?_)
  · have lt_i : i < o9.length := by have h9 := of_decide_eq_true h1; omega
    refine g_skip ?_
    refine g_then ?_
    refine g_seq ?_
    refine g_block ?_
    refine g_region ?_
    refine s_q (q_move rfl) rfl ?_
    refine g_op (g_ownS [Res.blk rb 50 (Rg.c g1), Res.row (Rg.A g1) (Rg.s g1).length (Rg.cap g1) 3 1 (Rg.s g1)] rfl (fun w1 hw1 ho1 => by have h7 := pop_i rb g1 (l.drop i) w1 ho1 hr; exact h7) rfl ?_)
    rintro g23 ⟨r23, s23⟩
    refine ⟨_, _, inferInstance, inferInstance, ?_⟩
    refine g_nil ?_
    refine g_blk_n ?_
    refine g_then ?_
    refine g_region ?_
    refine s_q (q_inc rfl rfl (by omega)) rfl ?_
    refine s_q (q_move rfl) rfl ?_
    refine g_nil ?_
    exact g_again ((i + 1), g23) (by (try dsimp only); exact ⟨(by first | exact lt_i | omega), (by have h9 := r23; simpa using h9), (by omega)⟩) (by first | omega | (simp only; omega)) (by repeat (first | exact trivial | refine ⟨rfl, ?_⟩)) wok_sub
  · have eq_i : i = o9.length := by have h9 := of_decide_eq_false h1; omega
    refine g_exit ?_
    refine g_then_x (g_then_x (g_blk_hit ?_))
    refine g_then ?_
    refine g_seq ?_
    refine g_region ?_
    refine s_q (q_load rfl rfl) rfl ?_
    refine s_q (q_assign rfl) rfl ?_
    refine g_nil ?_
    refine g_then ?_
    refine g_ret ?_
    subst hp9
    rw [eq_i] at hr
    exact finM1 rfl (.tmp rfl) (fun w' hw' => ⟨(A9, c9, g1), (by first | exact ⟨hr, hz⟩ | (dsimp only; exact ⟨hr, hz⟩)), rfl, by have h9 := wok_sub (L' := [Res.row ((A9, c9, g1)).1 (batF lim ws l 0 true).length ((A9, c9, g1)).2.1 3 1 ((batF lim ws l 0 true).map (fun v : Int => [Value.int .i64 v])), Res.blk rb 50 (Rg.c ((A9, c9, g1)).2.2), Res.row (Rg.A ((A9, c9, g1)).2.2) (Rg.s ((A9, c9, g1)).2.2).length (Rg.cap ((A9, c9, g1)).2.2) 3 1 (Rg.s ((A9, c9, g1)).2.2)]) w' hw'; exact h9⟩) _ (.inl rfl)
end Go.Proofs.Ytjfncbgggfammaa
