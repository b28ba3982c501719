/- walk of assign.Step -/
import Derived.Test.YtmolaicpbaiioaaW6
namespace Go.Proofs.Ytmolaicpbaiioaa
open Go.RowKit Go.Eg
set_option synthInstance.maxSize 3000
set_option linter.unusedSimpArgs false
set_option linter.unusedVariables false
set_option maxRecDepth 100000
set_option maxHeartbeats 400000 in
theorem wt_any (A : Option Addr) (n cap : Nat) (l : List Int) (i : Int) (w : World) (ha : Old w A n 1 (l.map (fun v : Int => [Value.int .u64 v]))) : Pur Try.prog 33 [.slice A n cap, .int .i64 i] w (.int .u64 (ofW l i)) := by
  refine g_start Try.func33 rfl 17 rfl (by simp) ([]) [] (WOK.start _ _) _ rfl ?_
  refine g_seq ?_
  refine g_region ?_
  refine s_q (q_assign rfl) rfl ?_
  refine g_nil ?_
  refine g_then ?_
  refine g_seq ?_
  refine g_seq ?_
  refine g_region ?_
  refine s_q (q_move rfl) rfl ?_
  refine s_q (q_lss rfl rfl) rfl ?_
  refine s_q (q_move rfl) rfl ?_
  refine g_split 7 rfl (fun h1 => ?_) (fun h1 => ?_)
  · refine g_gf rfl rfl rfl rfl ?_
    refine g_gf rfl rfl rfl rfl ?_
    refine g_gf rfl rfl rfl rfl ?_
    refine g_gf rfl rfl rfl rfl ?_
    refine s_q (q_pick_t rfl rfl) rfl ?_
    refine g_nil ?_
    refine g_then ?_
    refine g_true rfl ?_
    refine g_seq ?_
    refine g_region ?_
    refine s_q (q_assign rfl) rfl ?_
    refine g_nil ?_
    refine g_then ?_
    refine g_ret ?_
    refine g_then_ret ?_
    exact fin1 rfl (.tmp rfl) (fun w' hw' => ⟨by rw [ofW_lo (by first | exact .inl (of_decide_eq_true h1) | (have h8 := ha.len; simp only [List.length_map] at h8; simp_all; omega))], hw'.upd⟩) _ (.inl rfl)
  · refine s_qg (q_move rfl) rfl rfl rfl ?_
    refine s_qg (q_move rfl) rfl rfl rfl ?_
    refine s_qg (q_len rfl) rfl rfl rfl ?_
    refine s_qg (q_geq rfl rfl) rfl rfl rfl ?_
    refine s_q (q_pick_f rfl rfl) rfl ?_
    refine g_nil ?_
    refine g_then ?_
    refine g_cond rfl (fun h2 => ?_) (fun h2 => ?_)
    · refine g_seq ?_
      refine g_region ?_
      refine s_q (q_assign rfl) rfl ?_
      refine g_nil ?_
      refine g_then ?_
      refine g_ret ?_
      refine g_then_ret ?_
      exact fin1 rfl (.tmp rfl) (fun w' hw' => ⟨by rw [ofW_lo (.inr (by have h8 := ha.len; simp only [List.length_map] at h8; have h7 := of_decide_eq_true h2; omega))], hw'.upd⟩) _ (.inl rfl)
    · have hn : n = l.length := by simpa using ha.len
      have h9 : ¬ i < 0 ∧ ¬ (l.length : Int) ≤ i := ⟨of_decide_eq_false h1, by have h7 := of_decide_eq_false h2; omega⟩
      obtain ⟨j, rfl⟩ : ∃ j : Nat, i = j := ⟨i.toNat, by omega⟩
      have hj : j < l.length := by omega
      refine g_skip ?_
      refine g_then ?_
      refine g_seq ?_
      refine g_region ?_
      refine s_q (q_move rfl) rfl ?_
      refine s_q (q_move rfl) rfl ?_
      refine s_q (q_index (i := j) rfl rfl rfl (ha.rdb rfl) (by first | omega | (simp; done) | (simp; omega))) rfl ?_
      refine s_q (q_load_el (i := j) (o := 0) rfl (ha.rdb rfl) (map_get (by first | assumption | omega)) rfl rfl) rfl ?_
      refine s_q (q_assign rfl) rfl ?_
      refine g_nil ?_
      refine g_then ?_
      refine g_ret ?_
      exact fin1 rfl (.tmp rfl) (fun w' hw' => ⟨by rw [ofW_hi hj], hw'.upd⟩) _ (.inl rfl)

set_option maxHeartbeats 400000 in
theorem astep_any (e lim : Int) (bl b0 b1 mb : Nat) (g0 g1 : Rg) (q : LL) (sz : Nat) (m : M) (W : Option Addr) (wn wc : Nat) (l : List Int) (w : World) (hw : WOK (fps [Res.blk bl 77 [Value.pointer (some ⟨b0, 0, none⟩), Value.pointer (some ⟨b1, 0, none⟩)], Res.blk b0 108 (Rg.c g0), Res.row (Rg.A g0) (Rg.s g0).length (Rg.cap g0) 3 1 (Rg.s g0), Res.blk b1 108 (Rg.c g1), Res.row (Rg.A g1) (Rg.s g1).length (Rg.cap g1) 3 1 (Rg.s g1), Res.blk mb 84 (M.c m)]) w [Res.blk bl 77 [Value.pointer (some ⟨b0, 0, none⟩), Value.pointer (some ⟨b1, 0, none⟩)], Res.blk b0 108 (Rg.c g0), Res.row (Rg.A g0) (Rg.s g0).length (Rg.cap g0) 3 1 (Rg.s g0), Res.blk b1 108 (Rg.c g1), Res.row (Rg.A g1) (Rg.s g1).length (Rg.cap g1) 3 1 (Rg.s g1), Res.blk mb 84 (M.c m)] w) (h0 : g0.Rep 1 ((q).f.map (fun v : Int => [Value.int .i64 v]))) (hh1 : g1.Rep 1 ((q).v.map (fun v : Int => [Value.int .i64 v]))) (s0 : Rg.size g0 = sz) (s1 : Rg.size g1 = sz) (hsz : sz ≤ 4096) (hq : q.f.length ≤ sz ∧ q.v.length ≤ sz) (hw9 : Rd w [Res.blk bl 77 [Value.pointer (some ⟨b0, 0, none⟩), Value.pointer (some ⟨b1, 0, none⟩)], Res.blk b0 108 (Rg.c g0), Res.row (Rg.A g0) (Rg.s g0).length (Rg.cap g0) 3 1 (Rg.s g0), Res.blk b1 108 (Rg.c g1), Res.row (Rg.A g1) (Rg.s g1).length (Rg.cap g1) 3 1 (Rg.s g1), Res.blk mb 84 (M.c m)] W wn 1 (l.map (fun v : Int => [Value.int .u64 v]))) (he9 : -1000000 ≤ e ∧ e ≤ 1000000000000000) : Own2 (ι := (Option Addr × Nat × Rg × Rg)) Try.prog 14 [.int .i64 e, .pointer (some ⟨bl, 0, none⟩), .pointer (some ⟨mb, 0, none⟩), .int .u64 lim, .slice W wn wc] w [Res.blk bl 77 [Value.pointer (some ⟨b0, 0, none⟩), Value.pointer (some ⟨b1, 0, none⟩)], Res.blk b0 108 (Rg.c g0), Res.row (Rg.A g0) (Rg.s g0).length (Rg.cap g0) 3 1 (Rg.s g0), Res.blk b1 108 (Rg.c g1), Res.row (Rg.A g1) (Rg.s g1).length (Rg.cap g1) 3 1 (Rg.s g1), Res.blk mb 84 (M.c m)] (fun x => x.2.2.1.Rep 1 ((stepM l e lim q m).2.1.f.map (fun v : Int => [Value.int .i64 v])) ∧ x.2.2.2.Rep 1 ((stepM l e lim q m).2.1.v.map (fun v : Int => [Value.int .i64 v])) ∧ x.2.2.1.size = sz ∧ x.2.2.2.size = sz) (fun x => .slice x.1 (stepM l e lim q m).1.length x.2.1) (fun x => [Res.row x.1 ((stepM l e lim q m).1).length x.2.1 42 3 (((stepM l e lim q m).1).map As.cs)]) (fun x => [Res.blk bl 77 [Value.pointer (some ⟨b0, 0, none⟩), Value.pointer (some ⟨b1, 0, none⟩)], Res.blk b0 108 (Rg.c x.2.2.1), Res.row (Rg.A x.2.2.1) (Rg.s x.2.2.1).length (Rg.cap x.2.2.1) 3 1 (Rg.s x.2.2.1), Res.blk b1 108 (Rg.c x.2.2.2), Res.row (Rg.A x.2.2.2) (Rg.s x.2.2.2).length (Rg.cap x.2.2.2) 3 1 (Rg.s x.2.2.2), Res.blk mb 84 (M.c (stepM l e lim q m).2.2)]) := by
  refine g_start Try.func14 rfl 62 rfl (by simp) (fps [Res.blk bl 77 [Value.pointer (some ⟨b0, 0, none⟩), Value.pointer (some ⟨b1, 0, none⟩)], Res.blk b0 108 (Rg.c g0), Res.row (Rg.A g0) (Rg.s g0).length (Rg.cap g0) 3 1 (Rg.s g0), Res.blk b1 108 (Rg.c g1), Res.row (Rg.A g1) (Rg.s g1).length (Rg.cap g1) 3 1 (Rg.s g1), Res.blk mb 84 (M.c m)]) [Res.blk bl 77 [Value.pointer (some ⟨b0, 0, none⟩), Value.pointer (some ⟨b1, 0, none⟩)], Res.blk b0 108 (Rg.c g0), Res.row (Rg.A g0) (Rg.s g0).length (Rg.cap g0) 3 1 (Rg.s g0), Res.blk b1 108 (Rg.c g1), Res.row (Rg.A g1) (Rg.s g1).length (Rg.cap g1) 3 1 (Rg.s g1), Res.blk mb 84 (M.c m)] hw _ rfl ?_
  refine g_seq ?_
  refine g_region ?_
  refine s_q (q_assign rfl) rfl ?_
  refine g_nil ?_
  refine g_then ?_
  refine g_seq ?_
  refine g_seq ?_
  refine g_region ?_
  refine s_q (q_move rfl) rfl ?_
  refine s_q (q_eqp (b := false) rfl rfl rfl) rfl ?_
  refine s_q (q_move rfl) rfl ?_
  refine s_qg (q_move rfl) rfl rfl rfl ?_
  refine s_qg (q_eqp (b := false) rfl rfl rfl) rfl rfl rfl ?_
  refine s_q (q_pick_f rfl rfl) rfl ?_
  refine g_nil ?_
  refine g_then ?_
  refine g_false rfl ?_
  refine g_skip ?_
  refine g_then ?_
  refine g_seq ?_
  refine g_region ?_
  refine s_q (q_move rfl) rfl ?_
  refine s_q (q_move rfl) rfl ?_
  refine g_op (g_ownS [Res.blk mb 84 (M.c m)] rfl (fun w1 hw1 ho1 => by have h7 := mgrant_any mb m (lim) w1 ho1; exact h7) rfl ?_)
  rintro ⟨⟩ _
  refine ⟨_, _, inferInstance, inferInstance, ?_⟩
  refine g_nil ?_
  refine g_then ?_
  refine g_seq ?_
  refine g_region ?_
  refine s_q (q_move rfl) rfl ?_
  refine s_q (q_funcL rfl rfl (fun _ => rfl)) rfl ?_
  refine s_q (q_assign rfl) rfl ?_
  refine g_nil ?_
  refine g_then ?_
  refine g_seq ?_
  refine g_region ?_
  refine s_q (q_assign rfl) rfl ?_
  refine g_nilrow 12 42 3 rfl fun Az1 capz1 hcz1 => ?_
  refine g_rowels (A := Az1) (([] : List As).map As.cs) rfl ?_
  refine g_nil ?_
  refine g_then ?_
  refine g_seq ?_
  refine g_region ?_
  refine s_q (q_move rfl) rfl ?_
  refine g_op (g_keep [Res.blk bl 77 [Value.pointer (some ⟨b0, 0, none⟩), Value.pointer (some ⟨b1, 0, none⟩)], Res.blk b0 108 (Rg.c g0), Res.row (Rg.A g0) (Rg.s g0).length (Rg.cap g0) 3 1 (Rg.s g0), Res.blk b1 108 (Rg.c g1), Res.row (Rg.A g1) (Rg.s g1).length (Rg.cap g1) 3 1 (Rg.s g1)] rfl (fun w1 hw1 ho1 => by exact head_any bl b0 b1 g0 g1 q sz w1 ho1 h0 hh1 s0 s1 (by omega)) rfl ?_)
  refine s_q (q_move rfl) rfl ?_
  refine s_q (q_extract rfl rfl) rfl ?_
  refine s_q (q_extract rfl rfl) rfl ?_
  refine s_q (q_extract rfl rfl) rfl ?_
  refine s_q (q_assign rfl) rfl ?_
  refine s_q (q_assign rfl) rfl ?_
  refine s_q (q_assign rfl) rfl ?_
  refine g_nil ?_
  refine g_then ?_
  refine g_seq ?_
  refine g_block ?_
  refine g_loopk [0, 1, 2, 4, 10, 11] (fun (x : Option Addr × Nat × List As × LL × M × Rg × Rg) => [(12, .slice x.1 x.2.2.1.length x.2.1), (13, .int .i64 (headI x.2.2.2.1)), (14, .int .i64 (headC x.2.2.2.1)), (15, .bool (headB x.2.2.2.1))]) (fun (x : Option Addr × Nat × List As × LL × M × Rg × Rg) => [Res.row x.1 (x.2.2.1).length x.2.1 42 3 ((x.2.2.1).map As.cs), Res.blk bl 77 [Value.pointer (some ⟨b0, 0, none⟩), Value.pointer (some ⟨b1, 0, none⟩)], Res.blk b0 108 (Rg.c x.2.2.2.2.2.1), Res.row (Rg.A x.2.2.2.2.2.1) (Rg.s x.2.2.2.2.2.1).length (Rg.cap x.2.2.2.2.2.1) 3 1 (Rg.s x.2.2.2.2.2.1), Res.blk b1 108 (Rg.c x.2.2.2.2.2.2), Res.row (Rg.A x.2.2.2.2.2.2) (Rg.s x.2.2.2.2.2.2).length (Rg.cap x.2.2.2.2.2.2) 3 1 (Rg.s x.2.2.2.2.2.2), Res.blk mb 84 (M.c x.2.2.2.2.1)]) (fun (x : Option Addr × Nat × List As × LL × M × Rg × Rg) => (stepM l e lim q m) = stepMF l e (lenL x.2.2.2.1 + 1) x.2.2.2.1 x.2.2.2.2.1 x.2.2.1 ∧ (x.2.2.2.2.2.1).Rep 1 ((x.2.2.2.1).f.map (fun v : Int => [Value.int .i64 v])) ∧ (x.2.2.2.2.2.2).Rep 1 ((x.2.2.2.1).v.map (fun v : Int => [Value.int .i64 v])) ∧ (x.2.2.2.2.2.1).size = sz ∧ (x.2.2.2.2.2.2).size = sz ∧ (x.2.2.1).length + lenL x.2.2.2.1 = lenL q ∧ ((x.2.2.2.1).f.length ≤ sz ∧ (x.2.2.2.1).v.length ≤ sz)) (fun (x : Option Addr × Nat × List As × LL × M × Rg × Rg) => lenL x.2.2.2.1) (Az1, capz1, [], q, (M.grant m lim), g0, g1) (by (try dsimp only); exact ⟨rfl, h0, hh1, s0, s1, (by simp), hq⟩) rfl (by repeat (first | exact trivial | refine ⟨rfl, ?_⟩)) wok_sub ?_
  rintro ⟨A, cap, out, p, m1, p0, p1⟩ ⟨hs, r0, r1, z0, z1, hl, hp⟩
  replace hs : (stepM l e lim q m) = stepMF l e (lenL p + 1) p m1 out := hs
  replace r0 : (p0).Rep 1 ((p).f.map (fun v : Int => [Value.int .i64 v])) := r0
  replace r1 : (p1).Rep 1 ((p).v.map (fun v : Int => [Value.int .i64 v])) := r1
  replace z0 : (p0).size = sz := z0
  replace z1 : (p1).size = sz := z1
  replace hl : (out).length + lenL p = lenL q := hl
  replace hp : (p).f.length ≤ sz ∧ (p).v.length ≤ sz := hp
  refine g_setL (L' := [Res.row A (out).length cap 42 3 ((out).map As.cs), Res.blk bl 77 [Value.pointer (some ⟨b0, 0, none⟩), Value.pointer (some ⟨b1, 0, none⟩)], Res.blk b0 108 (Rg.c p0), Res.row (Rg.A p0) (Rg.s p0).length (Rg.cap p0) 3 1 (Rg.s p0), Res.blk b1 108 (Rg.c p1), Res.row (Rg.A p1) (Rg.s p1).length (Rg.cap p1) 3 1 (Rg.s p1), Res.blk mb 84 (M.c m1)]) rfl ?_
  refine g_val 12 (v' := .slice A out.length cap) rfl rfl ?_
  refine g_val 13 (v' := .int .i64 (headI p)) rfl rfl ?_
  refine g_val 14 (v' := .int .i64 (headC p)) rfl rfl ?_
  refine g_val 15 (v' := .bool (headB p)) rfl rfl ?_
  have hlq : lenL q ≤ 8192 := by unfold lenL; omega
  refine g_seq ?_
  refine g_seq ?_
  refine g_region ?_
  refine s_q (q_move rfl) rfl ?_
  refine s_q (q_move rfl) rfl ?_
  refine g_split 34 rfl (fun h1 => ?_) (fun h1 => ?_)
  · have hB : headB p = true := by simpa using h1
    refine s_qg (q_move rfl) rfl rfl rfl ?_
    refine s_qg (q_move rfl) rfl rfl rfl ?_
    refine s_qg (q_move rfl) rfl rfl rfl ?_
    refine g_gt rfl rfl (g_pure rfl (fun w1 hw1 => wt_any W (wn) (wc) (l) ((headI p)) w1 (Rdb.toOld hw9.rdb hw1)) rfl ?_)
    refine g_gt rfl rfl (g_ownV [Res.blk mb 84 (M.c m1)] rfl rfl (fun w1 hw1 ho1 => by have h7 := mtake_any mb m1 ((ofW l ((headI p)))) w1 ho1; exact h7) rfl ?_)
    rintro ⟨⟩ _
    refine ⟨_, _, inferInstance, inferInstance, ?_⟩
    refine s_q (q_pick_t rfl rfl) rfl ?_
    refine g_nil ?_
    refine g_then ?_
    refine g_cond rfl (fun h2 => ?_) (fun h2 => ?_)
    · have hT : ¬ m1.bal < ofW l (headI p) := by simpa using h2
      refine g_skip ?_
      refine g_then ?_
      refine g_block ?_
      refine g_seq ?_
      refine g_region ?_
      refine s_q (q_move rfl) rfl ?_
      refine g_op (g_ownS [Res.blk bl 77 [Value.pointer (some ⟨b0, 0, none⟩), Value.pointer (some ⟨b1, 0, none⟩)], Res.blk b0 108 (Rg.c p0), Res.row (Rg.A p0) (Rg.s p0).length (Rg.cap p0) 3 1 (Rg.s p0), Res.blk b1 108 (Rg.c p1), Res.row (Rg.A p1) (Rg.s p1).length (Rg.cap p1) 3 1 (Rg.s p1)] rfl (fun w1 hw1 ho1 => by have h7 := pop_any bl b0 b1 p0 p1 p sz w1 ho1 r0 r1 z0 z1 (by omega); exact h7) rfl ?_)
      rintro ⟨g42, gg42⟩ ⟨r42, rr42, s42, ss42⟩
      refine ⟨_, _, inferInstance, inferInstance, ?_⟩
      simp only at r42 rr42 s42 ss42
      refine g_nil ?_
      refine g_then ?_
      refine g_seq ?_
      refine g_region ?_
      refine s_q (q_move rfl) rfl ?_
      refine s_q (q_move rfl) rfl ?_
      refine s_q (q_move rfl) rfl ?_
      refine s_q (q_move rfl) rfl ?_
      refine s_q (q_addz (z := e + 1) rfl rfl (wi64 (by omega) (by omega))) rfl ?_
      refine s_q (q_build rfl rfl) rfl ?_
      refine g_op (g_lit rfl rfl rfl rfl rfl fun b49 => ?_)
      refine g_blkc (b := b49) ((([(As.mk (headI p) (headC p) (e + 1))] : List As).map As.cs).flatten) rfl ?_
      refine g_op (g_append (A := A) (els := (out).map As.cs) (news := (([(As.mk (headI p) (headC p) (e + 1))] : List As).map As.cs)) rfl rfl (InL.rdb (b := b49) rfl (by simp [As.cs]) rfl) (map_one (c := As.cs) (by intro x; simp [As.cs, Value.oneCell']) _) (by first | omega | (simp; omega) | (simp_all; omega)) rfl fun A50 cap50 => ⟨_, inferInstance, ?_⟩)
      refine g_rowels (A := A50) (((out ++ [(As.mk (headI p) (headC p) (e + 1))])).map As.cs) (by first | rfl | exact List.map_append.symm | (simp; done)) ?_
      refine s_q (q_assign rfl) rfl ?_
      refine g_nil ?_
      refine g_then ?_
      refine g_region ?_
      refine s_q (q_move rfl) rfl ?_
      refine g_op (g_keep [Res.blk bl 77 [Value.pointer (some ⟨b0, 0, none⟩), Value.pointer (some ⟨b1, 0, none⟩)], Res.blk b0 108 (Rg.c g42), Res.row (Rg.A g42) (Rg.s g42).length (Rg.cap g42) 3 1 (Rg.s g42), Res.blk b1 108 (Rg.c gg42), Res.row (Rg.A gg42) (Rg.s gg42).length (Rg.cap gg42) 3 1 (Rg.s gg42)] rfl (fun w1 hw1 ho1 => by exact head_any bl b0 b1 g42 gg42 (popL p) sz w1 ho1 r42 rr42 s42 ss42 (by omega)) rfl ?_)
      refine s_q (q_move rfl) rfl ?_
      refine s_q (q_extract rfl rfl) rfl ?_
      refine s_q (q_extract rfl rfl) rfl ?_
      refine s_q (q_extract rfl rfl) rfl ?_
      refine s_q (q_assign rfl) rfl ?_
      refine s_q (q_assign rfl) rfl ?_
      refine s_q (q_assign rfl) rfl ?_
      refine g_nil ?_
      refine g_blk_n ?_
      refine g_rown (A := A50) ((out ++ [(As.mk (headI p) (headC p) (e + 1))])).length (by simp) ?_
      refine g_val 12 (v' := .slice A50 ((out ++ [(As.mk (headI p) (headC p) (e + 1))])).length cap50) rfl (by simp) ?_
      exact g_again (A50, cap50, (out ++ [(As.mk (headI p) (headC p) (e + 1))]), (popL p), (M.take m1 ((ofW l ((headI p))))), g42, gg42) (by (try dsimp only); exact ⟨(by rw [← stepMF_go hB hT, popL_lt hB]; exact hs), r42, rr42, s42, ss42, (by have h9 := popL_lt hB; simp only [List.length_append, List.length_cons, List.length_nil]; omega), (by have h9 := popL_len p; omega)⟩) (by have h9 := popL_lt hB; dsimp only; omega) (by repeat (first | exact trivial | refine ⟨rfl, ?_⟩)) wok_sub
    · have hT : m1.bal < ofW l (headI p) := by simpa using h2
      have hR : (stepM l e lim q m) = (out, p, m1.take (ofW l (headI p))) := by rw [hs, stepMF_stop hB hT, show m1.take (ofW l (headI p)) = m1 from if_pos hT]
      refine g_exit ?_
      refine g_then_x (g_then_x (g_blk_hit ?_))
      refine g_then ?_
      refine g_seq ?_
      refine g_seq ?_
      refine g_region ?_
      refine s_q (q_move rfl) rfl ?_
      refine g_litb 57 (b := true) rfl (hB) ?_
      refine s_q (q_not rfl) rfl ?_
      refine g_nil ?_
      refine g_then ?_
      refine g_false rfl ?_
      refine g_skip ?_
      refine g_then ?_
      refine g_seq ?_
      refine g_region ?_
      refine s_q (q_move rfl) rfl ?_
      refine s_q (q_assign rfl) rfl ?_
      refine g_nil ?_
      refine g_then ?_
      refine g_ret ?_
      exact fin1 rfl (.tmp rfl) (fun w' hw' => ⟨(A, cap, p0, p1), (by first | (rw [hR]; exact ⟨r0, r1, z0, z1⟩) | (dsimp only; (rw [hR]; exact ⟨r0, r1, z0, z1⟩))), by rw [hR], by have h9 := wok_sub (L' := [Res.row A (out).length cap 42 3 ((out).map As.cs), Res.blk bl 77 [Value.pointer (some ⟨b0, 0, none⟩), Value.pointer (some ⟨b1, 0, none⟩)], Res.blk b0 108 (Rg.c p0), Res.row (Rg.A p0) (Rg.s p0).length (Rg.cap p0) 3 1 (Rg.s p0), Res.blk b1 108 (Rg.c p1), Res.row (Rg.A p1) (Rg.s p1).length (Rg.cap p1) 3 1 (Rg.s p1), Res.blk mb 84 (M.c (M.take m1 (ofW l (headI p))))]) w' hw'; show WOK _ _ [Res.row ((A, cap, p0, p1)).1 ((stepM l e lim q m).1).length ((A, cap, p0, p1)).2.1 42 3 (((stepM l e lim q m).1).map As.cs), Res.blk bl 77 [Value.pointer (some ⟨b0, 0, none⟩), Value.pointer (some ⟨b1, 0, none⟩)], Res.blk b0 108 (Rg.c ((A, cap, p0, p1)).2.2.1), Res.row (Rg.A ((A, cap, p0, p1)).2.2.1) (Rg.s ((A, cap, p0, p1)).2.2.1).length (Rg.cap ((A, cap, p0, p1)).2.2.1) 3 1 (Rg.s ((A, cap, p0, p1)).2.2.1), Res.blk b1 108 (Rg.c ((A, cap, p0, p1)).2.2.2), Res.row (Rg.A ((A, cap, p0, p1)).2.2.2) (Rg.s ((A, cap, p0, p1)).2.2.2).length (Rg.cap ((A, cap, p0, p1)).2.2.2) 3 1 (Rg.s ((A, cap, p0, p1)).2.2.2), Res.blk mb 84 (M.c (stepM l e lim q m).2.2)] _; rw [hR]; exact h9⟩) _ (.inl rfl)
  · have hB : headB p = false := by simpa using h1
    have hR : (stepM l e lim q m) = (out, p, m1.drop) := by rw [hs, stepMF_end hB]
    refine g_gf rfl rfl rfl rfl ?_
    refine g_gf rfl rfl rfl rfl ?_
    refine g_gf rfl rfl rfl rfl ?_
    refine g_gf rfl rfl rfl rfl ?_
    refine g_gf rfl rfl rfl rfl ?_
    refine s_q (q_pick_f rfl rfl) rfl ?_
    refine g_nil ?_
    refine g_then ?_
    refine g_false rfl ?_
    refine g_exit ?_
    refine g_then_x (g_then_x (g_blk_hit ?_))
    refine g_then ?_
    refine g_seq ?_
    refine g_seq ?_
    refine g_region ?_
    refine s_q (q_move rfl) rfl ?_
    refine g_litb 57 (b := false) rfl (hB) ?_
    refine s_q (q_not rfl) rfl ?_
    refine g_nil ?_
    refine g_then ?_
    refine g_true rfl ?_
    refine g_region ?_
    refine s_q (q_move rfl) rfl ?_
    refine g_op (g_ownS [Res.blk mb 84 (M.c m1)] rfl (fun w1 hw1 ho1 => by have h7 := mdrop_any mb m1  w1 ho1; exact h7) rfl ?_)
    rintro ⟨⟩ _
    refine ⟨_, _, inferInstance, inferInstance, ?_⟩
    refine g_nil ?_
    refine g_then ?_
    refine g_seq ?_
    refine g_region ?_
    refine s_q (q_move rfl) rfl ?_
    refine s_q (q_assign rfl) rfl ?_
    refine g_nil ?_
    refine g_then ?_
    refine g_ret ?_
    exact fin1 rfl (.tmp rfl) (fun w' hw' => ⟨(A, cap, p0, p1), (by first | (rw [hR]; exact ⟨r0, r1, z0, z1⟩) | (dsimp only; (rw [hR]; exact ⟨r0, r1, z0, z1⟩))), by rw [hR], by have h9 := wok_sub (L' := [Res.row A (out).length cap 42 3 ((out).map As.cs), Res.blk bl 77 [Value.pointer (some ⟨b0, 0, none⟩), Value.pointer (some ⟨b1, 0, none⟩)], Res.blk b0 108 (Rg.c p0), Res.row (Rg.A p0) (Rg.s p0).length (Rg.cap p0) 3 1 (Rg.s p0), Res.blk b1 108 (Rg.c p1), Res.row (Rg.A p1) (Rg.s p1).length (Rg.cap p1) 3 1 (Rg.s p1), Res.blk mb 84 (M.c (M.drop m1))]) w' hw'; show WOK _ _ [Res.row ((A, cap, p0, p1)).1 ((stepM l e lim q m).1).length ((A, cap, p0, p1)).2.1 42 3 (((stepM l e lim q m).1).map As.cs), Res.blk bl 77 [Value.pointer (some ⟨b0, 0, none⟩), Value.pointer (some ⟨b1, 0, none⟩)], Res.blk b0 108 (Rg.c ((A, cap, p0, p1)).2.2.1), Res.row (Rg.A ((A, cap, p0, p1)).2.2.1) (Rg.s ((A, cap, p0, p1)).2.2.1).length (Rg.cap ((A, cap, p0, p1)).2.2.1) 3 1 (Rg.s ((A, cap, p0, p1)).2.2.1), Res.blk b1 108 (Rg.c ((A, cap, p0, p1)).2.2.2), Res.row (Rg.A ((A, cap, p0, p1)).2.2.2) (Rg.s ((A, cap, p0, p1)).2.2.2).length (Rg.cap ((A, cap, p0, p1)).2.2.2) 3 1 (Rg.s ((A, cap, p0, p1)).2.2.2), Res.blk mb 84 (M.c (stepM l e lim q m).2.2)] _; rw [hR]; exact h9⟩) _ (.inl rfl)

set_option maxHeartbeats 400000 in
theorem astep_nil1 (e lim : Int) (p : Option Addr) (W : Option Addr) (wn wc : Nat) (w : World)  : Pur Try.prog 14 [.int .i64 e, .pointer none, .pointer p, .int .u64 lim, .slice W wn wc] w (.slice none 0 0) := by
  refine g_start Try.func14 rfl 62 rfl (by simp) ([]) [] (WOK.start _ _) _ rfl ?_
  refine g_seq ?_
  refine g_region ?_
  refine s_q (q_assign rfl) rfl ?_
  refine g_nil ?_
  refine g_then ?_
  refine g_seq ?_
  refine g_seq ?_
  refine g_region ?_
  refine s_q (q_move rfl) rfl ?_
  refine s_q (q_eqp (b := true) rfl rfl rfl) rfl ?_
  refine g_litb 17 (b := true) rfl (rfl) ?_
  refine s_q (q_move rfl) rfl ?_
  refine g_gf rfl rfl rfl rfl ?_
  refine g_gf rfl rfl rfl rfl ?_
  refine s_q (q_pick_t rfl rfl) rfl ?_
  refine g_nil ?_
  refine g_then ?_
  refine g_true rfl ?_
  refine g_seq ?_
  refine g_region ?_
  refine s_q (q_assign rfl) rfl ?_
  refine g_nil ?_
  refine g_then ?_
  refine g_ret ?_
  refine g_then_ret ?_
  exact fin1 rfl (.tmp rfl) (fun w' hw' => ⟨by rfl, hw'.upd⟩) _ (.inl rfl)

set_option maxHeartbeats 400000 in
theorem astep_nil2 (e lim : Int) (p : Nat) (W : Option Addr) (wn wc : Nat) (w : World)  : Pur Try.prog 14 [.int .i64 e, .pointer (some ⟨p, 0, none⟩), .pointer none, .int .u64 lim, .slice W wn wc] w (.slice none 0 0) := by
  refine g_start Try.func14 rfl 62 rfl (by simp) ([]) [] (WOK.start _ _) _ rfl ?_
  refine g_seq ?_
  refine g_region ?_
  refine s_q (q_assign rfl) rfl ?_
  refine g_nil ?_
  refine g_then ?_
  refine g_seq ?_
  refine g_seq ?_
  refine g_region ?_
  refine s_q (q_move rfl) rfl ?_
  refine s_q (q_eqp (b := false) rfl rfl rfl) rfl ?_
  refine s_q (q_move rfl) rfl ?_
  refine s_qg (q_move rfl) rfl rfl rfl ?_
  refine s_qg (q_eqp (b := true) rfl rfl rfl) rfl rfl rfl ?_
  refine g_litb 20 (b := true) rfl (rfl) ?_
  refine s_q (q_pick_f rfl rfl) rfl ?_
  refine g_litb 21 (b := true) rfl (rfl) ?_
  refine g_nil ?_
  refine g_then ?_
  refine g_true rfl ?_
  refine g_seq ?_
  refine g_region ?_
  refine s_q (q_assign rfl) rfl ?_
  refine g_nil ?_
  refine g_then ?_
  refine g_ret ?_
  refine g_then_ret ?_
  exact fin1 rfl (.tmp rfl) (fun w' hw' => ⟨by rfl, hw'.upd⟩) _ (.inl rfl)
end Go.Proofs.Ytmolaicpbaiioaa
