/- walks of do and same -/
import Derived.Test.YtdkedinnijobiaaW5
namespace Go.Proofs.Ytdkedinnijobiaa
open Go.RowKit Go.Eg
set_option synthInstance.maxSize 3000
set_option linter.unusedSimpArgs false
set_option linter.unusedVariables false
set_option maxHeartbeats 400000 in
theorem alive_any  (w : World)  : Pur Try.prog 10 [] w (.bool true) := by
  refine g_start Try.func10 rfl 51 rfl (by simp) ([]) [] (WOK.start _ _) _ rfl ?_
  refine g_seq ?_
  refine g_region ?_
  refine s_q (q_assign rfl) rfl ?_
  refine g_nil ?_
  refine g_then ?_
  refine g_seq ?_
  refine g_region ?_
  refine g_op (g_ownS [] rfl (fun w1 hw1 ho1 => by have h7 := lnew_any (2) w1 (by omega); exact h7) rfl ?_)
  rintro ⟨b6, ba6, bb6, g6, gg6⟩ ⟨r6, s6, rr6, ss6⟩
  refine ⟨_, _, inferInstance, inferInstance, ?_⟩
  simp only at r6 s6 rr6 ss6
  refine s_q (q_assign rfl) rfl ?_
  refine g_nil ?_
  refine g_then ?_
  refine g_seq ?_
  refine g_seq ?_
  refine g_region ?_
  refine s_q (q_move rfl) rfl ?_
  refine s_q (q_eqp (b := false) rfl rfl rfl) rfl ?_
  refine s_q (q_move rfl) rfl ?_
  refine s_qg (q_move rfl) rfl rfl rfl ?_
  refine g_gt rfl rfl (g_ownS [Res.blk b6 52 [Value.pointer (some ⟨ba6, 0, none⟩), Value.pointer (some ⟨bb6, 0, none⟩)], Res.blk ba6 64 (Rg.c g6), Res.row (Rg.A g6) (Rg.s g6).length (Rg.cap g6) 3 1 (Rg.s g6), Res.blk bb6 64 (Rg.c gg6), Res.row (Rg.A gg6) (Rg.s gg6).length (Rg.cap gg6) 3 1 (Rg.s gg6)] rfl (fun w1 hw1 ho1 => by have h7 := lpush_any b6 ba6 bb6 g6 gg6 (LL.mk [] []) (2) (1) (3) w1 ho1 r6 rr6 s6 ss6 (by omega); exact h7) rfl ?_)
  rintro ⟨g11, gg11⟩ ⟨r11, rr11, s11, ss11⟩
  refine ⟨_, _, inferInstance, inferInstance, ?_⟩
  simp only at r11 rr11 s11 ss11
  refine s_qg (q_neq rfl rfl) rfl rfl rfl ?_
  refine g_litb 12 (b := false) rfl (by decide) ?_
  refine s_q (q_pick_f rfl rfl) rfl ?_
  refine s_q (q_move rfl) rfl ?_
  refine s_qg (q_move rfl) rfl rfl rfl ?_
  refine g_gt rfl rfl (g_ownS [Res.blk b6 52 [Value.pointer (some ⟨ba6, 0, none⟩), Value.pointer (some ⟨bb6, 0, none⟩)], Res.blk ba6 64 (Rg.c g11), Res.row (Rg.A g11) (Rg.s g11).length (Rg.cap g11) 3 1 (Rg.s g11), Res.blk bb6 64 (Rg.c gg11), Res.row (Rg.A gg11) (Rg.s gg11).length (Rg.cap gg11) 3 1 (Rg.s gg11)] rfl (fun w1 hw1 ho1 => by have h7 := lpush_any b6 ba6 bb6 g11 gg11 (pushL (2) (1) (3) (LL.mk [] [])) (2) (0) (5) w1 ho1 r11 rr11 s11 ss11 (by omega); exact h7) rfl ?_)
  rintro ⟨g16, gg16⟩ ⟨r16, rr16, s16, ss16⟩
  refine ⟨_, _, inferInstance, inferInstance, ?_⟩
  simp only at r16 rr16 s16 ss16
  refine s_qg (q_neq rfl rfl) rfl rfl rfl ?_
  refine g_litb 17 (b := false) rfl (by decide) ?_
  refine s_q (q_pick_f rfl rfl) rfl ?_
  refine g_nil ?_
  refine g_then ?_
  refine g_false rfl ?_
  refine g_skip ?_
  refine g_then ?_
  refine g_seq ?_
  refine g_region ?_
  refine s_q (q_move rfl) rfl ?_
  refine g_op (g_ownS [Res.blk b6 52 [Value.pointer (some ⟨ba6, 0, none⟩), Value.pointer (some ⟨bb6, 0, none⟩)], Res.blk ba6 64 (Rg.c g16), Res.row (Rg.A g16) (Rg.s g16).length (Rg.cap g16) 3 1 (Rg.s g16), Res.blk bb6 64 (Rg.c gg16), Res.row (Rg.A gg16) (Rg.s gg16).length (Rg.cap gg16) 3 1 (Rg.s gg16)] rfl (fun w1 hw1 ho1 => by have h7 := lahead_any b6 ba6 bb6 g16 gg16 (pushL (2) (0) (5) (pushL (2) (1) (3) (LL.mk [] []))) (2) (1) w1 ho1 r16 rr16 s16 ss16 (by omega); exact h7) rfl ?_)
  rintro ⟨A20, cap20⟩ _
  refine ⟨_, _, inferInstance, inferInstance, ?_⟩
  refine s_q (q_assign rfl) rfl ?_
  refine g_nil ?_
  refine g_then ?_
  refine g_seq ?_
  refine g_region ?_
  refine s_q (q_move rfl) rfl ?_
  refine g_op (g_ownS [Res.blk b6 52 [Value.pointer (some ⟨ba6, 0, none⟩), Value.pointer (some ⟨bb6, 0, none⟩)], Res.blk ba6 64 (Rg.c g16), Res.row (Rg.A g16) (Rg.s g16).length (Rg.cap g16) 3 1 (Rg.s g16), Res.blk bb6 64 (Rg.c gg16), Res.row (Rg.A gg16) (Rg.s gg16).length (Rg.cap gg16) 3 1 (Rg.s gg16)] rfl (fun w1 hw1 ho1 => by have h7 := pop_any b6 ba6 bb6 g16 gg16 (pushL (2) (0) (5) (pushL (2) (1) (3) (LL.mk [] []))) (2) w1 ho1 r16 rr16 s16 ss16 (by omega); exact h7) rfl ?_)
  rintro ⟨g23, gg23⟩ ⟨r23, rr23, s23, ss23⟩
  refine ⟨_, _, inferInstance, inferInstance, ?_⟩
  simp only at r23 rr23 s23 ss23
  refine s_q (q_move rfl) rfl ?_
  refine s_q (q_extract rfl rfl) rfl ?_
  refine s_q (q_extract rfl rfl) rfl ?_
  refine s_q (q_extract rfl rfl) rfl ?_
  refine s_q (q_assign rfl) rfl ?_
  refine s_q (q_assign rfl) rfl ?_
  refine s_q (q_assign rfl) rfl ?_
  refine g_litb 5 (b := true) rfl (by decide) ?_
  refine g_nil ?_
  refine g_then ?_
  refine g_seq ?_
  refine g_region ?_
  refine s_q (q_move rfl) rfl ?_
  refine g_op (g_lit rfl rfl rfl rfl rfl fun b28 => ?_)
  refine g_blkc (b := b28) ((([5, 3] : List Int).map (fun v : Int => [Value.int .i64 v])).flatten) rfl ?_
  refine g_op (g_pure rfl (fun w1 hw1 => equal_i A20 (some ⟨b28, 0, none⟩) _ _ _ _ ((aheadL (1) (pushL (2) (0) (5) (pushL (2) (1) (3) (LL.mk [] []))))) (([5, 3] : List Int)) w1 (Rdb.toOld (InRow.rdb (A := A20) (els := ((aheadL (1) (pushL (2) (0) (5) (pushL (2) (1) (3) (LL.mk [] []))))).map (fun v : Int => [Value.int .i64 v])) (by first | rfl | assumption | (simp; done) | (simp_all; done) | (simp; omega) | (simp_all; omega)) (map_cat (c := (fun v : Int => [Value.int .i64 v])) (fun _ => rfl) _)) hw1) (Rdb.toOld (InL.rdb (b := b28) (els := (([5, 3] : List Int).map (fun v : Int => [Value.int .i64 v]))) rfl (by simp) rfl) hw1) (row_max (A := A20) hw1)) rfl ?_)
  refine g_litb 29 (b := true) rfl (by decide) ?_
  refine s_q (q_move rfl) rfl ?_
  refine s_qg (q_move rfl) rfl rfl rfl ?_
  refine s_qg (q_eql rfl rfl) rfl rfl rfl ?_
  refine g_litb 32 (b := true) rfl (by decide) ?_
  refine s_q (q_pick_t rfl rfl) rfl ?_
  refine s_q (q_move rfl) rfl ?_
  refine s_qg (q_move rfl) rfl rfl rfl ?_
  refine s_qg (q_eql rfl rfl) rfl rfl rfl ?_
  refine g_litb 36 (b := true) rfl (by decide) ?_
  refine s_q (q_pick_t rfl rfl) rfl ?_
  refine s_q (q_move rfl) rfl ?_
  refine s_qg (q_move rfl) rfl rfl rfl ?_
  refine s_q (q_pick_t rfl rfl) rfl ?_
  refine s_q (q_move rfl) rfl ?_
  refine s_qg (q_move rfl) rfl rfl rfl ?_
  refine g_gt rfl rfl (g_keep [Res.blk b6 52 [Value.pointer (some ⟨ba6, 0, none⟩), Value.pointer (some ⟨bb6, 0, none⟩)], Res.blk ba6 64 (Rg.c g23), Res.row (Rg.A g23) (Rg.s g23).length (Rg.cap g23) 3 1 (Rg.s g23), Res.blk bb6 64 (Rg.c gg23), Res.row (Rg.A gg23) (Rg.s gg23).length (Rg.cap gg23) 3 1 (Rg.s gg23)] rfl (fun w1 hw1 ho1 => by exact llen_any b6 ba6 bb6 g23 gg23 (popL (pushL (2) (0) (5) (pushL (2) (1) (3) (LL.mk [] [])))) (2) (1) w1 ho1 r23 rr23 s23 ss23 (by omega)) rfl ?_)
  refine s_qg (q_eql rfl rfl) rfl rfl rfl ?_
  refine g_litb 44 (b := true) rfl (by decide) ?_
  refine s_q (q_pick_t rfl rfl) rfl ?_
  refine s_q (q_move rfl) rfl ?_
  refine s_qg (q_move rfl) rfl rfl rfl ?_
  refine g_gt rfl rfl (g_keep [Res.blk b6 52 [Value.pointer (some ⟨ba6, 0, none⟩), Value.pointer (some ⟨bb6, 0, none⟩)], Res.blk ba6 64 (Rg.c g23), Res.row (Rg.A g23) (Rg.s g23).length (Rg.cap g23) 3 1 (Rg.s g23), Res.blk bb6 64 (Rg.c gg23), Res.row (Rg.A gg23) (Rg.s gg23).length (Rg.cap gg23) 3 1 (Rg.s gg23)] rfl (fun w1 hw1 ho1 => by exact lfree_any b6 ba6 bb6 g23 gg23 (popL (pushL (2) (0) (5) (pushL (2) (1) (3) (LL.mk [] [])))) (2) (1) w1 ho1 r23 rr23 s23 ss23 (by omega)) rfl ?_)
  refine s_qg (q_eql rfl rfl) rfl rfl rfl ?_
  refine g_litb 49 (b := true) rfl (by decide) ?_
  refine s_q (q_pick_t rfl rfl) rfl ?_
  refine s_q (q_assign rfl) rfl ?_
  refine g_nil ?_
  refine g_then ?_
  refine g_ret ?_
  exact fin1 rfl (.tmp rfl) (fun w' hw' => ⟨by first | rfl | decide | (simp_all; done), hw'.upd⟩) _ (.inl rfl)

structure O where
  p : Bool
  cls : Int
  i : Int
def O.c (x : O) : List Value := [.bool x.p, .int .i64 x.cls, .int .i64 x.i]
def doL (sz : Nat) (o : O) (q : LL) : LL := if o.p then popL q else pushL sz o.cls o.i q
theorem openO {w : World} (f : Nat) (cs : List Value) (h : OKc Try.prog w f 27 cs) : ∃ x : O, cs = x.c ∧ True := by
  obtain ⟨f, hl, h⟩ := OKc.struct Try.underlying27 h
  have hT : Try.prog.cellsOf 27 = 3 := by kernel_rfl
  have hc4 : Try.prog.cellsOf 4 = 1 := by kernel_rfl
  have hc3 : Try.prog.cellsOf 3 = 1 := by kernel_rfl
  rw [hT] at hl
  obtain ⟨c0, c1, c2, rfl⟩ : ∃ c0 c1 c2 : Value, cs = [c0, c1, c2] := by
    match cs, hl with
    | [c0, c1, c2], _ => exact ⟨_, _, _, rfl⟩
  simp only [List.mem_cons, List.not_mem_nil, or_false, forall_eq_or_imp, forall_eq, hc3, hc4, List.drop_zero, List.drop_succ_cons, List.take_succ_cons, List.take_zero] at h
  obtain ⟨h0, h1, h2⟩ := h
  obtain ⟨x0, e0⟩ := OKc.bool Try.underlying4 h0
  obtain ⟨x1, e1, _⟩ := OKc.int Try.underlying3 h1
  obtain ⟨x2, e2, _⟩ := OKc.int Try.underlying3 h2
  obtain rfl : c0 = _ := by simpa using e0
  obtain rfl : c1 = _ := by simpa using e1
  obtain rfl : c2 = _ := by simpa using e2
  exact ⟨⟨x0, x1, x2⟩, rfl, trivial⟩

set_option maxHeartbeats 400000 in
theorem do_true (bl b0 b1 : Nat) (g0 g1 : Rg) (wb : Nat) (A0 A1 : Option Addr) (c0 c1 : Nat) (q : LL) (sz : Nat) (cls i : Int) (w : World) (hw : WOK (fps [Res.blk bl 52 [Value.pointer (some ⟨b0, 0, none⟩), Value.pointer (some ⟨b1, 0, none⟩)], Res.blk b0 64 (Rg.c g0), Res.row (Rg.A g0) (Rg.s g0).length (Rg.cap g0) 3 1 (Rg.s g0), Res.blk b1 64 (Rg.c g1), Res.row (Rg.A g1) (Rg.s g1).length (Rg.cap g1) 3 1 (Rg.s g1), Res.blk wb 42 [Value.slice A0 (q).f.length c0, Value.slice A1 (q).v.length c1, Value.int .i64 ((sz : Nat) : Int)], Res.ro A0 (q).f.length 1 ((q).f.map (fun v : Int => [Value.int .i64 v])), Res.ro A1 (q).v.length 1 ((q).v.map (fun v : Int => [Value.int .i64 v]))]) w [Res.blk bl 52 [Value.pointer (some ⟨b0, 0, none⟩), Value.pointer (some ⟨b1, 0, none⟩)], Res.blk b0 64 (Rg.c g0), Res.row (Rg.A g0) (Rg.s g0).length (Rg.cap g0) 3 1 (Rg.s g0), Res.blk b1 64 (Rg.c g1), Res.row (Rg.A g1) (Rg.s g1).length (Rg.cap g1) 3 1 (Rg.s g1), Res.blk wb 42 [Value.slice A0 (q).f.length c0, Value.slice A1 (q).v.length c1, Value.int .i64 ((sz : Nat) : Int)], Res.ro A0 (q).f.length 1 ((q).f.map (fun v : Int => [Value.int .i64 v])), Res.ro A1 (q).v.length 1 ((q).v.map (fun v : Int => [Value.int .i64 v]))] w) (h0 : g0.Rep 1 ((q).f.map (fun v : Int => [Value.int .i64 v]))) (h1 : g1.Rep 1 ((q).v.map (fun v : Int => [Value.int .i64 v]))) (s0 : Rg.size g0 = sz) (s1 : Rg.size g1 = sz) (hsz : sz ≤ 4096) (hc0 : q.f.length ≤ c0) (hc1 : q.v.length ≤ c1) (hq : q.f.length ≤ sz ∧ q.v.length ≤ sz) : Own2 (ι := (Rg × Rg × Option Addr × Nat × Option Addr × Nat)) Try.prog 17 [.pointer (some ⟨bl, 0, none⟩), .pointer (some ⟨wb, 0, none⟩), .agg [.bool true, .int .i64 cls, .int .i64 i].toArray] w [Res.blk bl 52 [Value.pointer (some ⟨b0, 0, none⟩), Value.pointer (some ⟨b1, 0, none⟩)], Res.blk b0 64 (Rg.c g0), Res.row (Rg.A g0) (Rg.s g0).length (Rg.cap g0) 3 1 (Rg.s g0), Res.blk b1 64 (Rg.c g1), Res.row (Rg.A g1) (Rg.s g1).length (Rg.cap g1) 3 1 (Rg.s g1), Res.blk wb 42 [Value.slice A0 (q).f.length c0, Value.slice A1 (q).v.length c1, Value.int .i64 ((sz : Nat) : Int)], Res.ro A0 (q).f.length 1 ((q).f.map (fun v : Int => [Value.int .i64 v])), Res.ro A1 (q).v.length 1 ((q).v.map (fun v : Int => [Value.int .i64 v]))] (fun x => x.1.Rep 1 (((popL q)).f.map (fun v : Int => [Value.int .i64 v])) ∧ x.2.1.Rep 1 (((popL q)).v.map (fun v : Int => [Value.int .i64 v])) ∧ x.1.size = sz ∧ x.2.1.size = sz ∧ ((popL q)).f.length ≤ x.2.2.2.1 ∧ ((popL q)).v.length ≤ x.2.2.2.2.2) (fun x => .bool true) (fun x => []) (fun x => [Res.blk bl 52 [Value.pointer (some ⟨b0, 0, none⟩), Value.pointer (some ⟨b1, 0, none⟩)], Res.blk b0 64 (Rg.c x.1), Res.row (Rg.A x.1) (Rg.s x.1).length (Rg.cap x.1) 3 1 (Rg.s x.1), Res.blk b1 64 (Rg.c x.2.1), Res.row (Rg.A x.2.1) (Rg.s x.2.1).length (Rg.cap x.2.1) 3 1 (Rg.s x.2.1), Res.blk wb 42 [Value.slice x.2.2.1 ((popL q)).f.length x.2.2.2.1, Value.slice x.2.2.2.2.1 ((popL q)).v.length x.2.2.2.2.2, Value.int .i64 ((sz : Nat) : Int)], Res.ro x.2.2.1 ((popL q)).f.length 1 (((popL q)).f.map (fun v : Int => [Value.int .i64 v])), Res.ro x.2.2.2.2.1 ((popL q)).v.length 1 (((popL q)).v.map (fun v : Int => [Value.int .i64 v]))]) := by
  refine g_start Try.func17 rfl 53 rfl (by simp) (fps [Res.blk bl 52 [Value.pointer (some ⟨b0, 0, none⟩), Value.pointer (some ⟨b1, 0, none⟩)], Res.blk b0 64 (Rg.c g0), Res.row (Rg.A g0) (Rg.s g0).length (Rg.cap g0) 3 1 (Rg.s g0), Res.blk b1 64 (Rg.c g1), Res.row (Rg.A g1) (Rg.s g1).length (Rg.cap g1) 3 1 (Rg.s g1), Res.blk wb 42 [Value.slice A0 (q).f.length c0, Value.slice A1 (q).v.length c1, Value.int .i64 ((sz : Nat) : Int)], Res.ro A0 (q).f.length 1 ((q).f.map (fun v : Int => [Value.int .i64 v])), Res.ro A1 (q).v.length 1 ((q).v.map (fun v : Int => [Value.int .i64 v]))]) [Res.blk bl 52 [Value.pointer (some ⟨b0, 0, none⟩), Value.pointer (some ⟨b1, 0, none⟩)], Res.blk b0 64 (Rg.c g0), Res.row (Rg.A g0) (Rg.s g0).length (Rg.cap g0) 3 1 (Rg.s g0), Res.blk b1 64 (Rg.c g1), Res.row (Rg.A g1) (Rg.s g1).length (Rg.cap g1) 3 1 (Rg.s g1), Res.blk wb 42 [Value.slice A0 (q).f.length c0, Value.slice A1 (q).v.length c1, Value.int .i64 ((sz : Nat) : Int)], Res.ro A0 (q).f.length 1 ((q).f.map (fun v : Int => [Value.int .i64 v])), Res.ro A1 (q).v.length 1 ((q).v.map (fun v : Int => [Value.int .i64 v]))] hw _ rfl ?_
  refine g_seq ?_
  refine g_region ?_
  refine g_op (g_box (c := [Value.bool true, Value.int .i64 cls, Value.int .i64 i]) rfl rfl rfl fun b5 => ?_)
  refine s_q (q_assign rfl) rfl ?_
  refine g_nil ?_
  refine g_then ?_
  refine g_seq ?_
  refine g_seq ?_
  refine g_region ?_
  refine s_q (q_field rfl) rfl ?_
  refine s_q (q_load rfl rfl) rfl ?_
  refine g_nil ?_
  refine g_then ?_
  refine g_true rfl ?_
  refine g_seq ?_
  refine g_region ?_
  refine s_q (q_move rfl) rfl ?_
  refine g_op (g_ownS [Res.blk bl 52 [Value.pointer (some ⟨b0, 0, none⟩), Value.pointer (some ⟨b1, 0, none⟩)], Res.blk b0 64 (Rg.c g0), Res.row (Rg.A g0) (Rg.s g0).length (Rg.cap g0) 3 1 (Rg.s g0), Res.blk b1 64 (Rg.c g1), Res.row (Rg.A g1) (Rg.s g1).length (Rg.cap g1) 3 1 (Rg.s g1)] rfl (fun w1 hw1 ho1 => by have h7 := pop_any bl b0 b1 g0 g1 q sz w1 ho1 h0 h1 s0 s1 (by omega); exact h7) rfl ?_)
  rintro ⟨g17, gg17⟩ ⟨r17, rr17, s17, ss17⟩
  refine ⟨_, _, inferInstance, inferInstance, ?_⟩
  simp only at r17 rr17 s17 ss17
  refine s_q (q_move rfl) rfl ?_
  refine s_q (q_extract rfl rfl) rfl ?_
  refine s_q (q_extract rfl rfl) rfl ?_
  refine s_q (q_extract rfl rfl) rfl ?_
  refine s_q (q_assign rfl) rfl ?_
  refine s_q (q_assign rfl) rfl ?_
  refine s_q (q_assign rfl) rfl ?_
  refine g_nil ?_
  refine g_then ?_
  refine g_seq ?_
  refine g_region ?_
  refine s_q (q_move rfl) rfl ?_
  refine g_op (g_ownS [Res.blk wb 42 [Value.slice A0 (q).f.length c0, Value.slice A1 (q).v.length c1, Value.int .i64 ((sz : Nat) : Int)], Res.ro A0 (q).f.length 1 ((q).f.map (fun v : Int => [Value.int .i64 v])), Res.ro A1 (q).v.length 1 ((q).v.map (fun v : Int => [Value.int .i64 v]))] rfl (fun w1 hw1 ho1 => by have h7 := rpop_any wb A0 A1 c0 c1 q sz w1 ho1 hc0 hc1 (by omega) hq; exact h7) rfl ?_)
  rintro ⟨A23, c23, AA23, cc23⟩ ⟨u23, uu23⟩
  refine ⟨_, _, inferInstance, inferInstance, ?_⟩
  simp only at u23 uu23
  have hq23 := popL_len q
  replace hq23 : (popL q).f.length ≤ sz ∧ (popL q).v.length ≤ sz := ⟨Nat.le_trans hq23.1 hq.1, Nat.le_trans hq23.2 hq.2⟩
  refine s_q (q_move rfl) rfl ?_
  refine s_q (q_extract rfl rfl) rfl ?_
  refine s_q (q_extract rfl rfl) rfl ?_
  refine s_q (q_extract rfl rfl) rfl ?_
  refine s_q (q_assign rfl) rfl ?_
  refine s_q (q_assign rfl) rfl ?_
  refine s_q (q_assign rfl) rfl ?_
  refine g_nil ?_
  refine g_then ?_
  refine g_seq ?_
  refine g_region ?_
  refine s_q (q_move rfl) rfl ?_
  refine s_q (q_move rfl) rfl ?_
  refine s_q (q_eql rfl rfl) rfl ?_
  refine g_litb 29 (b := true) rfl (by simp) ?_
  refine s_q (q_move rfl) rfl ?_
  refine s_qg (q_move rfl) rfl rfl rfl ?_
  refine s_qg (q_move rfl) rfl rfl rfl ?_
  refine s_qg (q_eql rfl rfl) rfl rfl rfl ?_
  refine g_litb 33 (b := true) rfl (by simp) ?_
  refine s_q (q_pick_t rfl rfl) rfl ?_
  refine s_q (q_move rfl) rfl ?_
  refine s_qg (q_move rfl) rfl rfl rfl ?_
  refine s_qg (q_move rfl) rfl rfl rfl ?_
  refine s_qg (q_eql_bool (by kernel_rfl) rfl rfl) rfl rfl rfl ?_
  refine g_litb 38 (b := true) rfl (by simp) ?_
  refine s_q (q_pick_t rfl rfl) rfl ?_
  refine s_q (q_assign rfl) rfl ?_
  refine g_nil ?_
  refine g_then ?_
  refine g_ret ?_
  refine g_then_ret ?_
  exact fin1 rfl (.tmp rfl) (fun w' hw' => ⟨(g17, gg17, A23, c23, AA23, cc23), (by first | exact ⟨r17, rr17, s17, ss17, u23, uu23⟩ | (dsimp only; exact ⟨r17, rr17, s17, ss17, u23, uu23⟩)), by first | rfl | (simp_all; done), by have h9 := wok_sub (L' := [Res.blk bl 52 [Value.pointer (some ⟨b0, 0, none⟩), Value.pointer (some ⟨b1, 0, none⟩)], Res.blk b0 64 (Rg.c ((g17, gg17, A23, c23, AA23, cc23)).1), Res.row (Rg.A ((g17, gg17, A23, c23, AA23, cc23)).1) (Rg.s ((g17, gg17, A23, c23, AA23, cc23)).1).length (Rg.cap ((g17, gg17, A23, c23, AA23, cc23)).1) 3 1 (Rg.s ((g17, gg17, A23, c23, AA23, cc23)).1), Res.blk b1 64 (Rg.c ((g17, gg17, A23, c23, AA23, cc23)).2.1), Res.row (Rg.A ((g17, gg17, A23, c23, AA23, cc23)).2.1) (Rg.s ((g17, gg17, A23, c23, AA23, cc23)).2.1).length (Rg.cap ((g17, gg17, A23, c23, AA23, cc23)).2.1) 3 1 (Rg.s ((g17, gg17, A23, c23, AA23, cc23)).2.1), Res.blk wb 42 [Value.slice ((g17, gg17, A23, c23, AA23, cc23)).2.2.1 ((popL q)).f.length ((g17, gg17, A23, c23, AA23, cc23)).2.2.2.1, Value.slice ((g17, gg17, A23, c23, AA23, cc23)).2.2.2.2.1 ((popL q)).v.length ((g17, gg17, A23, c23, AA23, cc23)).2.2.2.2.2, Value.int .i64 ((sz : Nat) : Int)], Res.ro ((g17, gg17, A23, c23, AA23, cc23)).2.2.1 ((popL q)).f.length 1 (((popL q)).f.map (fun v : Int => [Value.int .i64 v])), Res.ro ((g17, gg17, A23, c23, AA23, cc23)).2.2.2.2.1 ((popL q)).v.length 1 (((popL q)).v.map (fun v : Int => [Value.int .i64 v]))]) w' hw'; exact h9⟩) _ (.inl rfl)

set_option maxHeartbeats 400000 in
theorem do_false (bl b0 b1 : Nat) (g0 g1 : Rg) (wb : Nat) (A0 A1 : Option Addr) (c0 c1 : Nat) (q : LL) (sz : Nat) (cls i : Int) (w : World) (hw : WOK (fps [Res.blk bl 52 [Value.pointer (some ⟨b0, 0, none⟩), Value.pointer (some ⟨b1, 0, none⟩)], Res.blk b0 64 (Rg.c g0), Res.row (Rg.A g0) (Rg.s g0).length (Rg.cap g0) 3 1 (Rg.s g0), Res.blk b1 64 (Rg.c g1), Res.row (Rg.A g1) (Rg.s g1).length (Rg.cap g1) 3 1 (Rg.s g1), Res.blk wb 42 [Value.slice A0 (q).f.length c0, Value.slice A1 (q).v.length c1, Value.int .i64 ((sz : Nat) : Int)], Res.ro A0 (q).f.length 1 ((q).f.map (fun v : Int => [Value.int .i64 v])), Res.ro A1 (q).v.length 1 ((q).v.map (fun v : Int => [Value.int .i64 v]))]) w [Res.blk bl 52 [Value.pointer (some ⟨b0, 0, none⟩), Value.pointer (some ⟨b1, 0, none⟩)], Res.blk b0 64 (Rg.c g0), Res.row (Rg.A g0) (Rg.s g0).length (Rg.cap g0) 3 1 (Rg.s g0), Res.blk b1 64 (Rg.c g1), Res.row (Rg.A g1) (Rg.s g1).length (Rg.cap g1) 3 1 (Rg.s g1), Res.blk wb 42 [Value.slice A0 (q).f.length c0, Value.slice A1 (q).v.length c1, Value.int .i64 ((sz : Nat) : Int)], Res.ro A0 (q).f.length 1 ((q).f.map (fun v : Int => [Value.int .i64 v])), Res.ro A1 (q).v.length 1 ((q).v.map (fun v : Int => [Value.int .i64 v]))] w) (h0 : g0.Rep 1 ((q).f.map (fun v : Int => [Value.int .i64 v]))) (h1 : g1.Rep 1 ((q).v.map (fun v : Int => [Value.int .i64 v]))) (s0 : Rg.size g0 = sz) (s1 : Rg.size g1 = sz) (hsz : sz ≤ 4096) (hc0 : q.f.length ≤ c0) (hc1 : q.v.length ≤ c1) (hq : q.f.length ≤ sz ∧ q.v.length ≤ sz) : Own2 (ι := (Rg × Rg × Option Addr × Nat × Option Addr × Nat)) Try.prog 17 [.pointer (some ⟨bl, 0, none⟩), .pointer (some ⟨wb, 0, none⟩), .agg [.bool false, .int .i64 cls, .int .i64 i].toArray] w [Res.blk bl 52 [Value.pointer (some ⟨b0, 0, none⟩), Value.pointer (some ⟨b1, 0, none⟩)], Res.blk b0 64 (Rg.c g0), Res.row (Rg.A g0) (Rg.s g0).length (Rg.cap g0) 3 1 (Rg.s g0), Res.blk b1 64 (Rg.c g1), Res.row (Rg.A g1) (Rg.s g1).length (Rg.cap g1) 3 1 (Rg.s g1), Res.blk wb 42 [Value.slice A0 (q).f.length c0, Value.slice A1 (q).v.length c1, Value.int .i64 ((sz : Nat) : Int)], Res.ro A0 (q).f.length 1 ((q).f.map (fun v : Int => [Value.int .i64 v])), Res.ro A1 (q).v.length 1 ((q).v.map (fun v : Int => [Value.int .i64 v]))] (fun x => x.1.Rep 1 (((pushL sz (cls) (i) q)).f.map (fun v : Int => [Value.int .i64 v])) ∧ x.2.1.Rep 1 (((pushL sz (cls) (i) q)).v.map (fun v : Int => [Value.int .i64 v])) ∧ x.1.size = sz ∧ x.2.1.size = sz ∧ ((pushL sz (cls) (i) q)).f.length ≤ x.2.2.2.1 ∧ ((pushL sz (cls) (i) q)).v.length ≤ x.2.2.2.2.2) (fun x => .bool true) (fun x => []) (fun x => [Res.blk bl 52 [Value.pointer (some ⟨b0, 0, none⟩), Value.pointer (some ⟨b1, 0, none⟩)], Res.blk b0 64 (Rg.c x.1), Res.row (Rg.A x.1) (Rg.s x.1).length (Rg.cap x.1) 3 1 (Rg.s x.1), Res.blk b1 64 (Rg.c x.2.1), Res.row (Rg.A x.2.1) (Rg.s x.2.1).length (Rg.cap x.2.1) 3 1 (Rg.s x.2.1), Res.blk wb 42 [Value.slice x.2.2.1 ((pushL sz (cls) (i) q)).f.length x.2.2.2.1, Value.slice x.2.2.2.2.1 ((pushL sz (cls) (i) q)).v.length x.2.2.2.2.2, Value.int .i64 ((sz : Nat) : Int)], Res.ro x.2.2.1 ((pushL sz (cls) (i) q)).f.length 1 (((pushL sz (cls) (i) q)).f.map (fun v : Int => [Value.int .i64 v])), Res.ro x.2.2.2.2.1 ((pushL sz (cls) (i) q)).v.length 1 (((pushL sz (cls) (i) q)).v.map (fun v : Int => [Value.int .i64 v]))]) := by
  refine g_start Try.func17 rfl 53 rfl (by simp) (fps [Res.blk bl 52 [Value.pointer (some ⟨b0, 0, none⟩), Value.pointer (some ⟨b1, 0, none⟩)], Res.blk b0 64 (Rg.c g0), Res.row (Rg.A g0) (Rg.s g0).length (Rg.cap g0) 3 1 (Rg.s g0), Res.blk b1 64 (Rg.c g1), Res.row (Rg.A g1) (Rg.s g1).length (Rg.cap g1) 3 1 (Rg.s g1), Res.blk wb 42 [Value.slice A0 (q).f.length c0, Value.slice A1 (q).v.length c1, Value.int .i64 ((sz : Nat) : Int)], Res.ro A0 (q).f.length 1 ((q).f.map (fun v : Int => [Value.int .i64 v])), Res.ro A1 (q).v.length 1 ((q).v.map (fun v : Int => [Value.int .i64 v]))]) [Res.blk bl 52 [Value.pointer (some ⟨b0, 0, none⟩), Value.pointer (some ⟨b1, 0, none⟩)], Res.blk b0 64 (Rg.c g0), Res.row (Rg.A g0) (Rg.s g0).length (Rg.cap g0) 3 1 (Rg.s g0), Res.blk b1 64 (Rg.c g1), Res.row (Rg.A g1) (Rg.s g1).length (Rg.cap g1) 3 1 (Rg.s g1), Res.blk wb 42 [Value.slice A0 (q).f.length c0, Value.slice A1 (q).v.length c1, Value.int .i64 ((sz : Nat) : Int)], Res.ro A0 (q).f.length 1 ((q).f.map (fun v : Int => [Value.int .i64 v])), Res.ro A1 (q).v.length 1 ((q).v.map (fun v : Int => [Value.int .i64 v]))] hw _ rfl ?_
  refine g_seq ?_
  refine g_region ?_
  refine g_op (g_box (c := [Value.bool false, Value.int .i64 cls, Value.int .i64 i]) rfl rfl rfl fun b5 => ?_)
  refine s_q (q_assign rfl) rfl ?_
  refine g_nil ?_
  refine g_then ?_
  refine g_seq ?_
  refine g_seq ?_
  refine g_region ?_
  refine s_q (q_field rfl) rfl ?_
  refine s_q (q_load rfl rfl) rfl ?_
  refine g_nil ?_
  refine g_then ?_
  refine g_false rfl ?_
  refine g_skip ?_
  refine g_then ?_
  refine g_seq ?_
  refine d_regionL (L0 := [Res.blk b5 27 [Value.bool false, Value.int .i64 cls, Value.int .i64 i]]) [] mixed rfl rfl wok_sub ?_
  refine d_q 0 rfl (by kernel_rfl) (q_move rfl) wok_sub rfl (ls' := #[true, false, false, false, false, false, false, false, false, false, false, false, false, false]) rfl ?_
  refine d_q 1 rfl (by kernel_rfl) (q_field rfl) wok_sub rfl (ls' := #[true, true, false, false, false, false, false, false, false, false, false, false, false, false]) rfl ?_
  refine d_q 2 rfl (by kernel_rfl) (q_load rfl rfl) wok_sub rfl (ls' := #[true, true, true, false, false, false, false, false, false, false, false, false, false, false]) rfl ?_
  refine d_q 3 rfl (by kernel_rfl) (q_field rfl) wok_sub rfl (ls' := #[true, true, true, true, false, false, false, false, false, false, false, false, false, false]) rfl ?_
  refine d_q 4 rfl (by kernel_rfl) (q_load rfl rfl) wok_sub rfl (ls' := #[true, true, true, true, true, false, false, false, false, false, false, false, false, false]) rfl ?_
  refine d_q 6 rfl (by kernel_rfl) (q_move rfl) wok_sub rfl (ls' := #[true, true, true, true, true, false, true, false, false, false, false, false, false, false]) rfl ?_
  refine d_q 7 rfl (by kernel_rfl) (q_field rfl) wok_sub rfl (ls' := #[true, true, true, true, true, false, true, true, false, false, false, false, false, false]) rfl ?_
  refine d_q 8 rfl (by kernel_rfl) (q_load rfl rfl) wok_sub rfl (ls' := #[true, true, true, true, true, false, true, true, true, false, false, false, false, false]) rfl ?_
  refine d_q 9 rfl (by kernel_rfl) (q_field rfl) wok_sub rfl (ls' := #[true, true, true, true, true, false, true, true, true, true, false, false, false, false]) rfl ?_
  refine d_q 10 rfl (by kernel_rfl) (q_load rfl rfl) wok_sub rfl (ls' := #[true, true, true, true, true, false, true, true, true, true, true, false, false, false]) rfl ?_
  refine d_op 5 rfl (by kernel_rfl) (ls' := #[true, true, true, true, true, true, true, true, true, true, true, false, false, false]) rfl wok_sub (g_ownS [Res.blk bl 52 [Value.pointer (some ⟨b0, 0, none⟩), Value.pointer (some ⟨b1, 0, none⟩)], Res.blk b0 64 (Rg.c g0), Res.row (Rg.A g0) (Rg.s g0).length (Rg.cap g0) 3 1 (Rg.s g0), Res.blk b1 64 (Rg.c g1), Res.row (Rg.A g1) (Rg.s g1).length (Rg.cap g1) 3 1 (Rg.s g1)] rfl (fun w1 hw1 ho1 => by have h7 := lpush_any bl b0 b1 g0 g1 q sz (cls) (i) w1 ho1 h0 h1 s0 s1 (by omega); exact h7) rfl ?_)
  rintro ⟨g45, gg45⟩ ⟨r45, rr45, s45, ss45⟩
  refine ⟨_, _, inferInstance, inferInstance, ?_⟩
  simp only at r45 rr45 s45 ss45
  refine d_op 11 rfl (by kernel_rfl) (ls' := #[true, true, true, true, true, true, true, true, true, true, true, true, false, false]) rfl wok_sub (g_ownS [Res.blk wb 42 [Value.slice A0 (q).f.length c0, Value.slice A1 (q).v.length c1, Value.int .i64 ((sz : Nat) : Int)], Res.ro A0 (q).f.length 1 ((q).f.map (fun v : Int => [Value.int .i64 v])), Res.ro A1 (q).v.length 1 ((q).v.map (fun v : Int => [Value.int .i64 v]))] rfl (fun w1 hw1 ho1 => by have h7 := rpush_any wb A0 A1 c0 c1 q sz (i) (cls) w1 ho1 hc0 hc1 (by omega) hq; exact h7) rfl ?_)
  rintro ⟨A51, c51, AA51, cc51⟩ ⟨u51, uu51⟩
  refine ⟨_, _, inferInstance, inferInstance, ?_⟩
  simp only at u51 uu51
  have hq51 := pushL_len (cls) (i) hq
  refine d_q 12 rfl (by kernel_rfl) (q_eql rfl rfl) wok_sub rfl (ls' := #[true, true, true, true, true, true, true, true, true, true, true, true, true, false]) rfl ?_
  refine g_litb 52 (b := true) rfl (by simp) ?_
  refine d_q 13 rfl (by kernel_rfl) (q_assign rfl) wok_sub rfl (ls' := #[true, true, true, true, true, true, true, true, true, true, true, true, true, true]) rfl ?_
  refine d_end (by kernel_rfl) (.inr wok_sub) ?_
  refine g_then ?_
  refine g_ret ?_
  exact fin1 rfl (.tmp rfl) (fun w' hw' => ⟨(g45, gg45, A51, c51, AA51, cc51), (by first | exact ⟨r45, rr45, s45, ss45, u51, uu51⟩ | (dsimp only; exact ⟨r45, rr45, s45, ss45, u51, uu51⟩)), by first | rfl | (simp_all; done), by have h9 := wok_sub (L' := [Res.blk bl 52 [Value.pointer (some ⟨b0, 0, none⟩), Value.pointer (some ⟨b1, 0, none⟩)], Res.blk b0 64 (Rg.c ((g45, gg45, A51, c51, AA51, cc51)).1), Res.row (Rg.A ((g45, gg45, A51, c51, AA51, cc51)).1) (Rg.s ((g45, gg45, A51, c51, AA51, cc51)).1).length (Rg.cap ((g45, gg45, A51, c51, AA51, cc51)).1) 3 1 (Rg.s ((g45, gg45, A51, c51, AA51, cc51)).1), Res.blk b1 64 (Rg.c ((g45, gg45, A51, c51, AA51, cc51)).2.1), Res.row (Rg.A ((g45, gg45, A51, c51, AA51, cc51)).2.1) (Rg.s ((g45, gg45, A51, c51, AA51, cc51)).2.1).length (Rg.cap ((g45, gg45, A51, c51, AA51, cc51)).2.1) 3 1 (Rg.s ((g45, gg45, A51, c51, AA51, cc51)).2.1), Res.blk wb 42 [Value.slice ((g45, gg45, A51, c51, AA51, cc51)).2.2.1 ((pushL sz (cls) (i) q)).f.length ((g45, gg45, A51, c51, AA51, cc51)).2.2.2.1, Value.slice ((g45, gg45, A51, c51, AA51, cc51)).2.2.2.2.1 ((pushL sz (cls) (i) q)).v.length ((g45, gg45, A51, c51, AA51, cc51)).2.2.2.2.2, Value.int .i64 ((sz : Nat) : Int)], Res.ro ((g45, gg45, A51, c51, AA51, cc51)).2.2.1 ((pushL sz (cls) (i) q)).f.length 1 (((pushL sz (cls) (i) q)).f.map (fun v : Int => [Value.int .i64 v])), Res.ro ((g45, gg45, A51, c51, AA51, cc51)).2.2.2.2.1 ((pushL sz (cls) (i) q)).v.length 1 (((pushL sz (cls) (i) q)).v.map (fun v : Int => [Value.int .i64 v]))]) w' hw'; exact h9⟩) _ (.inl rfl)

theorem do_any (bl b0 b1 : Nat) (g0 g1 : Rg) (wb : Nat) (A0 A1 : Option Addr) (c0 c1 : Nat) (q : LL) (sz : Nat) (o : O) (w : World) (hw : WOK (fps [Res.blk bl 52 [Value.pointer (some ⟨b0, 0, none⟩), Value.pointer (some ⟨b1, 0, none⟩)], Res.blk b0 64 (Rg.c g0), Res.row (Rg.A g0) (Rg.s g0).length (Rg.cap g0) 3 1 (Rg.s g0), Res.blk b1 64 (Rg.c g1), Res.row (Rg.A g1) (Rg.s g1).length (Rg.cap g1) 3 1 (Rg.s g1), Res.blk wb 42 [Value.slice A0 (q).f.length c0, Value.slice A1 (q).v.length c1, Value.int .i64 ((sz : Nat) : Int)], Res.ro A0 (q).f.length 1 ((q).f.map (fun v : Int => [Value.int .i64 v])), Res.ro A1 (q).v.length 1 ((q).v.map (fun v : Int => [Value.int .i64 v]))]) w [Res.blk bl 52 [Value.pointer (some ⟨b0, 0, none⟩), Value.pointer (some ⟨b1, 0, none⟩)], Res.blk b0 64 (Rg.c g0), Res.row (Rg.A g0) (Rg.s g0).length (Rg.cap g0) 3 1 (Rg.s g0), Res.blk b1 64 (Rg.c g1), Res.row (Rg.A g1) (Rg.s g1).length (Rg.cap g1) 3 1 (Rg.s g1), Res.blk wb 42 [Value.slice A0 (q).f.length c0, Value.slice A1 (q).v.length c1, Value.int .i64 ((sz : Nat) : Int)], Res.ro A0 (q).f.length 1 ((q).f.map (fun v : Int => [Value.int .i64 v])), Res.ro A1 (q).v.length 1 ((q).v.map (fun v : Int => [Value.int .i64 v]))] w) (h0 : g0.Rep 1 ((q).f.map (fun v : Int => [Value.int .i64 v]))) (h1 : g1.Rep 1 ((q).v.map (fun v : Int => [Value.int .i64 v]))) (s0 : Rg.size g0 = sz) (s1 : Rg.size g1 = sz) (hsz : sz ≤ 4096) (hc0 : q.f.length ≤ c0) (hc1 : q.v.length ≤ c1) (hq : q.f.length ≤ sz ∧ q.v.length ≤ sz) : Own2 (ι := (Rg × Rg × Option Addr × Nat × Option Addr × Nat)) Try.prog 17 [.pointer (some ⟨bl, 0, none⟩), .pointer (some ⟨wb, 0, none⟩), .agg o.c.toArray] w [Res.blk bl 52 [Value.pointer (some ⟨b0, 0, none⟩), Value.pointer (some ⟨b1, 0, none⟩)], Res.blk b0 64 (Rg.c g0), Res.row (Rg.A g0) (Rg.s g0).length (Rg.cap g0) 3 1 (Rg.s g0), Res.blk b1 64 (Rg.c g1), Res.row (Rg.A g1) (Rg.s g1).length (Rg.cap g1) 3 1 (Rg.s g1), Res.blk wb 42 [Value.slice A0 (q).f.length c0, Value.slice A1 (q).v.length c1, Value.int .i64 ((sz : Nat) : Int)], Res.ro A0 (q).f.length 1 ((q).f.map (fun v : Int => [Value.int .i64 v])), Res.ro A1 (q).v.length 1 ((q).v.map (fun v : Int => [Value.int .i64 v]))] (fun x => x.1.Rep 1 (((doL sz o q)).f.map (fun v : Int => [Value.int .i64 v])) ∧ x.2.1.Rep 1 (((doL sz o q)).v.map (fun v : Int => [Value.int .i64 v])) ∧ x.1.size = sz ∧ x.2.1.size = sz ∧ ((doL sz o q)).f.length ≤ x.2.2.2.1 ∧ ((doL sz o q)).v.length ≤ x.2.2.2.2.2) (fun x => .bool true) (fun x => []) (fun x => [Res.blk bl 52 [Value.pointer (some ⟨b0, 0, none⟩), Value.pointer (some ⟨b1, 0, none⟩)], Res.blk b0 64 (Rg.c x.1), Res.row (Rg.A x.1) (Rg.s x.1).length (Rg.cap x.1) 3 1 (Rg.s x.1), Res.blk b1 64 (Rg.c x.2.1), Res.row (Rg.A x.2.1) (Rg.s x.2.1).length (Rg.cap x.2.1) 3 1 (Rg.s x.2.1), Res.blk wb 42 [Value.slice x.2.2.1 ((doL sz o q)).f.length x.2.2.2.1, Value.slice x.2.2.2.2.1 ((doL sz o q)).v.length x.2.2.2.2.2, Value.int .i64 ((sz : Nat) : Int)], Res.ro x.2.2.1 ((doL sz o q)).f.length 1 (((doL sz o q)).f.map (fun v : Int => [Value.int .i64 v])), Res.ro x.2.2.2.2.1 ((doL sz o q)).v.length 1 (((doL sz o q)).v.map (fun v : Int => [Value.int .i64 v]))]) := by
  obtain ⟨p, cls, i⟩ := o
  cases p
  · exact do_false bl b0 b1 g0 g1 wb A0 A1 c0 c1 q sz cls i w hw h0 h1 s0 s1 hsz hc0 hc1 hq
  · exact do_true bl b0 b1 g0 g1 wb A0 A1 c0 c1 q sz cls i w hw h0 h1 s0 s1 hsz hc0 hc1 hq

theorem doL_len {sz : Nat} (o : O) {q : LL} (h : q.f.length ≤ sz ∧ q.v.length ≤ sz) : (doL sz o q).f.length ≤ sz ∧ (doL sz o q).v.length ≤ sz := by
  unfold doL
  split
  · have := popL_len q; omega
  · exact pushL_len _ _ h

set_option maxHeartbeats 400000 in
theorem same_any (bl b0 b1 : Nat) (g0 g1 : Rg) (wb : Nat) (A0 A1 : Option Addr) (c0 c1 : Nat) (q : LL) (sz : Nat) (w : World) (hw : WOK (fps [Res.blk bl 52 [Value.pointer (some ⟨b0, 0, none⟩), Value.pointer (some ⟨b1, 0, none⟩)], Res.blk b0 64 (Rg.c g0), Res.row (Rg.A g0) (Rg.s g0).length (Rg.cap g0) 3 1 (Rg.s g0), Res.blk b1 64 (Rg.c g1), Res.row (Rg.A g1) (Rg.s g1).length (Rg.cap g1) 3 1 (Rg.s g1), Res.blk wb 42 [Value.slice A0 (q).f.length c0, Value.slice A1 (q).v.length c1, Value.int .i64 ((sz : Nat) : Int)], Res.ro A0 (q).f.length 1 ((q).f.map (fun v : Int => [Value.int .i64 v])), Res.ro A1 (q).v.length 1 ((q).v.map (fun v : Int => [Value.int .i64 v]))]) w [Res.blk bl 52 [Value.pointer (some ⟨b0, 0, none⟩), Value.pointer (some ⟨b1, 0, none⟩)], Res.blk b0 64 (Rg.c g0), Res.row (Rg.A g0) (Rg.s g0).length (Rg.cap g0) 3 1 (Rg.s g0), Res.blk b1 64 (Rg.c g1), Res.row (Rg.A g1) (Rg.s g1).length (Rg.cap g1) 3 1 (Rg.s g1), Res.blk wb 42 [Value.slice A0 (q).f.length c0, Value.slice A1 (q).v.length c1, Value.int .i64 ((sz : Nat) : Int)], Res.ro A0 (q).f.length 1 ((q).f.map (fun v : Int => [Value.int .i64 v])), Res.ro A1 (q).v.length 1 ((q).v.map (fun v : Int => [Value.int .i64 v]))] w) (h0 : g0.Rep 1 ((q).f.map (fun v : Int => [Value.int .i64 v]))) (h1 : g1.Rep 1 ((q).v.map (fun v : Int => [Value.int .i64 v]))) (s0 : Rg.size g0 = sz) (s1 : Rg.size g1 = sz) (hsz : sz ≤ 4096) (hc0 : q.f.length ≤ c0) (hc1 : q.v.length ≤ c1) (hq : q.f.length ≤ sz ∧ q.v.length ≤ sz) : Keep Try.prog 18 [.pointer (some ⟨bl, 0, none⟩), .pointer (some ⟨wb, 0, none⟩)] w [Res.blk bl 52 [Value.pointer (some ⟨b0, 0, none⟩), Value.pointer (some ⟨b1, 0, none⟩)], Res.blk b0 64 (Rg.c g0), Res.row (Rg.A g0) (Rg.s g0).length (Rg.cap g0) 3 1 (Rg.s g0), Res.blk b1 64 (Rg.c g1), Res.row (Rg.A g1) (Rg.s g1).length (Rg.cap g1) 3 1 (Rg.s g1), Res.blk wb 42 [Value.slice A0 (q).f.length c0, Value.slice A1 (q).v.length c1, Value.int .i64 ((sz : Nat) : Int)], Res.ro A0 (q).f.length 1 ((q).f.map (fun v : Int => [Value.int .i64 v])), Res.ro A1 (q).v.length 1 ((q).v.map (fun v : Int => [Value.int .i64 v]))] (.bool true) := by
  refine g_start Try.func18 rfl 90 rfl (by simp) (fps [Res.blk bl 52 [Value.pointer (some ⟨b0, 0, none⟩), Value.pointer (some ⟨b1, 0, none⟩)], Res.blk b0 64 (Rg.c g0), Res.row (Rg.A g0) (Rg.s g0).length (Rg.cap g0) 3 1 (Rg.s g0), Res.blk b1 64 (Rg.c g1), Res.row (Rg.A g1) (Rg.s g1).length (Rg.cap g1) 3 1 (Rg.s g1), Res.blk wb 42 [Value.slice A0 (q).f.length c0, Value.slice A1 (q).v.length c1, Value.int .i64 ((sz : Nat) : Int)], Res.ro A0 (q).f.length 1 ((q).f.map (fun v : Int => [Value.int .i64 v])), Res.ro A1 (q).v.length 1 ((q).v.map (fun v : Int => [Value.int .i64 v]))]) [Res.blk bl 52 [Value.pointer (some ⟨b0, 0, none⟩), Value.pointer (some ⟨b1, 0, none⟩)], Res.blk b0 64 (Rg.c g0), Res.row (Rg.A g0) (Rg.s g0).length (Rg.cap g0) 3 1 (Rg.s g0), Res.blk b1 64 (Rg.c g1), Res.row (Rg.A g1) (Rg.s g1).length (Rg.cap g1) 3 1 (Rg.s g1), Res.blk wb 42 [Value.slice A0 (q).f.length c0, Value.slice A1 (q).v.length c1, Value.int .i64 ((sz : Nat) : Int)], Res.ro A0 (q).f.length 1 ((q).f.map (fun v : Int => [Value.int .i64 v])), Res.ro A1 (q).v.length 1 ((q).v.map (fun v : Int => [Value.int .i64 v]))] hw _ rfl ?_
  have e0 := h0.num; have e1 := h1.num; have e2 := h0.sz; have e3 := h1.sz; have e4 := h0.le; have e5 := h1.le
  refine g_seq ?_
  refine g_region ?_
  refine s_q (q_assign rfl) rfl ?_
  refine g_nil ?_
  refine g_then ?_
  refine g_seq ?_
  refine g_seq ?_
  refine g_region ?_
  refine s_q (q_assign rfl) rfl ?_
  refine g_nil ?_
  refine g_then ?_
  refine g_block ?_
  refine g_loopk [0, 1, 4] (fun (x : Int) => [(5, .int .i64 x)]) (fun (x : Int) => [Res.blk bl 52 [Value.pointer (some ⟨b0, 0, none⟩), Value.pointer (some ⟨b1, 0, none⟩)], Res.blk b0 64 (Rg.c g0), Res.row (Rg.A g0) (Rg.s g0).length (Rg.cap g0) 3 1 (Rg.s g0), Res.blk b1 64 (Rg.c g1), Res.row (Rg.A g1) (Rg.s g1).length (Rg.cap g1) 3 1 (Rg.s g1), Res.blk wb 42 [Value.slice A0 (q).f.length c0, Value.slice A1 (q).v.length c1, Value.int .i64 ((sz : Nat) : Int)], Res.ro A0 (q).f.length 1 ((q).f.map (fun v : Int => [Value.int .i64 v])), Res.ro A1 (q).v.length 1 ((q).v.map (fun v : Int => [Value.int .i64 v]))]) (fun (x : Int) => -1 ≤ x ∧ x ≤ 3) (fun (x : Int) => (3 - x).toNat) (-1) (by (try dsimp only); exact ⟨(by omega), (by omega)⟩) rfl (by repeat (first | exact trivial | refine ⟨rfl, ?_⟩)) wok_sub ?_
  rintro c ⟨hlo, hhi⟩
  replace hlo : -1 ≤ c := hlo
  replace hhi : c ≤ 3 := hhi
  refine g_seq ?_
  refine g_seq ?_
  refine g_region ?_
  refine s_q (q_move rfl) rfl ?_
  refine s_q (q_leq rfl rfl) rfl ?_
  refine g_nil ?_
  refine g_then ?_
  refine g_cond rfl (fun hx1 => ?_) (fun hx1 => ?_)
  · have hc3 : c ≤ 2 := of_decide_eq_true hx1
    refine g_skip ?_
    refine g_then ?_
    refine g_seq ?_
    refine g_block ?_
    refine g_seq ?_
    rcases (show c = -1 ∨ c = 0 ∨ c = 1 ∨ c = 2 by omega) with hcc | hcc | hcc | hcc
    · refine g_val 5 (v' := .int .i64 (-1)) rfl (by rw [hcc]) ?_
      refine g_region ?_
      refine s_q (q_move rfl) rfl ?_
      refine s_q (q_move rfl) rfl ?_
      refine g_op (g_keep [Res.blk wb 42 [Value.slice A0 (q).f.length c0, Value.slice A1 (q).v.length c1, Value.int .i64 ((sz : Nat) : Int)], Res.ro A0 (q).f.length 1 ((q).f.map (fun v : Int => [Value.int .i64 v])), Res.ro A1 (q).v.length 1 ((q).v.map (fun v : Int => [Value.int .i64 v]))] rfl (fun w1 hw1 ho1 => by exact rall_b wb A0 A1 c0 c1 q sz (-1) w1 ho1 hc0 hc1 (by omega) hq ⟨by decide, by decide⟩) rfl ?_)
      refine s_q (q_assign rfl) rfl ?_
      refine g_nil ?_
      refine g_then ?_
      refine g_seq ?_
      refine g_region ?_
      refine s_q (q_assign rfl) rfl ?_
      refine g_nil ?_
      refine g_then ?_
      refine g_seq ?_
      refine g_seq ?_
      refine g_region ?_
      refine s_q (q_move rfl) rfl ?_
      refine s_q (q_eql rfl rfl) rfl ?_
      refine g_litb 22 (b := false) rfl (by decide) ?_
      refine s_q (q_move rfl) rfl ?_
      refine s_qg (q_move rfl) rfl rfl rfl ?_
      refine s_qg (q_eql rfl rfl) rfl rfl rfl ?_
      refine g_litb 25 (b := false) rfl (by decide) ?_
      refine s_q (q_pick_f rfl rfl) rfl ?_
      refine g_nil ?_
      refine g_then ?_
      refine g_false rfl ?_
      refine g_skip ?_
      refine g_then ?_
      refine g_seq ?_
      refine g_region ?_
      refine s_q (q_move rfl) rfl ?_
      refine s_q (q_move rfl) rfl ?_
      refine g_op (g_ownS [Res.blk bl 52 [Value.pointer (some ⟨b0, 0, none⟩), Value.pointer (some ⟨b1, 0, none⟩)], Res.blk b0 64 (Rg.c g0), Res.row (Rg.A g0) (Rg.s g0).length (Rg.cap g0) 3 1 (Rg.s g0), Res.blk b1 64 (Rg.c g1), Res.row (Rg.A g1) (Rg.s g1).length (Rg.cap g1) 3 1 (Rg.s g1)] rfl (fun w1 hw1 ho1 => by have h7 := lall_any bl b0 b1 g0 g1 q sz ((-1)) w1 ho1 h0 h1 s0 s1 (by omega); exact h7) rfl ?_)
      rintro ⟨A36, cap36⟩ _
      refine ⟨_, _, inferInstance, inferInstance, ?_⟩
      refine s_q (q_move rfl) rfl ?_
      refine g_op (g_pure rfl (fun w1 hw1 => equal_i A36 none _ _ _ _ ((allL ((-1)) q)) (([] : List Int)) w1 (Rdb.toOld (InRow.rdb (A := A36) (els := ((allL ((-1)) q)).map (fun v : Int => [Value.int .i64 v])) (by first | rfl | assumption | (simp; done) | (simp_all; done) | (simp; omega) | (simp_all; omega)) (map_cat (c := (fun v : Int => [Value.int .i64 v])) (fun _ => rfl) _)) hw1) (Rdb.toOld (Rdb.nil) hw1) (row_max (A := A36) hw1)) rfl ?_)
      refine s_q (q_not rfl) rfl ?_
      refine g_litb 39 (b := false) rfl (by simp [allL]) ?_
      refine s_q (q_move rfl) rfl ?_
      refine s_qg (q_move rfl) rfl rfl rfl ?_
      refine s_qg (q_move rfl) rfl rfl rfl ?_
      refine g_gt rfl rfl (g_keep [Res.blk bl 52 [Value.pointer (some ⟨b0, 0, none⟩), Value.pointer (some ⟨b1, 0, none⟩)], Res.blk b0 64 (Rg.c g0), Res.row (Rg.A g0) (Rg.s g0).length (Rg.cap g0) 3 1 (Rg.s g0), Res.blk b1 64 (Rg.c g1), Res.row (Rg.A g1) (Rg.s g1).length (Rg.cap g1) 3 1 (Rg.s g1)] rfl (fun w1 hw1 ho1 => by exact llen_any bl b0 b1 g0 g1 q sz ((-1)) w1 ho1 h0 h1 s0 s1 (by omega)) rfl ?_)
      refine s_qg (q_move rfl) rfl rfl rfl ?_
      refine s_qg (q_len rfl) rfl rfl rfl ?_
      refine s_qg (q_neq rfl rfl) rfl rfl rfl ?_
      refine g_litb 46 (b := false) rfl (by simp [allL]) ?_
      refine s_q (q_pick_f rfl rfl) rfl ?_
      refine s_q (q_move rfl) rfl ?_
      refine s_qg (q_move rfl) rfl rfl rfl ?_
      refine s_qg (q_move rfl) rfl rfl rfl ?_
      refine g_gt rfl rfl (g_keep [Res.blk bl 52 [Value.pointer (some ⟨b0, 0, none⟩), Value.pointer (some ⟨b1, 0, none⟩)], Res.blk b0 64 (Rg.c g0), Res.row (Rg.A g0) (Rg.s g0).length (Rg.cap g0) 3 1 (Rg.s g0), Res.blk b1 64 (Rg.c g1), Res.row (Rg.A g1) (Rg.s g1).length (Rg.cap g1) 3 1 (Rg.s g1)] rfl (fun w1 hw1 ho1 => by exact lfree_any bl b0 b1 g0 g1 q sz ((-1)) w1 ho1 h0 h1 s0 s1 (by omega)) rfl ?_)
      refine s_qg (q_move rfl) rfl rfl rfl ?_
      refine s_qg (q_neq rfl rfl) rfl rfl rfl ?_
      refine g_litb 53 (b := false) rfl (by simp [freeL]) ?_
      refine s_q (q_pick_f rfl rfl) rfl ?_
      refine s_q (q_move rfl) rfl ?_
      refine s_qg (q_move rfl) rfl rfl rfl ?_
      refine s_qg (q_move rfl) rfl rfl rfl ?_
      refine g_gt rfl rfl (g_ownS [Res.blk bl 52 [Value.pointer (some ⟨b0, 0, none⟩), Value.pointer (some ⟨b1, 0, none⟩)], Res.blk b0 64 (Rg.c g0), Res.row (Rg.A g0) (Rg.s g0).length (Rg.cap g0) 3 1 (Rg.s g0), Res.blk b1 64 (Rg.c g1), Res.row (Rg.A g1) (Rg.s g1).length (Rg.cap g1) 3 1 (Rg.s g1)] rfl (fun w1 hw1 ho1 => by have h7 := lahead_any bl b0 b1 g0 g1 q sz ((-1)) w1 ho1 h0 h1 s0 s1 (by omega); exact h7) rfl ?_)
      rintro ⟨A58, cap58⟩ _
      refine ⟨_, _, inferInstance, inferInstance, ?_⟩
      refine s_qg (q_move rfl) rfl rfl rfl ?_
      refine s_qg (q_move rfl) rfl rfl rfl ?_
      refine g_gt rfl rfl (g_ownS [Res.blk wb 42 [Value.slice A0 (q).f.length c0, Value.slice A1 (q).v.length c1, Value.int .i64 ((sz : Nat) : Int)], Res.ro A0 (q).f.length 1 ((q).f.map (fun v : Int => [Value.int .i64 v])), Res.ro A1 (q).v.length 1 ((q).v.map (fun v : Int => [Value.int .i64 v]))] rfl (fun w1 hw1 ho1 => by have h7 := rahead_b wb A0 A1 c0 c1 q sz (-1) w1 ho1 hc0 hc1 (by omega) hq ⟨by decide, by decide⟩; exact h7) rfl ?_)
      rintro ⟨A61, cap61⟩ _
      refine ⟨_, _, inferInstance, inferInstance, ?_⟩
      refine g_gt rfl rfl (g_pure rfl (fun w1 hw1 => equal_i A58 A61 _ _ _ _ ((aheadL ((-1)) q)) ((aheadL ((-1)) q)) w1 (Rdb.toOld (InRow.rdb (A := A58) (els := ((aheadL ((-1)) q)).map (fun v : Int => [Value.int .i64 v])) (by first | rfl | assumption | (simp; done) | (simp_all; done) | (simp; omega) | (simp_all; omega)) (map_cat (c := (fun v : Int => [Value.int .i64 v])) (fun _ => rfl) _)) hw1) (Rdb.toOld (InRow.rdb (A := A61) (els := ((aheadL ((-1)) q)).map (fun v : Int => [Value.int .i64 v])) (by first | rfl | assumption | (simp; done) | (simp_all; done) | (simp; omega) | (simp_all; omega)) (map_cat (c := (fun v : Int => [Value.int .i64 v])) (fun _ => rfl) _)) hw1) (row_max (A := A58) hw1)) rfl ?_)
      refine s_qg (q_not rfl) rfl rfl rfl ?_
      refine g_litb 63 (b := false) rfl (by simp) ?_
      refine s_q (q_pick_f rfl rfl) rfl ?_
      refine g_nil ?_
      refine g_then ?_
      refine g_false rfl ?_
      refine g_skip ?_
      refine g_blk_n ?_
      refine g_then ?_
      refine g_region ?_
      refine g_val 5 (v' := .int .i64 c) rfl (by rw [hcc]) ?_
      refine s_q (q_move rfl) rfl ?_
      refine s_q (q_addz (z := c + 1) rfl rfl (wi64 (by omega) (by omega))) rfl ?_
      refine s_q (q_assign rfl) rfl ?_
      refine g_nil ?_
      exact g_again (c + 1) (by (try dsimp only); exact ⟨(by omega), (by omega)⟩) (by first | omega | (simp only; omega)) (by repeat (first | exact trivial | refine ⟨rfl, ?_⟩)) wok_sub
    · refine g_val 5 (v' := .int .i64 0) rfl (by rw [hcc]) ?_
      refine g_region ?_
      refine s_q (q_move rfl) rfl ?_
      refine s_q (q_move rfl) rfl ?_
      refine g_op (g_keep [Res.blk wb 42 [Value.slice A0 (q).f.length c0, Value.slice A1 (q).v.length c1, Value.int .i64 ((sz : Nat) : Int)], Res.ro A0 (q).f.length 1 ((q).f.map (fun v : Int => [Value.int .i64 v])), Res.ro A1 (q).v.length 1 ((q).v.map (fun v : Int => [Value.int .i64 v]))] rfl (fun w1 hw1 ho1 => by exact rall_0 wb A0 A1 c0 c1 q sz w1 ho1 hc0 hc1 (by omega) hq) rfl ?_)
      refine s_q (q_assign rfl) rfl ?_
      refine g_nil ?_
      refine g_then ?_
      refine g_seq ?_
      refine g_region ?_
      refine s_q (q_assign rfl) rfl ?_
      refine g_nil ?_
      refine g_then ?_
      refine g_seq ?_
      refine g_seq ?_
      refine g_region ?_
      refine s_q (q_move rfl) rfl ?_
      refine s_q (q_eql rfl rfl) rfl ?_
      refine g_litb 22 (b := true) rfl (by decide) ?_
      refine s_q (q_move rfl) rfl ?_
      refine g_gf rfl rfl rfl rfl ?_
      refine g_gf rfl rfl rfl rfl ?_
      refine s_q (q_pick_t rfl rfl) rfl ?_
      refine g_nil ?_
      refine g_then ?_
      refine g_true rfl ?_
      refine g_region ?_
      refine s_q (q_move rfl) rfl ?_
      refine s_q (q_nilck rfl) rfl ?_
      refine s_q (q_field rfl) rfl ?_
      refine s_q (q_load rfl rfl) rfl ?_
      refine s_q (q_move rfl) rfl ?_
      refine s_q (q_len rfl) rfl ?_
      refine s_q (q_subn (a := sz) (b := ((q).f).length) rfl rfl (by first | omega | (simp; omega) | (simp_all; omega)) (by first | omega | (simp; omega) | (simp_all; omega))) rfl ?_
      refine s_q (q_assign rfl) rfl ?_
      refine g_nil ?_
      refine g_then ?_
      refine g_seq ?_
      refine g_region ?_
      refine s_q (q_move rfl) rfl ?_
      refine s_q (q_move rfl) rfl ?_
      refine g_op (g_ownS [Res.blk bl 52 [Value.pointer (some ⟨b0, 0, none⟩), Value.pointer (some ⟨b1, 0, none⟩)], Res.blk b0 64 (Rg.c g0), Res.row (Rg.A g0) (Rg.s g0).length (Rg.cap g0) 3 1 (Rg.s g0), Res.blk b1 64 (Rg.c g1), Res.row (Rg.A g1) (Rg.s g1).length (Rg.cap g1) 3 1 (Rg.s g1)] rfl (fun w1 hw1 ho1 => by have h7 := lall_any bl b0 b1 g0 g1 q sz (0) w1 ho1 h0 h1 s0 s1 (by omega); exact h7) rfl ?_)
      rintro ⟨A36, cap36⟩ _
      refine ⟨_, _, inferInstance, inferInstance, ?_⟩
      refine s_q (q_move rfl) rfl ?_
      refine g_op (g_pure rfl (fun w1 hw1 => equal_i A36 A0 _ _ _ _ ((allL (0) q)) ((q).f) w1 (Rdb.toOld (InRow.rdb (A := A36) (els := ((allL (0) q)).map (fun v : Int => [Value.int .i64 v])) (by first | rfl | assumption | (simp; done) | (simp_all; done) | (simp; omega) | (simp_all; omega)) (map_cat (c := (fun v : Int => [Value.int .i64 v])) (fun _ => rfl) _)) hw1) (Rdb.toOld (Rdb.ro (A := A0) (els := ((q).f).map (fun v : Int => [Value.int .i64 v])) (by first | rfl | (simp; done)) (map_cat (c := (fun v : Int => [Value.int .i64 v])) (fun _ => rfl) _)) hw1) (row_max (A := A36) hw1)) rfl ?_)
      refine s_q (q_not rfl) rfl ?_
      refine g_litb 39 (b := false) rfl (by simp [allL]) ?_
      refine s_q (q_move rfl) rfl ?_
      refine s_qg (q_move rfl) rfl rfl rfl ?_
      refine s_qg (q_move rfl) rfl rfl rfl ?_
      refine g_gt rfl rfl (g_keep [Res.blk bl 52 [Value.pointer (some ⟨b0, 0, none⟩), Value.pointer (some ⟨b1, 0, none⟩)], Res.blk b0 64 (Rg.c g0), Res.row (Rg.A g0) (Rg.s g0).length (Rg.cap g0) 3 1 (Rg.s g0), Res.blk b1 64 (Rg.c g1), Res.row (Rg.A g1) (Rg.s g1).length (Rg.cap g1) 3 1 (Rg.s g1)] rfl (fun w1 hw1 ho1 => by exact llen_any bl b0 b1 g0 g1 q sz (0) w1 ho1 h0 h1 s0 s1 (by omega)) rfl ?_)
      refine s_qg (q_move rfl) rfl rfl rfl ?_
      refine s_qg (q_len rfl) rfl rfl rfl ?_
      refine s_qg (q_neq rfl rfl) rfl rfl rfl ?_
      refine g_litb 46 (b := false) rfl (by simp [allL]) ?_
      refine s_q (q_pick_f rfl rfl) rfl ?_
      refine s_q (q_move rfl) rfl ?_
      refine s_qg (q_move rfl) rfl rfl rfl ?_
      refine s_qg (q_move rfl) rfl rfl rfl ?_
      refine g_gt rfl rfl (g_keep [Res.blk bl 52 [Value.pointer (some ⟨b0, 0, none⟩), Value.pointer (some ⟨b1, 0, none⟩)], Res.blk b0 64 (Rg.c g0), Res.row (Rg.A g0) (Rg.s g0).length (Rg.cap g0) 3 1 (Rg.s g0), Res.blk b1 64 (Rg.c g1), Res.row (Rg.A g1) (Rg.s g1).length (Rg.cap g1) 3 1 (Rg.s g1)] rfl (fun w1 hw1 ho1 => by exact lfree_any bl b0 b1 g0 g1 q sz (0) w1 ho1 h0 h1 s0 s1 (by omega)) rfl ?_)
      refine s_qg (q_move rfl) rfl rfl rfl ?_
      refine s_qg (q_neq rfl rfl) rfl rfl rfl ?_
      refine g_litb 53 (b := false) rfl (by simp [freeL]) ?_
      refine s_q (q_pick_f rfl rfl) rfl ?_
      refine s_q (q_move rfl) rfl ?_
      refine s_qg (q_move rfl) rfl rfl rfl ?_
      refine s_qg (q_move rfl) rfl rfl rfl ?_
      refine g_gt rfl rfl (g_ownS [Res.blk bl 52 [Value.pointer (some ⟨b0, 0, none⟩), Value.pointer (some ⟨b1, 0, none⟩)], Res.blk b0 64 (Rg.c g0), Res.row (Rg.A g0) (Rg.s g0).length (Rg.cap g0) 3 1 (Rg.s g0), Res.blk b1 64 (Rg.c g1), Res.row (Rg.A g1) (Rg.s g1).length (Rg.cap g1) 3 1 (Rg.s g1)] rfl (fun w1 hw1 ho1 => by have h7 := lahead_any bl b0 b1 g0 g1 q sz (0) w1 ho1 h0 h1 s0 s1 (by omega); exact h7) rfl ?_)
      rintro ⟨A58, cap58⟩ _
      refine ⟨_, _, inferInstance, inferInstance, ?_⟩
      refine s_qg (q_move rfl) rfl rfl rfl ?_
      refine s_qg (q_move rfl) rfl rfl rfl ?_
      refine g_gt rfl rfl (g_ownS [Res.blk wb 42 [Value.slice A0 (q).f.length c0, Value.slice A1 (q).v.length c1, Value.int .i64 ((sz : Nat) : Int)], Res.ro A0 (q).f.length 1 ((q).f.map (fun v : Int => [Value.int .i64 v])), Res.ro A1 (q).v.length 1 ((q).v.map (fun v : Int => [Value.int .i64 v]))] rfl (fun w1 hw1 ho1 => by have h7 := rahead_0 wb A0 A1 c0 c1 q sz w1 ho1 hc0 hc1 (by omega) hq; exact h7) rfl ?_)
      rintro ⟨A61, cap61⟩ _
      refine ⟨_, _, inferInstance, inferInstance, ?_⟩
      refine g_gt rfl rfl (g_pure rfl (fun w1 hw1 => equal_i A58 A61 _ _ _ _ ((aheadL (0) q)) ((aheadL (0) q)) w1 (Rdb.toOld (InRow.rdb (A := A58) (els := ((aheadL (0) q)).map (fun v : Int => [Value.int .i64 v])) (by first | rfl | assumption | (simp; done) | (simp_all; done) | (simp; omega) | (simp_all; omega)) (map_cat (c := (fun v : Int => [Value.int .i64 v])) (fun _ => rfl) _)) hw1) (Rdb.toOld (InRow.rdb (A := A61) (els := ((aheadL (0) q)).map (fun v : Int => [Value.int .i64 v])) (by first | rfl | assumption | (simp; done) | (simp_all; done) | (simp; omega) | (simp_all; omega)) (map_cat (c := (fun v : Int => [Value.int .i64 v])) (fun _ => rfl) _)) hw1) (row_max (A := A58) hw1)) rfl ?_)
      refine s_qg (q_not rfl) rfl rfl rfl ?_
      refine g_litb 63 (b := false) rfl (by simp) ?_
      refine s_q (q_pick_f rfl rfl) rfl ?_
      refine g_nil ?_
      refine g_then ?_
      refine g_false rfl ?_
      refine g_skip ?_
      refine g_blk_n ?_
      refine g_then ?_
      refine g_region ?_
      refine g_val 5 (v' := .int .i64 c) rfl (by rw [hcc]) ?_
      refine s_q (q_move rfl) rfl ?_
      refine s_q (q_addz (z := c + 1) rfl rfl (wi64 (by omega) (by omega))) rfl ?_
      refine s_q (q_assign rfl) rfl ?_
      refine g_nil ?_
      exact g_again (c + 1) (by (try dsimp only); exact ⟨(by omega), (by omega)⟩) (by first | omega | (simp only; omega)) (by repeat (first | exact trivial | refine ⟨rfl, ?_⟩)) wok_sub
    · refine g_val 5 (v' := .int .i64 1) rfl (by rw [hcc]) ?_
      refine g_region ?_
      refine s_q (q_move rfl) rfl ?_
      refine s_q (q_move rfl) rfl ?_
      refine g_op (g_keep [Res.blk wb 42 [Value.slice A0 (q).f.length c0, Value.slice A1 (q).v.length c1, Value.int .i64 ((sz : Nat) : Int)], Res.ro A0 (q).f.length 1 ((q).f.map (fun v : Int => [Value.int .i64 v])), Res.ro A1 (q).v.length 1 ((q).v.map (fun v : Int => [Value.int .i64 v]))] rfl (fun w1 hw1 ho1 => by exact rall_1 wb A0 A1 c0 c1 q sz w1 ho1 hc0 hc1 (by omega) hq) rfl ?_)
      refine s_q (q_assign rfl) rfl ?_
      refine g_nil ?_
      refine g_then ?_
      refine g_seq ?_
      refine g_region ?_
      refine s_q (q_assign rfl) rfl ?_
      refine g_nil ?_
      refine g_then ?_
      refine g_seq ?_
      refine g_seq ?_
      refine g_region ?_
      refine s_q (q_move rfl) rfl ?_
      refine s_q (q_eql rfl rfl) rfl ?_
      refine g_litb 22 (b := false) rfl (by decide) ?_
      refine s_q (q_move rfl) rfl ?_
      refine s_qg (q_move rfl) rfl rfl rfl ?_
      refine s_qg (q_eql rfl rfl) rfl rfl rfl ?_
      refine g_litb 25 (b := true) rfl (by decide) ?_
      refine s_q (q_pick_f rfl rfl) rfl ?_
      refine g_nil ?_
      refine g_then ?_
      refine g_true rfl ?_
      refine g_region ?_
      refine s_q (q_move rfl) rfl ?_
      refine s_q (q_nilck rfl) rfl ?_
      refine s_q (q_field rfl) rfl ?_
      refine s_q (q_load rfl rfl) rfl ?_
      refine s_q (q_move rfl) rfl ?_
      refine s_q (q_len rfl) rfl ?_
      refine s_q (q_subn (a := sz) (b := ((q).v).length) rfl rfl (by first | omega | (simp; omega) | (simp_all; omega)) (by first | omega | (simp; omega) | (simp_all; omega))) rfl ?_
      refine s_q (q_assign rfl) rfl ?_
      refine g_nil ?_
      refine g_then ?_
      refine g_seq ?_
      refine g_region ?_
      refine s_q (q_move rfl) rfl ?_
      refine s_q (q_move rfl) rfl ?_
      refine g_op (g_ownS [Res.blk bl 52 [Value.pointer (some ⟨b0, 0, none⟩), Value.pointer (some ⟨b1, 0, none⟩)], Res.blk b0 64 (Rg.c g0), Res.row (Rg.A g0) (Rg.s g0).length (Rg.cap g0) 3 1 (Rg.s g0), Res.blk b1 64 (Rg.c g1), Res.row (Rg.A g1) (Rg.s g1).length (Rg.cap g1) 3 1 (Rg.s g1)] rfl (fun w1 hw1 ho1 => by have h7 := lall_any bl b0 b1 g0 g1 q sz (1) w1 ho1 h0 h1 s0 s1 (by omega); exact h7) rfl ?_)
      rintro ⟨A36, cap36⟩ _
      refine ⟨_, _, inferInstance, inferInstance, ?_⟩
      refine s_q (q_move rfl) rfl ?_
      refine g_op (g_pure rfl (fun w1 hw1 => equal_i A36 A1 _ _ _ _ ((allL (1) q)) ((q).v) w1 (Rdb.toOld (InRow.rdb (A := A36) (els := ((allL (1) q)).map (fun v : Int => [Value.int .i64 v])) (by first | rfl | assumption | (simp; done) | (simp_all; done) | (simp; omega) | (simp_all; omega)) (map_cat (c := (fun v : Int => [Value.int .i64 v])) (fun _ => rfl) _)) hw1) (Rdb.toOld (Rdb.ro (A := A1) (els := ((q).v).map (fun v : Int => [Value.int .i64 v])) (by first | rfl | (simp; done)) (map_cat (c := (fun v : Int => [Value.int .i64 v])) (fun _ => rfl) _)) hw1) (row_max (A := A36) hw1)) rfl ?_)
      refine s_q (q_not rfl) rfl ?_
      refine g_litb 39 (b := false) rfl (by simp [allL]) ?_
      refine s_q (q_move rfl) rfl ?_
      refine s_qg (q_move rfl) rfl rfl rfl ?_
      refine s_qg (q_move rfl) rfl rfl rfl ?_
      refine g_gt rfl rfl (g_keep [Res.blk bl 52 [Value.pointer (some ⟨b0, 0, none⟩), Value.pointer (some ⟨b1, 0, none⟩)], Res.blk b0 64 (Rg.c g0), Res.row (Rg.A g0) (Rg.s g0).length (Rg.cap g0) 3 1 (Rg.s g0), Res.blk b1 64 (Rg.c g1), Res.row (Rg.A g1) (Rg.s g1).length (Rg.cap g1) 3 1 (Rg.s g1)] rfl (fun w1 hw1 ho1 => by exact llen_any bl b0 b1 g0 g1 q sz (1) w1 ho1 h0 h1 s0 s1 (by omega)) rfl ?_)
      refine s_qg (q_move rfl) rfl rfl rfl ?_
      refine s_qg (q_len rfl) rfl rfl rfl ?_
      refine s_qg (q_neq rfl rfl) rfl rfl rfl ?_
      refine g_litb 46 (b := false) rfl (by simp [allL]) ?_
      refine s_q (q_pick_f rfl rfl) rfl ?_
      refine s_q (q_move rfl) rfl ?_
      refine s_qg (q_move rfl) rfl rfl rfl ?_
      refine s_qg (q_move rfl) rfl rfl rfl ?_
      refine g_gt rfl rfl (g_keep [Res.blk bl 52 [Value.pointer (some ⟨b0, 0, none⟩), Value.pointer (some ⟨b1, 0, none⟩)], Res.blk b0 64 (Rg.c g0), Res.row (Rg.A g0) (Rg.s g0).length (Rg.cap g0) 3 1 (Rg.s g0), Res.blk b1 64 (Rg.c g1), Res.row (Rg.A g1) (Rg.s g1).length (Rg.cap g1) 3 1 (Rg.s g1)] rfl (fun w1 hw1 ho1 => by exact lfree_any bl b0 b1 g0 g1 q sz (1) w1 ho1 h0 h1 s0 s1 (by omega)) rfl ?_)
      refine s_qg (q_move rfl) rfl rfl rfl ?_
      refine s_qg (q_neq rfl rfl) rfl rfl rfl ?_
      refine g_litb 53 (b := false) rfl (by simp [freeL]) ?_
      refine s_q (q_pick_f rfl rfl) rfl ?_
      refine s_q (q_move rfl) rfl ?_
      refine s_qg (q_move rfl) rfl rfl rfl ?_
      refine s_qg (q_move rfl) rfl rfl rfl ?_
      refine g_gt rfl rfl (g_ownS [Res.blk bl 52 [Value.pointer (some ⟨b0, 0, none⟩), Value.pointer (some ⟨b1, 0, none⟩)], Res.blk b0 64 (Rg.c g0), Res.row (Rg.A g0) (Rg.s g0).length (Rg.cap g0) 3 1 (Rg.s g0), Res.blk b1 64 (Rg.c g1), Res.row (Rg.A g1) (Rg.s g1).length (Rg.cap g1) 3 1 (Rg.s g1)] rfl (fun w1 hw1 ho1 => by have h7 := lahead_any bl b0 b1 g0 g1 q sz (1) w1 ho1 h0 h1 s0 s1 (by omega); exact h7) rfl ?_)
      rintro ⟨A58, cap58⟩ _
      refine ⟨_, _, inferInstance, inferInstance, ?_⟩
      refine s_qg (q_move rfl) rfl rfl rfl ?_
      refine s_qg (q_move rfl) rfl rfl rfl ?_
      refine g_gt rfl rfl (g_ownS [Res.blk wb 42 [Value.slice A0 (q).f.length c0, Value.slice A1 (q).v.length c1, Value.int .i64 ((sz : Nat) : Int)], Res.ro A0 (q).f.length 1 ((q).f.map (fun v : Int => [Value.int .i64 v])), Res.ro A1 (q).v.length 1 ((q).v.map (fun v : Int => [Value.int .i64 v]))] rfl (fun w1 hw1 ho1 => by have h7 := rahead_1 wb A0 A1 c0 c1 q sz w1 ho1 hc0 hc1 (by omega) hq; exact h7) rfl ?_)
      rintro ⟨A61, cap61⟩ _
      refine ⟨_, _, inferInstance, inferInstance, ?_⟩
      refine g_gt rfl rfl (g_pure rfl (fun w1 hw1 => equal_i A58 A61 _ _ _ _ ((aheadL (1) q)) ((aheadL (1) q)) w1 (Rdb.toOld (InRow.rdb (A := A58) (els := ((aheadL (1) q)).map (fun v : Int => [Value.int .i64 v])) (by first | rfl | assumption | (simp; done) | (simp_all; done) | (simp; omega) | (simp_all; omega)) (map_cat (c := (fun v : Int => [Value.int .i64 v])) (fun _ => rfl) _)) hw1) (Rdb.toOld (InRow.rdb (A := A61) (els := ((aheadL (1) q)).map (fun v : Int => [Value.int .i64 v])) (by first | rfl | assumption | (simp; done) | (simp_all; done) | (simp; omega) | (simp_all; omega)) (map_cat (c := (fun v : Int => [Value.int .i64 v])) (fun _ => rfl) _)) hw1) (row_max (A := A58) hw1)) rfl ?_)
      refine s_qg (q_not rfl) rfl rfl rfl ?_
      refine g_litb 63 (b := false) rfl (by simp) ?_
      refine s_q (q_pick_f rfl rfl) rfl ?_
      refine g_nil ?_
      refine g_then ?_
      refine g_false rfl ?_
      refine g_skip ?_
      refine g_blk_n ?_
      refine g_then ?_
      refine g_region ?_
      refine g_val 5 (v' := .int .i64 c) rfl (by rw [hcc]) ?_
      refine s_q (q_move rfl) rfl ?_
      refine s_q (q_addz (z := c + 1) rfl rfl (wi64 (by omega) (by omega))) rfl ?_
      refine s_q (q_assign rfl) rfl ?_
      refine g_nil ?_
      exact g_again (c + 1) (by (try dsimp only); exact ⟨(by omega), (by omega)⟩) (by first | omega | (simp only; omega)) (by repeat (first | exact trivial | refine ⟨rfl, ?_⟩)) wok_sub
    · refine g_val 5 (v' := .int .i64 2) rfl (by rw [hcc]) ?_
      refine g_region ?_
      refine s_q (q_move rfl) rfl ?_
      refine s_q (q_move rfl) rfl ?_
      refine g_op (g_keep [Res.blk wb 42 [Value.slice A0 (q).f.length c0, Value.slice A1 (q).v.length c1, Value.int .i64 ((sz : Nat) : Int)], Res.ro A0 (q).f.length 1 ((q).f.map (fun v : Int => [Value.int .i64 v])), Res.ro A1 (q).v.length 1 ((q).v.map (fun v : Int => [Value.int .i64 v]))] rfl (fun w1 hw1 ho1 => by exact rall_b wb A0 A1 c0 c1 q sz 2 w1 ho1 hc0 hc1 (by omega) hq ⟨by decide, by decide⟩) rfl ?_)
      refine s_q (q_assign rfl) rfl ?_
      refine g_nil ?_
      refine g_then ?_
      refine g_seq ?_
      refine g_region ?_
      refine s_q (q_assign rfl) rfl ?_
      refine g_nil ?_
      refine g_then ?_
      refine g_seq ?_
      refine g_seq ?_
      refine g_region ?_
      refine s_q (q_move rfl) rfl ?_
      refine s_q (q_eql rfl rfl) rfl ?_
      refine g_litb 22 (b := false) rfl (by decide) ?_
      refine s_q (q_move rfl) rfl ?_
      refine s_qg (q_move rfl) rfl rfl rfl ?_
      refine s_qg (q_eql rfl rfl) rfl rfl rfl ?_
      refine g_litb 25 (b := false) rfl (by decide) ?_
      refine s_q (q_pick_f rfl rfl) rfl ?_
      refine g_nil ?_
      refine g_then ?_
      refine g_false rfl ?_
      refine g_skip ?_
      refine g_then ?_
      refine g_seq ?_
      refine g_region ?_
      refine s_q (q_move rfl) rfl ?_
      refine s_q (q_move rfl) rfl ?_
      refine g_op (g_ownS [Res.blk bl 52 [Value.pointer (some ⟨b0, 0, none⟩), Value.pointer (some ⟨b1, 0, none⟩)], Res.blk b0 64 (Rg.c g0), Res.row (Rg.A g0) (Rg.s g0).length (Rg.cap g0) 3 1 (Rg.s g0), Res.blk b1 64 (Rg.c g1), Res.row (Rg.A g1) (Rg.s g1).length (Rg.cap g1) 3 1 (Rg.s g1)] rfl (fun w1 hw1 ho1 => by have h7 := lall_any bl b0 b1 g0 g1 q sz (2) w1 ho1 h0 h1 s0 s1 (by omega); exact h7) rfl ?_)
      rintro ⟨A36, cap36⟩ _
      refine ⟨_, _, inferInstance, inferInstance, ?_⟩
      refine s_q (q_move rfl) rfl ?_
      refine g_op (g_pure rfl (fun w1 hw1 => equal_i A36 none _ _ _ _ ((allL (2) q)) (([] : List Int)) w1 (Rdb.toOld (InRow.rdb (A := A36) (els := ((allL (2) q)).map (fun v : Int => [Value.int .i64 v])) (by first | rfl | assumption | (simp; done) | (simp_all; done) | (simp; omega) | (simp_all; omega)) (map_cat (c := (fun v : Int => [Value.int .i64 v])) (fun _ => rfl) _)) hw1) (Rdb.toOld (Rdb.nil) hw1) (row_max (A := A36) hw1)) rfl ?_)
      refine s_q (q_not rfl) rfl ?_
      refine g_litb 39 (b := false) rfl (by simp [allL]) ?_
      refine s_q (q_move rfl) rfl ?_
      refine s_qg (q_move rfl) rfl rfl rfl ?_
      refine s_qg (q_move rfl) rfl rfl rfl ?_
      refine g_gt rfl rfl (g_keep [Res.blk bl 52 [Value.pointer (some ⟨b0, 0, none⟩), Value.pointer (some ⟨b1, 0, none⟩)], Res.blk b0 64 (Rg.c g0), Res.row (Rg.A g0) (Rg.s g0).length (Rg.cap g0) 3 1 (Rg.s g0), Res.blk b1 64 (Rg.c g1), Res.row (Rg.A g1) (Rg.s g1).length (Rg.cap g1) 3 1 (Rg.s g1)] rfl (fun w1 hw1 ho1 => by exact llen_any bl b0 b1 g0 g1 q sz (2) w1 ho1 h0 h1 s0 s1 (by omega)) rfl ?_)
      refine s_qg (q_move rfl) rfl rfl rfl ?_
      refine s_qg (q_len rfl) rfl rfl rfl ?_
      refine s_qg (q_neq rfl rfl) rfl rfl rfl ?_
      refine g_litb 46 (b := false) rfl (by simp [allL]) ?_
      refine s_q (q_pick_f rfl rfl) rfl ?_
      refine s_q (q_move rfl) rfl ?_
      refine s_qg (q_move rfl) rfl rfl rfl ?_
      refine s_qg (q_move rfl) rfl rfl rfl ?_
      refine g_gt rfl rfl (g_keep [Res.blk bl 52 [Value.pointer (some ⟨b0, 0, none⟩), Value.pointer (some ⟨b1, 0, none⟩)], Res.blk b0 64 (Rg.c g0), Res.row (Rg.A g0) (Rg.s g0).length (Rg.cap g0) 3 1 (Rg.s g0), Res.blk b1 64 (Rg.c g1), Res.row (Rg.A g1) (Rg.s g1).length (Rg.cap g1) 3 1 (Rg.s g1)] rfl (fun w1 hw1 ho1 => by exact lfree_any bl b0 b1 g0 g1 q sz (2) w1 ho1 h0 h1 s0 s1 (by omega)) rfl ?_)
      refine s_qg (q_move rfl) rfl rfl rfl ?_
      refine s_qg (q_neq rfl rfl) rfl rfl rfl ?_
      refine g_litb 53 (b := false) rfl (by simp [freeL]) ?_
      refine s_q (q_pick_f rfl rfl) rfl ?_
      refine s_q (q_move rfl) rfl ?_
      refine s_qg (q_move rfl) rfl rfl rfl ?_
      refine s_qg (q_move rfl) rfl rfl rfl ?_
      refine g_gt rfl rfl (g_ownS [Res.blk bl 52 [Value.pointer (some ⟨b0, 0, none⟩), Value.pointer (some ⟨b1, 0, none⟩)], Res.blk b0 64 (Rg.c g0), Res.row (Rg.A g0) (Rg.s g0).length (Rg.cap g0) 3 1 (Rg.s g0), Res.blk b1 64 (Rg.c g1), Res.row (Rg.A g1) (Rg.s g1).length (Rg.cap g1) 3 1 (Rg.s g1)] rfl (fun w1 hw1 ho1 => by have h7 := lahead_any bl b0 b1 g0 g1 q sz (2) w1 ho1 h0 h1 s0 s1 (by omega); exact h7) rfl ?_)
      rintro ⟨A58, cap58⟩ _
      refine ⟨_, _, inferInstance, inferInstance, ?_⟩
      refine s_qg (q_move rfl) rfl rfl rfl ?_
      refine s_qg (q_move rfl) rfl rfl rfl ?_
      refine g_gt rfl rfl (g_ownS [Res.blk wb 42 [Value.slice A0 (q).f.length c0, Value.slice A1 (q).v.length c1, Value.int .i64 ((sz : Nat) : Int)], Res.ro A0 (q).f.length 1 ((q).f.map (fun v : Int => [Value.int .i64 v])), Res.ro A1 (q).v.length 1 ((q).v.map (fun v : Int => [Value.int .i64 v]))] rfl (fun w1 hw1 ho1 => by have h7 := rahead_b wb A0 A1 c0 c1 q sz 2 w1 ho1 hc0 hc1 (by omega) hq ⟨by decide, by decide⟩; exact h7) rfl ?_)
      rintro ⟨A61, cap61⟩ _
      refine ⟨_, _, inferInstance, inferInstance, ?_⟩
      refine g_gt rfl rfl (g_pure rfl (fun w1 hw1 => equal_i A58 A61 _ _ _ _ ((aheadL (2) q)) ((aheadL (2) q)) w1 (Rdb.toOld (InRow.rdb (A := A58) (els := ((aheadL (2) q)).map (fun v : Int => [Value.int .i64 v])) (by first | rfl | assumption | (simp; done) | (simp_all; done) | (simp; omega) | (simp_all; omega)) (map_cat (c := (fun v : Int => [Value.int .i64 v])) (fun _ => rfl) _)) hw1) (Rdb.toOld (InRow.rdb (A := A61) (els := ((aheadL (2) q)).map (fun v : Int => [Value.int .i64 v])) (by first | rfl | assumption | (simp; done) | (simp_all; done) | (simp; omega) | (simp_all; omega)) (map_cat (c := (fun v : Int => [Value.int .i64 v])) (fun _ => rfl) _)) hw1) (row_max (A := A58) hw1)) rfl ?_)
      refine s_qg (q_not rfl) rfl rfl rfl ?_
      refine g_litb 63 (b := false) rfl (by simp) ?_
      refine s_q (q_pick_f rfl rfl) rfl ?_
      refine g_nil ?_
      refine g_then ?_
      refine g_false rfl ?_
      refine g_skip ?_
      refine g_blk_n ?_
      refine g_then ?_
      refine g_region ?_
      refine g_val 5 (v' := .int .i64 c) rfl (by rw [hcc]) ?_
      refine s_q (q_move rfl) rfl ?_
      refine s_q (q_addz (z := c + 1) rfl rfl (wi64 (by omega) (by omega))) rfl ?_
      refine s_q (q_assign rfl) rfl ?_
      refine g_nil ?_
      exact g_again (c + 1) (by (try dsimp only); exact ⟨(by omega), (by omega)⟩) (by first | omega | (simp only; omega)) (by repeat (first | exact trivial | refine ⟨rfl, ?_⟩)) wok_sub
  · refine g_exit ?_
    refine g_then_x (g_then_x (g_blk_hit ?_))
    refine g_then ?_
    refine g_seq ?_
    refine g_region ?_
    refine s_q (q_move rfl) rfl ?_
    refine g_op (g_keep [Res.blk bl 52 [Value.pointer (some ⟨b0, 0, none⟩), Value.pointer (some ⟨b1, 0, none⟩)], Res.blk b0 64 (Rg.c g0), Res.row (Rg.A g0) (Rg.s g0).length (Rg.cap g0) 3 1 (Rg.s g0), Res.blk b1 64 (Rg.c g1), Res.row (Rg.A g1) (Rg.s g1).length (Rg.cap g1) 3 1 (Rg.s g1)] rfl (fun w1 hw1 ho1 => by exact head_any bl b0 b1 g0 g1 q sz w1 ho1 h0 h1 s0 s1 (by omega)) rfl ?_)
    refine s_q (q_move rfl) rfl ?_
    refine s_q (q_extract rfl rfl) rfl ?_
    refine s_q (q_extract rfl rfl) rfl ?_
    refine s_q (q_extract rfl rfl) rfl ?_
    refine s_q (q_assign rfl) rfl ?_
    refine s_q (q_assign rfl) rfl ?_
    refine s_q (q_assign rfl) rfl ?_
    refine g_nil ?_
    refine g_then ?_
    refine g_seq ?_
    refine g_region ?_
    refine s_q (q_move rfl) rfl ?_
    refine g_op (g_keep [Res.blk wb 42 [Value.slice A0 (q).f.length c0, Value.slice A1 (q).v.length c1, Value.int .i64 ((sz : Nat) : Int)], Res.ro A0 (q).f.length 1 ((q).f.map (fun v : Int => [Value.int .i64 v])), Res.ro A1 (q).v.length 1 ((q).v.map (fun v : Int => [Value.int .i64 v]))] rfl (fun w1 hw1 ho1 => by exact rhead_any wb A0 A1 c0 c1 q sz w1 ho1 hc0 hc1 (by omega) hq) rfl ?_)
    refine s_q (q_move rfl) rfl ?_
    refine s_q (q_extract rfl rfl) rfl ?_
    refine s_q (q_extract rfl rfl) rfl ?_
    refine s_q (q_extract rfl rfl) rfl ?_
    refine s_q (q_assign rfl) rfl ?_
    refine s_q (q_assign rfl) rfl ?_
    refine s_q (q_assign rfl) rfl ?_
    refine g_nil ?_
    refine g_then ?_
    refine g_seq ?_
    refine g_region ?_
    refine s_q (q_move rfl) rfl ?_
    refine s_q (q_move rfl) rfl ?_
    refine s_q (q_eql rfl rfl) rfl ?_
    refine g_litb 79 (b := true) rfl (by simp) ?_
    refine s_q (q_move rfl) rfl ?_
    refine s_qg (q_move rfl) rfl rfl rfl ?_
    refine s_qg (q_move rfl) rfl rfl rfl ?_
    refine s_qg (q_eql rfl rfl) rfl rfl rfl ?_
    refine g_litb 83 (b := true) rfl (by simp) ?_
    refine s_q (q_pick_t rfl rfl) rfl ?_
    refine s_q (q_move rfl) rfl ?_
    refine s_qg (q_move rfl) rfl rfl rfl ?_
    refine s_qg (q_move rfl) rfl rfl rfl ?_
    refine s_qg (q_eql_bool (by kernel_rfl) rfl rfl) rfl rfl rfl ?_
    refine g_litb 88 (b := true) rfl (by simp) ?_
    refine s_q (q_pick_t rfl rfl) rfl ?_
    refine s_q (q_assign rfl) rfl ?_
    refine g_nil ?_
    refine g_then ?_
    refine g_ret ?_
    exact fin1 rfl (.tmp rfl) (fun w' hw' => ⟨(), trivial, by first | rfl | (simp_all; done), by have h9 := wok_sub (L' := [Res.blk bl 52 [Value.pointer (some ⟨b0, 0, none⟩), Value.pointer (some ⟨b1, 0, none⟩)], Res.blk b0 64 (Rg.c g0), Res.row (Rg.A g0) (Rg.s g0).length (Rg.cap g0) 3 1 (Rg.s g0), Res.blk b1 64 (Rg.c g1), Res.row (Rg.A g1) (Rg.s g1).length (Rg.cap g1) 3 1 (Rg.s g1), Res.blk wb 42 [Value.slice A0 (q).f.length c0, Value.slice A1 (q).v.length c1, Value.int .i64 ((sz : Nat) : Int)], Res.ro A0 (q).f.length 1 ((q).f.map (fun v : Int => [Value.int .i64 v])), Res.ro A1 (q).v.length 1 ((q).v.map (fun v : Int => [Value.int .i64 v]))]) w' hw'; exact h9⟩) _ (.inl rfl)
end Go.Proofs.Ytdkedinnijobiaa
