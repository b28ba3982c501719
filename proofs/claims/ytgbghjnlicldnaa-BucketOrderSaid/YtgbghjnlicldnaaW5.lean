/- one operation -/
import Derived.Test.YtgbghjnlicldnaaW4
namespace Go.Proofs.Ytgbghjnlicldnaa
open Go.RowKit Go.Eg
set_option synthInstance.maxSize 3000
set_option linter.unusedSimpArgs false
set_option linter.unusedVariables false
set_option maxRecDepth 100000
def stepE (es : List En) (o : Op) : List En := if o.due = true then keepE o.e es else putE es o.e o.i
theorem putE_len (es : List En) (e i : Int) : (putE es e i).length ≤ es.length + 1 := by unfold putE; split <;> simp
theorem stepE_len (es : List En) (o : Op) : (stepE es o).length ≤ es.length + 1 := by
  unfold stepE
  split
  · have := keepE_le o.e es; omega
  · exact putE_len _ _ _
def esF (ops : List Op) : List En := ops.foldl stepE []
theorem esF_succ {ops : List Op} {k : Nat} (hk : k < ops.length) : esF (ops.take (k + 1)) = stepE (esF (ops.take k)) ops[k] := by
  unfold esF
  rw [← List.take_append_getElem hk, List.foldl_append]; rfl
theorem esF_len (ops : List Op) : ∀ k, (esF (ops.take k)).length ≤ k
  | 0 => by simp [esF]
  | k + 1 => by
    by_cases hk : k < ops.length
    · rw [esF_succ hk]
      have h1 := stepE_len (esF (ops.take k)) ops[k]
      have h2 := esF_len ops k
      omega
    · have h2 := esF_len ops k
      have e : ops.take (k + 1) = ops.take k := by rw [List.take_of_length_le (by omega), List.take_of_length_le (by omega)]
      rw [e]; omega

set_option maxHeartbeats 400000 in
theorem alive_any  (w : World)  : Pur Try.prog 10 [] w (.bool true) := by
  refine g_start Try.func10 rfl 47 rfl (by simp) ([]) [] (WOK.start _ _) _ rfl ?_
  refine g_seq ?_
  refine g_region ?_
  refine s_q (q_assign rfl) rfl ?_
  refine g_nil ?_
  refine g_then ?_
  refine g_seq ?_
  refine g_region ?_
  refine g_op (g_ownS [] rfl (fun w1 hw1 ho1 => by have h7 := bnew_any (4) w1 (by omega); exact h7) rfl ?_)
  rintro ⟨b6, g6⟩ ⟨r6, s6⟩
  refine ⟨_, _, inferInstance, inferInstance, ?_⟩
  simp only at r6 s6
  refine s_q (q_assign rfl) rfl ?_
  refine g_nil ?_
  refine g_then ?_
  refine g_seq ?_
  refine g_seq ?_
  refine g_region ?_
  refine s_q (q_move rfl) rfl ?_
  refine s_q (q_eqp (b := false) rfl rfl rfl) rfl ?_
  refine s_q (q_move rfl) rfl ?_
  refine s_qg (q_move rfl) rfl rfl rfl ?_
  refine g_gt rfl rfl (g_ownS [Res.blk b6 57 [Value.slice (BR.A g6) (BR.bs g6).length (BR.cap g6), Value.int .i64 (BR.n g6)], Res.row (BR.A g6) (BR.bs g6).length (BR.cap g6) 47 1 ((BR.bs g6).map (fun k : Bk En => [k.v])), bks 50 2 En.c (BR.bs g6)] rfl (fun w1 hw1 ho1 => by have h7 := bput_any b6 g6 ([] : List En) (2) (7) w1 ho1 r6 (by decide); exact h7) rfl ?_)
  rintro g11 ⟨r11, s11⟩
  refine ⟨_, _, inferInstance, inferInstance, ?_⟩
  refine s_qg (q_not rfl) rfl rfl rfl ?_
  refine g_litb 12 (b := false) rfl (by decide) ?_
  refine s_q (q_pick_f rfl rfl) rfl ?_
  refine s_q (q_move rfl) rfl ?_
  refine s_qg (q_move rfl) rfl rfl rfl ?_
  refine g_gt rfl rfl (g_ownS [Res.blk b6 57 [Value.slice (BR.A g11) (BR.bs g11).length (BR.cap g11), Value.int .i64 (BR.n g11)], Res.row (BR.A g11) (BR.bs g11).length (BR.cap g11) 47 1 ((BR.bs g11).map (fun k : Bk En => [k.v])), bks 50 2 En.c (BR.bs g11)] rfl (fun w1 hw1 ho1 => by have h7 := bput_any b6 g11 (putE ([] : List En) 2 7) (6) (8) w1 ho1 r11 (by decide); exact h7) rfl ?_)
  rintro g16 ⟨r16, s16⟩
  refine ⟨_, _, inferInstance, inferInstance, ?_⟩
  refine s_qg (q_not rfl) rfl rfl rfl ?_
  refine g_litb 17 (b := false) rfl (by decide) ?_
  refine s_q (q_pick_f rfl rfl) rfl ?_
  refine g_nil ?_
  refine g_then ?_
  refine g_false rfl ?_
  refine g_skip ?_
  refine g_then ?_
  refine g_seq ?_
  refine g_region ?_
  refine s_q (q_move rfl) rfl ?_
  refine g_op (g_keep [Res.blk b6 57 [Value.slice (BR.A g16) (BR.bs g16).length (BR.cap g16), Value.int .i64 (BR.n g16)], Res.row (BR.A g16) (BR.bs g16).length (BR.cap g16) 47 1 ((BR.bs g16).map (fun k : Bk En => [k.v])), bks 50 2 En.c (BR.bs g16)] rfl (fun w1 hw1 ho1 => by exact bload_any b6 g16 (putE (putE ([] : List En) 2 7) 6 8) (2) w1 ho1 r16) rfl ?_)
  refine s_q (q_assign rfl) rfl ?_
  refine g_nil ?_
  refine g_then ?_
  refine g_seq ?_
  refine g_region ?_
  refine s_q (q_move rfl) rfl ?_
  refine g_op (g_ownS [Res.blk b6 57 [Value.slice (BR.A g16) (BR.bs g16).length (BR.cap g16), Value.int .i64 (BR.n g16)], Res.row (BR.A g16) (BR.bs g16).length (BR.cap g16) 47 1 ((BR.bs g16).map (fun k : Bk En => [k.v])), bks 50 2 En.c (BR.bs g16)] rfl (fun w1 hw1 ho1 => by have h7 := bdue_any b6 g16 (putE (putE ([] : List En) 2 7) 6 8) (2) w1 ho1 r16 (by decide); exact h7) rfl ?_)
  rintro ⟨A22, cap22, g22⟩ ⟨r22, s22⟩
  refine ⟨_, _, inferInstance, inferInstance, ?_⟩
  simp only at r22 s22
  refine s_q (q_assign rfl) rfl ?_
  refine g_nil ?_
  refine g_then ?_
  refine g_seq ?_
  refine g_region ?_
  refine s_q (q_move rfl) rfl ?_
  refine g_op (g_keep [Res.blk b6 57 [Value.slice (BR.A g22) (BR.bs g22).length (BR.cap g22), Value.int .i64 (BR.n g22)], Res.row (BR.A g22) (BR.bs g22).length (BR.cap g22) 47 1 ((BR.bs g22).map (fun k : Bk En => [k.v])), bks 50 2 En.c (BR.bs g22)] rfl (fun w1 hw1 ho1 => by exact bnext_any b6 g22 (keepE 2 (putE (putE ([] : List En) 2 7) 6 8)) w1 ho1 r22 (by decide)) rfl ?_)
  refine s_q (q_move rfl) rfl ?_
  refine s_q (q_extract rfl rfl) rfl ?_
  refine s_q (q_extract rfl rfl) rfl ?_
  refine s_q (q_assign rfl) rfl ?_
  refine s_q (q_assign rfl) rfl ?_
  refine g_nil ?_
  refine g_then ?_
  refine g_seq ?_
  refine g_region ?_
  refine s_q (q_move rfl) rfl ?_
  refine s_q (q_eql rfl rfl) rfl ?_
  refine g_litb 29 (b := true) rfl (by rw [s16, s11, s6]; decide) ?_
  refine s_q (q_move rfl) rfl ?_
  refine s_qg (q_move rfl) rfl rfl rfl ?_
  refine g_gt rfl rfl (g_lit rfl rfl rfl rfl rfl fun b32 => ?_)
  refine g_blkc (b := b32) ((([7] : List Int).map (fun v : Int => [Value.int .i64 v])).flatten) rfl ?_
  refine g_gt rfl rfl (g_pure rfl (fun w1 hw1 => equal_i A22 (some ⟨b32, 0, none⟩) _ _ _ _ ((dueO 2 (putE (putE ([] : List En) 2 7) 6 8))) (([7] : List Int)) w1 (Rdb.toOld (InRow.rdb (A := A22) (els := ((dueO 2 (putE (putE ([] : List En) 2 7) 6 8))).map (fun v : Int => [Value.int .i64 v])) (by first | rfl | assumption | (simp; done) | (simp_all; done) | (simp; omega) | (simp_all; omega)) (map_cat (c := (fun v : Int => [Value.int .i64 v])) (fun _ => rfl) _)) hw1) (Rdb.toOld (InL.rdb (b := b32) (els := (([7] : List Int).map (fun v : Int => [Value.int .i64 v]))) rfl (by simp) rfl) hw1) (row_max (A := A22) hw1)) rfl ?_)
  refine g_litb 33 (b := true) rfl (by decide) ?_
  refine s_q (q_pick_t rfl rfl) rfl ?_
  refine s_q (q_move rfl) rfl ?_
  refine s_qg (q_move rfl) rfl rfl rfl ?_
  refine g_gt rfl rfl (g_keep [Res.blk b6 57 [Value.slice (BR.A g22) (BR.bs g22).length (BR.cap g22), Value.int .i64 (BR.n g22)], Res.row (BR.A g22) (BR.bs g22).length (BR.cap g22) 47 1 ((BR.bs g22).map (fun k : Bk En => [k.v])), bks 50 2 En.c (BR.bs g22)] rfl (fun w1 hw1 ho1 => by exact blen_any b6 g22 (keepE 2 (putE (putE ([] : List En) 2 7) 6 8)) w1 ho1 r22) rfl ?_)
  refine s_qg (q_eql rfl rfl) rfl rfl rfl ?_
  refine g_litb 38 (b := true) rfl (by decide) ?_
  refine s_q (q_pick_t rfl rfl) rfl ?_
  refine s_q (q_move rfl) rfl ?_
  refine s_qg (q_move rfl) rfl rfl rfl ?_
  refine s_qg (q_eql rfl rfl) rfl rfl rfl ?_
  refine g_litb 42 (b := true) rfl (by decide) ?_
  refine s_q (q_pick_t rfl rfl) rfl ?_
  refine s_q (q_move rfl) rfl ?_
  refine s_qg (q_move rfl) rfl rfl rfl ?_
  refine g_litb 45 (b := true) rfl (by decide) ?_
  refine s_q (q_pick_t rfl rfl) rfl ?_
  refine s_q (q_assign rfl) rfl ?_
  refine g_nil ?_
  refine g_then ?_
  refine g_ret ?_
  exact fin1 rfl (.tmp rfl) (fun w' hw' => ⟨by rfl, hw'.upd⟩) _ (.inl rfl)

set_option maxHeartbeats 400000 in
theorem do_any (b : Nat) (g : BR) (wb : Nat) (A0 : Option Addr) (c0 : Nat) (A1 : Option Addr) (c1 : Nat) (es : List En) (y : Op) (w : World) (hw : WOK (fps [Res.blk b 57 [Value.slice (BR.A g) (BR.bs g).length (BR.cap g), Value.int .i64 (BR.n g)], Res.row (BR.A g) (BR.bs g).length (BR.cap g) 47 1 ((BR.bs g).map (fun k : Bk En => [k.v])), bks 50 2 En.c (BR.bs g), Res.blk wb 29 [Value.slice A0 (es.map En.e).length c0, Value.slice A1 (es.map En.i).length c1], Res.row A0 (es.map En.e).length c0 3 1 ((es.map En.e).map (fun v : Int => [Value.int .i64 v])), Res.row A1 (es.map En.i).length c1 3 1 ((es.map En.i).map (fun v : Int => [Value.int .i64 v]))]) w [Res.blk b 57 [Value.slice (BR.A g) (BR.bs g).length (BR.cap g), Value.int .i64 (BR.n g)], Res.row (BR.A g) (BR.bs g).length (BR.cap g) 47 1 ((BR.bs g).map (fun k : Bk En => [k.v])), bks 50 2 En.c (BR.bs g), Res.blk wb 29 [Value.slice A0 (es.map En.e).length c0, Value.slice A1 (es.map En.i).length c1], Res.row A0 (es.map En.e).length c0 3 1 ((es.map En.e).map (fun v : Int => [Value.int .i64 v])), Res.row A1 (es.map En.i).length c1 3 1 ((es.map En.i).map (fun v : Int => [Value.int .i64 v]))] w) (h : g.Rep es) (hnE : es.length ≤ 1000000) : Own2 (ι := (BR × Option Addr × Nat × Option Addr × Nat)) Try.prog 11 [.pointer (some ⟨b, 0, none⟩), .pointer (some ⟨wb, 0, none⟩), .agg y.c.toArray] w [Res.blk b 57 [Value.slice (BR.A g) (BR.bs g).length (BR.cap g), Value.int .i64 (BR.n g)], Res.row (BR.A g) (BR.bs g).length (BR.cap g) 47 1 ((BR.bs g).map (fun k : Bk En => [k.v])), bks 50 2 En.c (BR.bs g), Res.blk wb 29 [Value.slice A0 (es.map En.e).length c0, Value.slice A1 (es.map En.i).length c1], Res.row A0 (es.map En.e).length c0 3 1 ((es.map En.e).map (fun v : Int => [Value.int .i64 v])), Res.row A1 (es.map En.i).length c1 3 1 ((es.map En.i).map (fun v : Int => [Value.int .i64 v]))] (fun x => x.1.Rep (stepE es y) ∧ x.1.bs.length = g.bs.length) (fun x => .bool true) (fun x => []) (fun x => [Res.blk b 57 [Value.slice (BR.A x.1) (BR.bs x.1).length (BR.cap x.1), Value.int .i64 (BR.n x.1)], Res.row (BR.A x.1) (BR.bs x.1).length (BR.cap x.1) 47 1 ((BR.bs x.1).map (fun k : Bk En => [k.v])), bks 50 2 En.c (BR.bs x.1), Res.blk wb 29 [Value.slice x.2.1 ((stepE es y).map En.e).length x.2.2.1, Value.slice x.2.2.2.1 ((stepE es y).map En.i).length x.2.2.2.2], Res.row x.2.1 ((stepE es y).map En.e).length x.2.2.1 3 1 (((stepE es y).map En.e).map (fun v : Int => [Value.int .i64 v])), Res.row x.2.2.2.1 ((stepE es y).map En.i).length x.2.2.2.2 3 1 (((stepE es y).map En.i).map (fun v : Int => [Value.int .i64 v]))]) := by
  refine g_start Try.func11 rfl 31 rfl (by simp) (fps [Res.blk b 57 [Value.slice (BR.A g) (BR.bs g).length (BR.cap g), Value.int .i64 (BR.n g)], Res.row (BR.A g) (BR.bs g).length (BR.cap g) 47 1 ((BR.bs g).map (fun k : Bk En => [k.v])), bks 50 2 En.c (BR.bs g), Res.blk wb 29 [Value.slice A0 (es.map En.e).length c0, Value.slice A1 (es.map En.i).length c1], Res.row A0 (es.map En.e).length c0 3 1 ((es.map En.e).map (fun v : Int => [Value.int .i64 v])), Res.row A1 (es.map En.i).length c1 3 1 ((es.map En.i).map (fun v : Int => [Value.int .i64 v]))]) [Res.blk b 57 [Value.slice (BR.A g) (BR.bs g).length (BR.cap g), Value.int .i64 (BR.n g)], Res.row (BR.A g) (BR.bs g).length (BR.cap g) 47 1 ((BR.bs g).map (fun k : Bk En => [k.v])), bks 50 2 En.c (BR.bs g), Res.blk wb 29 [Value.slice A0 (es.map En.e).length c0, Value.slice A1 (es.map En.i).length c1], Res.row A0 (es.map En.e).length c0 3 1 ((es.map En.e).map (fun v : Int => [Value.int .i64 v])), Res.row A1 (es.map En.i).length c1 3 1 ((es.map En.i).map (fun v : Int => [Value.int .i64 v]))] hw _ rfl ?_
  refine g_seq ?_
  refine g_region ?_
  refine g_op (g_box rfl rfl rfl fun b5 => ?_)
  refine s_q (q_assign rfl) rfl ?_
  refine g_nil ?_
  refine g_then ?_
  refine g_seq ?_
  refine g_seq ?_
  refine g_region ?_
  refine s_q (q_field rfl) rfl ?_
  refine s_q (q_load rfl rfl) rfl ?_
  refine g_nil ?_
  refine g_then ?_
  refine g_cond rfl (fun h1 => ?_) (fun h1 => ?_)
  · have hd : y.due = true := h1
    refine g_seq ?_
    refine d_regionL (L0 := [Res.blk b5 31 y.c]) [] mixed rfl rfl wok_sub ?_
    refine d_q 0 rfl (by kernel_rfl) (q_move rfl) wok_sub rfl (ls' := #[true, false, false, false, false, false, false, false, false, false]) rfl ?_
    refine d_q 1 rfl (by kernel_rfl) (q_field rfl) wok_sub rfl (ls' := #[true, true, false, false, false, false, false, false, false, false]) rfl ?_
    refine d_q 2 rfl (by kernel_rfl) (q_load rfl rfl) wok_sub rfl (ls' := #[true, true, true, false, false, false, false, false, false, false]) rfl ?_
    refine d_q 4 rfl (by kernel_rfl) (q_move rfl) wok_sub rfl (ls' := #[true, true, true, false, true, false, false, false, false, false]) rfl ?_
    refine d_q 5 rfl (by kernel_rfl) (q_field rfl) wok_sub rfl (ls' := #[true, true, true, false, true, true, false, false, false, false]) rfl ?_
    refine d_q 6 rfl (by kernel_rfl) (q_load rfl rfl) wok_sub rfl (ls' := #[true, true, true, false, true, true, true, false, false, false]) rfl ?_
    refine d_op 3 rfl (by kernel_rfl) (ls' := #[true, true, true, true, true, true, true, false, false, false]) rfl wok_sub (g_ownS [Res.blk b 57 [Value.slice (BR.A g) (BR.bs g).length (BR.cap g), Value.int .i64 (BR.n g)], Res.row (BR.A g) (BR.bs g).length (BR.cap g) 47 1 ((BR.bs g).map (fun k : Bk En => [k.v])), bks 50 2 En.c (BR.bs g)] rfl (fun w1 hw1 ho1 => by have h7 := bdue_any b g es ((y).e) w1 ho1 h hnE; exact h7) rfl ?_)
    rintro ⟨A12, cap12, g12⟩ ⟨r12, s12⟩
    refine ⟨_, _, inferInstance, inferInstance, ?_⟩
    simp only at r12 s12
    refine d_op 7 rfl (by kernel_rfl) (ls' := #[true, true, true, true, true, true, true, true, false, false]) rfl wok_sub (g_ownS [Res.blk wb 29 [Value.slice A0 (es.map En.e).length c0, Value.slice A1 (es.map En.i).length c1], Res.row A0 (es.map En.e).length c0 3 1 ((es.map En.e).map (fun v : Int => [Value.int .i64 v])), Res.row A1 (es.map En.i).length c1 3 1 ((es.map En.i).map (fun v : Int => [Value.int .i64 v]))] rfl (fun w1 hw1 ho1 => by have h7 := rdue_any wb A0 c0 A1 c1 es ((y).e) w1 ho1 hnE; exact h7) rfl ?_)
    rintro ⟨O16, oc16, A16, c16, B16, d16⟩ _
    refine ⟨_, _, inferInstance, inferInstance, ?_⟩
    refine d_op 8 rfl (by kernel_rfl) (ls' := #[true, true, true, true, true, true, true, true, true, false]) rfl wok_sub (g_pure rfl (fun w1 hw1 => equal_i A12 O16 _ _ _ _ ((dueO (y).e es)) ((dueO (y).e es)) w1 (Rdb.toOld (InRow.rdb (A := A12) (els := ((dueO (y).e es)).map (fun v : Int => [Value.int .i64 v])) (by first | rfl | assumption | (simp; done) | (simp_all; done) | (simp; omega) | (simp_all; omega)) (map_cat (c := (fun v : Int => [Value.int .i64 v])) (fun _ => rfl) _)) hw1) (Rdb.toOld (InRow.rdb (A := O16) (els := ((dueO (y).e es)).map (fun v : Int => [Value.int .i64 v])) (by first | rfl | assumption | (simp; done) | (simp_all; done) | (simp; omega) | (simp_all; omega)) (map_cat (c := (fun v : Int => [Value.int .i64 v])) (fun _ => rfl) _)) hw1) (row_max (A := A12) hw1)) rfl ?_)
    refine g_litb 17 (b := true) rfl (decide_eq_true rfl) ?_
    refine d_q 9 rfl (by kernel_rfl) (q_assign rfl) wok_sub rfl (ls' := #[true, true, true, true, true, true, true, true, true, true]) rfl ?_
    refine d_end (by kernel_rfl) (.inr wok_sub) ?_
    refine g_then ?_
    refine g_ret ?_
    refine g_then_ret ?_
    exact fin1 rfl (.tmp rfl) (fun w' hw' => ⟨(g12, A16, c16, B16, d16), (by first | exact ⟨by rw [stepE, if_pos hd]; exact r12, s12⟩ | (dsimp only; exact ⟨by rw [stepE, if_pos hd]; exact r12, s12⟩)), rfl, by have h9 := wok_sub (L' := [Res.blk b 57 [Value.slice (BR.A g12) (BR.bs g12).length (BR.cap g12), Value.int .i64 (BR.n g12)], Res.row (BR.A g12) (BR.bs g12).length (BR.cap g12) 47 1 ((BR.bs g12).map (fun k : Bk En => [k.v])), bks 50 2 En.c (BR.bs g12), Res.blk wb 29 [Value.slice A16 ((keepE y.e es).map En.e).length c16, Value.slice B16 ((keepE y.e es).map En.i).length d16], Res.row A16 ((keepE y.e es).map En.e).length c16 3 1 (((keepE y.e es).map En.e).map (fun v : Int => [Value.int .i64 v])), Res.row B16 ((keepE y.e es).map En.i).length d16 3 1 (((keepE y.e es).map En.i).map (fun v : Int => [Value.int .i64 v]))]) w' hw'; show WOK _ _ [Res.blk b 57 [Value.slice (BR.A ((g12, A16, c16, B16, d16)).1) (BR.bs ((g12, A16, c16, B16, d16)).1).length (BR.cap ((g12, A16, c16, B16, d16)).1), Value.int .i64 (BR.n ((g12, A16, c16, B16, d16)).1)], Res.row (BR.A ((g12, A16, c16, B16, d16)).1) (BR.bs ((g12, A16, c16, B16, d16)).1).length (BR.cap ((g12, A16, c16, B16, d16)).1) 47 1 ((BR.bs ((g12, A16, c16, B16, d16)).1).map (fun k : Bk En => [k.v])), bks 50 2 En.c (BR.bs ((g12, A16, c16, B16, d16)).1), Res.blk wb 29 [Value.slice ((g12, A16, c16, B16, d16)).2.1 ((stepE es y).map En.e).length ((g12, A16, c16, B16, d16)).2.2.1, Value.slice ((g12, A16, c16, B16, d16)).2.2.2.1 ((stepE es y).map En.i).length ((g12, A16, c16, B16, d16)).2.2.2.2], Res.row ((g12, A16, c16, B16, d16)).2.1 ((stepE es y).map En.e).length ((g12, A16, c16, B16, d16)).2.2.1 3 1 (((stepE es y).map En.e).map (fun v : Int => [Value.int .i64 v])), Res.row ((g12, A16, c16, B16, d16)).2.2.2.1 ((stepE es y).map En.i).length ((g12, A16, c16, B16, d16)).2.2.2.2 3 1 (((stepE es y).map En.i).map (fun v : Int => [Value.int .i64 v]))] _; simp only [stepE, if_pos hd]; exact h9⟩) _ (.inl rfl)
  · have hd : ¬ y.due = true := by rw [h1]; decide
    refine g_skip ?_
    refine g_then ?_
    refine g_seq ?_
    refine d_regionL (L0 := [Res.blk b5 31 y.c]) [] mixed rfl rfl wok_sub ?_
    refine d_q 0 rfl (by kernel_rfl) (q_move rfl) wok_sub rfl (ls' := #[true, false, false, false, false, false, false, false, false, false, false, false, false, false]) rfl ?_
    refine d_q 1 rfl (by kernel_rfl) (q_field rfl) wok_sub rfl (ls' := #[true, true, false, false, false, false, false, false, false, false, false, false, false, false]) rfl ?_
    refine d_q 2 rfl (by kernel_rfl) (q_load rfl rfl) wok_sub rfl (ls' := #[true, true, true, false, false, false, false, false, false, false, false, false, false, false]) rfl ?_
    refine d_q 3 rfl (by kernel_rfl) (q_field rfl) wok_sub rfl (ls' := #[true, true, true, true, false, false, false, false, false, false, false, false, false, false]) rfl ?_
    refine d_q 4 rfl (by kernel_rfl) (q_load rfl rfl) wok_sub rfl (ls' := #[true, true, true, true, true, false, false, false, false, false, false, false, false, false]) rfl ?_
    refine d_q 6 rfl (by kernel_rfl) (q_move rfl) wok_sub rfl (ls' := #[true, true, true, true, true, false, true, false, false, false, false, false, false, false]) rfl ?_
    refine d_q 7 rfl (by kernel_rfl) (q_field rfl) wok_sub rfl (ls' := #[true, true, true, true, true, false, true, true, false, false, false, false, false, false]) rfl ?_
    refine d_q 8 rfl (by kernel_rfl) (q_load rfl rfl) wok_sub rfl (ls' := #[true, true, true, true, true, false, true, true, true, false, false, false, false, false]) rfl ?_
    refine d_q 9 rfl (by kernel_rfl) (q_field rfl) wok_sub rfl (ls' := #[true, true, true, true, true, false, true, true, true, true, false, false, false, false]) rfl ?_
    refine d_q 10 rfl (by kernel_rfl) (q_load rfl rfl) wok_sub rfl (ls' := #[true, true, true, true, true, false, true, true, true, true, true, false, false, false]) rfl ?_
    refine d_op 5 rfl (by kernel_rfl) (ls' := #[true, true, true, true, true, true, true, true, true, true, true, false, false, false]) rfl wok_sub (g_ownS [Res.blk b 57 [Value.slice (BR.A g) (BR.bs g).length (BR.cap g), Value.int .i64 (BR.n g)], Res.row (BR.A g) (BR.bs g).length (BR.cap g) 47 1 ((BR.bs g).map (fun k : Bk En => [k.v])), bks 50 2 En.c (BR.bs g)] rfl (fun w1 hw1 ho1 => by have h7 := bput_any b g es ((y).e) ((y).i) w1 ho1 h hnE; exact h7) rfl ?_)
    rintro g23 ⟨r23, s23⟩
    refine ⟨_, _, inferInstance, inferInstance, ?_⟩
    refine d_op 11 rfl (by kernel_rfl) (ls' := #[true, true, true, true, true, true, true, true, true, true, true, true, false, false]) rfl wok_sub (g_ownS [Res.blk wb 29 [Value.slice A0 (es.map En.e).length c0, Value.slice A1 (es.map En.i).length c1], Res.row A0 (es.map En.e).length c0 3 1 ((es.map En.e).map (fun v : Int => [Value.int .i64 v])), Res.row A1 (es.map En.i).length c1 3 1 ((es.map En.i).map (fun v : Int => [Value.int .i64 v]))] rfl (fun w1 hw1 ho1 => by have h7 := rput_any wb A0 c0 A1 c1 es ((y).e) ((y).i) w1 ho1 hnE; exact h7) rfl ?_)
    rintro ⟨A29, c29, B29, d29⟩ _
    refine ⟨_, _, inferInstance, inferInstance, ?_⟩
    refine d_q 12 rfl (by kernel_rfl) (q_eql_bool (by kernel_rfl) rfl rfl) wok_sub rfl (ls' := #[true, true, true, true, true, true, true, true, true, true, true, true, true, false]) rfl ?_
    refine g_litb 30 (b := true) rfl (by simp) ?_
    refine d_q 13 rfl (by kernel_rfl) (q_assign rfl) wok_sub rfl (ls' := #[true, true, true, true, true, true, true, true, true, true, true, true, true, true]) rfl ?_
    refine d_end (by kernel_rfl) (.inr wok_sub) ?_
    refine g_then ?_
    refine g_ret ?_
    exact fin1 rfl (.tmp rfl) (fun w' hw' => ⟨(g23, A29, c29, B29, d29), (by first | exact ⟨by rw [stepE, if_neg hd]; exact r23, s23⟩ | (dsimp only; exact ⟨by rw [stepE, if_neg hd]; exact r23, s23⟩)), rfl, by have h9 := wok_sub (L' := [Res.blk b 57 [Value.slice (BR.A g23) (BR.bs g23).length (BR.cap g23), Value.int .i64 (BR.n g23)], Res.row (BR.A g23) (BR.bs g23).length (BR.cap g23) 47 1 ((BR.bs g23).map (fun k : Bk En => [k.v])), bks 50 2 En.c (BR.bs g23), Res.blk wb 29 [Value.slice A29 ((putE es y.e y.i).map En.e).length c29, Value.slice B29 ((putE es y.e y.i).map En.i).length d29], Res.row A29 ((putE es y.e y.i).map En.e).length c29 3 1 (((putE es y.e y.i).map En.e).map (fun v : Int => [Value.int .i64 v])), Res.row B29 ((putE es y.e y.i).map En.i).length d29 3 1 (((putE es y.e y.i).map En.i).map (fun v : Int => [Value.int .i64 v]))]) w' hw'; show WOK _ _ [Res.blk b 57 [Value.slice (BR.A ((g23, A29, c29, B29, d29)).1) (BR.bs ((g23, A29, c29, B29, d29)).1).length (BR.cap ((g23, A29, c29, B29, d29)).1), Value.int .i64 (BR.n ((g23, A29, c29, B29, d29)).1)], Res.row (BR.A ((g23, A29, c29, B29, d29)).1) (BR.bs ((g23, A29, c29, B29, d29)).1).length (BR.cap ((g23, A29, c29, B29, d29)).1) 47 1 ((BR.bs ((g23, A29, c29, B29, d29)).1).map (fun k : Bk En => [k.v])), bks 50 2 En.c (BR.bs ((g23, A29, c29, B29, d29)).1), Res.blk wb 29 [Value.slice ((g23, A29, c29, B29, d29)).2.1 ((stepE es y).map En.e).length ((g23, A29, c29, B29, d29)).2.2.1, Value.slice ((g23, A29, c29, B29, d29)).2.2.2.1 ((stepE es y).map En.i).length ((g23, A29, c29, B29, d29)).2.2.2.2], Res.row ((g23, A29, c29, B29, d29)).2.1 ((stepE es y).map En.e).length ((g23, A29, c29, B29, d29)).2.2.1 3 1 (((stepE es y).map En.e).map (fun v : Int => [Value.int .i64 v])), Res.row ((g23, A29, c29, B29, d29)).2.2.2.1 ((stepE es y).map En.i).length ((g23, A29, c29, B29, d29)).2.2.2.2 3 1 (((stepE es y).map En.i).map (fun v : Int => [Value.int .i64 v]))] _; simp only [stepE, if_neg hd]; exact h9⟩) _ (.inl rfl)
end Go.Proofs.Ytgbghjnlicldnaa
