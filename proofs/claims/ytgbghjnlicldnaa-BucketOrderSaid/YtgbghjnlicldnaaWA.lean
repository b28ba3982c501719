/- walk of All; the methods of no ring -/
import Derived.Test.YtgbghjnlicldnaaW9
import Derived.Test.YtgbghjnlicldnaaW5
namespace Go.Proofs.Ytgbghjnlicldnaa
open Go.RowKit Go.Eg
set_option synthInstance.maxSize 3000
set_option linter.unusedSimpArgs false
set_option linter.unusedVariables false
set_option maxRecDepth 100000
theorem flat_one {X : List En} {k0 : Nat} : ∀ {ks : List Nat}, ks.Nodup → k0 ∈ ks → (ks.flatMap fun k => if k0 = k then X else []) = X
  | [], _, h => absurd h (by simp)
  | k :: ks, hn, hm => by
    rw [List.nodup_cons] at hn
    rw [List.flatMap_cons]
    by_cases e : k0 = k
    · subst e
      have : (ks.flatMap fun k => if k0 = k then X else []) = [] := by
        rw [List.flatMap_eq_nil_iff]
        exact fun k hk => if_neg fun (e : k0 = k) => hn.1 (e ▸ hk)
      rw [if_pos rfl, this, List.append_nil]
    · rw [if_neg e, List.nil_append]
      exact flat_one hn.2 ((List.mem_cons.1 hm).resolve_left e)
theorem flt_flat {α : Type} (e : Int) (f : α → List En) : ∀ l : List α, flt e (l.flatMap f) = l.flatMap fun k => flt e (f k)
  | [] => rfl
  | k :: l => by rw [List.flatMap_cons, flt_app, flt_flat e f l, List.flatMap_cons]
theorem BR.Rep.same {g : BR} {es : List En} (h : g.Rep es) : Same (allE g) es := fun e => by
  have hp : (0 : Int) < (g.bs.length : Int) := by have := h.pos; omega
  have h1 := Int.emod_lt_of_pos e hp
  have h2 := Int.emod_nonneg e (show (g.bs.length : Int) ≠ 0 by omega)
  rw [h.all, flt_flat]
  have e1 : (fun k : Nat => flt e (es.filter fun x => decide (x.e % (g.bs.length : Int) = k))) = fun k : Nat => if (e % (g.bs.length : Int)).toNat = k then flt e es else [] := by
    funext k
    unfold flt
    rw [List.filter_filter]
    split
    · rename_i hk
      refine List.filter_congr fun x _ => ?_
      by_cases hx : x.e = e
      · have : e % (g.bs.length : Int) = (k : Int) := by omega
        simp [hx, this]
      · simp [hx]
    · rename_i hk
      refine List.filter_eq_nil_iff.2 fun x _ => ?_
      by_cases hx : x.e = e
      · have : ¬ e % (g.bs.length : Int) = (k : Int) := by omega
        simp [hx, this]
      · simp [hx]
  rw [e1]
  exact flat_one List.nodup_range (List.mem_range.2 (by omega))

set_option maxHeartbeats 400000 in
theorem sortst_any (A : Option Addr) (n cap : Nat) (d : List En) (w : World) (hw : WOK (fps [Res.row A n cap 50 2 ((d).map En.c)]) w [Res.row A n cap 50 2 ((d).map En.c)] w) (hn : n = d.length) (hn6 : n ≤ 1000000) : Own2 (ι := (List En)) Try.prog 31 [.slice A n cap, .func (.func 32) #[] #[]] w [Res.row A n cap 50 2 ((d).map En.c)] (fun x => Srt x ∧ Same x d ∧ x.length = d.length) (fun x => .tuple #[]) (fun x => []) (fun x => [Res.row A n cap 50 2 ((x).map En.c)]) := by
  refine g_start Try.func31 rfl 9 rfl (by simp) (fps [Res.row A n cap 50 2 ((d).map En.c)]) [Res.row A n cap 50 2 ((d).map En.c)] hw _ rfl ?_
  refine g_region ?_
  refine s_q (q_move rfl) rfl ?_
  refine s_q (q_move rfl) rfl ?_
  refine s_q (q_len rfl) rfl ?_
  refine s_q (q_move rfl) rfl ?_
  refine g_op (g_ownS [Res.row A n cap 50 2 ((d).map En.c)] rfl (fun w1 hw1 ho1 => by have h7 := stable_any A (n) cap d w1 ho1 (by first | assumption | rfl | omega) (by first | assumption | omega); exact h7) rfl ?_)
  rintro M8 ⟨sm8, em8, lm8⟩
  refine ⟨_, _, inferInstance, inferInstance, ?_⟩
  refine g_nil ?_
  exact fin0 rfl (fun w' hw' => ⟨M8, (by first | exact ⟨sm8, em8, lm8⟩ | (dsimp only; exact ⟨sm8, em8, lm8⟩)), rfl, by have h9 := wok_sub (L' := [Res.row A n cap 50 2 ((M8).map En.c)]) w' hw'; exact h9⟩) _ (.inr rfl)

set_option maxHeartbeats 400000 in
theorem append_any (q b : Nat) (g : BR) (w : World) (hw : WOK (fps [Res.blk q 23 [Value.pointer (some ⟨b, 0, none⟩)], Res.blk b 57 [Value.slice (BR.A g) (BR.bs g).length (BR.cap g), Value.int .i64 (BR.n g)], Res.row (BR.A g) (BR.bs g).length (BR.cap g) 47 1 ((BR.bs g).map (fun k : Bk En => [k.v])), bks 50 2 En.c (BR.bs g)]) w [Res.blk q 23 [Value.pointer (some ⟨b, 0, none⟩)], Res.blk b 57 [Value.slice (BR.A g) (BR.bs g).length (BR.cap g), Value.int .i64 (BR.n g)], Res.row (BR.A g) (BR.bs g).length (BR.cap g) 47 1 ((BR.bs g).map (fun k : Bk En => [k.v])), bks 50 2 En.c (BR.bs g)] w) (hm : (BR.bs g).length ≤ 4096) (hbl : ∀ (i : Nat) (k : Bk En), (BR.bs g)[i]? = some k → k.els.length ≤ 1000000) (hal : (allE g).length ≤ 1000000) : Own2 (ι := (Option Addr × Nat)) Try.prog 36 [.slice none 0 0, .func (.func 34) #[] [Value.pointer (some ⟨q, 0, none⟩)].toArray] w [Res.blk q 23 [Value.pointer (some ⟨b, 0, none⟩)], Res.blk b 57 [Value.slice (BR.A g) (BR.bs g).length (BR.cap g), Value.int .i64 (BR.n g)], Res.row (BR.A g) (BR.bs g).length (BR.cap g) 47 1 ((BR.bs g).map (fun k : Bk En => [k.v])), bks 50 2 En.c (BR.bs g)] (fun x => True) (fun x => .slice x.1 (allE g).length x.2) (fun x => [Res.row x.1 (allE g).length x.2 50 2 ((allE g).map En.c)]) (fun x => [Res.blk q 23 [Value.pointer (some ⟨b, 0, none⟩)], Res.blk b 57 [Value.slice (BR.A g) (BR.bs g).length (BR.cap g), Value.int .i64 (BR.n g)], Res.row (BR.A g) (BR.bs g).length (BR.cap g) 47 1 ((BR.bs g).map (fun k : Bk En => [k.v])), bks 50 2 En.c (BR.bs g)]) := by
  refine g_startM Try.func36 rfl 13 rfl (by simp) (fps [Res.blk q 23 [Value.pointer (some ⟨b, 0, none⟩)], Res.blk b 57 [Value.slice (BR.A g) (BR.bs g).length (BR.cap g), Value.int .i64 (BR.n g)], Res.row (BR.A g) (BR.bs g).length (BR.cap g) 47 1 ((BR.bs g).map (fun k : Bk En => [k.v])), bks 50 2 En.c (BR.bs g)]) [Res.blk q 23 [Value.pointer (some ⟨b, 0, none⟩)], Res.blk b 57 [Value.slice (BR.A g) (BR.bs g).length (BR.cap g), Value.int .i64 (BR.n g)], Res.row (BR.A g) (BR.bs g).length (BR.cap g) 47 1 ((BR.bs g).map (fun k : Bk En => [k.v])), bks 50 2 En.c (BR.bs g)] hw _ rfl ?_
  refine g_seq ?_
  refine g_region ?_
  refine g_op (g_box (c := [Value.slice none 0 0]) rfl rfl rfl fun b2 => ?_)
  refine s_q (q_assign rfl) rfl ?_
  refine g_blkc (b := b2) [Value.slice none (([] : List En)).length 0] rfl ?_
  refine g_noresL none 50 2 ((([] : List En)).map En.c) rfl ?_
  refine g_nil ?_
  refine g_then ?_
  refine g_seq ?_
  refine g_seq ?_
  refine g_region ?_
  refine s_q (q_move rfl) rfl ?_
  refine g_nil ?_
  refine g_then ?_
  refine g_block ?_
  refine g_rangeFunc2 (fst := []) (cap := [Value.pointer (some ⟨q, 0, none⟩)]) (enc := (fun x : En => Value.agg x.c.toArray)) (all := (allE g)) rfl rfl [Res.blk q 23 [Value.pointer (some ⟨b, 0, none⟩)], Res.blk b 57 [Value.slice (BR.A g) (BR.bs g).length (BR.cap g), Value.int .i64 (BR.n g)], Res.row (BR.A g) (BR.bs g).length (BR.cap g) 47 1 ((BR.bs g).map (fun k : Bk En => [k.v])), bks 50 2 En.c (BR.bs g)] [Res.blk q 23 [Value.pointer (some ⟨b, 0, none⟩)], Res.blk b 57 [Value.slice (BR.A g) (BR.bs g).length (BR.cap g), Value.int .i64 (BR.n g)], Res.row (BR.A g) (BR.bs g).length (BR.cap g) 47 1 ((BR.bs g).map (fun k : Bk En => [k.v])), bks 50 2 En.c (BR.bs g)] [] (fun (y9 : Option Addr × Nat × List En) => [Res.blk b2 47 [Value.slice y9.1 y9.2.2.length y9.2.1], Res.row y9.1 y9.2.2.length y9.2.1 50 2 (y9.2.2.map En.c)]) (fun pre (y9 : Option Addr × Nat × List En) => y9.2.2 = pre) (none, 0, []) (rfl) (fun w1 hw1 => by have h9 := wok_sub (L' := [Res.blk q 23 [Value.pointer (some ⟨b, 0, none⟩)], Res.blk b 57 [Value.slice (BR.A g) (BR.bs g).length (BR.cap g), Value.int .i64 (BR.n g)], Res.row (BR.A g) (BR.bs g).length (BR.cap g) 47 1 ((BR.bs g).map (fun k : Bk En => [k.v])), bks 50 2 En.c (BR.bs g), Res.blk b2 47 [Value.slice none ([] : List En).length 0], Res.row none ([] : List En).length 0 50 2 (([] : List En).map En.c)]) w1 hw1; exact h9) (fun w1 hw1 => by intro l9 B9 r9 hY9 hB9 hc9 ho9; exact ent1_any l9 B9 r9 q b g w1 ho9 hY9 hB9 hm hbl) (fun x9 (y9 : Option Addr × Nat × List En) (z9 : Nat) => [(5, Value.pointer (some ⟨z9, 0, none⟩)), (2, Value.pointer (some ⟨b2, 0, none⟩))]) (fun x9 (y9 : Option Addr × Nat × List En) (z9 : Nat) => [Res.blk z9 50 x9.c, Res.blk b2 47 [Value.slice y9.1 y9.2.2.length y9.2.1], Res.row y9.1 y9.2.2.length y9.2.1 50 2 (y9.2.2.map En.c)]) ?_ ?_ ?_
  · rintro l9 pre x9 ⟨A9, c9, o9⟩ w9 hpre9 hp9
    refine g_setL (L' := [Res.blk b2 47 [Value.slice A9 o9.length c9], Res.row A9 o9.length c9 50 2 (o9.map En.c)]) rfl ?_
    refine g_region ?_
    refine g_op (g_alloc rfl fun b5 => ?_)
    refine g_op (g_storew rfl rfl rfl rfl rfl ?_)
    refine g_nil ?_
    exact g_asgx (b5) (by repeat (first | exact trivial | refine ⟨rfl, ?_⟩)) wok_sub
  · rintro l9 pre x9 ⟨A9, c9, o9⟩ z9 w9 hpre9 hp9
    replace hp9 : o9 = pre := hp9
    have hbl3 := hpre9.length_le
    simp only [List.length_append, List.length_cons, List.length_nil] at hbl3
    have hbl4 : o9.length ≤ 1000000 := by rw [hp9]; omega
    refine g_setL (L' := [Res.blk z9 50 x9.c, Res.blk b2 47 [Value.slice A9 o9.length c9], Res.row A9 o9.length c9 50 2 (o9.map En.c)]) rfl ?_
    refine g_block ?_
    refine g_region ?_
    refine s_q (q_load rfl rfl) rfl ?_
    refine s_q (q_loadw rfl rfl) rfl ?_
    refine g_op (g_lit rfl rfl rfl rfl rfl fun b10 => ?_)
    refine g_blkc (b := b10) ((([x9] : List En).map En.c).flatten) rfl ?_
    refine g_op (g_append (A := A9) (els := (o9).map En.c) (news := (([x9] : List En).map En.c)) rfl rfl (InL.rdb (b := b10) rfl (by simp [En.c]) rfl) (map_one (c := En.c) (by intro x; simp [En.c, Value.oneCell']) _) (by omega) rfl fun A11 cap11 => ⟨_, inferInstance, ?_⟩)
    refine g_rowels (A := A11) (((o9 ++ [x9])).map En.c) (by first | rfl | exact List.map_append.symm | (simp; done)) ?_
    refine g_op (g_store rfl rfl rfl rfl rfl rfl rfl ?_)
    refine g_nil ?_
    refine g_blk_n ?_
    refine g_rown (A := A11) ((o9 ++ [x9]) : List En).length (by simp) ?_
    refine g_blkc (b := b2) [Value.slice A11 ((o9 ++ [x9]) : List En).length cap11] (by simp [splice]) ?_
    exact g_round (fun w2 hw2 => ⟨(A11, cap11, (o9 ++ [x9] : List En)), by show o9 ++ [x9] = pre ++ [x9]; rw [hp9], by have h9 := wok_sub (L' := [Res.blk b2 47 [Value.slice A11 (o9 ++ [x9] : List En).length cap11], Res.row A11 (o9 ++ [x9] : List En).length cap11 50 2 ((o9 ++ [x9] : List En).map En.c)]) w2 hw2; exact h9⟩)
  rintro ⟨A9, c9, o9⟩ hp9 m9
  refine g_setL (L' := [Res.obj m9 (.deferred (some [])), Res.blk q 23 [Value.pointer (some ⟨b, 0, none⟩)], Res.blk b 57 [Value.slice (BR.A g) (BR.bs g).length (BR.cap g), Value.int .i64 (BR.n g)], Res.row (BR.A g) (BR.bs g).length (BR.cap g) 47 1 ((BR.bs g).map (fun k : Bk En => [k.v])), bks 50 2 En.c (BR.bs g), Res.blk b2 47 [Value.slice A9 o9.length c9], Res.row A9 o9.length c9 50 2 (o9.map En.c)]) rfl ?_
  replace hp9 : o9 = (allE g) := hp9
  refine g_blk_n ?_
  refine g_then ?_
  refine g_seq ?_
  refine g_region ?_
  refine s_q (q_load rfl rfl) rfl ?_
  refine s_q (q_assign rfl) rfl ?_
  refine g_nil ?_
  refine g_then ?_
  refine g_ret ?_
  subst hp9
  exact finM1 rfl (.tmp rfl) (fun w' hw' => ⟨(A9, c9), (by first | exact trivial | (dsimp only; exact trivial)), rfl, by have h9 := wok_sub (L' := [Res.row ((A9, c9)).1 (allE g).length ((A9, c9)).2 50 2 ((allE g).map En.c), Res.blk q 23 [Value.pointer (some ⟨b, 0, none⟩)], Res.blk b 57 [Value.slice (BR.A g) (BR.bs g).length (BR.cap g), Value.int .i64 (BR.n g)], Res.row (BR.A g) (BR.bs g).length (BR.cap g) 47 1 ((BR.bs g).map (fun k : Bk En => [k.v])), bks 50 2 En.c (BR.bs g)]) w' hw'; exact h9⟩) _ (.inl rfl)

set_option maxHeartbeats 400000 in
theorem collect_any (q b : Nat) (g : BR) (w : World) (hw : WOK (fps [Res.blk q 23 [Value.pointer (some ⟨b, 0, none⟩)], Res.blk b 57 [Value.slice (BR.A g) (BR.bs g).length (BR.cap g), Value.int .i64 (BR.n g)], Res.row (BR.A g) (BR.bs g).length (BR.cap g) 47 1 ((BR.bs g).map (fun k : Bk En => [k.v])), bks 50 2 En.c (BR.bs g)]) w [Res.blk q 23 [Value.pointer (some ⟨b, 0, none⟩)], Res.blk b 57 [Value.slice (BR.A g) (BR.bs g).length (BR.cap g), Value.int .i64 (BR.n g)], Res.row (BR.A g) (BR.bs g).length (BR.cap g) 47 1 ((BR.bs g).map (fun k : Bk En => [k.v])), bks 50 2 En.c (BR.bs g)] w) (hm : (BR.bs g).length ≤ 4096) (hbl : ∀ (i : Nat) (k : Bk En), (BR.bs g)[i]? = some k → k.els.length ≤ 1000000) (hal : (allE g).length ≤ 1000000) : Own2 (ι := (Option Addr × Nat)) Try.prog 30 [.func (.func 34) #[] [Value.pointer (some ⟨q, 0, none⟩)].toArray] w [Res.blk q 23 [Value.pointer (some ⟨b, 0, none⟩)], Res.blk b 57 [Value.slice (BR.A g) (BR.bs g).length (BR.cap g), Value.int .i64 (BR.n g)], Res.row (BR.A g) (BR.bs g).length (BR.cap g) 47 1 ((BR.bs g).map (fun k : Bk En => [k.v])), bks 50 2 En.c (BR.bs g)] (fun x => True) (fun x => .slice x.1 (allE g).length x.2) (fun x => [Res.row x.1 (allE g).length x.2 50 2 ((allE g).map En.c)]) (fun x => [Res.blk q 23 [Value.pointer (some ⟨b, 0, none⟩)], Res.blk b 57 [Value.slice (BR.A g) (BR.bs g).length (BR.cap g), Value.int .i64 (BR.n g)], Res.row (BR.A g) (BR.bs g).length (BR.cap g) 47 1 ((BR.bs g).map (fun k : Bk En => [k.v])), bks 50 2 En.c (BR.bs g)]) := by
  refine g_start Try.func30 rfl 5 rfl (by simp) (fps [Res.blk q 23 [Value.pointer (some ⟨b, 0, none⟩)], Res.blk b 57 [Value.slice (BR.A g) (BR.bs g).length (BR.cap g), Value.int .i64 (BR.n g)], Res.row (BR.A g) (BR.bs g).length (BR.cap g) 47 1 ((BR.bs g).map (fun k : Bk En => [k.v])), bks 50 2 En.c (BR.bs g)]) [Res.blk q 23 [Value.pointer (some ⟨b, 0, none⟩)], Res.blk b 57 [Value.slice (BR.A g) (BR.bs g).length (BR.cap g), Value.int .i64 (BR.n g)], Res.row (BR.A g) (BR.bs g).length (BR.cap g) 47 1 ((BR.bs g).map (fun k : Bk En => [k.v])), bks 50 2 En.c (BR.bs g)] hw _ rfl ?_
  refine g_seq ?_
  refine g_region ?_
  refine s_q (q_assign rfl) rfl ?_
  refine g_nil ?_
  refine g_then ?_
  refine g_seq ?_
  refine g_region ?_
  refine s_q (q_move rfl) rfl ?_
  refine g_op (g_ownS [Res.blk q 23 [Value.pointer (some ⟨b, 0, none⟩)], Res.blk b 57 [Value.slice (BR.A g) (BR.bs g).length (BR.cap g), Value.int .i64 (BR.n g)], Res.row (BR.A g) (BR.bs g).length (BR.cap g) 47 1 ((BR.bs g).map (fun k : Bk En => [k.v])), bks 50 2 En.c (BR.bs g)] rfl (fun w1 hw1 ho1 => by have h7 := append_any q b g w1 ho1 hm hbl hal; exact h7) rfl ?_)
  rintro ⟨A4, cap4⟩ _
  refine ⟨_, _, inferInstance, inferInstance, ?_⟩
  refine s_q (q_assign rfl) rfl ?_
  refine g_nil ?_
  refine g_then ?_
  refine g_ret ?_
  exact fin1 rfl (.tmp rfl) (fun w' hw' => ⟨(A4, cap4), (by first | exact trivial | (dsimp only; exact trivial)), rfl, by have h9 := wok_sub (L' := [Res.row ((A4, cap4)).1 (allE g).length ((A4, cap4)).2 50 2 ((allE g).map En.c), Res.blk q 23 [Value.pointer (some ⟨b, 0, none⟩)], Res.blk b 57 [Value.slice (BR.A g) (BR.bs g).length (BR.cap g), Value.int .i64 (BR.n g)], Res.row (BR.A g) (BR.bs g).length (BR.cap g) 47 1 ((BR.bs g).map (fun k : Bk En => [k.v])), bks 50 2 En.c (BR.bs g)]) w' hw'; exact h9⟩) _ (.inl rfl)

set_option maxHeartbeats 400000 in
theorem append_nil (q : Nat) (w : World) (hw : WOK (fps [Res.blk q 23 [Value.pointer none]]) w [Res.blk q 23 [Value.pointer none]] w)  : Own2 (ι := (Option Addr × Nat)) Try.prog 36 [.slice none 0 0, .func (.func 34) #[] [Value.pointer (some ⟨q, 0, none⟩)].toArray] w [Res.blk q 23 [Value.pointer none]] (fun x => True) (fun x => .slice x.1 ([] : List En).length x.2) (fun x => [Res.row x.1 ([] : List En).length x.2 50 2 (([] : List En).map En.c)]) (fun x => [Res.blk q 23 [Value.pointer none]]) := by
  refine g_startM Try.func36 rfl 13 rfl (by simp) (fps [Res.blk q 23 [Value.pointer none]]) [Res.blk q 23 [Value.pointer none]] hw _ rfl ?_
  refine g_seq ?_
  refine g_region ?_
  refine g_op (g_box (c := [Value.slice none 0 0]) rfl rfl rfl fun b2 => ?_)
  refine s_q (q_assign rfl) rfl ?_
  refine g_blkc (b := b2) [Value.slice none (([] : List En)).length 0] rfl ?_
  refine g_noresL none 50 2 ((([] : List En)).map En.c) rfl ?_
  refine g_nil ?_
  refine g_then ?_
  refine g_seq ?_
  refine g_seq ?_
  refine g_region ?_
  refine s_q (q_move rfl) rfl ?_
  refine g_nil ?_
  refine g_then ?_
  refine g_block ?_
  refine g_rangeFunc2 (fst := []) (cap := [Value.pointer (some ⟨q, 0, none⟩)]) (enc := (fun x : En => Value.agg x.c.toArray)) (all := ([] : List En)) rfl rfl [Res.blk q 23 [Value.pointer none]] [Res.blk q 23 [Value.pointer none]] [] (fun (y9 : Option Addr × Nat × List En) => [Res.blk b2 47 [Value.slice y9.1 y9.2.2.length y9.2.1], Res.row y9.1 y9.2.2.length y9.2.1 50 2 (y9.2.2.map En.c)]) (fun pre (y9 : Option Addr × Nat × List En) => y9.2.2 = pre) (none, 0, []) (rfl) (fun w1 hw1 => by have h9 := wok_sub (L' := [Res.blk q 23 [Value.pointer none], Res.blk b2 47 [Value.slice none ([] : List En).length 0], Res.row none ([] : List En).length 0 50 2 (([] : List En).map En.c)]) w1 hw1; exact h9) (fun w1 hw1 => by intro l9 B9 r9 hY9 hB9 hc9 ho9; exact ent1_nil l9 B9 r9 q w1 ho9 hB9) (fun x9 (y9 : Option Addr × Nat × List En) (z9 : Nat) => [(5, Value.pointer (some ⟨z9, 0, none⟩)), (2, Value.pointer (some ⟨b2, 0, none⟩))]) (fun x9 (y9 : Option Addr × Nat × List En) (z9 : Nat) => [Res.blk z9 50 x9.c, Res.blk b2 47 [Value.slice y9.1 y9.2.2.length y9.2.1], Res.row y9.1 y9.2.2.length y9.2.1 50 2 (y9.2.2.map En.c)]) ?_ ?_ ?_
  · rintro l9 pre x9 ⟨A9, c9, o9⟩ w9 hpre9 hp9
    refine g_setL (L' := [Res.blk b2 47 [Value.slice A9 o9.length c9], Res.row A9 o9.length c9 50 2 (o9.map En.c)]) rfl ?_
    refine g_region ?_
    refine g_op (g_alloc rfl fun b5 => ?_)
    refine g_op (g_storew rfl rfl rfl rfl rfl ?_)
    refine g_nil ?_
    exact g_asgx (b5) (by repeat (first | exact trivial | refine ⟨rfl, ?_⟩)) wok_sub
  · rintro l9 pre x9 ⟨A9, c9, o9⟩ z9 w9 hpre9 hp9
    replace hp9 : o9 = pre := hp9
    have hbl3 := hpre9.length_le
    simp only [List.length_append, List.length_cons, List.length_nil] at hbl3
    have hbl4 : o9.length ≤ 1000000 := by rw [hp9]; omega
    refine g_setL (L' := [Res.blk z9 50 x9.c, Res.blk b2 47 [Value.slice A9 o9.length c9], Res.row A9 o9.length c9 50 2 (o9.map En.c)]) rfl ?_
    refine g_block ?_
    refine g_region ?_
    refine s_q (q_load rfl rfl) rfl ?_
    refine s_q (q_loadw rfl rfl) rfl ?_
    refine g_op (g_lit rfl rfl rfl rfl rfl fun b10 => ?_)
    refine g_blkc (b := b10) ((([x9] : List En).map En.c).flatten) rfl ?_
    refine g_op (g_append (A := A9) (els := (o9).map En.c) (news := (([x9] : List En).map En.c)) rfl rfl (InL.rdb (b := b10) rfl (by simp [En.c]) rfl) (map_one (c := En.c) (by intro x; simp [En.c, Value.oneCell']) _) (by omega) rfl fun A11 cap11 => ⟨_, inferInstance, ?_⟩)
    refine g_rowels (A := A11) (((o9 ++ [x9])).map En.c) (by first | rfl | exact List.map_append.symm | (simp; done)) ?_
    refine g_op (g_store rfl rfl rfl rfl rfl rfl rfl ?_)
    refine g_nil ?_
    refine g_blk_n ?_
    refine g_rown (A := A11) ((o9 ++ [x9]) : List En).length (by simp) ?_
    refine g_blkc (b := b2) [Value.slice A11 ((o9 ++ [x9]) : List En).length cap11] (by simp [splice]) ?_
    exact g_round (fun w2 hw2 => ⟨(A11, cap11, (o9 ++ [x9] : List En)), by show o9 ++ [x9] = pre ++ [x9]; rw [hp9], by have h9 := wok_sub (L' := [Res.blk b2 47 [Value.slice A11 (o9 ++ [x9] : List En).length cap11], Res.row A11 (o9 ++ [x9] : List En).length cap11 50 2 ((o9 ++ [x9] : List En).map En.c)]) w2 hw2; exact h9⟩)
  rintro ⟨A9, c9, o9⟩ hp9 m9
  refine g_setL (L' := [Res.obj m9 (.deferred (some [])), Res.blk q 23 [Value.pointer none], Res.blk b2 47 [Value.slice A9 o9.length c9], Res.row A9 o9.length c9 50 2 (o9.map En.c)]) rfl ?_
  replace hp9 : o9 = ([] : List En) := hp9
  refine g_blk_n ?_
  refine g_then ?_
  refine g_seq ?_
  refine g_region ?_
  refine s_q (q_load rfl rfl) rfl ?_
  refine s_q (q_assign rfl) rfl ?_
  refine g_nil ?_
  refine g_then ?_
  refine g_ret ?_
  subst hp9
  exact finM1 rfl (.tmp rfl) (fun w' hw' => ⟨(A9, c9), (by first | exact trivial | (dsimp only; exact trivial)), rfl, by have h9 := wok_sub (L' := [Res.row ((A9, c9)).1 ([] : List En).length ((A9, c9)).2 50 2 (([] : List En).map En.c), Res.blk q 23 [Value.pointer none]]) w' hw'; exact h9⟩) _ (.inl rfl)

set_option maxHeartbeats 400000 in
theorem collect_nil (q : Nat) (w : World) (hw : WOK (fps [Res.blk q 23 [Value.pointer none]]) w [Res.blk q 23 [Value.pointer none]] w)  : Own2 (ι := (Option Addr × Nat)) Try.prog 30 [.func (.func 34) #[] [Value.pointer (some ⟨q, 0, none⟩)].toArray] w [Res.blk q 23 [Value.pointer none]] (fun x => True) (fun x => .slice x.1 ([] : List En).length x.2) (fun x => [Res.row x.1 ([] : List En).length x.2 50 2 (([] : List En).map En.c)]) (fun x => [Res.blk q 23 [Value.pointer none]]) := by
  refine g_start Try.func30 rfl 5 rfl (by simp) (fps [Res.blk q 23 [Value.pointer none]]) [Res.blk q 23 [Value.pointer none]] hw _ rfl ?_
  refine g_seq ?_
  refine g_region ?_
  refine s_q (q_assign rfl) rfl ?_
  refine g_nil ?_
  refine g_then ?_
  refine g_seq ?_
  refine g_region ?_
  refine s_q (q_move rfl) rfl ?_
  refine g_op (g_ownS [Res.blk q 23 [Value.pointer none]] rfl (fun w1 hw1 ho1 => by have h7 := append_nil q w1 ho1; exact h7) rfl ?_)
  rintro ⟨A4, cap4⟩ _
  refine ⟨_, _, inferInstance, inferInstance, ?_⟩
  refine s_q (q_assign rfl) rfl ?_
  refine g_nil ?_
  refine g_then ?_
  refine g_ret ?_
  exact fin1 rfl (.tmp rfl) (fun w' hw' => ⟨(A4, cap4), (by first | exact trivial | (dsimp only; exact trivial)), rfl, by have h9 := wok_sub (L' := [Res.row ((A4, cap4)).1 ([] : List En).length ((A4, cap4)).2 50 2 (([] : List En).map En.c), Res.blk q 23 [Value.pointer none]]) w' hw'; exact h9⟩) _ (.inl rfl)

set_option maxHeartbeats 400000 in
theorem ball_any (b : Nat) (g : BR) (es : List En) (w : World) (hw : WOK (fps [Res.blk b 57 [Value.slice (BR.A g) (BR.bs g).length (BR.cap g), Value.int .i64 (BR.n g)], Res.row (BR.A g) (BR.bs g).length (BR.cap g) 47 1 ((BR.bs g).map (fun k : Bk En => [k.v])), bks 50 2 En.c (BR.bs g)]) w [Res.blk b 57 [Value.slice (BR.A g) (BR.bs g).length (BR.cap g), Value.int .i64 (BR.n g)], Res.row (BR.A g) (BR.bs g).length (BR.cap g) 47 1 ((BR.bs g).map (fun k : Bk En => [k.v])), bks 50 2 En.c (BR.bs g)] w) (h : g.Rep es) (hnE : es.length ≤ 1000000) : Own2 (ι := (Option Addr × Nat × List En)) Try.prog 20 [.pointer (some ⟨b, 0, none⟩)] w [Res.blk b 57 [Value.slice (BR.A g) (BR.bs g).length (BR.cap g), Value.int .i64 (BR.n g)], Res.row (BR.A g) (BR.bs g).length (BR.cap g) 47 1 ((BR.bs g).map (fun k : Bk En => [k.v])), bks 50 2 En.c (BR.bs g)] (fun x => Srt x.2.2 ∧ Same x.2.2 es ∧ x.2.2.length = es.length) (fun x => .slice x.1 x.2.2.length x.2.1) (fun x => [Res.row x.1 x.2.2.length x.2.1 50 2 (x.2.2.map En.c)]) (fun x => [Res.blk b 57 [Value.slice (BR.A g) (BR.bs g).length (BR.cap g), Value.int .i64 (BR.n g)], Res.row (BR.A g) (BR.bs g).length (BR.cap g) 47 1 ((BR.bs g).map (fun k : Bk En => [k.v])), bks 50 2 En.c (BR.bs g)]) := by
  refine g_start Try.func20 rfl 10 rfl (by simp) (fps [Res.blk b 57 [Value.slice (BR.A g) (BR.bs g).length (BR.cap g), Value.int .i64 (BR.n g)], Res.row (BR.A g) (BR.bs g).length (BR.cap g) 47 1 ((BR.bs g).map (fun k : Bk En => [k.v])), bks 50 2 En.c (BR.bs g)]) [Res.blk b 57 [Value.slice (BR.A g) (BR.bs g).length (BR.cap g), Value.int .i64 (BR.n g)], Res.row (BR.A g) (BR.bs g).length (BR.cap g) 47 1 ((BR.bs g).map (fun k : Bk En => [k.v])), bks 50 2 En.c (BR.bs g)] hw _ rfl ?_
  have hbl : ∀ (i : Nat) (k : Bk En), (BR.bs g)[i]? = some k → k.els.length ≤ 1000000 := fun i k hk => by rw [h.bk i k hk]; exact Nat.le_trans (List.length_filter_le _ _) hnE
  refine g_seq ?_
  refine g_region ?_
  refine s_q (q_assign rfl) rfl ?_
  refine g_nil ?_
  refine g_then ?_
  refine g_seq ?_
  refine g_region ?_
  refine s_q (q_move rfl) rfl ?_
  refine g_op (g_ownS [] rfl (fun w1 hw1 ho1 => by have h7 := entries_any (some ⟨b, 0, none⟩) w1; exact h7) rfl ?_)
  rintro q5 _
  refine ⟨_, _, inferInstance, inferInstance, ?_⟩
  refine g_op (g_ownS [Res.blk q5 23 [Value.pointer (some ⟨b, 0, none⟩)], Res.blk b 57 [Value.slice (BR.A g) (BR.bs g).length (BR.cap g), Value.int .i64 (BR.n g)], Res.row (BR.A g) (BR.bs g).length (BR.cap g) 47 1 ((BR.bs g).map (fun k : Bk En => [k.v])), bks 50 2 En.c (BR.bs g)] rfl (fun w1 hw1 ho1 => by have h7 := collect_any q5 b g w1 ho1 h.le hbl (by rw [h.allLen]; exact hnE); exact h7) rfl ?_)
  rintro ⟨A6, cap6⟩ _
  refine ⟨_, _, inferInstance, inferInstance, ?_⟩
  refine s_q (q_assign rfl) rfl ?_
  refine g_nil ?_
  refine g_then ?_
  refine g_seq ?_
  refine g_region ?_
  refine s_q (q_move rfl) rfl ?_
  refine g_op (g_ownS [Res.row A6 (allE g).length cap6 50 2 (((allE g)).map En.c)] rfl (fun w1 hw1 ho1 => by have h7 := sortst_any A6 ((allE g).length) cap6 (allE g) w1 ho1 rfl (by rw [h.allLen]; exact hnE); exact h7) rfl ?_)
  rintro M8 ⟨sm8, em8, lm8⟩
  refine ⟨_, _, inferInstance, inferInstance, ?_⟩
  refine g_nil ?_
  refine g_then ?_
  refine g_seq ?_
  refine g_region ?_
  refine s_q (q_move rfl) rfl ?_
  refine s_q (q_assign rfl) rfl ?_
  refine g_nil ?_
  refine g_then ?_
  refine g_ret ?_
  refine g_rown (A := A6) M8.length (by rw [lm8]) ?_
  exact fin1 rfl (.tmp rfl) (fun w' hw' => ⟨(A6, cap6, M8), (by first | exact ⟨sm8, em8.trans h.same, by rw [lm8, h.allLen]⟩ | (dsimp only; exact ⟨sm8, em8.trans h.same, by rw [lm8, h.allLen]⟩)), by dsimp only; rw [lm8], by have h9 := wok_sub (L' := [Res.row ((A6, cap6, M8)).1 ((A6, cap6, M8)).2.2.length ((A6, cap6, M8)).2.1 50 2 (((A6, cap6, M8)).2.2.map En.c), Res.blk b 57 [Value.slice (BR.A g) (BR.bs g).length (BR.cap g), Value.int .i64 (BR.n g)], Res.row (BR.A g) (BR.bs g).length (BR.cap g) 47 1 ((BR.bs g).map (fun k : Bk En => [k.v])), bks 50 2 En.c (BR.bs g)]) w' hw'; exact h9⟩) _ (.inl rfl)

set_option maxHeartbeats 400000 in
theorem ball_nil  (w : World)  : Own2 (ι := (Option Addr × Nat)) Try.prog 20 [.pointer none] w [] (fun x => True) (fun x => .slice x.1 ([] : List En).length x.2) (fun x => [Res.row x.1 ([] : List En).length x.2 50 2 (([] : List En).map En.c)]) (fun x => []) := by
  refine g_start Try.func20 rfl 10 rfl (by simp) (fps []) [] (WOK.start _ _) _ rfl ?_
  refine g_seq ?_
  refine g_region ?_
  refine s_q (q_assign rfl) rfl ?_
  refine g_nil ?_
  refine g_then ?_
  refine g_seq ?_
  refine g_region ?_
  refine s_q (q_move rfl) rfl ?_
  refine g_op (g_ownS [] rfl (fun w1 hw1 ho1 => by have h7 := entries_any none w1; exact h7) rfl ?_)
  rintro q5 _
  refine ⟨_, _, inferInstance, inferInstance, ?_⟩
  refine g_op (g_ownS [Res.blk q5 23 [Value.pointer none]] rfl (fun w1 hw1 ho1 => by have h7 := collect_nil q5 w1 ho1; exact h7) rfl ?_)
  rintro ⟨A6, cap6⟩ _
  refine ⟨_, _, inferInstance, inferInstance, ?_⟩
  refine s_q (q_assign rfl) rfl ?_
  refine g_nil ?_
  refine g_then ?_
  refine g_seq ?_
  refine g_region ?_
  refine s_q (q_move rfl) rfl ?_
  refine g_op (g_ownS [Res.row A6 ([] : List En).length cap6 50 2 ((([] : List En)).map En.c)] rfl (fun w1 hw1 ho1 => by have h7 := sortst_any A6 (([] : List En).length) cap6 ([] : List En) w1 ho1 rfl (by simp); exact h7) rfl ?_)
  rintro M8 ⟨sm8, em8, lm8⟩
  refine ⟨_, _, inferInstance, inferInstance, ?_⟩
  refine g_nil ?_
  refine g_then ?_
  refine g_seq ?_
  refine g_region ?_
  refine s_q (q_move rfl) rfl ?_
  refine s_q (q_assign rfl) rfl ?_
  refine g_nil ?_
  refine g_then ?_
  refine g_ret ?_
  have hM8 : M8 = [] := List.eq_nil_of_length_eq_zero (by rw [lm8]; rfl)
  subst hM8
  exact fin1 rfl (.tmp rfl) (fun w' hw' => ⟨(A6, cap6), (by first | exact trivial | (dsimp only; exact trivial)), rfl, by have h9 := wok_sub (L' := [Res.row ((A6, cap6)).1 ([] : List En).length ((A6, cap6)).2 50 2 (([] : List En).map En.c)]) w' hw'; exact h9⟩) _ (.inl rfl)

set_option maxHeartbeats 400000 in
theorem blen_nil  (w : World)  : Pur Try.prog 12 [.pointer none] w (.int .i64 0) := by
  refine g_start Try.func12 rfl 9 rfl (by simp) ([]) [] (WOK.start _ _) _ rfl ?_
  refine g_seq ?_
  refine g_region ?_
  refine s_q (q_assign rfl) rfl ?_
  refine g_nil ?_
  refine g_then ?_
  refine g_seq ?_
  refine g_seq ?_
  refine g_region ?_
  refine s_q (q_move rfl) rfl ?_
  refine s_q (q_eqp (b := true) rfl rfl rfl) rfl ?_
  refine g_nil ?_
  refine g_then ?_
  refine g_true rfl ?_
  refine g_seq ?_
  refine g_region ?_
  refine s_q (q_assign rfl) rfl ?_
  refine g_nil ?_
  refine g_then ?_
  refine g_ret ?_
  refine g_then_ret ?_
  exact fin1 rfl (.tmp rfl) (fun w' hw' => ⟨by rfl, hw'.upd⟩) _ (.inl rfl)

set_option maxHeartbeats 400000 in
theorem valid_nil (e : Int) (w : World)  : Pur Try.prog 26 [.pointer none, .int .i64 e] w (.bool false) := by
  refine g_start Try.func26 rfl 15 rfl (by simp) ([]) [] (WOK.start _ _) _ rfl ?_
  refine g_seq ?_
  refine g_region ?_
  refine s_q (q_assign rfl) rfl ?_
  refine g_nil ?_
  refine g_then ?_
  refine g_seq ?_
  refine g_region ?_
  refine s_q (q_move rfl) rfl ?_
  refine s_q (q_nep (b := false) rfl rfl rfl) rfl ?_
  refine s_q (q_move rfl) rfl ?_
  refine g_gf rfl rfl rfl rfl ?_
  refine g_gf rfl rfl rfl rfl ?_
  refine s_q (q_pick_f rfl rfl) rfl ?_
  refine s_q (q_move rfl) rfl ?_
  refine g_gf rfl rfl rfl rfl ?_
  refine g_gf rfl rfl rfl rfl ?_
  refine s_q (q_pick_f rfl rfl) rfl ?_
  refine s_q (q_assign rfl) rfl ?_
  refine g_nil ?_
  refine g_then ?_
  refine g_ret ?_
  exact fin1 rfl (.tmp rfl) (fun w' hw' => ⟨by rfl, hw'.upd⟩) _ (.inl rfl)

set_option maxHeartbeats 400000 in
theorem bput_nil (e it : Int) (w : World)  : Pur Try.prog 17 [.pointer none, .int .i64 e, .int .i64 it] w (.bool false) := by
  refine g_start Try.func17 rfl 32 rfl (by simp) ([]) [] (WOK.start _ _) _ rfl ?_
  refine g_seq ?_
  refine g_region ?_
  refine s_q (q_assign rfl) rfl ?_
  refine g_nil ?_
  refine g_then ?_
  refine g_seq ?_
  refine g_seq ?_
  refine g_region ?_
  refine s_q (q_move rfl) rfl ?_
  refine s_q (q_move rfl) rfl ?_
  refine g_op (g_pure rfl (fun w1 hw1 => valid_nil _ w1) rfl ?_)
  refine s_q (q_not rfl) rfl ?_
  refine g_litb 11 (b := true) rfl (rfl) ?_
  refine g_nil ?_
  refine g_then ?_
  refine g_true rfl ?_
  refine g_seq ?_
  refine g_region ?_
  refine s_q (q_assign rfl) rfl ?_
  refine g_nil ?_
  refine g_then ?_
  refine g_ret ?_
  refine g_then_ret ?_
  exact fin1 rfl (.tmp rfl) (fun w' hw' => ⟨by rfl, hw'.upd⟩) _ (.inl rfl)

set_option maxHeartbeats 400000 in
theorem bdue_nil (e : Int) (w : World)  : Pur Try.prog 18 [.pointer none, .int .i64 e] w (.slice none 0 0) := by
  refine g_start Try.func18 rfl 31 rfl (by simp) ([]) [] (WOK.start _ _) _ rfl ?_
  refine g_seq ?_
  refine g_region ?_
  refine g_op (g_box rfl rfl rfl fun b3 => ?_)
  refine s_q (q_assign rfl) rfl ?_
  refine g_nil ?_
  refine g_then ?_
  refine g_seq ?_
  refine g_seq ?_
  refine g_region ?_
  refine s_q (q_move rfl) rfl ?_
  refine s_q (q_load rfl rfl) rfl ?_
  refine g_op (g_pure rfl (fun w1 hw1 => valid_nil _ w1) rfl ?_)
  refine s_q (q_not rfl) rfl ?_
  refine g_litb 10 (b := true) rfl (rfl) ?_
  refine g_nil ?_
  refine g_then ?_
  refine g_true rfl ?_
  refine g_seq ?_
  refine g_region ?_
  refine s_q (q_assign rfl) rfl ?_
  refine g_nil ?_
  refine g_then ?_
  refine g_ret ?_
  refine g_then_ret ?_
  exact fin1 rfl (.tmp rfl) (fun w' hw' => ⟨by rfl, hw'.upd⟩) _ (.inl rfl)

set_option maxHeartbeats 400000 in
theorem bload_nil (k : Int) (w : World)  : Pur Try.prog 15 [.pointer none, .int .i64 k] w (.int .i64 0) := by
  refine g_start Try.func15 rfl 28 rfl (by simp) ([]) [] (WOK.start _ _) _ rfl ?_
  refine g_seq ?_
  refine g_region ?_
  refine s_q (q_assign rfl) rfl ?_
  refine g_nil ?_
  refine g_then ?_
  refine g_seq ?_
  refine g_seq ?_
  refine g_region ?_
  refine s_q (q_move rfl) rfl ?_
  refine s_q (q_eqp (b := true) rfl rfl rfl) rfl ?_
  refine s_q (q_move rfl) rfl ?_
  refine g_gf rfl rfl rfl rfl ?_
  refine g_gf rfl rfl rfl rfl ?_
  refine s_q (q_pick_t rfl rfl) rfl ?_
  refine s_q (q_move rfl) rfl ?_
  refine g_gf rfl rfl rfl rfl ?_
  refine g_gf rfl rfl rfl rfl ?_
  refine g_gf rfl rfl rfl rfl ?_
  refine g_gf rfl rfl rfl rfl ?_
  refine g_gf rfl rfl rfl rfl ?_
  refine g_gf rfl rfl rfl rfl ?_
  refine g_gf rfl rfl rfl rfl ?_
  refine s_q (q_pick_t rfl rfl) rfl ?_
  refine g_nil ?_
  refine g_then ?_
  refine g_true rfl ?_
  refine g_seq ?_
  refine g_region ?_
  refine s_q (q_assign rfl) rfl ?_
  refine g_nil ?_
  refine g_then ?_
  refine g_ret ?_
  refine g_then_ret ?_
  exact fin1 rfl (.tmp rfl) (fun w' hw' => ⟨by rfl, hw'.upd⟩) _ (.inl rfl)
end Go.Proofs.Ytgbghjnlicldnaa
