/- TopForced: for every configuration and all operations the law returns true. No condition. (the texts of the proof, part 6 of 12) -/
import Derived.Test.YtdddiilocbbkkaaGreatM5
import Derived.Laws.Bits64b
import Derived.RecoverIn
import Derived.Lib.Mul64
import Derived.Laws.Strings
set_option linter.unusedVariables false
set_option linter.unusedSimpArgs false
namespace Go.Proofs.YtdddiilocbbkkaaGreat
open Go.RowKit Go.Eg
set_option maxHeartbeats 4000000
set_option synthInstance.maxSize 3000
set_option maxRecDepth 100000
abbrev rB_pp (b : Nat) (g : Rg) : Res := Res.blk b 195 (Rg.c g)
abbrev rW_pp (g : Rg) : Res := Res.row (Rg.A g) (Rg.s g).length (Rg.cap g) 106 2 (Rg.s g)
theorem grow_pp (b : Nat) (g : Rg)  (l : List (List Value)) (w : World) (hw : W0 [rB_pp b g, rW_pp g] w) (h : g.Rep 2 l) (hs : g.n < g.size) : Own2 (ι := Rg) Tryz.prog 182 [.pointer (some ⟨b, 0, none⟩)] w [rB_pp b g, rW_pp g] (fun x => x.Rep 2 l ∧ x.n < x.s.length ∧ x.size = g.size) (fun x => .tuple #[]) (fun x => []) (fun x => [rB_pp b x, rW_pp x]) := by
 refine g_st Tryz.func182 58 hw ?_
 refine rn [8,8] ?_
 refine dreg [] mixed rfl ?_
 refine rn [23,0,2,23,1,6,23,2,4,23,3,5,23,4,2,23,5,6,23,6,4,23,7,5,23,8,47,23,9,46,27,7] ?_
 refine zC rfl (fun h1 => ?_) (fun h1 => ?_)
 ·refine rn [11,13] ?_
  exact fin0 rfl (fun w' hw' => ⟨g, (by (try dsimp only); exact ⟨h, by simpa using h1, rfl⟩), by first | rfl | (simp_all; done), zA w' hw'⟩) _ (.inl rfl)
 ·refine rn [12,7,8] ?_
  refine dreg [] mixed rfl ?_
  have hn : g.n = g.s.length := by have := h.le; simp at h1; omega
  have q1 := h.sz; have q2 := h.hi; have q3 := h.fst; have q4 := h.cp
  refine rn [23,0,2,23,1,6,23,2,4,23,3,5,23,4,2,23,5,6,23,6,4,23,7,5,23,8,47] ?_
  refine dq 9 rfl (q_mulz rfl rfl (wi64 (by omega) (by omega))) ?_
  refine dq 10 rfl (yM rfl rfl (wi64 (by omega) (by omega))) ?_
  refine rn [23,11,58] ?_
  refine dop 12 rfl (g_make (n := (min g.size (2 * g.s.length + 1))) rfl rfl (by omega) (by omega) (by omega) rfl fun g26 => ?_)
  refine rn [23,13,3,27,7,8] ?_
  refine dregL (L0 := [Res.blk b 195 (Rg.c g), Res.row (Rg.A g) (Rg.s g).length (Rg.cap g) 106 2 (Rg.s g)]) [] mixed rfl zB ?_
  refine rn [23,0,2,23,1,2,23,2,6,23,3,4,23,4,5,23,5,2,23,6,6,23,7,4,23,8,5] ?_
  refine dq 9 rfl (xF (l := g.first) rfl rfl rfl (by omega)) ?_
  refine dop 10 rfl (g_copy (A := some ⟨g26, 0, none⟩) (n := (min g.size (2 * g.s.length + 1))) (cap := (min g.size (2 * g.s.length + 1))) (els := List.replicate (min g.size (2 * g.s.length + 1)) [Value.int .i64 0, Value.int .i64 0]) (l := 0) rfl rfl (fun _ => by simp) (Rdb.sub (Rdb.row 2 rfl rfl (fun c hc => (h.one c hc).1)) (l := g.first) (h := g.s.length) (by omega) (Nat.le_refl _) q4) (by omega) (fun c hc => (h.one c (List.mem_of_mem_drop (List.mem_of_mem_take hc))).2) rfl ?_)
  refine zX (L' := [Res.row (some ⟨g26, 0, none⟩) (min g.size (2 * g.s.length + 1)) (min g.size (2 * g.s.length + 1)) 106 2 (g.s.drop g.first ++ List.replicate ((min g.size (2 * g.s.length + 1)) - (g.s.length - g.first)) [Value.int .i64 0, Value.int .i64 0]), Res.blk b 195 (Rg.c g), Res.row (Rg.A g) (Rg.s g).length (Rg.cap g) 106 2 (Rg.s g)]) (by rw [copy1 _ (by omega) (by omega)]) ?_
  have ek : min (g.s.length - g.first) (min g.size (2 * g.s.length + 1)) = g.s.length - g.first := by omega
  refine rn [23,11,3,27,7,8] ?_
  refine dregL (L0 := [Res.blk b 195 (Rg.c g), Res.row (Rg.A g) (Rg.s g).length (Rg.cap g) 106 2 (Rg.s g)]) [] mixed rfl zB ?_
  refine rn [23,0,2,23,1,2] ?_
  refine dq 2 rfl (xF (l := g.s.length - g.first) rfl rfl (by omega) (by omega)) ?_
  refine rn [23,3,2,23,4,6,23,5,4,23,6,5,23,7,2,23,8,6,23,9,4,23,10,5] ?_
  refine dq 11 rfl (yV (h := g.first) rfl rfl rfl (by omega)) ?_
  refine dop 12 rfl (g_copy (A := some ⟨g26, 0, none⟩) (n := (min g.size (2 * g.s.length + 1))) (cap := (min g.size (2 * g.s.length + 1))) (els := g.s.drop g.first ++ List.replicate ((min g.size (2 * g.s.length + 1)) - (g.s.length - g.first)) [Value.int .i64 0, Value.int .i64 0]) (l := g.s.length - g.first) rfl rfl (fun h0 => by unfold subA; rw [if_neg (by omega)]; simp [yP]) (Rdb.sub (Rdb.row 2 rfl rfl (fun c hc => (h.one c hc).1)) (l := 0) (h := g.first) (by omega) (by omega) q4) (by omega) (fun c hc => (h.one c (List.mem_of_mem_drop (List.mem_of_mem_take hc))).2) rfl ?_)
  refine zX (L' := [Res.row (some ⟨g26, 0, none⟩) (Rg.s (Rg.grown g (some ⟨g26, 0, none⟩) [Value.int .i64 0, Value.int .i64 0])).length (Rg.cap (Rg.grown g (some ⟨g26, 0, none⟩) [Value.int .i64 0, Value.int .i64 0])) 106 2 (Rg.s (Rg.grown g (some ⟨g26, 0, none⟩) [Value.int .i64 0, Value.int .i64 0])), Res.blk b 195 (Rg.c g), Res.row (Rg.A g) (Rg.s g).length (Rg.cap g) 106 2 (Rg.s g)]) (by rw [copy2 _ (by omega) (by omega)]; simp only [Rg.grown, len_grown _ (show g.first ≤ g.s.length by omega) (show g.s.length ≤ (min g.size (2 * g.s.length + 1)) by omega)]) ?_
  refine rn [27,7,10,2,2,2,6,4] ?_
  refine g_op (zP rfl rfl rfl rfl rfl rfl rfl ?_)
  refine rn [6,4] ?_
  refine g_op (zP rfl rfl rfl rfl rfl rfl rfl ?_)
  refine rn [9] ?_
  have hgr := h.grown (some ⟨g26, 0, none⟩) (z := [Value.int .i64 0, Value.int .i64 0]) ⟨rfl, by simp [PP.c, Value.oneCell']⟩ hn hs
  have hgc : splice (splice g.c 0 [Value.slice (some ⟨g26, 0, none⟩) (min g.size (2 * g.s.length + 1)) (min g.size (2 * g.s.length + 1))]) 2 [Value.int .i64 0] = Rg.c (Rg.grown g (some ⟨g26, 0, none⟩) [Value.int .i64 0, Value.int .i64 0]) := by simp only [Rg.c, Rg.grown, len_grown _ (show g.first ≤ g.s.length by omega) (show g.s.length ≤ (min g.size (2 * g.s.length + 1)) by omega)]; simp [splice]
  refine zX (L' := [Res.row (some ⟨g26, 0, none⟩) (Rg.s (Rg.grown g (some ⟨g26, 0, none⟩) [Value.int .i64 0, Value.int .i64 0])).length (Rg.cap (Rg.grown g (some ⟨g26, 0, none⟩) [Value.int .i64 0, Value.int .i64 0])) 106 2 (Rg.s (Rg.grown g (some ⟨g26, 0, none⟩) [Value.int .i64 0, Value.int .i64 0])), Res.blk b 195 (Rg.c (Rg.grown g (some ⟨g26, 0, none⟩) [Value.int .i64 0, Value.int .i64 0])), Res.row (Rg.A g) (Rg.s g).length (Rg.cap g) 106 2 (Rg.s g)]) (by rw [← hgc]) ?_
  exact fin0 rfl (fun w' hw' => ⟨(Rg.grown g (some ⟨g26, 0, none⟩) [Value.int .i64 0, Value.int .i64 0]), (by first | exact ⟨hgr.1, hgr.2, rfl⟩ | (dsimp only; exact ⟨hgr.1, hgr.2, rfl⟩)), rfl, by have h9 := zB (L' := [Res.blk b 195 (Rg.c (Rg.grown g (some ⟨g26, 0, none⟩) [Value.int .i64 0, Value.int .i64 0])), Res.row (some ⟨g26, 0, none⟩) (Rg.s (Rg.grown g (some ⟨g26, 0, none⟩) [Value.int .i64 0, Value.int .i64 0])).length (Rg.cap (Rg.grown g (some ⟨g26, 0, none⟩) [Value.int .i64 0, Value.int .i64 0])) 106 2 (Rg.s (Rg.grown g (some ⟨g26, 0, none⟩) [Value.int .i64 0, Value.int .i64 0]))]) w' hw'; exact h9⟩) _ (.inr rfl)
theorem new_pp (n : Nat) (w : World) (hn : 1 ≤ n ∧ n ≤ 1048576) : Own2 (ι := (Nat × Rg)) Tryz.prog 41 [.int .i64 (n : Int)] w [] (fun x => x.2.Rep 2 (([] : List PP).map PP.c) ∧ x.2.size = n) (fun x => .pointer (some ⟨x.1, 0, none⟩)) (fun x => [rB_pp x.1 x.2, rW_pp x.2]) (fun x => []) := by
 refine g_st Tryz.func41 12 (WOK.start (fps []) _) ?_
 refine rn [1,3,0,8,1,2,46] ?_
 refine yD 4 (b := false) rfl (by simp; omega) ?_
 refine rn [2,22,2,22,55] ?_
 refine yD 7 (b := false) rfl (by simp; omega) ?_
 refine rn [42,0,20,12,7,1,2] ?_
 refine s_q (yH (c := Rg.c (Rg.init n)) rfl rfl) rfl ?_
 refine g_op (g_box rfl rfl rfl fun b11 => ?_)
 refine rn [3,0,11] ?_
 refine g_nores none 106 2 ?_
 exact fin1 rfl (.tmp rfl) (fun w' hw' => ⟨(b11, Rg.init n), (by first | exact ⟨.init hn.2, rfl⟩ | (dsimp only; exact ⟨.init hn.2, rfl⟩)), rfl, by have h9 := zB (L' := [Res.blk b11 195 (Rg.c (Rg.init n)), Res.row none 0 0 106 2 []]) w' hw'; exact h9⟩) _ (.inl rfl)
theorem len_pp (b : Nat) (g : Rg) (l : List PP) (w : World) (hw : W0 [rB_pp b g, rW_pp g] w) (h : g.Rep 2 (l.map PP.c)) : Keep Tryz.prog 95 [.pointer (some ⟨b, 0, none⟩)] w [rB_pp b g, rW_pp g] (.int .i64 (l.length : Int)) := by
 refine g_st Tryz.func95 9 hw ?_
 refine rn [1,3,0,8,1,2,50,0,20,12,7,1,2,6,4,5,3,0,11] ?_
 exact fin1 rfl (.tmp rfl) (fun w' hw' => ⟨(), trivial, by rw [h.num], zA w' hw'⟩) _ (.inl rfl)
theorem free_pp (b : Nat) (g : Rg) (l : List PP) (w : World) (hw : W0 [rB_pp b g, rW_pp g] w) (h : g.Rep 2 (l.map PP.c)) : Keep Tryz.prog 181 [.pointer (some ⟨b, 0, none⟩)] w [rB_pp b g, rW_pp g] (.int .i64 ((g.size - l.length : Nat) : Int)) := by
 refine g_st Tryz.func181 14 hw ?_
 have q1 := h.sz; have q2 := h.hi; have q3 := h.le
 refine rn [1,3,0,8,1,2,50,0,20,12,7,8] ?_
 refine dreg [] mixed rfl ?_
 refine rn [23,0,2,23,1,6,23,2,4,23,3,5,23,4,2,23,5,6,23,6,4,23,7,5] ?_
 refine dq 8 rfl (q_subn (a := (Rg.size g)) (b := (Rg.n g)) rfl rfl (by first | omega | (simp; omega) | (simp_all; omega)) (by first | omega | (simp; omega) | (simp_all; omega))) ?_
 refine rn [23,9,3,27,7,11] ?_
 exact fin1 rfl (.tmp rfl) (fun w' hw' => ⟨(), trivial, by rw [h.num], zA w' hw'⟩) _ (.inl rfl)
theorem peek_pp (b : Nat) (g : Rg) (l : List PP) (i : Int) (w : World) (hw : W0 [rB_pp b g, rW_pp g] w) (h : g.Rep 2 (l.map PP.c)) : Keep Tryz.prog 96 [.pointer (some ⟨b, 0, none⟩), .int .i64 i] w [rB_pp b g, rW_pp g] (.tuple [.agg (PP.c ((pk l i).getD (⟨0, 0⟩ : PP))).toArray, .bool (pk l i).isSome].toArray) := by
 refine g_st Tryz.func96 34 hw ?_
 refine rn [1] ?_
 refine g_op (zI rfl fun b4 => ?_)
 refine rn [3,0,1] ?_
 refine g_op (zI rfl fun b6 => ?_)
 refine rn [0,8,1,2,46,2] ?_
 refine zV 9 rfl (fun h1 => ?_) (fun h1 => ?_)
 ·refine rn [21,21,21,21,41,0,19,1,45,33,3,0,11,13] ?_
  exact fin2 rfl (.cellw rfl rfl) (.tmp rfl) (fun w' hw' => ⟨(), trivial, by have e : pk l i = none := (by unfold pk; rw [if_neg (by simp at h1; omega)]); rw [e]; rfl, zA w' hw'⟩) _ (.inl rfl)
 ·refine rn [22,2,22,2] ?_
  refine g_gt rfl rfl (zK _ rfl (fun w1 hw1 ho1 => by exact len_pp b g l w1 ho1 h) rfl ?_)
  refine rn [22,53,42,0] ?_
  refine zC rfl (fun h2 => ?_) (fun h2 => ?_)
  ·refine rn [1,45,33,3,0,11,13] ?_
   exact fin2 rfl (.cellw rfl rfl) (.tmp rfl) (fun w' hw' => ⟨(), trivial, by have e : pk l i = none := (by unfold pk; rw [if_pos (by simp at h1; omega), List.getElem?_eq_none (by simp at h1 h2; omega)]); rw [e]; rfl, zA w' hw'⟩) _ (.inl rfl)
  ·obtain ⟨i, rfl⟩ : ∃ i' : Nat, i = i' := ⟨i.toNat, by simp at h1; omega⟩
   have hi : i < l.length := by simp at h2; omega
   have q1 := h.sz; have q2 := h.hi; have q3 := h.le; have q4 := h.num; have q5 := h.fst
   refine rn [12,7,8] ?_
   refine dreg [18] mixed rfl ?_
   refine rn [23,0,2,23,1,6,23,2,4,23,3,5,23,4,2,23,5,6,23,6,4,23,7,5,23,8,2] ?_
   refine dq 9 rfl (q_addn (a := g.first) (b := i) rfl rfl (by omega)) ?_
   refine rn [23,10,2,23,11,6,23,12,4,23,13,5,23,14,47] ?_
   refine dq 15 rfl (q_remn rfl rfl (by omega)) ?_
   refine dq 16 rfl (zR (i := (g.first + i) % g.s.length) rfl rfl rfl (InRow.rdb (A := Rg.A g) rfl (fun c hc => (h.one c hc).1)) (h.idx hi)) ?_
   refine dq 17 rfl (zT (i := (g.first + i) % g.s.length) rfl (InRow.rdb (A := Rg.A g) rfl (fun c hc => (h.one c hc).1)) (h.at hi) rfl) ?_
   refine dop 18 rfl (zL rfl rfl rfl rfl rfl ?_)
   refine rn [24,19,3,28,7,11] ?_
   exact fin2 rfl (.cellw rfl rfl) (.tmp rfl) (fun w' hw' => ⟨(), trivial, by rw [pk_nat, List.getElem?_eq_getElem hi]; rfl, zA w' hw'⟩) _ (.inl rfl)
theorem pop_pp (b : Nat) (g : Rg) (l : List PP) (w : World) (hw : W0 [rB_pp b g, rW_pp g] w) (h : g.Rep 2 (l.map PP.c)) : Own2 (ι := Rg) Tryz.prog 234 [.pointer (some ⟨b, 0, none⟩)] w [rB_pp b g, rW_pp g] (fun x => x.Rep 2 (l.tail.map PP.c) ∧ x.size = g.size) (fun x => .tuple [.agg (PP.c (l.head?.getD (⟨0, 0⟩ : PP))).toArray, .bool l.head?.isSome].toArray) (fun x => []) (fun x => [rB_pp b x, rW_pp x]) := by
 refine g_st Tryz.func234 46 hw ?_
 refine rn [1] ?_
 refine g_op (zI rfl fun b2 => ?_)
 refine rn [3,0,1,2] ?_
 refine g_op (zK _ rfl (fun w1 hw1 ho1 => by exact peek_pp b g l _ w1 ho1 h) rfl ?_)
 refine rn [2,40,40] ?_
 refine g_op (zI rfl fun b4 => ?_)
 refine rn [33,3,0,8,1,2,0] ?_
 refine zC rfl (fun h1 => ?_) (fun h1 => ?_)
 ·obtain ⟨x, l', rfl⟩ : ∃ x l', l = x :: l' := by cases l with | nil => simp [pk] at h1 | cons x l' => exact ⟨x, l', rfl⟩
  obtain ⟨qf, qg, qn⟩ := h.hd
  have q1 := h.sz; have q2 := h.hi; have q3 := h.le
  refine rn [1] ?_
  refine g_op (zI rfl fun b6 => ?_)
  refine rn [0,8] ?_
  refine dreg [10] mixed rfl ?_
  refine rn [23,0,2,23,1,6,23,2,4,23,3,5,23,4,2,23,5,6,23,6,4,23,7,5,23,8,45] ?_
  refine dq 9 rfl (zR (i := g.first) rfl rfl rfl (InRow.rdb (A := Rg.A g) rfl (fun c hc => (h.one c hc).1)) qf) ?_
  refine dop 10 rfl (yA (A := Rg.A g) (i := g.first) (o := 0) (cs' := [Value.int .i64 0, Value.int .i64 0]) rfl rfl rfl rfl rfl qg (by decide) rfl rfl ?_)
  refine rn [28,7,8] ?_
  refine dreg [14] mixed rfl ?_
  refine rn [23,0,2,23,1,2,23,2,6,23,3,4,23,4,5,23,5,43,23,6,2,23,7,6,23,8,4,23,9,5,23,10,47] ?_
  refine dq 11 rfl (q_remn (a := ((Rg.first g) + 1)) (b := (Rg.s g).length) rfl rfl (by first | omega | (simp; omega) | (simp_all; omega))) ?_
  refine rn [24,12,6,23,13,4] ?_
  refine dop 14 rfl (zP rfl rfl rfl rfl rfl rfl rfl ?_)
  refine rn [28,7,10,2,6,4,5] ?_
  refine s_q (q_subn (a := (Rg.n g)) (b := 1) rfl rfl (by first | omega | (simp; omega) | (simp_all; omega)) (by first | omega | (simp; omega) | (simp_all; omega))) rfl ?_
  refine rn [6,4] ?_
  refine g_op (zP rfl rfl rfl rfl rfl rfl rfl ?_)
  refine rn [0,1,45,2,33,3,0,11] ?_
  refine zJ (b := b) (Rg.c (Rg.pop g [Value.int .i64 0, Value.int .i64 0])) (by simp [Rg.c, Rg.pop, splice]) ?_
  exact fin2 rfl (.cellw rfl rfl) (.tmp rfl) (fun w' hw' => ⟨(Rg.pop g [Value.int .i64 0, Value.int .i64 0]), (by first | exact ⟨h.pop ⟨rfl, by simp [PP.c, Value.oneCell']⟩, rfl⟩ | (dsimp only; exact ⟨h.pop ⟨rfl, by simp [PP.c, Value.oneCell']⟩, rfl⟩)), by simp [pk], by have h9 := zB (L' := [Res.blk b 195 (Rg.c (Rg.pop g [Value.int .i64 0, Value.int .i64 0])), Res.row (Rg.A g) (Rg.s g).length (Rg.cap g) 106 2 ((Rg.s g).set (Rg.first g) [Value.int .i64 0, Value.int .i64 0])]) w' hw'; show WOK _ _ [rB_pp b ((Rg.pop g [Value.int .i64 0, Value.int .i64 0])), rW_pp ((Rg.pop g [Value.int .i64 0, Value.int .i64 0]))] _; dsimp only [rB_pp, rW_pp]; rw [show (Rg.s (Rg.pop g [Value.int .i64 0, Value.int .i64 0])).length = (Rg.s g).length from by simp [Rg.pop]]; exact h9⟩) _ (.inl rfl)
 ·obtain rfl : l = [] := by cases l with | cons x l' => simp [pk] at h1 | nil => rfl
  refine rn [12,7,1,45,2,33,3,0,11] ?_
  exact fin2 rfl (.cellw rfl rfl) (.tmp rfl) (fun w' hw' => ⟨g, (by exact ⟨h, rfl⟩), by first | rfl | (simp_all; done), zA w' hw'⟩) _ (.inl rfl)
theorem push_pp (b : Nat) (g : Rg) (l : List PP) (els : List PP) (A : Option Addr) (cap : Nat) (w : World) (hw : W0 [rB_pp b g, rW_pp g] w) (h : g.Rep 2 (l.map PP.c)) (hrd : Rd w [rB_pp b g, rW_pp g] A els.length 2 (els.map PP.c)) (hcap : els.length ≤ cap) : Own2 (ι := Rg) Tryz.prog 118 [.pointer (some ⟨b, 0, none⟩), .slice A els.length cap] w [rB_pp b g, rW_pp g] (fun x => x.Rep 2 ((l ++ els.take (min els.length (Rg.size g - l.length))).map PP.c) ∧ x.size = g.size) (fun x => .int .i64 ((min els.length (Rg.size g - l.length)) : Nat)) (fun x => []) (fun x => [rB_pp b x, rW_pp x]) := by
 refine g_st Tryz.func118 53 hw ?_
 have q1 := h.sz; have q2 := h.hi; have q3 := h.le; have q4 := h.num
 refine rn [1,3,0,1,2,47,2] ?_
 refine g_op (zK _ rfl (fun w1 hw1 ho1 => by exact free_pp b g l w1 ho1 h) rfl ?_)
 refine s_q (q_minn (a := els.length) (b := (Rg.size g - (l).length)) rfl rfl) rfl ?_
 refine rn [3,0,8,1,2,2] ?_
 refine s_q (yV (h := (min els.length (Rg.size g - l.length))) rfl rfl rfl (by omega)) rfl ?_
 refine rn [47,2,0,14] ?_
 refine g_lk [0, 4, 5, 15, 16] (fun (x : Nat × Rg) => [(17, .int .i64 ((x.1 : Nat) : Int))]) (fun (x : Nat × Rg) => [rB_pp b x.2, rW_pp x.2]) (fun (x : Nat × Rg) => x.1 ≤ (min els.length (Rg.size g - l.length)) ∧ Rg.Rep x.2 2 ((l ++ els.take x.1).map PP.c) ∧ Rg.size x.2 = Rg.size g) (fun (x : Nat × Rg) => (min els.length (Rg.size g - l.length)) - x.1) (0, g) (by (try dsimp only); exact ⟨Nat.zero_le _, (by simpa using h), rfl⟩) ?_
 rintro ⟨k, g1⟩ ⟨le_k, hr, es⟩
 replace le_k : k ≤ (min els.length (Rg.size g - l.length)) := le_k
 replace hr : Rg.Rep g1 2 ((l ++ els.take k).map PP.c) := hr
 replace es : Rg.size g1 = Rg.size g := es
 refine zX (L' := [rB_pp b g1, rW_pp g1]) rfl ?_
 refine g_val 17 (v' := .int .i64 ((k : Nat) : Int)) rfl rfl ?_
 refine rn [1,46,0,8] ?_
 refine zC rfl (fun h1 => ?_) (fun h1 => ?_)
 ·have lt_k : k < (min els.length (Rg.size g - l.length)) := by have h9 := of_decide_eq_true h1; omega
  refine rn [12,7,8,14,1] ?_
  refine s_q (zR (i := k) rfl rfl rfl (hrd.rdb.h (cap := cap) (by omega) hcap) (by first | exact lt_k | omega)) rfl ?_
  refine s_q (zT (i := k) rfl (hrd.rdb.h (cap := cap) (by omega) hcap) (take_get (l := els) (m := (min els.length (Rg.size g - l.length))) (by first | exact lt_k | omega) (by omega)) rfl) rfl ?_
  refine g_op (zI rfl fun b7 => ?_)
  refine rn [33,0,1,2] ?_
  refine g_op (zH _ rfl (fun w1 hw1 ho1 => by exact grow_pp b g1 _ w1 ho1 hr (by have q1 := hr.num; simp at q1; omega)) rfl ?_)
  rintro g22 ⟨r22, n22, s22⟩
  refine ii ?_
  have q1 := r22.sz; have q2 := r22.hi; have q3 := r22.fst
  refine rn [0,8] ?_
  refine dreg [21] mixed rfl ?_
  refine rn [23,0,2,23,1,6,23,2,4,23,3,5,23,4,2,23,5,6,23,6,4,23,7,5,23,8,2,23,9,6,23,10,4,23,11,5] ?_
  refine dq 12 rfl (q_addn (a := (Rg.first g22)) (b := (Rg.n g22)) rfl rfl (by first | omega | (simp; omega) | (simp_all; omega))) ?_
  refine rn [23,13,2,23,14,6,23,15,4,23,16,5,23,17,47] ?_
  refine dq 18 rfl (q_remn (a := ((Rg.first g22) + (Rg.n g22))) (b := (Rg.s g22).length) rfl rfl (by first | omega | (simp; omega) | (simp_all; omega))) ?_
  refine rn [23,19,45] ?_
  refine dq 20 rfl (zR (i := (g22.first + g22.n) % g22.s.length) rfl rfl rfl (InRow.rdb (A := Rg.A g22) rfl (fun c hc => (r22.one c hc).1)) (Nat.mod_lt _ (by omega))) ?_
  refine dop 21 rfl (yA (A := Rg.A g22) (i := (g22.first + g22.n) % g22.s.length) (o := 0) (cs' := (PP.c els[k])) rfl rfl rfl rfl rfl (List.getElem?_eq_getElem (Nat.mod_lt _ (by omega))) (by simp [PP.c]) rfl (yE (r22.one _ (List.getElem_mem _)).1) ?_)
  refine rn [28,7,10,2,6,4,5,43,6,4] ?_
  refine g_op (zP rfl rfl rfl rfl rfl rfl rfl ?_)
  refine rn [9,15,7,10,43,2,9] ?_
  refine zX (L' := [Res.blk b7 106 (PP.c els[k]), rB_pp b (Rg.put g22 (PP.c els[k])), rW_pp (Rg.put g22 (PP.c els[k]))]) (by simp [rB_pp, rW_pp, Rg.put, Rg.c, splice]) ?_
  exact g_ag ((k + 1), (Rg.put g22 (PP.c els[k]))) (by (try dsimp only); exact ⟨(by first | exact lt_k | omega), (by rw [← app_take_succ (by omega)]; exact r22.put ⟨rfl, by simp [PP.c, Value.oneCell']⟩ n22), (by simp only [Rg.put]; omega)⟩)
 ·have eq_k : k = (min els.length (Rg.size g - l.length)) := by have h9 := of_decide_eq_false h1; omega
  refine rn [16] ?_
  refine zE (zE (zQ ?_))
  refine rn [7,1,2,3,0,11] ?_
  exact fin1 rfl (.tmp rfl) (fun w' hw' => ⟨g1, (by exact ⟨by rw [← eq_k]; exact hr, es⟩), by first | rfl | (simp_all; done), zA w' hw'⟩) _ (.inl rfl)
theorem all_pp (b : Nat) (g : Rg) (l : List PP) (w : World) (hw : W0 [rB_pp b g, rW_pp g] w) (h : g.Rep 2 (l.map PP.c)) : Own2 (ι := (Option Addr × Nat)) Tryz.prog 51 [.pointer (some ⟨b, 0, none⟩)] w [rB_pp b g, rW_pp g] (fun x => True) (fun x => .slice x.1 l.length x.2) (fun x => [Res.row x.1 l.length x.2 106 2 (l.map PP.c)]) (fun x => [rB_pp b g, rW_pp g]) := by
 refine g_st Tryz.func51 24 hw ?_
 have q1 := h.sz; have q2 := h.hi; have q3 := h.le; have q4 := h.num
 refine rn [1,3,0,1,3] ?_
 refine g_nilrow 3 106 2 rfl fun A3 cap3 hc3 => ?_
 refine rn [0,8,1,2] ?_
 refine g_op (zK _ rfl (fun w1 hw1 ho1 => by exact len_pp b g l w1 ho1 h) rfl ?_)
 refine rn [2,0,14] ?_
 refine zF (A := A3) ((l.take 0).map PP.c) (by simp) ?_
 refine g_lk [0, 2, 8] (fun (x : Nat × Option Addr × Nat) => [(3, .slice x.2.1 x.1 x.2.2), (9, .int .i64 ((x.1 : Nat) : Int))]) (fun (x : Nat × Option Addr × Nat) => [Res.row x.2.1 x.1 x.2.2 106 2 ((l.take x.1).map PP.c), rB_pp b g, rW_pp g]) (fun (x : Nat × Option Addr × Nat) => x.1 ≤ l.length) (fun (x : Nat × Option Addr × Nat) => l.length - x.1) (0, A3, cap3) (by (try dsimp only); exact Nat.zero_le _) ?_
 rintro ⟨k, A, cap⟩ le_k
 replace le_k : k ≤ l.length := le_k
 refine zX (L' := [Res.row A k cap 106 2 ((l.take k).map PP.c), rB_pp b g, rW_pp g]) rfl ?_
 refine g_val 3 (v' := .slice A k cap) rfl rfl ?_
 refine g_val 9 (v' := .int .i64 ((k : Nat) : Int)) rfl rfl ?_
 refine rn [1,46,0,8] ?_
 refine zC rfl (fun h1 => ?_) (fun h1 => ?_)
 ·have lt_k : k < l.length := by have h9 := of_decide_eq_true h1; omega
  refine rn [12,7,8,14,1,2,3,0,1,2,2] ?_
  refine g_op (zK _ rfl (fun w1 hw1 ho1 => by exact peek_pp b g l _ w1 ho1 h) rfl ?_)
  refine rn [2,40,40] ?_
  refine g_op (zI rfl fun b5 => ?_)
  refine rn [33] ?_
  refine zJ (b := b5) (PP.c l[k]) (by rw [pk_nat, List.getElem?_eq_getElem lt_k]; rfl) ?_
  refine rn [3,0,10,2,45] ?_
  refine g_op (g_lit rfl rfl rfl rfl rfl fun b20 => ?_)
  refine g_op (zY (A := A) (els := (l.take k).map PP.c) (news := [PP.c l[k]]) rfl rfl (InL.rdb (b := b20) rfl (by simp [PP.c]) rfl) (by simp [PP.c, Value.oneCell']) (by omega) rfl fun A' cap' => ⟨_, inferInstance, ?_⟩)
  refine zF (A := A') ((l.take (k + 1)).map PP.c) (map_take_succ lt_k) ?_
  refine rn [3,9,15,7,10,43,2,9] ?_
  exact g_ag ((k + 1), A', cap') (by (try dsimp only); exact (by first | exact lt_k | omega))
 ·have eq_k : k = l.length := by have h9 := of_decide_eq_false h1; omega
  subst eq_k
  refine rn [16] ?_
  refine zE (zE (zQ ?_))
  refine rn [7,1,2,3,0,11] ?_
  refine zF (A := A) (l.map PP.c) (by simp) ?_
  exact fin1 rfl (.tmp rfl) (fun w' hw' => ⟨(A, cap), (by exact trivial), rfl, by have h9 := zB (L' := [Res.row A l.length cap 106 2 (l.map PP.c), rB_pp b g, rW_pp g]) w' hw'; exact h9⟩) _ (.inl rfl)
abbrev rB_rq (b : Nat) (g : Rg) : Res := Res.blk b 197 (Rg.c g)
abbrev rW_rq (g : Rg) : Res := Res.row (Rg.A g) (Rg.s g).length (Rg.cap g) 110 2 (Rg.s g)
theorem grow_rq (b : Nat) (g : Rg)  (l : List (List Value)) (w : World) (hw : W0 [rB_rq b g, rW_rq g] w) (h : g.Rep 2 l) (hs : g.n < g.size) : Own2 (ι := Rg) Tryz.prog 184 [.pointer (some ⟨b, 0, none⟩)] w [rB_rq b g, rW_rq g] (fun x => x.Rep 2 l ∧ x.n < x.s.length ∧ x.size = g.size) (fun x => .tuple #[]) (fun x => []) (fun x => [rB_rq b x, rW_rq x]) := by
 refine g_st Tryz.func184 58 hw ?_
 refine rn [8,8] ?_
 refine dreg [] mixed rfl ?_
 refine rn [23,0,2,23,1,6,23,2,4,23,3,5,23,4,2,23,5,6,23,6,4,23,7,5,23,8,47,23,9,46,27,7] ?_
 refine zC rfl (fun h1 => ?_) (fun h1 => ?_)
 ·refine rn [11,13] ?_
  exact fin0 rfl (fun w' hw' => ⟨g, (by (try dsimp only); exact ⟨h, by simpa using h1, rfl⟩), by first | rfl | (simp_all; done), zA w' hw'⟩) _ (.inl rfl)
 ·refine rn [12,7,8] ?_
  refine dreg [] mixed rfl ?_
  have hn : g.n = g.s.length := by have := h.le; simp at h1; omega
  have q1 := h.sz; have q2 := h.hi; have q3 := h.fst; have q4 := h.cp
  refine rn [23,0,2,23,1,6,23,2,4,23,3,5,23,4,2,23,5,6,23,6,4,23,7,5,23,8,47] ?_
  refine dq 9 rfl (q_mulz rfl rfl (wi64 (by omega) (by omega))) ?_
  refine dq 10 rfl (yM rfl rfl (wi64 (by omega) (by omega))) ?_
  refine rn [23,11,58] ?_
  refine dop 12 rfl (g_make (n := (min g.size (2 * g.s.length + 1))) rfl rfl (by omega) (by omega) (by omega) rfl fun g26 => ?_)
  refine rn [23,13,3,27,7,8] ?_
  refine dregL (L0 := [Res.blk b 197 (Rg.c g), Res.row (Rg.A g) (Rg.s g).length (Rg.cap g) 110 2 (Rg.s g)]) [] mixed rfl zB ?_
  refine rn [23,0,2,23,1,2,23,2,6,23,3,4,23,4,5,23,5,2,23,6,6,23,7,4,23,8,5] ?_
  refine dq 9 rfl (xF (l := g.first) rfl rfl rfl (by omega)) ?_
  refine dop 10 rfl (g_copy (A := some ⟨g26, 0, none⟩) (n := (min g.size (2 * g.s.length + 1))) (cap := (min g.size (2 * g.s.length + 1))) (els := List.replicate (min g.size (2 * g.s.length + 1)) [Value.int .i64 0, Value.int .u64 0]) (l := 0) rfl rfl (fun _ => by simp) (Rdb.sub (Rdb.row 2 rfl rfl (fun c hc => (h.one c hc).1)) (l := g.first) (h := g.s.length) (by omega) (Nat.le_refl _) q4) (by omega) (fun c hc => (h.one c (List.mem_of_mem_drop (List.mem_of_mem_take hc))).2) rfl ?_)
  refine zX (L' := [Res.row (some ⟨g26, 0, none⟩) (min g.size (2 * g.s.length + 1)) (min g.size (2 * g.s.length + 1)) 110 2 (g.s.drop g.first ++ List.replicate ((min g.size (2 * g.s.length + 1)) - (g.s.length - g.first)) [Value.int .i64 0, Value.int .u64 0]), Res.blk b 197 (Rg.c g), Res.row (Rg.A g) (Rg.s g).length (Rg.cap g) 110 2 (Rg.s g)]) (by rw [copy1 _ (by omega) (by omega)]) ?_
  have ek : min (g.s.length - g.first) (min g.size (2 * g.s.length + 1)) = g.s.length - g.first := by omega
  refine rn [23,11,3,27,7,8] ?_
  refine dregL (L0 := [Res.blk b 197 (Rg.c g), Res.row (Rg.A g) (Rg.s g).length (Rg.cap g) 110 2 (Rg.s g)]) [] mixed rfl zB ?_
  refine rn [23,0,2,23,1,2] ?_
  refine dq 2 rfl (xF (l := g.s.length - g.first) rfl rfl (by omega) (by omega)) ?_
  refine rn [23,3,2,23,4,6,23,5,4,23,6,5,23,7,2,23,8,6,23,9,4,23,10,5] ?_
  refine dq 11 rfl (yV (h := g.first) rfl rfl rfl (by omega)) ?_
  refine dop 12 rfl (g_copy (A := some ⟨g26, 0, none⟩) (n := (min g.size (2 * g.s.length + 1))) (cap := (min g.size (2 * g.s.length + 1))) (els := g.s.drop g.first ++ List.replicate ((min g.size (2 * g.s.length + 1)) - (g.s.length - g.first)) [Value.int .i64 0, Value.int .u64 0]) (l := g.s.length - g.first) rfl rfl (fun h0 => by unfold subA; rw [if_neg (by omega)]; simp [yP]) (Rdb.sub (Rdb.row 2 rfl rfl (fun c hc => (h.one c hc).1)) (l := 0) (h := g.first) (by omega) (by omega) q4) (by omega) (fun c hc => (h.one c (List.mem_of_mem_drop (List.mem_of_mem_take hc))).2) rfl ?_)
  refine zX (L' := [Res.row (some ⟨g26, 0, none⟩) (Rg.s (Rg.grown g (some ⟨g26, 0, none⟩) [Value.int .i64 0, Value.int .u64 0])).length (Rg.cap (Rg.grown g (some ⟨g26, 0, none⟩) [Value.int .i64 0, Value.int .u64 0])) 110 2 (Rg.s (Rg.grown g (some ⟨g26, 0, none⟩) [Value.int .i64 0, Value.int .u64 0])), Res.blk b 197 (Rg.c g), Res.row (Rg.A g) (Rg.s g).length (Rg.cap g) 110 2 (Rg.s g)]) (by rw [copy2 _ (by omega) (by omega)]; simp only [Rg.grown, len_grown _ (show g.first ≤ g.s.length by omega) (show g.s.length ≤ (min g.size (2 * g.s.length + 1)) by omega)]) ?_
  refine rn [27,7,10,2,2,2,6,4] ?_
  refine g_op (zP rfl rfl rfl rfl rfl rfl rfl ?_)
  refine rn [6,4] ?_
  refine g_op (zP rfl rfl rfl rfl rfl rfl rfl ?_)
  refine rn [9] ?_
  have hgr := h.grown (some ⟨g26, 0, none⟩) (z := [Value.int .i64 0, Value.int .u64 0]) ⟨rfl, by simp [Rq.c, Value.oneCell']⟩ hn hs
  have hgc : splice (splice g.c 0 [Value.slice (some ⟨g26, 0, none⟩) (min g.size (2 * g.s.length + 1)) (min g.size (2 * g.s.length + 1))]) 2 [Value.int .i64 0] = Rg.c (Rg.grown g (some ⟨g26, 0, none⟩) [Value.int .i64 0, Value.int .u64 0]) := by simp only [Rg.c, Rg.grown, len_grown _ (show g.first ≤ g.s.length by omega) (show g.s.length ≤ (min g.size (2 * g.s.length + 1)) by omega)]; simp [splice]
  refine zX (L' := [Res.row (some ⟨g26, 0, none⟩) (Rg.s (Rg.grown g (some ⟨g26, 0, none⟩) [Value.int .i64 0, Value.int .u64 0])).length (Rg.cap (Rg.grown g (some ⟨g26, 0, none⟩) [Value.int .i64 0, Value.int .u64 0])) 110 2 (Rg.s (Rg.grown g (some ⟨g26, 0, none⟩) [Value.int .i64 0, Value.int .u64 0])), Res.blk b 197 (Rg.c (Rg.grown g (some ⟨g26, 0, none⟩) [Value.int .i64 0, Value.int .u64 0])), Res.row (Rg.A g) (Rg.s g).length (Rg.cap g) 110 2 (Rg.s g)]) (by rw [← hgc]) ?_
  exact fin0 rfl (fun w' hw' => ⟨(Rg.grown g (some ⟨g26, 0, none⟩) [Value.int .i64 0, Value.int .u64 0]), (by first | exact ⟨hgr.1, hgr.2, rfl⟩ | (dsimp only; exact ⟨hgr.1, hgr.2, rfl⟩)), rfl, by have h9 := zB (L' := [Res.blk b 197 (Rg.c (Rg.grown g (some ⟨g26, 0, none⟩) [Value.int .i64 0, Value.int .u64 0])), Res.row (some ⟨g26, 0, none⟩) (Rg.s (Rg.grown g (some ⟨g26, 0, none⟩) [Value.int .i64 0, Value.int .u64 0])).length (Rg.cap (Rg.grown g (some ⟨g26, 0, none⟩) [Value.int .i64 0, Value.int .u64 0])) 110 2 (Rg.s (Rg.grown g (some ⟨g26, 0, none⟩) [Value.int .i64 0, Value.int .u64 0]))]) w' hw'; exact h9⟩) _ (.inr rfl)
theorem new_rq (n : Nat) (w : World) (hn : 1 ≤ n ∧ n ≤ 1048576) : Own2 (ι := (Nat × Rg)) Tryz.prog 42 [.int .i64 (n : Int)] w [] (fun x => x.2.Rep 2 (([] : List Rq).map Rq.c) ∧ x.2.size = n) (fun x => .pointer (some ⟨x.1, 0, none⟩)) (fun x => [rB_rq x.1 x.2, rW_rq x.2]) (fun x => []) := by
 refine g_st Tryz.func42 12 (WOK.start (fps []) _) ?_
 refine rn [1,3,0,8,1,2,46] ?_
 refine yD 4 (b := false) rfl (by simp; omega) ?_
 refine rn [2,22,2,22,55] ?_
 refine yD 7 (b := false) rfl (by simp; omega) ?_
 refine rn [42,0,20,12,7,1,2] ?_
 refine s_q (yH (c := Rg.c (Rg.init n)) rfl rfl) rfl ?_
 refine g_op (g_box rfl rfl rfl fun b11 => ?_)
 refine rn [3,0,11] ?_
 refine g_nores none 110 2 ?_
 exact fin1 rfl (.tmp rfl) (fun w' hw' => ⟨(b11, Rg.init n), (by first | exact ⟨.init hn.2, rfl⟩ | (dsimp only; exact ⟨.init hn.2, rfl⟩)), rfl, by have h9 := zB (L' := [Res.blk b11 197 (Rg.c (Rg.init n)), Res.row none 0 0 110 2 []]) w' hw'; exact h9⟩) _ (.inl rfl)
theorem len_rq (b : Nat) (g : Rg) (l : List Rq) (w : World) (hw : W0 [rB_rq b g, rW_rq g] w) (h : g.Rep 2 (l.map Rq.c)) : Keep Tryz.prog 97 [.pointer (some ⟨b, 0, none⟩)] w [rB_rq b g, rW_rq g] (.int .i64 (l.length : Int)) := by
 refine g_st Tryz.func97 9 hw ?_
 refine rn [1,3,0,8,1,2,50,0,20,12,7,1,2,6,4,5,3,0,11] ?_
 exact fin1 rfl (.tmp rfl) (fun w' hw' => ⟨(), trivial, by rw [h.num], zA w' hw'⟩) _ (.inl rfl)
theorem free_rq (b : Nat) (g : Rg) (l : List Rq) (w : World) (hw : W0 [rB_rq b g, rW_rq g] w) (h : g.Rep 2 (l.map Rq.c)) : Keep Tryz.prog 183 [.pointer (some ⟨b, 0, none⟩)] w [rB_rq b g, rW_rq g] (.int .i64 ((g.size - l.length : Nat) : Int)) := by
 refine g_st Tryz.func183 14 hw ?_
 have q1 := h.sz; have q2 := h.hi; have q3 := h.le
 refine rn [1,3,0,8,1,2,50,0,20,12,7,8] ?_
 refine dreg [] mixed rfl ?_
 refine rn [23,0,2,23,1,6,23,2,4,23,3,5,23,4,2,23,5,6,23,6,4,23,7,5] ?_
 refine dq 8 rfl (q_subn (a := (Rg.size g)) (b := (Rg.n g)) rfl rfl (by first | omega | (simp; omega) | (simp_all; omega)) (by first | omega | (simp; omega) | (simp_all; omega))) ?_
 refine rn [23,9,3,27,7,11] ?_
 exact fin1 rfl (.tmp rfl) (fun w' hw' => ⟨(), trivial, by rw [h.num], zA w' hw'⟩) _ (.inl rfl)
theorem peek_rq (b : Nat) (g : Rg) (l : List Rq) (i : Int) (w : World) (hw : W0 [rB_rq b g, rW_rq g] w) (h : g.Rep 2 (l.map Rq.c)) : Keep Tryz.prog 98 [.pointer (some ⟨b, 0, none⟩), .int .i64 i] w [rB_rq b g, rW_rq g] (.tuple [.agg (Rq.c ((pk l i).getD (⟨0, 0⟩ : Rq))).toArray, .bool (pk l i).isSome].toArray) := by
 refine g_st Tryz.func98 34 hw ?_
 refine rn [1] ?_
 refine g_op (zI rfl fun b4 => ?_)
 refine rn [3,0,1] ?_
 refine g_op (zI rfl fun b6 => ?_)
 refine rn [0,8,1,2,46,2] ?_
 refine zV 9 rfl (fun h1 => ?_) (fun h1 => ?_)
 ·refine rn [21,21,21,21,41,0,19,1,45,33,3,0,11,13] ?_
  exact fin2 rfl (.cellw rfl rfl) (.tmp rfl) (fun w' hw' => ⟨(), trivial, by have e : pk l i = none := (by unfold pk; rw [if_neg (by simp at h1; omega)]); rw [e]; rfl, zA w' hw'⟩) _ (.inl rfl)
 ·refine rn [22,2,22,2] ?_
  refine g_gt rfl rfl (zK _ rfl (fun w1 hw1 ho1 => by exact len_rq b g l w1 ho1 h) rfl ?_)
  refine rn [22,53,42,0] ?_
  refine zC rfl (fun h2 => ?_) (fun h2 => ?_)
  ·refine rn [1,45,33,3,0,11,13] ?_
   exact fin2 rfl (.cellw rfl rfl) (.tmp rfl) (fun w' hw' => ⟨(), trivial, by have e : pk l i = none := (by unfold pk; rw [if_pos (by simp at h1; omega), List.getElem?_eq_none (by simp at h1 h2; omega)]); rw [e]; rfl, zA w' hw'⟩) _ (.inl rfl)
  ·obtain ⟨i, rfl⟩ : ∃ i' : Nat, i = i' := ⟨i.toNat, by simp at h1; omega⟩
   have hi : i < l.length := by simp at h2; omega
   have q1 := h.sz; have q2 := h.hi; have q3 := h.le; have q4 := h.num; have q5 := h.fst
   refine rn [12,7,8] ?_
   refine dreg [18] mixed rfl ?_
   refine rn [23,0,2,23,1,6,23,2,4,23,3,5,23,4,2,23,5,6,23,6,4,23,7,5,23,8,2] ?_
   refine dq 9 rfl (q_addn (a := g.first) (b := i) rfl rfl (by omega)) ?_
   refine rn [23,10,2,23,11,6,23,12,4,23,13,5,23,14,47] ?_
   refine dq 15 rfl (q_remn rfl rfl (by omega)) ?_
   refine dq 16 rfl (zR (i := (g.first + i) % g.s.length) rfl rfl rfl (InRow.rdb (A := Rg.A g) rfl (fun c hc => (h.one c hc).1)) (h.idx hi)) ?_
   refine dq 17 rfl (zT (i := (g.first + i) % g.s.length) rfl (InRow.rdb (A := Rg.A g) rfl (fun c hc => (h.one c hc).1)) (h.at hi) rfl) ?_
   refine dop 18 rfl (zL rfl rfl rfl rfl rfl ?_)
   refine rn [24,19,3,28,7,11] ?_
   exact fin2 rfl (.cellw rfl rfl) (.tmp rfl) (fun w' hw' => ⟨(), trivial, by rw [pk_nat, List.getElem?_eq_getElem hi]; rfl, zA w' hw'⟩) _ (.inl rfl)
theorem pop_rq (b : Nat) (g : Rg) (l : List Rq) (w : World) (hw : W0 [rB_rq b g, rW_rq g] w) (h : g.Rep 2 (l.map Rq.c)) : Own2 (ι := Rg) Tryz.prog 238 [.pointer (some ⟨b, 0, none⟩)] w [rB_rq b g, rW_rq g] (fun x => x.Rep 2 (l.tail.map Rq.c) ∧ x.size = g.size) (fun x => .tuple [.agg (Rq.c (l.head?.getD (⟨0, 0⟩ : Rq))).toArray, .bool l.head?.isSome].toArray) (fun x => []) (fun x => [rB_rq b x, rW_rq x]) := by
 refine g_st Tryz.func238 46 hw ?_
 refine rn [1] ?_
 refine g_op (zI rfl fun b2 => ?_)
 refine rn [3,0,1,2] ?_
 refine g_op (zK _ rfl (fun w1 hw1 ho1 => by exact peek_rq b g l _ w1 ho1 h) rfl ?_)
 refine rn [2,40,40] ?_
 refine g_op (zI rfl fun b4 => ?_)
 refine rn [33,3,0,8,1,2,0] ?_
 refine zC rfl (fun h1 => ?_) (fun h1 => ?_)
 ·obtain ⟨x, l', rfl⟩ : ∃ x l', l = x :: l' := by cases l with | nil => simp [pk] at h1 | cons x l' => exact ⟨x, l', rfl⟩
  obtain ⟨qf, qg, qn⟩ := h.hd
  have q1 := h.sz; have q2 := h.hi; have q3 := h.le
  refine rn [1] ?_
  refine g_op (zI rfl fun b6 => ?_)
  refine rn [0,8] ?_
  refine dreg [10] mixed rfl ?_
  refine rn [23,0,2,23,1,6,23,2,4,23,3,5,23,4,2,23,5,6,23,6,4,23,7,5,23,8,45] ?_
  refine dq 9 rfl (zR (i := g.first) rfl rfl rfl (InRow.rdb (A := Rg.A g) rfl (fun c hc => (h.one c hc).1)) qf) ?_
  refine dop 10 rfl (yA (A := Rg.A g) (i := g.first) (o := 0) (cs' := [Value.int .i64 0, Value.int .u64 0]) rfl rfl rfl rfl rfl qg (by decide) rfl rfl ?_)
  refine rn [28,7,8] ?_
  refine dreg [14] mixed rfl ?_
  refine rn [23,0,2,23,1,2,23,2,6,23,3,4,23,4,5,23,5,43,23,6,2,23,7,6,23,8,4,23,9,5,23,10,47] ?_
  refine dq 11 rfl (q_remn (a := ((Rg.first g) + 1)) (b := (Rg.s g).length) rfl rfl (by first | omega | (simp; omega) | (simp_all; omega))) ?_
  refine rn [24,12,6,23,13,4] ?_
  refine dop 14 rfl (zP rfl rfl rfl rfl rfl rfl rfl ?_)
  refine rn [28,7,10,2,6,4,5] ?_
  refine s_q (q_subn (a := (Rg.n g)) (b := 1) rfl rfl (by first | omega | (simp; omega) | (simp_all; omega)) (by first | omega | (simp; omega) | (simp_all; omega))) rfl ?_
  refine rn [6,4] ?_
  refine g_op (zP rfl rfl rfl rfl rfl rfl rfl ?_)
  refine rn [0,1,45,2,33,3,0,11] ?_
  refine zJ (b := b) (Rg.c (Rg.pop g [Value.int .i64 0, Value.int .u64 0])) (by simp [Rg.c, Rg.pop, splice]) ?_
  exact fin2 rfl (.cellw rfl rfl) (.tmp rfl) (fun w' hw' => ⟨(Rg.pop g [Value.int .i64 0, Value.int .u64 0]), (by first | exact ⟨h.pop ⟨rfl, by simp [Rq.c, Value.oneCell']⟩, rfl⟩ | (dsimp only; exact ⟨h.pop ⟨rfl, by simp [Rq.c, Value.oneCell']⟩, rfl⟩)), by simp [pk], by have h9 := zB (L' := [Res.blk b 197 (Rg.c (Rg.pop g [Value.int .i64 0, Value.int .u64 0])), Res.row (Rg.A g) (Rg.s g).length (Rg.cap g) 110 2 ((Rg.s g).set (Rg.first g) [Value.int .i64 0, Value.int .u64 0])]) w' hw'; show WOK _ _ [rB_rq b ((Rg.pop g [Value.int .i64 0, Value.int .u64 0])), rW_rq ((Rg.pop g [Value.int .i64 0, Value.int .u64 0]))] _; dsimp only [rB_rq, rW_rq]; rw [show (Rg.s (Rg.pop g [Value.int .i64 0, Value.int .u64 0])).length = (Rg.s g).length from by simp [Rg.pop]]; exact h9⟩) _ (.inl rfl)
 ·obtain rfl : l = [] := by cases l with | cons x l' => simp [pk] at h1 | nil => rfl
  refine rn [12,7,1,45,2,33,3,0,11] ?_
  exact fin2 rfl (.cellw rfl rfl) (.tmp rfl) (fun w' hw' => ⟨g, (by exact ⟨h, rfl⟩), by first | rfl | (simp_all; done), zA w' hw'⟩) _ (.inl rfl)
theorem push_rq (b : Nat) (g : Rg) (l : List Rq) (els : List Rq) (A : Option Addr) (cap : Nat) (w : World) (hw : W0 [rB_rq b g, rW_rq g] w) (h : g.Rep 2 (l.map Rq.c)) (hrd : Rd w [rB_rq b g, rW_rq g] A els.length 2 (els.map Rq.c)) (hcap : els.length ≤ cap) : Own2 (ι := Rg) Tryz.prog 120 [.pointer (some ⟨b, 0, none⟩), .slice A els.length cap] w [rB_rq b g, rW_rq g] (fun x => x.Rep 2 ((l ++ els.take (min els.length (Rg.size g - l.length))).map Rq.c) ∧ x.size = g.size) (fun x => .int .i64 ((min els.length (Rg.size g - l.length)) : Nat)) (fun x => []) (fun x => [rB_rq b x, rW_rq x]) := by
 refine g_st Tryz.func120 53 hw ?_
 have q1 := h.sz; have q2 := h.hi; have q3 := h.le; have q4 := h.num
 refine rn [1,3,0,1,2,47,2] ?_
 refine g_op (zK _ rfl (fun w1 hw1 ho1 => by exact free_rq b g l w1 ho1 h) rfl ?_)
 refine s_q (q_minn (a := els.length) (b := (Rg.size g - (l).length)) rfl rfl) rfl ?_
 refine rn [3,0,8,1,2,2] ?_
 refine s_q (yV (h := (min els.length (Rg.size g - l.length))) rfl rfl rfl (by omega)) rfl ?_
 refine rn [47,2,0,14] ?_
 refine g_lk [0, 4, 5, 15, 16] (fun (x : Nat × Rg) => [(17, .int .i64 ((x.1 : Nat) : Int))]) (fun (x : Nat × Rg) => [rB_rq b x.2, rW_rq x.2]) (fun (x : Nat × Rg) => x.1 ≤ (min els.length (Rg.size g - l.length)) ∧ Rg.Rep x.2 2 ((l ++ els.take x.1).map Rq.c) ∧ Rg.size x.2 = Rg.size g) (fun (x : Nat × Rg) => (min els.length (Rg.size g - l.length)) - x.1) (0, g) (by (try dsimp only); exact ⟨Nat.zero_le _, (by simpa using h), rfl⟩) ?_
 rintro ⟨k, g1⟩ ⟨le_k, hr, es⟩
 replace le_k : k ≤ (min els.length (Rg.size g - l.length)) := le_k
 replace hr : Rg.Rep g1 2 ((l ++ els.take k).map Rq.c) := hr
 replace es : Rg.size g1 = Rg.size g := es
 refine zX (L' := [rB_rq b g1, rW_rq g1]) rfl ?_
 refine g_val 17 (v' := .int .i64 ((k : Nat) : Int)) rfl rfl ?_
 refine rn [1,46,0,8] ?_
 refine zC rfl (fun h1 => ?_) (fun h1 => ?_)
 ·have lt_k : k < (min els.length (Rg.size g - l.length)) := by have h9 := of_decide_eq_true h1; omega
  refine rn [12,7,8,14,1] ?_
  refine s_q (zR (i := k) rfl rfl rfl (hrd.rdb.h (cap := cap) (by omega) hcap) (by first | exact lt_k | omega)) rfl ?_
  refine s_q (zT (i := k) rfl (hrd.rdb.h (cap := cap) (by omega) hcap) (take_get (l := els) (m := (min els.length (Rg.size g - l.length))) (by first | exact lt_k | omega) (by omega)) rfl) rfl ?_
  refine g_op (zI rfl fun b7 => ?_)
  refine rn [33,0,1,2] ?_
  refine g_op (zH _ rfl (fun w1 hw1 ho1 => by exact grow_rq b g1 _ w1 ho1 hr (by have q1 := hr.num; simp at q1; omega)) rfl ?_)
  rintro g22 ⟨r22, n22, s22⟩
  refine ii ?_
  have q1 := r22.sz; have q2 := r22.hi; have q3 := r22.fst
  refine rn [0,8] ?_
  refine dreg [21] mixed rfl ?_
  refine rn [23,0,2,23,1,6,23,2,4,23,3,5,23,4,2,23,5,6,23,6,4,23,7,5,23,8,2,23,9,6,23,10,4,23,11,5] ?_
  refine dq 12 rfl (q_addn (a := (Rg.first g22)) (b := (Rg.n g22)) rfl rfl (by first | omega | (simp; omega) | (simp_all; omega))) ?_
  refine rn [23,13,2,23,14,6,23,15,4,23,16,5,23,17,47] ?_
  refine dq 18 rfl (q_remn (a := ((Rg.first g22) + (Rg.n g22))) (b := (Rg.s g22).length) rfl rfl (by first | omega | (simp; omega) | (simp_all; omega))) ?_
  refine rn [23,19,45] ?_
  refine dq 20 rfl (zR (i := (g22.first + g22.n) % g22.s.length) rfl rfl rfl (InRow.rdb (A := Rg.A g22) rfl (fun c hc => (r22.one c hc).1)) (Nat.mod_lt _ (by omega))) ?_
  refine dop 21 rfl (yA (A := Rg.A g22) (i := (g22.first + g22.n) % g22.s.length) (o := 0) (cs' := (Rq.c els[k])) rfl rfl rfl rfl rfl (List.getElem?_eq_getElem (Nat.mod_lt _ (by omega))) (by simp [Rq.c]) rfl (yE (r22.one _ (List.getElem_mem _)).1) ?_)
  refine rn [28,7,10,2,6,4,5,43,6,4] ?_
  refine g_op (zP rfl rfl rfl rfl rfl rfl rfl ?_)
  refine rn [9,15,7,10,43,2,9] ?_
  refine zX (L' := [Res.blk b7 110 (Rq.c els[k]), rB_rq b (Rg.put g22 (Rq.c els[k])), rW_rq (Rg.put g22 (Rq.c els[k]))]) (by simp [rB_rq, rW_rq, Rg.put, Rg.c, splice]) ?_
  exact g_ag ((k + 1), (Rg.put g22 (Rq.c els[k]))) (by (try dsimp only); exact ⟨(by first | exact lt_k | omega), (by rw [← app_take_succ (by omega)]; exact r22.put ⟨rfl, by simp [Rq.c, Value.oneCell']⟩ n22), (by simp only [Rg.put]; omega)⟩)
 ·have eq_k : k = (min els.length (Rg.size g - l.length)) := by have h9 := of_decide_eq_false h1; omega
  refine rn [16] ?_
  refine zE (zE (zQ ?_))
  refine rn [7,1,2,3,0,11] ?_
  exact fin1 rfl (.tmp rfl) (fun w' hw' => ⟨g1, (by exact ⟨by rw [← eq_k]; exact hr, es⟩), by first | rfl | (simp_all; done), zA w' hw'⟩) _ (.inl rfl)
theorem all_rq (b : Nat) (g : Rg) (l : List Rq) (w : World) (hw : W0 [rB_rq b g, rW_rq g] w) (h : g.Rep 2 (l.map Rq.c)) : Own2 (ι := (Option Addr × Nat)) Tryz.prog 52 [.pointer (some ⟨b, 0, none⟩)] w [rB_rq b g, rW_rq g] (fun x => True) (fun x => .slice x.1 l.length x.2) (fun x => [Res.row x.1 l.length x.2 110 2 (l.map Rq.c)]) (fun x => [rB_rq b g, rW_rq g]) := by
 refine g_st Tryz.func52 24 hw ?_
 have q1 := h.sz; have q2 := h.hi; have q3 := h.le; have q4 := h.num
 refine rn [1,3,0,1,3] ?_
 refine g_nilrow 3 110 2 rfl fun A3 cap3 hc3 => ?_
 refine rn [0,8,1,2] ?_
 refine g_op (zK _ rfl (fun w1 hw1 ho1 => by exact len_rq b g l w1 ho1 h) rfl ?_)
 refine rn [2,0,14] ?_
 refine zF (A := A3) ((l.take 0).map Rq.c) (by simp) ?_
 refine g_lk [0, 2, 8] (fun (x : Nat × Option Addr × Nat) => [(3, .slice x.2.1 x.1 x.2.2), (9, .int .i64 ((x.1 : Nat) : Int))]) (fun (x : Nat × Option Addr × Nat) => [Res.row x.2.1 x.1 x.2.2 110 2 ((l.take x.1).map Rq.c), rB_rq b g, rW_rq g]) (fun (x : Nat × Option Addr × Nat) => x.1 ≤ l.length) (fun (x : Nat × Option Addr × Nat) => l.length - x.1) (0, A3, cap3) (by (try dsimp only); exact Nat.zero_le _) ?_
 rintro ⟨k, A, cap⟩ le_k
 replace le_k : k ≤ l.length := le_k
 refine zX (L' := [Res.row A k cap 110 2 ((l.take k).map Rq.c), rB_rq b g, rW_rq g]) rfl ?_
 refine g_val 3 (v' := .slice A k cap) rfl rfl ?_
 refine g_val 9 (v' := .int .i64 ((k : Nat) : Int)) rfl rfl ?_
 refine rn [1,46,0,8] ?_
 refine zC rfl (fun h1 => ?_) (fun h1 => ?_)
 ·have lt_k : k < l.length := by have h9 := of_decide_eq_true h1; omega
  refine rn [12,7,8,14,1,2,3,0,1,2,2] ?_
  refine g_op (zK _ rfl (fun w1 hw1 ho1 => by exact peek_rq b g l _ w1 ho1 h) rfl ?_)
  refine rn [2,40,40] ?_
  refine g_op (zI rfl fun b5 => ?_)
  refine rn [33] ?_
  refine zJ (b := b5) (Rq.c l[k]) (by rw [pk_nat, List.getElem?_eq_getElem lt_k]; rfl) ?_
  refine rn [3,0,10,2,45] ?_
  refine g_op (g_lit rfl rfl rfl rfl rfl fun b20 => ?_)
  refine g_op (zY (A := A) (els := (l.take k).map Rq.c) (news := [Rq.c l[k]]) rfl rfl (InL.rdb (b := b20) rfl (by simp [Rq.c]) rfl) (by simp [Rq.c, Value.oneCell']) (by omega) rfl fun A' cap' => ⟨_, inferInstance, ?_⟩)
  refine zF (A := A') ((l.take (k + 1)).map Rq.c) (map_take_succ lt_k) ?_
  refine rn [3,9,15,7,10,43,2,9] ?_
  exact g_ag ((k + 1), A', cap') (by (try dsimp only); exact (by first | exact lt_k | omega))
 ·have eq_k : k = l.length := by have h9 := of_decide_eq_false h1; omega
  subst eq_k
  refine rn [16] ?_
  refine zE (zE (zQ ?_))
  refine rn [7,1,2,3,0,11] ?_
  refine zF (A := A) (l.map Rq.c) (by simp) ?_
  exact fin1 rfl (.tmp rfl) (fun w' hw' => ⟨(A, cap), (by exact trivial), rfl, by have h9 := zB (L' := [Res.row A l.length cap 110 2 (l.map Rq.c), rB_rq b g, rW_rq g]) w' hw'; exact h9⟩) _ (.inl rfl)
def dueO (ep : Int) (l : List En) : List Int := (l.filter fun x => decide (x.e = ep)).map En.i
def keepE (ep : Int) (l : List En) : List En := l.filter fun x => !decide (x.e = ep)
theorem dueO_app (ep : Int) (a b : List En) : dueO ep (a ++ b) = dueO ep a ++ dueO ep b := by simp [dueO]
theorem keepE_app (ep : Int) (a b : List En) : keepE ep (a ++ b) = keepE ep a ++ keepE ep b := by simp [keepE]
theorem dueO_yes {ep : Int} {y : En} (h : y.e = ep) : dueO ep [y] = [y.i] := by simp [dueO, h]
theorem dueO_no {ep : Int} {y : En} (h : ¬ y.e = ep) : dueO ep [y] = [] := by simp [dueO, h]
theorem keepE_yes {ep : Int} {y : En} (h : y.e = ep) : keepE ep [y] = [] := by simp [keepE, h]
theorem keepE_no {ep : Int} {y : En} (h : ¬ y.e = ep) : keepE ep [y] = [y] := by simp [keepE, h]
theorem dueO_le (ep : Int) (l : List En) : (dueO ep l).length ≤ l.length := by simpa [dueO] using List.length_filter_le _ l
theorem due_keep (ep : Int) : ∀ l : List En, (dueO ep l).length + (keepE ep l).length = l.length
 | [] => rfl
 | y :: l => by
  have ih := due_keep ep l
  have e1 := dueO_app ep [y] l
  have e2 := keepE_app ep [y] l
  simp only [List.singleton_append] at e1 e2
  rw [e1, e2]
  by_cases h : y.e = ep
  ·rw [dueO_yes h, keepE_yes h]; simp; omega
  ·rw [dueO_no h, keepE_no h]; simp; omega
theorem dueO_none {ep : Int} {l : List En} (h : ∀ y ∈ l, ¬ y.e = ep) : dueO ep l = [] := by
 unfold dueO; rw [List.filter_eq_nil_iff.2 fun y hy => by simp [h y hy]]; rfl
theorem keepE_all {ep : Int} {l : List En} (h : ∀ y ∈ l, ¬ y.e = ep) : keepE ep l = l := List.filter_eq_self.2 fun y hy => by simp [h y hy]
theorem dueO_succ (ep : Int) {l : List En} {j : Nat} (h : j < l.length) : dueO ep (l.take j) ++ dueO ep [l[j]] = dueO ep (l.take (j + 1)) := by rw [← dueO_app, List.take_append_getElem h]
theorem keepE_succ (ep : Int) {l : List En} {j : Nat} (h : j < l.length) : keepE ep (l.take (j + 1)) = keepE ep (l.take j) ++ keepE ep [l[j]] := by rw [← keepE_app, List.take_append_getElem h]
theorem del_keep {ep : Int} {s l : List En} {i j : Nat} (hij : i < j) (hs : j < s.length) (hj : j < l.length) (htk : s.take i = keepE ep (l.take j)) (hdr : s.drop j = l.drop j) (h0 : ¬ s[j].e = ep) :
  (s.set i s[j]).take (i + 1) = keepE ep (l.take (j + 1)) ∧ (s.set i s[j]).drop (j + 1) = l.drop (j + 1) := by
 obtain ⟨h1, h2⟩ := drop_get hdr hs hj
 constructor
 ·rw [keepE_succ ep hj, ← h1, keepE_no h0, ← htk, List.set_eq_take_append_cons_drop, if_pos (by omega), show s.take i ++ s[j] :: s.drop (i + 1) = (s.take i ++ [s[j]]) ++ s.drop (i + 1) by simp]
  exact List.take_left' (by simp; omega)
 ·rw [List.drop_set_of_lt (by omega)]; exact h2
theorem del_drop {ep : Int} {s l : List En} {i j : Nat} (hs : j < s.length) (hj : j < l.length) (htk : s.take i = keepE ep (l.take j)) (hdr : s.drop j = l.drop j) (h0 : s[j].e = ep) : s.take i = keepE ep (l.take (j + 1)) ∧ s.drop (j + 1) = l.drop (j + 1) := by
 obtain ⟨h1, h2⟩ := drop_get hdr hs hj
 exact ⟨by rw [keepE_succ ep hj, ← h1, keepE_yes h0, List.append_nil]; exact htk, h2⟩
theorem keep_pre {ep : Int} {l : List En} {i : Nat} (hi : i < l.length) (hp : ∀ y ∈ l.take i, ¬ y.e = ep) (ha : (l[i]?.map En.e) = some ep) : l.take i = keepE ep (l.take (i + 1)) := by
 have h0 : l[i].e = ep := by rw [List.getElem?_eq_getElem hi] at ha; simpa using ha
 rw [keepE_succ ep hi, keepE_yes h0, List.append_nil]
 exact (keepE_all hp).symm
theorem bk_get {bs : List (Bk En)} {i : Nat} {A : Option Addr} {c : Nat} {els : List En} (h : bs[i]? = some ⟨A, c, els⟩) : (bs.map fun k : Bk En => [k.v])[i]? = some [Value.slice A els.length c] := by
 rw [List.getElem?_map, h]; rfl
theorem due1_any (eb ob : Nat) (ep : Int) (A : Option Addr) (cap : Nat) (o : List Int) (y : En) (w : World) (hw : W0 [Res.blk eb 3 [Value.int .i64 (ep)], Res.blk ob 38 [Value.slice A (o).length cap], Res.row A (o).length cap 3 1 ((o).map (fun v : Int => [Value.int .i64 v]))] w) (hob : o.length ≤ 1000000) : Own2 (ι := (Option Addr × Nat)) Tryz.prog 275 [.agg y.c.toArray, .pointer (some ⟨eb, 0, none⟩), .pointer (some ⟨ob, 0, none⟩)] w [Res.blk eb 3 [Value.int .i64 (ep)], Res.blk ob 38 [Value.slice A (o).length cap], Res.row A (o).length cap 3 1 ((o).map (fun v : Int => [Value.int .i64 v]))] (fun x => True) (fun x => .bool (decide (y.e = ep))) (fun x => []) (fun x => [Res.blk eb 3 [Value.int .i64 (ep)], Res.blk ob 38 [Value.slice x.1 ((o ++ dueO ep [y])).length x.2], Res.row x.1 ((o ++ dueO ep [y])).length x.2 3 1 (((o ++ dueO ep [y])).map (fun v : Int => [Value.int .i64 v]))]) := by
 refine g_st Tryz.func275 14 hw ?_
 refine rn [1] ?_
 refine g_op (g_box rfl rfl rfl fun b3 => ?_)
 refine rn [3,0,8,1,4,5,5,51,0] ?_
 refine zC rfl (fun h1 => ?_) (fun h1 => ?_)
 ·have hne : ¬ y.e = ep := by simpa using h1
  refine rn [1,3,0,11,13] ?_
  exact fin1 rfl (.tmp rfl) (fun w' hw' => ⟨(A, cap), (by exact trivial), by rw [decide_eq_false hne], by have h9 := zB (L' := [Res.blk eb 3 [Value.int .i64 (ep)], Res.blk ob 38 [Value.slice A (o).length cap], Res.row A (o).length cap 3 1 ((o).map (fun v : Int => [Value.int .i64 v]))]) w' hw'; show WOK _ _ [Res.blk eb 3 [Value.int .i64 (ep)], Res.blk ob 38 [Value.slice ((A, cap)).1 ((o ++ dueO ep [y])).length ((A, cap)).2], Res.row ((A, cap)).1 ((o ++ dueO ep [y])).length ((A, cap)).2 3 1 (((o ++ dueO ep [y])).map (fun v : Int => [Value.int .i64 v]))] _; simp only [dueO_no hne, List.append_nil]; exact h9⟩) _ (.inl rfl)
 ·have heq : y.e = ep := by simpa using h1
  refine rn [12,7,1,5,4,5] ?_
  refine g_op (g_lit rfl rfl rfl rfl rfl fun b12 => ?_)
  refine zJ (b := b12) ((([(y).i] : List Int).map (fun v : Int => [Value.int .i64 v])).flatten) rfl ?_
  refine g_op (zY (A := A) (els := (o).map (fun v : Int => [Value.int .i64 v])) (news := (([(y).i] : List Int).map (fun v : Int => [Value.int .i64 v]))) rfl rfl (InL.rdb (b := b12) rfl (by simp) rfl) (yG (c := (fun v : Int => [Value.int .i64 v])) (by intro x; simp [Value.oneCell']) _) (by omega) rfl fun A13 cap13 => ⟨_, inferInstance, ?_⟩)
  refine zF (A := A13) (((o ++ [(y).i])).map (fun v : Int => [Value.int .i64 v])) (by first | rfl | exact List.map_append.symm | (simp; done)) ?_
  refine g_op (zP rfl rfl rfl rfl rfl rfl rfl ?_)
  refine yC (A := A13) (o ++ [y.i]).length (by simp) ?_
  refine zJ (b := ob) [Value.slice A13 (o ++ [y.i]).length cap13] (by simp [splice]) ?_
  refine rn [0,1,3,0,11] ?_
  exact fin1 rfl (.tmp rfl) (fun w' hw' => ⟨(A13, cap13), (by exact trivial), by rw [decide_eq_true heq], by have h9 := zB (L' := [Res.blk eb 3 [Value.int .i64 (ep)], Res.blk ob 38 [Value.slice A13 ((o ++ [y.i])).length cap13], Res.row A13 ((o ++ [y.i])).length cap13 3 1 (((o ++ [y.i])).map (fun v : Int => [Value.int .i64 v]))]) w' hw'; show WOK _ _ [Res.blk eb 3 [Value.int .i64 (ep)], Res.blk ob 38 [Value.slice ((A13, cap13)).1 ((o ++ dueO ep [y])).length ((A13, cap13)).2], Res.row ((A13, cap13)).1 ((o ++ dueO ep [y])).length ((A13, cap13)).2 3 1 (((o ++ dueO ep [y])).map (fun v : Int => [Value.int .i64 v]))] _; simp only [dueO_yes heq]; exact h9⟩) _ (.inl rfl)
theorem index_any (eb ob : Nat) (ep : Int) (O : Option Addr) (oc : Nat) (o : List Int) (A : Option Addr) (n cap : Nat) (l : List En) (w : World) (hw : W0 [Res.row A n cap 297 2 ((l).map En.c), Res.blk eb 3 [Value.int .i64 (ep)], Res.blk ob 38 [Value.slice O (o).length oc], Res.row O (o).length oc 3 1 ((o).map (fun v : Int => [Value.int .i64 v]))] w) (hn : n = l.length) (hcap : o.length + n ≤ 1000000) : Own2 (ι := (Int × Option Addr × Nat × List Int)) Tryz.prog 314 [.slice A n cap, .func (.func 275) #[] [Value.pointer (some ⟨eb, 0, none⟩), Value.pointer (some ⟨ob, 0, none⟩)].toArray] w [Res.row A n cap 297 2 ((l).map En.c), Res.blk eb 3 [Value.int .i64 (ep)], Res.blk ob 38 [Value.slice O (o).length oc], Res.row O (o).length oc 3 1 ((o).map (fun v : Int => [Value.int .i64 v]))] (fun x => ((x.1 = -1 ∧ (∀ y ∈ l, ¬ y.e = ep)) ∧ x.2.2.2 = o ++ dueO ep l) ∨ (∃ k : Nat, x.1 = k ∧ k < l.length ∧ (∀ y ∈ l.take k, ¬ y.e = ep) ∧ (l[k]?.map En.e) = some ep ∧ x.2.2.2 = o ++ dueO ep (l.take (k + 1)))) (fun x => .int .i64 x.1) (fun x => []) (fun x => [Res.row A n cap 297 2 ((l).map En.c), Res.blk eb 3 [Value.int .i64 (ep)], Res.blk ob 38 [Value.slice x.2.1 (x.2.2.2).length x.2.2.1], Res.row x.2.1 (x.2.2.2).length x.2.2.1 3 1 ((x.2.2.2).map (fun v : Int => [Value.int .i64 v]))]) := by
 refine g_st Tryz.func314 19 hw ?_
 refine rn [1,3,0,8,1,2,47,2,0,14] ?_
 refine g_lk [0, 1, 4, 7] (fun (x : Nat × Option Addr × Nat × List Int) => [(8, .int .i64 ((x.1 : Nat) : Int))]) (fun (x : Nat × Option Addr × Nat × List Int) => [Res.row A n cap 297 2 ((l).map En.c), Res.blk eb 3 [Value.int .i64 (ep)], Res.blk ob 38 [Value.slice x.2.1 (x.2.2.2).length x.2.2.1], Res.row x.2.1 (x.2.2.2).length x.2.2.1 3 1 ((x.2.2.2).map (fun v : Int => [Value.int .i64 v]))]) (fun (x : Nat × Option Addr × Nat × List Int) => x.1 ≤ l.length ∧ x.2.2.2 = o ++ dueO ep (l.take x.1) ∧ (∀ y ∈ l.take x.1, ¬ y.e = ep)) (fun (x : Nat × Option Addr × Nat × List Int) => l.length - x.1) (0, O, oc, o) (by (try dsimp only); exact ⟨Nat.zero_le _, (by simp [dueO]), (by simp)⟩) ?_
 rintro ⟨k, O1, oc1, o1⟩ ⟨le_k, ho, hz⟩
 replace le_k : k ≤ l.length := le_k
 replace ho : o1 = o ++ dueO ep (l.take k) := ho
 replace hz : ∀ y ∈ l.take k, ¬ y.e = ep := hz
 refine zX (L' := [Res.row A n cap 297 2 ((l).map En.c), Res.blk eb 3 [Value.int .i64 (ep)], Res.blk ob 38 [Value.slice O1 (o1).length oc1], Res.row O1 (o1).length oc1 3 1 ((o1).map (fun v : Int => [Value.int .i64 v]))]) rfl ?_
 refine g_val 8 (v' := .int .i64 ((k : Nat) : Int)) rfl rfl ?_
 refine rn [1,46,0,8] ?_
 refine zC rfl (fun h1 => ?_) (fun h1 => ?_)
 ·have lt_k : k < l.length := by have h9 := of_decide_eq_true h1; omega
  refine rn [12,7,8,14,1,2,3,0,1,2,2,2] ?_
  refine s_q (zR (i := k) rfl rfl rfl (InRow.rdb (A := A) (els := l.map En.c) (by simpa using hn) (zM (c := En.c) (fun _ => rfl) _)) (by first | exact lt_k | omega)) rfl ?_
  refine s_q (zT (i := k) rfl (InRow.rdb (A := A) (els := l.map En.c) (by simpa using hn) (zM (c := En.c) (fun _ => rfl) _)) (zS (by first | exact (by first | exact lt_k | omega) | omega | (simp_all; done) | (simp_all; omega))) rfl) rfl ?_
  refine g_op (g_ownV [Res.blk eb 3 [Value.int .i64 (ep)], Res.blk ob 38 [Value.slice O1 (o1).length oc1], Res.row O1 (o1).length oc1 3 1 ((o1).map (fun v : Int => [Value.int .i64 v]))] rfl rfl (fun w1 hw1 ho1 => by have h7 := due1_any eb ob ep O1 oc1 o1 (l[k]) w1 ho1 (by rw [ho]; have h9 := dueO_le ep (l.take k); simp at h9 ⊢; omega); exact h7) rfl ?_)
  rintro ⟨O16, oc16⟩ _
  refine ii ?_
  refine rn [0] ?_
  refine zC rfl (fun h2 => ?_) (fun h2 => ?_)
  ·have heq : l[k].e = ep := by simpa using h2
   refine rn [1,2,3,0,11] ?_
   refine zN (zD (zD (zN (zD ?_))))
   exact fin1 rfl (.tmp rfl) (fun w' hw' => ⟨(((k : Nat) : Int), O16, oc16, (o1 ++ dueO ep [l[k]])), (by (try dsimp only); exact .inr ⟨k, rfl, lt_k, hz, by rw [List.getElem?_eq_getElem lt_k]; simp [heq], by rw [ho, List.append_assoc, dueO_succ ep lt_k]⟩), rfl, zA w' hw'⟩) _ (.inl rfl)
  ·have hne : ¬ l[k].e = ep := by simpa using h2
   refine rn [12,15,7,10,43,2,9] ?_
   exact g_ag ((k + 1), O16, oc16, (o1 ++ dueO ep [l[k]])) (by (try dsimp only); exact ⟨(by first | exact lt_k | omega), (by rw [ho, List.append_assoc, dueO_succ ep lt_k]), (by rw [← List.take_append_getElem lt_k]; intro y hy; rcases List.mem_append.1 hy with h | h; exact hz y h; simp at h; subst h; exact hne)⟩)
 ·have eq_k : k = l.length := by have h9 := of_decide_eq_false h1; omega
  refine rn [16] ?_
  refine zE (zE (zQ ?_))
  refine rn [7,1,3,0,11] ?_
  exact fin1 rfl (.tmp rfl) (fun w' hw' => ⟨((-1 : Int), O1, oc1, o1), (by (try dsimp only); exact .inl ⟨⟨rfl, by rw [eq_k, List.take_length] at hz; exact hz⟩, by rw [ho, eq_k, List.take_length]⟩), rfl, zA w' hw'⟩) _ (.inl rfl)
theorem delete_any (eb ob : Nat) (ep : Int) (O : Option Addr) (oc : Nat) (o : List Int) (A : Option Addr) (n cap : Nat) (l : List En) (w : World) (hw : W0 [Res.row A n cap 297 2 ((l).map En.c), Res.blk eb 3 [Value.int .i64 (ep)], Res.blk ob 38 [Value.slice O (o).length oc], Res.row O (o).length oc 3 1 ((o).map (fun v : Int => [Value.int .i64 v]))] w) (hn : n = l.length) (hcap : o.length + n ≤ 1000000) : Own2 (ι := (Option Addr × Nat × Option Addr × Nat)) Tryz.prog 274 [.slice A n cap, .func (.func 275) #[] [Value.pointer (some ⟨eb, 0, none⟩), Value.pointer (some ⟨ob, 0, none⟩)].toArray] w [Res.row A n cap 297 2 ((l).map En.c), Res.blk eb 3 [Value.int .i64 (ep)], Res.blk ob 38 [Value.slice O (o).length oc], Res.row O (o).length oc 3 1 ((o).map (fun v : Int => [Value.int .i64 v]))] (fun x => True) (fun x => .slice x.1 (keepE ep l).length x.2.1) (fun x => []) (fun x => [Res.row x.1 (keepE ep l).length x.2.1 297 2 (((keepE ep l)).map En.c), Res.blk eb 3 [Value.int .i64 (ep)], Res.blk ob 38 [Value.slice x.2.2.1 ((o ++ dueO ep l)).length x.2.2.2], Res.row x.2.2.1 ((o ++ dueO ep l)).length x.2.2.2 3 1 (((o ++ dueO ep l)).map (fun v : Int => [Value.int .i64 v]))]) := by
 refine g_st Tryz.func274 42 hw ?_
 refine rn [1,3,0,1,2,2] ?_
 refine g_op (zH _ rfl (fun w1 hw1 ho1 => by have h7 := index_any eb ob ep O oc o A (n) (cap) (l) w1 ho1 (by first | assumption | (simp; done)) (by omega); exact h7) rfl ?_)
 rintro ⟨z, O10, oc10, o10⟩ hz
 refine ii ?_
 simp only at hz
 refine rn [3,0,8,1,2,44,0] ?_
 refine zC rfl (fun h1 => ?_) (fun h1 => ?_)
 ·obtain ⟨hall, ho10⟩ : (∀ y ∈ l, ¬ y.e = ep) ∧ o10 = o ++ dueO ep l := by
    rcases hz with h | ⟨k, hk, _⟩
    · exact ⟨h.1.2, h.2⟩
    · exfalso; rw [hk] at h1; have h9 := of_decide_eq_true h1; omega
  refine rn [1,2,3,0,11,13] ?_
  subst ho10
  refine yC (A := A) (keepE ep l).length (by rw [keepE_all hall, hn]) ?_
  refine zF (A := A) ((keepE ep l).map En.c) (by rw [keepE_all hall]) ?_
  exact fin1 rfl (.tmp rfl) (fun w' hw' => ⟨(A, cap, O10, oc10), (by exact trivial), by rw [keepE_all hall, hn], zA w' hw'⟩) _ (.inl rfl)
 ·obtain ⟨i, rfl, hi, hpre, ha, ho10⟩ : ∃ k : Nat, z = k ∧ k < l.length ∧ (∀ y ∈ l.take k, ¬ y.e = ep) ∧ (l[k]?.map En.e) = some ep ∧ o10 = o ++ dueO ep (l.take (k + 1)) := by
    rcases hz with h | h
    · exact absurd h.1.1 (by simpa using h1)
    · exact h
  refine rn [12,7,8,1,2,43,3,0,14] ?_
  refine g_lk [0, 1, 4] (fun (x : Nat × Nat × List En × Option Addr × Nat × List Int) => [(5, .int .i64 ((x.1 : Nat) : Int)), (6, .int .i64 ((x.2.1 : Nat) : Int))]) (fun (x : Nat × Nat × List En × Option Addr × Nat × List Int) => [Res.row A n cap 297 2 ((x.2.2.1).map En.c), Res.blk eb 3 [Value.int .i64 (ep)], Res.blk ob 38 [Value.slice x.2.2.2.1 (x.2.2.2.2.2).length x.2.2.2.2.1], Res.row x.2.2.2.1 (x.2.2.2.2.2).length x.2.2.2.2.1 3 1 ((x.2.2.2.2.2).map (fun v : Int => [Value.int .i64 v]))]) (fun (x : Nat × Nat × List En × Option Addr × Nat × List Int) => x.1 < x.2.1 ∧ x.2.1 ≤ l.length ∧ (x.2.2.1).length = l.length ∧ (x.2.2.1).take x.1 = keepE ep (l.take x.2.1) ∧ (x.2.2.1).drop x.2.1 = l.drop x.2.1 ∧ x.2.2.2.2.2 = o ++ dueO ep (l.take x.2.1)) (fun (x : Nat × Nat × List En × Option Addr × Nat × List Int) => l.length - x.2.1) (i, (i + 1), l, O10, oc10, o10) (by (try dsimp only); exact ⟨(by omega), (by omega), rfl, (keep_pre hi hpre ha), rfl, ho10⟩) ?_
  rintro ⟨i1, j, s1, O1, oc1, o1⟩ ⟨hij, hjn, hls, htk, hdr, ho⟩
  replace hij : i1 < j := hij
  replace hjn : j ≤ l.length := hjn
  replace hls : (s1).length = l.length := hls
  replace htk : (s1).take i1 = keepE ep (l.take j) := htk
  replace hdr : (s1).drop j = l.drop j := hdr
  replace ho : o1 = o ++ dueO ep (l.take j) := ho
  refine zX (L' := [Res.row A n cap 297 2 ((s1).map En.c), Res.blk eb 3 [Value.int .i64 (ep)], Res.blk ob 38 [Value.slice O1 (o1).length oc1], Res.row O1 (o1).length oc1 3 1 ((o1).map (fun v : Int => [Value.int .i64 v]))]) rfl ?_
  refine g_val 5 (v' := .int .i64 ((i1 : Nat) : Int)) rfl rfl ?_
  refine g_val 6 (v' := .int .i64 ((j : Nat) : Int)) rfl rfl ?_
  refine rn [8,1,2,2,47,46,0] ?_
  refine zC rfl (fun h2 => ?_) (fun h2 => ?_)
  ·have lt_j : j < l.length := by have h9 := of_decide_eq_true h2; omega
   have lt_s : j < s1.length := by omega
   refine rn [12,7,8,14,1,2,2] ?_
   refine s_q (zR (i := j) rfl rfl rfl (InRow.rdb (A := A) (els := (s1).map En.c) (by first | rfl | assumption | (simp; done) | (simp_all; done) | (simp; omega) | (simp_all; omega)) (zM (c := En.c) (fun _ => rfl) _)) (by first | omega | (simp; done) | (simp; omega))) rfl ?_
   refine s_q (zT (i := j) rfl (InRow.rdb (A := A) (els := (s1).map En.c) (by first | rfl | assumption | (simp; done) | (simp_all; done) | (simp; omega) | (simp_all; omega)) (zM (c := En.c) (fun _ => rfl) _)) (zS (by first | assumption | omega | (simp_all; done) | (simp_all; omega))) rfl) rfl ?_
   refine g_op (zI rfl fun b7 => ?_)
   refine rn [33,0,1,2,45] ?_
   refine g_op (g_ownV [Res.blk eb 3 [Value.int .i64 (ep)], Res.blk ob 38 [Value.slice O1 (o1).length oc1], Res.row O1 (o1).length oc1 3 1 ((o1).map (fun v : Int => [Value.int .i64 v]))] rfl rfl (fun w1 hw1 ho1 => by have h7 := due1_any eb ob ep O1 oc1 o1 ((s1)[j]) w1 ho1 (by rw [ho]; have h9 := dueO_le ep (l.take j); simp at h9 ⊢; omega); exact h7) rfl ?_)
   rintro ⟨O28, oc28⟩ _
   refine ii ?_
   refine rn [48,0] ?_
   refine zC rfl (fun h3 => ?_) (fun h3 => ?_)
   ·have hne : ¬ s1[j].e = ep := by simpa using h3
    refine rn [1,2,2,45] ?_
    refine s_q (zR (i := i1) rfl rfl rfl (InRow.rdb (A := A) (els := (s1).map En.c) (by first | rfl | assumption | (simp; done) | (simp_all; done) | (simp; omega) | (simp_all; omega)) (zM (c := En.c) (fun _ => rfl) _)) (by first | omega | (simp; done) | (simp; omega))) rfl ?_
    refine g_op (yA (A := A) (i := i1) (o := 0) (cs' := En.c ((s1[j]))) rfl rfl rfl rfl rfl (zS (by first | assumption | omega | (simp_all; done) | (simp_all; omega))) (by first | (simp; done) | exact Nat.le_refl _) rfl (yE rfl) ?_)
    refine zF (A := A) ((s1.set i1 (s1[j])).map En.c) (by simp only [List.map_set]) ?_
    refine rn [0,10,2,43,3,9,15,7,10,2,43,3,9] ?_
    exact g_again ((i1 + 1), (j + 1), (s1.set i1 s1[j]), O28, oc28, (o1 ++ dueO ep [(s1)[j]])) (by (try dsimp only); exact ⟨(by omega), (by omega), (by simpa using hls), (del_keep hij lt_s lt_j htk hdr hne).1, (del_keep hij lt_s lt_j htk hdr hne).2, (by rw [ho, List.append_assoc, (drop_get hdr lt_s lt_j).1, dueO_succ ep lt_j])⟩) (by dsimp only; omega) (by repeat (first | exact trivial | refine ⟨rfl, ?_⟩)) zB
   ·have heq : s1[j].e = ep := by simpa using h3
    refine rn [12,15,7,10,2,43,3,9] ?_
    exact g_again (i1, (j + 1), s1, O28, oc28, (o1 ++ dueO ep [(s1)[j]])) (by (try dsimp only); exact ⟨(by omega), (by omega), hls, (del_drop lt_s lt_j htk hdr heq).1, (del_drop lt_s lt_j htk hdr heq).2, (by rw [ho, List.append_assoc, (drop_get hdr lt_s lt_j).1, dueO_succ ep lt_j])⟩) (by dsimp only; omega) (by repeat (first | exact trivial | refine ⟨rfl, ?_⟩)) zB
  ·have eq_j : j = l.length := by have h9 := of_decide_eq_false h2; omega
   rw [eq_j, List.take_length] at htk ho
   have hi1 : i1 = (keepE ep l).length := by have h9 := congrArg List.length htk; simp at h9; omega
   have hlt : i1 < n := by omega
   refine rn [16] ?_
   refine zE (zE (zQ ?_))
   refine rn [7,1] ?_
   refine g_rowA A (by omega) fun ⟨hA, hA0⟩ hle hcm => ?_
   refine rn [2,2] ?_
   refine s_q (xF (l := i1) rfl rfl rfl (by omega)) rfl ?_
   refine g_op (g_clear (A := A) (l := i1) (n := n) (els := s1.map En.c) rfl (fun h0 => subA_at hA (by omega)) (by omega) (by simp [Value.oneCell']) ?_)
   refine rn [0,1,2,2] ?_
   refine s_q (yV (h := i1) rfl rfl rfl (by omega)) rfl ?_
   refine rn [3,0,11] ?_
   refine g_rowTake (A := A) i1 (keepE ep l).length ((keepE ep l).map En.c) (by omega) hi1 (by rw [List.append_assoc, List.take_append_of_le_length (by simp; omega), List.take_take, Nat.min_self, ← List.map_take, htk]) ?_
   subst ho
   exact fin1 rfl (.tmp rfl) (fun w' hw' => ⟨(subA A cap 0 2, cap, O1, oc1), (by exact trivial), by rw [hi1], zA w' hw'⟩) _ (.inl rfl)
structure BR where
 n : Int
 A : Option Addr
 cap : Nat
 bs : List (Bk En)
def validE (e : Int) : Bool := decide (0 ≤ e ∧ e ≤ 1099511627776)
structure BR.Rep (g : BR) (es : List En) : Prop where
 pos : 0 < g.bs.length
 le : g.bs.length ≤ 4096
 n : g.n = es.length
 bk : ∀ (i : Nat) (k : Bk En), g.bs[i]? = some k → k.els = es.filter fun x => decide (x.e % (g.bs.length : Int) = i)
 ok : ∀ x ∈ es, 0 ≤ x.e ∧ x.e ≤ 1099511627776
def putE (es : List En) (e i : Int) : List En := if validE e = true then es ++ [⟨e, i⟩] else es
theorem BR.Rep.init {n : Nat} {A : Option Addr} {c : Nat} (h : 1 ≤ n ∧ n ≤ 4096) : (BR.mk 0 A c (List.replicate n ⟨none, 0, []⟩)).Rep [] :=
 ⟨by simp; omega, by simp; omega, rfl, fun i k hk => by
  have := List.mem_of_getElem? hk
  rw [List.eq_of_mem_replicate this]; rfl, by simp⟩
theorem BR.Rep.mod {g : BR} {es : List En} (h : g.Rep es) (k : Nat) : k % g.bs.length < g.bs.length := Nat.mod_lt _ h.pos
theorem BR.Rep.at_ {g : BR} {es : List En} (h : g.Rep es) (k : Nat) : ∃ A c els, g.bs[k % g.bs.length]? = some ⟨A, c, els⟩ := ⟨_, _, _, List.getElem?_eq_getElem (h.mod k)⟩
theorem cast_mod (k m : Nat) : ((k : Int) % (m : Int)) = ((k % m : Nat) : Int) := rfl
theorem BR.Rep.put {g : BR} {es : List En} (h : g.Rep es) {k : Nat} (hk : k ≤ 1099511627776) {A A' : Option Addr} {c c' : Nat} {els : List En} (hb : g.bs[k % g.bs.length]? = some ⟨A, c, els⟩) (it : Int) :
  (BR.mk (g.n + 1) g.A g.cap (g.bs.set (k % g.bs.length) ⟨A', c', els ++ [⟨k, it⟩]⟩)).Rep (es ++ [⟨k, it⟩]) := by
 refine ⟨by simpa using h.pos, by simpa using h.le, by simp [h.n], fun i q hq => ?_, fun x hx => ?_⟩
 ·simp only [List.length_set] at hq ⊢
  rw [List.getElem?_set] at hq
  rw [List.filter_append]
  split at hq
  ·rename_i hi
   subst hi
   rw [if_pos (h.mod k)] at hq
   simp only [Option.some.injEq] at hq
   subst hq
   have h1 := h.bk _ _ hb
   simp only at h1
   show els ++ _ = _
   have hd : decide ((k : Int) % (g.bs.length : Int) = ((k % g.bs.length : Nat) : Int)) = true := decide_eq_true rfl
   rw [← h1, List.filter_cons, if_pos hd, List.filter_nil]
  ·rename_i hi
   rw [h.bk _ _ hq]
   have : ¬ ((k : Int) % (g.bs.length : Int) = (i : Int)) := fun hc => hi (by rw [cast_mod] at hc; omega)
   simp [this]
 ·rcases List.mem_append.1 hx with hx | hx
  ·exact h.ok x hx
  ·simp at hx; subst hx; exact ⟨by simp, by show (k : Int) ≤ _; omega⟩
theorem filter_due {k : Int} {m : Int} (es : List En) : dueO k (es.filter fun x => decide (x.e % m = k % m)) = dueO k es := by
 unfold dueO
 rw [List.filter_filter]
 congr 1
 refine List.filter_congr fun x _ => ?_
 by_cases hx : x.e = k
 ·simp [hx]
 ·simp [hx]
theorem BR.Rep.due {g : BR} {es : List En} (h : g.Rep es) {k : Nat} {A A' : Option Addr} {c c' : Nat} {els : List En} (hb : g.bs[k % g.bs.length]? = some ⟨A, c, els⟩) :
  (BR.mk ((keepE k es).length : Nat) g.A g.cap (g.bs.set (k % g.bs.length) ⟨A', c', keepE k els⟩)).Rep (keepE k es) := by
 refine ⟨by simpa using h.pos, by simpa using h.le, rfl, fun i q hq => ?_, fun x hx => h.ok x (List.mem_filter.1 hx).1⟩
 simp only [List.length_set] at hq ⊢
 rw [List.getElem?_set] at hq
 split at hq
 ·rename_i hi
  subst hi
  rw [if_pos (h.mod k)] at hq
  simp only [Option.some.injEq] at hq
  subst hq
  show keepE k els = _
  have h1 := h.bk _ _ hb
  simp only at h1
  rw [h1]
  unfold keepE
  rw [List.filter_filter, List.filter_filter]
  exact List.filter_congr fun x _ => Bool.and_comm _ _
 ·rename_i hi
  rw [h.bk _ _ hq]
  unfold keepE
  rw [List.filter_filter]
  refine List.filter_congr fun x _ => ?_
  by_cases hx : x.e = (k : Int)
  ·have : ¬ ((k : Int) % (g.bs.length : Int) = (i : Int)) := fun hc => hi (by rw [cast_mod] at hc; omega)
   simp [hx, this]
  ·simp [hx]
theorem BR.Rep.dueEq {g : BR} {es : List En} (h : g.Rep es) {k : Nat} {A : Option Addr} {c : Nat} {els : List En} (hb : g.bs[k % g.bs.length]? = some ⟨A, c, els⟩) : dueO k els = dueO k es := by
 have h1 := h.bk _ _ hb
 simp only at h1
 rw [h1, ← cast_mod]
 exact filter_due es
theorem BR.Rep.out {g : BR} {es : List En} (h : g.Rep es) {e : Int} (he : ¬ validE e = true) : keepE e es = es ∧ dueO e es = [] := by
 have h0 : ∀ y ∈ es, ¬ y.e = e := fun y hy hc => he (by have := h.ok y hy; subst hc; exact decide_eq_true this)
 exact ⟨keepE_all h0, dueO_none h0⟩
abbrev bB_ (b : Nat) (g : BR) : Res := Res.blk b 178 [Value.slice (BR.A g) (BR.bs g).length (BR.cap g), Value.int .i64 (BR.n g)]
abbrev bW_ (g : BR) : Res := Res.row (BR.A g) (BR.bs g).length (BR.cap g) 295 1 ((BR.bs g).map (fun k : Bk En => [k.v]))
abbrev bK_ (g : BR) : Res := bks 297 2 En.c (BR.bs g)
theorem bnew_any (n : Nat) (w : World) (hn : 1 ≤ n ∧ n ≤ 4096) : Own2 (ι := (Nat × BR)) Tryz.prog 36 [.int .i64 (n : Int)] w [] (fun x => x.2.Rep [] ∧ x.2.bs.length = n) (fun x => .pointer (some ⟨x.1, 0, none⟩)) (fun x => [bB_ x.1 x.2, bW_ x.2, bK_ x.2]) (fun x => []) := by
 refine g_st Tryz.func36 13 (WOK.start (fps []) _) ?_
 refine rn [1,3,0,8,1,2,46] ?_
 refine yD 4 (b := false) rfl (by simp; omega) ?_
 refine rn [2,22,2,22,55] ?_
 refine yD 7 (b := false) rfl (by simp; omega) ?_
 refine rn [42,0,20,12,7,1,2] ?_
 refine g_op (g_make (n := n) rfl rfl rfl rfl (by omega) rfl fun g10 => ?_)
 refine s_q (yH (c := [Value.slice (some ⟨g10, 0, none⟩) n n, Value.int .i64 0]) rfl rfl) rfl ?_
 refine g_op (g_box (c := [Value.slice (some ⟨g10, 0, none⟩) n n, Value.int .i64 0]) rfl rfl rfl fun b12 => ?_)
 refine rn [3,0,11] ?_
 refine g_bkNil 297 2 En.c n ?_
 refine zF (A := some ⟨g10, 0, none⟩) ((List.replicate n (⟨none, 0, []⟩ : Bk En)).map (fun k : Bk En => [k.v])) (by rw [List.map_replicate]; rfl) ?_
 refine yC (A := some ⟨g10, 0, none⟩) (List.replicate n (⟨none, 0, []⟩ : Bk En)).length (by simp) ?_
 refine zJ (b := b12) [Value.slice (some ⟨g10, 0, none⟩) (List.replicate n (⟨none, 0, []⟩ : Bk En)).length n, Value.int .i64 0] (by simp) ?_
 exact fin1 rfl (.tmp rfl) (fun w' hw' => ⟨(b12, (BR.mk 0 (some ⟨g10, 0, none⟩) n (List.replicate n (⟨none, 0, []⟩ : Bk En)))), (by (try dsimp only); exact ⟨.init hn, by simp⟩), rfl, zA w' hw'⟩) _ (.inl rfl)
theorem blen_any (b : Nat) (g : BR) (es : List En) (w : World) (hw : W0 [bB_ b g, bW_ g, bK_ g] w) (h : g.Rep es) : Keep Tryz.prog 55 [.pointer (some ⟨b, 0, none⟩)] w [bB_ b g, bW_ g, bK_ g] (.int .i64 ((es.length : Nat) : Int)) := by
 refine g_st Tryz.func55 9 hw ?_
 refine rn [1,3,0,8,1,2,50,0,20,12,7,1,2,6,4,5,3,0,11] ?_
 exact fin1 rfl (.tmp rfl) (fun w' hw' => ⟨(), trivial, by rw [h.n], zA w' hw'⟩) _ (.inl rfl)
theorem valid_any (b : Nat) (e : Int) (w : World)  : Pur Tryz.prog 178 [.pointer (some ⟨b, 0, none⟩), .int .i64 e] w (.bool (validE e)) := by
 refine g_st Tryz.func178 15 (WOK.start [] _) ?_
 refine rn [1,3,0,1,2] ?_
 refine s_q (q_nep (b := true) rfl rfl rfl) rfl ?_
 refine rn [2,22,2,22,53,41,2] ?_
 refine zV 11 rfl (fun h1 => ?_) (fun h1 => ?_)
 ·refine rn [22,2,22,56,41,3,0,11] ?_
  exact fin1 rfl (.tmp rfl) (fun w' hw' => ⟨by first | rfl | (simp_all [validE]; done) | (simp_all [validE]; omega), hw'.upd⟩) _ (.inl rfl)
 ·refine rn [21,21,42,3,0,11] ?_
  exact fin1 rfl (.tmp rfl) (fun w' hw' => ⟨by first | rfl | (simp_all [validE]; done) | (simp_all [validE]; omega), hw'.upd⟩) _ (.inl rfl)
theorem at_any (b : Nat) (g : BR) (es : List En) (k : Nat) (w : World) (hw : W0 [bB_ b g, bW_ g, bK_ g] w) (h : g.Rep es) : Keep Tryz.prog 179 [.pointer (some ⟨b, 0, none⟩), .int .i64 (k : Int)] w [bB_ b g, bW_ g, bK_ g] (.pointer (some ⟨bo (BR.A g), oo (BR.A g) + (k % (BR.bs g).length) * 1, none⟩)) := by
 refine g_st Tryz.func179 17 hw ?_
 have hmod := h.mod k
 have hpos := h.pos
 refine rn [1,3,0,8] ?_
 refine dreg [] mixed rfl ?_
 refine rn [23,0,2,23,1,6,23,2,4,23,3,5,23,4,2,23,5,2,23,6,6,23,7,4,23,8,5,23,9,47] ?_
 refine dq 10 rfl (q_remn (a := k) (b := (BR.bs g).length) rfl rfl (by first | omega | (simp; omega) | (simp_all; omega))) ?_
 refine dq 11 rfl (zR (i := (k % (BR.bs g).length)) rfl rfl rfl (InRow.rdb (A := (BR.A g)) (els := ((BR.bs g)).map (fun k : Bk En => [k.v])) (by first | rfl | assumption | (simp; done) | (simp_all; done) | (simp; omega) | (simp_all; omega)) (zM (c := (fun k : Bk En => [k.v])) (fun _ => rfl) _)) (by first | omega | (simp; done) | (simp; omega))) ?_
 refine rn [23,12,3,27,7,11] ?_
 exact fin1 rfl (.tmp rfl) (fun w' hw' => ⟨(), trivial, rfl, zA w' hw'⟩) _ (.inl rfl)
theorem bput_any (b : Nat) (g : BR) (es : List En) (e it : Int) (w : World) (hw : W0 [bB_ b g, bW_ g, bK_ g] w) (h : g.Rep es) (hnE : es.length ≤ 1000000) : Own2 (ι := BR) Tryz.prog 116 [.pointer (some ⟨b, 0, none⟩), .int .i64 e, .int .i64 it] w [bB_ b g, bW_ g, bK_ g] (fun x => x.Rep (putE es e it) ∧ x.bs.length = g.bs.length) (fun x => .bool (validE e)) (fun x => []) (fun x => [bB_ b x, bW_ x, bK_ x]) := by
 refine g_st Tryz.func116 32 hw ?_
 refine rn [1,3,0,8,1,2,2] ?_
 refine g_op (zG rfl (fun w1 hw1 => valid_any _ _ w1) rfl ?_)
 refine rn [48,0] ?_
 refine zC rfl (fun h1 => ?_) (fun h1 => ?_)
 ·have hv : ¬ validE e = true := by simpa using h1
  refine rn [1,3,0,11,13] ?_
  exact fin1 rfl (.tmp rfl) (fun w' hw' => ⟨g, (by exact ⟨by rw [putE, if_neg hv]; exact h, rfl⟩), by simp [hv], zA w' hw'⟩) _ (.inl rfl)
 ·have hv : validE e = true := by simpa using h1
  obtain ⟨k, hek, hk⟩ : ∃ k : Nat, e = k ∧ k ≤ 1099511627776 := ⟨e.toNat, by have h9 := of_decide_eq_true hv; omega, by have h9 := of_decide_eq_true hv; omega⟩
  obtain ⟨A0, c0, e0, hb0⟩ := h.at_ k
  have hmod := h.mod k
  have hn0 := h.n
  have he0 : e0.length ≤ es.length := by have h9 := h.bk _ _ hb0; simp only at h9; rw [h9]; exact List.length_filter_le _ _
  refine g_val 1 (v' := .int .i64 ((k : Nat) : Int)) rfl (by rw [hek]) ?_
  refine rn [12,7,1,2,2] ?_
  refine g_op (zK _ rfl (fun w1 hw1 ho1 => by exact at_any b g es k w1 ho1 h) rfl ?_)
  refine rn [3,0,1,2,2,6] ?_
  refine s_q (yL (i := (k % (BR.bs g).length)) (o := 0) rfl (InRow.rdb (A := (BR.A g)) (els := ((BR.bs g)).map (fun k : Bk En => [k.v])) (by first | rfl | assumption | (simp; done) | (simp_all; done) | (simp; omega) | (simp_all; omega)) (zM (c := (fun k : Bk En => [k.v])) (fun _ => rfl) _)) (bk_get hb0) rfl rfl) rfl ?_
  refine rn [2,2] ?_
  refine s_q (yH (c := En.c (En.mk ((k : Nat) : Int) it)) rfl rfl) rfl ?_
  refine g_op (g_lit rfl rfl rfl rfl rfl fun b22 => ?_)
  refine zJ (b := b22) ((([(En.mk ((k : Nat) : Int) it)] : List En).map En.c).flatten) rfl ?_
  refine g_bkOpen (T := 297) (n := 2) (c := En.c) (k % (BR.bs g).length) hb0 ?_
  refine g_op (zY (A := A0) (els := (e0).map En.c) (news := (([(En.mk ((k : Nat) : Int) it)] : List En).map En.c)) rfl rfl (InL.rdb (b := b22) rfl (by simp [En.c]) rfl) (yG (c := En.c) (by intro x; simp [En.c, Value.oneCell']) _) (by omega) rfl fun A23 cap23 => ⟨_, inferInstance, ?_⟩)
  refine zF (A := A23) (((e0 ++ [(En.mk ((k : Nat) : Int) it)])).map En.c) (by first | rfl | exact List.map_append.symm | (simp; done)) ?_
  refine yC (A := A23) (e0 ++ [(En.mk ((k : Nat) : Int) it)]).length (by simp) ?_
  refine g_val 23 (v' := .slice A23 (e0 ++ [(En.mk ((k : Nat) : Int) it)]).length cap23) rfl (by simp) ?_
  refine rn [6] ?_
  refine g_op (yA (A := (BR.A g)) (i := (k % (BR.bs g).length)) (o := 0) (cs' := (fun k : Bk En => [k.v]) ((⟨A23, cap23, e0 ++ [(En.mk ((k : Nat) : Int) it)]⟩ : Bk En))) rfl rfl rfl rfl rfl (bk_get hb0) (by first | (simp; done) | exact Nat.le_refl _) rfl rfl ?_)
  refine zF (A := (BR.A g)) (((BR.bs g).set (k % (BR.bs g).length) (⟨A23, cap23, e0 ++ [(En.mk ((k : Nat) : Int) it)]⟩ : Bk En)).map (fun k : Bk En => [k.v])) (by simp only [List.map_set]) ?_
  refine g_bkClose (T := 297) (n := 2) (c := En.c) (k % (BR.bs g).length) hmod A23 (e0 ++ [(En.mk ((k : Nat) : Int) it)]).length cap23 (e0 ++ [(En.mk ((k : Nat) : Int) it)]) rfl ?_
  refine rn [0,1,2,6,4,5] ?_
  refine s_q (yM (z := BR.n g + 1) rfl rfl (wi64 (by omega) (by omega))) rfl ?_
  refine rn [6,4] ?_
  refine g_op (zP rfl rfl rfl rfl rfl rfl rfl ?_)
  refine zJ (b := b) [Value.slice (BR.A g) (BR.bs g).length (BR.cap g), Value.int .i64 (BR.n g + 1)] (by simp [splice]) ?_
  refine rn [0,1,3,0,11] ?_
  exact fin1 rfl (.tmp rfl) (fun w' hw' => ⟨(BR.mk (BR.n g + 1) (BR.A g) (BR.cap g) ((BR.bs g).set (k % (BR.bs g).length) (⟨A23, cap23, e0 ++ [(En.mk ((k : Nat) : Int) it)]⟩ : Bk En))), (by first | exact ⟨by rw [putE, if_pos hv, hek]; exact h.put hk hb0 it, by simp⟩ | (dsimp only; exact ⟨by rw [putE, if_pos hv, hek]; exact h.put hk hb0 it, by simp⟩)), by rw [hv], by have h9 := zB (L' := [Res.blk b 178 [Value.slice (BR.A g) (BR.bs g).length (BR.cap g), Value.int .i64 (BR.n g + 1)], Res.row (BR.A g) (BR.bs g).length (BR.cap g) 295 1 (((BR.bs g).set (k % (BR.bs g).length) (⟨A23, cap23, e0 ++ [(En.mk ((k : Nat) : Int) it)]⟩ : Bk En)).map (fun k : Bk En => [k.v])), bks 297 2 En.c ((BR.bs g).set (k % (BR.bs g).length) (⟨A23, cap23, e0 ++ [(En.mk ((k : Nat) : Int) it)]⟩ : Bk En))]) w' hw'; show WOK _ _ [bB_ b ((BR.mk (BR.n g + 1) (BR.A g) (BR.cap g) ((BR.bs g).set (k % (BR.bs g).length) (⟨A23, cap23, e0 ++ [(En.mk ((k : Nat) : Int) it)]⟩ : Bk En)))), bW_ ((BR.mk (BR.n g + 1) (BR.A g) (BR.cap g) ((BR.bs g).set (k % (BR.bs g).length) (⟨A23, cap23, e0 ++ [(En.mk ((k : Nat) : Int) it)]⟩ : Bk En)))), bK_ ((BR.mk (BR.n g + 1) (BR.A g) (BR.cap g) ((BR.bs g).set (k % (BR.bs g).length) (⟨A23, cap23, e0 ++ [(En.mk ((k : Nat) : Int) it)]⟩ : Bk En))))] _; simp only [bB_, bW_, bK_, List.length_set]; exact h9⟩) _ (.inl rfl)
theorem bdue_any (b : Nat) (g : BR) (es : List En) (e : Int) (w : World) (hw : W0 [bB_ b g, bW_ g, bK_ g] w) (h : g.Rep es) (hnE : es.length ≤ 1000000) : Own2 (ι := (Option Addr × Nat × BR)) Tryz.prog 228 [.pointer (some ⟨b, 0, none⟩), .int .i64 e] w [bB_ b g, bW_ g, bK_ g] (fun x => x.2.2.Rep (keepE e es) ∧ x.2.2.bs.length = g.bs.length) (fun x => .slice x.1 (dueO e es).length x.2.1) (fun x => [Res.row x.1 (dueO e es).length x.2.1 3 1 ((dueO e es).map (fun v : Int => [Value.int .i64 v]))]) (fun x => [bB_ b x.2.2, bW_ x.2.2, bK_ x.2.2]) := by
 refine g_st Tryz.func228 31 hw ?_
 refine rn [1] ?_
 refine g_op (g_box rfl rfl rfl fun b3 => ?_)
 refine rn [3,0,8,1,2,5] ?_
 refine g_op (zG rfl (fun w1 hw1 => valid_any _ _ w1) rfl ?_)
 refine rn [48,0] ?_
 refine zC rfl (fun h1 => ?_) (fun h1 => ?_)
 ·have hv : ¬ validE e = true := by simpa using h1
  refine rn [1,3,0,11,13] ?_
  refine zW none 3 1 ((dueO e es).map (fun v : Int => [Value.int .i64 v])) (by rw [(h.out hv).2]; rfl) ?_
  exact fin1 rfl (.tmp rfl) (fun w' hw' => ⟨((none : Option Addr), 0, g), (by first | exact ⟨by rw [(h.out hv).1]; exact h, rfl⟩ | (dsimp only; exact ⟨by rw [(h.out hv).1]; exact h, rfl⟩)), by rw [(h.out hv).2]; rfl, by have h9 := zB (L' := [Res.row none 0 0 3 1 ((dueO e es).map (fun v : Int => [Value.int .i64 v])), bB_ b g, bW_ g, bK_ g]) w' hw'; show WOK _ _ [Res.row (((none : Option Addr), 0, g)).1 (dueO e es).length (((none : Option Addr), 0, g)).2.1 3 1 ((dueO e es).map (fun v : Int => [Value.int .i64 v])), bB_ b (((none : Option Addr), 0, g)).2.2, bW_ (((none : Option Addr), 0, g)).2.2, bK_ (((none : Option Addr), 0, g)).2.2] _; rw [show (dueO e es).length = 0 from by rw [(h.out hv).2]; rfl]; exact h9⟩) _ (.inl rfl)
 ·have hv : validE e = true := by simpa using h1
  obtain ⟨k, hek, hk⟩ : ∃ k : Nat, e = k ∧ k ≤ 1099511627776 := ⟨e.toNat, by have h9 := of_decide_eq_true hv; omega, by have h9 := of_decide_eq_true hv; omega⟩
  obtain ⟨A0, c0, e0, hb0⟩ := h.at_ k
  have hmod := h.mod k
  have hn0 := h.n
  have he0 : e0.length ≤ es.length := by have h9 := h.bk _ _ hb0; simp only at h9; rw [h9]; exact List.length_filter_le _ _
  refine zJ (b := b3) [Value.int .i64 ((k : Nat) : Int)] (by rw [hek]) ?_
  refine rn [12,7,1] ?_
  refine g_op (zI rfl fun b5 => ?_)
  refine zJ (b := b5) [Value.slice none (([] : List Int)).length 0] rfl ?_
  refine zW none 3 1 ((([] : List Int)).map (fun v : Int => [Value.int .i64 v])) rfl ?_
  refine rn [0,1,2,5] ?_
  refine g_op (zK _ rfl (fun w1 hw1 ho1 => by exact at_any b g es k w1 ho1 h) rfl ?_)
  refine rn [3,0,1,2,2,6] ?_
  refine s_q (yL (i := (k % (BR.bs g).length)) (o := 0) rfl (InRow.rdb (A := (BR.A g)) (els := ((BR.bs g)).map (fun k : Bk En => [k.v])) (by first | rfl | assumption | (simp; done) | (simp_all; done) | (simp; omega) | (simp_all; omega)) (zM (c := (fun k : Bk En => [k.v])) (fun _ => rfl) _)) (bk_get hb0) rfl rfl) rfl ?_
  refine rn [52] ?_
  refine g_bkOpen (T := 297) (n := 2) (c := En.c) (k % (BR.bs g).length) hb0 ?_
  refine g_op (zH _ rfl (fun w1 hw1 ho1 => by have h7 := delete_any b3 b5 ((k : Nat) : Int) none 0 ([] : List Int) A0 (e0.length) c0 e0 w1 ho1 rfl (by simp; omega); exact h7) rfl ?_)
  rintro ⟨A19, c19, O19, oc19⟩ _
  refine ii ?_
  refine rn [6] ?_
  refine g_op (yA (A := (BR.A g)) (i := (k % (BR.bs g).length)) (o := 0) (cs' := (fun k : Bk En => [k.v]) ((⟨A19, c19, keepE ((k : Nat) : Int) e0⟩ : Bk En))) rfl rfl rfl rfl rfl (bk_get hb0) (by first | (simp; done) | exact Nat.le_refl _) rfl rfl ?_)
  refine zF (A := (BR.A g)) (((BR.bs g).set (k % (BR.bs g).length) (⟨A19, c19, keepE ((k : Nat) : Int) e0⟩ : Bk En)).map (fun k : Bk En => [k.v])) (by simp only [List.map_set]) ?_
  refine g_bkClose (T := 297) (n := 2) (c := En.c) (k % (BR.bs g).length) hmod A19 (keepE ((k : Nat) : Int) e0).length c19 (keepE ((k : Nat) : Int) e0) rfl ?_
  have hdq : ([] : List Int) ++ dueO ((k : Nat) : Int) e0 = (dueO ((k : Nat) : Int) es) := by rw [List.nil_append]; exact h.dueEq hb0
  refine zJ (b := b5) [Value.slice O19 (dueO ((k : Nat) : Int) es).length oc19] (by rw [hdq]) ?_
  refine zF (A := O19) ((dueO ((k : Nat) : Int) es).map (fun v : Int => [Value.int .i64 v])) (by rw [hdq]) ?_
  refine yC (A := O19) (dueO ((k : Nat) : Int) es).length (by rw [hdq]) ?_
  have hdk := due_keep ((k : Nat) : Int) es
  refine rn [0,8] ?_
  refine dreg [9] mixed rfl ?_
  refine rn [23,0,2,23,1,6,23,2,4,23,3,5,23,4,5,23,5,47] ?_
  refine dq 6 rfl (yY (z := BR.n g - ((dueO ((k : Nat) : Int) es).length : Nat)) rfl rfl (wi64 (by omega) (by omega))) ?_
  refine rn [24,7,6,23,8,4] ?_
  refine dop 9 rfl (zP rfl rfl rfl rfl rfl rfl rfl ?_)
  refine zJ (b := b) [Value.slice (BR.A g) (BR.bs g).length (BR.cap g), Value.int .i64 (((keepE ((k : Nat) : Int) es).length : Nat) : Int)] (by simp [splice]; omega) ?_
  refine rn [28,7,1,5,3,0,11] ?_
  exact fin1 rfl (.tmp rfl) (fun w' hw' => ⟨(O19, oc19, (BR.mk (((keepE ((k : Nat) : Int) es).length : Nat) : Int) (BR.A g) (BR.cap g) ((BR.bs g).set (k % (BR.bs g).length) (⟨A19, c19, keepE ((k : Nat) : Int) e0⟩ : Bk En)))), (by first | exact ⟨by rw [hek]; exact h.due hb0, by simp⟩ | (dsimp only; exact ⟨by rw [hek]; exact h.due hb0, by simp⟩)), by rw [hek], by have h9 := zB (L' := [Res.row O19 (dueO ((k : Nat) : Int) es).length oc19 3 1 ((dueO ((k : Nat) : Int) es).map (fun v : Int => [Value.int .i64 v])), Res.blk b 178 [Value.slice (BR.A g) (BR.bs g).length (BR.cap g), Value.int .i64 ((((keepE ((k : Nat) : Int) es).length : Nat) : Int))], Res.row (BR.A g) (BR.bs g).length (BR.cap g) 295 1 (((BR.bs g).set (k % (BR.bs g).length) (⟨A19, c19, keepE ((k : Nat) : Int) e0⟩ : Bk En)).map (fun k : Bk En => [k.v])), bks 297 2 En.c ((BR.bs g).set (k % (BR.bs g).length) (⟨A19, c19, keepE ((k : Nat) : Int) e0⟩ : Bk En))]) w' hw'; show WOK _ _ [Res.row ((O19, oc19, (BR.mk (((keepE ((k : Nat) : Int) es).length : Nat) : Int) (BR.A g) (BR.cap g) ((BR.bs g).set (k % (BR.bs g).length) (⟨A19, c19, keepE ((k : Nat) : Int) e0⟩ : Bk En))))).1 (dueO e es).length ((O19, oc19, (BR.mk (((keepE ((k : Nat) : Int) es).length : Nat) : Int) (BR.A g) (BR.cap g) ((BR.bs g).set (k % (BR.bs g).length) (⟨A19, c19, keepE ((k : Nat) : Int) e0⟩ : Bk En))))).2.1 3 1 ((dueO e es).map (fun v : Int => [Value.int .i64 v])), bB_ b ((O19, oc19, (BR.mk (((keepE ((k : Nat) : Int) es).length : Nat) : Int) (BR.A g) (BR.cap g) ((BR.bs g).set (k % (BR.bs g).length) (⟨A19, c19, keepE ((k : Nat) : Int) e0⟩ : Bk En))))).2.2, bW_ ((O19, oc19, (BR.mk (((keepE ((k : Nat) : Int) es).length : Nat) : Int) (BR.A g) (BR.cap g) ((BR.bs g).set (k % (BR.bs g).length) (⟨A19, c19, keepE ((k : Nat) : Int) e0⟩ : Bk En))))).2.2, bK_ ((O19, oc19, (BR.mk (((keepE ((k : Nat) : Int) es).length : Nat) : Int) (BR.A g) (BR.cap g) ((BR.bs g).set (k % (BR.bs g).length) (⟨A19, c19, keepE ((k : Nat) : Int) e0⟩ : Bk En))))).2.2] _; rw [hek]; simp only [bB_, bW_, bK_, List.length_set]; exact h9⟩) _ (.inl rfl)
def nxt (s e : Int) : Int := if e = 7 then (if s = 2 ∨ s = 3 then 3 else if s = 4 ∨ s = 5 then 4 else 0) else if e = 6 ∧ s = 2 then 7 else if 1 ≤ e ∧ e ≤ 5 ∧ s = e then s + 1 else 0
def accV (v : V) (e : Int) : V × Int := if latB [e] = false then (V.z, 10) else if nxt v.st 2 = 0 then (V.z, 8) else ({ v with rq := e, st := nxt v.st 2 }, 0)
def asnV (v : V) (e : Int) (c : C) : V × Int := if v.st ≠ 3 ∨ v.ex ≠ -1 then (V.z, 8) else if latB [e, c.unb] = false then (V.z, 10) else ({ v with ex := e, wd := max v.wd (latV [e, c.unb]) }, 0)
def burnV (b : Int) (c : C) : Int := if c.pden < c.pnum then 0 else b * c.pnum / c.pden
def slaV (v : V) (e : Int) (c : C) : V × Int × Int := if v.sl = true then (V.z, 0, 9) else if nxt v.st 7 = 0 then (V.z, 0, 8) else if latB [e, c.sld] = false then (V.z, 0, 10)
 else ({ v with bal := IntKind.u64.wrap (v.bal - burnV v.bal c), st := nxt v.st 7, sl := true, rq := if v.st = 2 then e else v.rq, wd := max v.wd (latV [e, c.sld]), dl := -1 }, burnV v.bal c, 0)
def payV (v : V) (e : Int) : V × Int × Int := if nxt v.st 5 = 0 then (V.z, 0, 8) else if e < v.wd then (V.z, 0, 8) else ({ v with st := nxt v.st 5, bal := 0 }, v.bal, 0)
def swp (rd : List Bool) (n pays : Nat) : Nat → Nat → List Int → Nat → Nat × List Int × Nat
 | 0, at_, paid, made => (at_, paid, made)
 | k + 1, at_, paid, made => if paid.length = pays then (at_, paid, made) else swp rd n pays k ((at_ % n + 1) % n) (if rd[at_ % n]? = some true then paid ++ [((at_ % n : Nat) : Int)] else paid) (made + 1)
def sweepS (at_ : Nat) (rd : List Bool) (visits pays : Int) : Nat × List Int × Nat := if rd.length = 0 ∨ pays < 1 then (at_, [], 0) else swp rd rd.length pays.toNat (min visits (rd.length : Int)).toNat at_ [] 0
structure Eg where
 c : C
 blk : Nat
 l : List V
 dep : Int
 paid : Int
 burn : Int
 bo : List En
 lv : List Int
 cur : Nat
 m : M
 q : LL
 pend : List Int
 mg : List PP
 pt : List Rq
def Eg.ep (s : Eg) : Int := ((s.blk / s.c.elen.toNat : Nat) : Int)
structure Rc where
 k : Int
 code : Int
 i : Int
 blk : Int
 ep : Int
 dl : Int
 ag : List As
 ps : List Y
 vis : Int
structure Rs where
 code : Int
 i : Int
 dl : Int
def Rs.c (x : Rs) : List Value := [.int .i64 x.code, .int .i64 x.i, .int .i64 x.dl]
def setV (l : List V) (i : Int) (v : V) : List V := if hasV l i = true then l.set i.toNat v else l
def evV (l : List V) (i e : Int) : List V := if hasV l i = true ∧ nxt (gotV l i).st e ≠ 0 then l.set i.toNat { gotV l i with st := nxt (gotV l i).st e } else l
def depE (s : Eg) (o : Op) : Eg × Rs :=
 if o.a < s.c.mind ∨ s.c.maxd < o.a then (s, ⟨3, 0, 0⟩)
 else if s.c.capa ≤ (s.l.length : Int) then (s, ⟨5, 0, 0⟩)
 else if s.c.qsize.toNat - s.pend.length = 0 then (s, ⟨6, 0, 0⟩)
 else if ledC s.c.supc s.dep s.paid s.burn o.a ≠ 0 then (s, ⟨ledC s.c.supc s.dep s.paid s.burn o.a, 0, 0⟩)
 else ({ s with l := s.l ++ [⟨o.a, 1, false, -1, -1, -1, -1⟩], dep := s.dep + o.a, pend := s.pend ++ [(s.l.length : Int)] }, ⟨0, s.l.length, -1⟩)
def bals (l : List V) : List Int := l.map V.bal
def wgts (l : List V) (is : List Int) : List Int := is.map (ofW (bals l))
def leaveE (s : Eg) (cl i : Int) : Eg × Rs :=
 if hasV s.l i = false then (s, ⟨7, 0, 0⟩)
 else if (accV (gotV s.l i) s.ep).2 ≠ 0 then (s, ⟨(accV (gotV s.l i) s.ep).2, 0, 0⟩)
 else if freeL s.c.qsize.toNat cl s.q = 0 then (s, ⟨6, 0, 0⟩)
 else if addB (wgts s.l (aheadL cl s.q)) = false ∨ bdsB s.ep (addV (wgts s.l (aheadL cl s.q))) (accV (gotV s.l i) s.ep).1.bal s.c [s.c.unb, sweepV s.c] = false then (s, ⟨10, 0, 0⟩)
 else
  let d := bdsV s.ep (addV (wgts s.l (aheadL cl s.q))) (accV (gotV s.l i) s.ep).1.bal s.c [s.c.unb, sweepV s.c]
  ({ s with l := s.l.set i.toNat { (accV (gotV s.l i) s.ep).1 with dl := d }, q := pushL s.c.qsize.toNat cl i s.q }, ⟨0, i, d⟩)
def slashE (s : Eg) (i : Int) : Eg × Rs :=
  if hasV s.l i = false then (s, ⟨7, 0, 0⟩)
  else
    let v := gotV s.l i
    let r := slaV v s.ep s.c
    if r.2.2 = 9 ∨ r.2.2 = 8 then (s, ⟨r.2.2, 0, 0⟩)
    else if v.st = 2 ∧ freeL s.c.qsize.toNat 0 s.q = 0 then (s, ⟨6, 0, 0⟩)
    else if r.2.2 ≠ 0 then (s, ⟨r.2.2, 0, 0⟩)
    else ({ s with l := s.l.set i.toNat r.1, burn := if bookC s.dep s.paid s.burn r.2.1 = 0 then s.burn + r.2.1 else s.burn,
                   q := if v.st = 2 then pushL s.c.qsize.toNat 0 i s.q else s.q, bo := if v.st = 5 then putE s.bo r.1.wd i else s.bo }, ⟨0, i, -1⟩)
def consE (s : Eg) (i t : Int) : Eg × Rs :=
 if reqV s.l i t s.c ≠ 0 then (s, ⟨reqV s.l i t s.c, 0, 0⟩)
 else if s.c.qsize.toNat - s.mg.length = 0 then (s, ⟨6, 0, 0⟩)
 else ({ s with mg := s.mg ++ [⟨i, t⟩] }, ⟨0, i, -1⟩)
def prtC (l : List V) (i a : Int) : Int := if hasV l i = false then 7 else if a = 0 then 3 else if (gotV l i).st ≠ 2 then 8 else 0
def partE (s : Eg) (i a : Int) : Eg × Rs :=
 if prtC s.l i a ≠ 0 then (s, ⟨prtC s.l i a, 0, 0⟩)
 else if s.c.qsize.toNat - s.pt.length = 0 then (s, ⟨6, 0, 0⟩)
 else ({ s with pt := s.pt ++ [⟨i, a⟩] }, ⟨0, i, -1⟩)
def ripS (e : Int) (s : List V × List En) (i : Int) : List V × List En := if e < (gotV s.1 i).wd then (s.1, putE s.2 (gotV s.1 i).wd i) else (evV s.1 i 4, s.2)
def ripE (e : Int) (s : List V × List En) : List V × List En := (dueO e s.2).foldl (ripS e) (s.1, keepE e s.2)
def asgS (c : C) (s : List V × List En × List Int) (a : As) : List V × List En × List Int :=
 (setV s.1 a.i (asnV (gotV s.1 a.i) a.e c).1, putE s.2.1 (asnV (gotV s.1 a.i) a.e c).1.wd a.i, s.2.2 ++ [a.i])
def churnE (c : C) (l : List V) : Int := churn (actS l) c.minch c.quot
def bdyE (s : Eg) : Eg × List As :=
 let l1 := s.lv.foldl (fun l i => evV l i 3) s.l
 let r := ripE s.ep (l1, s.bo)
 let ch := churnE s.c r.1
 let st := stepM (bals r.1) s.ep ch s.q s.m
 let a := st.1.foldl (asgS s.c) (r.1, r.2, [])
 let ac := batF ch (bals a.1) s.pend 0 true
 let l4 := ac.foldl (fun l i => evV l i 1) a.1
 let t := s.mg.take s.c.merg.toNat
 ({ s with l := (runM s.c l4 t).1, bo := a.2.1, lv := a.2.2, m := st.2.2, q := st.2.1, pend := s.pend.drop ac.length, mg := s.mg.drop t.length }, st.1)
def fullS (l0 : List V) (e : Int) (s : List V × List Y) (i : Int) : List V × List Y := (setV s.1 i (payV (gotV l0 i) e).1, s.2 ++ [⟨i, (payV (gotV l0 i) e).2.1, true⟩])
def ledS (d u : Int) (p : Int) (y : Y) : Int := if bookC d p u y.a = 0 then p + y.a else p
def paysE (s : Eg) : Eg × List Y × Nat :=
 let t := s.pt.take s.c.parts.toNat
 let r := run s.c s.l t
 let p0 := pos r.2
 let w := sweepS s.cur (r.1.map fun v => decide (v.st = 5)) (s.c.vis - t.length) (s.c.pays - p0.length)
 let f := w.2.1.foldl (fullS r.1 s.ep) (r.1, p0)
 ({ s with l := f.1, paid := f.2.foldl (ledS s.dep s.burn) s.paid, cur := w.1, pt := s.pt.drop t.length }, f.2, t.length + w.2.2)
def tickE (s : Eg) : Eg × Rc :=
 let s1 := { s with blk := s.blk + 1 }
 let b := if (s.blk + 1) % s.c.elen.toNat = 0 then bdyE s1 else (s1, [])
 let p := paysE b.1
 (p.1, ⟨7, 0, -1, p.1.blk, p.1.ep, -1, b.2, p.2.1, p.2.2⟩)
def actE (s : Eg) (o : Op) : Eg × Rs :=
 if o.k = 1 then depE s o else if o.k = 2 then leaveE s 1 o.i else if o.k = 3 then leaveE s 0 o.i else if o.k = 4 then slashE s o.i
 else if o.k = 5 then consE s o.i o.t else if o.k = 6 then partE s o.i o.a else (s, ⟨11, 0, 0⟩)
def rcp (s : Eg) (o : Op) (x : Rs) : Rc := if x.code ≠ 0 then ⟨o.k, x.code, -1, s.blk, s.ep, -1, [], [], 0⟩ else ⟨o.k, 0, x.i, s.blk, s.ep, x.dl, [], [], 0⟩
def applyE (s : Eg) (o : Op) : Eg × Rc := if o.k = 7 then tickE s else ((actE s o).1, rcp s o (actE s o).2)
def newE (c : C) : Eg := ⟨c, 0, [], 0, 0, 0, [], [], 0, M0, ⟨[], []⟩, [], [], []⟩
end Go.Proofs.YtdddiilocbbkkaaGreat
namespace Go.Eg
open Go.RowKit
set_option linter.unusedVariables false
set_option linter.unusedSimpArgs false
class DropM (L Ls : List Res) (L' : outParam (List Res)) : Prop where
 p : L.Perm (Ls ++ L')
instance DropM.nil {L : List Res} : DropM L [] L := ⟨.refl _⟩
instance DropM.cons {L L1 L' : List Res} {r : Res} {Ls : List Res} [h1 : DropR L r L1] [h2 : DropM L1 Ls L'] : DropM L (r :: Ls) L' := ⟨h1.p.trans (h2.p.cons r)⟩
theorem Own2.star {ι : Type} {P : Program} {f : FuncId} {args : List Value} {w : World} {r0 : Res} {Ls : List Res} {p : ι → Prop} {val : ι → Value} {r1 : ι → Res} {Ls1 : ι → List Res}
  (h : WOK (fps (r0 :: Ls)) w (r0 :: Ls) w → Own2 P f args w (r0 :: Ls) p val (fun _ => []) (fun x => r1 x :: Ls1 x)) (hw : WOK (fps [r0, .star Ls]) w [r0, .star Ls] w) :
  Own2 P f args w [r0, .star Ls] p val (fun _ => []) (fun x => [r1 x, .star (Ls1 x)]) := by
 have e : fps [r0, .star Ls] = fps (r0 :: Ls) := by simp [fps, Res.star]
 have hw1 : WOK (fps (r0 :: Ls)) w (r0 :: Ls) w := e ▸ ((hw.perm (.swap _ _ _)).opened.perm List.perm_append_comm)
 refine Ret.mono (h hw1) fun v w' ⟨x, hp, hv, hw2⟩ => ⟨x, hp, hv, ?_⟩
 rw [e]
 have h3 : WOK (fps (r0 :: Ls)) w (Ls1 x ++ [r1 x]) w' := hw2.perm (by
  show (r1 x :: Ls1 x).Perm (Ls1 x ++ [r1 x])
  exact (List.perm_append_comm (l₁ := [r1 x]) (l₂ := Ls1 x)))
 exact h3.closed.perm (.swap _ _ _)
def RetR (P : Program) (f : FuncId) (args : List Value) (w : World) (R : Value → World → Prop) : Prop := CallsDIn (FR none) 0 P f args.toArray .returning w fun en u' w' => u' = .returning ∧ ∃ v, en = .returned v ∧ R v w'
def Own2R {ι : Type} (P : Program) (f : FuncId) (args : List Value) (w : World) (Lin : List Res) (p : ι → Prop) (val : ι → Value) (Lnew Lrep : ι → List Res) : Prop :=
 RetR P f args w fun v w' => ∃ x, p x ∧ v = val x ∧ WOK (fps Lin) w (Lnew x ++ Lrep x) w'
section
variable {P : Program} {S : List Nat} {w0 : World} {N : Nat} {D : List Deferred} {e : Env} {L : List Res} {fn : Func} {R : Value → World → Prop}
theorem finR {ι : Type} {f : FuncId} {cap vs : List Value} (Lin : List Res) {p : ι → Prop} {val : ι → Value} {Lnew Lrep : ι → List Res} [hb : HasB P f] [hs : Sub L Lin]
  (hf : ∀ w, WOK S w0 L w → WOK (fps Lin) w Lin w → Own2R P f (vs ++ cap) w Lin p val Lnew Lrep)
  (h : ∀ x, p x → ∃ L' L'', Swap L Lin (Lrep x) L' ∧ App (Lnew x) L' L'' ∧ ∀ ex, ex = .ret ∨ ex = .normal → G ⟨S, w0, N, D, none⟩ e L'' (PostM P fn R ex)) :
  ∀ ex, ex = .ret ∨ ex = .normal → G ⟨S, w0, N, dcall f cap vs :: D, none⟩ e L (PostM P fn R ex) := fun ex hex a w hst => by
 have hr : LeavesInM (FR none) 0 P fn a.tmps (fun en w' => ∃ v, en = .returned v ∧ R v w') a.defers .returning w := by
  rw [hst.defers]
  refine ⟨by simp, .inr ⟨fun hd => by simp [FR] at hd, .func f, cap.toArray, f, (vs ++ cap).toArray, rfl, ?_, fun _ _ => trivial, ?_⟩⟩
  ·simp [invoke, dcall, callFunc_run hb.has]
  ·refine CallsDIn.mono (hf w hst.wok (hst.wok.own' hs)) ?_
   rintro en u' w' ⟨rfl, v, rfl, x, hp, _, hw'⟩
   obtain ⟨L', L'', hL, ha, hg⟩ := h x hp
   have hw2 : WOK S w0 L'' w' := ha.eq ▸ hst.wok.swap (Lnew x) hL hw'
   exact hg .ret (.inl rfl) { a with defers := D } w' ⟨rfl, hst.size, fun k v hk => hst.env k v hk, hw2⟩
 rcases hex with rfl | rfl <;> exact hr
end
end Go.Eg
namespace Go.Eg
open Go.RowKit
set_option linter.unusedVariables false
set_option linter.unusedSimpArgs false
theorem Own2.into {ι : Type} {P : Program} {f : FuncId} {args : List Value} {w : World} {L Lin : List Res} {p : ι → Prop} {val : ι → Value} {Lnew Lrep : ι → List Res} {L' : ι → List Res} (hw : WOK (fps L) w L w) (hs : ∀ x, Swap L Lin (Lrep x) (L' x)) (hsub : Sub L Lin)
  (h : WOK (fps Lin) w Lin w → Own2 P f args w Lin p val Lnew Lrep) : Own2 P f args w L p val Lnew L' :=
 Ret.mono (h (hw.own' hsub)) fun v w' ⟨x, hp, hv, hw'⟩ => ⟨x, hp, hv, hw.swap (Lnew x) (hs x) hw'⟩
section
variable {P : Program} {κ : Cx} {e : Env} {L : List Res} {d : Tmp} {ty : TypeId} {s : String} {af : Array Edge} {gd : Option (Nat × Bool)}
theorem q_look_o {T K E b : Nat} {m k : Operand} {kv v z : Value} {c : Bool} {D : List (Value × Value)} [ht : MpT P T K E] (hm : ev e m = some (.map (some b))) (hk : ev e k = some kv) [hi : InMp L b D] (hkl : Key P K kv) (hD : ∀ p ∈ D, Key P K p.1) (hz : ∀ w : World, (zeroValue E).run P w = .ok z w)
  (h : ((kv, v) ∈ D ∧ (∀ p ∈ D, p.1 = kv → p.2 = v) ∧ c = true) ∨ ((∀ p ∈ D, p.1 ≠ kv) ∧ v = z ∧ c = false)) :
  QRun P κ e L ⟨some d, .lookup T m k true, ty, s, af, gd⟩ (.tuple [v, .bool c].toArray) := by
 rcases h with ⟨h1, h2, rfl⟩ | ⟨h1, rfl, rfl⟩
 ·exact q_look_t hm hk hkl hD h1 h2
 ·exact q_look_f hm hk hkl hD h1 hz
end
end Go.Eg
namespace Go.Proofs.YtdddiilocbbkkaaGreat
open Go.RowKit Go.Eg
set_option maxHeartbeats 4000000
set_option synthInstance.maxSize 3000
set_option maxRecDepth 100000
theorem keyB : ∀ (a b : Nat), a < 8 → b < 8 → (keyOf Tryz.prog 374 (.agg [.int .i64 (a : Int), .int .i64 (b : Int)].toArray)).isSome = true := by
 intro a b ha hb
 rcases (show a = 0 ∨ a = 1 ∨ a = 2 ∨ a = 3 ∨ a = 4 ∨ a = 5 ∨ a = 6 ∨ a = 7 by omega) with rfl | rfl | rfl | rfl | rfl | rfl | rfl | rfl <;>
 rcases (show b = 0 ∨ b = 1 ∨ b = 2 ∨ b = 3 ∨ b = 4 ∨ b = 5 ∨ b = 6 ∨ b = 7 by omega) with rfl | rfl | rfl | rfl | rfl | rfl | rfl | rfl <;> kernel_rfl
def nxtJ : List Nat := [2, 4, 6, 8, 10, 12, 14, 16, 18, 20]
theorem nxt_tab : ∀ a : Nat, a < 8 → ∀ b : Nat, b < 8 → ((∃ j ∈ nxtJ, tabR j = ((a : Int), (b : Int), nxt a b)) ∧ (∀ j ∈ nxtJ, (tabR j).1 = (a : Int) → (tabR j).2.1 = (b : Int) → (tabR j).2.2 = nxt a b) ∧ nxt a b ≠ 0) ∨ ((∀ j ∈ nxtJ, ¬ ((tabR j).1 = (a : Int) ∧ (tabR j).2.1 = (b : Int))) ∧ nxt a b = 0) := by decide +kernel
theorem agg2_inj {a b c d : Int} (h : Value.agg [Value.int .i64 a, .int .i64 b].toArray = .agg [Value.int .i64 c, .int .i64 d].toArray) : a = c ∧ b = d := by
 simpa using h
theorem nxt_look (a b : Nat) (ha : a < 8) (hb : b < 8) : ((Value.agg [Value.int .i64 (a : Int), .int .i64 (b : Int)].toArray, Value.int .i64 (nxt a b)) ∈ nxtJ.map tabE ∧ (∀ p ∈ nxtJ.map tabE, p.1 = .agg [Value.int .i64 (a : Int), .int .i64 (b : Int)].toArray → p.2 = .int .i64 (nxt a b)) ∧ decide (nxt a b ≠ 0) = true) ∨
  ((∀ p ∈ nxtJ.map tabE, p.1 ≠ .agg [Value.int .i64 (a : Int), .int .i64 (b : Int)].toArray) ∧ Value.int .i64 (nxt a b) = .int .i64 0 ∧ decide (nxt a b ≠ 0) = false) := by
 rcases nxt_tab a ha b hb with ⟨⟨j, hj, h1⟩, h2, h3⟩ | ⟨h1, h2⟩
 ·refine .inl ⟨List.mem_map.2 ⟨j, hj, by simp only [tabE, h1]⟩, fun p hp he => ?_, decide_eq_true h3⟩
  obtain ⟨i, hi, rfl⟩ := List.mem_map.1 hp
  obtain ⟨h4, h5⟩ := agg2_inj he
  simp only [tabE]; rw [h2 i hi h4 h5]
 ·refine .inr ⟨fun p hp he => ?_, by rw [h2], by simp [h2]⟩
  obtain ⟨i, hi, rfl⟩ := List.mem_map.1 hp
  exact h1 i hi (agg2_inj he)
theorem nxt_keys : ∀ p ∈ nxtJ.map tabE, Key Tryz.prog 374 p.1 := fun p hp => by obtain ⟨j, _, rfl⟩ := List.mem_map.1 hp; exact tabKey j
theorem next_any (a b : Nat) (w : World) (ha : a < 8) (hb : b < 8) : Pur Tryz.prog 227 [.int .i64 (a : Int), .int .i64 (b : Int)] w (.tuple [.int .i64 (nxt a b), .bool (decide (nxt a b ≠ 0))].toArray) := by
 refine g_st Tryz.func227 18 (WOK.start [] _) ?_
 refine rn [1,3,3,0,1] ?_
 refine g_op (zH [] rfl (fun w1 hw1 ho1 => by have h7 := table_any w1; exact h7) rfl ?_)
 rintro b9 _
 refine ii ?_
 refine rn [2,2,49] ?_
 refine s_q (q_look_o (b := b9) (D := nxtJ.map tabE) (v := .int .i64 (nxt a b)) (c := decide (nxt a b ≠ 0)) rfl rfl (Option.isSome_iff_exists.1 (keyB a b ha hb)) nxt_keys (z := .int .i64 0) (fun _ => rfl) (nxt_look a b ha hb)) rfl ?_
 refine rn [2,40,40,3,3,0,1,2,2,3,3,0,11] ?_
 exact fin2 rfl (.tmp rfl) (.tmp rfl) (fun w' hw' => ⟨by rfl, hw'.upd⟩) _ (.inl rfl)
def maxF (l : List Int) : Int := l.tail.foldl max (l.head?.getD 0)
theorem maxF_succ {l : List Int} {k : Nat} (hk : k < l.length) (h0 : 0 < k) : max (maxF (l.take k)) l[k] = maxF (l.take (k + 1)) := by
 cases l with
 | nil => simp at hk
 | cons x l =>
  obtain ⟨k, rfl⟩ : ∃ q, k = q + 1 := ⟨k - 1, by omega⟩
  have hk' : k < l.length := by simpa using hk
  simp only [maxF, List.take_succ_cons, List.tail_cons, List.head?_cons, Option.getD_some, List.getElem_cons_succ]
  rw [← List.take_append_getElem hk', List.foldl_append]; rfl
theorem smax_any (A : Option Addr) (n cap : Nat) (l : List Int) (w : World) (ha : Old w A n 1 (l.map (fun v : Int => [Value.int .i64 v]))) (h1 : 1 ≤ n) (hb : n ≤ 1000) : Pur Tryz.prog 292 [.slice A n cap] w (.int .i64 (maxF l)) := by
 refine g_st Tryz.func292 25 (WOK.start [] _) ?_
 have hn : n = l.length := by simpa using ha.len
 have h0 : 0 < l.length := by omega
 refine rn [1,3,0,8,1,2,47,46,0] ?_
 refine zC rfl (fun h1 => ?_) (fun h1 => ?_)
 ·exfalso; have h9 := of_decide_eq_true h1; omega
 ·refine rn [12,7,1,2] ?_
  refine s_q (zR (i := 0) rfl rfl rfl (ha.rdb rfl) (by omega)) rfl ?_
  refine s_q (yL (i := 0) (o := 0) rfl (ha.rdb rfl) (zS h0) rfl rfl) rfl ?_
  refine rn [3,0,8,1,3,0,14] ?_
  refine g_val 3 (v' := .int .i64 (maxF (l.take 1))) rfl (by cases l with | nil => simp at h0 | cons x r => rfl) ?_
  refine g_lk [0, 2] (fun (x : Nat) => [(3, .int .i64 (maxF (l.take x))), (4, .int .i64 ((x : Nat) : Int))]) (fun (x : Nat) => []) (fun (x : Nat) => 1 ≤ x ∧ x ≤ l.length) (fun (x : Nat) => l.length - x) 1 (by (try dsimp only); exact ⟨(by omega), (by omega)⟩) ?_
  rintro k ⟨h1k, hkn⟩
  replace h1k : 1 ≤ k := h1k
  replace hkn : k ≤ l.length := hkn
  refine rn [8,1,2,2,47,46,0] ?_
  refine zC rfl (fun h2 => ?_) (fun h2 => ?_)
  ·have lt_k : k < l.length := by have h9 := of_decide_eq_true h2; omega
   refine rn [12,7,8,14,10,2,2,2] ?_
   refine s_q (zR (i := k) rfl rfl rfl (ha.rdb rfl) (by first | omega | (simp; done) | (simp; omega))) rfl ?_
   refine s_q (yL (i := k) (o := 0) rfl (ha.rdb rfl) (zS (by omega)) rfl rfl) rfl ?_
   refine rn [59] ?_
   refine g_val 23 (v' := .int .i64 (maxF (l.take (k + 1)))) rfl (by rw [maxF_succ lt_k (by omega)]) ?_
   refine rn [3,9,15,7,10,2,43,3,9] ?_
   exact g_ag (k + 1) (by (try dsimp only); exact ⟨(by omega), (by omega)⟩)
  ·obtain rfl : k = l.length := by have h9 := of_decide_eq_false h2; omega
   refine rn [16] ?_
   refine zE (zE (zQ ?_))
   refine rn [7,1,2,3,0,11] ?_
   exact fin1 rfl (.tmp rfl) (fun w' hw' => ⟨by rw [List.take_length], hw'.upd⟩) _ (.inl rfl)
theorem cmax_any (A : Option Addr) (n cap : Nat) (l : List Int) (w : World) (ha : Old w A n 1 (l.map (fun v : Int => [Value.int .i64 v]))) (h1 : 1 ≤ n) (hb : n ≤ 1000) : Pur Tryz.prog 250 [.slice A n cap] w (.int .i64 (maxF l)) := by
 refine g_st Tryz.func250 8 (WOK.start [] _) ?_
 have hn : n = l.length := by simpa using ha.len
 have h0 : 0 < l.length := by omega
 refine rn [1,3,0,8,1,2,47,44,0] ?_
 refine zC rfl (fun h1 => ?_) (fun h1 => ?_)
 ·exfalso; have h9 := of_decide_eq_true h1; omega
 ·refine rn [12,7,1,2] ?_
  refine g_op (zG rfl (fun w1 hw1 => smax_any A n cap l w1 (Rdb.toOld (ha.rdb rfl) hw1) (by omega) (by omega)) rfl ?_)
  refine rn [3,0,11] ?_
  exact fin1 rfl (.tmp rfl) (fun w' hw' => ⟨by rfl, hw'.upd⟩) _ (.inl rfl)
def acR (e : Int) (v : V) : V × Int := if latB [e] = false then (v, 10) else ({ v with rq := e }, 0)
def evR (e : Nat) (v : V) : V × Int := if nxt v.st (e : Int) = 0 then (v, 8) else ({ v with st := nxt v.st (e : Int) }, 0)
def dlR (e d : Int) (v : V) : V × Int := if latB [e, d] = false then (v, 10) else ({ v with wd := max v.wd (latV [e, d]) }, 0)
def asR (e : Int) (v : V) : V × Int := if v.st ≠ 3 ∨ v.ex ≠ -1 then (v, 8) else ({ v with ex := e }, 0)
def mkR (e : Int) (v : V) : V × Int := if v.sl = true then (v, 9) else ({ v with sl := true, rq := if v.st = 2 then e else v.rq, dl := -1 }, 0)
def buR (c : C) (v : V) : V × Int := ({ v with bal := IntKind.u64.wrap (v.bal - burnV v.bal c) }, burnV v.bal c)
def duR (e : Int) (v : V) : V × Int := if e < v.wd then (v, 8) else ({ v with bal := 0 }, 0)
theorem acc1_any (b q : Nat) (v : V) (e : Int) (w : World) (hw : W0 [Res.blk b 52 (V.c v), Res.blk q 3 [Value.int .i64 (e)]] w) (he : I64 e) : Own2 (ι := Unit) Tryz.prog 243 [.pointer (some ⟨b, 0, none⟩), .pointer (some ⟨q, 0, none⟩)] w [Res.blk b 52 (V.c v), Res.blk q 3 [Value.int .i64 (e)]] (fun x => True) (fun x => .int .i64 (acR e v).2) (fun x => []) (fun x => [Res.blk b 52 (V.c (acR e v).1), Res.blk q 3 [Value.int .i64 (e)]]) := by
 refine g_st Tryz.func243 17 hw ?_
 refine rn [1,3,0,8,1,5] ?_
 refine g_op (zK [] rfl (fun w1 hw1 ho1 => by exact later_any (e) none 0 0 ([] : List Int) w1 he Rd.zero (by simp) (by omega)) rfl ?_)
 refine rn [2,40,40,3,3,0,1,2,48,0] ?_
 refine zC rfl (fun h1 => ?_) (fun h1 => ?_)
 ·have hR : acR e v = (v, 10) := by have h9 : latB [e] = false := (by simpa using h1); unfold acR; rw [if_pos h9]
  refine rn [1,3,0,11,13] ?_
  exact fin1 rfl (.tmp rfl) (fun w' hw' => ⟨(), (by exact trivial), by rw [hR], by rw [hR]; exact zA w' hw'⟩) _ (.inl rfl)
 ·have hR : acR e v = ({ v with rq := e }, 0) := by have h9 : latB [e] = true := (by simpa using h1); unfold acR; rw [if_neg (by rw [h9]; simp)]
  refine rn [12,7,1,2,5,6,4] ?_
  refine g_op (zP rfl rfl rfl rfl rfl rfl rfl ?_)
  refine zJ (b := b) (V.c { v with rq := e }) (by simp [splice, V.c]) ?_
  refine rn [0,1,3,0,11] ?_
  exact fin1 rfl (.tmp rfl) (fun w' hw' => ⟨(), (by exact trivial), by rw [hR], by rw [hR]; exact zA w' hw'⟩) _ (.inl rfl)
theorem ev1_any (b q : Nat) (v : V) (e : Nat) (w : World) (hw : W0 [Res.blk b 52 (V.c v), Res.blk q 3 [Value.int .i64 ((e : Int))]] w) (he : e < 8) (hs : 0 ≤ v.st ∧ v.st ≤ 7) : Own2 (ι := Unit) Tryz.prog 248 [.pointer (some ⟨b, 0, none⟩), .pointer (some ⟨q, 0, none⟩)] w [Res.blk b 52 (V.c v), Res.blk q 3 [Value.int .i64 ((e : Int))]] (fun x => True) (fun x => .int .i64 (evR e v).2) (fun x => []) (fun x => [Res.blk b 52 (V.c (evR e v).1), Res.blk q 3 [Value.int .i64 ((e : Int))]]) := by
 refine g_st Tryz.func248 21 hw ?_
 refine rn [1,3,0,8] ?_
 refine dreg [] mixed rfl ?_
 refine rn [23,0,2,23,1,6,23,2,4,23,3,5,23,4,5] ?_
 refine dop 5 rfl (zG rfl (fun w1 hw1 => by have h7 := next_any (v.st).toNat ((e : Int)).toNat w1 (by omega) (by omega); rw [Int.toNat_of_nonneg (show 0 ≤ v.st by omega), Int.toNat_of_nonneg (show 0 ≤ (e : Int) by omega)] at h7; exact h7) rfl ?_)
 refine rn [23,6,2,23,7,40,23,8,40,23,9,3,23,10,3,27,7,8,1,2,48,0] ?_
 refine zC rfl (fun h1 => ?_) (fun h1 => ?_)
 ·have hR : evR e v = (v, 8) := by have h9 : nxt v.st (e : Int) = 0 := (by simpa using h1); unfold evR; rw [if_pos h9]
  refine rn [1,3,0,11,13] ?_
  exact fin1 rfl (.tmp rfl) (fun w' hw' => ⟨(), (by exact trivial), by rw [hR], by rw [hR]; exact zA w' hw'⟩) _ (.inl rfl)
 ·have hR : evR e v = ({ v with st := nxt v.st (e : Int) }, 0) := by have h9 : ¬ nxt v.st (e : Int) = 0 := (by simpa using h1); unfold evR; rw [if_neg h9]
  refine rn [12,7,1,2,2,6,4] ?_
  refine g_op (zP rfl rfl rfl rfl rfl rfl rfl ?_)
  refine zJ (b := b) (V.c { v with st := nxt v.st (e : Int) }) (by simp [splice, V.c]) ?_
  refine rn [0,1,3,0,11] ?_
  exact fin1 rfl (.tmp rfl) (fun w' hw' => ⟨(), (by exact trivial), by rw [hR], by rw [hR]; exact zA w' hw'⟩) _ (.inl rfl)
theorem del1_any (b q q2 : Nat) (v : V) (e d : Int) (w : World) (hw : W0 [Res.blk b 52 (V.c v), Res.blk q 3 [Value.int .i64 (e)], Res.blk q2 3 [Value.int .i64 (d)]] w) (he : I64 e) (hd : I64 d) : Own2 (ι := Unit) Tryz.prog 249 [.pointer (some ⟨b, 0, none⟩), .pointer (some ⟨q, 0, none⟩), .pointer (some ⟨q2, 0, none⟩)] w [Res.blk b 52 (V.c v), Res.blk q 3 [Value.int .i64 (e)], Res.blk q2 3 [Value.int .i64 (d)]] (fun x => True) (fun x => .int .i64 (dlR e d v).2) (fun x => []) (fun x => [Res.blk b 52 (V.c (dlR e d v).1), Res.blk q 3 [Value.int .i64 (e)], Res.blk q2 3 [Value.int .i64 (d)]]) := by
 refine g_st Tryz.func249 26 hw ?_
 refine rn [1,3,0,1,5,5] ?_
 refine g_op (g_lit rfl rfl rfl rfl rfl fun b10 => ?_)
 refine zJ (b := b10) ((([d] : List Int).map (fun v : Int => [Value.int .i64 v])).flatten) rfl ?_
 refine g_op (zK [] rfl (fun w1 hw1 ho1 => by exact later_any (e) (some ⟨b10, 0, none⟩) 1 1 ([d] : List Int) w1 he (Rd.ofBlk (b := b10) (els := ([d] : List Int).map (fun v : Int => [Value.int .i64 v])) hw1 rfl (by simp) rfl) (by intro x hx; simp at hx; rw [hx]; exact hd) (by omega)) rfl ?_)
 refine rn [2,40,40,3,3,0,8,1,2,48,0] ?_
 refine zC rfl (fun h1 => ?_) (fun h1 => ?_)
 ·have hR : dlR e d v = (v, 10) := by have h9 : latB [e, d] = false := (by simpa using h1); unfold dlR; rw [if_pos h9]
  refine rn [1,3,0,11,13] ?_
  exact fin1 rfl (.tmp rfl) (fun w' hw' => ⟨(), (by exact trivial), by rw [hR], by rw [hR]; exact zA w' hw'⟩) _ (.inl rfl)
 ·have hR : dlR e d v = ({ v with wd := max v.wd (latV [e, d]) }, 0) := by have h9 : latB [e, d] = true := (by simpa using h1); unfold dlR; rw [if_neg (by rw [h9]; simp)]
  refine rn [12,7,1,2,2,6,4,5,2] ?_
  refine g_op (g_lit rfl rfl rfl rfl rfl fun b22 => ?_)
  refine zJ (b := b22) ((([v.wd, (latV [e, d])] : List Int).map (fun v : Int => [Value.int .i64 v])).flatten) rfl ?_
  refine g_op (zG rfl (fun w1 hw1 => cmax_any (some ⟨b22, 0, none⟩) 2 2 ([v.wd, (latV [e, d])] : List Int) w1 (Rdb.toOld (InL.rdb (b := b22) (els := (([v.wd, (latV [e, d])] : List Int).map (fun v : Int => [Value.int .i64 v]))) rfl (by simp) rfl) hw1) (by omega) (by omega)) rfl ?_)
  refine rn [6,4] ?_
  refine g_op (zP rfl rfl rfl rfl rfl rfl rfl ?_)
  refine zJ (b := b) (V.c { v with wd := max v.wd (latV [e, d]) }) (by simp [splice, V.c, maxF]) ?_
  refine rn [0,1,3,0,11] ?_
  exact fin1 rfl (.tmp rfl) (fun w' hw' => ⟨(), (by exact trivial), by rw [hR], by rw [hR]; exact zA w' hw'⟩) _ (.inl rfl)
theorem asn1_any (b q : Nat) (v : V) (e : Int) (w : World) (hw : W0 [Res.blk b 52 (V.c v), Res.blk q 3 [Value.int .i64 (e)]] w)  : Own2 (ι := Unit) Tryz.prog 281 [.pointer (some ⟨b, 0, none⟩), .pointer (some ⟨q, 0, none⟩)] w [Res.blk b 52 (V.c v), Res.blk q 3 [Value.int .i64 (e)]] (fun x => True) (fun x => .int .i64 (asR e v).2) (fun x => []) (fun x => [Res.blk b 52 (V.c (asR e v).1), Res.blk q 3 [Value.int .i64 (e)]]) := by
 refine g_st Tryz.func281 20 hw ?_
 refine rn [1,3,0,8,1,2,6,4,5,51,2] ?_
 refine zV 9 rfl (fun h1 => ?_) (fun h1 => ?_)
 ·have hR : asR e v = (v, 8) := by unfold asR; rw [if_pos (by simp_all)]
  refine rn [21,21,21,21,21,41,0,19,1,3,0,11,13] ?_
  exact fin1 rfl (.tmp rfl) (fun w' hw' => ⟨(), (by exact trivial), by rw [hR], by rw [hR]; exact zA w' hw'⟩) _ (.inl rfl)
 ·refine rn [22,2,22,6,22,4,22,5,22,51,42,0] ?_
  refine zC rfl (fun h2 => ?_) (fun h2 => ?_)
  ·have hR : asR e v = (v, 8) := by unfold asR; rw [if_pos (by simp_all)]
   refine rn [1,3,0,11,13] ?_
   exact fin1 rfl (.tmp rfl) (fun w' hw' => ⟨(), (by exact trivial), by rw [hR], by rw [hR]; exact zA w' hw'⟩) _ (.inl rfl)
  ·have hR : asR e v = ({ v with ex := e }, 0) := by unfold asR; rw [if_neg (by simp_all)]
   refine rn [12,7,1,2,5,6,4] ?_
   refine g_op (zP rfl rfl rfl rfl rfl rfl rfl ?_)
   refine zJ (b := b) (V.c { v with ex := e }) (by simp [splice, V.c]) ?_
   refine rn [0,1,3,0,11] ?_
   exact fin1 rfl (.tmp rfl) (fun w' hw' => ⟨(), (by exact trivial), by rw [hR], by rw [hR]; exact zA w' hw'⟩) _ (.inl rfl)
theorem sla1_any (b q : Nat) (v : V) (e : Int) (w : World) (hw : W0 [Res.blk b 52 (V.c v), Res.blk q 3 [Value.int .i64 (e)]] w)  : Own2 (ι := Unit) Tryz.prog 170 [.pointer (some ⟨b, 0, none⟩), .pointer (some ⟨q, 0, none⟩)] w [Res.blk b 52 (V.c v), Res.blk q 3 [Value.int .i64 (e)]] (fun x => True) (fun x => .int .i64 (mkR e v).2) (fun x => []) (fun x => [Res.blk b 52 (V.c (mkR e v).1), Res.blk q 3 [Value.int .i64 (e)]]) := by
 refine g_st Tryz.func170 23 hw ?_
 refine rn [1,3,0,8,1,2,6,4,5,0] ?_
 refine zC rfl (fun h1 => ?_) (fun h1 => ?_)
 ·have hR : mkR e v = (v, 9) := by unfold mkR; rw [if_pos (by simpa using h1)]
  refine rn [1,3,0,11,13] ?_
  exact fin1 rfl (.tmp rfl) (fun w' hw' => ⟨(), (by exact trivial), by rw [hR], by rw [hR]; exact zA w' hw'⟩) _ (.inl rfl)
 ·have hR : mkR e v = ({ v with sl := true, rq := if v.st = 2 then e else v.rq, dl := -1 }, 0) := by unfold mkR; rw [if_neg (by simpa using h1)]
  refine rn [12,7,8,1,2,6,4,5,44,0] ?_
  refine zC rfl (fun h2 => ?_) (fun h2 => ?_)
  ·have h2 : v.st = 2 := by simpa using h2
   refine rn [10,2,5,6,4] ?_
   refine g_op (zP rfl rfl rfl rfl rfl rfl rfl ?_)
   refine zJ (b := b) (V.c { v with rq := e }) (by simp [splice, V.c]) ?_
   refine rn [0,1,2,2,6,4] ?_
   refine g_op (zP rfl rfl rfl rfl rfl rfl rfl ?_)
   refine rn [6,4] ?_
   refine g_op (zP rfl rfl rfl rfl rfl rfl rfl ?_)
   refine zJ (b := b) (V.c { v with sl := true, rq := if v.st = 2 then e else v.rq, dl := -1 }) (by simp [splice, V.c, h2]) ?_
   refine rn [0,1,3,0,11] ?_
   exact fin1 rfl (.tmp rfl) (fun w' hw' => ⟨(), (by exact trivial), by rw [hR], by rw [hR]; exact zA w' hw'⟩) _ (.inl rfl)
  ·have h2 : ¬ v.st = 2 := by simpa using h2
   refine rn [12,7,1,2,2,6,4] ?_
   refine g_op (zP rfl rfl rfl rfl rfl rfl rfl ?_)
   refine rn [6,4] ?_
   refine g_op (zP rfl rfl rfl rfl rfl rfl rfl ?_)
   refine zJ (b := b) (V.c { v with sl := true, rq := if v.st = 2 then e else v.rq, dl := -1 }) (by simp [splice, V.c, h2]) ?_
   refine rn [0,1,3,0,11] ?_
   exact fin1 rfl (.tmp rfl) (fun w' hw' => ⟨(), (by exact trivial), by rw [hR], by rw [hR]; exact zA w' hw'⟩) _ (.inl rfl)
theorem pay1_any (b q : Nat) (v : V) (e : Int) (w : World) (hw : W0 [Res.blk b 52 (V.c v), Res.blk q 3 [Value.int .i64 (e)]] w)  : Own2 (ι := Unit) Tryz.prog 240 [.pointer (some ⟨b, 0, none⟩), .pointer (some ⟨q, 0, none⟩)] w [Res.blk b 52 (V.c v), Res.blk q 3 [Value.int .i64 (e)]] (fun x => True) (fun x => .int .i64 (duR e v).2) (fun x => []) (fun x => [Res.blk b 52 (V.c (duR e v).1), Res.blk q 3 [Value.int .i64 (e)]]) := by
 refine g_st Tryz.func240 13 hw ?_
 refine rn [1,3,0,8,8] ?_
 refine dreg [] mixed rfl ?_
 refine rn [23,0,5,23,1,2,23,2,6,23,3,4,23,4,5,23,5,46,27,7] ?_
 refine zC rfl (fun h1 => ?_) (fun h1 => ?_)
 ·have hR : duR e v = (v, 8) := by unfold duR; rw [if_pos (by simpa using h1)]
  refine rn [1,3,0,11,13] ?_
  exact fin1 rfl (.tmp rfl) (fun w' hw' => ⟨(), (by exact trivial), by rw [hR], by rw [hR]; exact zA w' hw'⟩) _ (.inl rfl)
 ·have hR : duR e v = ({ v with bal := 0 }, 0) := by unfold duR; rw [if_neg (by simpa using h1)]
  refine rn [12,7,1,2,6,4] ?_
  refine g_op (zP rfl rfl rfl rfl rfl rfl rfl ?_)
  refine zJ (b := b) (V.c { v with bal := 0 }) (by simp [splice, V.c]) ?_
  refine rn [0,1,3,0,11] ?_
  exact fin1 rfl (.tmp rfl) (fun w' hw' => ⟨(), (by exact trivial), by rw [hR], by rw [hR]; exact zA w' hw'⟩) _ (.inl rfl)
theorem event_any (e : Int) (w : World)  : Own2 (ι := Nat) Tryz.prog 174 [.int .i64 e] w [] (fun x => True) (fun x => .func (.func 248) #[] [Value.pointer (some ⟨x, 0, none⟩)].toArray) (fun x => [Res.blk x 3 [Value.int .i64 (e)]]) (fun x => []) := by
 refine g_st Tryz.func174 4 (WOK.start (fps []) _) ?_
 refine rn [1] ?_
 refine g_op (g_box rfl rfl rfl fun b1 => ?_)
 refine rn [3,0,1,52,3,0,11] ?_
 exact fin1 rfl (.tmp rfl) (fun w' hw' => ⟨b1, (by exact trivial), rfl, zA w' hw'⟩) _ (.inl rfl)
theorem delay_any (e d : Int) (w : World)  : Own2 (ι := (Nat × Nat)) Tryz.prog 175 [.int .i64 e, .int .i64 d] w [] (fun x => True) (fun x => .func (.func 249) #[] [Value.pointer (some ⟨x.1, 0, none⟩), Value.pointer (some ⟨x.2, 0, none⟩)].toArray) (fun x => [Res.blk x.1 3 [Value.int .i64 (e)], Res.blk x.2 3 [Value.int .i64 (d)]]) (fun x => []) := by
 refine g_st Tryz.func175 6 (WOK.start (fps []) _) ?_
 refine rn [1] ?_
 refine g_op (g_box rfl rfl rfl fun b2 => ?_)
 refine g_op (g_box rfl rfl rfl fun b3 => ?_)
 refine rn [3,0,1,52,3,0,11] ?_
 exact fin1 rfl (.tmp rfl) (fun w' hw' => ⟨(b2, b3), (by exact trivial), rfl, zA w' hw'⟩) _ (.inl rfl)
structure Chg (σ : Type) where
 f : Nat
 cap : List Value
 run : V → σ → V × Int × σ
def Chg.val {σ : Type} (c : Chg σ) : Value := .func (.func c.f) #[] c.cap.toArray
def applyC {σ : Type} : List (Chg σ) → V → σ → V × Int × σ
 | [], v, s => (v, 0, s)
 | c :: r, v, s => if (c.run v s).2.1 = 0 then applyC r (c.run v s).1 (c.run v s).2.2 else (V.z, (c.run v s).2.1, (c.run v s).2.2)
structure Chg.OK {σ : Type} (rr : σ → Res) (ok : V → σ → Prop) (c : Chg σ) : Prop where
 hb : hasBody Tryz.prog c.f = true
 st : ∀ v s, ok v s → (c.run v s).2.1 = 0 → ok (c.run v s).1 (c.run v s).2.2
 go : ∀ b v s w, WOK (fps [Res.blk b 52 v.c, rr s]) w [Res.blk b 52 v.c, rr s] w → ok v s → Own2 (ι := Unit) Tryz.prog c.f (.pointer (some ⟨b, 0, none⟩) :: c.cap) w [Res.blk b 52 v.c, rr s] (fun _ => True) (fun _ => .int .i64 (c.run v s).2.1) (fun _ => []) (fun _ => [Res.blk b 52 (c.run v s).1.c, rr (c.run v s).2.2])
theorem applyC_ok {σ : Type} {fs : List (Chg σ)} {k : Nat} (h : k < fs.length) {v : V} {s : σ} (h0 : (fs[k].run v s).2.1 = 0) : applyC (fs.drop k) v s = applyC (fs.drop (k + 1)) (fs[k].run v s).1 (fs[k].run v s).2.2 := by
 rw [List.drop_eq_getElem_cons h, applyC, if_pos h0]
theorem applyC_err {σ : Type} {fs : List (Chg σ)} {k : Nat} (h : k < fs.length) {v : V} {s : σ} (h0 : ¬ (fs[k].run v s).2.1 = 0) : applyC (fs.drop k) v s = (V.z, (fs[k].run v s).2.1, (fs[k].run v s).2.2) := by
 rw [List.drop_eq_getElem_cons h, applyC, if_neg h0]
theorem Own2.unstar {ι : Type} {P : Program} {f : FuncId} {args : List Value} {w : World} {Ls : List Res} {p : ι → Prop} {val : ι → Value} {Ls1 : ι → List Res} (h : WOK (fps [Res.star Ls]) w [Res.star Ls] w → Own2 P f args w [.star Ls] p val (fun _ => []) (fun x => [.star (Ls1 x)])) (hw : WOK (fps Ls) w Ls w) :
  Own2 P f args w Ls p val (fun _ => []) Ls1 := by
 have h1 : WOK (fps [Res.star Ls]) w [Res.star Ls] w := by rw [fps_star]; exact WOK.closed (L := []) (by rw [List.append_nil]; exact hw)
 refine Ret.mono (h h1) fun v w' ⟨x, hp, hv, hw2⟩ => ⟨x, hp, hv, ?_⟩
 rw [fps_star] at hw2
 have h3 : WOK (fps Ls) w (Res.star (Ls1 x) :: []) w' := hw2
 have := h3.opened
 rwa [List.append_nil] at this
theorem Chg.go_of {f : Nat} {args : List Value} {r0 r1 : Res} {Lin Lrep Ls Ls1 : List Res} {val : Value} {w : World} (hw : W0 [r0, .star Ls] w) (hs : Swap (r0 :: Ls) Lin Lrep (r1 :: Ls1)) (hsub : Sub (r0 :: Ls) Lin)
  (h : ∀ w, WOK (fps Lin) w Lin w → Own2 (ι := Unit) Tryz.prog f args w Lin (fun _ => True) (fun _ => val) (fun _ => []) (fun _ => Lrep)) : Own2 (ι := Unit) Tryz.prog f args w [r0, .star Ls] (fun _ => True) (fun _ => val) (fun _ => []) (fun _ => [r1, .star Ls1]) :=
 Own2.star (r1 := fun _ => r1) (Ls1 := fun _ => Ls1) (fun hw1 => Own2.into (L' := fun _ => r1 :: Ls1) hw1 (fun _ => hs) hsub (fun hw2 => h w hw2)) hw
theorem xG {σ : Type} (rr : σ → Res) (ok : V → σ → Prop) (fs : List (Chg σ)) (v : V) (s : σ) (q : Nat) (w : World) (hw : W0 [rr s] w) (hfs : ∀ c ∈ fs, c.OK rr ok) (hok : ok v s) (hr : Rd w [rr s] (some ⟨q, 0, none⟩) fs.length 1 (fs.map (fun c : Chg σ => [Chg.val c]))) (hfl : fs.length ≤ 100) : Own2 (ι := Unit) Tryz.prog 173 [v.v, .slice (some ⟨q, 0, none⟩) fs.length fs.length] w [rr s] (fun x => True) (fun x => .tuple [V.v (applyC fs v s).1, .int .i64 (applyC fs v s).2.1].toArray) (fun x => []) (fun x => [rr (applyC fs v s).2.2]) := by
 refine g_st Tryz.func173 23 hw ?_
 refine rn [1] ?_
 refine g_op (g_box (c := V.c v) rfl rfl rfl fun b2 => ?_)
 refine g_op (zI rfl fun b4 => ?_)
 refine rn [3,0,8,1,2,47,2,0,14] ?_
 refine zJ (b := b4) (V.c V.z) rfl ?_
 refine g_lk [2, 4, 5, 9, 10] (fun (x : Nat × V × σ) => [(11, .int .i64 ((x.1 : Nat) : Int))]) (fun (x : Nat × V × σ) => [Res.blk b4 52 (V.c V.z), Res.blk b2 52 (V.c x.2.1), rr x.2.2]) (fun (x : Nat × V × σ) => x.1 ≤ fs.length ∧ ok x.2.1 x.2.2 ∧ applyC (fs.drop x.1) x.2.1 x.2.2 = applyC fs v s) (fun (x : Nat × V × σ) => fs.length - x.1) (0, v, s) (by (try dsimp only); exact ⟨Nat.zero_le _, hok, rfl⟩) ?_
 rintro ⟨k, v1, s1⟩ ⟨le_k, hok1, hap⟩
 replace le_k : k ≤ fs.length := le_k
 replace hok1 : ok v1 s1 := hok1
 replace hap : applyC (fs.drop k) v1 s1 = applyC fs v s := hap
 refine zX (L' := [Res.blk b4 52 (V.c V.z), Res.blk b2 52 (V.c v1), rr s1]) rfl ?_
 refine g_val 11 (v' := .int .i64 ((k : Nat) : Int)) rfl rfl ?_
 refine rn [1,46,0,8] ?_
 refine zC rfl (fun h1 => ?_) (fun h1 => ?_)
 ·have lt_k : k < fs.length := by have h9 := of_decide_eq_true h1; omega
  refine rn [12,7,8,14,1] ?_
  refine s_q (zR (i := k) rfl rfl rfl hr.rdb (by first | exact lt_k | omega)) rfl ?_
  refine s_q (yL (i := k) (o := 0) rfl hr.rdb (zS (by first | exact lt_k | omega)) rfl rfl) rfl ?_
  refine rn [3,0,1,2] ?_
  refine g_op (g_ownV (hb := ⟨(hfs _ (List.getElem_mem lt_k)).hb⟩) (f := fs[k].f) (cap := fs[k].cap) (fst := []) [Res.blk b2 52 v1.c, rr s1] rfl rfl (fun w1 hw1 ho1 => by have h7 := (hfs _ (List.getElem_mem lt_k)).go b2 v1 s1 w1 ho1 hok1; exact h7) rfl ?_)
  rintro ⟨⟩ _
  refine ii ?_
  refine rn [3,0,1,2,51,0] ?_
  refine zC rfl (fun h2 => ?_) (fun h2 => ?_)
  ·have hz : ¬ (fs[k].run v1 s1).2.1 = 0 := by simpa using h2
   have hR := applyC_err lt_k hz
   rw [hap] at hR
   refine rn [1,49,2,33] ?_
   refine zJ (b := b4) (V.c V.z) rfl ?_
   refine rn [3,0,11] ?_
   refine zN (zD (zD (zN (zD ?_))))
   exact fin2 rfl (.cellw rfl rfl) (.tmp rfl) (fun w' hw' => ⟨(), (by exact trivial), by rw [hR]; rfl, by rw [hR]; exact zA w' hw'⟩) _ (.inl rfl)
  ·have hz : (fs[k].run v1 s1).2.1 = 0 := by simpa using h2
   refine rn [12,15,7,10,43,2,9] ?_
   exact g_ag ((k + 1), (fs[k].run v1 s1).1, (fs[k].run v1 s1).2.2) (by (try dsimp only); exact ⟨(by first | exact lt_k | omega), ((hfs _ (List.getElem_mem lt_k)).st v1 s1 hok1 hz), (by rw [← applyC_ok lt_k hz]; exact hap)⟩)
 ·have eq_k : k = fs.length := by have h9 := of_decide_eq_false h1; omega
  have hR : applyC fs v s = (v1, 0, s1) := by rw [← hap, eq_k, List.drop_length]; rfl
  refine rn [16] ?_
  refine zE (zE (zQ ?_))
  refine rn [7,1,45,33] ?_
  refine zJ (b := b4) (V.c v1) (yE rfl) ?_
  refine rn [3,0,11] ?_
  exact fin2 rfl (.cellw rfl rfl) (.tmp rfl) (fun w' hw' => ⟨(), (by exact trivial), by rw [hR]; rfl, by rw [hR]; exact zA w' hw'⟩) _ (.inl rfl)
end Go.Proofs.YtdddiilocbbkkaaGreat
namespace Go.Eg
open Go.RowKit
variable {P : Program} {κ : Cx} {e : Env} {L : List Res} {d : Tmp} {ty : TypeId} {s : String} {af : Array Edge} {gd : Option (Nat × Bool)} {x y : Operand} {T T' : Nat} {a b : Nat}
theorem and_mask (a : Nat) (ha : a < 18446744073709551616) : bits .and .u64 (a : Int) 4294967295 = ((a % 4294967296 : Nat) : Int) := by
 have h := bits_and_u64_nat a 4294967295 ha (by omega)
 have e : a &&& 4294967295 = a % 4294967296 := Nat.and_two_pow_sub_one_eq_mod a 32
 rw [e] at h
 exact h
theorem q_and32 (hx : ev e x = some (.int .u64 (a : Int))) (hy : ev e y = some (.int .u64 4294967295)) (ha : a < 18446744073709551616) : QRun P κ e L ⟨some d, .binOp .and T x y T', ty, s, af, gd⟩ (.int .u64 ((a % 4294967296 : Nat) : Int)) := fun ac w he _ => by
 simp only [execOp, he.ev hx, he.ev hy]
 simp [eqGuard_at_int, binOp_and, intBits_and, and_mask a ha]
theorem q_shr32 (hx : ev e x = some (.int .u64 (a : Int))) (hy : ev e y = some (.int .u64 32)) : QRun P κ e L ⟨some d, .binOp .shr T x y T', ty, s, af, gd⟩ (.int .u64 ((a / 4294967296 : Nat) : Int)) := fun ac w he _ => by
 have h : Op.shift .shr .u64 (a : Int) .u64 32 = pure (.int .u64 ((a : Int) / 2 ^ (32 : Int).toNat)) := shift_shr .u64 .u64 a 32 (by decide) (by decide)
 simp only [execOp, he.ev hx, he.ev hy]
 simp [eqGuard_at_int, binOp_shr, h]
theorem q_mulu (hx : ev e x = some (.int .u64 (a : Int))) (hy : ev e y = some (.int .u64 (b : Int))) (hz : a * b < 18446744073709551616) : QRun P κ e L ⟨some d, .binOp .mul T x y T', ty, s, af, gd⟩ (.int .u64 ((a * b : Nat) : Int)) :=
 q_mulz hx hy (by rw [← Int.natCast_mul, IntKind.wrap_u64]; omega)
theorem q_addu (hx : ev e x = some (.int .u64 (a : Int))) (hy : ev e y = some (.int .u64 (b : Int))) (hz : a + b < 18446744073709551616) : QRun P κ e L ⟨some d, .binOp .add T x y T', ty, s, af, gd⟩ (.int .u64 ((a + b : Nat) : Int)) :=
 yM hx hy (by rw [← Int.natCast_add, IntKind.wrap_u64]; omega)
theorem q_mullo (hx : ev e x = some (.int .u64 (a : Int))) (hy : ev e y = some (.int .u64 (b : Int))) : QRun P κ e L ⟨some d, .binOp .mul T x y T', ty, s, af, gd⟩ (.int .u64 ((a * b % 18446744073709551616 : Nat) : Int)) :=
 q_mulz hx hy (by rw [← Int.natCast_mul, IntKind.wrap_u64]; omega)
end Go.Eg
namespace Go.Eg
open Go.RowKit
set_option linter.unusedVariables false
set_option maxRecDepth 100000
set_option linter.unusedSimpArgs false
def len8 (i : Nat) : Nat := if i = 0 then 0 else Nat.log2 i + 1
def len8L : List UInt8 := (List.range 256).map fun i => (len8 i).toUInt8
theorem len8_ok : ∀ i : Nat, i < 256 → i < 2 ^ len8 i ∧ len8 i ≤ 8 ∧ (0 < i → 2 ^ len8 i ≤ 2 * i) := by decide +kernel
theorem len8_get : ∀ i : Nat, i < 256 → (len8L[i]?.map UInt8.toNat) = some (len8 i) := by decide +kernel
section
variable {P : Program} {κ : Cx} {e : Env} {L : List Res} {d : Tmp} {ty : TypeId} {s : String} {af : Array Edge} {gd : Option (Nat × Bool)} {x y : Operand} {T T' : Nat} {a b n : Nat}
theorem q_shln {k : IntKind} (hx : ev e x = some (.int .u64 (a : Int))) (hy : ev e y = some (.int k (n : Int))) (hn : n ≤ 64) : QRun P κ e L ⟨some d, .binOp .shl T x y T', ty, s, af, gd⟩ (.int .u64 ((a * 2 ^ n % 18446744073709551616 : Nat) : Int)) := fun ac w he _ => by
 have h : Op.shift .shl .u64 (a : Int) k (n : Int) = pure (.int .u64 (IntKind.u64.wrap ((a : Int) * 2 ^ (n : Int).toNat))) := shift_shl .u64 k a n (by omega) (by show (n : Int) ≤ 64; omega)
 have h2 : IntKind.u64.wrap ((a : Int) * 2 ^ (n : Int).toNat) = ((a * 2 ^ n % 18446744073709551616 : Nat) : Int) := by
  rw [IntKind.wrap_u64, Int.toNat_natCast, Int.natCast_emod, Int.natCast_mul, Int.natCast_pow]; rfl
 rw [h2] at h
 generalize ((a * 2 ^ n % 18446744073709551616 : Nat) : Int) = z at h ⊢
 have e0 := (binOp_shl T _ _ _ _).trans h
 simp only [execOp, he.ev hx, he.ev hy]
 simp [eqGuard_at_int, e0]
theorem q_shrn {k : IntKind} (hx : ev e x = some (.int .u64 (a : Int))) (hy : ev e y = some (.int k (n : Int))) (hn : n ≤ 64) : QRun P κ e L ⟨some d, .binOp .shr T x y T', ty, s, af, gd⟩ (.int .u64 ((a / 2 ^ n : Nat) : Int)) := fun ac w he _ => by
 have h : Op.shift .shr .u64 (a : Int) k (n : Int) = pure (.int .u64 ((a : Int) / 2 ^ (n : Int).toNat)) := shift_shr .u64 k a n (by omega) (by show (n : Int) ≤ 64; omega)
 have h2 : (a : Int) / 2 ^ (n : Int).toNat = ((a / 2 ^ n : Nat) : Int) := by rw [Int.toNat_natCast, Int.natCast_ediv, Int.natCast_pow]; rfl
 rw [h2] at h
 generalize ((a / 2 ^ n : Nat) : Int) = z at h ⊢
 have e0 := (binOp_shr T _ _ _ _).trans h
 simp only [execOp, he.ev hx, he.ev hy]
 simp [eqGuard_at_int, e0]
theorem q_shri {k : IntKind} {z : Int} (hx : ev e x = some (.int .u64 z)) (hy : ev e y = some (.int k (n : Int))) (hn : n ≤ 64) : QRun P κ e L ⟨some d, .binOp .shr T x y T', ty, s, af, gd⟩ (.int .u64 (z / 2 ^ n)) := fun ac w he _ => by
 have h : Op.shift .shr .u64 z k (n : Int) = pure (.int .u64 (z / 2 ^ (n : Int).toNat)) := shift_shr .u64 k z n (by omega) (by show (n : Int) ≤ 64; omega)
 rw [Int.toNat_natCast] at h
 have e0 := (binOp_shr T _ _ _ _).trans h
 simp only [execOp, he.ev hx, he.ev hy]
 simp [eqGuard_at_int, e0]
theorem q_orn (hx : ev e x = some (.int .u64 (a : Int))) (hy : ev e y = some (.int .u64 (b : Int))) (ha : a < 18446744073709551616) (hb : b < 18446744073709551616) : QRun P κ e L ⟨some d, .binOp .or T x y T', ty, s, af, gd⟩ (.int .u64 ((a ||| b : Nat) : Int)) := fun ac w he _ => by
 simp only [execOp, he.ev hx, he.ev hy]
 simp [eqGuard_at_int, binOp_or, intBits_or, bits_or_u64_nat a b ha hb]
theorem q_quou (hx : ev e x = some (.int .u64 (a : Int))) (hy : ev e y = some (.int .u64 (b : Int))) (ha : a < 18446744073709551616) (hb : 0 < b) : QRun P κ e L ⟨some d, .binOp .quo T x y T', ty, s, af, gd⟩ (.int .u64 ((a / b : Nat) : Int)) := by
 have h1 := q_quo (P := P) (κ := κ) (L := L) (d := d) (ty := ty) (s := s) (af := af) (gd := gd) (T := T) (T' := T') hx hy (by omega)
 have e1 : IntKind.u64.wrap (((a : Nat) : Int).tdiv ((b : Nat) : Int)) = ((a / b : Nat) : Int) := by
  have h2 : ((a : Nat) : Int).tdiv ((b : Nat) : Int) = ((a / b : Nat) : Int) := rfl
  have h3 : a / b ≤ a := Nat.div_le_self _ _
  rw [h2]
  generalize a / b = q at h3 ⊢
  rw [wu64 (by omega) (by omega)]
 rwa [e1] at h1
theorem q_subu (hx : ev e x = some (.int .u64 (a : Int))) (hy : ev e y = some (.int .u64 (b : Int))) (h : b ≤ a) (ha : a < 18446744073709551616) : QRun P κ e L ⟨some d, .binOp .sub T x y T', ty, s, af, gd⟩ (.int .u64 ((a - b : Nat) : Int)) :=
 yY hx hy (by rw [IntKind.wrap_u64]; omega)
theorem q_len8 {t : ByteArray} (hT : P.underlying T = some .string) (hx : ev e x = some (.string t)) (hy : ev e y = some (.int .u8 (a : Int))) (hb : t.data.toList = len8L) (hi : a < 256) : QRun P κ e L ⟨some d, .index T x y, ty, s, af, gd⟩ (.int .u8 ((len8 a : Nat) : Int)) := fun ac w he _ => by
 have hsz : t.size = 256 := by
  have : t.data.toList.length = 256 := by rw [hb]; simp [len8L]
  simpa using this
 have hg := len8_get a hi
 rw [← hb] at hg
 have hlt : a < t.data.size := by show a < t.size; omega
 have hv : (t[a]'(by omega)).toNat = len8 a := by
  rw [Array.getElem?_toList, Array.getElem?_eq_getElem hlt] at hg
  have h9 : (t.data[a]'hlt).toNat = len8 a := by simpa using hg
  exact h9
 have hr := run_index_string (P := P) w T t .u8 (a : Int) hT
 rw [dif_pos ⟨by omega, by omega⟩] at hr
 simp only [Int.toNat_natCast, hv] at hr
 simp only [execOp, he.ev hx, he.ev hy]
 simp [hr]
end
structure LenOK (x n : Nat) : Prop where
 lt : x < 2 ^ n
 ge : 2 ^ n ≤ 2 * x
theorem LenOK.up {x n : Nat} (k : Nat) (h : LenOK (x / 2 ^ k) n) : LenOK x (n + k) := by
 have hp : 0 < 2 ^ k := Nat.pow_pos (by decide)
 obtain ⟨h1, h2⟩ := h
 rw [Nat.div_lt_iff_lt_mul hp] at h1
 refine ⟨by rw [Nat.pow_add]; exact h1, ?_⟩
 rw [Nat.pow_add]
 have h3 := Nat.mul_le_mul_right (2 ^ k) h2
 have h4 := Nat.div_mul_le_self x (2 ^ k)
 rw [Nat.mul_assoc] at h3
 omega
theorem LenOK.of8 {x : Nat} (h : x < 256) (h0 : 0 < x) : LenOK x (len8 x) ∧ len8 x ≤ 8 := ⟨⟨(len8_ok x h).1, (len8_ok x h).2.2 h0⟩, (len8_ok x h).2.1⟩
structure NrmOK (y s : Nat) : Prop where
 le : s ≤ 63
 lo : 9223372036854775808 ≤ y * 2 ^ s
 hi : y * 2 ^ s < 18446744073709551616
theorem LenOK.nrm {y n : Nat} (h : LenOK y n) (hn : n ≤ 64) (hy : 1 ≤ y) : NrmOK y (64 - n) := by
 have h0 : n ≠ 0 := fun hc => by have := h.lt; rw [hc] at this; simp at this; omega
 have hp : (2 : Nat) ^ n * 2 ^ (64 - n) = 18446744073709551616 := by rw [← Nat.pow_add, show n + (64 - n) = 64 by omega]
 refine ⟨by omega, ?_, ?_⟩
 ·have h3 := Nat.mul_le_mul_right (2 ^ (64 - n)) h.ge
  rw [hp, Nat.mul_assoc] at h3
  omega
 ·have h3 := Nat.mul_lt_mul_of_pos_right h.lt (Nat.pow_pos (n := 64 - n) (show 0 < 2 by decide))
  rw [hp] at h3; exact h3
theorem wr1 (U v R : Nat) (h : U % v * 4294967296 + R / 4294967296 < 18446744073709551616) : IntKind.u64.wrap (IntKind.u64.wrap (IntKind.u64.wrap ((U : Int) * 4294967296) + ((R / 4294967296 : Nat) : Int)) - IntKind.u64.wrap (((U / v : Nat) : Int) * ((v * 4294967296 : Nat) : Int))) = ((U % v * 4294967296 + R / 4294967296 : Nat) : Int) := by
 have hd := Nat.div_add_mod U v
 have e : ((U / v : Nat) : Int) * ((v * 4294967296 : Nat) : Int) = ((v * (U / v) : Nat) : Int) * 4294967296 := by
  have : U / v * (v * 4294967296) = v * (U / v) * 4294967296 := by rw [← Nat.mul_assoc, Nat.mul_comm (U / v)]
  rw [← Int.natCast_mul, this, Int.natCast_mul]; rfl
 rw [e]
 generalize v * (U / v) = p at hd ⊢
 generalize U % v = r at hd h ⊢
 generalize R / 4294967296 = t at h ⊢
 subst hd
 simp only [IntKind.wrap_u64]
 omega
theorem wr2 (a b : Nat) (ha : a < 4294967296) (hb : b < 4294967296) : IntKind.u64.wrap (IntKind.u64.wrap ((a : Int) * 4294967296) + (b : Int)) = ((a * 4294967296 + b : Nat) : Int) := by
 simp only [IntKind.wrap_u64]; omega
theorem ge_no {q : Nat} (h : q < 4294967296) : decide ((4294967296 : Int) ≤ (q : Int)) = false := by simp; omega
theorem gt_no (z : Int) : decide (IntKind.u64.wrap z < 0) = false := by
 refine decide_eq_false ?_
 rw [IntKind.wrap_u64]; omega
theorem le_no {a b : Nat} (h : a < b) : decide ((b : Int) ≤ (a : Int)) = false := by simp; omega
theorem eq_no {a : Nat} (h : 1 ≤ a) : decide ((a : Int) = 0) = false := by simp; omega
structure DivOK (hi lo y s v U R : Nat) : Prop where
 v0 : 0 < v
 fY : y * 2 ^ s = v * 4294967296
 vlt : v < 4294967296
 fU : hi * 2 ^ s % 18446744073709551616 ||| lo / 2 ^ (64 - s) = U
 fR : lo * 2 ^ s % 18446744073709551616 = R
 ult : U < v * 4294967296
 rlt : R < 18446744073709551616
 res : U / v * 4294967296 + (U % v * 4294967296 + R / 4294967296) / v = (hi * 18446744073709551616 + lo) / y
 q1 : U / v < 4294967296
 q0 : (U % v * 4294967296 + R / 4294967296) / v < 4294967296
 rem : U % v * 4294967296 + R / 4294967296 < v * 4294967296
theorem mul32 {v : Nat} (h : v < 4294967296) : v * 4294967296 < 18446744073709551616 := by omega
theorem DivOK.more {hi lo y s v U R : Nat} (D : DivOK hi lo y s v U R) : v * 4294967296 < 18446744073709551616 ∧ U < 18446744073709551616 ∧ U / v * v ≤ U ∧ U - U / v * v = U % v ∧ (U % v * 4294967296 + R / 4294967296 < 18446744073709551616) ∧ (U % v * 4294967296 + R / 4294967296) / v * v ≤ U % v * 4294967296 + R / 4294967296 := by
 have m1 := mul32 D.vlt
 have m2 := Nat.lt_trans D.ult m1
 have m3 := Nat.div_mul_le_self U v
 refine ⟨m1, m2, m3, ?_, Nat.lt_trans D.rem m1, Nat.div_mul_le_self _ _⟩
 have h4 := Nat.div_add_mod U v
 rw [Nat.mul_comm v] at h4
 generalize U / v * v = p at h4
 generalize U % v = r at h4 ⊢
 clear m1 m2 m3 D
 omega
theorem div32 (U R : Nat) : (U * 18446744073709551616 + R) / 4294967296 = U * 4294967296 + R / 4294967296 := by
 rw [show U * 18446744073709551616 + R = R + U * 4294967296 * 4294967296 by omega, Nat.add_mul_div_right _ _ (by decide)]; omega
theorem div_ok {hi lo y s : Nat} (hy : 1 ≤ y) (hy2 : y ≤ 4294967296) (hh : hi < y) (hl : lo < 18446744073709551616) (hs : NrmOK y s) : ∃ v U R, DivOK hi lo y s v U R := by
 obtain ⟨h1, h2, h3⟩ := hs
 have hs31 : 31 ≤ s := by
  refine Classical.byContradiction fun hc => ?_
  have h4 : 2 ^ s ≤ 2 ^ 30 := Nat.pow_le_pow_right (by decide) (by omega)
  have h5 := Nat.mul_le_mul hy2 h4
  have h6 : (4294967296 : Nat) * 2 ^ 30 = 4611686018427387904 := by decide
  omega
 obtain ⟨v, hv⟩ : ∃ v, y * 2 ^ s = v * 4294967296 := by
  rcases Nat.lt_or_ge 31 s with h4 | h4
  ·refine ⟨y * 2 ^ (s - 32), ?_⟩
   rw [Nat.mul_assoc, show (4294967296 : Nat) = 2 ^ 32 by decide, ← Nat.pow_add, Nat.sub_add_cancel (by omega)]
  ·have hs2 : s = 31 := by omega
   subst hs2
   have h5 : (2 : Nat) ^ 31 = 2147483648 := by decide
   rw [h5] at h2 h3 ⊢
   exact ⟨2147483648, by omega⟩
 have hv0 : 0 < v := by omega
 have hp : 0 < 2 ^ s := Nat.pow_pos (by decide)
 have hpp : (2 : Nat) ^ (64 - s) * 2 ^ s = 18446744073709551616 := by rw [← Nat.pow_add, show 64 - s + s = 64 by omega]
 have hq : 0 < 2 ^ (64 - s) := Nat.pow_pos (by decide)
 have hhs : hi * 2 ^ s < 18446744073709551616 := Nat.lt_of_le_of_lt (Nat.mul_le_mul_right _ (by omega)) h3
 have hlq : lo / 2 ^ (64 - s) < 2 ^ s := by rw [Nat.div_lt_iff_lt_mul hq, Nat.mul_comm, hpp]; exact hl
 have hU : hi * 2 ^ s % 18446744073709551616 ||| lo / 2 ^ (64 - s) = hi * 2 ^ s + lo / 2 ^ (64 - s) := by
  rw [Nat.mod_eq_of_lt hhs, Nat.mul_comm hi, ← Nat.two_pow_add_eq_or_of_lt hlq]
 have hR : lo * 2 ^ s % 18446744073709551616 = lo % 2 ^ (64 - s) * 2 ^ s := by
  rw [← hpp, Nat.mul_mod_mul_right]
 generalize hUU : hi * 2 ^ s + lo / 2 ^ (64 - s) = U at hU
 have hrlt := Nat.mod_lt (lo * 2 ^ s) (show 0 < 18446744073709551616 by decide)
 generalize hRR : lo * 2 ^ s % 18446744073709551616 = R at hR hrlt
 have hN : U * 18446744073709551616 + R = (hi * 18446744073709551616 + lo) * 2 ^ s := by
  have h4 := Nat.div_add_mod lo (2 ^ (64 - s))
  rw [← hUU, hR]
  conv => rhs; rw [← h4]
  rw [← hpp]
  generalize lo / 2 ^ (64 - s) = a
  generalize lo % 2 ^ (64 - s) = b
  generalize 2 ^ (64 - s) = c
  generalize 2 ^ s = d
  rw [Nat.add_mul, Nat.add_mul, Nat.add_mul]
  have e1 : hi * d * (c * d) = hi * (c * d) * d := by rw [Nat.mul_assoc, Nat.mul_comm d, Nat.mul_assoc, Nat.mul_assoc, Nat.mul_assoc]
  have e2 : a * (c * d) = c * a * d := by rw [← Nat.mul_assoc, Nat.mul_comm a]
  rw [e1, e2]; omega
 have hult : U < v * 4294967296 := by
  have h4 : U * 18446744073709551616 + R < (v * 4294967296) * 18446744073709551616 := by
   rw [hN, ← hv, Nat.mul_assoc, Nat.mul_comm (2 ^ s), ← Nat.mul_assoc]
   exact Nat.mul_lt_mul_of_pos_right (by omega) hp
  omega
 have hd := Nat.div_add_mod U v
 have hmd := Nat.mod_lt U hv0
 have hremlt : U % v * 4294967296 + R / 4294967296 < v * 4294967296 := by omega
 refine ⟨v, U, R, hv0, hv, by omega, hU, hRR, hult, hrlt, ?_, ?_, ?_, hremlt⟩
 ·have e1 : (hi * 18446744073709551616 + lo) / y = (U * 18446744073709551616 + R) / (v * 4294967296) := by
   rw [hN, ← hv, Nat.mul_div_mul_right _ _ hp]
  have e2 : (U * 18446744073709551616 + R) / (v * 4294967296) = (U * 4294967296 + R / 4294967296) / v := by
   have e4 : (U * 18446744073709551616 + R) / 4294967296 = U * 4294967296 + R / 4294967296 := div32 U R
   rw [Nat.mul_comm v, ← Nat.div_div_eq_div_mul, e4]
  have e3 : U * 4294967296 + R / 4294967296 = v * (U / v * 4294967296) + (U % v * 4294967296 + R / 4294967296) := by
   conv => lhs; rw [← hd]
   rw [Nat.add_mul, Nat.mul_assoc]; omega
  rw [e1, e2, e3, Nat.mul_add_div hv0]
 ·rw [Nat.div_lt_iff_lt_mul hv0]; omega
 ·rw [Nat.div_lt_iff_lt_mul hv0]; omega
end Go.Eg
namespace Go.Eg
open Go.RowKit
section
variable {P : Program} {κ : Cx} {e : Env} {L : List Res} {X : Act → World → Prop} {Q : Exit → Act → World → Prop} {d : Tmp} {ty : TypeId} {s : String} {af : Array Edge} {gd : Option (Nat × Bool)}
theorem q_idxagg1 {T E m i : Nat} {kd : IntKind} {x y : Operand} {z : Int} {cs : List Value} {v : Value} [ht : Arr P T E m 1] [hg : Ty P E true 1] (hx : ev e x = some (.agg cs.toArray)) (hy : ev e y = some (.int kd z)) (hz : z = (i : Int)) (him : i < m) (hv : cs[i]? = some v) :
  QRun P κ e L ⟨some d, .index T x y, ty, s, af, gd⟩ (.agg [v].toArray) := fun a w he hw => by
 obtain ⟨f, hf, hs⟩ := Option.map_eq_some_iff.1 ht.siz
 subst hz
 obtain ⟨hi, rfl⟩ := List.getElem?_eq_some_iff.1 hv
 have hex : List.take 1 (List.drop i cs) = [cs[i]] := by rw [List.drop_eq_getElem_cons hi]; rfl
 simp [execOp, he.ev hx, he.ev hy, Instr.index, asIntOf, Sem.run_bind, run_underlying ht.und, sizeOf, typeInfo, hf, hs, him, part, hg.agg w, hi, hex]
theorem g_purevE {f : FuncId} {x : Operand} {xs : List Operand} {vs : List Value} {ts : Array TypeId} {v : Value} [hb : HasB P f] (hx : ev e x = some (.func (.func f) #[] #[])) (hxs : xs.map (ev e) = vs.map some) (hf : ∀ w, WOK κ.S κ.w0 L w → Pur P f vs w v) (hd : Nat.blt d κ.N = true) (h : G κ ((d, v) :: e) L X) :
  G κ e L (owp κ.ρ P ⟨some d, .call { callee := .value x, args := xs.toArray, argTypes := ts }, ty, s, af, gd⟩ Q X) := g_purev (hb := hb) hx hxs hf hd h
end
end Go.Eg
