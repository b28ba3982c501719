/- TopForced: for every configuration and all operations the law returns true. No condition. Part 13 of 42. -/
import Derived.Test.YtdddiilocbbkkaaGreatTF9
set_option linter.unusedVariables false
set_option linter.unusedSimpArgs false
namespace Go.Proofs.YtdddiilocbbkkaaGreat
open Go.RowKit Go.Eg
set_option maxHeartbeats 4000000
set_option synthInstance.maxSize 3000
set_option maxRecDepth 100000
def churn (a m q : Int) : Int := if q = 0 then m else max m (a / q)
theorem qz {a c : Int} (ha : 0 ≤ a) (hM : a ≤ 18446744073709551615) (hc : 0 ≤ c) : IntKind.u64.wrap (a.tdiv c) = a / c := by
 rw [Int.tdiv_eq_ediv_of_nonneg ha]
 have h1 := Int.ediv_nonneg ha hc
 have h2 := Int.ediv_le_self c ha
 exact wu64 h1 (by omega)
theorem churn_any (x m y : Int) (w : World) (hx : 0 ≤ x ∧ x ≤ 18446744073709551615) (hm : 0 ≤ m ∧ m ≤ 18446744073709551615) (hy : 0 ≤ y ∧ y ≤ 18446744073709551615) : Pur Tryz.prog 150 [.int .u64 x, .int .u64 m, .int .u64 y] w (.int .u64 (churn x m y)) := by
 refine g_st Tryz.func150 15 (WOK.start [] _) ?_
 refine rn [1,3,0,8,1,2,44,0] ?_
 refine zC rfl (fun h1 => ?_) (fun h1 => ?_)
 ·refine rn [1,2,3,0,11,13] ?_
  exact fin1 rfl (.tmp rfl) (fun w' hw' => ⟨by simp_all [churn], hw'.upd⟩) _ (.inl rfl)
 ·refine rn [12,7,1,2,2,2] ?_
  refine s_q (q_quo rfl rfl (by simp_all)) rfl ?_
  refine g_val 13 (v' := .int .u64 (x / y)) rfl (by rw [qz hx.1 hx.2 hy.1]) ?_
  refine rn [59,3,0,11] ?_
  exact fin1 rfl (.tmp rfl) (fun w' hw' => ⟨by simp_all [churn], hw'.upd⟩) _ (.inl rfl)
abbrev CkB (b k el : Nat) : Res := Res.blk b 171 [Value.int .i64 ((k : Nat) : Int), Value.int .i64 ((el : Nat) : Int)]
theorem now_any (cb k el : Nat) (w : World) (hw : W0 [CkB cb (k) (el)] w) (hk : k < 4611686018427387904) (hel : 1 ≤ el ∧ el ≤ 4611686018427387904) : Keep Tryz.prog 89 [.pointer (some ⟨cb, 0, none⟩)] w [CkB cb (k) (el)] (.int .i64 ((k : Nat) : Int)) := by
 refine g_st Tryz.func89 7 hw ?_
 refine rn [1,3,0,1,2,6,4,5,3,0,11] ?_
 exact fin1 rfl (.tmp rfl) (fun w' hw' => ⟨(), trivial, by first | rfl | (simp_all; done), zA w' hw'⟩) _ (.inl rfl)
theorem nextc_any (cb k el : Nat) (w : World) (hw : W0 [CkB cb (k) (el)] w) (hk : k < 4611686018427387904) (hel : 1 ≤ el ∧ el ≤ 4611686018427387904) : Own2 (ι := Unit) Tryz.prog 147 [.pointer (some ⟨cb, 0, none⟩)] w [CkB cb (k) (el)] (fun x => True) (fun x => .tuple #[]) (fun x => []) (fun x => [CkB cb ((k + 1)) (el)]) := by
 refine g_st Tryz.func147 9 hw ?_
 refine rn [10,2,6,4,5] ?_
 refine s_q (yM (z := ((k + 1 : Nat) : Int)) rfl rfl (by rw [wi64 (by omega) (by omega)]; omega)) rfl ?_
 refine rn [6,4] ?_
 refine g_op (zP rfl rfl rfl rfl rfl rfl rfl ?_)
 refine zJ (b := cb) [Value.int .i64 ((k + 1 : Nat) : Int), Value.int .i64 ((el : Nat) : Int)] (by simp [splice]) ?_
 refine rn [9] ?_
 exact fin0 rfl (fun w' hw' => ⟨(), (by exact trivial), rfl, zA w' hw'⟩) _ (.inr rfl)
theorem epochof_any (k el : Nat) (w : World) (hk : k < 4611686018427387904) (hel : 1 ≤ el ∧ el ≤ 4611686018427387904) : Pur Tryz.prog 90 [.int .i64 (k : Int), .int .i64 (el : Int)] w (.int .i64 ((k / el : Nat) : Int)) := by
 refine g_st Tryz.func90 14 (WOK.start [] _) ?_
 refine rn [1,3,0,8,1,2,46,2] ?_
 refine zV 7 rfl (fun h1 => ?_) (fun h1 => ?_)
 ·refine rn [21,21,41,0,19,1,3,0,11,13] ?_
  exact fin1 rfl (.tmp rfl) (fun w' hw' => ⟨by first | rfl | (exfalso; simp_all; omega), hw'.upd⟩) _ (.inl rfl)
 ·refine rn [22,2,22,46,42,0] ?_
  refine zC rfl (fun h2 => ?_) (fun h2 => ?_)
  ·refine rn [1,3,0,11,13] ?_
   exact fin1 rfl (.tmp rfl) (fun w' hw' => ⟨by first | rfl | (exfalso; simp_all; omega), hw'.upd⟩) _ (.inl rfl)
  ·refine rn [12,7,1,2,2] ?_
   refine s_q (q_quon (a := k) (b := el) rfl rfl (by first | omega | (simp; omega) | (simp_all; omega)) (by first | omega | (simp; omega) | (simp_all; omega))) rfl ?_
   refine rn [3,0,11] ?_
   exact fin1 rfl (.tmp rfl) (fun w' hw' => ⟨by first | rfl | (exfalso; simp_all; omega), hw'.upd⟩) _ (.inl rfl)
theorem tickc_any (cb k el : Nat) (w : World) (hw : W0 [CkB cb (k) (el)] w) (hk : k < 4611686018427387903) (hel : 1 ≤ el ∧ el ≤ 4611686018427387904) : Own2 (ι := Unit) Tryz.prog 100 [.pointer (some ⟨cb, 0, none⟩)] w [CkB cb (k) (el)] (fun x => True) (fun x => .bool (decide ((k + 1) % el = 0))) (fun x => []) (fun x => [CkB cb ((k + 1)) (el)]) := by
 refine g_st Tryz.func100 19 hw ?_
 refine rn [1,3,0,8,1,2,50,0,20,12,7,1,2,6,4] ?_
 refine g_op (zH _ rfl (fun w1 hw1 ho1 => by have h7 := nextc_any cb k el w1 ho1 (by omega) hel; exact h7) rfl ?_)
 rintro ⟨⟩ _
 refine ii ?_
 refine rn [0,8] ?_
 refine dreg [] mixed rfl ?_
 refine rn [23,0,2,23,1,6,23,2,4,23,4,2,23,5,6,23,6,4,23,7,5] ?_
 refine dop 3 rfl (zK _ rfl (fun w1 hw1 ho1 => by exact now_any cb (k + 1) el w1 ho1 (by omega) hel) rfl ?_)
 refine dq 8 rfl (wB (a := (k + 1)) (b := el) rfl rfl (by first | omega | (simp; omega) | (simp_all; omega))) ?_
 refine rn [23,9,44,23,10,3,27,7,11] ?_
 exact fin1 rfl (.tmp rfl) (fun w' hw' => ⟨(), (by exact trivial), by congr 1; simp only [decide_eq_decide]; omega, zA w' hw'⟩) _ (.inl rfl)
theorem yJ (cb k el : Nat) (w : World) (hw : W0 [CkB cb (k) (el)] w) (hk : k < 4611686018427387904) (hel : 1 ≤ el ∧ el ≤ 4611686018427387904) : Keep Tryz.prog 45 [.pointer (some ⟨cb, 0, none⟩)] w [CkB cb (k) (el)] (.int .i64 ((k : Nat) : Int)) := by
 refine g_st Tryz.func45 9 hw ?_
 refine rn [1,3,0,8,1,2,50,0,20,12,7,1,2,6,4] ?_
 refine g_op (zK _ rfl (fun w1 hw1 ho1 => by exact now_any cb k el w1 ho1 hk hel) rfl ?_)
 refine rn [3,0,11] ?_
 exact fin1 rfl (.tmp rfl) (fun w' hw' => ⟨(), trivial, by first | rfl | (simp_all; done), zA w' hw'⟩) _ (.inl rfl)
theorem zZ (cb k el : Nat) (w : World) (hw : W0 [CkB cb (k) (el)] w) (hk : k < 4611686018427387904) (hel : 1 ≤ el ∧ el ≤ 4611686018427387904) : Keep Tryz.prog 46 [.pointer (some ⟨cb, 0, none⟩)] w [CkB cb (k) (el)] (.int .i64 ((k / el : Nat) : Int)) := by
 refine g_st Tryz.func46 14 hw ?_
 refine rn [1,3,0,8,1,2,50,0,20,12,7,8] ?_
 refine dreg [] mixed rfl ?_
 refine rn [23,0,2,23,1,6,23,2,4,23,4,2,23,5,6,23,6,4,23,7,5] ?_
 refine dop 3 rfl (zK _ rfl (fun w1 hw1 ho1 => by exact now_any cb k el w1 ho1 hk hel) rfl ?_)
 refine dop 8 rfl (zG rfl (fun w1 hw1 => by exact epochof_any k el w1 hk hel) rfl ?_)
 refine rn [23,9,3,27,7,11] ?_
 exact fin1 rfl (.tmp rfl) (fun w' hw' => ⟨(), trivial, by first | rfl | (simp_all; done), zA w' hw'⟩) _ (.inl rfl)
theorem newc_any (el : Nat) (w : World) (hel : 1 ≤ el) : Own2 (ι := Nat) Tryz.prog 34 [.int .i64 (el : Int)] w [] (fun x => True) (fun x => .pointer (some ⟨x, 0, none⟩)) (fun x => [CkB x (0) (el)]) (fun x => []) := by
 refine g_st Tryz.func34 8 (WOK.start (fps []) _) ?_
 refine rn [1,3,0,8,1,2,46,0] ?_
 refine zC rfl (fun h1 => ?_) (fun h1 => ?_)
 ·exfalso; have h9 := of_decide_eq_true h1; omega
 ·refine rn [12,7,1,2] ?_
  refine s_q (yH (c := [Value.int .i64 ((0 : Nat) : Int), Value.int .i64 ((el : Nat) : Int)]) rfl rfl) rfl ?_
  refine g_op (g_box rfl rfl rfl fun b7 => ?_)
  refine rn [3,0,11] ?_
  exact fin1 rfl (.tmp rfl) (fun w' hw' => ⟨b7, (by exact trivial), rfl, zA w' hw'⟩) _ (.inl rfl)
abbrev LgB (b : Nat) (d p u cap : Int) : Res := Res.blk b 175 [Value.int .u64 d, Value.int .u64 p, Value.int .u64 u, Value.int .u64 cap]
def ledC (cap d p u a : Int) : Int := if cap - (d - p - u) < a then 4 else if 18446744073709551615 < d + a then 10 else 0
def bookC (d p u a : Int) : Int := if d - p - u < a then 3 else 0
structure LOk (cap d p u : Int) : Prop where
 hp : 0 ≤ p
 hu : 0 ≤ u
 hd : p + u ≤ d
 hm : d ≤ 18446744073709551615
 hc : d - p - u ≤ cap
 hcm : cap ≤ 18446744073709551615
theorem rest_any (lb : Nat) (d p u cap : Int) (w : World) (hw : W0 [LgB lb (d) (p) (u) (cap)] w) (hl : LOk cap d p u) : Keep Tryz.prog 162 [.pointer (some ⟨lb, 0, none⟩)] w [LgB lb (d) (p) (u) (cap)] (.int .u64 (d - p - u)) := by
 refine g_st Tryz.func162 20 hw ?_
 obtain ⟨l1, l2, l3, l4, l5, l6⟩ := hl
 refine rn [1,3,0,8] ?_
 refine dreg [] mixed rfl ?_
 refine rn [23,0,2,23,1,6,23,2,4,23,3,4,23,4,5,23,5,2,23,6,6,23,7,4,23,8,4,23,9,5] ?_
 refine dq 10 rfl (yY (z := d - p) rfl rfl (by rw [IntKind.wrap_u64]; omega)) ?_
 refine rn [23,11,2,23,12,6,23,13,4,23,14,4,23,15,5] ?_
 refine dq 16 rfl (yY (z := d - p - u) rfl rfl (by rw [IntKind.wrap_u64]; omega)) ?_
 refine rn [23,17,3,27,7,11] ?_
 exact fin1 rfl (.tmp rfl) (fun w' hw' => ⟨(), trivial, by first | rfl | (simp_all; done), zA w' hw'⟩) _ (.inl rfl)
theorem book_paid (lb : Nat) (d p u cap : Int) (a : Int) (q : Nat) (w : World) (hw : W0 [LgB lb (d) (p) (u) (cap)] w) (hl : LOk cap d p u) (ha : 0 ≤ a ∧ a ≤ 18446744073709551615) (hq : Rd w [LgB lb (d) (p) (u) (cap)] (some ⟨q, 0, none⟩) 1 1 ([a].map (fun v : Int => [Value.int .u64 v]))) : Own2 (ι := Unit) Tryz.prog 177 [.pointer (some ⟨lb, 0, none⟩), .pointer (some ⟨lb, 1, none⟩), .slice (some ⟨q, 0, none⟩) 1 1] w [LgB lb (d) (p) (u) (cap)] (fun x => True) (fun x => .int .i64 (bookC d p u a)) (fun x => []) (fun x => [LgB lb (d) ((if bookC d p u a = 0 then p + a else p)) (u) (cap)]) := by
 refine g_st Tryz.func177 28 hw ?_
 have hl0 := hl
 obtain ⟨l1, l2, l3, l4, l5, l6⟩ := hl0
 refine rn [1,3,0,1,2] ?_
 refine g_op (zG rfl (fun w1 hw1 => add_any (some ⟨q, 0, none⟩) (1) (1) ([a]) w1 (Rdb.toOld hq.rdb hw1) (by intro x hx; simp at hx; omega) (by first | omega | (simp; omega) | (simp; done))) rfl ?_)
 refine rn [2] ?_
 refine g_val 9 (v' := .tuple [.int .u64 a, .bool true].toArray) rfl (by rw [(add_one ha).1, (add_one ha).2]) ?_
 refine rn [40,40,3,3,0,8,1,2,48,2,22,2,22,2] ?_
 refine g_gt rfl rfl (zK _ rfl (fun w1 hw1 ho1 => by exact rest_any lb (d) (p) (u) (cap) w1 ho1 hl) rfl ?_)
 refine rn [22,55,42,0] ?_
 refine zC rfl (fun h1 => ?_) (fun h1 => ?_)
 ·have hb : bookC d p u a = 3 := by unfold bookC; rw [if_pos (by have h9 := of_decide_eq_true h1; omega)]
  refine rn [1,3,0,11,13] ?_
  exact fin1 rfl (.tmp rfl) (fun w' hw' => ⟨(), (by exact trivial), by rw [hb], by have h9 := zB (L' := [LgB lb (d) (p) (u) (cap)]) w' hw'; show WOK _ _ [LgB lb (d) ((if bookC d p u a = 0 then p + a else p)) (u) (cap)] _; rw [hb]; simp only [show ¬ ((3 : Int) = 0) from by decide, if_false]; exact h9⟩) _ (.inl rfl)
 ·have hb : bookC d p u a = 0 := by unfold bookC; rw [if_neg (by have h9 := of_decide_eq_false h1; omega)]
  have hle : a ≤ d - p - u := by have h9 := of_decide_eq_false h1; omega
  refine rn [12,7,1,2,6,5,2] ?_
  refine s_q (yM (z := p + a) rfl rfl (by rw [IntKind.wrap_u64]; omega)) rfl ?_
  refine rn [6] ?_
  refine g_op (zP rfl rfl rfl rfl rfl rfl rfl ?_)
  refine zJ (b := lb) [Value.int .u64 (d), Value.int .u64 (p + a), Value.int .u64 (u), Value.int .u64 (cap)] (by simp [splice]) ?_
  refine rn [0,1,3,0,11] ?_
  exact fin1 rfl (.tmp rfl) (fun w' hw' => ⟨(), (by exact trivial), by rw [hb], by have h9 := zB (L' := [LgB lb (d) (p + a) (u) (cap)]) w' hw'; show WOK _ _ [LgB lb (d) ((if bookC d p u a = 0 then p + a else p)) (u) (cap)] _; rw [hb]; simp only [if_true]; exact h9⟩) _ (.inl rfl)
theorem book_burn (lb : Nat) (d p u cap : Int) (a : Int) (q : Nat) (w : World) (hw : W0 [LgB lb (d) (p) (u) (cap)] w) (hl : LOk cap d p u) (ha : 0 ≤ a ∧ a ≤ 18446744073709551615) (hq : Rd w [LgB lb (d) (p) (u) (cap)] (some ⟨q, 0, none⟩) 1 1 ([a].map (fun v : Int => [Value.int .u64 v]))) : Own2 (ι := Unit) Tryz.prog 177 [.pointer (some ⟨lb, 0, none⟩), .pointer (some ⟨lb, 2, none⟩), .slice (some ⟨q, 0, none⟩) 1 1] w [LgB lb (d) (p) (u) (cap)] (fun x => True) (fun x => .int .i64 (bookC d p u a)) (fun x => []) (fun x => [LgB lb (d) (p) ((if bookC d p u a = 0 then u + a else u)) (cap)]) := by
 refine g_st Tryz.func177 28 hw ?_
 have hl0 := hl
 obtain ⟨l1, l2, l3, l4, l5, l6⟩ := hl0
 refine rn [1,3,0,1,2] ?_
 refine g_op (zG rfl (fun w1 hw1 => add_any (some ⟨q, 0, none⟩) (1) (1) ([a]) w1 (Rdb.toOld hq.rdb hw1) (by intro x hx; simp at hx; omega) (by first | omega | (simp; omega) | (simp; done))) rfl ?_)
 refine rn [2] ?_
 refine g_val 9 (v' := .tuple [.int .u64 a, .bool true].toArray) rfl (by rw [(add_one ha).1, (add_one ha).2]) ?_
 refine rn [40,40,3,3,0,8,1,2,48,2,22,2,22,2] ?_
 refine g_gt rfl rfl (zK _ rfl (fun w1 hw1 ho1 => by exact rest_any lb (d) (p) (u) (cap) w1 ho1 hl) rfl ?_)
 refine rn [22,55,42,0] ?_
 refine zC rfl (fun h1 => ?_) (fun h1 => ?_)
 ·have hb : bookC d p u a = 3 := by unfold bookC; rw [if_pos (by have h9 := of_decide_eq_true h1; omega)]
  refine rn [1,3,0,11,13] ?_
  exact fin1 rfl (.tmp rfl) (fun w' hw' => ⟨(), (by exact trivial), by rw [hb], by have h9 := zB (L' := [LgB lb (d) (p) (u) (cap)]) w' hw'; show WOK _ _ [LgB lb (d) (p) ((if bookC d p u a = 0 then u + a else u)) (cap)] _; rw [hb]; simp only [show ¬ ((3 : Int) = 0) from by decide, if_false]; exact h9⟩) _ (.inl rfl)
 ·have hb : bookC d p u a = 0 := by unfold bookC; rw [if_neg (by have h9 := of_decide_eq_false h1; omega)]
  have hle : a ≤ d - p - u := by have h9 := of_decide_eq_false h1; omega
  refine rn [12,7,1,2,6,5,2] ?_
  refine s_q (yM (z := u + a) rfl rfl (by rw [IntKind.wrap_u64]; omega)) rfl ?_
  refine rn [6] ?_
  refine g_op (zP rfl rfl rfl rfl rfl rfl rfl ?_)
  refine zJ (b := lb) [Value.int .u64 (d), Value.int .u64 (p), Value.int .u64 (u + a), Value.int .u64 (cap)] (by simp [splice]) ?_
  refine rn [0,1,3,0,11] ?_
  exact fin1 rfl (.tmp rfl) (fun w' hw' => ⟨(), (by exact trivial), by rw [hb], by have h9 := zB (L' := [LgB lb (d) (p) (u + a) (cap)]) w' hw'; show WOK _ _ [LgB lb (d) (p) ((if bookC d p u a = 0 then u + a else u)) (cap)] _; rw [hb]; simp only [if_true]; exact h9⟩) _ (.inl rfl)
theorem lpaid_any (lb : Nat) (d p u cap : Int) (a : Int) (w : World) (hw : W0 [LgB lb (d) (p) (u) (cap)] w) (hl : LOk cap d p u) (ha : 0 ≤ a ∧ a ≤ 18446744073709551615) : Own2 (ι := Unit) Tryz.prog 161 [.pointer (some ⟨lb, 0, none⟩), .int .u64 a] w [LgB lb (d) (p) (u) (cap)] (fun x => True) (fun x => .int .i64 (bookC d p u a)) (fun x => []) (fun x => [LgB lb (d) ((if bookC d p u a = 0 then p + a else p)) (u) (cap)]) := by
 refine g_st Tryz.func161 18 hw ?_
 refine rn [1,3,0,8,1,2,50,0,20,12,7,8] ?_
 refine dregL (L0 := []) [] mixed rfl zB ?_
 refine rn [23,0,2,23,1,6,23,2,4,23,3,2,23,4,6,23,5,4,23,6,4,23,7,4,23,8,2] ?_
 refine dop 9 rfl (g_lit rfl rfl rfl rfl rfl fun b16 => ?_)
 refine zJ (b := b16) ((([a] : List Int).map (fun v : Int => [Value.int .u64 v])).flatten) rfl ?_
 refine dop 10 rfl (zH _ rfl (fun w1 hw1 ho1 => by have h7 := book_paid lb (d) (p) (u) (cap) (a) b16 w1 ho1 hl ha (Rd.ofBlk (b := b16) (els := ([a] : List Int).map (fun v : Int => [Value.int .u64 v])) hw1 rfl (by simp) rfl); exact h7) rfl ?_)
 rintro ⟨⟩ _
 refine ii ?_
 refine rn [23,11,3,27,7,11] ?_
 exact fin1 rfl (.tmp rfl) (fun w' hw' => ⟨(), (by exact trivial), rfl, zA w' hw'⟩) _ (.inl rfl)
theorem lburn_any (lb : Nat) (d p u cap : Int) (a : Int) (w : World) (hw : W0 [LgB lb (d) (p) (u) (cap)] w) (hl : LOk cap d p u) (ha : 0 ≤ a ∧ a ≤ 18446744073709551615) : Own2 (ι := Unit) Tryz.prog 114 [.pointer (some ⟨lb, 0, none⟩), .int .u64 a] w [LgB lb (d) (p) (u) (cap)] (fun x => True) (fun x => .int .i64 (bookC d p u a)) (fun x => []) (fun x => [LgB lb (d) (p) ((if bookC d p u a = 0 then u + a else u)) (cap)]) := by
 refine g_st Tryz.func114 18 hw ?_
 refine rn [1,3,0,8,1,2,50,0,20,12,7,8] ?_
 refine dregL (L0 := []) [] mixed rfl zB ?_
 refine rn [23,0,2,23,1,6,23,2,4,23,3,2,23,4,6,23,5,4,23,6,4,23,7,4,23,8,2] ?_
 refine dop 9 rfl (g_lit rfl rfl rfl rfl rfl fun b16 => ?_)
 refine zJ (b := b16) ((([a] : List Int).map (fun v : Int => [Value.int .u64 v])).flatten) rfl ?_
 refine dop 10 rfl (zH _ rfl (fun w1 hw1 ho1 => by have h7 := book_burn lb (d) (p) (u) (cap) (a) b16 w1 ho1 hl ha (Rd.ofBlk (b := b16) (els := ([a] : List Int).map (fun v : Int => [Value.int .u64 v])) hw1 rfl (by simp) rfl); exact h7) rfl ?_)
 rintro ⟨⟩ _
 refine ii ?_
 refine rn [23,11,3,27,7,11] ?_
 exact fin1 rfl (.tmp rfl) (fun w' hw' => ⟨(), (by exact trivial), rfl, zA w' hw'⟩) _ (.inl rfl)
theorem ldep_any (lb : Nat) (d p u cap : Int) (a : Int) (w : World) (hw : W0 [LgB lb (d) (p) (u) (cap)] w) (hl : LOk cap d p u) (ha : 0 ≤ a ∧ a ≤ 18446744073709551615) : Own2 (ι := Unit) Tryz.prog 105 [.pointer (some ⟨lb, 0, none⟩), .int .u64 a] w [LgB lb (d) (p) (u) (cap)] (fun x => True) (fun x => .int .i64 (ledC cap d p u a)) (fun x => []) (fun x => [LgB lb ((if ledC cap d p u a = 0 then d + a else d)) (p) (u) (cap)]) := by
 refine g_st Tryz.func105 40 hw ?_
 have hl0 := hl
 obtain ⟨l1, l2, l3, l4, l5, l6⟩ := hl0
 refine rn [1,3,0,8,1,2,50,0,20,12,7,8,8] ?_
 refine dreg [] mixed rfl ?_
 refine rn [23,0,2,23,1,2,23,2,6,23,3,4,23,4,5,23,5,2,23,6,6,23,7,4] ?_
 refine dop 8 rfl (zK _ rfl (fun w1 hw1 ho1 => by exact rest_any lb (d) (p) (u) (cap) w1 ho1 hl) rfl ?_)
 refine dq 9 rfl (yY (z := cap - (d - p - u)) rfl rfl (by rw [IntKind.wrap_u64]; omega)) ?_
 refine rn [23,10,55,27,7] ?_
 refine zC rfl (fun h1 => ?_) (fun h1 => ?_)
 ·have hb : ledC cap d p u a = 4 := by unfold ledC; rw [if_pos (by have h9 := of_decide_eq_true h1; omega)]
  refine rn [1,3,0,11,13] ?_
  exact fin1 rfl (.tmp rfl) (fun w' hw' => ⟨(), (by exact trivial), by rw [hb], by have h9 := zB (L' := [LgB lb (d) (p) (u) (cap)]) w' hw'; show WOK _ _ [LgB lb ((if ledC cap d p u a = 0 then d + a else d)) (p) (u) (cap)] _; rw [hb]; simp; exact h9⟩) _ (.inl rfl)
 ·have hle : ¬ cap - (d - p - u) < a := by have h9 := of_decide_eq_false h1; omega
  refine rn [12,7,1,2,6,4,4,4,5,2] ?_
  refine g_op (g_lit rfl rfl rfl rfl rfl fun b28 => ?_)
  refine zJ (b := b28) ((([d, a] : List Int).map (fun v : Int => [Value.int .u64 v])).flatten) rfl ?_
  refine g_op (zG rfl (fun w1 hw1 => add_any (some ⟨b28, 0, none⟩) (2) (2) (([d, a] : List Int)) w1 (Rdb.toOld (InL.rdb (b := b28) (els := (([d, a] : List Int)).map (fun v : Int => [Value.int .u64 v])) rfl (by simp) rfl) hw1) (by intro x hx; simp at hx; rcases hx with rfl | rfl <;> omega) (by first | omega | (simp; omega) | (simp; done))) rfl ?_)
  refine rn [2,40,40,3,3,0,8,1,2,48,0] ?_
  refine zC rfl (fun h2 => ?_) (fun h2 => ?_)
  ·have hb : ledC cap d p u a = 10 := by unfold ledC; rw [if_neg hle, if_pos (by have h9 := h2; simp [addB] at h9; omega)]
   refine rn [1,3,0,11,13] ?_
   exact fin1 rfl (.tmp rfl) (fun w' hw' => ⟨(), (by exact trivial), by rw [hb], by have h9 := zB (L' := [LgB lb (d) (p) (u) (cap)]) w' hw'; show WOK _ _ [LgB lb ((if ledC cap d p u a = 0 then d + a else d)) (p) (u) (cap)] _; rw [hb]; simp; exact h9⟩) _ (.inl rfl)
  ·have hb : ledC cap d p u a = 0 := by unfold ledC; rw [if_neg hle, if_neg (by have h9 := h2; simp [addB] at h9; omega)]
   have hsm : addV [d, a] = d + a := by have h9 := h2; simp [addB] at h9; unfold addV; rw [if_pos (by simp; omega)]; simp
   refine rn [12,7,1,2,2,6,4,4,4] ?_
   refine g_op (zP rfl rfl rfl rfl rfl rfl rfl ?_)
   refine zJ (b := lb) [Value.int .u64 (d + a), Value.int .u64 p, Value.int .u64 u, Value.int .u64 cap] (by rw [hsm]; simp [splice]) ?_
   refine rn [0,1,3,0,11] ?_
   exact fin1 rfl (.tmp rfl) (fun w' hw' => ⟨(), (by exact trivial), by rw [hb], by have h9 := zB (L' := [LgB lb (d + a) (p) (u) (cap)]) w' hw'; show WOK _ _ [LgB lb ((if ledC cap d p u a = 0 then d + a else d)) (p) (u) (cap)] _; rw [hb]; simp; exact h9⟩) _ (.inl rfl)
theorem lnew_led (cap : Int) (w : World)  : Own2 (ι := Nat) Tryz.prog 35 [.int .u64 cap] w [] (fun x => True) (fun x => .pointer (some ⟨x, 0, none⟩)) (fun x => [LgB x (0) (0) (0) (cap)]) (fun x => []) := by
 refine g_st Tryz.func35 6 (WOK.start (fps []) _) ?_
 refine rn [1,3,0,1,2] ?_
 refine s_q (yH (c := [Value.int .u64 0, Value.int .u64 0, Value.int .u64 0, Value.int .u64 cap]) rfl rfl) rfl ?_
 refine g_op (g_box rfl rfl rfl fun b5 => ?_)
 refine rn [3,0,11] ?_
 exact fin1 rfl (.tmp rfl) (fun w' hw' => ⟨b5, (by exact trivial), rfl, zA w' hw'⟩) _ (.inl rfl)
theorem ltot_any (lb : Nat) (d p u cap : Int) (w : World) (hw : W0 [LgB lb (d) (p) (u) (cap)] w)  : Keep Tryz.prog 44 [.pointer (some ⟨lb, 0, none⟩)] w [LgB lb (d) (p) (u) (cap)] (.agg #[.int .u64 d, .int .u64 p, .int .u64 u]) := by
 refine g_st Tryz.func44 11 hw ?_
 refine rn [1] ?_
 refine g_op (zI rfl fun b2 => ?_)
 refine rn [0,8,1,2,50,0,20,12,7,1,2,6,4,4] ?_
 refine s_q (yS (c' := [Value.int .u64 d, .int .u64 p, .int .u64 u]) rfl rfl rfl) rfl ?_
 refine rn [33,0,11] ?_
 exact fin1 rfl (.cellw rfl rfl) (fun w' hw' => ⟨(), trivial, by first | rfl | (simp_all; done), zA w' hw'⟩) _ (.inl rfl)
abbrev CuB (b k : Nat) : Res := Res.blk b 180 [Value.int .i64 ((k : Nat) : Int)]
theorem unew_any  (w : World)  : Own2 (ι := Nat) Tryz.prog 37 [] w [] (fun x => True) (fun x => .pointer (some ⟨x, 0, none⟩)) (fun x => [CuB x (0)]) (fun x => []) := by
 refine g_st Tryz.func37 3 (WOK.start (fps []) _) ?_
 refine rn [1,3,0,1] ?_
 refine s_q (yH (c := [Value.int .i64 ((0 : Nat) : Int)]) rfl rfl) rfl ?_
 refine g_op (g_box rfl rfl rfl fun b2 => ?_)
 refine rn [3,0,11] ?_
 exact fin1 rfl (.tmp rfl) (fun w' hw' => ⟨b2, (by exact trivial), rfl, zA w' hw'⟩) _ (.inl rfl)
theorem uat_any (ub k : Nat) (w : World) (hw : W0 [CuB ub (k)] w)  : Keep Tryz.prog 53 [.pointer (some ⟨ub, 0, none⟩)] w [CuB ub (k)] (.int .i64 ((k : Nat) : Int)) := by
 refine g_st Tryz.func53 9 hw ?_
 refine rn [1,3,0,8,1,2,50,0,20,12,7,1,2,6,4,5,3,0,11] ?_
 exact fin1 rfl (.tmp rfl) (fun w' hw' => ⟨(), trivial, by first | rfl | (simp_all; done), zA w' hw'⟩) _ (.inl rfl)
theorem xV (y : Op) (e k q : Int) (w : World)  : Pur Tryz.prog 56 [.agg y.c.toArray, .int .i64 e, .int .i64 k, .int .i64 q] w (.agg #[.int .i64 y.k, .int .i64 e, .int .i64 (-1), .int .i64 k, .int .i64 q, .int .i64 (-1), .slice none 0 0, .slice none 0 0, .int .i64 0]) := by
 refine g_st Tryz.func56 15 (WOK.start [] _) ?_
 refine rn [1] ?_
 refine g_op (g_box rfl rfl rfl fun b4 => ?_)
 refine g_op (zI rfl fun b8 => ?_)
 refine rn [0,1,4,5,2,2,2] ?_
 refine s_q (yH (c := [Value.int .i64 (y.k), .int .i64 (e), .int .i64 (-1), .int .i64 (k), .int .i64 (q), .int .i64 (-1), .slice none 0 0, .slice none 0 0, .int .i64 0]) rfl rfl) rfl ?_
 refine rn [33,0,11] ?_
 exact fin1 rfl (.cellw rfl rfl) (fun w' hw' => ⟨by rfl, hw'.upd⟩) _ (.inl rfl)
theorem yX (y : Op) (i dl k q : Int) (w : World)  : Pur Tryz.prog 65 [.agg y.c.toArray, .int .i64 i, .int .i64 dl, .int .i64 k, .int .i64 q] w (.agg #[.int .i64 y.k, .int .i64 0, .int .i64 i, .int .i64 k, .int .i64 q, .int .i64 dl, .slice none 0 0, .slice none 0 0, .int .i64 0]) := by
 refine g_st Tryz.func65 18 (WOK.start [] _) ?_
 refine rn [1] ?_
 refine g_op (g_box rfl rfl rfl fun b5 => ?_)
 refine g_op (zI rfl fun b10 => ?_)
 refine rn [0,1,4,5,2,2,2,2] ?_
 refine s_q (yH (c := [Value.int .i64 (y.k), .int .i64 (0), .int .i64 (i), .int .i64 (k), .int .i64 (q), .int .i64 (dl), .slice none 0 0, .slice none 0 0, .int .i64 0]) rfl rfl) rfl ?_
 refine rn [33,0,11] ?_
 exact fin1 rfl (.cellw rfl rfl) (fun w' hw' => ⟨by rfl, hw'.upd⟩) _ (.inl rfl)
theorem yI (e : Int) (w : World)  : Pur Tryz.prog 64 [.int .i64 e] w (.agg #[.int .i64 e, .int .i64 0, .int .i64 0]) := by
 refine g_st Tryz.func64 5 (WOK.start [] _) ?_
 refine rn [1] ?_
 refine g_op (zI rfl fun b2 => ?_)
 refine rn [0,1,2] ?_
 refine s_q (yH (c := [Value.int .i64 e, .int .i64 0, .int .i64 0]) rfl rfl) rfl ?_
 refine rn [33,0,11] ?_
 exact fin1 rfl (.cellw rfl rfl) (fun w' hw' => ⟨by rfl, hw'.upd⟩) _ (.inl rfl)
theorem xI (i d : Int) (w : World)  : Pur Tryz.prog 108 [.int .i64 i, .int .i64 d] w (.agg #[.int .i64 0, .int .i64 i, .int .i64 d]) := by
 refine g_st Tryz.func108 8 (WOK.start [] _) ?_
 refine rn [1] ?_
 refine g_op (zI rfl fun b4 => ?_)
 refine rn [0,1,2,2] ?_
 refine s_q (yH (c := [Value.int .i64 0, .int .i64 i, .int .i64 d]) rfl rfl) rfl ?_
 refine rn [33,0,11] ?_
 exact fin1 rfl (.cellw rfl rfl) (fun w' hw' => ⟨by rfl, hw'.upd⟩) _ (.inl rfl)
end Go.Proofs.YtdddiilocbbkkaaGreat
