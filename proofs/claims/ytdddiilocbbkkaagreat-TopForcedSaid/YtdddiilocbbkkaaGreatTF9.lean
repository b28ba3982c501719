/- TopForced: for every configuration and all operations the law returns true. No condition. Part 9 of 42. -/
import Derived.Test.YtdddiilocbbkkaaGreatTF8
set_option linter.unusedVariables false
set_option linter.unusedSimpArgs false
namespace Go.Proofs.YtdddiilocbbkkaaGreat
open Go.RowKit Go.Eg
set_option maxHeartbeats 4000000
set_option synthInstance.maxSize 3000
set_option maxRecDepth 100000
def budB (lim s : Int) (f : Bool) (w : Int) (ok : Bool) : Bool := f || (ok && addB [s, w] && decide (addV [s, w] ≤ lim))
def budS (lim s : Int) (f : Bool) (w : Int) (ok : Bool) : Int := if budB lim s f w ok then addV [s, w] else s
def budF (lim s : Int) (f : Bool) (w : Int) (ok : Bool) : Bool := if budB lim s f w ok then false else f
theorem budget1_any (sb fb lb : Nat) (s lim w9 : Int) (f ok : Bool) (w : World) (hw : W0 [Res.blk sb 22 [Value.int .u64 (s)], Res.blk fb 4 [Value.bool (f)], Res.blk lb 22 [Value.int .u64 lim]] w) (hs : 0 ≤ s ∧ s ≤ 18446744073709551615) (hw9 : 0 ≤ w9 ∧ w9 ≤ 18446744073709551615) : Own2 (ι := Unit) Tryz.prog 318 [.int .u64 w9, .bool ok, .pointer (some ⟨sb, 0, none⟩), .pointer (some ⟨fb, 0, none⟩), .pointer (some ⟨lb, 0, none⟩)] w [Res.blk sb 22 [Value.int .u64 (s)], Res.blk fb 4 [Value.bool (f)], Res.blk lb 22 [Value.int .u64 lim]] (fun x => True) (fun x => .bool (budB lim s f w9 ok)) (fun x => []) (fun x => [Res.blk sb 22 [Value.int .u64 (budS lim s f w9 ok)], Res.blk fb 4 [Value.bool (budF lim s f w9 ok)], Res.blk lb 22 [Value.int .u64 lim]]) := by
 refine g_st Tryz.func318 33 hw ?_
 refine rn [1,3,0,1,5,2] ?_
 refine g_op (g_lit rfl rfl rfl rfl rfl fun b13 => ?_)
 refine zJ (b := b13) ((([s, w9] : List Int).map (fun v : Int => [Value.int .u64 v])).flatten) rfl ?_
 refine g_op (zG rfl (fun w1 hw1 => add_any (some ⟨b13, 0, none⟩) (2) (2) (([s, w9] : List Int)) w1 (Rdb.toOld (InL.rdb (b := b13) (els := (([s, w9] : List Int)).map (fun v : Int => [Value.int .u64 v])) rfl (by simp) rfl) hw1) (by intro x hx; simp at hx; rcases hx with rfl | rfl <;> omega) (by first | omega | (simp; omega) | (simp; done))) rfl ?_)
 refine rn [2,40,40,3,3,0,8,1,5,48,2] ?_
 refine zV 19 rfl (fun h1 => ?_) (fun h1 => ?_)
 ·refine rn [22,2,22,48,22,2] ?_
  refine zV 22 rfl (fun h2 => ?_) (fun h2 => ?_)
  ·refine rn [21,21,22,41,22,2,21,21,21,22,41,41,0,19,1,3,0,11,13] ?_
   have hb : budB lim s f w9 ok = false := by simp only [budB]; simp_all; try omega
   exact fin1 rfl (.tmp rfl) (fun w' hw' => ⟨(), (by exact trivial), by rw [hb], by have h9 := zB (L' := [Res.blk sb 22 [Value.int .u64 (s)], Res.blk fb 4 [Value.bool (f)], Res.blk lb 22 [Value.int .u64 lim]]) w' hw'; show WOK _ _ [Res.blk sb 22 [Value.int .u64 (budS lim s f w9 ok)], Res.blk fb 4 [Value.bool (budF lim s f w9 ok)], Res.blk lb 22 [Value.int .u64 lim]] _; simp only [budS, budF, hb]; exact h9⟩) _ (.inl rfl)
  ·refine rn [22,2,22,48,22,42,22,2] ?_
   refine zV 26 rfl (fun h3 => ?_) (fun h3 => ?_)
   ·refine rn [21,21,21,22,41,41,0,19,1,3,0,11,13] ?_
    have hb : budB lim s f w9 ok = false := by simp only [budB]; simp_all; try omega
    exact fin1 rfl (.tmp rfl) (fun w' hw' => ⟨(), (by exact trivial), by rw [hb], by have h9 := zB (L' := [Res.blk sb 22 [Value.int .u64 (s)], Res.blk fb 4 [Value.bool (f)], Res.blk lb 22 [Value.int .u64 lim]]) w' hw'; show WOK _ _ [Res.blk sb 22 [Value.int .u64 (budS lim s f w9 ok)], Res.blk fb 4 [Value.bool (budF lim s f w9 ok)], Res.blk lb 22 [Value.int .u64 lim]] _; simp only [budS, budF, hb]; exact h9⟩) _ (.inl rfl)
   ·refine rn [22,2,22,5,22,55,22,42,41,0] ?_
    refine zC rfl (fun h4 => ?_) (fun h4 => ?_)
    ·refine rn [1,3,0,11,13] ?_
     have hb : budB lim s f w9 ok = false := by simp only [budB]; simp_all; try omega
     exact fin1 rfl (.tmp rfl) (fun w' hw' => ⟨(), (by exact trivial), by rw [hb], by have h9 := zB (L' := [Res.blk sb 22 [Value.int .u64 (s)], Res.blk fb 4 [Value.bool (f)], Res.blk lb 22 [Value.int .u64 lim]]) w' hw'; show WOK _ _ [Res.blk sb 22 [Value.int .u64 (budS lim s f w9 ok)], Res.blk fb 4 [Value.bool (budF lim s f w9 ok)], Res.blk lb 22 [Value.int .u64 lim]] _; simp only [budS, budF, hb]; exact h9⟩) _ (.inl rfl)
    ·refine rn [12,7,1,2] ?_
     refine g_op (zP rfl rfl rfl rfl rfl rfl rfl ?_)
     refine zJ (b := sb) [Value.int .u64 (addV [s, w9])] rfl ?_
     refine g_op (zP rfl rfl rfl rfl rfl rfl rfl ?_)
     refine zJ (b := fb) [Value.bool false] rfl ?_
     refine rn [0,1,3,0,11] ?_
     have hb : budB lim s f w9 ok = true := by simp only [budB]; simp_all; try omega
     exact fin1 rfl (.tmp rfl) (fun w' hw' => ⟨(), (by exact trivial), by rw [hb], by have h9 := zB (L' := [Res.blk sb 22 [Value.int .u64 (addV [s, w9])], Res.blk fb 4 [Value.bool (false)], Res.blk lb 22 [Value.int .u64 lim]]) w' hw'; show WOK _ _ [Res.blk sb 22 [Value.int .u64 (budS lim s f w9 ok)], Res.blk fb 4 [Value.bool (budF lim s f w9 ok)], Res.blk lb 22 [Value.int .u64 lim]] _; simp only [budS, budF, hb]; exact h9⟩) _ (.inl rfl)
 ·refine rn [21,21,21] ?_
  refine g_gu rfl rfl rfl ?_
  refine g_gu rfl rfl rfl ?_
  refine rn [21,21] ?_
  refine g_gu rfl rfl rfl ?_
  refine g_gu rfl rfl rfl ?_
  refine g_gu rfl rfl rfl ?_
  refine rn [21,42,0,20,12,7,1,2] ?_
  refine g_op (zP rfl rfl rfl rfl rfl rfl rfl ?_)
  refine zJ (b := sb) [Value.int .u64 (addV [s, w9])] rfl ?_
  refine g_op (zP rfl rfl rfl rfl rfl rfl rfl ?_)
  refine zJ (b := fb) [Value.bool false] rfl ?_
  refine rn [0,1,3,0,11] ?_
  have hb : budB lim s f w9 ok = true := by simp only [budB]; simp_all; try omega
  exact fin1 rfl (.tmp rfl) (fun w' hw' => ⟨(), (by exact trivial), by rw [hb], by have h9 := zB (L' := [Res.blk sb 22 [Value.int .u64 (addV [s, w9])], Res.blk fb 4 [Value.bool (false)], Res.blk lb 22 [Value.int .u64 lim]]) w' hw'; show WOK _ _ [Res.blk sb 22 [Value.int .u64 (budS lim s f w9 ok)], Res.blk fb 4 [Value.bool (budF lim s f w9 ok)], Res.blk lb 22 [Value.int .u64 lim]] _; simp only [budS, budF, hb]; exact h9⟩) _ (.inl rfl)
theorem budget_any (lim : Int) (w : World)  : Own2 (ι := (Nat × Nat × Nat)) Tryz.prog 283 [.int .u64 lim] w [] (fun x => True) (fun x => .func (.func 318) #[] [Value.pointer (some ⟨x.1, 0, none⟩), Value.pointer (some ⟨x.2.1, 0, none⟩), Value.pointer (some ⟨x.2.2, 0, none⟩)].toArray) (fun x => [Res.blk x.1 22 [Value.int .u64 (0)], Res.blk x.2.1 4 [Value.bool (true)], Res.blk x.2.2 22 [Value.int .u64 lim]]) (fun x => []) := by
 refine g_st Tryz.func283 6 (WOK.start (fps []) _) ?_
 refine rn [1] ?_
 refine g_op (g_box (c := [Value.int .u64 lim]) rfl rfl rfl fun b1 => ?_)
 refine rn [3,0,1] ?_
 refine g_op (zI rfl fun b3 => ?_)
 refine g_op (zI rfl fun b4 => ?_)
 refine g_op (zP rfl rfl rfl rfl rfl rfl rfl ?_)
 refine zJ (b := b3) [Value.int .u64 0] rfl ?_
 refine g_op (zP rfl rfl rfl rfl rfl rfl rfl ?_)
 refine zJ (b := b4) [Value.bool true] rfl ?_
 refine rn [0,1,52,3,0,11] ?_
 exact fin1 rfl (.tmp rfl) (fun w' hw' => ⟨(b3, b4, b1), (by exact trivial), rfl, zA w' hw'⟩) _ (.inl rfl)
theorem batch_any (rb : Option Addr) (lim : Int) (W : Option Addr) (wn wc : Nat) (w : World)  : Own2 (ι := (Nat × Nat × Nat × Nat)) Tryz.prog 231 [.pointer rb, .int .i64 0, .int .u64 lim, .slice W wn wc] w [] (fun x => True) (fun x => .func (.func 282) #[] [Value.pointer (some ⟨x.1, 0, none⟩), Value.pointer (some ⟨x.2.1, 0, none⟩), Value.pointer (some ⟨x.2.2.1, 0, none⟩), Value.pointer (some ⟨x.2.2.2, 0, none⟩)].toArray) (fun x => [Res.blk x.1 22 [Value.int .u64 lim], Res.blk x.2.1 102 [Value.pointer rb], Res.blk x.2.2.1 3 [Value.int .i64 0], Res.blk x.2.2.2 161 [Value.slice W wn wc]]) (fun x => []) := by
 refine g_st Tryz.func231 10 (WOK.start (fps []) _) ?_
 refine rn [1] ?_
 refine g_op (g_box (c := [Value.pointer rb]) rfl rfl rfl fun b4 => ?_)
 refine g_op (g_box (c := [Value.int .i64 0]) rfl rfl rfl fun b5 => ?_)
 refine g_op (g_box (c := [Value.int .u64 lim]) rfl rfl rfl fun b6 => ?_)
 refine g_op (g_box (c := [Value.slice W wn wc]) rfl rfl rfl fun b7 => ?_)
 refine rn [3,0,1,52,3,0,11] ?_
 exact fin1 rfl (.tmp rfl) (fun w' hw' => ⟨(b6, b4, b5, b7), (by exact trivial), rfl, zA w' hw'⟩) _ (.inl rfl)
def batF (lim : Int) (ws : List Int) : List Int → Int → Bool → List Int
 | [], _, _ => []
 | i :: r, s, f => if budB lim s f (ofW ws i) true then i :: batF lim ws r (budS lim s f (ofW ws i) true) (budF lim s f (ofW ws i) true) else []
theorem bat_go {lim : Int} {ws l : List Int} {k : Nat} (hk : k < l.length) {s : Int} {f : Bool} (h : budB lim s f (ofW ws l[k]) true = true) : batF lim ws (l.drop k) s f = l[k] :: batF lim ws (l.drop (k + 1)) (budS lim s f (ofW ws l[k]) true) (budF lim s f (ofW ws l[k]) true) := by
 rw [List.drop_eq_getElem_cons hk, batF, if_pos h]
theorem bat_stop {lim : Int} {ws l : List Int} {k : Nat} (hk : k < l.length) {s : Int} {f : Bool} (h : budB lim s f (ofW ws l[k]) true = false) : batF lim ws (l.drop k) s f = [] := by
 rw [List.drop_eq_getElem_cons hk, batF, if_neg (by simp [h])]
theorem add_one {x : Int} (h : 0 ≤ x ∧ x ≤ 18446744073709551615) : addV [x] = x ∧ addB [x] = true := by
 have hs : ([x] : List Int).sum ≤ 18446744073709551615 := by simp; omega
 obtain ⟨h1, h2⟩ := add_fits hs
 exact ⟨by rw [h2]; simp, h1⟩
theorem bud_rng {lim s w : Int} {f ok : Bool} (hs : 0 ≤ s ∧ s ≤ 18446744073709551615) (hw : 0 ≤ w ∧ w ≤ 18446744073709551615) : 0 ≤ budS lim s f w ok ∧ budS lim s f w ok ≤ 18446744073709551615 := by
 unfold budS addV
 split
 ·split
  ·simp only [List.sum_cons, List.sum_nil] at *; omega
  ·omega
 ·exact hs
theorem batch1_any (l9 : Nat) (B9 : List Int → Res → Prop) (r : Res) (b6 b4 b5 b7 rb : Nat) (g : Rg) (lim : Int) (W : Option Addr) (wn wc : Nat) (ws l : List Int) (w : World) (hw : W0 [Res.blk b6 22 [Value.int .u64 lim], Res.blk b4 102 [Value.pointer (some ⟨rb, 0, none⟩)], Res.blk b5 3 [Value.int .i64 0], Res.blk b7 161 [Value.slice W wn wc], rB_i rb g, rW_i g, r] w) (hY : YOK Tryz.prog l9 (fun x : Int => Value.int .i64 x) B9 (batF lim ws l 0 true)) (hB0 : B9 [] r) (h : g.Rep 1 (l.map (fun v : Int => [Value.int .i64 v]))) (hw9 : Rd w [Res.blk b6 22 [Value.int .u64 lim], Res.blk b4 102 [Value.pointer (some ⟨rb, 0, none⟩)], Res.blk b5 3 [Value.int .i64 0], Res.blk b7 161 [Value.slice W wn wc], rB_i rb g, rW_i g, r] W wn 1 (ws.map (fun v : Int => [Value.int .u64 v]))) (hokw : okU ws) (hlim : 0 ≤ lim ∧ lim ≤ 18446744073709551615) (hln : l.length ≤ 1000000) : Ret Tryz.prog 282 [.func (.yield l9) #[] #[], .pointer (some ⟨b6, 0, none⟩), .pointer (some ⟨b4, 0, none⟩), .pointer (some ⟨b5, 0, none⟩), .pointer (some ⟨b7, 0, none⟩)] w (fun _ w2 => ∃ r2, B9 (batF lim ws l 0 true) r2 ∧ WOK (fps [Res.blk b6 22 [Value.int .u64 lim], Res.blk b4 102 [Value.pointer (some ⟨rb, 0, none⟩)], Res.blk b5 3 [Value.int .i64 0], Res.blk b7 161 [Value.slice W wn wc], rB_i rb g, rW_i g, r]) w [Res.blk b6 22 [Value.int .u64 lim], Res.blk b4 102 [Value.pointer (some ⟨rb, 0, none⟩)], Res.blk b5 3 [Value.int .i64 (((batF lim ws l 0 true).length : Nat) : Int)], Res.blk b7 161 [Value.slice W wn wc], rB_i rb g, rW_i g, r2] w2) := by
 refine g_st Tryz.func282 38 hw ?_
 refine rn [1,5] ?_
 refine g_op (zH [] rfl (fun w1 hw1 ho1 => by have h7 := budget_any (lim) w1; exact h7) rfl ?_)
 rintro ⟨sb10, fb10, lb10⟩ _
 refine ii ?_
 refine rn [3,0,14] ?_
 refine g_lk [0, 2, 3, 4, 6] (fun (x : Nat × Int × Bool × Res) => []) (fun (x : Nat × Int × Bool × Res) => [Res.blk sb10 22 [Value.int .u64 (x.2.1)], Res.blk fb10 4 [Value.bool (x.2.2.1)], Res.blk lb10 22 [Value.int .u64 lim], Res.blk b6 22 [Value.int .u64 lim], Res.blk b4 102 [Value.pointer (some ⟨rb, 0, none⟩)], Res.blk b5 3 [Value.int .i64 ((x.1 : Nat) : Int)], Res.blk b7 161 [Value.slice W wn wc], rB_i rb g, rW_i g, x.2.2.2]) (fun (x : Nat × Int × Bool × Res) => x.1 ≤ l.length ∧ B9 (l.take x.1) x.2.2.2 ∧ (batF lim ws l 0 true) = l.take x.1 ++ batF lim ws (l.drop x.1) x.2.1 x.2.2.1 ∧ (0 ≤ x.2.1 ∧ x.2.1 ≤ 18446744073709551615)) (fun (x : Nat × Int × Bool × Res) => l.length - x.1) (0, 0, true, r) (by (try dsimp only); exact ⟨(by omega), (by simpa using hB0), rfl, (by omega)⟩) ?_
 rintro ⟨k, s, f, r1⟩ ⟨hk, hB, hbat, hs9⟩
 replace hk : k ≤ l.length := hk
 replace hB : B9 (l.take k) r1 := hB
 replace hbat : (batF lim ws l 0 true) = l.take k ++ batF lim ws (l.drop k) s f := hbat
 replace hs9 : 0 ≤ s ∧ s ≤ 18446744073709551615 := hs9
 refine zX (L' := [Res.blk sb10 22 [Value.int .u64 (s)], Res.blk fb10 4 [Value.bool (f)], Res.blk lb10 22 [Value.int .u64 lim], Res.blk b6 22 [Value.int .u64 lim], Res.blk b4 102 [Value.pointer (some ⟨rb, 0, none⟩)], Res.blk b5 3 [Value.int .i64 ((k : Nat) : Int)], Res.blk b7 161 [Value.slice W wn wc], rB_i rb g, rW_i g, r1]) rfl ?_
 refine rn [14,1,5,5] ?_
 refine g_op (zK _ rfl (fun w1 hw1 ho1 => by exact peek_i rb g l _ w1 ho1 h) rfl ?_)
 refine rn [2,40,40,3,3,0,8,1,2,48,2] ?_
 refine zV 19 rfl (fun h1 => ?_) (fun h1 => ?_)
 ·have hke : k = l.length := by have h9 := h1; rw [pk_nat] at h9; simp at h9; omega
  have hend : batF lim ws (l.drop k) s f = [] := by rw [hke, List.drop_length]; rfl
  refine rn [21,21,21,21,21,21,21,21,21,41,2,21,21,21,21,41,0,19,11] ?_
  refine zD (zN (zD (zN ?_)))
  have hR : (batF lim ws l 0 true) = l.take k := by rw [hbat, hend, List.append_nil]
  have hlk : (l.take k).length = k := by simp; omega
  exact fin0 rfl (fun w' hw' => ⟨r1, by rw [hR]; exact hB, by have h9 := zB (L' := [Res.blk b6 22 [Value.int .u64 lim], Res.blk b4 102 [Value.pointer (some ⟨rb, 0, none⟩)], Res.blk b5 3 [Value.int .i64 ((k : Nat) : Int)], Res.blk b7 161 [Value.slice W wn wc], rB_i rb g, rW_i g, r1]) w' hw'; rw [hR, hlk]; exact h9⟩) _ (.inl rfl)
 ·have hk1 : k < l.length := by have h9 := h1; rw [pk_nat] at h9; simp at h9; omega
  have hpk : pk l ((k : Nat) : Int) = some l[k] := by rw [pk_nat, List.getElem?_eq_getElem hk1]
  have hwU := ofW_U hokw l[k]
  refine g_val 7 (v' := .int .i64 l[k]) rfl (by rw [hpk]; rfl) ?_
  refine rn [22,2,22,5,22,2] ?_
  refine g_gt rfl rfl (g_lit rfl rfl rfl rfl rfl fun b23 => ?_)
  refine zJ (b := b23) ((([l[k]] : List Int).map (fun v : Int => [Value.int .i64 v])).flatten) rfl ?_
  refine g_gt rfl rfl (zG rfl (fun w1 hw1 => weight_any W (some ⟨b23, 0, none⟩) (wn) (wc) (1) (1) (ws) (([l[k]] : List Int)) w1 (Rdb.toOld hw9.rdb hw1) (Rdb.toOld (InL.rdb (b := b23) (els := (([l[k]] : List Int)).map (fun v : Int => [Value.int .i64 v])) rfl (by simp) rfl) hw1) hokw (by first | omega | (simp; omega) | (simp; done))) rfl ?_)
  refine rn [22,40] ?_
  refine g_val 25 (v' := .int .u64 (ofW ws l[k])) rfl (by rw [List.map_cons, List.map_nil, (add_one hwU).1]) ?_
  refine rn [22,40] ?_
  refine g_val 26 (v' := .bool true) rfl (by rw [List.map_cons, List.map_nil, (add_one hwU).2]) ?_
  refine g_gt rfl rfl (xL [Res.blk sb10 22 [Value.int .u64 (s)], Res.blk fb10 4 [Value.bool (f)], Res.blk lb10 22 [Value.int .u64 lim]] rfl rfl (fun w1 hw1 ho1 => by have h7 := budget1_any sb10 fb10 lb10 (s) (lim) ((ofW ws l[k])) (f) (true) w1 ho1 hs9 hwU; exact h7) rfl ?_)
  rintro ⟨⟩ _
  refine ii ?_
  refine rn [22,48,42,2] ?_
  refine zV 30 rfl (fun h2 => ?_) (fun h2 => ?_)
  ·have hbd : budB lim s f (ofW ws l[k]) true = false := by simpa using h2
   have hend := bat_stop (lim := lim) (ws := ws) hk1 hbd
   refine rn [21,21,21,21,41,0,19,11] ?_
   refine zD (zN (zD (zN ?_)))
   have hR : (batF lim ws l 0 true) = l.take k := by rw [hbat, hend, List.append_nil]
   have hlk : (l.take k).length = k := by simp; omega
   exact fin0 rfl (fun w' hw' => ⟨r1, by rw [hR]; exact hB, by have h9 := zB (L' := [Res.blk b6 22 [Value.int .u64 lim], Res.blk b4 102 [Value.pointer (some ⟨rb, 0, none⟩)], Res.blk b5 3 [Value.int .i64 ((k : Nat) : Int)], Res.blk b7 161 [Value.slice W wn wc], rB_i rb g, rW_i g, r1]) w' hw'; rw [hR, hlk]; exact h9⟩) _ (.inl rfl)
  ·have hbd : budB lim s f (ofW ws l[k]) true = true := by simpa using h2
   have hbat2 : (batF lim ws l 0 true) = l.take (k + 1) ++ batF lim ws (l.drop (k + 1)) (budS lim s f (ofW ws l[k]) true) (budF lim s f (ofW ws l[k]) true) := by rw [hbat, bat_go hk1 hbd, ← List.take_append_getElem hk1, List.append_assoc]; rfl
   have hpre9 : l.take k ++ [l[k]] <+: (batF lim ws l 0 true) := ⟨_, by rw [hbat2, ← List.take_append_getElem hk1]⟩
   refine rn [22,2,22,2] ?_
   refine g_gt rfl rfl (g_yield hY hpre9 hB rfl rfl rfl fun r9 hB9 => ?_)
   refine ⟨_, inferInstance, ?_⟩
   refine rn [22,48] ?_
   refine yD 34 (b := false) rfl (rfl) ?_
   refine rn [42,0,20,12,7,10,5,43] ?_
   refine g_op (zP rfl rfl rfl rfl rfl rfl rfl ?_)
   refine zJ (b := b5) [Value.int .i64 ((k + 1 : Nat) : Int)] rfl ?_
   refine rn [9,15] ?_
   exact g_again ((k + 1), (budS lim s f (ofW ws l[k]) true), (budF lim s f (ofW ws l[k]) true), r9) (by (try dsimp only); exact ⟨(by omega), (by rw [← List.take_append_getElem hk1]; exact hB9), hbat2, (bud_rng hs9 hwU)⟩) (by dsimp only; omega) (by repeat (first | exact trivial | refine ⟨rfl, ?_⟩)) zB
theorem bat_len (lim : Int) (ws : List Int) : ∀ (l : List Int) (s : Int) (f : Bool), (batF lim ws l s f).length ≤ l.length
 | [], _, _ => by simp [batF]
 | i :: l, s, f => by
  unfold batF
  split
  ·have := bat_len lim ws l (budS lim s f (ofW ws i) true) (budF lim s f (ofW ws i) true)
   simp only [List.length_cons]; omega
  ·simp
theorem step14_any (rb : Nat) (g : Rg) (lim : Int) (W : Option Addr) (wn wc : Nat) (ws l : List Int) (w : World) (hw : W0 [rB_i rb g, rW_i g] w) (h : g.Rep 1 (l.map (fun v : Int => [Value.int .i64 v]))) (hw9 : Rd w [rB_i rb g, rW_i g] W wn 1 (ws.map (fun v : Int => [Value.int .u64 v]))) (hokw : okU ws) (hlim : 0 ≤ lim ∧ lim ≤ 18446744073709551615) (hln : l.length ≤ 1000000) : Own2 (ι := (Option Addr × Nat × Rg)) Tryz.prog 152 [.pointer (some ⟨rb, 0, none⟩), .int .u64 lim, .slice W wn wc] w [rB_i rb g, rW_i g] (fun x => x.2.2.Rep 1 ((l.drop (batF lim ws l 0 true).length).map (fun v : Int => [Value.int .i64 v])) ∧ x.2.2.size = g.size) (fun x => .slice x.1 (batF lim ws l 0 true).length x.2.1) (fun x => [Res.row x.1 (batF lim ws l 0 true).length x.2.1 3 1 ((batF lim ws l 0 true).map (fun v : Int => [Value.int .i64 v]))]) (fun x => [rB_i rb x.2.2, rW_i x.2.2]) := by
 refine g_startM Tryz.func152 rfl 26 rfl (by simp) (fps [rB_i rb g, rW_i g]) [rB_i rb g, rW_i g] hw _ rfl ?_
 refine rn [1,3,0,1] ?_
 refine g_op (zI rfl fun b7 => ?_)
 refine zJ (b := b7) [Value.slice none ([] : List Int).length 0] rfl ?_
 refine zW none 3 1 (([] : List Int).map (fun v : Int => [Value.int .i64 v])) rfl ?_
 refine rn [0,8,1,2,2,2] ?_
 refine g_op (zH [] rfl (fun w1 hw1 ho1 => by have h7 := batch_any (some ⟨rb, 0, none⟩) (lim) W (wn) (wc) w1; exact h7) rfl ?_)
 rintro ⟨bl12, bq12, bf12, bw12⟩ _
 refine ii ?_
 refine rn [0,14] ?_
 refine g_rangeFunc (fst := []) (cap := [Value.pointer (some ⟨bl12, 0, none⟩), Value.pointer (some ⟨bq12, 0, none⟩), Value.pointer (some ⟨bf12, 0, none⟩), Value.pointer (some ⟨bw12, 0, none⟩)]) (enc := (fun x : Int => Value.int .i64 x)) (all := (batF lim ws l 0 true)) rfl rfl [Res.blk bl12 22 [Value.int .u64 lim], Res.blk bq12 102 [Value.pointer (some ⟨rb, 0, none⟩)], Res.blk bf12 3 [Value.int .i64 0], Res.blk bw12 161 [Value.slice W wn wc], rB_i rb g, rW_i g] [Res.blk bl12 22 [Value.int .u64 lim], Res.blk bq12 102 [Value.pointer (some ⟨rb, 0, none⟩)], Res.blk bf12 3 [Value.int .i64 (((batF lim ws l 0 true).length : Nat) : Int)], Res.blk bw12 161 [Value.slice W wn wc], rB_i rb g, rW_i g] [] (fun (y9 : Option Addr × Nat × List Int) => [Res.blk b7 38 [Value.slice y9.1 y9.2.2.length y9.2.1], Res.row y9.1 y9.2.2.length y9.2.1 3 1 (y9.2.2.map (fun v : Int => [Value.int .i64 v]))]) (fun pre (y9 : Option Addr × Nat × List Int) => y9.2.2 = pre) (none, 0, []) (rfl) (fun w1 hw1 => by have h9 := zB (L' := [Res.blk bl12 22 [Value.int .u64 lim], Res.blk bq12 102 [Value.pointer (some ⟨rb, 0, none⟩)], Res.blk bf12 3 [Value.int .i64 0], Res.blk bw12 161 [Value.slice W wn wc], rB_i rb g, rW_i g, Res.blk b7 38 [Value.slice none ([] : List Int).length 0], Res.row none ([] : List Int).length 0 3 1 (([] : List Int).map (fun v : Int => [Value.int .i64 v]))]) w1 hw1; exact h9) (fun w1 hw1 => by intro l9 B9 r9 hY9 hB9 hc9 ho9; have hc8 : WOK _ _ [Res.blk bl12 22 [Value.int .u64 lim], Res.blk bq12 102 [Value.pointer (some ⟨rb, 0, none⟩)], Res.blk bf12 3 [Value.int .i64 0], Res.blk bw12 161 [Value.slice W wn wc], rB_i rb g, rW_i g, r9] w1 := hc9; exact batch1_any l9 B9 r9 bl12 bq12 bf12 bw12 rb g lim W wn wc ws l w1 ho9 hY9 hB9 h (Rd.ofRd hc8 hw9 (by omega)) hokw hlim hln) (fun x9 => [(8, Value.int .i64 x9), (7, Value.pointer (some ⟨b7, 0, none⟩))]) ?_ ?_ ?_
 ·rintro l9 pre x9 ⟨A9, c9, o9⟩ w9 hpre9 hp9
  refine rn [10,3,9] ?_
  exact g_asg (by repeat (first | exact trivial | refine ⟨rfl, ?_⟩)) zB
 ·rintro l9 pre x9 ⟨A9, c9, o9⟩ w9 hpre9 hp9
  replace hp9 : o9 = pre := hp9
  have hbl := hpre9.length_le
  have hbl2 := bat_len lim ws l 0 true
  simp only [List.length_append, List.length_cons, List.length_nil] at hbl
  have hbl3 : o9.length ≤ 1000000 := by rw [hp9]; omega
  refine zX (L' := [Res.blk b7 38 [Value.slice A9 o9.length c9], Res.row A9 o9.length c9 3 1 (o9.map (fun v : Int => [Value.int .i64 v]))]) rfl ?_
  refine rn [14,10,5,2] ?_
  refine g_op (g_lit rfl rfl rfl rfl rfl fun b16 => ?_)
  refine zJ (b := b16) ((([x9] : List Int).map (fun v : Int => [Value.int .i64 v])).flatten) rfl ?_
  refine g_op (zY (A := A9) (els := (o9).map (fun v : Int => [Value.int .i64 v])) (news := (([x9] : List Int).map (fun v : Int => [Value.int .i64 v]))) rfl rfl (InL.rdb (b := b16) rfl (by simp) rfl) (yG (c := (fun v : Int => [Value.int .i64 v])) (by intro x; simp [Value.oneCell']) _) (by omega) rfl fun A17 cap17 => ⟨_, inferInstance, ?_⟩)
  refine zF (A := A17) (((o9 ++ [x9])).map (fun v : Int => [Value.int .i64 v])) (by first | rfl | exact List.map_append.symm | (simp; done)) ?_
  refine g_op (zP rfl rfl rfl rfl rfl rfl rfl ?_)
  refine rn [9,15] ?_
  refine yC (A := A17) ((o9 ++ [x9]) : List Int).length (by simp) ?_
  refine zJ (b := b7) [Value.slice A17 ((o9 ++ [x9]) : List Int).length cap17] (by simp [splice]) ?_
  exact g_round (fun w2 hw2 => ⟨(A17, cap17, (o9 ++ [x9] : List Int)), by show o9 ++ [x9] = pre ++ [x9]; rw [hp9], by have h9 := zB (L' := [Res.blk b7 38 [Value.slice A17 (o9 ++ [x9] : List Int).length cap17], Res.row A17 (o9 ++ [x9] : List Int).length cap17 3 1 ((o9 ++ [x9] : List Int).map (fun v : Int => [Value.int .i64 v]))]) w2 hw2; exact h9⟩)
 rintro ⟨A9, c9, o9⟩ hp9 m9
 refine zX (L' := [Res.obj m9 (.deferred (some [])), Res.blk bl12 22 [Value.int .u64 lim], Res.blk bq12 102 [Value.pointer (some ⟨rb, 0, none⟩)], Res.blk bf12 3 [Value.int .i64 (((batF lim ws l 0 true).length : Nat) : Int)], Res.blk bw12 161 [Value.slice W wn wc], rB_i rb g, rW_i g, Res.blk b7 38 [Value.slice A9 o9.length c9], Res.row A9 o9.length c9 3 1 (o9.map (fun v : Int => [Value.int .i64 v]))]) rfl ?_
 replace hp9 : o9 = (batF lim ws l 0 true) := hp9
 have hbl2 := bat_len lim ws l 0 true
 have hbl3 : o9.length ≤ l.length := by rw [hp9]; exact hbl2
 refine rn [15,7,8,1,5,47,2,0,14] ?_
 refine g_lk [0, 6, 7, 19] (fun (x : Nat × Rg) => [(20, .int .i64 ((x.1 : Nat) : Int))]) (fun (x : Nat × Rg) => [Res.obj m9 (.deferred (some [])), Res.blk b7 38 [Value.slice A9 o9.length c9], Res.row A9 o9.length c9 3 1 (o9.map (fun v : Int => [Value.int .i64 v])), rB_i rb x.2, rW_i x.2]) (fun (x : Nat × Rg) => x.1 ≤ o9.length ∧ (x.2).Rep 1 ((l.drop x.1).map (fun v : Int => [Value.int .i64 v])) ∧ (x.2).size = g.size) (fun (x : Nat × Rg) => o9.length - x.1) (0, g) (by (try dsimp only); exact ⟨Nat.zero_le _, (by simpa using h), rfl⟩) ?_
 rintro ⟨i, g1⟩ ⟨le_i, hr, hz⟩
 replace le_i : i ≤ o9.length := le_i
 replace hr : (g1).Rep 1 ((l.drop i).map (fun v : Int => [Value.int .i64 v])) := hr
 replace hz : (g1).size = g.size := hz
 refine zX (L' := [Res.obj m9 (.deferred (some [])), Res.blk b7 38 [Value.slice A9 o9.length c9], Res.row A9 o9.length c9 3 1 (o9.map (fun v : Int => [Value.int .i64 v])), rB_i rb g1, rW_i g1]) rfl ?_
 refine g_val 20 (v' := .int .i64 ((i : Nat) : Int)) rfl rfl ?_
 refine rn [1,46,0,8] ?_
 refine zC rfl (fun h1 => ?_) (fun h1 => ?_)
 ·have lt_i : i < o9.length := by have h9 := of_decide_eq_true h1; omega
  refine rn [12,7,8,14,10,2] ?_
  refine g_op (zH _ rfl (fun w1 hw1 ho1 => by have h7 := pop_i rb g1 (l.drop i) w1 ho1 hr; exact h7) rfl ?_)
  rintro g23 ⟨r23, s23⟩
  refine ii ?_
  refine rn [9,15,7,10,43,2,9] ?_
  exact g_ag ((i + 1), g23) (by (try dsimp only); exact ⟨(by first | exact lt_i | omega), (by have h9 := r23; simpa using h9), (by omega)⟩)
 ·have eq_i : i = o9.length := by have h9 := of_decide_eq_false h1; omega
  refine rn [16] ?_
  refine zE (zE (zQ ?_))
  refine rn [7,1,5,3,0,11] ?_
  subst hp9
  rw [eq_i] at hr
  exact finM1 rfl (.tmp rfl) (fun w' hw' => ⟨(A9, c9, g1), (by first | exact ⟨hr, hz⟩ | (dsimp only; exact ⟨hr, hz⟩)), rfl, by have h9 := zB (L' := [Res.row ((A9, c9, g1)).1 (batF lim ws l 0 true).length ((A9, c9, g1)).2.1 3 1 ((batF lim ws l 0 true).map (fun v : Int => [Value.int .i64 v])), rB_i rb ((A9, c9, g1)).2.2, rW_i ((A9, c9, g1)).2.2]) w' hw'; exact h9⟩) _ (.inl rfl)
end Go.Proofs.YtdddiilocbbkkaaGreat
