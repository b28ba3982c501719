/- TopForced: for every configuration and all operations the law returns true. No condition. Part 31 of 42. -/
import Derived.Test.YtdddiilocbbkkaaGreatTF15
import Derived.Test.YtdddiilocbbkkaaGreatTF27
set_option linter.unusedVariables false
set_option linter.unusedSimpArgs false
namespace Go.Proofs.YtdddiilocbbkkaaGreat
open Go.RowKit Go.Eg
set_option maxHeartbeats 4000000
set_option synthInstance.maxSize 3000
set_option maxRecDepth 100000
theorem take_pp (b : Nat) (g : Rg) (l : List PP) (n : Nat) (w : World) (hw : W0 [rB_pp b g, rW_pp g] w) (h : g.Rep 2 (l.map PP.c)) (hl : l.length ≤ 100000) : Own2 (ι := (Option Addr × Nat × Rg)) Tryz.prog 155 [.pointer (some ⟨b, 0, none⟩), .int .i64 (n : Int)] w [rB_pp b g, rW_pp g] (fun x => x.2.2.Rep 2 ((l.drop (l.take n).length).map PP.c) ∧ x.2.2.size = g.size) (fun x => .slice x.1 (l.take n).length x.2.1) (fun x => [Res.row x.1 (l.take n).length x.2.1 106 2 ((l.take n).map PP.c)]) (fun x => [rB_pp b x.2.2, rW_pp x.2.2]) := by
 refine g_st Tryz.func155 22 hw ?_
 refine rn [1,3,0,1,2] ?_
 refine g_op (zH _ rfl (fun w1 hw1 ho1 => by have h7 := all_pp b g l w1 ho1 h; exact h7) rfl ?_)
 rintro ⟨A7, cap7⟩ _
 refine ii ?_
 refine rn [3,0,1,2,2,2,47] ?_
 refine s_q (q_minn (a := n) (b := (l).length) rfl rfl) rfl ?_
 refine g_rowfact A7 fun hle9 hcm9 _ => ?_
 refine s_q (yV (h := (min n l.length)) rfl rfl rfl (by omega)) rfl ?_
 refine g_rowTake (A := A7) (min n l.length) (l.take n).length ((l.take n).map PP.c) (by omega) (by simp) (by rw [← List.map_take, ← List.take_eq_take_min]) ?_
 refine g_val 13 (v' := .slice (subA A7 cap7 0 2) (l.take n).length cap7) rfl (by simp) ?_
 refine rn [3,0,8,1,2,47,2,0,14] ?_
 refine g_lk [0, 4, 5, 15] (fun (x : Nat × Rg) => [(16, .int .i64 ((x.1 : Nat) : Int))]) (fun (x : Nat × Rg) => [Res.row (subA A7 cap7 0 2) (l.take n).length cap7 106 2 ((l.take n).map PP.c), rB_pp b x.2, rW_pp x.2]) (fun (x : Nat × Rg) => x.1 ≤ (l.take n).length ∧ Rg.Rep x.2 2 ((l.drop x.1).map PP.c) ∧ Rg.size x.2 = Rg.size g) (fun (x : Nat × Rg) => (l.take n).length - x.1) (0, g) (by (try dsimp only); exact ⟨Nat.zero_le _, (by simpa using h), rfl⟩) ?_
 rintro ⟨k, g9⟩ ⟨le_k, hr9, hs9⟩
 replace le_k : k ≤ (l.take n).length := le_k
 replace hr9 : Rg.Rep g9 2 ((l.drop k).map PP.c) := hr9
 replace hs9 : Rg.size g9 = Rg.size g := hs9
 refine zX (L' := [Res.row (subA A7 cap7 0 2) (l.take n).length cap7 106 2 ((l.take n).map PP.c), rB_pp b g9, rW_pp g9]) rfl ?_
 refine g_val 16 (v' := .int .i64 ((k : Nat) : Int)) rfl rfl ?_
 have htl : (l.take n).length ≤ 1000000 := by simp; omega
 refine rn [1,46,0,8] ?_
 refine zC rfl (fun h1 => ?_) (fun h1 => ?_)
 ·have lt_k : k < (l.take n).length := by have h9 := of_decide_eq_true h1; omega
  refine rn [12,7,8,14,10,2] ?_
  refine g_op (zH _ rfl (fun w1 hw1 ho1 => by have h7 := pop_pp b g9 (l.drop k) w1 ho1 hr9; exact h7) rfl ?_)
  rintro g19 ⟨r19, s19⟩
  refine ii ?_
  refine rn [9,15,7,10,43,2,9] ?_
  exact g_ag ((k + 1), g19) (by (try dsimp only); exact ⟨(by first | exact lt_k | omega), (by rw [← List.tail_drop]; exact r19), (by rw [s19]; exact hs9)⟩)
 ·have eq_k : k = (l.take n).length := by have h9 := of_decide_eq_false h1; omega
  refine rn [16] ?_
  refine zE (zE (zQ ?_))
  refine rn [7,1,2,3,0,11] ?_
  skip
  exact fin1 rfl (.tmp rfl) (fun w' hw' => ⟨((subA A7 cap7 0 2), cap7, g9), (by (rw [← eq_k]; exact ⟨hr9, hs9⟩)), rfl, zA w' hw'⟩) _ (.inl rfl)
theorem take_rq (b : Nat) (g : Rg) (l : List Rq) (n : Nat) (w : World) (hw : W0 [rB_rq b g, rW_rq g] w) (h : g.Rep 2 (l.map Rq.c)) (hl : l.length ≤ 100000) : Own2 (ι := (Option Addr × Nat × Rg)) Tryz.prog 158 [.pointer (some ⟨b, 0, none⟩), .int .i64 (n : Int)] w [rB_rq b g, rW_rq g] (fun x => x.2.2.Rep 2 ((l.drop (l.take n).length).map Rq.c) ∧ x.2.2.size = g.size) (fun x => .slice x.1 (l.take n).length x.2.1) (fun x => [Res.row x.1 (l.take n).length x.2.1 110 2 ((l.take n).map Rq.c)]) (fun x => [rB_rq b x.2.2, rW_rq x.2.2]) := by
 refine g_st Tryz.func158 22 hw ?_
 refine rn [1,3,0,1,2] ?_
 refine g_op (zH _ rfl (fun w1 hw1 ho1 => by have h7 := all_rq b g l w1 ho1 h; exact h7) rfl ?_)
 rintro ⟨A7, cap7⟩ _
 refine ii ?_
 refine rn [3,0,1,2,2,2,47] ?_
 refine s_q (q_minn (a := n) (b := (l).length) rfl rfl) rfl ?_
 refine g_rowfact A7 fun hle9 hcm9 _ => ?_
 refine s_q (yV (h := (min n l.length)) rfl rfl rfl (by omega)) rfl ?_
 refine g_rowTake (A := A7) (min n l.length) (l.take n).length ((l.take n).map Rq.c) (by omega) (by simp) (by rw [← List.map_take, ← List.take_eq_take_min]) ?_
 refine g_val 13 (v' := .slice (subA A7 cap7 0 2) (l.take n).length cap7) rfl (by simp) ?_
 refine rn [3,0,8,1,2,47,2,0,14] ?_
 refine g_lk [0, 4, 5, 15] (fun (x : Nat × Rg) => [(16, .int .i64 ((x.1 : Nat) : Int))]) (fun (x : Nat × Rg) => [Res.row (subA A7 cap7 0 2) (l.take n).length cap7 110 2 ((l.take n).map Rq.c), rB_rq b x.2, rW_rq x.2]) (fun (x : Nat × Rg) => x.1 ≤ (l.take n).length ∧ Rg.Rep x.2 2 ((l.drop x.1).map Rq.c) ∧ Rg.size x.2 = Rg.size g) (fun (x : Nat × Rg) => (l.take n).length - x.1) (0, g) (by (try dsimp only); exact ⟨Nat.zero_le _, (by simpa using h), rfl⟩) ?_
 rintro ⟨k, g9⟩ ⟨le_k, hr9, hs9⟩
 replace le_k : k ≤ (l.take n).length := le_k
 replace hr9 : Rg.Rep g9 2 ((l.drop k).map Rq.c) := hr9
 replace hs9 : Rg.size g9 = Rg.size g := hs9
 refine zX (L' := [Res.row (subA A7 cap7 0 2) (l.take n).length cap7 110 2 ((l.take n).map Rq.c), rB_rq b g9, rW_rq g9]) rfl ?_
 refine g_val 16 (v' := .int .i64 ((k : Nat) : Int)) rfl rfl ?_
 have htl : (l.take n).length ≤ 1000000 := by simp; omega
 refine rn [1,46,0,8] ?_
 refine zC rfl (fun h1 => ?_) (fun h1 => ?_)
 ·have lt_k : k < (l.take n).length := by have h9 := of_decide_eq_true h1; omega
  refine rn [12,7,8,14,10,2] ?_
  refine g_op (zH _ rfl (fun w1 hw1 ho1 => by have h7 := pop_rq b g9 (l.drop k) w1 ho1 hr9; exact h7) rfl ?_)
  rintro g19 ⟨r19, s19⟩
  refine ii ?_
  refine rn [9,15,7,10,43,2,9] ?_
  exact g_ag ((k + 1), g19) (by (try dsimp only); exact ⟨(by first | exact lt_k | omega), (by rw [← List.tail_drop]; exact r19), (by rw [s19]; exact hs9)⟩)
 ·have eq_k : k = (l.take n).length := by have h9 := of_decide_eq_false h1; omega
  refine rn [16] ?_
  refine zE (zE (zQ ?_))
  refine rn [7,1,2,3,0,11] ?_
  skip
  exact fin1 rfl (.tmp rfl) (fun w' hw' => ⟨((subA A7 cap7 0 2), cap7, g9), (by (rw [← eq_k]; exact ⟨hr9, hs9⟩)), rfl, zA w' hw'⟩) _ (.inl rfl)
def loV (a b : V) : V := if a.bal < b.bal then a else b
def stW (l L : List V) : Nat → List V
 | 0 => l
 | 1 => List.zipWith loV l L
 | _ => L
def stp (X Y : List V) (k : Nat) : List V := Y.take k ++ X.drop k
theorem stp_zero (X Y : List V) : stp X Y 0 = X := by simp [stp]
theorem stp_all {X Y : List V} (h : X.length = Y.length) : stp X Y Y.length = Y := by simp [stp, h]
theorem stp_len {X Y : List V} (h : X.length = Y.length) {k : Nat} (hk : k ≤ X.length) : (stp X Y k).length = X.length := by simp [stp]; omega
theorem stp_at {X Y : List V} (h : X.length = Y.length) {k j : Nat} (hk : k ≤ X.length) (hj : j < X.length) : (stp X Y k)[j]? = some (if j < k then Y[j] else X[j]) := by
 unfold stp
 by_cases hjk : j < k
 ·rw [if_pos hjk, List.getElem?_append_left (by simp; omega), List.getElem?_take_of_lt hjk, List.getElem?_eq_getElem (by omega)]
 ·rw [if_neg hjk, List.getElem?_append_right (by simp; omega), List.getElem?_drop, List.length_take, show k + (j - min k Y.length) = j by omega, List.getElem?_eq_getElem hj]
theorem stp_get {X Y : List V} (h : X.length = Y.length) {k : Nat} (hk : k < X.length) : gotV (stp X Y k) k = X[k] := by
 have h1 := stp_at h (Nat.le_of_lt hk) hk
 rw [if_neg (Nat.lt_irrefl k)] at h1
 unfold gotV; rw [if_pos (by omega), Int.toNat_natCast, h1]; rfl
theorem stp_set {X Y : List V} (h : X.length = Y.length) {k : Nat} (hk : k < X.length) {v : V} (hv : Y[k] = v) : setV (stp X Y k) k v = stp X Y (k + 1) := by
 have hl := stp_len h (Nat.le_of_lt hk)
 unfold setV hasV
 rw [if_pos (decide_eq_true (by omega)), Int.toNat_natCast]
 apply List.ext_getElem?
 intro j
 rw [List.getElem?_set]
 by_cases hj : j < X.length
 ·rw [stp_at h (Nat.le_of_lt hk) hj, stp_at h (k := k + 1) (by omega) hj]
  by_cases e : k = j
  ·subst e; rw [if_pos rfl, if_pos (by omega), if_pos (by omega), hv]
  ·rw [if_neg e]; congr 1
   by_cases h2 : j < k
   ·rw [if_pos h2, if_pos (by omega)]
   ·rw [if_neg h2, if_neg (by omega)]
 ·rw [if_neg (by omega), List.getElem?_eq_none (by omega), List.getElem?_eq_none (by rw [stp_len h hk]; omega)]
theorem stp_keep {X Y : List V} (h : X.length = Y.length) {k : Nat} (hk : k < X.length) (hv : Y[k] = X[k]) : stp X Y (k + 1) = stp X Y k := by
 have h1 := stp_get h hk
 rw [← stp_set h hk hv, ← h1]
 have hl := stp_len h (Nat.le_of_lt hk)
 rw [yT (by omega)]
 unfold setV
 split
 ·rw [Int.toNat_natCast, List.set_getElem_self]
 ·rfl
theorem sum_le2 : ∀ {A B : List V}, A.length = B.length → (∀ (i : Nat) (a b : V), A[i]? = some a → B[i]? = some b → a.bal ≤ b.bal) → (bals A).sum ≤ (bals B).sum
 | [], [], _, _ => Int.le_refl _
 | a :: A, b :: B, h, hi => by
  have h1 := sum_le2 (A := A) (B := B) (by simpa using h) fun i => hi (i + 1)
  have h2 := hi 0 a b rfl rfl
  simp only [bals, List.map_cons, List.sum_cons] at h1 ⊢
  omega
 | [], _ :: _, h, _ => by simp at h
 | _ :: _, [], h, _ => by simp at h
theorem stp_dn {X Y : List V} (h : X.length = Y.length) (hb : ∀ (i : Nat) (a b : V), X[i]? = some a → Y[i]? = some b → b.bal ≤ a.bal) {k : Nat} (hk : k ≤ X.length) : (bals (stp X Y k)).sum ≤ (bals X).sum :=
 sum_le2 (stp_len h hk) fun i a b ha hb' => by
  have hi : i < X.length := (List.getElem?_eq_some_iff.1 hb').1
  rw [stp_at h hk hi] at ha
  split at ha
  ·injection ha with ha; exact hb i b a hb' (by rw [List.getElem?_eq_getElem (by omega), ha])
  ·injection ha with ha; rw [List.getElem?_eq_getElem hi] at hb'; injection hb' with hb'; rw [← ha, ← hb']; exact Int.le_refl _
theorem stp_up {X Y : List V} (h : X.length = Y.length) (hb : ∀ (i : Nat) (a b : V), X[i]? = some a → Y[i]? = some b → a.bal ≤ b.bal) {k : Nat} (hk : k ≤ X.length) : (bals (stp X Y k)).sum ≤ (bals Y).sum :=
 sum_le2 ((stp_len h hk).trans h) fun i a b ha hb' => by
  have hi : i < Y.length := (List.getElem?_eq_some_iff.1 hb').1
  rw [stp_at h hk (by omega)] at ha
  split at ha
  ·injection ha with ha; rw [List.getElem?_eq_getElem hi] at hb'; injection hb' with hb'; rw [← ha, ← hb']; exact Int.le_refl _
  ·injection ha with ha; exact hb i a b (by rw [List.getElem?_eq_getElem (by omega), ha]) hb'
theorem zip_len {l L : List V} (h : L.length = l.length) : (stW l L 1).length = l.length := by simp [stW]; omega
theorem zip_at {l L : List V} (h : L.length = l.length) {i : Nat} (hi : i < l.length) : (stW l L 1)[i]? = some (loV l[i] L[i]) := by
 simp only [stW]
 rw [List.getElem?_zipWith, List.getElem?_eq_getElem hi, List.getElem?_eq_getElem (by omega)]
theorem zip_get {l L : List V} (h : L.length = l.length) {i : Nat} (hi : i < l.length) (h2 : i < (stW l L 1).length) : (stW l L 1)[i] = loV l[i] L[i] := by
 have := zip_at h hi
 rw [List.getElem?_eq_getElem h2] at this
 injection this
theorem zip_mem {l L : List V} {v : V} (hv : v ∈ stW l L 1) : v ∈ l ∨ v ∈ L := by
 simp only [stW] at hv
 obtain ⟨i, hi, rfl⟩ := List.mem_iff_getElem.1 hv
 simp only [List.length_zipWith] at hi
 rw [List.getElem_zipWith]
 unfold loV
 split
 ·exact .inl (List.getElem_mem _)
 ·exact .inr (List.getElem_mem _)
theorem lo_le (a b : V) : (loV a b).bal ≤ a.bal ∧ (loV a b).bal ≤ b.bal := by unfold loV; split <;> omega
theorem mem_stp {X Y : List V} {k : Nat} {v : V} (h : v ∈ stp X Y k) : v ∈ X ∨ v ∈ Y := by
 rcases List.mem_append.1 h with h | h
 ·exact .inr (List.mem_of_mem_take h)
 ·exact .inl (List.mem_of_mem_drop h)
theorem stp_chg {X Y : List V} {k : Nat} {v : V} (h : X.length = Y.length) (hk : k < X.length) (hv : Y[k] = v) (hX : ∀ x ∈ X, VO x) (hY : ∀ x ∈ Y, VO x) (hs : (bals (stp X Y (k + 1))).sum ≤ 18446744073709551615) {l : List V} (hl : l = stp X Y k) :
  v.ok ∧ ∀ n : Nat, (k : Int) = n → (h : n < l.length) → (l.map V.bal).sum - (l[n]).bal + v.bal ≤ 18446744073709551615 := by
 subst hl
 have hh : hasV (stp X Y k) (k : Int) = true := by unfold hasV; exact decide_eq_true (by rw [stp_len h (Nat.le_of_lt hk)]; omega)
 have e : (stp X Y k).set (k : Int).toNat v = stp X Y (k + 1) := by rw [xU hh]; exact stp_set h hk hv
 exact chg_ok (by rw [e]; exact all_got.1 fun x hx => (mem_stp hx).elim (hX x) (hY x)) (by rw [e]; exact hs) hh
theorem store_eng (eb rb cb lb bb ub mb xb b0 b1 pb gb tb : Nat) (c : C) (blk : Nat) (g : RG) (dep paid burn : Int) (bo : List En) (lv : List Int) (cur : Nat) (m : M) (q : LL) (pend : List Int) (mg : List PP) (pt : List Rq) (br : BR) (lA : Option Addr) (lc : Nat) (g0 g1 gp gg gt : Rg) (lA_ : Option Addr) (lC_ : Nat) (L : List V) (w : World) (hw : W0 [Res.blk eb 112 (ECell rb cb lb bb ub mb xb pb gb tb c lA (lv.length) lc), RgB rb g, RgW g, Res.im (RG.m g)] w) (hg : g.Rep) (hcp : (g.cp : Int) = c.capa) (hLr : Rd w [Res.blk eb 112 (ECell rb cb lb bb ub mb xb pb gb tb c lA (lv.length) lc), RgB rb g, RgW g, Res.im (RG.m g)] lA_ L.length 7 (L.map V.c)) (hL : L.length = (RG.l g).length) (hvo : ∀ v ∈ RG.l g, VO v) (hvL : ∀ v ∈ L, VO v) (hsL : (bals L).sum ≤ 18446744073709551615) : Own2 (ι := RG) Tryz.prog 156 [.pointer (some ⟨eb, 0, none⟩), .slice lA_ L.length lC_] w [Res.blk eb 112 (ECell rb cb lb bb ub mb xb pb gb tb c lA (lv.length) lc), RgB rb g, RgW g, Res.im (RG.m g)] (fun x => x.Rep ∧ x.l = L ∧ x.cp = g.cp) (fun x => .tuple #[]) (fun x => []) (fun x => [Res.blk eb 112 (ECell rb cb lb bb ub mb xb pb gb tb c lA (lv.length) lc), RgB rb x, RgW x, Res.im (RG.m x)]) := by
 refine g_st Tryz.func156 47 hw ?_
 have hLb : L.length ≤ 4096 := by have := hg.le; have := hg.cp; omega
 refine rn [1,49,2,0,14] ?_
 refine g_lk [0, 1, 10] (fun (x : Nat × RG) => [(11, .int .i64 ((x.1 : Nat) : Int))]) (fun (x : Nat × RG) => [Res.blk eb 112 (ECell rb cb lb bb ub mb xb pb gb tb c lA (lv.length) lc), RgB rb x.2, RgW x.2, Res.im (RG.m x.2)]) (fun (x : Nat × RG) => x.1 ≤ 2 ∧ RG.Rep x.2 ∧ RG.l x.2 = stW (RG.l g) L x.1 ∧ RG.cp x.2 = RG.cp g) (fun (x : Nat × RG) => 2 - x.1) (0, g) (by (try dsimp only); exact ⟨(by omega), hg, rfl, rfl⟩) ?_
 rintro ⟨j, g8⟩ ⟨le_j, hr8, hl8, hc8⟩
 replace le_j : j ≤ 2 := le_j
 replace hr8 : RG.Rep g8 := hr8
 replace hl8 : RG.l g8 = stW (RG.l g) L j := hl8
 replace hc8 : RG.cp g8 = RG.cp g := hc8
 refine zX (L' := [Res.blk eb 112 (ECell rb cb lb bb ub mb xb pb gb tb c lA (lv.length) lc), RgB rb g8, RgW g8, Res.im (RG.m g8)]) rfl ?_
 refine g_val 11 (v' := .int .i64 ((j : Nat) : Int)) rfl rfl ?_
 refine rn [1,46,0,8] ?_
 refine zC rfl (fun h1 => ?_) (fun h1 => ?_)
 ·have lt_j : j < 2 := by have h9 := of_decide_eq_true h1; omega
  refine rn [12,7,8,14,8] ?_
  rcases (show j = 0 ∨ j = 1 by omega) with rfl | rfl
  ·have hXY : (stW (RG.l g) L 0).length = (stW (RG.l g) L 1).length := (zip_len hL).symm
   have hX : ∀ x ∈ stW (RG.l g) L 0, VO x := hvo
   have hY : ∀ x ∈ stW (RG.l g) L 1, VO x := fun x hx => (zip_mem hx).elim (hvo x) (hvL x)
   have hXl : (stW (RG.l g) L 0).length = L.length := hL.symm
   have hSm : ∀ k, k ≤ L.length → (bals (stp (stW (RG.l g) L 0) (stW (RG.l g) L 1) k)).sum ≤ 18446744073709551615 := fun k hk => Int.le_trans (stp_dn hXY (fun i a b ha hb => by
     have hi := (List.getElem?_eq_some_iff.1 ha).1
     have hi : i < (RG.l g).length := hi
     rw [zip_at hL hi] at hb; injection hb with hb; rw [show (stW (RG.l g) L 0) = RG.l g from rfl, List.getElem?_eq_getElem hi] at ha; injection ha with ha; rw [← ha, ← hb]; exact (lo_le _ _).1) (by omega)) hg.mx
   refine rn [10] ?_
   refine s_q (q_idxval (i := 0) (v := .bool false) rfl rfl rfl (by decide) rfl) rfl ?_
   refine rn [3,0,1,2,47,2,0,14] ?_
   refine g_lk [0, 1, 5, 10, 11, 14, 15] (fun (x : Nat × RG) => [(16, .int .i64 ((x.1 : Nat) : Int))]) (fun (x : Nat × RG) => [Res.blk eb 112 (ECell rb cb lb bb ub mb xb pb gb tb c lA (lv.length) lc), RgB rb x.2, RgW x.2, Res.im (RG.m x.2)]) (fun (x : Nat × RG) => x.1 ≤ L.length ∧ RG.Rep x.2 ∧ RG.l x.2 = stp (stW (RG.l g) L 0) (stW (RG.l g) L 1) x.1 ∧ RG.cp x.2 = RG.cp g) (fun (x : Nat × RG) => L.length - x.1) (0, g8) (by (try dsimp only); exact ⟨Nat.zero_le _, hr8, (by rw [stp_zero]; exact hl8), hc8⟩) ?_
   rintro ⟨k, g9⟩ ⟨le_k, hr9, hl9, hc9⟩
   replace le_k : k ≤ L.length := le_k
   replace hr9 : RG.Rep g9 := hr9
   replace hl9 : RG.l g9 = stp (stW (RG.l g) L 0) (stW (RG.l g) L 1) k := hl9
   replace hc9 : RG.cp g9 = RG.cp g := hc9
   refine zX (L' := [Res.blk eb 112 (ECell rb cb lb bb ub mb xb pb gb tb c lA (lv.length) lc), RgB rb g9, RgW g9, Res.im (RG.m g9)]) rfl ?_
   refine g_val 16 (v' := .int .i64 ((k : Nat) : Int)) rfl rfl ?_
   refine rn [1,46,0,8] ?_
   refine zC rfl (fun h2 => ?_) (fun h2 => ?_)
   ·have lt_k : k < L.length := by have h9 := of_decide_eq_true h2; omega
    have lt_X : k < _ := hXl.symm ▸ lt_k
    have hgo : (gotV (RG.l g9) (k : Int)) = _ := (congrArg (fun z => gotV z (k : Int)) hl9).trans (stp_get hXY lt_X)
    refine rn [12,7,8,14,1,2] ?_
    refine s_q (zR (i := k) rfl rfl rfl hLr.rdb (by first | exact lt_k | omega)) rfl ?_
    refine s_q (zT (i := k) rfl hLr.rdb (zS (by first | exact (by first | exact lt_k | omega) | omega | (simp_all; done) | (simp_all; omega))) rfl) rfl ?_
    refine g_op (zI rfl fun b7 => ?_)
    refine rn [3,33,0,1,2,6,4,4,5,2] ?_
    refine g_op (zK _ rfl (fun w1 hw1 ho1 => by exact xS rb g9 (((k : Nat) : Int)) w1 ho1) rfl ?_)
    refine rn [2,40,40] ?_
    refine g_op (zI rfl fun b8 => ?_)
    refine rn [33,3,0,1,4,5,4,5,55,2] ?_
    refine s_q (q_eql_bool (by kernel_rfl) rfl rfl) rfl ?_
    refine rn [0] ?_
    refine zC rfl (fun h3 => ?_) (fun h3 => ?_)
    ·have hnl : ¬ (RG.l g)[k].bal < L[k].bal := by have h9 := h3; rw [hgo] at h9; simp at h9; exact Int.not_lt.2 h9
     have hst : (stW (RG.l g) L 1)[k]'(hXY ▸ lt_X) = L[k] := by rw [zip_get hL lt_X]; unfold loV; rw [if_neg hnl]
     have hchg := stp_chg hXY lt_X hst hX hY (hSm (k + 1) (by omega)) hl9
     refine dregL (L0 := [Res.blk eb 112 (ECell rb cb lb bb ub mb xb pb gb tb c lA (lv.length) lc), Res.blk b7 52 (V.c L[k])]) [] mixed rfl zB ?_
     refine rn [23,0,2,23,1,6,23,2,4] ?_
     refine dq 3 rfl (yS (c' := [Value.pointer (some ⟨rb, 0, none⟩)]) rfl rfl rfl) ?_
     refine rn [23,4,2,23,5,45] ?_
     refine dop 6 rfl (zH _ rfl (fun w1 hw1 ho1 => by have h7 := xB rb g9 (((k : Nat) : Int)) (L[k]) w1 ho1 hr9 hchg.1 hchg.2; exact h7) rfl ?_)
     rintro g44 ⟨r44, l44, c44⟩
     refine ii ?_
     refine rn [27,15,7,10,43,2,9] ?_
     exact g_ag ((k + 1), g44) (by (try dsimp only); exact ⟨(by first | exact lt_k | omega), r44, (by rw [l44, hl9]; exact stp_set hXY lt_X hst), (by rw [c44]; exact hc9)⟩)
    ·have hnl : (RG.l g)[k].bal < L[k].bal := by have h9 := h3; rw [hgo] at h9; simp at h9; exact h9
     have hkp : (stW (RG.l g) L 1)[k]'(hXY ▸ lt_X) = (stW (RG.l g) L 0)[k] := by rw [zip_get hL lt_X]; unfold loV; rw [if_pos hnl]; rfl
     refine rn [12,15,7,10,43,2,9] ?_
     exact g_ag ((k + 1), g9) (by (try dsimp only); exact ⟨(by first | exact lt_k | omega), hr9, (by rw [stp_keep hXY lt_X hkp]; exact hl9), hc9⟩)
   ·have eq_k : k = L.length := by have h9 := of_decide_eq_false h2; omega
    refine rn [16] ?_
    refine zE (zE (zQ ?_))
    refine rn [15,7,10,43,2,9] ?_
    exact g_ag ((0 + 1), g9) (by (try dsimp only); exact ⟨(by omega), hr9, (by rw [hl9, eq_k, show L.length = (stW (RG.l g) L (0 + 1)).length from hXl.symm.trans hXY]; exact stp_all hXY), hc9⟩)
  ·have hXY : (stW (RG.l g) L 1).length = (stW (RG.l g) L 2).length := (zip_len hL).trans hL.symm
   have hX : ∀ x ∈ stW (RG.l g) L 1, VO x := fun x hx => (zip_mem hx).elim (hvo x) (hvL x)
   have hY : ∀ x ∈ stW (RG.l g) L 2, VO x := hvL
   have hXl : (stW (RG.l g) L 1).length = L.length := hXY
   have hSm : ∀ k, k ≤ L.length → (bals (stp (stW (RG.l g) L 1) (stW (RG.l g) L 2) k)).sum ≤ 18446744073709551615 := fun k hk => Int.le_trans (stp_up hXY (fun i a b ha hb => by
     have hi : i < L.length := (List.getElem?_eq_some_iff.1 hb).1
     rw [zip_at hL (by omega)] at ha; injection ha with ha; rw [show (stW (RG.l g) L 2) = L from rfl, List.getElem?_eq_getElem hi] at hb; injection hb with hb; rw [← ha, ← hb]; exact (lo_le _ _).2) (by omega)) hsL
   refine rn [10] ?_
   refine s_q (q_idxval (i := 1) (v := .bool true) rfl rfl rfl (by decide) rfl) rfl ?_
   refine rn [3,0,1,2,47,2,0,14] ?_
   refine g_lk [0, 1, 5, 10, 11, 14, 15] (fun (x : Nat × RG) => [(16, .int .i64 ((x.1 : Nat) : Int))]) (fun (x : Nat × RG) => [Res.blk eb 112 (ECell rb cb lb bb ub mb xb pb gb tb c lA (lv.length) lc), RgB rb x.2, RgW x.2, Res.im (RG.m x.2)]) (fun (x : Nat × RG) => x.1 ≤ L.length ∧ RG.Rep x.2 ∧ RG.l x.2 = stp (stW (RG.l g) L 1) (stW (RG.l g) L 2) x.1 ∧ RG.cp x.2 = RG.cp g) (fun (x : Nat × RG) => L.length - x.1) (0, g8) (by (try dsimp only); exact ⟨Nat.zero_le _, hr8, (by rw [stp_zero]; exact hl8), hc8⟩) ?_
   rintro ⟨k, g9⟩ ⟨le_k, hr9, hl9, hc9⟩
   replace le_k : k ≤ L.length := le_k
   replace hr9 : RG.Rep g9 := hr9
   replace hl9 : RG.l g9 = stp (stW (RG.l g) L 1) (stW (RG.l g) L 2) k := hl9
   replace hc9 : RG.cp g9 = RG.cp g := hc9
   refine zX (L' := [Res.blk eb 112 (ECell rb cb lb bb ub mb xb pb gb tb c lA (lv.length) lc), RgB rb g9, RgW g9, Res.im (RG.m g9)]) rfl ?_
   refine g_val 16 (v' := .int .i64 ((k : Nat) : Int)) rfl rfl ?_
   refine rn [1,46,0,8] ?_
   refine zC rfl (fun h4 => ?_) (fun h4 => ?_)
   ·have lt_k : k < L.length := by have h9 := of_decide_eq_true h4; omega
    have lt_X : k < _ := hXl.symm ▸ lt_k
    have hgo : (gotV (RG.l g9) (k : Int)) = _ := (congrArg (fun z => gotV z (k : Int)) hl9).trans (stp_get hXY lt_X)
    refine rn [12,7,8,14,1,2] ?_
    refine s_q (zR (i := k) rfl rfl rfl hLr.rdb (by first | exact lt_k | omega)) rfl ?_
    refine s_q (zT (i := k) rfl hLr.rdb (zS (by first | exact (by first | exact lt_k | omega) | omega | (simp_all; done) | (simp_all; omega))) rfl) rfl ?_
    refine g_op (zI rfl fun b7 => ?_)
    refine rn [3,33,0,1,2,6,4,4,5,2] ?_
    refine g_op (zK _ rfl (fun w1 hw1 ho1 => by exact xS rb g9 (((k : Nat) : Int)) w1 ho1) rfl ?_)
    refine rn [2,40,40] ?_
    refine g_op (zI rfl fun b8 => ?_)
    refine rn [33,3,0,1,4,5,4,5,55,2] ?_
    refine s_q (q_eql_bool (by kernel_rfl) rfl rfl) rfl ?_
    refine rn [0] ?_
    refine zC rfl (fun h5 => ?_) (fun h5 => ?_)
    ·have hst : (stW (RG.l g) L 2)[k]'(hXY ▸ lt_X) = L[k] := rfl
     have hchg := stp_chg hXY lt_X hst hX hY (hSm (k + 1) (by omega)) hl9
     refine dregL (L0 := [Res.blk eb 112 (ECell rb cb lb bb ub mb xb pb gb tb c lA (lv.length) lc), Res.blk b7 52 (V.c L[k])]) [] mixed rfl zB ?_
     refine rn [23,0,2,23,1,6,23,2,4] ?_
     refine dq 3 rfl (yS (c' := [Value.pointer (some ⟨rb, 0, none⟩)]) rfl rfl rfl) ?_
     refine rn [23,4,2,23,5,45] ?_
     refine dop 6 rfl (zH _ rfl (fun w1 hw1 ho1 => by have h7 := xB rb g9 (((k : Nat) : Int)) (L[k]) w1 ho1 hr9 hchg.1 hchg.2; exact h7) rfl ?_)
     rintro g44 ⟨r44, l44, c44⟩
     refine ii ?_
     refine rn [27,15,7,10,43,2,9] ?_
     exact g_ag ((k + 1), g44) (by (try dsimp only); exact ⟨(by first | exact lt_k | omega), r44, (by rw [l44, hl9]; exact stp_set hXY lt_X hst), (by rw [c44]; exact hc9)⟩)
    ·have hnl : ¬ ((stW (RG.l g) L 1)[k]).bal < L[k].bal := by have h9 := h5; rw [hgo] at h9; simpa using h9
     have hkp : (stW (RG.l g) L 2)[k]'(hXY ▸ lt_X) = (stW (RG.l g) L 1)[k] := by
       have hkl : k < (RG.l g).length := by omega
       rw [zip_get hL hkl] at hnl ⊢; unfold loV at hnl ⊢; by_cases hc : (RG.l g)[k].bal < L[k].bal
       · rw [if_pos hc] at hnl; exact absurd hc hnl
       · rw [if_neg hc]; rfl
     refine rn [12,15,7,10,43,2,9] ?_
     exact g_ag ((k + 1), g9) (by (try dsimp only); exact ⟨(by first | exact lt_k | omega), hr9, (by rw [stp_keep hXY lt_X hkp]; exact hl9), hc9⟩)
   ·have eq_k : k = L.length := by have h9 := of_decide_eq_false h4; omega
    refine rn [16] ?_
    refine zE (zE (zQ ?_))
    refine rn [15,7,10,43,2,9] ?_
    exact g_ag ((1 + 1), g9) (by (try dsimp only); exact ⟨(by omega), hr9, (by rw [hl9, eq_k, show L.length = (stW (RG.l g) L (1 + 1)).length from hXl.symm.trans hXY]; exact stp_all hXY), hc9⟩)
 ·have eq_j : j = 2 := by have h9 := of_decide_eq_false h1; omega
  refine rn [16] ?_
  refine zE (zE (zQ ?_))
  exact fin0 rfl (fun w' hw' => ⟨g8, (by exact ⟨hr8, by rw [hl8, eq_j]; rfl, hc8⟩), rfl, zA w' hw'⟩) _ (.inr rfl)
end Go.Proofs.YtdddiilocbbkkaaGreat
