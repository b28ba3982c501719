/- TopForced: for every configuration and all operations the law returns true. No condition. Part 22 of 42. -/
import Derived.Test.YtdddiilocbbkkaaGreatTF20
set_option linter.unusedVariables false
set_option linter.unusedSimpArgs false
namespace Go.Proofs.YtdddiilocbbkkaaGreat
open Go.RowKit Go.Eg
set_option maxHeartbeats 4000000
set_option synthInstance.maxSize 3000
set_option maxRecDepth 100000
theorem radd_reg (rb : Nat) (g : RG) (v : V) (w : World) (hw : W0 [RgB rb g, RgW g, Res.im (RG.m g)] w) (hg : g.Rep) (hv : v.ok) (hlt : g.l.length < g.cp) (hb : (g.l.map V.bal).sum + v.bal ≤ 18446744073709551615) : Own2 (ι := RG) Tryz.prog 106 [.pointer (some ⟨rb, 0, none⟩), .agg v.c.toArray] w [RgB rb g, RgW g, Res.im (RG.m g)] (fun x => x.Rep ∧ x.l = g.l ++ [v] ∧ x.cp = g.cp) (fun x => .tuple [.int .i64 (((RG.l g).length : Nat) : Int), .int .i64 0].toArray) (fun x => []) (fun x => [RgB rb x, RgW x, Res.im (RG.m x)]) := by
 refine g_startM Tryz.func106 rfl 51 rfl (by simp) (fps [RgB rb g, RgW g, Res.im (RG.m g)]) [RgB rb g, RgW g, Res.im (RG.m g)] hw _ rfl ?_
 have hcp := hg.cp
 have hvb := hv.bal
 have ht0 : 0 ≤ RG.t g := by rw [hg.t]; exact xK fun x hx => by obtain ⟨y, hy, rfl⟩ := List.mem_map.1 hx; exact (hg.ok y hy).bal.1
 refine rn [1] ?_
 refine g_op (g_box rfl rfl rfl fun b3 => ?_)
 refine rn [3,3,0,8,1,2,50,0,20,12,7,8,8] ?_
 refine dreg [] mixed rfl ?_
 refine rn [23,0,2,23,1,6,23,2,4,23,3,5,23,4,47,23,5,2,23,6,6,23,7,4,23,8,5,23,9,44] ?_
 refine yD 19 (b := false) rfl (by simp; omega) ?_
 refine rn [27,7,20,12,7,8,8] ?_
 refine dreg [] mixed rfl ?_
 refine rn [23,0,2,23,1,6,23,2,4,23,3,5,23,4,4,23,5,5] ?_
 refine dop 6 rfl (g_lit rfl rfl rfl rfl rfl fun b27 => ?_)
 refine zJ (b := b27) ((([(RG.t g), v.bal] : List Int).map (fun v : Int => [Value.int .u64 v])).flatten) rfl ?_
 refine dop 7 rfl (zG rfl (fun w1 hw1 => add_any (some ⟨b27, 0, none⟩) (2) (2) (([(RG.t g), v.bal] : List Int)) w1 (Rdb.toOld (InL.rdb (b := b27) (els := (([(RG.t g), v.bal] : List Int)).map (fun v : Int => [Value.int .u64 v])) rfl (by simp) rfl) hw1) (by intro x hx; simp at hx; have := hg.t; have := hg.mx; rcases hx with rfl | rfl <;> omega) (by first | omega | (simp; omega) | (simp; done))) rfl ?_)
 refine rn [23,8,2,23,9,40,23,10,40,23,11,3,23,12,3,27,7,1,2,48,0] ?_
 refine zC rfl (fun h1 => ?_) (fun h1 => ?_)
 ·exfalso; have h9 := h1; have h8 : addB [RG.t g, v.bal] = true := (add_fits (by have h7 := hg.t; simp; omega)).1; rw [h8] at h9; simp at h9
 ·refine rn [12,7,1,2,45] ?_
  refine g_op (g_defer (fst := []) (cap := []) rfl rfl ?_)
  refine rn [0,8] ?_
  refine dregL (L0 := [Res.blk rb 167 [Value.int .i64 ((RG.cp g : Nat) : Int), .slice (RG.A g) (RG.l g).length (RG.k g), .int .u64 (RG.a g), .int .u64 (RG.t g), .map (some (RG.m g))], Res.blk b3 52 v.c]) [10] mixed rfl zB ?_
  refine rn [23,0,2,23,1,2,23,2,6,23,3,4,23,4,5,23,5,45] ?_
  refine dop 6 rfl (g_lit rfl rfl rfl rfl rfl fun b41 => ?_)
  refine zJ (b := b41) ((([v] : List V).map V.c).flatten) rfl ?_
  refine dop 7 rfl (zY (A := (RG.A g)) (els := ((RG.l g)).map V.c) (news := (([v] : List V).map V.c)) rfl rfl (InL.rdb (b := b41) rfl (by simp [V.c]) rfl) (yG (c := V.c) (by intro x; simp [V.c, Value.oneCell']) _) (by have := hg.cp; omega) rfl fun A42 cap42 => ⟨_, inferInstance, ?_⟩)
  refine zF (A := A42) ((((RG.l g) ++ [v])).map V.c) (by first | rfl | exact List.map_append.symm | (simp; done)) ?_
  refine yC (A := A42) (g.l ++ [v]).length (by simp) ?_
  refine g_val 42 (v' := .slice A42 (g.l ++ [v]).length cap42) rfl (by simp) ?_
  refine rn [24,8,6,23,9,4] ?_
  refine dop 10 rfl (zP rfl rfl rfl rfl rfl rfl rfl ?_)
  refine zJ (b := rb) [Value.int .i64 ((RG.cp g : Nat) : Int), .slice A42 (g.l ++ [v]).length cap42, .int .u64 (RG.a g), .int .u64 (RG.t g), .map (some (RG.m g))] (by simp [splice]) ?_
  refine rn [28,7,1,2,6,4,5,47] ?_
  refine s_q (yY (z := (((RG.l g).length : Nat) : Int)) rfl rfl (by simp; rw [wi64 (by omega) (by omega)])) rfl ?_
  refine rn [3,3,0,11] ?_
  refine finD [RgB rb (RG.mk g.cp A42 cap42 (g.l ++ [v]) g.a g.t g.m), RgW (RG.mk g.cp A42 cap42 (g.l ++ [v]) g.a g.t g.m), Res.im (RG.m (RG.mk g.cp A42 cap42 (g.l ++ [v]) g.a g.t g.m))] (fun w1 hw1 ho1 => by have h7 := countD_any rb (RG.mk g.cp A42 cap42 (g.l ++ [v]) g.a g.t g.m) v true w1 ho1 hv; exact h7) ?_ _ (.inl rfl)
  rintro ⟨⟩ _
  refine ⟨_, _, inferInstance, inferInstance, ?_⟩
  exact finM2 rfl (.tmp rfl) (.tmp rfl) (fun w' hw' => ⟨(RG.cnt (RG.mk g.cp A42 cap42 (g.l ++ [v]) g.a g.t g.m) (sgn v true) v), ⟨RG.add_rep hg hlt hv hb, rfl, rfl⟩, rfl, by have h9 := zB (L' := [RgB rb (RG.cnt (RG.mk g.cp A42 cap42 (g.l ++ [v]) g.a g.t g.m) (sgn v true) v), RgW (RG.cnt (RG.mk g.cp A42 cap42 (g.l ++ [v]) g.a g.t g.m) (sgn v true) v), Res.im (RG.m (RG.cnt (RG.mk g.cp A42 cap42 (g.l ++ [v]) g.a g.t g.m) (sgn v true) v))]) w' hw'; exact h9⟩)
theorem xB (rb : Nat) (g : RG) (i : Int) (v : V) (w : World) (hw : W0 [RgB rb g, RgW g, Res.im (RG.m g)] w) (hg : g.Rep) (hv : v.ok) (hb : ∀ n : Nat, i = n → (h : n < g.l.length) → (g.l.map V.bal).sum - (g.l[n]).bal + v.bal ≤ 18446744073709551615) : Own2 (ι := RG) Tryz.prog 113 [.agg #[.pointer (some ⟨rb, 0, none⟩)], .int .i64 i, .agg v.c.toArray] w [RgB rb g, RgW g, Res.im (RG.m g)] (fun x => x.Rep ∧ x.l = setV g.l i v ∧ x.cp = g.cp) (fun x => .tuple #[]) (fun x => []) (fun x => [RgB rb x, RgW x, Res.im (RG.m x)]) := by
 refine g_st Tryz.func113 11 hw ?_
 refine rn [1] ?_
 refine g_op (g_box (c := [Value.pointer (some ⟨rb, 0, none⟩)]) rfl rfl rfl fun b3 => ?_)
 refine g_op (g_box rfl rfl rfl fun b5 => ?_)
 refine rn [0,10,4,5,2,45] ?_
 refine g_op (zH _ rfl (fun w1 hw1 ho1 => by have h7 := rset_any rb g (i) (v) w1 ho1 hg hv hb; exact h7) rfl ?_)
 rintro g10 ⟨r10, l10, c10⟩
 refine ii ?_
 refine rn [9] ?_
 exact fin0 rfl (fun w' hw' => ⟨g10, (by exact ⟨r10, by rw [l10]; rfl, c10⟩), rfl, zA w' hw'⟩) _ (.inr rfl)
theorem ok_st {v : V} {z : Int} (h : v.ok) (hz : 0 ≤ z ∧ z ≤ 7) : ({ v with st := z } : V).ok := ⟨h.bal, by simp only; omega, h.rq, h.ex, h.wd, h.dl⟩
theorem sum_same {l : List V} {n : Nat} (h : n < l.length) (hm : (l.map V.bal).sum ≤ 18446744073709551615) {v : V} (hv : v.bal = (l[n]).bal) : (l.map V.bal).sum - (l[n]).bal + v.bal ≤ 18446744073709551615 := by rw [hv]; omega
theorem event_tab (rb : Nat) (g : RG) (i : Int) (e : Nat) (w : World) (hw : W0 [RgB rb g, RgW g, Res.im (RG.m g)] w) (hg : g.Rep) (he : e < 8) (hst : ∀ v ∈ RG.l g, 0 ≤ v.st ∧ v.st ≤ 7) : Own2 (ι := RG) Tryz.prog 148 [.agg #[.pointer (some ⟨rb, 0, none⟩)], .int .i64 i, .int .i64 (e : Int)] w [RgB rb g, RgW g, Res.im (RG.m g)] (fun x => x.Rep ∧ x.l = evV g.l i (e : Int) ∧ x.cp = g.cp) (fun x => .bool (hasV g.l i && decide ((nxt (gotV g.l i).st (e : Int)) ≠ 0))) (fun x => []) (fun x => [RgB rb x, RgW x, Res.im (RG.m x)]) := by
 refine g_st Tryz.func148 37 hw ?_
 refine rn [1] ?_
 refine g_op (g_box (c := [Value.pointer (some ⟨rb, 0, none⟩)]) rfl rfl rfl fun b3 => ?_)
 refine rn [3,0,1,4,5,2] ?_
 refine g_op (zK _ rfl (fun w1 hw1 ho1 => by exact xS rb g (i) w1 ho1) rfl ?_)
 refine rn [2,40,40] ?_
 refine g_op (zI rfl fun b7 => ?_)
 refine rn [33,3,0,1] ?_
 have hst1 : 0 ≤ (gotV g.l i).st ∧ (gotV g.l i).st ≤ 7 := by
   rcases Bool.eq_false_or_eq_true (hasV g.l i) with h | h
   · exact hst _ (by have h9 := of_decide_eq_true h; obtain ⟨q, rfl⟩ : ∃ q : Nat, i = q := ⟨i.toNat, by omega⟩; rw [yT (by omega)]; exact List.getElem_mem _)
   · rw [got_out h]; decide
 refine rn [4,5,2] ?_
 refine g_op (zG rfl (fun w1 hw1 => by have h7 := next_any ((gotV g.l i).st).toNat ((e : Int)).toNat w1 (by omega) (by omega); rw [Int.toNat_of_nonneg (show 0 ≤ (gotV g.l i).st by omega), Int.toNat_of_nonneg (show 0 ≤ (e : Int) by omega)] at h7; exact h7) rfl ?_)
 refine rn [2,40,40,3,3,0,8,1,2,48,2] ?_
 refine zV 27 rfl (fun h1 => ?_) (fun h1 => ?_)
 ·have hh : hasV g.l i = false := by simpa using h1
  refine rn [21,21,41,0,19,1,3,0,11,13] ?_
  exact fin1 rfl (.tmp rfl) (fun w' hw' => ⟨g, (by (try dsimp only); exact ⟨hg, by unfold evV; rw [if_neg (by first | (rw [hh]; simp; done) | (rw [hn]; simp; done) | simp_all)], rfl⟩), by first | (rw [hh]; rfl) | (rw [hn]; simp), zA w' hw'⟩) _ (.inl rfl)
 ·have hh : hasV g.l i = true := by simpa using h1
  refine rn [22,2,22,48,42,0] ?_
  refine zC rfl (fun h2 => ?_) (fun h2 => ?_)
  ·have hn : (nxt (gotV g.l i).st (e : Int)) = 0 := by simpa using h2
   refine rn [1,3,0,11,13] ?_
   exact fin1 rfl (.tmp rfl) (fun w' hw' => ⟨g, (by (try dsimp only); exact ⟨hg, by unfold evV; rw [if_neg (by first | (rw [hh]; simp; done) | (rw [hn]; simp; done) | simp_all)], rfl⟩), by first | (rw [hh]; rfl) | (rw [hn]; simp), zA w' hw'⟩) _ (.inl rfl)
  ·have hn : ¬ (nxt (gotV g.l i).st (e : Int)) = 0 := by simpa using h2
   refine rn [12,7,1,2,4] ?_
   refine g_op (zP rfl rfl rfl rfl rfl rfl rfl ?_)
   refine zJ (b := b7) (V.c { gotV g.l i with st := nxt (gotV g.l i).st (e : Int) }) (by simp [splice, V.c]) ?_
   obtain ⟨q9, hqi⟩ : ∃ q : Nat, i = q := ⟨i.toNat, by have h9 := of_decide_eq_true hh; omega⟩
   have hq9 : q9 < g.l.length := by have h9 := of_decide_eq_true hh; omega
   have hgo : gotV g.l i = g.l[q9] := by rw [hqi]; exact yT hq9
   refine rn [0,1,45,2,45] ?_
   refine g_op (zH _ rfl (fun w1 hw1 ho1 => by have h7 := xB rb g (i) ({ gotV g.l i with st := nxt (gotV g.l i).st (e : Int) }) w1 ho1 hg (by rw [hgo]; exact ok_st (hg.ok _ (List.getElem_mem hq9)) (nxt_rng _ _)) (fun n hn2 h => sum_same h hg.mx (by obtain rfl : q9 = n := (by omega); simp only [hgo])); exact h7) rfl ?_)
   rintro g36 ⟨r36, l36, c36⟩
   refine ii ?_
   refine rn [0,1,3,0,11] ?_
   exact fin1 rfl (.tmp rfl) (fun w' hw' => ⟨g36, (by exact ⟨r36, by rw [l36]; unfold evV setV; rw [if_pos hh, if_pos ⟨hh, hn⟩], c36⟩), by rw [hh, decide_eq_true hn]; rfl, zA w' hw'⟩) _ (.inl rfl)
theorem balances_tab (rb : Nat) (g : RG) (w : World) (hw : W0 [RgB rb g, RgW g, Res.im (RG.m g)] w) (hg : g.Rep) : Own2 (ι := (Option Addr × Nat)) Tryz.prog 153 [.agg #[.pointer (some ⟨rb, 0, none⟩)]] w [RgB rb g, RgW g, Res.im (RG.m g)] (fun x => True) (fun x => .slice x.1 ((RG.l g).map V.bal).length x.2) (fun x => [Res.row x.1 ((RG.l g).map V.bal).length x.2 22 1 (((RG.l g).map V.bal).map (fun v : Int => [Value.int .u64 v]))]) (fun x => [RgB rb g, RgW g, Res.im (RG.m g)]) := by
 refine g_st Tryz.func153 21 hw ?_
 have q1 := hg.le; have q2 := hg.cp
 refine rn [1] ?_
 refine g_op (g_box (c := [Value.pointer (some ⟨rb, 0, none⟩)]) rfl rfl rfl fun b1 => ?_)
 refine rn [3,0,1,3] ?_
 refine xM 3 22 1 rfl fun Az1 capz1 hcz1 => ?_
 refine zF (A := Az1) (([] : List Int).map (fun v : Int => [Value.int .u64 v])) rfl ?_
 refine rn [0,8,1,4,5] ?_
 refine g_op (zH _ rfl (fun w1 hw1 ho1 => by have h7 := rall_any rb g w1 ho1 hg; exact h7) rfl ?_)
 rintro ⟨A8, cap8⟩ _
 refine ii ?_
 refine rn [47,2,0,14] ?_
 refine zF (A := Az1) ((((RG.l g).map V.bal).take 0).map (fun v : Int => [Value.int .u64 v])) (by simp) ?_
 refine g_lk [2, 8, 9] (fun (x : Nat × Option Addr × Nat) => [(3, .slice x.2.1 x.1 x.2.2), (10, .int .i64 ((x.1 : Nat) : Int))]) (fun (x : Nat × Option Addr × Nat) => [Res.row x.2.1 x.1 x.2.2 22 1 ((((RG.l g).map V.bal).take x.1).map (fun v : Int => [Value.int .u64 v])), Res.row A8 (RG.l g).length cap8 52 7 ((RG.l g).map V.c), RgB rb g, RgW g, Res.im (RG.m g)]) (fun (x : Nat × Option Addr × Nat) => x.1 ≤ (RG.l g).length) (fun (x : Nat × Option Addr × Nat) => (RG.l g).length - x.1) (0, Az1, capz1) (by (try dsimp only); exact Nat.zero_le _) ?_
 rintro ⟨k, A1, cap1⟩ le_k
 replace le_k : k ≤ (RG.l g).length := le_k
 refine zX (L' := [Res.row A1 k cap1 22 1 ((((RG.l g).map V.bal).take k).map (fun v : Int => [Value.int .u64 v])), Res.row A8 (RG.l g).length cap8 52 7 ((RG.l g).map V.c), RgB rb g, RgW g, Res.im (RG.m g)]) rfl ?_
 refine g_val 3 (v' := .slice A1 k cap1) rfl rfl ?_
 refine g_val 10 (v' := .int .i64 ((k : Nat) : Int)) rfl rfl ?_
 refine rn [1,46,0,8] ?_
 refine zC rfl (fun h1 => ?_) (fun h1 => ?_)
 ·have lt_k : k < (RG.l g).length := by have h9 := of_decide_eq_true h1; omega
  refine rn [12,7,8,14,1] ?_
  refine s_q (zR (i := k) rfl rfl rfl (InRow.rdb (A := A8) (els := ((RG.l g)).map V.c) (by first | rfl | assumption | (simp; done) | (simp_all; done) | (simp; omega) | (simp_all; omega)) (zM (c := V.c) (fun _ => rfl) _)) (by first | exact lt_k | omega)) rfl ?_
  refine s_q (zT (i := k) rfl (InRow.rdb (A := A8) (els := ((RG.l g)).map V.c) (by first | rfl | assumption | (simp; done) | (simp_all; done) | (simp; omega) | (simp_all; omega)) (zM (c := V.c) (fun _ => rfl) _)) (zS (by first | assumption | omega | (simp_all; done) | (simp_all; omega))) rfl) rfl ?_
  refine g_op (zI rfl fun b5 => ?_)
  refine rn [33,0,10,2,4,5] ?_
  refine g_op (g_lit rfl rfl rfl rfl rfl fun b17 => ?_)
  refine zJ (b := b17) ((([(RG.l g)[k].bal] : List Int).map (fun v : Int => [Value.int .u64 v])).flatten) rfl ?_
  refine g_op (zY (A := A1) (els := ((((RG.l g).map V.bal).take k)).map (fun v : Int => [Value.int .u64 v])) (news := (([(RG.l g)[k].bal] : List Int).map (fun v : Int => [Value.int .u64 v]))) rfl rfl (InL.rdb (b := b17) rfl (by simp) rfl) (yG (c := (fun v : Int => [Value.int .u64 v])) (by intro x; simp [Value.oneCell']) _) (by omega) rfl fun A18 cap18 => ⟨_, inferInstance, ?_⟩)
  refine zF (A := A18) ((((((RG.l g).map V.bal).take k) ++ [(RG.l g)[k].bal])).map (fun v : Int => [Value.int .u64 v])) (by first | rfl | exact List.map_append.symm | (simp; done)) ?_
  refine zF (A := A18) ((((RG.l g).map V.bal).take (k + 1)).map (fun v : Int => [Value.int .u64 v])) (by rw [← List.take_append_getElem (show k < ((RG.l g).map V.bal).length by simpa using lt_k)]; simp) ?_
  refine rn [3,9,15,7,10,43,2,9] ?_
  exact g_ag ((k + 1), A18, cap18) (by (try dsimp only); exact (by first | exact lt_k | omega))
 ·have eq_k : k = (RG.l g).length := by have h9 := of_decide_eq_false h1; omega
  subst eq_k
  refine rn [16] ?_
  refine zE (zE (zQ ?_))
  refine rn [7,1,2,3,0,11] ?_
  refine zF (A := A1) (((RG.l g).map V.bal).map (fun v : Int => [Value.int .u64 v])) (by rw [List.take_of_length_le (by simp)]) ?_
  refine yC (A := A1) ((RG.l g).map V.bal).length (by simp) ?_
  exact fin1 rfl (.tmp rfl) (fun w' hw' => ⟨(A1, cap1), (by exact trivial), by simp, zA w' hw'⟩) _ (.inl rfl)
theorem pcheck_any (A : Option Addr) (n cap : Nat) (l : List V) (r : Rq) (w : World) (hl : Old w A n 7 (l.map V.c)) (hb : n ≤ 1000000) : Pur Tryz.prog 119 [.slice A n cap, .agg r.c.toArray] w (.int .i64 (prtC l r.i r.m)) := by
 refine g_st Tryz.func119 30 (WOK.start [] _) ?_
 have hn : n = l.length := by simpa using hl.len
 refine rn [1] ?_
 refine g_op (g_box (c := Rq.c r) rfl rfl rfl fun b3 => ?_)
 refine rn [3,0,8,14,1,4,5,46,2] ?_
 refine zV 9 rfl (fun h1 => ?_) (fun h1 => ?_)
 ·have hh : hasV l r.i = false := decide_eq_false (by have h9 := of_decide_eq_true h1; omega)
  refine rn [21,21,21,21,21,41,3,0,19,1,3,0,11] ?_
  refine zN (zD ?_)
  exact fin1 rfl (.tmp rfl) (fun w' hw' => ⟨by unfold prtC; first | (rw [if_pos hh]; done) | (rw [if_neg (by rw [hh]; simp), if_pos h0]; done) | (rw [if_neg (by rw [hh]; simp), if_neg h0, hni, yT hil]; simp_all), hw'.upd⟩) _ (.inl rfl)
 ·refine rn [22,4,22,5,22,2,22,47,22,53,42,3,0] ?_
  refine zC rfl (fun h2 => ?_) (fun h2 => ?_)
  ·have hh : hasV l r.i = false := decide_eq_false (by have h9 := of_decide_eq_true h2; omega)
   refine rn [1,3,0,11] ?_
   refine zN (zD ?_)
   exact fin1 rfl (.tmp rfl) (fun w' hw' => ⟨by unfold prtC; first | (rw [if_pos hh]; done) | (rw [if_neg (by rw [hh]; simp), if_pos h0]; done) | (rw [if_neg (by rw [hh]; simp), if_neg h0, hni, yT hil]; simp_all), hw'.upd⟩) _ (.inl rfl)
  ·have hh : hasV l r.i = true := decide_eq_true (by have h8 := of_decide_eq_false h1; have h9 := of_decide_eq_false h2; omega)
   obtain ⟨ni, hni⟩ : ∃ q : Nat, r.i = q := ⟨r.i.toNat, by have h9 := of_decide_eq_true hh; omega⟩
   have hil : ni < l.length := by have h9 := of_decide_eq_true hh; omega
   refine rn [1,45,4,5,49] ?_
   refine s_q (q_eqs rfl rfl rfl) rfl ?_
   refine rn [3,0] ?_
   refine zC rfl (fun h3 => ?_) (fun h3 => ?_)
   ·have h0 : r.m = 0 := by simpa using h3
    refine rn [1,3,0,11] ?_
    refine zN (zD ?_)
    exact fin1 rfl (.tmp rfl) (fun w' hw' => ⟨by unfold prtC; first | (rw [if_pos hh]; done) | (rw [if_neg (by rw [hh]; simp), if_pos h0]; done) | (rw [if_neg (by rw [hh]; simp), if_neg h0, hni, yT hil]; simp_all), hw'.upd⟩) _ (.inl rfl)
   ·have h0 : ¬ r.m = 0 := by simpa using h3
    refine rn [1,2,4,5] ?_
    refine s_q (zR (i := ni) rfl rfl hni (hl.rdb rfl) (by omega)) rfl ?_
    refine rn [4] ?_
    refine s_q (yL (i := ni) (o := 1) rfl (hl.rdb rfl) (zS hil) rfl rfl) rfl ?_
    refine rn [51,3,0] ?_
    refine zC rfl (fun h4 => ?_) (fun h4 => ?_)
    ·refine rn [1,3,0,11] ?_
     refine zN (zD ?_)
     exact fin1 rfl (.tmp rfl) (fun w' hw' => ⟨by unfold prtC; first | (rw [if_pos hh]; done) | (rw [if_neg (by rw [hh]; simp), if_pos h0]; done) | (rw [if_neg (by rw [hh]; simp), if_neg h0, hni, yT hil]; simp_all), hw'.upd⟩) _ (.inl rfl)
    ·refine rn [12,15,7,1,3,0,11] ?_
     exact fin1 rfl (.tmp rfl) (fun w' hw' => ⟨by unfold prtC; first | (rw [if_pos hh]; done) | (rw [if_neg (by rw [hh]; simp), if_pos h0]; done) | (rw [if_neg (by rw [hh]; simp), if_neg h0, hni, yT hil]; simp_all), hw'.upd⟩) _ (.inl rfl)
end Go.Proofs.YtdddiilocbbkkaaGreat
