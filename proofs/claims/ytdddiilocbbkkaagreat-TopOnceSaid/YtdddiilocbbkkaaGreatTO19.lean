/- TopOnce: for every configuration and all operations the law returns true. No condition. Part 19 of 27. -/
import Derived.Test.YtdddiilocbbkkaaGreatTO18
set_option linter.unusedVariables false
set_option linter.unusedSimpArgs false
namespace Go.Proofs.YtdddiilocbbkkaaGreat
open Go.RowKit Go.Eg
set_option maxHeartbeats 4000000
set_option synthInstance.maxSize 3000
set_option maxRecDepth 100000
def asgK (c : C) (s : List V × List En × List Int) (ag : List As) (k : Nat) : List V × List En × List Int := (ag.take k).foldl (asgS c) s
theorem asgK_end (c : C) (s : List V × List En × List Int) (ag : List As) : asgK c s ag ag.length = ag.foldl (asgS c) s := by unfold asgK; rw [List.take_length]
theorem asgK_succ {c : C} {s : List V × List En × List Int} {ag : List As} {k : Nat} (h : k < ag.length) : asgK c s ag (k + 1) = asgS c (asgK c s ag k) ag[k] := wE _ _ h
theorem ag_facts {e : Int} {l : List V} {q : LL} {bo : List En} (h : Mid e (e + 1) l q bo) (W : List Int) (lim : Int) (m : M) :
  (∀ a ∈ (stepM W e lim q m).1, a.e = e + 1 ∧ (gotV l a.i).st = 3 ∧ (gotV l a.i).ex = -1) ∧ ((stepM W e lim q m).1.map As.i).Nodup := by
 obtain ⟨a, b, h1, h2, h3, h4, h5⟩ := wW W e lim q m
 generalize (stepM W e lim q m).1 = ag at h1 ⊢
 have hI : ag.map As.i = q.f.take a ++ q.v.take b := by rw [h1, List.map_append, mapI, mapI]
 obtain ⟨n1, n2, n3, n4⟩ := rR a b h.lnd
 refine ⟨fun x hx => ⟨?_, ?_⟩, hI ▸ n1⟩
 ·rw [h1] at hx
  rcases List.mem_append.1 hx with hx | hx <;> (obtain ⟨i, _, rfl⟩ := List.mem_map.1 hx; rfl)
 ·have h6 : (gotV l x.i).st = 3 := (h.lan x.i).1 ((n3 x.i).2 (.inl (hI ▸ List.mem_map.2 ⟨x, hx, rfl⟩)))
  exact ⟨h6, h.lax x.i h6⟩
theorem ag_len (W : List Int) (e lim : Int) (q : LL) (m : M) : (stepM W e lim q m).1.length ≤ q.f.length + q.v.length := by
 obtain ⟨a, b, h1, _⟩ := wW W e lim q m
 rw [h1]; simp; omega
theorem qN {α : Type} {l : List α} (h : l.Nodup) (k : Nat) : (l.take k).Nodup := (List.take_sublist k l).nodup h
theorem VO.asV {v : V} (h : VO v) {e : Int} {c : C} (he : 0 ≤ e) (hu : 1 ≤ c.unb) (hb : e + c.unb ≤ 1099511627776) : VO (asV e c v) := by
 have := h.w
 exact ⟨h.b, h.s, h.r, by simp only [Go.Proofs.YtdddiilocbbkkaaGreat.asV]; omega, by simp only [Go.Proofs.YtdddiilocbbkkaaGreat.asV]; omega, h.d⟩
theorem asgK_ok {e : Int} {c : C} (he : 0 ≤ e) (hu : 1 ≤ c.unb) (hb : e + 1 + c.unb ≤ 1099511627776) {l : List V} {q : LL} {bo : List En} (h : Mid e (e + 1) l q bo) (hvo : ∀ j, hasV l j = true → VO (gotV l j)) (lv : List Int) (W : List Int) (lim : Int) (m : M)
  {ag : List As} (hag : (stepM W e lim q m).1 = ag) (k : Nat) :
  (∀ j, hasV (asgK c (l, bo, lv) ag k).1 j = true → VO (gotV (asgK c (l, bo, lv) ag k).1 j)) ∧ bals (asgK c (l, bo, lv) ag k).1 = bals l ∧ (asgK c (l, bo, lv) ag k).2.1.length ≤ bo.length + k ∧ (asgK c (l, bo, lv) ag k).2.2.length ≤ lv.length + k ∧
  (∀ i, hasV (asgK c (l, bo, lv) ag k).1 i = hasV l i) ∧ (∀ a ∈ ag, hasV l a.i = true ∧ a.e = e + 1) := by
 obtain ⟨f1, f2⟩ := ag_facts h W lim m
 rw [hag] at f1 f2
 obtain ⟨g1, g2, g3, g4, g5⟩ := asg_fold (e := e + 1) (c := c) (by omega) (by omega) hb (ag.take k) l bo lv (fun a ha => f1 a (List.mem_of_mem_take ha)) (by rw [List.map_take]; exact qN f2 k) (VO.z_wd l hvo)
 unfold asgK
 refine ⟨fun j hj => ?_, g5, ?_, ?_, xJ g1, fun a ha => ⟨yU (by have := (f1 a ha).2.1; omega), (f1 a ha).1⟩⟩
 ·rw [xJ g1] at hj
  rw [g2 j]
  split
  ·exact (hvo j hj).asV (by omega) hu hb
  ·exact hvo j hj
 ·rw [g3]; simp; omega
 ·rw [g4]; simp; omega
theorem assign_eng (eb rb cb lb bb ub mb xb b0 b1 pb gb tb : Nat) (c : C) (blk : Nat) (g : RG) (dep paid burn : Int) (bo : List En) (lv : List Int) (cur : Nat) (m : M) (q : LL) (pend : List Int) (mg : List PP) (pt : List Rq) (br : BR) (lA : Option Addr) (lc : Nat) (g0 g1 gp gg gt : Rg) (e lim : Int) (w : World) (hw : W0 [Res.blk eb 112 (ECell rb cb lb bb ub mb xb pb gb tb c lA (lv.length) lc), RgB rb g, RgW g, Res.im (RG.m g), bB_ bb br, bW_ br, bK_ br, Res.row lA (lv).length lc 3 1 ((lv).map (fun v : Int => [Value.int .i64 v])), Res.blk mb 186 (M.c m), bL_ xb b0 b1, rB_i b0 g0, rW_i g0, rB_i b1 g1, rW_i g1] w) (hg : g.Rep) (hcp : (g.cp : Int) = c.capa) (hbr : br.Rep bo) (h0 : g0.Rep 1 (q.f.map (fun v : Int => [Value.int .i64 v]))) (h1_ : g1.Rep 1 (q.v.map (fun v : Int => [Value.int .i64 v]))) (s0 : Rg.size g0 = c.qsize.toNat) (s1 : Rg.size g1 = c.qsize.toNat) (hqf : q.f.length ≤ c.qsize.toNat ∧ q.v.length ≤ c.qsize.toNat) (hqs : 1 ≤ c.qsize ∧ c.qsize ≤ 4096) (he : 0 ≤ e ∧ e ≤ 1000000000) (hu : 1 ≤ c.unb ∧ c.unb ≤ 1048576) (hM : Mid e (e + 1) (RG.l g) q bo) (hvo : ∀ j, hasV (RG.l g) j = true → VO (gotV (RG.l g) j)) (hbl : bo.length ≤ 100000) (hlv : lv.length ≤ 100000) : Own2 (ι := (RG × BR × Option Addr × Nat × Rg × Rg × Option Addr × Nat)) Tryz.prog 151 [.pointer (some ⟨eb, 0, none⟩), .int .i64 e, .int .u64 lim] w [Res.blk eb 112 (ECell rb cb lb bb ub mb xb pb gb tb c lA (lv.length) lc), RgB rb g, RgW g, Res.im (RG.m g), bB_ bb br, bW_ br, bK_ br, Res.row lA (lv).length lc 3 1 ((lv).map (fun v : Int => [Value.int .i64 v])), Res.blk mb 186 (M.c m), bL_ xb b0 b1, rB_i b0 g0, rW_i g0, rB_i b1 g1, rW_i g1] (fun x => x.1.Rep ∧ x.1.l = ((stepM ((RG.l g).map V.bal) e lim q m).1.foldl (asgS c) (RG.l g, bo, lv)).1 ∧ x.1.cp = g.cp ∧ x.2.1.Rep ((stepM ((RG.l g).map V.bal) e lim q m).1.foldl (asgS c) (RG.l g, bo, lv)).2.1 ∧ x.2.2.2.2.1.Rep 1 ((stepM ((RG.l g).map V.bal) e lim q m).2.1.f.map (fun v : Int => [Value.int .i64 v])) ∧ x.2.2.2.2.2.1.Rep 1 ((stepM ((RG.l g).map V.bal) e lim q m).2.1.v.map (fun v : Int => [Value.int .i64 v])) ∧ x.2.2.2.2.1.size = c.qsize.toNat ∧ x.2.2.2.2.2.1.size = c.qsize.toNat) (fun x => .slice x.2.2.2.2.2.2.1 (stepM ((RG.l g).map V.bal) e lim q m).1.length x.2.2.2.2.2.2.2) (fun x => [Res.row x.2.2.2.2.2.2.1 ((stepM ((RG.l g).map V.bal) e lim q m).1).length x.2.2.2.2.2.2.2 55 3 (((stepM ((RG.l g).map V.bal) e lim q m).1).map As.cs)]) (fun x => [Res.blk eb 112 (ECell rb cb lb bb ub mb xb pb gb tb c x.2.2.1 (((stepM ((RG.l g).map V.bal) e lim q m).1.foldl (asgS c) (RG.l g, bo, lv)).2.2.length) x.2.2.2.1), RgB rb x.1, RgW x.1, Res.im (RG.m x.1), bB_ bb x.2.1, bW_ x.2.1, bK_ x.2.1, Res.row x.2.2.1 (((stepM ((RG.l g).map V.bal) e lim q m).1.foldl (asgS c) (RG.l g, bo, lv)).2.2).length x.2.2.2.1 3 1 ((((stepM ((RG.l g).map V.bal) e lim q m).1.foldl (asgS c) (RG.l g, bo, lv)).2.2).map (fun v : Int => [Value.int .i64 v])), Res.blk mb 186 (M.c (stepM ((RG.l g).map V.bal) e lim q m).2.2), bL_ xb b0 b1, rB_i b0 x.2.2.2.2.1, rW_i x.2.2.2.2.1, rB_i b1 x.2.2.2.2.2.1, rW_i x.2.2.2.2.2.1]) := by
 refine g_st Tryz.func151 86 hw ?_
 have hsz : c.qsize.toNat ≤ 4096 := by omega
 refine rn [1,3,0,8] ?_
 refine dregL (L0 := [Res.blk eb 112 (ECell rb cb lb bb ub mb xb pb gb tb c lA (lv.length) lc)]) [] mixed rfl zB ?_
 refine rn [23,0,2,23,1,2,23,2,6,23,3,4,23,4,5,23,5,2,23,6,6,23,7,4,23,8,5,23,9,2,23,10,2,23,11,6,23,12,4] ?_
 refine dq 13 rfl (yS (c' := [Value.pointer (some ⟨rb, 0, none⟩)]) rfl rfl rfl) ?_
 refine dop 14 rfl (zH _ rfl (fun w1 hw1 ho1 => by have h7 := uF rb g w1 ho1 hg; exact h7) rfl ?_)
 rintro ⟨A26, cap26⟩ _
 refine ii ?_
 refine dop 15 rfl (zH _ rfl (fun w1 hw1 ho1 => by have h7 := astep_any (e) (lim) xb b0 b1 mb g0 g1 q c.qsize.toNat m A26 (((RG.l g).map V.bal).length) (cap26) (((RG.l g).map V.bal)) w1 ho1 h0 h1_ s0 s1 (by omega) hqf (Rd.ofRow (A := A26) hw1) (by omega); exact h7) rfl ?_)
 rintro ⟨O27, oc27, g27, gg27⟩ ⟨r27, rr27, s27, ss27⟩
 refine ii ?_
 simp only at r27 rr27 s27 ss27
 have hq27 := stepM_len (W := ((RG.l g).map V.bal)) (e := e) (lim := lim) (m := m) hqf
 generalize hst27 : (stepM (((RG.l g).map V.bal)) (e) (lim) q m) = st27 at r27 rr27 hq27 ⊢
 refine rn [23,16,3,27,7,8,1,2,47,2,0,14] ?_
 refine zE (A := lA) ((asgK c (RG.l g, bo, lv) st27.1 0).2.2.map (fun v : Int => [Value.int .i64 v])) (by rfl) ?_
 refine yC (A := lA) (asgK c (RG.l g, bo, lv) st27.1 0).2.2.length (by rfl) ?_
 refine zJ (b := eb) (ECell rb cb lb bb ub mb xb pb gb tb c lA ((asgK c (RG.l g, bo, lv) st27.1 0).2.2.length) lc) (by rfl) ?_
 refine g_lk [0, 6, 7, 28, 29] (fun (x : Nat × RG × BR × Option Addr × Nat) => [(30, .int .i64 ((x.1 : Nat) : Int))]) (fun (x : Nat × RG × BR × Option Addr × Nat) => [Res.row O27 (st27.1).length oc27 55 3 ((st27.1).map As.cs), Res.blk eb 112 (ECell rb cb lb bb ub mb xb pb gb tb c x.2.2.2.1 ((asgK c (RG.l g, bo, lv) st27.1 x.1).2.2.length) x.2.2.2.2), RgB rb x.2.1, RgW x.2.1, Res.im (RG.m x.2.1), bB_ bb x.2.2.1, bW_ x.2.2.1, bK_ x.2.2.1, Res.row x.2.2.2.1 ((asgK c (RG.l g, bo, lv) st27.1 x.1).2.2).length x.2.2.2.2 3 1 (((asgK c (RG.l g, bo, lv) st27.1 x.1).2.2).map (fun v : Int => [Value.int .i64 v])), Res.blk mb 186 (M.c st27.2.2), bL_ xb b0 b1, rB_i b0 g27, rW_i g27, rB_i b1 gg27, rW_i gg27]) (fun (x : Nat × RG × BR × Option Addr × Nat) => x.1 ≤ st27.1.length ∧ RG.Rep x.2.1 ∧ RG.l x.2.1 = (asgK c (RG.l g, bo, lv) st27.1 x.1).1 ∧ RG.cp x.2.1 = RG.cp g ∧ BR.Rep x.2.2.1 (asgK c (RG.l g, bo, lv) st27.1 x.1).2.1) (fun (x : Nat × RG × BR × Option Addr × Nat) => st27.1.length - x.1) (0, g, br, lA, lc) (by (try dsimp only); exact ⟨Nat.zero_le _, hg, rfl, rfl, hbr⟩) ?_
 rintro ⟨k, g9, br9, A9, k9⟩ ⟨le_k, hr9, hl9, hc9, hb9⟩
 replace le_k : k ≤ st27.1.length := le_k
 replace hr9 : RG.Rep g9 := hr9
 replace hl9 : RG.l g9 = (asgK c (RG.l g, bo, lv) st27.1 k).1 := hl9
 replace hc9 : RG.cp g9 = RG.cp g := hc9
 replace hb9 : BR.Rep br9 (asgK c (RG.l g, bo, lv) st27.1 k).2.1 := hb9
 refine zX (L' := [Res.row O27 (st27.1).length oc27 55 3 ((st27.1).map As.cs), Res.blk eb 112 (ECell rb cb lb bb ub mb xb pb gb tb c A9 ((asgK c (RG.l g, bo, lv) st27.1 k).2.2.length) k9), RgB rb g9, RgW g9, Res.im (RG.m g9), bB_ bb br9, bW_ br9, bK_ br9, Res.row A9 ((asgK c (RG.l g, bo, lv) st27.1 k).2.2).length k9 3 1 (((asgK c (RG.l g, bo, lv) st27.1 k).2.2).map (fun v : Int => [Value.int .i64 v])), Res.blk mb 186 (M.c st27.2.2), bL_ xb b0 b1, rB_i b0 g27, rW_i g27, rB_i b1 gg27, rW_i gg27]) rfl ?_
 refine g_val 30 (v' := .int .i64 ((k : Nat) : Int)) rfl rfl ?_
 obtain ⟨ho9, hbs9, hbl9, hll9, hhs9, hag9⟩ := asgK_ok he.1 hu.1 (by omega) hM hvo lv ((RG.l g).map V.bal) lim m (congrArg Prod.fst hst27) k
 simp only [← hl9] at ho9 hbs9 hhs9
 have hal9 := ag_len ((RG.l g).map V.bal) e lim q m
 rw [hst27] at hal9
 refine rn [1,46,0,8] ?_
 refine zC rfl (fun h1 => ?_) (fun h1 => ?_)
 ·have lt_k : k < st27.1.length := by have h9 := of_decide_eq_true h1; omega
  have hs9 : (asgK c (RG.l g, bo, lv) st27.1 (k + 1)) = (setV (asgK c (RG.l g, bo, lv) st27.1 k).1 st27.1[k].i (asnV (gotV (RG.l g9) st27.1[k].i) st27.1[k].e c).1, putE (asgK c (RG.l g, bo, lv) st27.1 k).2.1 (asnV (gotV (RG.l g9) st27.1[k].i) st27.1[k].e c).1.wd st27.1[k].i, (asgK c (RG.l g, bo, lv) st27.1 k).2.2 ++ [st27.1[k].i]) := by rw [asgK_succ lt_k, hl9]; rfl
  obtain ⟨hh9, hae9⟩ := hag9 _ (List.getElem_mem lt_k)
  have hh9 : hasV (RG.l g9) st27.1[k].i = true := by rw [hhs9]; exact hh9
  have hv9 := ho9 _ hh9
  have hmx9 : (bals (RG.l g9)).sum ≤ 18446744073709551615 := by rw [hbs9]; exact hg.mx
  have hbl9_ := uG ho9 hh9
  obtain ⟨hoN, hbsN, _, _, _, _⟩ := asgK_ok he.1 hu.1 (by omega) hM hvo lv ((RG.l g).map V.bal) lim m (congrArg Prod.fst hst27) (k + 1)
  rw [hs9] at hoN hbsN
  have hchg := rI (l := RG.l g9) (i := st27.1[k].i) (v := (asnV (gotV (RG.l g9) st27.1[k].i) st27.1[k].e c).1) (by rw [xN hh9, hl9]; rw [hl9] at hoN; exact hoN) (by rw [xN hh9, hl9]; rw [hl9] at hbsN; rw [hbsN]; exact hg.mx) hh9
  refine rn [12,7,8,14,1] ?_
  refine s_q (zR (i := k) rfl rfl rfl (InRow.rdb (A := O27) (els := (st27.1).map As.cs) (by first | rfl | assumption | (simp; done) | (simp_all; done) | (simp; omega) | (simp_all; omega)) (zK (c := As.cs) (fun _ => rfl) _)) (by first | exact lt_k | omega)) rfl ?_
  refine s_q (zT (i := k) rfl (InRow.rdb (A := O27) (els := (st27.1).map As.cs) (by first | rfl | assumption | (simp; done) | (simp_all; done) | (simp; omega) | (simp_all; omega)) (zK (c := As.cs) (fun _ => rfl) _)) (zS (by first | assumption | omega | (simp_all; done) | (simp_all; omega))) rfl) rfl ?_
  refine g_op (zI rfl fun b9 => ?_)
  refine rn [33,0,8] ?_
  refine dreg [12] mixed rfl ?_
  refine rn [23,0,2,23,1,6,23,2,4,23,3,4,23,4,5,23,5,4,23,6,5] ?_
  refine yB [7, 11] (by kernel_rfl) (by simp) zB ⟨dpick rfl (zL _ rfl (fun w1 hw1 ho1 => by exact xU rb g9 (((st27.1)[k]).i) w1 ho1) rfl ?_), dpick rfl (zI rfl fun b10 => ?_), trivial⟩
  ·refine rn [23,8,2,23,9,40,24,10,40] ?_
   refine dop 11 rfl (zI rfl fun b10 => ?_)
   refine dop 12 rfl (zM rfl rfl rfl rfl rfl ?_)
   refine rn [24,13,3,28,7,8] ?_
   refine dreg [11] mixed rfl ?_
   refine rn [23,0,45,23,1,4,23,2,5,23,3,2,23,4,6,23,5,4] ?_
   refine dq 6 rfl (yS (c' := C.c c) rfl rfl rfl) ?_
   refine dop 7 rfl (zG rfl (fun w1 hw1 => assign_any _ _ (c) w1 ⟨by omega, by omega⟩ ⟨by omega, by omega⟩ (hv9.i64 (by omega))) rfl ?_)
   refine rn [23,8,2,23,9,40,24,10,40] ?_
   refine dop 11 rfl (zM rfl rfl rfl rfl rfl ?_)
   refine zJ (b := b10) (V.c (asnV (gotV (RG.l g9) st27.1[k].i) st27.1[k].e c).1) rfl ?_
   refine rn [28,7,8] ?_
   refine dregL (L0 := [Res.blk eb 112 (ECell rb cb lb bb ub mb xb pb gb tb c A9 ((asgK c (RG.l g, bo, lv) st27.1 k).2.2.length) k9), Res.blk b9 55 (As.cs st27.1[k]), Res.blk b10 52 (V.c (asnV (gotV (RG.l g9) st27.1[k].i) st27.1[k].e c).1)]) [] mixed rfl zB ?_
   refine rn [23,0,2,23,1,6,23,2,4] ?_
   refine dq 3 rfl (yS (c' := [Value.pointer (some ⟨rb, 0, none⟩)]) rfl rfl rfl) ?_
   refine rn [23,4,4,23,5,5,23,6,45] ?_
   refine dop 7 rfl (zH _ rfl (fun w1 hw1 ho1 => by have h7 := xB rb g9 (((st27.1)[k]).i) ((asnV (gotV (RG.l g9) st27.1[k].i) st27.1[k].e c).1) w1 ho1 hr9 hchg.1 hchg.2; exact h7) rfl ?_)
   rintro g63 ⟨r63, l63, c63⟩
   refine ii ?_
   refine rn [27,7,8] ?_
   refine dregL (L0 := [Res.blk eb 112 (ECell rb cb lb bb ub mb xb pb gb tb c A9 ((asgK c (RG.l g, bo, lv) st27.1 k).2.2.length) k9), Res.blk b9 55 (As.cs st27.1[k]), Res.blk b10 52 (V.c (asnV (gotV (RG.l g9) st27.1[k].i) st27.1[k].e c).1)]) [] mixed rfl zB ?_
   refine rn [23,0,2,23,1,6,23,2,4,23,3,5,23,4,4,23,5,5,23,6,4,23,7,5] ?_
   refine dop 8 rfl (zH _ rfl (fun w1 hw1 ho1 => by have h7 := uY bb br9 (asgK c (RG.l g, bo, lv) st27.1 k).2.1 (((asnV (gotV (RG.l g9) st27.1[k].i) st27.1[k].e c).1).wd) (((st27.1)[k]).i) w1 ho1 hb9 (by first | omega | (simp; omega)); exact h7) rfl ?_)
   rintro g72 ⟨r72, s72⟩
   refine ii ?_
   refine rn [27,7] ?_
   refine dregL (L0 := [Res.blk eb 112 (ECell rb cb lb bb ub mb xb pb gb tb c A9 ((asgK c (RG.l g, bo, lv) st27.1 k).2.2.length) k9), Res.blk b9 55 (As.cs st27.1[k])]) [11] mixed rfl zB ?_
   refine rn [23,0,2,23,1,2,23,2,6,23,3,4,23,4,5,23,5,4,23,6,5] ?_
   refine dop 7 rfl (g_lit rfl rfl rfl rfl rfl fun b80 => ?_)
   refine zJ (b := b80) ((([((st27.1)[k]).i] : List Int).map (fun v : Int => [Value.int .i64 v])).flatten) rfl ?_
   refine dop 8 rfl (zY (A := A9) (els := ((asgK c (RG.l g, bo, lv) st27.1 k).2.2).map (fun v : Int => [Value.int .i64 v])) (news := (([((st27.1)[k]).i] : List Int).map (fun v : Int => [Value.int .i64 v]))) rfl rfl (InL.rdb (b := b80) rfl (by simp) rfl) (yF (c := (fun v : Int => [Value.int .i64 v])) (by intro x; simp [Value.oneCell']) _) (by first | omega | (simp; omega) | (simp_all; omega)) rfl fun A81 cap81 => ⟨_, inferInstance, ?_⟩)
   refine zE (A := A81) ((((asgK c (RG.l g, bo, lv) st27.1 k).2.2 ++ [((st27.1)[k]).i])).map (fun v : Int => [Value.int .i64 v])) (by first | rfl | exact List.map_append.symm | (simp; done)) ?_
   refine rn [24,9,6,23,10,4] ?_
   refine dop 11 rfl (zP rfl rfl rfl rfl rfl rfl rfl ?_)
   refine zJ (b := eb) (ECell rb cb lb bb ub mb xb pb gb tb c A81 ((asgK c (RG.l g, bo, lv) st27.1 (k + 1)).2.2.length) cap81) (by rw [hs9, List.length_append]; rfl) ?_
   refine rn [28,15,7,10,43,2,9] ?_
   refine zE (A := A81) ((asgK c (RG.l g, bo, lv) st27.1 (k + 1)).2.2.map (fun v : Int => [Value.int .i64 v])) (by rw [hs9]) ?_
   refine yC (A := A81) (asgK c (RG.l g, bo, lv) st27.1 (k + 1)).2.2.length (by rw [hs9]; simp) ?_
   exact g_ag ((k + 1), g63, g72, A81, cap81) (by (try dsimp only); exact ⟨(by first | exact lt_k | omega), r63, (by rw [hs9]; show _ = setV _ _ _; rw [l63, hl9]), (by rw [c63]; exact hc9), (by rw [hs9, ← hl9]; exact r72)⟩)
  ·refine dop 7 rfl (zL _ rfl (fun w1 hw1 ho1 => by exact xU rb g9 (((st27.1)[k]).i) w1 ho1) rfl ?_)
   refine rn [23,8,2,23,9,40,24,10,40] ?_
   refine dop 12 rfl (zM rfl rfl rfl rfl rfl ?_)
   refine rn [24,13,3,28,7,8] ?_
   refine dreg [11] mixed rfl ?_
   refine rn [23,0,45,23,1,4,23,2,5,23,3,2,23,4,6,23,5,4] ?_
   refine dq 6 rfl (yS (c' := C.c c) rfl rfl rfl) ?_
   refine dop 7 rfl (zG rfl (fun w1 hw1 => assign_any _ _ (c) w1 ⟨by omega, by omega⟩ ⟨by omega, by omega⟩ (hv9.i64 (by omega))) rfl ?_)
   refine rn [23,8,2,23,9,40,24,10,40] ?_
   refine dop 11 rfl (zM rfl rfl rfl rfl rfl ?_)
   refine zJ (b := b10) (V.c (asnV (gotV (RG.l g9) st27.1[k].i) st27.1[k].e c).1) rfl ?_
   refine rn [28,7,8] ?_
   refine dregL (L0 := [Res.blk eb 112 (ECell rb cb lb bb ub mb xb pb gb tb c A9 ((asgK c (RG.l g, bo, lv) st27.1 k).2.2.length) k9), Res.blk b9 55 (As.cs st27.1[k]), Res.blk b10 52 (V.c (asnV (gotV (RG.l g9) st27.1[k].i) st27.1[k].e c).1)]) [] mixed rfl zB ?_
   refine rn [23,0,2,23,1,6,23,2,4] ?_
   refine dq 3 rfl (yS (c' := [Value.pointer (some ⟨rb, 0, none⟩)]) rfl rfl rfl) ?_
   refine rn [23,4,4,23,5,5,23,6,45] ?_
   refine dop 7 rfl (zH _ rfl (fun w1 hw1 ho1 => by have h7 := xB rb g9 (((st27.1)[k]).i) ((asnV (gotV (RG.l g9) st27.1[k].i) st27.1[k].e c).1) w1 ho1 hr9 hchg.1 hchg.2; exact h7) rfl ?_)
   rintro g63 ⟨r63, l63, c63⟩
   refine ii ?_
   refine rn [27,7,8] ?_
   refine dregL (L0 := [Res.blk eb 112 (ECell rb cb lb bb ub mb xb pb gb tb c A9 ((asgK c (RG.l g, bo, lv) st27.1 k).2.2.length) k9), Res.blk b9 55 (As.cs st27.1[k]), Res.blk b10 52 (V.c (asnV (gotV (RG.l g9) st27.1[k].i) st27.1[k].e c).1)]) [] mixed rfl zB ?_
   refine rn [23,0,2,23,1,6,23,2,4,23,3,5,23,4,4,23,5,5,23,6,4,23,7,5] ?_
   refine dop 8 rfl (zH _ rfl (fun w1 hw1 ho1 => by have h7 := uY bb br9 (asgK c (RG.l g, bo, lv) st27.1 k).2.1 (((asnV (gotV (RG.l g9) st27.1[k].i) st27.1[k].e c).1).wd) (((st27.1)[k]).i) w1 ho1 hb9 (by first | omega | (simp; omega)); exact h7) rfl ?_)
   rintro g72 ⟨r72, s72⟩
   refine ii ?_
   refine rn [27,7] ?_
   refine dregL (L0 := [Res.blk eb 112 (ECell rb cb lb bb ub mb xb pb gb tb c A9 ((asgK c (RG.l g, bo, lv) st27.1 k).2.2.length) k9), Res.blk b9 55 (As.cs st27.1[k])]) [11] mixed rfl zB ?_
   refine rn [23,0,2,23,1,2,23,2,6,23,3,4,23,4,5,23,5,4,23,6,5] ?_
   refine dop 7 rfl (g_lit rfl rfl rfl rfl rfl fun b80 => ?_)
   refine zJ (b := b80) ((([((st27.1)[k]).i] : List Int).map (fun v : Int => [Value.int .i64 v])).flatten) rfl ?_
   refine dop 8 rfl (zY (A := A9) (els := ((asgK c (RG.l g, bo, lv) st27.1 k).2.2).map (fun v : Int => [Value.int .i64 v])) (news := (([((st27.1)[k]).i] : List Int).map (fun v : Int => [Value.int .i64 v]))) rfl rfl (InL.rdb (b := b80) rfl (by simp) rfl) (yF (c := (fun v : Int => [Value.int .i64 v])) (by intro x; simp [Value.oneCell']) _) (by first | omega | (simp; omega) | (simp_all; omega)) rfl fun A81 cap81 => ⟨_, inferInstance, ?_⟩)
   refine zE (A := A81) ((((asgK c (RG.l g, bo, lv) st27.1 k).2.2 ++ [((st27.1)[k]).i])).map (fun v : Int => [Value.int .i64 v])) (by first | rfl | exact List.map_append.symm | (simp; done)) ?_
   refine rn [24,9,6,23,10,4] ?_
   refine dop 11 rfl (zP rfl rfl rfl rfl rfl rfl rfl ?_)
   refine zJ (b := eb) (ECell rb cb lb bb ub mb xb pb gb tb c A81 ((asgK c (RG.l g, bo, lv) st27.1 (k + 1)).2.2.length) cap81) (by rw [hs9, List.length_append]; rfl) ?_
   refine rn [28,15,7,10,43,2,9] ?_
   refine zE (A := A81) ((asgK c (RG.l g, bo, lv) st27.1 (k + 1)).2.2.map (fun v : Int => [Value.int .i64 v])) (by rw [hs9]) ?_
   refine yC (A := A81) (asgK c (RG.l g, bo, lv) st27.1 (k + 1)).2.2.length (by rw [hs9]; simp) ?_
   exact g_ag ((k + 1), g63, g72, A81, cap81) (by (try dsimp only); exact ⟨(by first | exact lt_k | omega), r63, (by rw [hs9]; show _ = setV _ _ _; rw [l63, hl9]), (by rw [c63]; exact hc9), (by rw [hs9, ← hl9]; exact r72)⟩)
 ·have eq_k : k = st27.1.length := by have h9 := of_decide_eq_false h1; omega
  refine rn [16] ?_
  refine zF (zF (zQ ?_))
  refine rn [7,1,2,3,0,11] ?_
  have hend : (asgK c (RG.l g, bo, lv) st27.1 k) = st27.1.foldl (asgS c) (RG.l g, bo, lv) := by rw [eq_k]; exact asgK_end _ _ _
  rw [hend] at hl9 hb9
  exact fin1 rfl (.tmp rfl) (fun w' hw' => ⟨(g9, br9, A9, k9, g27, gg27, O27, oc27), (by (subst hst27; exact ⟨hr9, hl9, hc9, hb9, r27, rr27, s27, ss27⟩)), by subst hst27; rfl, by have h9 := zB (L' := [Res.row O27 (st27.1).length oc27 55 3 ((st27.1).map As.cs), Res.blk eb 112 (ECell rb cb lb bb ub mb xb pb gb tb c A9 ((asgK c (RG.l g, bo, lv) st27.1 k).2.2.length) k9), RgB rb g9, RgW g9, Res.im (RG.m g9), bB_ bb br9, bW_ br9, bK_ br9, Res.row A9 ((asgK c (RG.l g, bo, lv) st27.1 k).2.2).length k9 3 1 (((asgK c (RG.l g, bo, lv) st27.1 k).2.2).map (fun v : Int => [Value.int .i64 v])), Res.blk mb 186 (M.c st27.2.2), bL_ xb b0 b1, rB_i b0 g27, rW_i g27, rB_i b1 gg27, rW_i gg27]) w' hw'; rw [hend] at h9; subst hst27; exact h9⟩) _ (.inl rfl)
theorem take_pp (b : Nat) (g : Rg) (l : List PP) (n : Nat) (w : World) (hw : W0 [rB_pp b g, rW_pp g] w) (h : g.Rep 2 (l.map PP.c)) (hl : l.length ≤ 100000) : Own2 (ι := (Option Addr × Nat × Rg)) Tryz.prog 155 [.pointer (some ⟨b, 0, none⟩), .int .i64 (n : Int)] w [rB_pp b g, rW_pp g] (fun x => x.2.2.Rep 2 ((l.drop (l.take n).length).map PP.c) ∧ x.2.2.size = g.size) (fun x => .slice x.1 (l.take n).length x.2.1) (fun x => [Res.row x.1 (l.take n).length x.2.1 106 2 ((l.take n).map PP.c)]) (fun x => [rB_pp b x.2.2, rW_pp x.2.2]) := by
 refine g_st Tryz.func155 22 hw ?_
 refine rn [1,3,0,1,2] ?_
 refine g_op (zH _ rfl (fun w1 hw1 ho1 => by have h7 := all_pp b g l w1 ho1 h; exact h7) rfl ?_)
 rintro ⟨A7, cap7⟩ _
 refine ii ?_
 refine rn [3,0,1,2,2,2,47] ?_
 refine s_q (sY (a := n) (b := (l).length) rfl rfl) rfl ?_
 refine g_rowfact A7 fun hle9 hcm9 _ => ?_
 refine s_q (yX (h := (min n l.length)) rfl rfl rfl (by omega)) rfl ?_
 refine tJ (A := A7) (min n l.length) (l.take n).length ((l.take n).map PP.c) (by omega) (by simp) (by rw [← List.map_take, ← List.take_eq_take_min]) ?_
 refine g_val 13 (v' := .slice (subA A7 cap7 0 2) (l.take n).length cap7) rfl (by simp) ?_
 refine rn [3,0,8,1,2,47,2,0,14] ?_
 refine g_lk [0, 4, 5, 15] (fun (x : Nat × Rg) => [(16, .int .i64 ((x.1 : Nat) : Int))]) (fun (x : Nat × Rg) => [Res.row (subA A7 cap7 0 2) (l.take n).length cap7 106 2 ((l.take n).map PP.c), rB_pp b x.2, rW_pp x.2]) (fun (x : Nat × Rg) => x.1 ≤ (l.take n).length ∧ Rg.Rep x.2 2 ((l.drop x.1).map PP.c) ∧ Rg.size x.2 = Rg.size g) (fun (x : Nat × Rg) => (l.take n).length - x.1) (0, g) (by (try dsimp only); exact ⟨Nat.zero_le _, (by simpa using h), rfl⟩) ?_
 rintro ⟨k, g9⟩ ⟨le_k, hr9, hs9⟩
 replace le_k : k ≤ (l.take n).length := le_k
 replace hr9 : Rg.Rep g9 2 ((l.drop k).map PP.c) := hr9
 replace hs9 : Rg.size g9 = Rg.size g := hs9
 refine zX (L' := [Res.row (subA A7 cap7 0 2) (l.take n).length cap7 106 2 ((l.take n).map PP.c), rB_pp b g9, rW_pp g9]) rfl ?_
 refine g_val 16 (v' := .int .i64 ((k : Nat) : Int)) rfl rfl ?_
 have htl : (l.take n).length ≤ 1000000 := by simp; omega
 refine rn [1,46,0,8] ?_
 refine zC rfl (fun h1 => ?_) (fun h1 => ?_)
 ·have lt_k : k < (l.take n).length := by have h9 := of_decide_eq_true h1; omega
  refine rn [12,7,8,14,10,2] ?_
  refine g_op (zH _ rfl (fun w1 hw1 ho1 => by have h7 := pop_pp b g9 (l.drop k) w1 ho1 hr9; exact h7) rfl ?_)
  rintro g19 ⟨r19, s19⟩
  refine ii ?_
  refine rn [9,15,7,10,43,2,9] ?_
  exact g_ag ((k + 1), g19) (by (try dsimp only); exact ⟨(by first | exact lt_k | omega), (by rw [← List.tail_drop]; exact r19), (by rw [s19]; exact hs9)⟩)
 ·have eq_k : k = (l.take n).length := by have h9 := of_decide_eq_false h1; omega
  refine rn [16] ?_
  refine zF (zF (zQ ?_))
  refine rn [7,1,2,3,0,11] ?_
  skip
  exact fin1 rfl (.tmp rfl) (fun w' hw' => ⟨((subA A7 cap7 0 2), cap7, g9), (by (rw [← eq_k]; exact ⟨hr9, hs9⟩)), rfl, zA w' hw'⟩) _ (.inl rfl)
theorem take_rq (b : Nat) (g : Rg) (l : List Rq) (n : Nat) (w : World) (hw : W0 [rB_rq b g, rW_rq g] w) (h : g.Rep 2 (l.map Rq.c)) (hl : l.length ≤ 100000) : Own2 (ι := (Option Addr × Nat × Rg)) Tryz.prog 158 [.pointer (some ⟨b, 0, none⟩), .int .i64 (n : Int)] w [rB_rq b g, rW_rq g] (fun x => x.2.2.Rep 2 ((l.drop (l.take n).length).map Rq.c) ∧ x.2.2.size = g.size) (fun x => .slice x.1 (l.take n).length x.2.1) (fun x => [Res.row x.1 (l.take n).length x.2.1 110 2 ((l.take n).map Rq.c)]) (fun x => [rB_rq b x.2.2, rW_rq x.2.2]) := by
 refine g_st Tryz.func158 22 hw ?_
 refine rn [1,3,0,1,2] ?_
 refine g_op (zH _ rfl (fun w1 hw1 ho1 => by have h7 := all_rq b g l w1 ho1 h; exact h7) rfl ?_)
 rintro ⟨A7, cap7⟩ _
 refine ii ?_
 refine rn [3,0,1,2,2,2,47] ?_
 refine s_q (sY (a := n) (b := (l).length) rfl rfl) rfl ?_
 refine g_rowfact A7 fun hle9 hcm9 _ => ?_
 refine s_q (yX (h := (min n l.length)) rfl rfl rfl (by omega)) rfl ?_
 refine tJ (A := A7) (min n l.length) (l.take n).length ((l.take n).map Rq.c) (by omega) (by simp) (by rw [← List.map_take, ← List.take_eq_take_min]) ?_
 refine g_val 13 (v' := .slice (subA A7 cap7 0 2) (l.take n).length cap7) rfl (by simp) ?_
 refine rn [3,0,8,1,2,47,2,0,14] ?_
 refine g_lk [0, 4, 5, 15] (fun (x : Nat × Rg) => [(16, .int .i64 ((x.1 : Nat) : Int))]) (fun (x : Nat × Rg) => [Res.row (subA A7 cap7 0 2) (l.take n).length cap7 110 2 ((l.take n).map Rq.c), rB_rq b x.2, rW_rq x.2]) (fun (x : Nat × Rg) => x.1 ≤ (l.take n).length ∧ Rg.Rep x.2 2 ((l.drop x.1).map Rq.c) ∧ Rg.size x.2 = Rg.size g) (fun (x : Nat × Rg) => (l.take n).length - x.1) (0, g) (by (try dsimp only); exact ⟨Nat.zero_le _, (by simpa using h), rfl⟩) ?_
 rintro ⟨k, g9⟩ ⟨le_k, hr9, hs9⟩
 replace le_k : k ≤ (l.take n).length := le_k
 replace hr9 : Rg.Rep g9 2 ((l.drop k).map Rq.c) := hr9
 replace hs9 : Rg.size g9 = Rg.size g := hs9
 refine zX (L' := [Res.row (subA A7 cap7 0 2) (l.take n).length cap7 110 2 ((l.take n).map Rq.c), rB_rq b g9, rW_rq g9]) rfl ?_
 refine g_val 16 (v' := .int .i64 ((k : Nat) : Int)) rfl rfl ?_
 have htl : (l.take n).length ≤ 1000000 := by simp; omega
 refine rn [1,46,0,8] ?_
 refine zC rfl (fun h1 => ?_) (fun h1 => ?_)
 ·have lt_k : k < (l.take n).length := by have h9 := of_decide_eq_true h1; omega
  refine rn [12,7,8,14,10,2] ?_
  refine g_op (zH _ rfl (fun w1 hw1 ho1 => by have h7 := pop_rq b g9 (l.drop k) w1 ho1 hr9; exact h7) rfl ?_)
  rintro g19 ⟨r19, s19⟩
  refine ii ?_
  refine rn [9,15,7,10,43,2,9] ?_
  exact g_ag ((k + 1), g19) (by (try dsimp only); exact ⟨(by first | exact lt_k | omega), (by rw [← List.tail_drop]; exact r19), (by rw [s19]; exact hs9)⟩)
 ·have eq_k : k = (l.take n).length := by have h9 := of_decide_eq_false h1; omega
  refine rn [16] ?_
  refine zF (zF (zQ ?_))
  refine rn [7,1,2,3,0,11] ?_
  skip
  exact fin1 rfl (.tmp rfl) (fun w' hw' => ⟨((subA A7 cap7 0 2), cap7, g9), (by (rw [← eq_k]; exact ⟨hr9, hs9⟩)), rfl, zA w' hw'⟩) _ (.inl rfl)
def loV (a b : V) : V := if a.bal < b.bal then a else b
def stW (l L : List V) : Nat → List V
 | 0 => l
 | 1 => List.zipWith loV l L
 | _ => L
def stp (X Y : List V) (k : Nat) : List V := Y.take k ++ X.drop k
theorem stp_zero (X Y : List V) : stp X Y 0 = X := by simp [stp]
theorem stp_all {X Y : List V} (h : X.length = Y.length) : stp X Y Y.length = Y := by simp [stp, h]
theorem tA {X Y : List V} (h : X.length = Y.length) {k : Nat} (hk : k ≤ X.length) : (stp X Y k).length = X.length := by simp [stp]; omega
theorem qT {X Y : List V} (h : X.length = Y.length) {k j : Nat} (hk : k ≤ X.length) (hj : j < X.length) : (stp X Y k)[j]? = some (if j < k then Y[j] else X[j]) := by
 unfold stp
 by_cases hjk : j < k
 ·rw [if_pos hjk, List.getElem?_append_left (by simp; omega), List.getElem?_take_of_lt hjk, List.getElem?_eq_getElem (by omega)]
 ·rw [if_neg hjk, List.getElem?_append_right (by simp; omega), List.getElem?_drop, List.length_take, show k + (j - min k Y.length) = j by omega, List.getElem?_eq_getElem hj]
theorem stp_get {X Y : List V} (h : X.length = Y.length) {k : Nat} (hk : k < X.length) : gotV (stp X Y k) k = X[k] := by
 have h1 := qT h (Nat.le_of_lt hk) hk
 rw [if_neg (Nat.lt_irrefl k)] at h1
 unfold gotV; rw [if_pos (by omega), Int.toNat_natCast, h1]; rfl
theorem rZ {X Y : List V} (h : X.length = Y.length) {k : Nat} (hk : k < X.length) {v : V} (hv : Y[k] = v) : setV (stp X Y k) k v = stp X Y (k + 1) := by
 have hl := tA h (Nat.le_of_lt hk)
 unfold setV hasV
 rw [if_pos (decide_eq_true (by omega)), Int.toNat_natCast]
 apply List.ext_getElem?
 intro j
 rw [List.getElem?_set]
 by_cases hj : j < X.length
 ·rw [qT h (Nat.le_of_lt hk) hj, qT h (k := k + 1) (by omega) hj]
  by_cases e : k = j
  ·subst e; rw [if_pos rfl, if_pos (by omega), if_pos (by omega), hv]
  ·rw [if_neg e]; congr 1
   by_cases h2 : j < k
   ·rw [if_pos h2, if_pos (by omega)]
   ·rw [if_neg h2, if_neg (by omega)]
 ·rw [if_neg (by omega), List.getElem?_eq_none (by omega), List.getElem?_eq_none (by rw [tA h hk]; omega)]
theorem stp_keep {X Y : List V} (h : X.length = Y.length) {k : Nat} (hk : k < X.length) (hv : Y[k] = X[k]) : stp X Y (k + 1) = stp X Y k := by
 have h1 := stp_get h hk
 rw [← rZ h hk hv, ← h1]
 have hl := tA h (Nat.le_of_lt hk)
 rw [yT (by omega)]
 unfold setV
 split
 ·rw [Int.toNat_natCast, List.set_getElem_self]
 ·rfl
theorem rY : ∀ {A B : List V}, A.length = B.length → (∀ (i : Nat) (a b : V), A[i]? = some a → B[i]? = some b → a.bal ≤ b.bal) → (bals A).sum ≤ (bals B).sum
 | [], [], _, _ => Int.le_refl _
 | a :: A, b :: B, h, hi => by
  have h1 := rY (A := A) (B := B) (by simpa using h) fun i => hi (i + 1)
  have h2 := hi 0 a b rfl rfl
  simp only [bals, List.map_cons, List.sum_cons] at h1 ⊢
  omega
 | [], _ :: _, h, _ => by simp at h
 | _ :: _, [], h, _ => by simp at h
theorem stp_dn {X Y : List V} (h : X.length = Y.length) (hb : ∀ (i : Nat) (a b : V), X[i]? = some a → Y[i]? = some b → b.bal ≤ a.bal) {k : Nat} (hk : k ≤ X.length) : (bals (stp X Y k)).sum ≤ (bals X).sum :=
 rY (tA h hk) fun i a b ha hb' => by
  have hi : i < X.length := (List.getElem?_eq_some_iff.1 hb').1
  rw [qT h hk hi] at ha
  split at ha
  ·injection ha with ha; exact hb i b a hb' (by rw [List.getElem?_eq_getElem (by omega), ha])
  ·injection ha with ha; rw [List.getElem?_eq_getElem hi] at hb'; injection hb' with hb'; rw [← ha, ← hb']; exact Int.le_refl _
theorem stp_up {X Y : List V} (h : X.length = Y.length) (hb : ∀ (i : Nat) (a b : V), X[i]? = some a → Y[i]? = some b → a.bal ≤ b.bal) {k : Nat} (hk : k ≤ X.length) : (bals (stp X Y k)).sum ≤ (bals Y).sum :=
 rY ((tA h hk).trans h) fun i a b ha hb' => by
  have hi : i < Y.length := (List.getElem?_eq_some_iff.1 hb').1
  rw [qT h hk (by omega)] at ha
  split at ha
  ·injection ha with ha; rw [List.getElem?_eq_getElem hi] at hb'; injection hb' with hb'; rw [← ha, ← hb']; exact Int.le_refl _
  ·injection ha with ha; exact hb i a b (by rw [List.getElem?_eq_getElem (by omega), ha]) hb'
theorem zip_len {l L : List V} (h : L.length = l.length) : (stW l L 1).length = l.length := by simp [stW]; omega
theorem zip_at {l L : List V} (h : L.length = l.length) {i : Nat} (hi : i < l.length) : (stW l L 1)[i]? = some (loV l[i] L[i]) := by
 simp only [stW]
 rw [List.getElem?_zipWith, List.getElem?_eq_getElem hi, List.getElem?_eq_getElem (by omega)]
theorem zip_get {l L : List V} (h : L.length = l.length) {i : Nat} (hi : i < l.length) (h2 : i < (stW l L 1).length) : (stW l L 1)[i] = loV l[i] L[i] := by
 have := zip_at h hi
 rw [List.getElem?_eq_getElem h2] at this
 injection this
theorem zip_mem {l L : List V} {v : V} (hv : v ∈ stW l L 1) : v ∈ l ∨ v ∈ L := by
 simp only [stW] at hv
 obtain ⟨i, hi, rfl⟩ := List.mem_iff_getElem.1 hv
 simp only [List.length_zipWith] at hi
 rw [List.getElem_zipWith]
 unfold loV
 split
 ·exact .inl (List.getElem_mem _)
 ·exact .inr (List.getElem_mem _)
theorem lo_le (a b : V) : (loV a b).bal ≤ a.bal ∧ (loV a b).bal ≤ b.bal := by unfold loV; split <;> omega
theorem mem_stp {X Y : List V} {k : Nat} {v : V} (h : v ∈ stp X Y k) : v ∈ X ∨ v ∈ Y := by
 rcases List.mem_append.1 h with h | h
 ·exact .inr (List.mem_of_mem_take h)
 ·exact .inl (List.mem_of_mem_drop h)
theorem stp_chg {X Y : List V} {k : Nat} {v : V} (h : X.length = Y.length) (hk : k < X.length) (hv : Y[k] = v) (hX : ∀ x ∈ X, VO x) (hY : ∀ x ∈ Y, VO x) (hs : (bals (stp X Y (k + 1))).sum ≤ 18446744073709551615) {l : List V} (hl : l = stp X Y k) :
  v.ok ∧ ∀ n : Nat, (k : Int) = n → (h : n < l.length) → (l.map V.bal).sum - (l[n]).bal + v.bal ≤ 18446744073709551615 := by
 subst hl
 have hh : hasV (stp X Y k) (k : Int) = true := by unfold hasV; exact decide_eq_true (by rw [tA h (Nat.le_of_lt hk)]; omega)
 have e : (stp X Y k).set (k : Int).toNat v = stp X Y (k + 1) := by rw [xN hh]; exact rZ h hk hv
 exact rI (by rw [e]; exact all_got.1 fun x hx => (mem_stp hx).elim (hX x) (hY x)) (by rw [e]; exact hs) hh
theorem store_eng (eb rb cb lb bb ub mb xb b0 b1 pb gb tb : Nat) (c : C) (blk : Nat) (g : RG) (dep paid burn : Int) (bo : List En) (lv : List Int) (cur : Nat) (m : M) (q : LL) (pend : List Int) (mg : List PP) (pt : List Rq) (br : BR) (lA : Option Addr) (lc : Nat) (g0 g1 gp gg gt : Rg) (lA_ : Option Addr) (lC_ : Nat) (L : List V) (w : World) (hw : W0 [Res.blk eb 112 (ECell rb cb lb bb ub mb xb pb gb tb c lA (lv.length) lc), RgB rb g, RgW g, Res.im (RG.m g)] w) (hg : g.Rep) (hcp : (g.cp : Int) = c.capa) (hLr : Rd w [Res.blk eb 112 (ECell rb cb lb bb ub mb xb pb gb tb c lA (lv.length) lc), RgB rb g, RgW g, Res.im (RG.m g)] lA_ L.length 7 (L.map V.c)) (hL : L.length = (RG.l g).length) (hvo : ∀ v ∈ RG.l g, VO v) (hvL : ∀ v ∈ L, VO v) (hsL : (bals L).sum ≤ 18446744073709551615) : Own2 (ι := RG) Tryz.prog 156 [.pointer (some ⟨eb, 0, none⟩), .slice lA_ L.length lC_] w [Res.blk eb 112 (ECell rb cb lb bb ub mb xb pb gb tb c lA (lv.length) lc), RgB rb g, RgW g, Res.im (RG.m g)] (fun x => x.Rep ∧ x.l = L ∧ x.cp = g.cp) (fun x => .tuple #[]) (fun x => []) (fun x => [Res.blk eb 112 (ECell rb cb lb bb ub mb xb pb gb tb c lA (lv.length) lc), RgB rb x, RgW x, Res.im (RG.m x)]) := by
 refine g_st Tryz.func156 47 hw ?_
 have hLb : L.length ≤ 4096 := by have := hg.le; have := hg.cp; omega
 refine rn [1,49,2,0,14] ?_
 refine g_lk [0, 1, 10] (fun (x : Nat × RG) => [(11, .int .i64 ((x.1 : Nat) : Int))]) (fun (x : Nat × RG) => [Res.blk eb 112 (ECell rb cb lb bb ub mb xb pb gb tb c lA (lv.length) lc), RgB rb x.2, RgW x.2, Res.im (RG.m x.2)]) (fun (x : Nat × RG) => x.1 ≤ 2 ∧ RG.Rep x.2 ∧ RG.l x.2 = stW (RG.l g) L x.1 ∧ RG.cp x.2 = RG.cp g) (fun (x : Nat × RG) => 2 - x.1) (0, g) (by (try dsimp only); exact ⟨(by omega), hg, rfl, rfl⟩) ?_
 rintro ⟨j, g8⟩ ⟨le_j, hr8, hl8, hc8⟩
 replace le_j : j ≤ 2 := le_j
 replace hr8 : RG.Rep g8 := hr8
 replace hl8 : RG.l g8 = stW (RG.l g) L j := hl8
 replace hc8 : RG.cp g8 = RG.cp g := hc8
 refine zX (L' := [Res.blk eb 112 (ECell rb cb lb bb ub mb xb pb gb tb c lA (lv.length) lc), RgB rb g8, RgW g8, Res.im (RG.m g8)]) rfl ?_
 refine g_val 11 (v' := .int .i64 ((j : Nat) : Int)) rfl rfl ?_
 refine rn [1,46,0,8] ?_
 refine zC rfl (fun h1 => ?_) (fun h1 => ?_)
 ·have lt_j : j < 2 := by have h9 := of_decide_eq_true h1; omega
  refine rn [12,7,8,14,8] ?_
  rcases (show j = 0 ∨ j = 1 by omega) with rfl | rfl
  ·have hXY : (stW (RG.l g) L 0).length = (stW (RG.l g) L 1).length := (zip_len hL).symm
   have hX : ∀ x ∈ stW (RG.l g) L 0, VO x := hvo
   have hY : ∀ x ∈ stW (RG.l g) L 1, VO x := fun x hx => (zip_mem hx).elim (hvo x) (hvL x)
   have hXl : (stW (RG.l g) L 0).length = L.length := hL.symm
   have hSm : ∀ k, k ≤ L.length → (bals (stp (stW (RG.l g) L 0) (stW (RG.l g) L 1) k)).sum ≤ 18446744073709551615 := fun k hk => Int.le_trans (stp_dn hXY (fun i a b ha hb => by
     have hi := (List.getElem?_eq_some_iff.1 ha).1
     have hi : i < (RG.l g).length := hi
     rw [zip_at hL hi] at hb; injection hb with hb; rw [show (stW (RG.l g) L 0) = RG.l g from rfl, List.getElem?_eq_getElem hi] at ha; injection ha with ha; rw [← ha, ← hb]; exact (lo_le _ _).1) (by omega)) hg.mx
   refine rn [10] ?_
   refine s_q (sJ (i := 0) (v := .bool false) rfl rfl rfl (by decide) rfl) rfl ?_
   refine rn [3,0,1,2,47,2,0,14] ?_
   refine g_lk [0, 1, 5, 10, 11, 14, 15] (fun (x : Nat × RG) => [(16, .int .i64 ((x.1 : Nat) : Int))]) (fun (x : Nat × RG) => [Res.blk eb 112 (ECell rb cb lb bb ub mb xb pb gb tb c lA (lv.length) lc), RgB rb x.2, RgW x.2, Res.im (RG.m x.2)]) (fun (x : Nat × RG) => x.1 ≤ L.length ∧ RG.Rep x.2 ∧ RG.l x.2 = stp (stW (RG.l g) L 0) (stW (RG.l g) L 1) x.1 ∧ RG.cp x.2 = RG.cp g) (fun (x : Nat × RG) => L.length - x.1) (0, g8) (by (try dsimp only); exact ⟨Nat.zero_le _, hr8, (by rw [stp_zero]; exact hl8), hc8⟩) ?_
   rintro ⟨k, g9⟩ ⟨le_k, hr9, hl9, hc9⟩
   replace le_k : k ≤ L.length := le_k
   replace hr9 : RG.Rep g9 := hr9
   replace hl9 : RG.l g9 = stp (stW (RG.l g) L 0) (stW (RG.l g) L 1) k := hl9
   replace hc9 : RG.cp g9 = RG.cp g := hc9
   refine zX (L' := [Res.blk eb 112 (ECell rb cb lb bb ub mb xb pb gb tb c lA (lv.length) lc), RgB rb g9, RgW g9, Res.im (RG.m g9)]) rfl ?_
   refine g_val 16 (v' := .int .i64 ((k : Nat) : Int)) rfl rfl ?_
   refine rn [1,46,0,8] ?_
   refine zC rfl (fun h2 => ?_) (fun h2 => ?_)
   ·have lt_k : k < L.length := by have h9 := of_decide_eq_true h2; omega
    have lt_X : k < _ := hXl.symm ▸ lt_k
    have hgo : (gotV (RG.l g9) (k : Int)) = _ := (congrArg (fun z => gotV z (k : Int)) hl9).trans (stp_get hXY lt_X)
    refine rn [12,7,8,14,1,2] ?_
    refine s_q (zR (i := k) rfl rfl rfl hLr.rdb (by first | exact lt_k | omega)) rfl ?_
    refine s_q (zT (i := k) rfl hLr.rdb (zS (by first | exact (by first | exact lt_k | omega) | omega | (simp_all; done) | (simp_all; omega))) rfl) rfl ?_
    refine g_op (zI rfl fun b7 => ?_)
    refine rn [3,33,0,1,2,6,4,4,5,2] ?_
    refine g_op (zL _ rfl (fun w1 hw1 ho1 => by exact xU rb g9 (((k : Nat) : Int)) w1 ho1) rfl ?_)
    refine rn [2,40,40] ?_
    refine g_op (zI rfl fun b8 => ?_)
    refine rn [33,3,0,1,4,5,4,5,55,2] ?_
    refine s_q (pG (by kernel_rfl) rfl rfl) rfl ?_
    refine rn [0] ?_
    refine zC rfl (fun h3 => ?_) (fun h3 => ?_)
    ·have hnl : ¬ (RG.l g)[k].bal < L[k].bal := by have h9 := h3; rw [hgo] at h9; simp at h9; exact Int.not_lt.2 h9
     have hst : (stW (RG.l g) L 1)[k]'(hXY ▸ lt_X) = L[k] := by rw [zip_get hL lt_X]; unfold loV; rw [if_neg hnl]
     have hchg := stp_chg hXY lt_X hst hX hY (hSm (k + 1) (by omega)) hl9
     refine dregL (L0 := [Res.blk eb 112 (ECell rb cb lb bb ub mb xb pb gb tb c lA (lv.length) lc), Res.blk b7 52 (V.c L[k])]) [] mixed rfl zB ?_
     refine rn [23,0,2,23,1,6,23,2,4] ?_
     refine dq 3 rfl (yS (c' := [Value.pointer (some ⟨rb, 0, none⟩)]) rfl rfl rfl) ?_
     refine rn [23,4,2,23,5,45] ?_
     refine dop 6 rfl (zH _ rfl (fun w1 hw1 ho1 => by have h7 := xB rb g9 (((k : Nat) : Int)) (L[k]) w1 ho1 hr9 hchg.1 hchg.2; exact h7) rfl ?_)
     rintro g44 ⟨r44, l44, c44⟩
     refine ii ?_
     refine rn [27,15,7,10,43,2,9] ?_
     exact g_ag ((k + 1), g44) (by (try dsimp only); exact ⟨(by first | exact lt_k | omega), r44, (by rw [l44, hl9]; exact rZ hXY lt_X hst), (by rw [c44]; exact hc9)⟩)
    ·have hnl : (RG.l g)[k].bal < L[k].bal := by have h9 := h3; rw [hgo] at h9; simp at h9; exact h9
     have hkp : (stW (RG.l g) L 1)[k]'(hXY ▸ lt_X) = (stW (RG.l g) L 0)[k] := by rw [zip_get hL lt_X]; unfold loV; rw [if_pos hnl]; rfl
     refine rn [12,15,7,10,43,2,9] ?_
     exact g_ag ((k + 1), g9) (by (try dsimp only); exact ⟨(by first | exact lt_k | omega), hr9, (by rw [stp_keep hXY lt_X hkp]; exact hl9), hc9⟩)
   ·have eq_k : k = L.length := by have h9 := of_decide_eq_false h2; omega
    refine rn [16] ?_
    refine zF (zF (zQ ?_))
    refine rn [15,7,10,43,2,9] ?_
    exact g_ag ((0 + 1), g9) (by (try dsimp only); exact ⟨(by omega), hr9, (by rw [hl9, eq_k, show L.length = (stW (RG.l g) L (0 + 1)).length from hXl.symm.trans hXY]; exact stp_all hXY), hc9⟩)
  ·have hXY : (stW (RG.l g) L 1).length = (stW (RG.l g) L 2).length := (zip_len hL).trans hL.symm
   have hX : ∀ x ∈ stW (RG.l g) L 1, VO x := fun x hx => (zip_mem hx).elim (hvo x) (hvL x)
   have hY : ∀ x ∈ stW (RG.l g) L 2, VO x := hvL
   have hXl : (stW (RG.l g) L 1).length = L.length := hXY
   have hSm : ∀ k, k ≤ L.length → (bals (stp (stW (RG.l g) L 1) (stW (RG.l g) L 2) k)).sum ≤ 18446744073709551615 := fun k hk => Int.le_trans (stp_up hXY (fun i a b ha hb => by
     have hi : i < L.length := (List.getElem?_eq_some_iff.1 hb).1
     rw [zip_at hL (by omega)] at ha; injection ha with ha; rw [show (stW (RG.l g) L 2) = L from rfl, List.getElem?_eq_getElem hi] at hb; injection hb with hb; rw [← ha, ← hb]; exact (lo_le _ _).2) (by omega)) hsL
   refine rn [10] ?_
   refine s_q (sJ (i := 1) (v := .bool true) rfl rfl rfl (by decide) rfl) rfl ?_
   refine rn [3,0,1,2,47,2,0,14] ?_
   refine g_lk [0, 1, 5, 10, 11, 14, 15] (fun (x : Nat × RG) => [(16, .int .i64 ((x.1 : Nat) : Int))]) (fun (x : Nat × RG) => [Res.blk eb 112 (ECell rb cb lb bb ub mb xb pb gb tb c lA (lv.length) lc), RgB rb x.2, RgW x.2, Res.im (RG.m x.2)]) (fun (x : Nat × RG) => x.1 ≤ L.length ∧ RG.Rep x.2 ∧ RG.l x.2 = stp (stW (RG.l g) L 1) (stW (RG.l g) L 2) x.1 ∧ RG.cp x.2 = RG.cp g) (fun (x : Nat × RG) => L.length - x.1) (0, g8) (by (try dsimp only); exact ⟨Nat.zero_le _, hr8, (by rw [stp_zero]; exact hl8), hc8⟩) ?_
   rintro ⟨k, g9⟩ ⟨le_k, hr9, hl9, hc9⟩
   replace le_k : k ≤ L.length := le_k
   replace hr9 : RG.Rep g9 := hr9
   replace hl9 : RG.l g9 = stp (stW (RG.l g) L 1) (stW (RG.l g) L 2) k := hl9
   replace hc9 : RG.cp g9 = RG.cp g := hc9
   refine zX (L' := [Res.blk eb 112 (ECell rb cb lb bb ub mb xb pb gb tb c lA (lv.length) lc), RgB rb g9, RgW g9, Res.im (RG.m g9)]) rfl ?_
   refine g_val 16 (v' := .int .i64 ((k : Nat) : Int)) rfl rfl ?_
   refine rn [1,46,0,8] ?_
   refine zC rfl (fun h4 => ?_) (fun h4 => ?_)
   ·have lt_k : k < L.length := by have h9 := of_decide_eq_true h4; omega
    have lt_X : k < _ := hXl.symm ▸ lt_k
    have hgo : (gotV (RG.l g9) (k : Int)) = _ := (congrArg (fun z => gotV z (k : Int)) hl9).trans (stp_get hXY lt_X)
    refine rn [12,7,8,14,1,2] ?_
    refine s_q (zR (i := k) rfl rfl rfl hLr.rdb (by first | exact lt_k | omega)) rfl ?_
    refine s_q (zT (i := k) rfl hLr.rdb (zS (by first | exact (by first | exact lt_k | omega) | omega | (simp_all; done) | (simp_all; omega))) rfl) rfl ?_
    refine g_op (zI rfl fun b7 => ?_)
    refine rn [3,33,0,1,2,6,4,4,5,2] ?_
    refine g_op (zL _ rfl (fun w1 hw1 ho1 => by exact xU rb g9 (((k : Nat) : Int)) w1 ho1) rfl ?_)
    refine rn [2,40,40] ?_
    refine g_op (zI rfl fun b8 => ?_)
    refine rn [33,3,0,1,4,5,4,5,55,2] ?_
    refine s_q (pG (by kernel_rfl) rfl rfl) rfl ?_
    refine rn [0] ?_
    refine zC rfl (fun h5 => ?_) (fun h5 => ?_)
    ·have hst : (stW (RG.l g) L 2)[k]'(hXY ▸ lt_X) = L[k] := rfl
     have hchg := stp_chg hXY lt_X hst hX hY (hSm (k + 1) (by omega)) hl9
     refine dregL (L0 := [Res.blk eb 112 (ECell rb cb lb bb ub mb xb pb gb tb c lA (lv.length) lc), Res.blk b7 52 (V.c L[k])]) [] mixed rfl zB ?_
     refine rn [23,0,2,23,1,6,23,2,4] ?_
     refine dq 3 rfl (yS (c' := [Value.pointer (some ⟨rb, 0, none⟩)]) rfl rfl rfl) ?_
     refine rn [23,4,2,23,5,45] ?_
     refine dop 6 rfl (zH _ rfl (fun w1 hw1 ho1 => by have h7 := xB rb g9 (((k : Nat) : Int)) (L[k]) w1 ho1 hr9 hchg.1 hchg.2; exact h7) rfl ?_)
     rintro g44 ⟨r44, l44, c44⟩
     refine ii ?_
     refine rn [27,15,7,10,43,2,9] ?_
     exact g_ag ((k + 1), g44) (by (try dsimp only); exact ⟨(by first | exact lt_k | omega), r44, (by rw [l44, hl9]; exact rZ hXY lt_X hst), (by rw [c44]; exact hc9)⟩)
    ·have hnl : ¬ ((stW (RG.l g) L 1)[k]).bal < L[k].bal := by have h9 := h5; rw [hgo] at h9; simpa using h9
     have hkp : (stW (RG.l g) L 2)[k]'(hXY ▸ lt_X) = (stW (RG.l g) L 1)[k] := by
       have hkl : k < (RG.l g).length := by omega
       rw [zip_get hL hkl] at hnl ⊢; unfold loV at hnl ⊢; by_cases hc : (RG.l g)[k].bal < L[k].bal
       · rw [if_pos hc] at hnl; exact absurd hc hnl
       · rw [if_neg hc]; rfl
     refine rn [12,15,7,10,43,2,9] ?_
     exact g_ag ((k + 1), g9) (by (try dsimp only); exact ⟨(by first | exact lt_k | omega), hr9, (by rw [stp_keep hXY lt_X hkp]; exact hl9), hc9⟩)
   ·have eq_k : k = L.length := by have h9 := of_decide_eq_false h4; omega
    refine rn [16] ?_
    refine zF (zF (zQ ?_))
    refine rn [15,7,10,43,2,9] ?_
    exact g_ag ((1 + 1), g9) (by (try dsimp only); exact ⟨(by omega), hr9, (by rw [hl9, eq_k, show L.length = (stW (RG.l g) L (1 + 1)).length from hXl.symm.trans hXY]; exact stp_all hXY), hc9⟩)
 ·have eq_j : j = 2 := by have h9 := of_decide_eq_false h1; omega
  refine rn [16] ?_
  refine zF (zF (zQ ?_))
  exact fin0 rfl (fun w' hw' => ⟨g8, (by exact ⟨hr8, by rw [hl8, eq_j]; rfl, hc8⟩), rfl, zA w' hw'⟩) _ (.inr rfl)
end Go.Proofs.YtdddiilocbbkkaaGreat
