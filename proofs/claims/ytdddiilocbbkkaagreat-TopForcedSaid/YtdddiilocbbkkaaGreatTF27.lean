/- TopForced: for every configuration and all operations the law returns true. No condition. Part 27 of 42. -/
import Derived.Test.YtdddiilocbbkkaaGreatTF26
set_option linter.unusedVariables false
set_option linter.unusedSimpArgs false
namespace Go.Proofs.YtdddiilocbbkkaaGreat
open Go.RowKit Go.Eg
set_option maxHeartbeats 4000000
set_option synthInstance.maxSize 3000
set_option maxRecDepth 100000
theorem chg_ok {l : List V} {i : Int} {v : V} (hv : ∀ j, hasV (l.set i.toNat v) j = true → VO (gotV (l.set i.toNat v) j)) (hs : (bals (l.set i.toNat v)).sum ≤ 18446744073709551615) (hh : hasV l i = true) :
  v.ok ∧ ∀ n : Nat, i = n → (h : n < l.length) → (l.map V.bal).sum - (l[n]).bal + v.bal ≤ 18446744073709551615 := by
 rw [xU hh] at hv hs
 have h1 : gotV (setV l i v) i = v := by rw [yZ]; simp [hh]
 have h2 : hasV (setV l i v) i = true := by rw [has_setV]; exact hh
 have h3 := hv i h2
 have h4 := bal_le hv h2
 rw [h1] at h3 h4
 have := h3.b; have := h3.s; have := h3.r; have := h3.x; have := h3.w; have := h3.d
 refine ⟨⟨by omega, by omega, by omega, by omega, by omega, by omega⟩, fun n hn h => ?_⟩
 rw [sum_setV _ _ _ hh, hn, yT h] at hs
 exact hs
theorem ahead_le {cl : Int} {q : LL} {n : Nat} (h : q.f.length ≤ n ∧ q.v.length ≤ n) (hn : n ≤ 4096) : (aheadL cl q).length ≤ 8192 := by
 unfold aheadL; split
 ·omega
 ·split <;> simp <;> omega
theorem VO.i64 {v : V} (h : VO v) (hb : v.bal ≤ 18446744073709551615) : okP v () := ⟨by have := h.s; omega, h.b, hb⟩
theorem leave_any (eb rb cb lb bb ub mb xb b0 b1 pb gb tb : Nat) (c : C) (blk : Nat) (g : RG) (dep paid burn : Int) (bo : List En) (lv : List Int) (cur : Nat) (m : M) (q : LL) (pend : List Int) (mg : List PP) (pt : List Rq) (br : BR) (lA : Option Addr) (lc : Nat) (g0 g1 gp gg gt : Rg) (cl i : Int) (w : World) (hw : W0 [Res.blk eb 112 (ECell rb cb lb bb ub mb xb pb gb tb c lA (lv.length) lc), RgB rb g, RgW g, Res.im (RG.m g), CkB cb (blk) (c.elen.toNat), bL_ xb b0 b1, rB_i b0 g0, rW_i g0, rB_i b1 g1, rW_i g1] w) (hi : Inv (Eg.mk c blk (RG.l g) dep paid burn bo lv cur m q pend mg pt)) (hg : g.Rep) (hcp : (g.cp : Int) = c.capa) (h0 : g0.Rep 1 (q.f.map (fun v : Int => [Value.int .i64 v]))) (h1_ : g1.Rep 1 (q.v.map (fun v : Int => [Value.int .i64 v]))) (s0 : Rg.size g0 = c.qsize.toNat) (s1 : Rg.size g1 = c.qsize.toNat) (hcl : cl = 0 ∨ cl = 1) : Own2 (ι := (RG × Rg × Rg)) Tryz.prog 109 [.pointer (some ⟨eb, 0, none⟩), .int .i64 cl, .int .i64 i] w [Res.blk eb 112 (ECell rb cb lb bb ub mb xb pb gb tb c lA (lv.length) lc), RgB rb g, RgW g, Res.im (RG.m g), CkB cb (blk) (c.elen.toNat), bL_ xb b0 b1, rB_i b0 g0, rW_i g0, rB_i b1 g1, rW_i g1] (fun x => x.1.Rep ∧ x.1.l = (leaveE (Eg.mk c blk (RG.l g) dep paid burn bo lv cur m q pend mg pt) cl i).1.l ∧ x.1.cp = g.cp ∧ x.2.1.Rep 1 ((leaveE (Eg.mk c blk (RG.l g) dep paid burn bo lv cur m q pend mg pt) cl i).1.q.f.map (fun v : Int => [Value.int .i64 v])) ∧ x.2.2.Rep 1 ((leaveE (Eg.mk c blk (RG.l g) dep paid burn bo lv cur m q pend mg pt) cl i).1.q.v.map (fun v : Int => [Value.int .i64 v])) ∧ x.2.1.size = c.qsize.toNat ∧ x.2.2.size = c.qsize.toNat) (fun x => .agg (Rs.c (leaveE (Eg.mk c blk (RG.l g) dep paid burn bo lv cur m q pend mg pt) cl i).2).toArray) (fun x => []) (fun x => [Res.blk eb 112 (ECell rb cb lb bb ub mb xb pb gb tb c lA (lv.length) lc), RgB rb x.1, RgW x.1, Res.im (RG.m x.1), CkB cb (blk) (c.elen.toNat), bL_ xb b0 b1, rB_i b0 x.2.1, rW_i x.2.1, rB_i b1 x.2.2, rW_i x.2.2]) := by
 refine g_st Tryz.func109 107 hw ?_
 have hok : Cok c := hi.cok
 have hmo : Cmo c := xD hi.cc
 have hblk : blk ≤ 1000000000 := hi.blk
 have hk : blk < 4611686018427387904 := by omega
 have hel : 1 ≤ c.elen.toNat ∧ c.elen.toNat ≤ 4611686018427387904 := by have := hok.elen; omega
 have hled : LOk c.supc dep paid burn := hi.led
 have hqf : q.f.length ≤ c.qsize.toNat ∧ q.v.length ≤ c.qsize.toNat := hi.qf
 have hsum : (bals (RG.l g)).sum = dep - paid - burn := hi.sum
 have hvo : ∀ i, hasV (RG.l g) i = true → VO (gotV (RG.l g) i) := hi.vo
 have hqs := hmo.qsize
 have hepb : 0 ≤ ((blk / c.elen.toNat : Nat) : Int) ∧ ((blk / c.elen.toNat : Nat) : Int) ≤ 1000000000 := hi.epb
 have hbs : (bals (RG.l g)).sum ≤ 18446744073709551615 := hg.mx
 refine rn [1] ?_
 refine g_op (zI rfl fun b6 => ?_)
 refine rn [0,1,2,6,4,4,5,2] ?_
 refine g_op (zK _ rfl (fun w1 hw1 ho1 => by exact xS rb g (i) w1 ho1) rfl ?_)
 refine rn [2,40,40] ?_
 refine g_op (zI rfl fun b7 => ?_)
 refine rn [33,3,0,8,1,2,48,0] ?_
 refine zC rfl (fun h1 => ?_) (fun h1 => ?_)
 ·have hb : (leaveE (Eg.mk c blk (RG.l g) dep paid burn bo lv cur m q pend mg pt) cl i) = ((Eg.mk c blk (RG.l g) dep paid burn bo lv cur m q pend mg pt), ⟨7, 0, 0⟩) := by
    unfold leaveE Eg.ep wgts bals; dsimp only; rw [if_pos (by have h9 := h1; simpa using h9)]
  refine rn [1] ?_
  refine g_op (zG rfl (fun w1 hw1 => by exact yI (7) w1) rfl ?_)
  refine rn [33,0,11,13] ?_
  exact fin1 rfl (.cellw rfl rfl) (fun w' hw' => ⟨(g, g0, g1), (by (rw [hb]; exact ⟨hg, rfl, rfl, h0, h1_, s0, s1⟩)), by rw [hb]; rfl, zA w' hw'⟩) _ (.inl rfl)
 ·have n1 : ¬ hasV (RG.l g) i = false := by have h9 := h1; simpa using h9
  have hh : hasV (RG.l g) i = true := by simpa using n1
  have hv0 := hvo i hh
  have hbl := bal_le hvo hh
  refine rn [12,7,8] ?_
  refine dreg [11] mixed rfl ?_
  refine rn [23,0,45,23,1,2,23,2,6,23,3,4,23,4,5] ?_
  refine dj [0, 1, 2, 6] (fun (x : Nat) => [(9, .pointer (some ⟨x, 0, none⟩)), (10, .int .i64 (accV (gotV (RG.l g) i) ((blk / c.elen.toNat : Nat) : Int)).2)]) (fun (x : Nat) => [Res.blk x 52 (V.c (accV (gotV (RG.l g) i) ((blk / c.elen.toNat : Nat) : Int)).1), Res.blk b7 52 (V.c (gotV (RG.l g) i)), Res.blk b6 128 [Value.int .i64 0, .int .i64 0, .int .i64 0], Res.blk eb 112 (ECell rb cb lb bb ub mb xb pb gb tb c lA (lv.length) lc), RgB rb g, RgW g, Res.im (RG.m g), CkB cb (blk) (c.elen.toNat), bL_ xb b0 b1, rB_i b0 g0, rW_i g0, rB_i b1 g1, rW_i g1]) ?_ ?_
  ·refine yB [5, 10] (by kernel_rfl) (by simp) zB ⟨dpick rfl (zK _ rfl (fun w1 hw1 ho1 => by exact zZ cb blk c.elen.toNat w1 ho1 (by omega) hel) rfl ?_), dpick rfl (zI rfl fun b9 => ?_), trivial⟩
   ·refine yB [6, 10] (by kernel_rfl) (by simp) zB ⟨dpick rfl (zG rfl (fun w1 hw1 => accept_any ((gotV (RG.l g) i)) ((((blk / c.elen.toNat) : Nat) : Int)) w1 ⟨by omega, by omega⟩ (hv0.i64 (by omega))) rfl ?_), dpick rfl (zI rfl fun b9 => ?_), trivial⟩
    ·refine rn [23,7,2,23,8,40,24,9,40] ?_
     refine dop 10 rfl (zI rfl fun b9 => ?_)
     refine dop 11 rfl (zL rfl rfl rfl rfl rfl ?_)
     refine rn [24,12,3,28] ?_
     exact g_jn b9
    ·refine dop 6 rfl (zG rfl (fun w1 hw1 => accept_any ((gotV (RG.l g) i)) ((((blk / c.elen.toNat) : Nat) : Int)) w1 ⟨by omega, by omega⟩ (hv0.i64 (by omega))) rfl ?_)
     refine rn [23,7,2,23,8,40,24,9,40] ?_
     refine dop 11 rfl (zL rfl rfl rfl rfl rfl ?_)
     refine rn [24,12,3,28] ?_
     exact g_jn b9
   ·refine dop 5 rfl (zK _ rfl (fun w1 hw1 ho1 => by exact zZ cb blk c.elen.toNat w1 ho1 (by omega) hel) rfl ?_)
    refine dop 6 rfl (zG rfl (fun w1 hw1 => accept_any ((gotV (RG.l g) i)) ((((blk / c.elen.toNat) : Nat) : Int)) w1 ⟨by omega, by omega⟩ (hv0.i64 (by omega))) rfl ?_)
    refine rn [23,7,2,23,8,40,24,9,40] ?_
    refine dop 11 rfl (zL rfl rfl rfl rfl rfl ?_)
    refine rn [24,12,3,28] ?_
    exact g_jn b9
  ·rintro b9
   refine rn [7,8,1,2,51,0] ?_
   refine zC rfl (fun h2 => ?_) (fun h2 => ?_)
   ·have n2 : ¬ (accV (gotV (RG.l g) i) ((blk / c.elen.toNat : Nat) : Int)).2 = 0 := by have h9 := h2; simpa using h9
    have hb : (leaveE (Eg.mk c blk (RG.l g) dep paid burn bo lv cur m q pend mg pt) cl i) = ((Eg.mk c blk (RG.l g) dep paid burn bo lv cur m q pend mg pt), ⟨(accV (gotV (RG.l g) i) ((blk / c.elen.toNat : Nat) : Int)).2, 0, 0⟩) := by
      unfold leaveE Eg.ep wgts bals; dsimp only; rw [if_neg n1, if_pos n2]
    refine rn [1,2] ?_
    refine g_op (zG rfl (fun w1 hw1 => by exact yI ((accV (gotV (RG.l g) i) (((blk / c.elen.toNat) : Nat) : Int)).2) w1) rfl ?_)
    refine rn [33,0,11,13] ?_
    exact fin1 rfl (.cellw rfl rfl) (fun w' hw' => ⟨(g, g0, g1), (by (rw [hb]; exact ⟨hg, rfl, rfl, h0, h1_, s0, s1⟩)), by rw [hb]; rfl, zA w' hw'⟩) _ (.inl rfl)
   ·have n2 : (accV (gotV (RG.l g) i) ((blk / c.elen.toNat : Nat) : Int)).2 = 0 := by have h9 := h2; simpa using h9
    have hab : U64 (accV (gotV (RG.l g) i) ((blk / c.elen.toNat : Nat) : Int)).1.bal := by
      have e9 := acc_eq (v := (gotV (RG.l g) i)) (e := ((blk / c.elen.toNat : Nat) : Int)) hepb
      rw [e9]; split
      · exact ⟨by simp [V.z], by simp [V.z]⟩
      · exact ⟨hv0.b, by simp only; omega⟩
    refine rn [12,7,8,1,2,6,4,5,2] ?_
    refine g_op (zK _ rfl (fun w1 hw1 ho1 => by exact lfree_any xb b0 b1 g0 g1 q c.qsize.toNat (cl) w1 ho1 h0 h1_ s0 s1 (by omega)) rfl ?_)
    refine rn [44,0] ?_
    refine zC rfl (fun h3 => ?_) (fun h3 => ?_)
    ·have hb : (leaveE (Eg.mk c blk (RG.l g) dep paid burn bo lv cur m q pend mg pt) cl i) = ((Eg.mk c blk (RG.l g) dep paid burn bo lv cur m q pend mg pt), ⟨6, 0, 0⟩) := by
       unfold leaveE Eg.ep wgts bals; dsimp only; rw [if_neg n1, if_neg (fun h => h n2), if_pos (by have h9 := h3; simpa using h9)]
     refine rn [1] ?_
     refine g_op (zG rfl (fun w1 hw1 => by exact yI (6) w1) rfl ?_)
     refine rn [33,0,11,13] ?_
     exact fin1 rfl (.cellw rfl rfl) (fun w' hw' => ⟨(g, g0, g1), (by (rw [hb]; exact ⟨hg, rfl, rfl, h0, h1_, s0, s1⟩)), by rw [hb]; rfl, zA w' hw'⟩) _ (.inl rfl)
    ·have n3 : ¬ freeL c.qsize.toNat cl q = 0 := by have h9 := h3; simpa using h9
     have hal : (aheadL cl q).length ≤ 8192 := ahead_le hqf (by omega)
     have hokb : okU ((RG.l g).map V.bal) := fun y hy => by
       obtain ⟨z, hz, rfl⟩ := List.mem_map.1 hy
       exact (hg.ok z hz).bal
     have haw : U64 (addV ((aheadL cl q).map (ofW ((RG.l g).map V.bal)))) := addV_U (okU_map hokb)
     refine rn [12,7,8] ?_
     refine dreg [] mixed rfl ?_
     refine rn [23,0,2,23,1,6,23,2,4] ?_
     refine dq 3 rfl (yS (c' := [Value.pointer (some ⟨rb, 0, none⟩)]) rfl rfl rfl) ?_
     refine rn [23,5,2,23,6,6,23,7,4,23,8,5,23,9,2] ?_
     refine dop 4 rfl (zH _ rfl (fun w1 hw1 ho1 => by have h7 := balances_tab rb g w1 ho1 hg; exact h7) rfl ?_)
     rintro ⟨A55, cap55⟩ _
     refine ii ?_
     refine dop 10 rfl (zH _ rfl (fun w1 hw1 ho1 => by have h7 := lahead_any xb b0 b1 g0 g1 q c.qsize.toNat (cl) w1 ho1 h0 h1_ s0 s1 (by omega); exact h7) rfl ?_)
     rintro ⟨A61, cap61⟩ _
     refine ii ?_
     refine dop 11 rfl (zG rfl (fun w1 hw1 => weight_any A55 A61 (((RG.l g).map V.bal).length) (cap55) ((aheadL (cl) q).length) (cap61) (((RG.l g).map V.bal)) ((aheadL (cl) q)) w1 (Rdb.toOld (InRow.rdb (A := A55) (els := (((RG.l g).map V.bal)).map (fun v : Int => [Value.int .u64 v])) (by first | rfl | assumption | (simp; done) | (simp_all; done) | (simp; omega) | (simp_all; omega)) (zM (c := (fun v : Int => [Value.int .u64 v])) (fun _ => rfl) _)) hw1) (Rdb.toOld (InRow.rdb (A := A61) (els := ((aheadL (cl) q)).map (fun v : Int => [Value.int .i64 v])) (by first | rfl | assumption | (simp; done) | (simp_all; done) | (simp; omega) | (simp_all; omega)) (zM (c := (fun v : Int => [Value.int .i64 v])) (fun _ => rfl) _)) hw1) hokb (by first | omega | (simp; omega) | (simp; done))) rfl ?_)
     refine rn [23,12,2,23,13,40,23,14,40,23,15,3,23,16,3,27,7,8] ?_
     refine dreg [] mixed rfl ?_
     refine rn [23,0,2,23,1,6,23,2,4,23,3,5,23,5,2,23,6,4,23,7,5,23,8,2,23,9,6,23,10,4] ?_
     refine dq 11 rfl (yS (c' := C.c c) rfl rfl rfl) ?_
     refine dop 4 rfl (zK _ rfl (fun w1 hw1 ho1 => by exact zZ cb blk c.elen.toNat w1 ho1 (by omega) hel) rfl ?_)
     refine dop 12 rfl (zG rfl (fun w1 hw1 => pay_any ((((blk / c.elen.toNat) : Nat) : Int)) ((addV (((aheadL (cl) q)).map (ofW ((RG.l g).map V.bal))))) (((accV (gotV (RG.l g) i) (((blk / c.elen.toNat) : Nat) : Int)).1).bal) (c) w1 haw hab hok ⟨by omega, by omega⟩) rfl ?_)
     refine rn [23,13,2,23,14,40,23,15,40,23,16,3,23,17,3,27,7,8,1,2,48,2] ?_
     refine zV 83 rfl (fun h4 => ?_) (fun h4 => ?_)
     ·have hb : (leaveE (Eg.mk c blk (RG.l g) dep paid burn bo lv cur m q pend mg pt) cl i) = ((Eg.mk c blk (RG.l g) dep paid burn bo lv cur m q pend mg pt), ⟨10, 0, 0⟩) := by
        unfold leaveE Eg.ep wgts bals; dsimp only; rw [if_neg n1, if_neg (fun h => h n2), if_neg n3, if_pos (.inl (by have h9 := h4; simpa using h9))]
      refine rn [21,21,41,0,19,1] ?_
      refine g_op (zG rfl (fun w1 hw1 => by exact yI (10) w1) rfl ?_)
      refine rn [33,0,11,13] ?_
      exact fin1 rfl (.cellw rfl rfl) (fun w' hw' => ⟨(g, g0, g1), (by (rw [hb]; exact ⟨hg, rfl, rfl, h0, h1_, s0, s1⟩)), by rw [hb]; rfl, zA w' hw'⟩) _ (.inl rfl)
     ·have n4 : addB ((aheadL cl q).map (ofW ((RG.l g).map V.bal))) = true := by have h9 := h4; simpa using h9
      refine rn [22,2,22,48,42,0] ?_
      refine zC rfl (fun h5 => ?_) (fun h5 => ?_)
      ·have hb : (leaveE (Eg.mk c blk (RG.l g) dep paid burn bo lv cur m q pend mg pt) cl i) = ((Eg.mk c blk (RG.l g) dep paid burn bo lv cur m q pend mg pt), ⟨10, 0, 0⟩) := by
         unfold leaveE Eg.ep wgts bals; dsimp only; rw [if_neg n1, if_neg (fun h => h n2), if_neg n3, if_pos (.inr (by have h9 := h5; simpa using h9))]
       refine rn [1] ?_
       refine g_op (zG rfl (fun w1 hw1 => by exact yI (10) w1) rfl ?_)
       refine rn [33,0,11,13] ?_
       exact fin1 rfl (.cellw rfl rfl) (fun w' hw' => ⟨(g, g0, g1), (by (rw [hb]; exact ⟨hg, rfl, rfl, h0, h1_, s0, s1⟩)), by rw [hb]; rfl, zA w' hw'⟩) _ (.inl rfl)
      ·have n5 : (bdsB ((blk / c.elen.toNat : Nat) : Int) (addV ((aheadL cl q).map (ofW ((RG.l g).map V.bal)))) (accV (gotV (RG.l g) i) ((blk / c.elen.toNat : Nat) : Int)).1.bal c [c.unb, sweepV c]) = true := by have h9 := h5; simpa using h9
       have hb : (leaveE (Eg.mk c blk (RG.l g) dep paid burn bo lv cur m q pend mg pt) cl i) = ((Eg.mk c blk ((RG.l g).set i.toNat (V.mk (accV (gotV (RG.l g) i) ((blk / c.elen.toNat : Nat) : Int)).1.bal (accV (gotV (RG.l g) i) ((blk / c.elen.toNat : Nat) : Int)).1.st (accV (gotV (RG.l g) i) ((blk / c.elen.toNat : Nat) : Int)).1.sl (accV (gotV (RG.l g) i) ((blk / c.elen.toNat : Nat) : Int)).1.rq (accV (gotV (RG.l g) i) ((blk / c.elen.toNat : Nat) : Int)).1.ex (accV (gotV (RG.l g) i) ((blk / c.elen.toNat : Nat) : Int)).1.wd (bdsV ((blk / c.elen.toNat : Nat) : Int) (addV ((aheadL cl q).map (ofW ((RG.l g).map V.bal)))) (accV (gotV (RG.l g) i) ((blk / c.elen.toNat : Nat) : Int)).1.bal c [c.unb, sweepV c]))) dep paid burn bo lv cur m (pushL c.qsize.toNat cl i q) pend mg pt), ⟨0, i, (bdsV ((blk / c.elen.toNat : Nat) : Int) (addV ((aheadL cl q).map (ofW ((RG.l g).map V.bal)))) (accV (gotV (RG.l g) i) ((blk / c.elen.toNat : Nat) : Int)).1.bal c [c.unb, sweepV c])⟩) := by
         unfold leaveE Eg.ep wgts bals; dsimp only; rw [if_neg n1, if_neg (fun h => h n2), if_neg n3, if_neg (by rw [n4, n5]; simp)]
       have hiN : Inv (Eg.mk c blk ((RG.l g).set i.toNat (V.mk (accV (gotV (RG.l g) i) ((blk / c.elen.toNat : Nat) : Int)).1.bal (accV (gotV (RG.l g) i) ((blk / c.elen.toNat : Nat) : Int)).1.st (accV (gotV (RG.l g) i) ((blk / c.elen.toNat : Nat) : Int)).1.sl (accV (gotV (RG.l g) i) ((blk / c.elen.toNat : Nat) : Int)).1.rq (accV (gotV (RG.l g) i) ((blk / c.elen.toNat : Nat) : Int)).1.ex (accV (gotV (RG.l g) i) ((blk / c.elen.toNat : Nat) : Int)).1.wd (bdsV ((blk / c.elen.toNat : Nat) : Int) (addV ((aheadL cl q).map (ofW ((RG.l g).map V.bal)))) (accV (gotV (RG.l g) i) ((blk / c.elen.toNat : Nat) : Int)).1.bal c [c.unb, sweepV c]))) dep paid burn bo lv cur m (pushL c.qsize.toNat cl i q) pend mg pt) := by have h9 := leaveE_inv hi hcl (i := i); rw [hb] at h9; exact h9
       have hchg := chg_ok (v := (V.mk (accV (gotV (RG.l g) i) ((blk / c.elen.toNat : Nat) : Int)).1.bal (accV (gotV (RG.l g) i) ((blk / c.elen.toNat : Nat) : Int)).1.st (accV (gotV (RG.l g) i) ((blk / c.elen.toNat : Nat) : Int)).1.sl (accV (gotV (RG.l g) i) ((blk / c.elen.toNat : Nat) : Int)).1.rq (accV (gotV (RG.l g) i) ((blk / c.elen.toNat : Nat) : Int)).1.ex (accV (gotV (RG.l g) i) ((blk / c.elen.toNat : Nat) : Int)).1.wd (bdsV ((blk / c.elen.toNat : Nat) : Int) (addV ((aheadL cl q).map (ofW ((RG.l g).map V.bal)))) (accV (gotV (RG.l g) i) ((blk / c.elen.toNat : Nat) : Int)).1.bal c [c.unb, sweepV c]))) hiN.vo (by have h9 := hiN.sum; have h8 := hiN.led; obtain ⟨e1, e2, e3, e4, e5, e6⟩ := h8; simp only at h9 e1 e2 e3 e4; omega) hh
       refine rn [12,7,1,2,4] ?_
       refine g_op (zP rfl rfl rfl rfl rfl rfl rfl ?_)
       refine zJ (b := b9) (V.c (V.mk (accV (gotV (RG.l g) i) ((blk / c.elen.toNat : Nat) : Int)).1.bal (accV (gotV (RG.l g) i) ((blk / c.elen.toNat : Nat) : Int)).1.st (accV (gotV (RG.l g) i) ((blk / c.elen.toNat : Nat) : Int)).1.sl (accV (gotV (RG.l g) i) ((blk / c.elen.toNat : Nat) : Int)).1.rq (accV (gotV (RG.l g) i) ((blk / c.elen.toNat : Nat) : Int)).1.ex (accV (gotV (RG.l g) i) ((blk / c.elen.toNat : Nat) : Int)).1.wd (bdsV ((blk / c.elen.toNat : Nat) : Int) (addV ((aheadL cl q).map (ofW ((RG.l g).map V.bal)))) (accV (gotV (RG.l g) i) ((blk / c.elen.toNat : Nat) : Int)).1.bal c [c.unb, sweepV c]))) (by simp [splice, V.c]) ?_
       refine rn [0,8] ?_
       refine dregL (L0 := [Res.blk eb 112 (ECell rb cb lb bb ub mb xb pb gb tb c lA (lv.length) lc), Res.blk b9 52 (V.c (V.mk (accV (gotV (RG.l g) i) ((blk / c.elen.toNat : Nat) : Int)).1.bal (accV (gotV (RG.l g) i) ((blk / c.elen.toNat : Nat) : Int)).1.st (accV (gotV (RG.l g) i) ((blk / c.elen.toNat : Nat) : Int)).1.sl (accV (gotV (RG.l g) i) ((blk / c.elen.toNat : Nat) : Int)).1.rq (accV (gotV (RG.l g) i) ((blk / c.elen.toNat : Nat) : Int)).1.ex (accV (gotV (RG.l g) i) ((blk / c.elen.toNat : Nat) : Int)).1.wd (bdsV ((blk / c.elen.toNat : Nat) : Int) (addV ((aheadL cl q).map (ofW ((RG.l g).map V.bal)))) (accV (gotV (RG.l g) i) ((blk / c.elen.toNat : Nat) : Int)).1.bal c [c.unb, sweepV c])))]) [] mixed rfl zB ?_
       refine rn [23,0,2,23,1,6,23,2,4] ?_
       refine dq 3 rfl (yS (c' := [Value.pointer (some ⟨rb, 0, none⟩)]) rfl rfl rfl) ?_
       refine rn [23,4,2,23,5,45] ?_
       refine dop 6 rfl (zH _ rfl (fun w1 hw1 ho1 => by have h7 := xB rb g (i) ((V.mk (accV (gotV (RG.l g) i) ((blk / c.elen.toNat : Nat) : Int)).1.bal (accV (gotV (RG.l g) i) ((blk / c.elen.toNat : Nat) : Int)).1.st (accV (gotV (RG.l g) i) ((blk / c.elen.toNat : Nat) : Int)).1.sl (accV (gotV (RG.l g) i) ((blk / c.elen.toNat : Nat) : Int)).1.rq (accV (gotV (RG.l g) i) ((blk / c.elen.toNat : Nat) : Int)).1.ex (accV (gotV (RG.l g) i) ((blk / c.elen.toNat : Nat) : Int)).1.wd (bdsV ((blk / c.elen.toNat : Nat) : Int) (addV ((aheadL cl q).map (ofW ((RG.l g).map V.bal)))) (accV (gotV (RG.l g) i) ((blk / c.elen.toNat : Nat) : Int)).1.bal c [c.unb, sweepV c]))) w1 ho1 hg hchg.1 hchg.2; exact h7) rfl ?_)
       rintro g96 ⟨r96, l96, c96⟩
       refine ii ?_
       refine rn [27,7,1,2,6,4,5,2,2] ?_
       refine g_op (zH _ rfl (fun w1 hw1 ho1 => by have h7 := lpush_any xb b0 b1 g0 g1 q c.qsize.toNat (cl) (i) w1 ho1 h0 h1_ s0 s1 (by omega); exact h7) rfl ?_)
       rintro ⟨g103, gg103⟩ ⟨r103, rr103, s103, ss103⟩
       refine ii ?_
       simp only at r103 rr103 s103 ss103
       refine rn [0,1,2,2] ?_
       refine g_op (zG rfl (fun w1 hw1 => by exact xI (i) ((bdsV ((blk / c.elen.toNat : Nat) : Int) (addV ((aheadL cl q).map (ofW ((RG.l g).map V.bal)))) (accV (gotV (RG.l g) i) ((blk / c.elen.toNat : Nat) : Int)).1.bal c [c.unb, sweepV c])) w1) rfl ?_)
       refine rn [33,0,11] ?_
       exact fin1 rfl (.cellw rfl rfl) (fun w' hw' => ⟨(g96, g103, gg103), (by (rw [hb]; exact ⟨r96, by rw [l96, xU hh], c96, r103, rr103, s103, ss103⟩)), by rw [hb]; rfl, zA w' hw'⟩) _ (.inl rfl)
end Go.Proofs.YtdddiilocbbkkaaGreat
