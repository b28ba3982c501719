/- TopForced: for every configuration and all operations the law returns true. No condition. Part 28 of 42. -/
import Derived.Test.YtdddiilocbbkkaaGreatTF15
import Derived.Test.YtdddiilocbbkkaaGreatTF27
set_option linter.unusedVariables false
set_option linter.unusedSimpArgs false
namespace Go.Proofs.YtdddiilocbbkkaaGreat
open Go.RowKit Go.Eg
set_option maxHeartbeats 4000000
set_option synthInstance.maxSize 3000
set_option maxRecDepth 100000
theorem exit_eng (eb rb cb lb bb ub mb xb b0 b1 pb gb tb : Nat) (c : C) (blk : Nat) (g : RG) (dep paid burn : Int) (bo : List En) (lv : List Int) (cur : Nat) (m : M) (q : LL) (pend : List Int) (mg : List PP) (pt : List Rq) (br : BR) (lA : Option Addr) (lc : Nat) (g0 g1 gp gg gt : Rg) (y : Op) (w : World) (hw : W0 [Res.blk eb 112 (ECell rb cb lb bb ub mb xb pb gb tb c lA (lv.length) lc), RgB rb g, RgW g, Res.im (RG.m g), CkB cb (blk) (c.elen.toNat), bL_ xb b0 b1, rB_i b0 g0, rW_i g0, rB_i b1 g1, rW_i g1] w) (hi : Inv (Eg.mk c blk (RG.l g) dep paid burn bo lv cur m q pend mg pt)) (hg : g.Rep) (hcp : (g.cp : Int) = c.capa) (h0 : g0.Rep 1 (q.f.map (fun v : Int => [Value.int .i64 v]))) (h1_ : g1.Rep 1 (q.v.map (fun v : Int => [Value.int .i64 v]))) (s0 : Rg.size g0 = c.qsize.toNat) (s1 : Rg.size g1 = c.qsize.toNat) : Own2 (ι := (RG × Rg × Rg)) Tryz.prog 59 [.pointer (some ⟨eb, 0, none⟩), .agg y.c.toArray] w [Res.blk eb 112 (ECell rb cb lb bb ub mb xb pb gb tb c lA (lv.length) lc), RgB rb g, RgW g, Res.im (RG.m g), CkB cb (blk) (c.elen.toNat), bL_ xb b0 b1, rB_i b0 g0, rW_i g0, rB_i b1 g1, rW_i g1] (fun x => x.1.Rep ∧ x.1.l = (leaveE (Eg.mk c blk (RG.l g) dep paid burn bo lv cur m q pend mg pt) 1 y.i).1.l ∧ x.1.cp = g.cp ∧ x.2.1.Rep 1 ((leaveE (Eg.mk c blk (RG.l g) dep paid burn bo lv cur m q pend mg pt) 1 y.i).1.q.f.map (fun v : Int => [Value.int .i64 v])) ∧ x.2.2.Rep 1 ((leaveE (Eg.mk c blk (RG.l g) dep paid burn bo lv cur m q pend mg pt) 1 y.i).1.q.v.map (fun v : Int => [Value.int .i64 v])) ∧ x.2.1.size = c.qsize.toNat ∧ x.2.2.size = c.qsize.toNat) (fun x => .agg (Rs.c (leaveE (Eg.mk c blk (RG.l g) dep paid burn bo lv cur m q pend mg pt) 1 y.i).2).toArray) (fun x => []) (fun x => [Res.blk eb 112 (ECell rb cb lb bb ub mb xb pb gb tb c lA (lv.length) lc), RgB rb x.1, RgW x.1, Res.im (RG.m x.1), CkB cb (blk) (c.elen.toNat), bL_ xb b0 b1, rB_i b0 x.2.1, rW_i x.2.1, rB_i b1 x.2.2, rW_i x.2.2]) := by
 refine g_st Tryz.func59 9 hw ?_
 refine rn [1] ?_
 refine g_op (g_box rfl rfl rfl fun b3 => ?_)
 refine g_op (zI rfl fun b4 => ?_)
 refine rn [0,1,2,4,5] ?_
 refine g_op (zH _ rfl (fun w1 hw1 ho1 => by have h7 := leave_any eb rb cb lb bb ub mb xb b0 b1 pb gb tb c blk g dep paid burn bo lv cur m q pend mg pt br lA lc g0 g1 gp gg gt (1) ((y).i) w1 ho1 (hi) hg hcp h0 h1_ s0 s1 (by decide); exact h7) rfl ?_)
 rintro ⟨g8, ga8, gb8⟩ ⟨r8, l8, c8, ra8, rb8, sa8, sb8⟩
 refine ii ?_
 simp only at r8 l8 c8 ra8 rb8 sa8 sb8
 refine rn [33,0,11] ?_
 exact fin1 rfl (.cellw rfl rfl) (fun w' hw' => ⟨(g8, ga8, gb8), (by exact ⟨r8, l8, c8, ra8, rb8, sa8, sb8⟩), rfl, zA w' hw'⟩) _ (.inl rfl)
theorem eject_eng (eb rb cb lb bb ub mb xb b0 b1 pb gb tb : Nat) (c : C) (blk : Nat) (g : RG) (dep paid burn : Int) (bo : List En) (lv : List Int) (cur : Nat) (m : M) (q : LL) (pend : List Int) (mg : List PP) (pt : List Rq) (br : BR) (lA : Option Addr) (lc : Nat) (g0 g1 gp gg gt : Rg) (y : Op) (w : World) (hw : W0 [Res.blk eb 112 (ECell rb cb lb bb ub mb xb pb gb tb c lA (lv.length) lc), RgB rb g, RgW g, Res.im (RG.m g), CkB cb (blk) (c.elen.toNat), bL_ xb b0 b1, rB_i b0 g0, rW_i g0, rB_i b1 g1, rW_i g1] w) (hi : Inv (Eg.mk c blk (RG.l g) dep paid burn bo lv cur m q pend mg pt)) (hg : g.Rep) (hcp : (g.cp : Int) = c.capa) (h0 : g0.Rep 1 (q.f.map (fun v : Int => [Value.int .i64 v]))) (h1_ : g1.Rep 1 (q.v.map (fun v : Int => [Value.int .i64 v]))) (s0 : Rg.size g0 = c.qsize.toNat) (s1 : Rg.size g1 = c.qsize.toNat) : Own2 (ι := (RG × Rg × Rg)) Tryz.prog 60 [.pointer (some ⟨eb, 0, none⟩), .agg y.c.toArray] w [Res.blk eb 112 (ECell rb cb lb bb ub mb xb pb gb tb c lA (lv.length) lc), RgB rb g, RgW g, Res.im (RG.m g), CkB cb (blk) (c.elen.toNat), bL_ xb b0 b1, rB_i b0 g0, rW_i g0, rB_i b1 g1, rW_i g1] (fun x => x.1.Rep ∧ x.1.l = (leaveE (Eg.mk c blk (RG.l g) dep paid burn bo lv cur m q pend mg pt) 0 y.i).1.l ∧ x.1.cp = g.cp ∧ x.2.1.Rep 1 ((leaveE (Eg.mk c blk (RG.l g) dep paid burn bo lv cur m q pend mg pt) 0 y.i).1.q.f.map (fun v : Int => [Value.int .i64 v])) ∧ x.2.2.Rep 1 ((leaveE (Eg.mk c blk (RG.l g) dep paid burn bo lv cur m q pend mg pt) 0 y.i).1.q.v.map (fun v : Int => [Value.int .i64 v])) ∧ x.2.1.size = c.qsize.toNat ∧ x.2.2.size = c.qsize.toNat) (fun x => .agg (Rs.c (leaveE (Eg.mk c blk (RG.l g) dep paid burn bo lv cur m q pend mg pt) 0 y.i).2).toArray) (fun x => []) (fun x => [Res.blk eb 112 (ECell rb cb lb bb ub mb xb pb gb tb c lA (lv.length) lc), RgB rb x.1, RgW x.1, Res.im (RG.m x.1), CkB cb (blk) (c.elen.toNat), bL_ xb b0 b1, rB_i b0 x.2.1, rW_i x.2.1, rB_i b1 x.2.2, rW_i x.2.2]) := by
 refine g_st Tryz.func60 9 hw ?_
 refine rn [1] ?_
 refine g_op (g_box rfl rfl rfl fun b3 => ?_)
 refine g_op (zI rfl fun b4 => ?_)
 refine rn [0,1,2,4,5] ?_
 refine g_op (zH _ rfl (fun w1 hw1 ho1 => by have h7 := leave_any eb rb cb lb bb ub mb xb b0 b1 pb gb tb c blk g dep paid burn bo lv cur m q pend mg pt br lA lc g0 g1 gp gg gt (0) ((y).i) w1 ho1 (hi) hg hcp h0 h1_ s0 s1 (by decide); exact h7) rfl ?_)
 rintro ⟨g8, ga8, gb8⟩ ⟨r8, l8, c8, ra8, rb8, sa8, sb8⟩
 refine ii ?_
 simp only at r8 l8 c8 ra8 rb8 sa8 sb8
 refine rn [33,0,11] ?_
 exact fin1 rfl (.cellw rfl rfl) (fun w' hw' => ⟨(g8, ga8, gb8), (by exact ⟨r8, l8, c8, ra8, rb8, sa8, sb8⟩), rfl, zA w' hw'⟩) _ (.inl rfl)
theorem cons_any (eb rb cb lb bb ub mb xb b0 b1 pb gb tb : Nat) (c : C) (blk : Nat) (g : RG) (dep paid burn : Int) (bo : List En) (lv : List Int) (cur : Nat) (m : M) (q : LL) (pend : List Int) (mg : List PP) (pt : List Rq) (br : BR) (lA : Option Addr) (lc : Nat) (g0 g1 gp gg gt : Rg) (y : Op) (w : World) (hw : W0 [Res.blk eb 112 (ECell rb cb lb bb ub mb xb pb gb tb c lA (lv.length) lc), RgB rb g, RgW g, Res.im (RG.m g), rB_pp gb gg, rW_pp gg] w) (hi : Inv (Eg.mk c blk (RG.l g) dep paid burn bo lv cur m q pend mg pt)) (hg : g.Rep) (hcp : (g.cp : Int) = c.capa) (hgg : gg.Rep 2 (mg.map PP.c)) (sgg : Rg.size gg = c.qsize.toNat) : Own2 (ι := Rg) Tryz.prog 62 [.pointer (some ⟨eb, 0, none⟩), .agg y.c.toArray] w [Res.blk eb 112 (ECell rb cb lb bb ub mb xb pb gb tb c lA (lv.length) lc), RgB rb g, RgW g, Res.im (RG.m g), rB_pp gb gg, rW_pp gg] (fun x => x.Rep 2 ((consE (Eg.mk c blk (RG.l g) dep paid burn bo lv cur m q pend mg pt) y.i y.t).1.mg.map PP.c) ∧ x.size = c.qsize.toNat) (fun x => .agg (Rs.c (consE (Eg.mk c blk (RG.l g) dep paid burn bo lv cur m q pend mg pt) y.i y.t).2).toArray) (fun x => []) (fun x => [Res.blk eb 112 (ECell rb cb lb bb ub mb xb pb gb tb c lA (lv.length) lc), RgB rb g, RgW g, Res.im (RG.m g), rB_pp gb x, rW_pp x]) := by
 refine g_st Tryz.func62 41 hw ?_
 have hok : Cok c := hi.cok
 have hmo : Cmo c := xD hi.cc
 have hblk : blk ≤ 1000000000 := hi.blk
 have hk : blk < 4611686018427387904 := by omega
 have hel : 1 ≤ c.elen.toNat ∧ c.elen.toNat ≤ 4611686018427387904 := by have := hok.elen; omega
 have hled : LOk c.supc dep paid burn := hi.led
 have hqf : q.f.length ≤ c.qsize.toNat ∧ q.v.length ≤ c.qsize.toNat := hi.qf
 have hsum : (bals (RG.l g)).sum = dep - paid - burn := hi.sum
 have hvo : ∀ i, hasV (RG.l g) i = true → VO (gotV (RG.l g) i) := hi.vo
 have hqs := hmo.qsize
 have hgl := hg.le; have hgc := hg.cp
 refine rn [1] ?_
 refine g_op (g_box rfl rfl rfl fun b3 => ?_)
 refine g_op (zI rfl fun b4 => ?_)
 refine rn [0,8,8] ?_
 refine dreg [] mixed rfl ?_
 refine rn [23,0,2,23,1,6,23,2,4,23,3,4,23,4,5,23,6,4,23,7,5,23,8,4,23,9,5,23,10,2,23,11,6,23,12,4] ?_
 refine dq 13 rfl (yS (c' := C.c c) rfl rfl rfl) ?_
 refine dop 5 rfl (zH _ rfl (fun w1 hw1 ho1 => by have h7 := rall_any rb g w1 ho1 hg; exact h7) rfl ?_)
 rintro ⟨A11, cap11⟩ _
 refine ii ?_
 refine dop 14 rfl (zG rfl (fun w1 hw1 => req_any A11 ((RG.l g).length) (cap11) ((RG.l g)) (_) (_) _ w1 (Rdb.toOld (InRow.rdb (A := A11) (els := ((RG.l g)).map V.c) (by first | rfl | assumption | (simp; done) | (simp_all; done) | (simp; omega) | (simp_all; omega)) (zM (c := V.c) (fun _ => rfl) _)) hw1) (fun z hz => (hg.ok z hz).bal) (by first | omega | (simp; omega))) rfl ?_)
 refine rn [23,15,3,27,7,1,2,51,0] ?_
 refine zC rfl (fun h1 => ?_) (fun h1 => ?_)
 ·have n1 : (reqV (RG.l g) y.i y.t c) ≠ 0 := by have h9 := h1; simpa using h9
  have hb : (consE (Eg.mk c blk (RG.l g) dep paid burn bo lv cur m q pend mg pt) y.i y.t) = ((Eg.mk c blk (RG.l g) dep paid burn bo lv cur m q pend mg pt), ⟨(reqV (RG.l g) y.i y.t c), 0, 0⟩) := by
    unfold consE; dsimp only; rw [if_pos n1]
  refine rn [1,2] ?_
  refine g_op (zG rfl (fun w1 hw1 => by exact yI ((reqV ((RG.l g)) ((y).i) ((y).t) c)) w1) rfl ?_)
  refine rn [33,0,11,13] ?_
  exact fin1 rfl (.cellw rfl rfl) (fun w' hw' => ⟨gg, (by (rw [hb]; exact ⟨hgg, sgg⟩)), by rw [hb]; rfl, zA w' hw'⟩) _ (.inl rfl)
 ·have n1 : (reqV (RG.l g) y.i y.t c) = 0 := by have h9 := h1; simpa using h9
  refine rn [12,7,8,8] ?_
  refine dregL (L0 := [Res.blk eb 112 (ECell rb cb lb bb ub mb xb pb gb tb c lA (lv.length) lc), Res.blk b3 35 y.c]) [] mixed rfl zB ?_
  refine rn [23,0,2,23,1,6,23,2,4,23,3,5,23,4,4,23,5,5,23,6,4,23,7,5,23,8,49] ?_
  refine dop 9 rfl (g_lit rfl rfl rfl rfl rfl fun b34 => ?_)
  refine zJ (b := b34) ((([(PP.mk y.i y.t)] : List PP).map PP.c).flatten) rfl ?_
  refine dop 10 rfl (zH _ rfl (fun w1 hw1 ho1 => by have h7 := push_pp gb gg mg [(PP.mk y.i y.t)] (some ⟨b34, 0, none⟩) 1 w1 ho1 hgg (Rd.ofBlk (b := b34) hw1 rfl (by simp [PP.c]) rfl) (by simp); exact h7) rfl ?_)
  rintro g35 ⟨r35, s35⟩
  refine ii ?_
  refine rn [23,11,44,27,7] ?_
  refine zC rfl (fun h2 => ?_) (fun h2 => ?_)
  ·have n2 : c.qsize.toNat - mg.length = 0 := by have h9 := h2; simp at h9; omega
   have hb : (consE (Eg.mk c blk (RG.l g) dep paid burn bo lv cur m q pend mg pt) y.i y.t) = ((Eg.mk c blk (RG.l g) dep paid burn bo lv cur m q pend mg pt), ⟨6, 0, 0⟩) := by
     unfold consE; dsimp only; rw [if_neg (fun h => h n1), if_pos n2]
   refine rn [1] ?_
   refine g_op (zG rfl (fun w1 hw1 => by exact yI (6) w1) rfl ?_)
   refine rn [33,0,11,13] ?_
   exact fin1 rfl (.cellw rfl rfl) (fun w' hw' => ⟨g35, (by (try dsimp only); (rw [hb]; have h8 := r35; rw [show (min ([(PP.mk y.i y.t)] : List PP).length (Rg.size gg - (mg).length)) = 0 by simp; omega] at h8; exact ⟨by simpa using h8, by omega⟩)), by rw [hb]; rfl, zA w' hw'⟩) _ (.inl rfl)
  ·have n2 : ¬ c.qsize.toNat - mg.length = 0 := by have h9 := h2; simp at h9; omega
   have hb : (consE (Eg.mk c blk (RG.l g) dep paid burn bo lv cur m q pend mg pt) y.i y.t) = ((Eg.mk c blk (RG.l g) dep paid burn bo lv cur m q pend (mg ++ [PP.mk y.i y.t]) pt), ⟨0, y.i, -1⟩) := by
     unfold consE; dsimp only; rw [if_neg (fun h => h n1), if_neg n2]
   refine rn [12,7,1,4,5] ?_
   refine g_op (zG rfl (fun w1 hw1 => by exact xI ((y).i) ((-1)) w1) rfl ?_)
   refine rn [33,0,11] ?_
   exact fin1 rfl (.cellw rfl rfl) (fun w' hw' => ⟨g35, (by (try dsimp only); (rw [hb]; have h8 := r35; rw [show (min ([(PP.mk y.i y.t)] : List PP).length (Rg.size gg - (mg).length)) = 1 by simp; omega] at h8; exact ⟨by simpa using h8, by omega⟩)), by rw [hb]; rfl, zA w' hw'⟩) _ (.inl rfl)
theorem part_any (eb rb cb lb bb ub mb xb b0 b1 pb gb tb : Nat) (c : C) (blk : Nat) (g : RG) (dep paid burn : Int) (bo : List En) (lv : List Int) (cur : Nat) (m : M) (q : LL) (pend : List Int) (mg : List PP) (pt : List Rq) (br : BR) (lA : Option Addr) (lc : Nat) (g0 g1 gp gg gt : Rg) (y : Op) (w : World) (hw : W0 [Res.blk eb 112 (ECell rb cb lb bb ub mb xb pb gb tb c lA (lv.length) lc), RgB rb g, RgW g, Res.im (RG.m g), rB_rq tb gt, rW_rq gt] w) (hi : Inv (Eg.mk c blk (RG.l g) dep paid burn bo lv cur m q pend mg pt)) (hg : g.Rep) (hcp : (g.cp : Int) = c.capa) (hgt : gt.Rep 2 (pt.map Rq.c)) (sgt : Rg.size gt = c.qsize.toNat) : Own2 (ι := Rg) Tryz.prog 63 [.pointer (some ⟨eb, 0, none⟩), .agg y.c.toArray] w [Res.blk eb 112 (ECell rb cb lb bb ub mb xb pb gb tb c lA (lv.length) lc), RgB rb g, RgW g, Res.im (RG.m g), rB_rq tb gt, rW_rq gt] (fun x => x.Rep 2 ((partE (Eg.mk c blk (RG.l g) dep paid burn bo lv cur m q pend mg pt) y.i y.a).1.pt.map Rq.c) ∧ x.size = c.qsize.toNat) (fun x => .agg (Rs.c (partE (Eg.mk c blk (RG.l g) dep paid burn bo lv cur m q pend mg pt) y.i y.a).2).toArray) (fun x => []) (fun x => [Res.blk eb 112 (ECell rb cb lb bb ub mb xb pb gb tb c lA (lv.length) lc), RgB rb g, RgW g, Res.im (RG.m g), rB_rq tb x, rW_rq x]) := by
 refine g_st Tryz.func63 36 hw ?_
 have hok : Cok c := hi.cok
 have hmo : Cmo c := xD hi.cc
 have hblk : blk ≤ 1000000000 := hi.blk
 have hk : blk < 4611686018427387904 := by omega
 have hel : 1 ≤ c.elen.toNat ∧ c.elen.toNat ≤ 4611686018427387904 := by have := hok.elen; omega
 have hled : LOk c.supc dep paid burn := hi.led
 have hqf : q.f.length ≤ c.qsize.toNat ∧ q.v.length ≤ c.qsize.toNat := hi.qf
 have hsum : (bals (RG.l g)).sum = dep - paid - burn := hi.sum
 have hvo : ∀ i, hasV (RG.l g) i = true → VO (gotV (RG.l g) i) := hi.vo
 have hqs := hmo.qsize
 have hgl := hg.le; have hgc := hg.cp
 refine rn [1] ?_
 refine g_op (g_box rfl rfl rfl fun b3 => ?_)
 refine g_op (zI rfl fun b4 => ?_)
 refine rn [0,1,4,5,4,5,49] ?_
 refine g_op (zI rfl fun b5 => ?_)
 refine rn [33] ?_
 refine zJ (b := b5) (Rq.c (Rq.mk y.i y.a)) rfl ?_
 refine rn [0,8,8] ?_
 refine dreg [] mixed rfl ?_
 refine rn [23,0,2,23,1,6,23,2,4,23,3,4,23,4,5,23,6,45] ?_
 refine dop 5 rfl (zH _ rfl (fun w1 hw1 ho1 => by have h7 := rall_any rb g w1 ho1 hg; exact h7) rfl ?_)
 rintro ⟨A17, cap17⟩ _
 refine ii ?_
 refine dop 7 rfl (zG rfl (fun w1 hw1 => pcheck_any A17 (RG.l g).length cap17 (RG.l g) (Rq.mk y.i y.a) w1 (Rdb.toOld (InRow.rdb (A := A17) (els := ((RG.l g)).map V.c) (by first | rfl | assumption | (simp; done) | (simp_all; done) | (simp; omega) | (simp_all; omega)) (zM (c := V.c) (fun _ => rfl) _)) hw1) (by omega)) rfl ?_)
 refine rn [23,8,3,27,7,1,2,51,0] ?_
 refine zC rfl (fun h1 => ?_) (fun h1 => ?_)
 ·have n1 : (prtC (RG.l g) y.i y.a) ≠ 0 := by have h9 := h1; simpa using h9
  have hb : (partE (Eg.mk c blk (RG.l g) dep paid burn bo lv cur m q pend mg pt) y.i y.a) = ((Eg.mk c blk (RG.l g) dep paid burn bo lv cur m q pend mg pt), ⟨(prtC (RG.l g) y.i y.a), 0, 0⟩) := by
    unfold partE; dsimp only; rw [if_pos n1]
  refine rn [1,2] ?_
  refine g_op (zG rfl (fun w1 hw1 => by exact yI ((prtC (RG.l g) ((Rq.mk y.i y.a)).i ((Rq.mk y.i y.a)).m)) w1) rfl ?_)
  refine rn [33,0,11,13] ?_
  exact fin1 rfl (.cellw rfl rfl) (fun w' hw' => ⟨gt, (by (rw [hb]; exact ⟨hgt, sgt⟩)), by rw [hb]; rfl, zA w' hw'⟩) _ (.inl rfl)
 ·have n1 : (prtC (RG.l g) y.i y.a) = 0 := by have h9 := h1; simpa using h9
  refine rn [12,7,8,8] ?_
  refine dregL (L0 := [Res.blk eb 112 (ECell rb cb lb bb ub mb xb pb gb tb c lA (lv.length) lc), Res.blk b5 110 (Rq.c (Rq.mk y.i y.a))]) [] mixed rfl zB ?_
  refine rn [23,0,2,23,1,6,23,2,4,23,3,5,23,4,45] ?_
  refine dop 5 rfl (g_lit rfl rfl rfl rfl rfl fun b29 => ?_)
  refine zJ (b := b29) ((([(Rq.mk y.i y.a)] : List Rq).map Rq.c).flatten) rfl ?_
  refine dop 6 rfl (zH _ rfl (fun w1 hw1 ho1 => by have h7 := push_rq tb gt pt [(Rq.mk y.i y.a)] (some ⟨b29, 0, none⟩) 1 w1 ho1 hgt (Rd.ofBlk (b := b29) hw1 rfl (by simp [Rq.c]) rfl) (by simp); exact h7) rfl ?_)
  rintro g30 ⟨r30, s30⟩
  refine ii ?_
  refine rn [23,7,44,27,7] ?_
  refine zC rfl (fun h2 => ?_) (fun h2 => ?_)
  ·have n2 : c.qsize.toNat - pt.length = 0 := by have h9 := h2; simp at h9; omega
   have hb : (partE (Eg.mk c blk (RG.l g) dep paid burn bo lv cur m q pend mg pt) y.i y.a) = ((Eg.mk c blk (RG.l g) dep paid burn bo lv cur m q pend mg pt), ⟨6, 0, 0⟩) := by
     unfold partE; dsimp only; rw [if_neg (fun h => h n1), if_pos n2]
   refine rn [1] ?_
   refine g_op (zG rfl (fun w1 hw1 => by exact yI (6) w1) rfl ?_)
   refine rn [33,0,11,13] ?_
   exact fin1 rfl (.cellw rfl rfl) (fun w' hw' => ⟨g30, (by (try dsimp only); (rw [hb]; have h8 := r30; rw [show (min ([(Rq.mk y.i y.a)] : List Rq).length (Rg.size gt - (pt).length)) = 0 by simp; omega] at h8; exact ⟨by simpa using h8, by omega⟩)), by rw [hb]; rfl, zA w' hw'⟩) _ (.inl rfl)
  ·have n2 : ¬ c.qsize.toNat - pt.length = 0 := by have h9 := h2; simp at h9; omega
   have hb : (partE (Eg.mk c blk (RG.l g) dep paid burn bo lv cur m q pend mg pt) y.i y.a) = ((Eg.mk c blk (RG.l g) dep paid burn bo lv cur m q pend mg (pt ++ [(Rq.mk y.i y.a)])), ⟨0, y.i, -1⟩) := by
     unfold partE; dsimp only; rw [if_neg (fun h => h n1), if_neg n2]
   refine rn [12,7,1,4,5] ?_
   refine g_op (zG rfl (fun w1 hw1 => by exact xI ((y).i) ((-1)) w1) rfl ?_)
   refine rn [33,0,11] ?_
   exact fin1 rfl (.cellw rfl rfl) (fun w' hw' => ⟨g30, (by (try dsimp only); (rw [hb]; have h8 := r30; rw [show (min ([(Rq.mk y.i y.a)] : List Rq).length (Rg.size gt - (pt).length)) = 1 by simp; omega] at h8; exact ⟨by simpa using h8, by omega⟩)), by rw [hb]; rfl, zA w' hw'⟩) _ (.inl rfl)
end Go.Proofs.YtdddiilocbbkkaaGreat
