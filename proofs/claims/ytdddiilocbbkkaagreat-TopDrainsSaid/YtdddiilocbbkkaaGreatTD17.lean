/- TopDrains: for every configuration and all operations the law returns true. No condition. Part 17 of 28. -/
import Derived.Test.YtdddiilocbbkkaaGreatTD11
import Derived.Test.YtdddiilocbbkkaaGreatTD16
set_option linter.unusedVariables false
set_option linter.unusedSimpArgs false
namespace Go.Proofs.YtdddiilocbbkkaaGreat
open Go.RowKit Go.Eg
set_option maxHeartbeats 4000000
set_option synthInstance.maxSize 3000
set_option maxRecDepth 100000
def ECell (rb cb lb bb ub mb xb pb gb tb:Nat) (c:C) (lA:Option Addr) (n lc:Nat):List Value:=[Value.pointer (some ⟨rb,0,none⟩),.int .i64 c.capa,.int .i64 c.qsize,.int .u64 c.mind,.int .u64 c.maxd,.int .u64 c.supc,.int .u64 c.minb,.int .u64 c.maxb,.int .u64 c.minch,.int .u64 c.quot,.int .u64 c.fcap,.int .i64 c.unb,.int .i64 c.sld,.int .i64 c.rlen,.int .i64 c.elen,.int .i64 c.vis,.int .i64 c.pays,.int .i64 c.parts,.int .i64 c.merg,.int .u64 c.pnum,.int .u64 c.pden,.pointer (some ⟨cb,0,none⟩),.pointer (some ⟨lb,0,none⟩),.pointer (some ⟨bb,0,none⟩),.slice lA n lc,.pointer (some ⟨ub,0,none⟩),.pointer (some ⟨mb,0,none⟩),.pointer (some ⟨xb,0,none⟩),.pointer (some ⟨pb,0,none⟩),.pointer (some ⟨gb,0,none⟩),.pointer (some ⟨tb,0,none⟩)]
theorem deposit_any (eb rb cb lb bb ub mb xb b0 b1 pb gb tb:Nat) (c:C) (blk:Nat) (g:RG) (dep paid burn:Int) (bo:List En) (lv:List Int) (cur:Nat) (m:M) (q:LL) (pend:List Int) (mg:List PP) (pt:List Rq) (br:BR) (lA:Option Addr) (lc:Nat) (g0 g1 gp gg gt:Rg) (y:Op) (w:World) (hw:W0 [Res.blk eb 112 (ECell rb cb lb bb ub mb xb pb gb tb c lA (lv.length) lc),RgB rb g,RgW g,Res.im (RG.m g),LgB lb (dep) (paid) (burn) (c.supc),rB_i pb gp,rW_i gp] w) (hi:Inv (Eg.mk c blk (RG.l g) dep paid burn bo lv cur m q pend mg pt)) (hg:g.Rep) (hcp:(g.cp:Int)=c.capa) (hgp:gp.Rep 1 (pend.map (fun v:Int=>[Value.int .i64 v]))) (sgp:Rg.size gp=c.qsize.toNat) (ho:OpR y):Own2 (ι:=(RG × Rg)) Tryz.prog 58 [.pointer (some ⟨eb,0,none⟩),.agg y.c.toArray] w [Res.blk eb 112 (ECell rb cb lb bb ub mb xb pb gb tb c lA (lv.length) lc),RgB rb g,RgW g,Res.im (RG.m g),LgB lb (dep) (paid) (burn) (c.supc),rB_i pb gp,rW_i gp] (fun x=>x.1.Rep∧x.1.l=(depE (Eg.mk c blk (RG.l g) dep paid burn bo lv cur m q pend mg pt) y).1.l∧x.1.cp=g.cp∧x.2.Rep 1 ((depE (Eg.mk c blk (RG.l g) dep paid burn bo lv cur m q pend mg pt) y).1.pend.map (fun v:Int=>[Value.int .i64 v]))∧x.2.size=c.qsize.toNat) (fun x=>.agg (Rs.c (depE (Eg.mk c blk (RG.l g) dep paid burn bo lv cur m q pend mg pt) y).2).toArray) (fun x=>[]) (fun x=>[Res.blk eb 112 (ECell rb cb lb bb ub mb xb pb gb tb c lA (lv.length) lc),RgB rb x.1,RgW x.1,Res.im (RG.m x.1),LgB lb ((depE (Eg.mk c blk (RG.l g) dep paid burn bo lv cur m q pend mg pt) y).1.dep) (paid) (burn) (c.supc),rB_i pb x.2,rW_i x.2]):=by
 refine g_st Tryz.func58 82 hw ?_
 have hok:Cok c:=hi.cok
 have hmo:Cmo c:=yU hi.cc
 have hblk:blk≤1000000000:=hi.blk
 have hk:blk<4611686018427387904:=by omega
 have hel:1≤c.elen.toNat∧c.elen.toNat≤4611686018427387904:=by have:=hok.elen;omega
 have hled:LOk c.supc dep paid burn:=hi.led
 have hqf:q.f.length≤c.qsize.toNat∧q.v.length≤c.qsize.toNat:=hi.qf
 have hsum:(bals (RG.l g)).sum=dep-paid-burn:=hi.sum
 have hvo:∀i,hasV (RG.l g) i=true→VO (gotV (RG.l g) i):=hi.vo
 have hqs:=hmo.qsize
 refine rn [1] ?_
 refine g_op (g_box rfl rfl rfl fun b3=>?_)
 refine g_op (zK rfl fun b4=>?_)
 refine rn [0,8,14,8] ?_
 refine dreg [] mixed rfl ?_
 refine rn [23,0,4,23,1,5,23,2,2,23,3,6,23,4,4,23,5,4,23,6,5,23,7,46,23,8,2] ?_
 refine zU 17 rfl (fun h1=>?_) (fun h1=>?_)
 ·have hb:(depE (Eg.mk c blk (RG.l g) dep paid burn bo lv cur m q pend mg pt) y)=((Eg.mk c blk (RG.l g) dep paid burn bo lv cur m q pend mg pt),⟨3,0,0⟩):=by
    unfold depE;dsimp only;rw[if_pos (.inl (of_decide_eq_true h1))]
  refine rn [25,9,25,10,25,11,25,12,25,13,25,14,25,15,25,16,23,17,41,23,18,3,27,7,19,1] ?_
  refine g_op (zI rfl (fun w1 hw1=>by exact yK (3) w1) rfl ?_)
  refine rn [33,0,11] ?_
  refine zM (zE ?_)
  exact fin1 rfl (.cellw rfl rfl) (fun w' hw' => ⟨(g,gp),(by(rw[hb];exact⟨hg,rfl,rfl,hgp,sgp⟩)),by rw[hb];rfl,by rw[hb];exact zA w' hw'⟩) _ (.inl rfl)
 ·have n1:=of_decide_eq_false h1
  refine rn [26,9,4,26,10,5,26,11,2,26,12,6,26,13,4,26,14,4,26,15,5,26,16,55,23,17,42,23,18,3,27,7] ?_
  refine zC rfl (fun h2=>?_) (fun h2=>?_)
  ·have hb:(depE (Eg.mk c blk (RG.l g) dep paid burn bo lv cur m q pend mg pt) y)=((Eg.mk c blk (RG.l g) dep paid burn bo lv cur m q pend mg pt),⟨3,0,0⟩):=by
     unfold depE;dsimp only;rw[if_pos (.inr (of_decide_eq_true h2))]
   refine rn [1] ?_
   refine g_op (zI rfl (fun w1 hw1=>by exact yK (3) w1) rfl ?_)
   refine rn [33,0,11] ?_
   refine zM (zE ?_)
   exact fin1 rfl (.cellw rfl rfl) (fun w' hw' => ⟨(g,gp),(by(rw[hb];exact⟨hg,rfl,rfl,hgp,sgp⟩)),by rw[hb];rfl,by rw[hb];exact zA w' hw'⟩) _ (.inl rfl)
  ·have n2:=of_decide_eq_false h2
   refine rn [8] ?_
   refine dreg [] mixed rfl ?_
   refine rn [23,0,2,23,1,6,23,2,4,23,3,4,23,4,5,23,6,2,23,7,6,23,8,4,23,9,4,23,10,5] ?_
   refine dop 5 rfl (zL _ rfl (fun w1 hw1 ho1=>by exact rlen_any rb g w1 ho1) rfl ?_)
   refine rn [23,11,53,23,12,3,27,7] ?_
   refine zC rfl (fun h3=>?_) (fun h3=>?_)
   ·have hb:(depE (Eg.mk c blk (RG.l g) dep paid burn bo lv cur m q pend mg pt) y)=((Eg.mk c blk (RG.l g) dep paid burn bo lv cur m q pend mg pt),⟨5,0,0⟩):=by
      unfold depE;dsimp only;rw[if_neg (show¬(y.a<c.mind∨c.maxd<y.a) by omega),if_pos (of_decide_eq_true h3)]
    refine rn [1] ?_
    refine g_op (zI rfl (fun w1 hw1=>by exact yK (5) w1) rfl ?_)
    refine rn [33,0,11] ?_
    refine zM (zE ?_)
    exact fin1 rfl (.cellw rfl rfl) (fun w' hw' => ⟨(g,gp),(by(rw[hb];exact⟨hg,rfl,rfl,hgp,sgp⟩)),by rw[hb];rfl,by rw[hb];exact zA w' hw'⟩) _ (.inl rfl)
   ·have n3:=of_decide_eq_false h3
    refine rn [1,2,6,4,5] ?_
    refine g_op (zL _ rfl (fun w1 hw1 ho1=>by exact free_i pb gp pend w1 ho1 hgp) rfl ?_)
    refine rn [44,3,0] ?_
    refine zC rfl (fun h4=>?_) (fun h4=>?_)
    ·have hb:(depE (Eg.mk c blk (RG.l g) dep paid burn bo lv cur m q pend mg pt) y)=((Eg.mk c blk (RG.l g) dep paid burn bo lv cur m q pend mg pt),⟨6,0,0⟩):=by
       unfold depE;dsimp only;rw[if_neg (show¬(y.a<c.mind∨c.maxd<y.a) by omega),if_neg n3,if_pos (by have h9:=h4;simp at h9;omega)]
     refine rn [1] ?_
     refine g_op (zI rfl (fun w1 hw1=>by exact yK (6) w1) rfl ?_)
     refine rn [33,0,11] ?_
     refine zM (zE ?_)
     exact fin1 rfl (.cellw rfl rfl) (fun w' hw' => ⟨(g,gp),(by(rw[hb];exact⟨hg,rfl,rfl,hgp,sgp⟩)),by rw[hb];rfl,by rw[hb];exact zA w' hw'⟩) _ (.inl rfl)
    ·have n4:¬c.qsize.toNat-pend.length=0:=by have h9:=h4;simp at h9;omega
     refine rn [12,15,7,8,8] ?_
     refine dregL (L0:=[Res.blk eb 112 (ECell rb cb lb bb ub mb xb pb gb tb c lA (lv.length) lc),Res.blk b3 35 y.c]) [] mixed rfl zB ?_
     refine rn [23,0,2,23,1,6,23,2,4,23,3,5,23,4,4,23,5,5] ?_
     refine dop 6 rfl (zG _ rfl (fun w1 hw1 ho1=>by have h7:=ldep_any lb dep paid burn c.supc ((y).a) w1 ho1 hled ho.a;exact h7) rfl ?_)
     rintro⟨⟩ _
     refine ii ?_
     refine rn [23,7,3,27,7,1,2,51,0] ?_
     refine zC rfl (fun h5=>?_) (fun h5=>?_)
     ·have hl:¬(ledC c.supc dep paid burn y.a)=0:=by have h9:=h5;simpa using h9
      have hb:(depE (Eg.mk c blk (RG.l g) dep paid burn bo lv cur m q pend mg pt) y)=((Eg.mk c blk (RG.l g) dep paid burn bo lv cur m q pend mg pt),⟨(ledC c.supc dep paid burn y.a),0,0⟩):=by
        unfold depE;dsimp only;rw[if_neg (show¬(y.a<c.mind∨c.maxd<y.a) by omega),if_neg n3,if_neg n4,if_pos hl]
      refine rn [1,2] ?_
      refine g_op (zI rfl (fun w1 hw1=>by exact yK ((ledC c.supc dep paid burn (y).a)) w1) rfl ?_)
      refine rn [33,0,11,13] ?_
      exact fin1 rfl (.cellw rfl rfl) (fun w' hw' => ⟨(g,gp),(by(rw[hb];exact⟨hg,rfl,rfl,hgp,sgp⟩)),by rw[hb];rfl,by have h9:=zB (L' := [Res.blk eb 112 (ECell rb cb lb bb ub mb xb pb gb tb c lA (lv.length) lc),RgB rb g,RgW g,Res.im (RG.m g),LgB lb ((if(ledC c.supc dep paid burn y.a)=0 then dep+y.a else dep)) (paid) (burn) (c.supc),rB_i pb gp,rW_i gp]) w' hw';show WOK _ _ [Res.blk eb 112 (ECell rb cb lb bb ub mb xb pb gb tb c lA (lv.length) lc),RgB rb ((g,gp)).1,RgW ((g,gp)).1,Res.im (RG.m ((g,gp)).1),LgB lb ((depE (Eg.mk c blk (RG.l g) dep paid burn bo lv cur m q pend mg pt) y).1.dep) (paid) (burn) (c.supc),rB_i pb ((g,gp)).2,rW_i ((g,gp)).2] _;rw[hb];rw[if_neg hl] at h9;exact h9⟩) _ (.inl rfl)
     ·have hl:(ledC c.supc dep paid burn y.a)=0:=by have h9:=h5;simpa using h9
      have hb:(depE (Eg.mk c blk (RG.l g) dep paid burn bo lv cur m q pend mg pt) y)=((Eg.mk c blk ((RG.l g)++[(⟨y.a,1,false,-1,-1,-1,-1⟩:V)]) (dep+y.a) paid burn bo lv cur m q (pend++[((RG.l g).length:Int)]) mg pt),⟨0,((RG.l g).length:Int),-1⟩):=by
        unfold depE;dsimp only;rw[if_neg (show¬(y.a<c.mind∨c.maxd<y.a) by omega),if_neg n3,if_neg n4,if_neg (fun h=>h hl)]
      have hl2:y.a≤c.supc-(dep-paid-burn):=by unfold ledC at hl;split at hl<;>omega
      refine rn [12,7,8] ?_
      refine dregL (L0:=[Res.blk eb 112 (ECell rb cb lb bb ub mb xb pb gb tb c lA (lv.length) lc),Res.blk b3 35 y.c]) [] mixed rfl zB ?_
      refine rn [23,0,2,23,1,6,23,2,4,23,3,4,23,4,5,23,5,4,23,6,5,23,7,49] ?_
      refine dop 8 rfl (zG _ rfl (fun w1 hw1 ho1=>by have h7:=radd_reg rb g ((⟨y.a,1,false,-1,-1,-1,-1⟩:V)) w1 ho1 hg (⟨ho.a,by simp,by simp,by simp,by simp,by simp⟩) (by omega) (by have h9:=hsum;unfold bals at h9;have:=hmo.maxd;simp only;omega);exact h7) rfl ?_)
      rintro g70 ⟨r70,l70,c70⟩
      refine ii ?_
      refine rn [23,9,2,23,10,40,23,11,40,23,12,3,23,13,3,27,7,1,2,6,4,5,2] ?_
      refine g_op (g_lit rfl rfl rfl rfl rfl fun b78=>?_)
      refine zF (b:=b78) ((([(((RG.l g).length:Nat):Int)]:List Int).map (fun v:Int=>[Value.int .i64 v])).flatten) rfl ?_
      refine g_op (zG _ rfl (fun w1 hw1 ho1=>by have h7:=push_i pb gp pend [(((RG.l g).length:Nat):Int)] (some ⟨b78,0,none⟩) 1 w1 ho1 hgp (Rd.ofBlk (b:=b78) hw1 rfl (by simp) rfl) (by simp);exact h7) rfl ?_)
      rintro g79 ⟨r79,s79⟩
      refine ii ?_
      refine rn [0,1,2] ?_
      refine g_op (zI rfl (fun w1 hw1=>by exact xM ((((RG.l g).length:Nat):Int)) ((-1)) w1) rfl ?_)
      refine rn [33,0,11] ?_
      exact fin1 rfl (.cellw rfl rfl) (fun w' hw' => ⟨(g70,g79),(by(try dsimp only);(rw[hb];exact⟨r70,l70,c70,by have h8:=r79;rw[show(min ([((RG.l g).length:Int)]:List Int).length (Rg.size gp-pend.length))=1 by simp;omega] at h8;exact h8,by omega⟩)),by rw[hb];rfl,by have h9:=zB (L' := [Res.blk eb 112 (ECell rb cb lb bb ub mb xb pb gb tb c lA (lv.length) lc),RgB rb g70,RgW g70,Res.im (RG.m g70),LgB lb ((if(ledC c.supc dep paid burn y.a)=0 then dep+y.a else dep)) (paid) (burn) (c.supc),rB_i pb g79,rW_i g79]) w' hw';show WOK _ _ [Res.blk eb 112 (ECell rb cb lb bb ub mb xb pb gb tb c lA (lv.length) lc),RgB rb ((g70,g79)).1,RgW ((g70,g79)).1,Res.im (RG.m ((g70,g79)).1),LgB lb ((depE (Eg.mk c blk (RG.l g) dep paid burn bo lv cur m q pend mg pt) y).1.dep) (paid) (burn) (c.supc),rB_i pb ((g70,g79)).2,rW_i ((g70,g79)).2] _;rw[hb];rw[if_pos hl] at h9;exact h9⟩) _ (.inl rfl)
theorem rY {l:List V} {i:Int} {v:V} (hv:∀j,hasV (l.set i.toNat v) j=true→VO (gotV (l.set i.toNat v) j)) (hs:(bals (l.set i.toNat v)).sum≤18446744073709551615) (hh:hasV l i=true) :
  v.ok∧∀n:Nat,i=n→(h:n<l.length)→(l.map V.bal).sum-(l[n]).bal+v.bal≤18446744073709551615:=by
 rw[xI hh] at hv hs
 have h1:gotV (setV l i v) i=v:=by rw[yO];simp[hh]
 have h2:hasV (setV l i v) i=true:=by rw[has_setV];exact hh
 have h3:=hv i h2
 have h4:=uU hv h2
 rw[h1] at h3 h4
 have:=h3.b;have:=h3.s;have:=h3.r;have:=h3.x;have:=h3.w;have:=h3.d
 refine⟨⟨by omega,by omega,by omega,by omega,by omega,by omega⟩,fun n hn h=>?_⟩
 rw[vC _ _ _ hh,hn,yT h] at hs
 exact hs
theorem ahead_le {cl:Int} {q:LL} {n:Nat} (h:q.f.length≤n∧q.v.length≤n) (hn:n≤4096):(aheadL cl q).length≤8192:=by
 unfold aheadL;split
 ·omega
 ·split<;>simp<;>omega
theorem VO.i64 {v:V} (h:VO v) (hb:v.bal≤18446744073709551615):okP v ():=⟨by have:=h.s;omega,h.b,hb⟩
theorem leave_any (eb rb cb lb bb ub mb xb b0 b1 pb gb tb:Nat) (c:C) (blk:Nat) (g:RG) (dep paid burn:Int) (bo:List En) (lv:List Int) (cur:Nat) (m:M) (q:LL) (pend:List Int) (mg:List PP) (pt:List Rq) (br:BR) (lA:Option Addr) (lc:Nat) (g0 g1 gp gg gt:Rg) (cl i:Int) (w:World) (hw:W0 [Res.blk eb 112 (ECell rb cb lb bb ub mb xb pb gb tb c lA (lv.length) lc),RgB rb g,RgW g,Res.im (RG.m g),CkB cb (blk) (c.elen.toNat),bL_ xb b0 b1,rB_i b0 g0,rW_i g0,rB_i b1 g1,rW_i g1] w) (hi:Inv (Eg.mk c blk (RG.l g) dep paid burn bo lv cur m q pend mg pt)) (hg:g.Rep) (hcp:(g.cp:Int)=c.capa) (h0:g0.Rep 1 (q.f.map (fun v:Int=>[Value.int .i64 v]))) (h1_:g1.Rep 1 (q.v.map (fun v:Int=>[Value.int .i64 v]))) (s0:Rg.size g0=c.qsize.toNat) (s1:Rg.size g1=c.qsize.toNat) (hcl:cl=0∨cl=1):Own2 (ι:=(RG × Rg × Rg)) Tryz.prog 109 [.pointer (some ⟨eb,0,none⟩),.int .i64 cl,.int .i64 i] w [Res.blk eb 112 (ECell rb cb lb bb ub mb xb pb gb tb c lA (lv.length) lc),RgB rb g,RgW g,Res.im (RG.m g),CkB cb (blk) (c.elen.toNat),bL_ xb b0 b1,rB_i b0 g0,rW_i g0,rB_i b1 g1,rW_i g1] (fun x=>x.1.Rep∧x.1.l=(leaveE (Eg.mk c blk (RG.l g) dep paid burn bo lv cur m q pend mg pt) cl i).1.l∧x.1.cp=g.cp∧x.2.1.Rep 1 ((leaveE (Eg.mk c blk (RG.l g) dep paid burn bo lv cur m q pend mg pt) cl i).1.q.f.map (fun v:Int=>[Value.int .i64 v]))∧x.2.2.Rep 1 ((leaveE (Eg.mk c blk (RG.l g) dep paid burn bo lv cur m q pend mg pt) cl i).1.q.v.map (fun v:Int=>[Value.int .i64 v]))∧x.2.1.size=c.qsize.toNat∧x.2.2.size=c.qsize.toNat) (fun x=>.agg (Rs.c (leaveE (Eg.mk c blk (RG.l g) dep paid burn bo lv cur m q pend mg pt) cl i).2).toArray) (fun x=>[]) (fun x=>[Res.blk eb 112 (ECell rb cb lb bb ub mb xb pb gb tb c lA (lv.length) lc),RgB rb x.1,RgW x.1,Res.im (RG.m x.1),CkB cb (blk) (c.elen.toNat),bL_ xb b0 b1,rB_i b0 x.2.1,rW_i x.2.1,rB_i b1 x.2.2,rW_i x.2.2]):=by
 refine g_st Tryz.func109 107 hw ?_
 have hok:Cok c:=hi.cok
 have hmo:Cmo c:=yU hi.cc
 have hblk:blk≤1000000000:=hi.blk
 have hk:blk<4611686018427387904:=by omega
 have hel:1≤c.elen.toNat∧c.elen.toNat≤4611686018427387904:=by have:=hok.elen;omega
 have hled:LOk c.supc dep paid burn:=hi.led
 have hqf:q.f.length≤c.qsize.toNat∧q.v.length≤c.qsize.toNat:=hi.qf
 have hsum:(bals (RG.l g)).sum=dep-paid-burn:=hi.sum
 have hvo:∀i,hasV (RG.l g) i=true→VO (gotV (RG.l g) i):=hi.vo
 have hqs:=hmo.qsize
 have hepb:0≤((blk/c.elen.toNat:Nat):Int)∧((blk/c.elen.toNat:Nat):Int)≤1000000000:=hi.epb
 have hbs:(bals (RG.l g)).sum≤18446744073709551615:=hg.mx
 refine rn [1] ?_
 refine g_op (zK rfl fun b6=>?_)
 refine rn [0,1,2,6,4,4,5,2] ?_
 refine g_op (zL _ rfl (fun w1 hw1 ho1=>by exact xX rb g (i) w1 ho1) rfl ?_)
 refine rn [2,40,40] ?_
 refine g_op (zK rfl fun b7=>?_)
 refine rn [33,3,0,8,1,2,48,0] ?_
 refine zC rfl (fun h1=>?_) (fun h1=>?_)
 ·have hb:(leaveE (Eg.mk c blk (RG.l g) dep paid burn bo lv cur m q pend mg pt) cl i)=((Eg.mk c blk (RG.l g) dep paid burn bo lv cur m q pend mg pt),⟨7,0,0⟩):=by
    unfold leaveE Eg.ep wgts bals;dsimp only;rw[if_pos (by have h9:=h1;simpa using h9)]
  refine rn [1] ?_
  refine g_op (zI rfl (fun w1 hw1=>by exact yK (7) w1) rfl ?_)
  refine rn [33,0,11,13] ?_
  exact fin1 rfl (.cellw rfl rfl) (fun w' hw' => ⟨(g,g0,g1),(by(rw[hb];exact⟨hg,rfl,rfl,h0,h1_,s0,s1⟩)),by rw[hb];rfl,zA w' hw'⟩) _ (.inl rfl)
 ·have n1:¬hasV (RG.l g) i=false:=by have h9:=h1;simpa using h9
  have hh:hasV (RG.l g) i=true:=by simpa using n1
  have hv0:=hvo i hh
  have hbl:=uU hvo hh
  refine rn [12,7,8] ?_
  refine dreg [11] mixed rfl ?_
  refine rn [23,0,45,23,1,2,23,2,6,23,3,4,23,4,5] ?_
  refine dj [0,1,2,6] (fun(x:Nat)=>[(9,.pointer (some ⟨x,0,none⟩)),(10,.int .i64 (accV (gotV (RG.l g) i) ((blk/c.elen.toNat:Nat):Int)).2)]) (fun(x:Nat)=>[Res.blk x 52 (V.c (accV (gotV (RG.l g) i) ((blk/c.elen.toNat:Nat):Int)).1),Res.blk b7 52 (V.c (gotV (RG.l g) i)),Res.blk b6 128 [Value.int .i64 0,.int .i64 0,.int .i64 0],Res.blk eb 112 (ECell rb cb lb bb ub mb xb pb gb tb c lA (lv.length) lc),RgB rb g,RgW g,Res.im (RG.m g),CkB cb (blk) (c.elen.toNat),bL_ xb b0 b1,rB_i b0 g0,rW_i g0,rB_i b1 g1,rW_i g1]) ?_ ?_
  ·refine yG [5,10] (by kernel_rfl) (by simp) zB ⟨dpick rfl (zL _ rfl (fun w1 hw1 ho1=>by exact zY cb blk c.elen.toNat w1 ho1 (by omega) hel) rfl ?_),dpick rfl (zK rfl fun b9=>?_),trivial⟩
   ·refine yG [6,10] (by kernel_rfl) (by simp) zB ⟨dpick rfl (zI rfl (fun w1 hw1=>sP ((gotV (RG.l g) i)) ((((blk/c.elen.toNat):Nat):Int)) w1 ⟨by omega,by omega⟩ (hv0.i64 (by omega))) rfl ?_),dpick rfl (zK rfl fun b9=>?_),trivial⟩
    ·refine rn [23,7,2,23,8,40,24,9,40] ?_
     refine dop 10 rfl (zK rfl fun b9=>?_)
     refine dop 11 rfl (zQ rfl rfl rfl rfl rfl ?_)
     refine rn [24,12,3,28] ?_
     exact g_jn b9
    ·refine dop 6 rfl (zI rfl (fun w1 hw1=>sP ((gotV (RG.l g) i)) ((((blk/c.elen.toNat):Nat):Int)) w1 ⟨by omega,by omega⟩ (hv0.i64 (by omega))) rfl ?_)
     refine rn [23,7,2,23,8,40,24,9,40] ?_
     refine dop 11 rfl (zQ rfl rfl rfl rfl rfl ?_)
     refine rn [24,12,3,28] ?_
     exact g_jn b9
   ·refine dop 5 rfl (zL _ rfl (fun w1 hw1 ho1=>by exact zY cb blk c.elen.toNat w1 ho1 (by omega) hel) rfl ?_)
    refine dop 6 rfl (zI rfl (fun w1 hw1=>sP ((gotV (RG.l g) i)) ((((blk/c.elen.toNat):Nat):Int)) w1 ⟨by omega,by omega⟩ (hv0.i64 (by omega))) rfl ?_)
    refine rn [23,7,2,23,8,40,24,9,40] ?_
    refine dop 11 rfl (zQ rfl rfl rfl rfl rfl ?_)
    refine rn [24,12,3,28] ?_
    exact g_jn b9
  ·rintro b9
   refine rn [7,8,1,2,51,0] ?_
   refine zC rfl (fun h2=>?_) (fun h2=>?_)
   ·have n2:¬(accV (gotV (RG.l g) i) ((blk/c.elen.toNat:Nat):Int)).2=0:=by have h9:=h2;simpa using h9
    have hb:(leaveE (Eg.mk c blk (RG.l g) dep paid burn bo lv cur m q pend mg pt) cl i)=((Eg.mk c blk (RG.l g) dep paid burn bo lv cur m q pend mg pt),⟨(accV (gotV (RG.l g) i) ((blk/c.elen.toNat:Nat):Int)).2,0,0⟩):=by
      unfold leaveE Eg.ep wgts bals;dsimp only;rw[if_neg n1,if_pos n2]
    refine rn [1,2] ?_
    refine g_op (zI rfl (fun w1 hw1=>by exact yK ((accV (gotV (RG.l g) i) (((blk/c.elen.toNat):Nat):Int)).2) w1) rfl ?_)
    refine rn [33,0,11,13] ?_
    exact fin1 rfl (.cellw rfl rfl) (fun w' hw' => ⟨(g,g0,g1),(by(rw[hb];exact⟨hg,rfl,rfl,h0,h1_,s0,s1⟩)),by rw[hb];rfl,zA w' hw'⟩) _ (.inl rfl)
   ·have n2:(accV (gotV (RG.l g) i) ((blk/c.elen.toNat:Nat):Int)).2=0:=by have h9:=h2;simpa using h9
    have hab:U64 (accV (gotV (RG.l g) i) ((blk/c.elen.toNat:Nat):Int)).1.bal:=by
      have e9:=acc_eq (v:=(gotV (RG.l g) i)) (e:=((blk/c.elen.toNat:Nat):Int)) hepb
      rw[e9];split
      · exact⟨by simp[V.z],by simp[V.z]⟩
      · exact⟨hv0.b,by simp only;omega⟩
    refine rn [12,7,8,1,2,6,4,5,2] ?_
    refine g_op (zL _ rfl (fun w1 hw1 ho1=>by exact lfree_any xb b0 b1 g0 g1 q c.qsize.toNat (cl) w1 ho1 h0 h1_ s0 s1 (by omega)) rfl ?_)
    refine rn [44,0] ?_
    refine zC rfl (fun h3=>?_) (fun h3=>?_)
    ·have hb:(leaveE (Eg.mk c blk (RG.l g) dep paid burn bo lv cur m q pend mg pt) cl i)=((Eg.mk c blk (RG.l g) dep paid burn bo lv cur m q pend mg pt),⟨6,0,0⟩):=by
       unfold leaveE Eg.ep wgts bals;dsimp only;rw[if_neg n1,if_neg (fun h=>h n2),if_pos (by have h9:=h3;simpa using h9)]
     refine rn [1] ?_
     refine g_op (zI rfl (fun w1 hw1=>by exact yK (6) w1) rfl ?_)
     refine rn [33,0,11,13] ?_
     exact fin1 rfl (.cellw rfl rfl) (fun w' hw' => ⟨(g,g0,g1),(by(rw[hb];exact⟨hg,rfl,rfl,h0,h1_,s0,s1⟩)),by rw[hb];rfl,zA w' hw'⟩) _ (.inl rfl)
    ·have n3:¬freeL c.qsize.toNat cl q=0:=by have h9:=h3;simpa using h9
     have hal:(aheadL cl q).length≤8192:=ahead_le hqf (by omega)
     have hokb:okU ((RG.l g).map V.bal):=fun y hy=>by
       obtain⟨z,hz,rfl⟩:=List.mem_map.1 hy
       exact(hg.ok z hz).bal
     have haw:U64 (addV ((aheadL cl q).map (ofW ((RG.l g).map V.bal)))):=addV_U (okU_map hokb)
     refine rn [12,7,8] ?_
     refine dreg [] mixed rfl ?_
     refine rn [23,0,2,23,1,6,23,2,4] ?_
     refine dq 3 rfl (yQ (c' := [Value.pointer (some ⟨rb,0,none⟩)]) rfl rfl rfl) ?_
     refine rn [23,5,2,23,6,6,23,7,4,23,8,5,23,9,2] ?_
     refine dop 4 rfl (zG _ rfl (fun w1 hw1 ho1=>by have h7:=uS rb g w1 ho1 hg;exact h7) rfl ?_)
     rintro⟨A55,cap55⟩ _
     refine ii ?_
     refine dop 10 rfl (zG _ rfl (fun w1 hw1 ho1=>by have h7:=lahead_any xb b0 b1 g0 g1 q c.qsize.toNat (cl) w1 ho1 h0 h1_ s0 s1 (by omega);exact h7) rfl ?_)
     rintro⟨A61,cap61⟩ _
     refine ii ?_
     refine dop 11 rfl (zI rfl (fun w1 hw1=>pF A55 A61 (((RG.l g).map V.bal).length) (cap55) ((aheadL (cl) q).length) (cap61) (((RG.l g).map V.bal)) ((aheadL (cl) q)) w1 (Rdb.toOld (ird (A:=A55)) hw1) (Rdb.toOld (ird (A:=A61)) hw1) hokb (by first|omega|(simp;omega)|(simp;done))) rfl ?_)
     refine rn [23,12,2,23,13,40,23,14,40,23,15,3,23,16,3,27,7,8] ?_
     refine dreg [] mixed rfl ?_
     refine rn [23,0,2,23,1,6,23,2,4,23,3,5,23,5,2,23,6,4,23,7,5,23,8,2,23,9,6,23,10,4] ?_
     refine dq 11 rfl (yQ (c' := C.c c) rfl rfl rfl) ?_
     refine dop 4 rfl (zL _ rfl (fun w1 hw1 ho1=>by exact zY cb blk c.elen.toNat w1 ho1 (by omega) hel) rfl ?_)
     refine dop 12 rfl (zI rfl (fun w1 hw1=>pay_any ((((blk/c.elen.toNat):Nat):Int)) ((addV (((aheadL (cl) q)).map (ofW ((RG.l g).map V.bal))))) (((accV (gotV (RG.l g) i) (((blk/c.elen.toNat):Nat):Int)).1).bal) (c) w1 haw hab hok ⟨by omega,by omega⟩) rfl ?_)
     refine rn [23,13,2,23,14,40,23,15,40,23,16,3,23,17,3,27,7,8,1,2,48,2] ?_
     refine zU 83 rfl (fun h4=>?_) (fun h4=>?_)
     ·have hb:(leaveE (Eg.mk c blk (RG.l g) dep paid burn bo lv cur m q pend mg pt) cl i)=((Eg.mk c blk (RG.l g) dep paid burn bo lv cur m q pend mg pt),⟨10,0,0⟩):=by
        unfold leaveE Eg.ep wgts bals;dsimp only;rw[if_neg n1,if_neg (fun h=>h n2),if_neg n3,if_pos (.inl (by have h9:=h4;simpa using h9))]
      refine rn [21,21,41,0,19,1] ?_
      refine g_op (zI rfl (fun w1 hw1=>by exact yK (10) w1) rfl ?_)
      refine rn [33,0,11,13] ?_
      exact fin1 rfl (.cellw rfl rfl) (fun w' hw' => ⟨(g,g0,g1),(by(rw[hb];exact⟨hg,rfl,rfl,h0,h1_,s0,s1⟩)),by rw[hb];rfl,zA w' hw'⟩) _ (.inl rfl)
     ·have n4:addB ((aheadL cl q).map (ofW ((RG.l g).map V.bal)))=true:=by have h9:=h4;simpa using h9
      refine rn [22,2,22,48,42,0] ?_
      refine zC rfl (fun h5=>?_) (fun h5=>?_)
      ·have hb:(leaveE (Eg.mk c blk (RG.l g) dep paid burn bo lv cur m q pend mg pt) cl i)=((Eg.mk c blk (RG.l g) dep paid burn bo lv cur m q pend mg pt),⟨10,0,0⟩):=by
         unfold leaveE Eg.ep wgts bals;dsimp only;rw[if_neg n1,if_neg (fun h=>h n2),if_neg n3,if_pos (.inr (by have h9:=h5;simpa using h9))]
       refine rn [1] ?_
       refine g_op (zI rfl (fun w1 hw1=>by exact yK (10) w1) rfl ?_)
       refine rn [33,0,11,13] ?_
       exact fin1 rfl (.cellw rfl rfl) (fun w' hw' => ⟨(g,g0,g1),(by(rw[hb];exact⟨hg,rfl,rfl,h0,h1_,s0,s1⟩)),by rw[hb];rfl,zA w' hw'⟩) _ (.inl rfl)
      ·have n5:(bdsB ((blk/c.elen.toNat:Nat):Int) (addV ((aheadL cl q).map (ofW ((RG.l g).map V.bal)))) (accV (gotV (RG.l g) i) ((blk/c.elen.toNat:Nat):Int)).1.bal c [c.unb,sweepV c])=true:=by have h9:=h5;simpa using h9
       have hb:(leaveE (Eg.mk c blk (RG.l g) dep paid burn bo lv cur m q pend mg pt) cl i)=((Eg.mk c blk ((RG.l g).set i.toNat (V.mk (accV (gotV (RG.l g) i) ((blk/c.elen.toNat:Nat):Int)).1.bal (accV (gotV (RG.l g) i) ((blk/c.elen.toNat:Nat):Int)).1.st (accV (gotV (RG.l g) i) ((blk/c.elen.toNat:Nat):Int)).1.sl (accV (gotV (RG.l g) i) ((blk/c.elen.toNat:Nat):Int)).1.rq (accV (gotV (RG.l g) i) ((blk/c.elen.toNat:Nat):Int)).1.ex (accV (gotV (RG.l g) i) ((blk/c.elen.toNat:Nat):Int)).1.wd (bdsV ((blk/c.elen.toNat:Nat):Int) (addV ((aheadL cl q).map (ofW ((RG.l g).map V.bal)))) (accV (gotV (RG.l g) i) ((blk/c.elen.toNat:Nat):Int)).1.bal c [c.unb,sweepV c]))) dep paid burn bo lv cur m (pushL c.qsize.toNat cl i q) pend mg pt),⟨0,i,(bdsV ((blk/c.elen.toNat:Nat):Int) (addV ((aheadL cl q).map (ofW ((RG.l g).map V.bal)))) (accV (gotV (RG.l g) i) ((blk/c.elen.toNat:Nat):Int)).1.bal c [c.unb,sweepV c])⟩):=by
         unfold leaveE Eg.ep wgts bals;dsimp only;rw[if_neg n1,if_neg (fun h=>h n2),if_neg n3,if_neg (by rw[n4,n5];simp)]
       have hiN:Inv (Eg.mk c blk ((RG.l g).set i.toNat (V.mk (accV (gotV (RG.l g) i) ((blk/c.elen.toNat:Nat):Int)).1.bal (accV (gotV (RG.l g) i) ((blk/c.elen.toNat:Nat):Int)).1.st (accV (gotV (RG.l g) i) ((blk/c.elen.toNat:Nat):Int)).1.sl (accV (gotV (RG.l g) i) ((blk/c.elen.toNat:Nat):Int)).1.rq (accV (gotV (RG.l g) i) ((blk/c.elen.toNat:Nat):Int)).1.ex (accV (gotV (RG.l g) i) ((blk/c.elen.toNat:Nat):Int)).1.wd (bdsV ((blk/c.elen.toNat:Nat):Int) (addV ((aheadL cl q).map (ofW ((RG.l g).map V.bal)))) (accV (gotV (RG.l g) i) ((blk/c.elen.toNat:Nat):Int)).1.bal c [c.unb,sweepV c]))) dep paid burn bo lv cur m (pushL c.qsize.toNat cl i q) pend mg pt):=by have h9:=sL hi hcl (i:=i);rw[hb] at h9;exact h9
       have hchg:=rY (v:=(V.mk (accV (gotV (RG.l g) i) ((blk/c.elen.toNat:Nat):Int)).1.bal (accV (gotV (RG.l g) i) ((blk/c.elen.toNat:Nat):Int)).1.st (accV (gotV (RG.l g) i) ((blk/c.elen.toNat:Nat):Int)).1.sl (accV (gotV (RG.l g) i) ((blk/c.elen.toNat:Nat):Int)).1.rq (accV (gotV (RG.l g) i) ((blk/c.elen.toNat:Nat):Int)).1.ex (accV (gotV (RG.l g) i) ((blk/c.elen.toNat:Nat):Int)).1.wd (bdsV ((blk/c.elen.toNat:Nat):Int) (addV ((aheadL cl q).map (ofW ((RG.l g).map V.bal)))) (accV (gotV (RG.l g) i) ((blk/c.elen.toNat:Nat):Int)).1.bal c [c.unb,sweepV c]))) hiN.vo (by have h9:=hiN.sum;have h8:=hiN.led;obtain⟨e1,e2,e3,e4,e5,e6⟩:=h8;simp only at h9 e1 e2 e3 e4;omega) hh
       refine rn [12,7,1,2,4] ?_
       refine g_op (zJ rfl rfl rfl rfl rfl rfl rfl ?_)
       refine zF (b:=b9) (V.c (V.mk (accV (gotV (RG.l g) i) ((blk/c.elen.toNat:Nat):Int)).1.bal (accV (gotV (RG.l g) i) ((blk/c.elen.toNat:Nat):Int)).1.st (accV (gotV (RG.l g) i) ((blk/c.elen.toNat:Nat):Int)).1.sl (accV (gotV (RG.l g) i) ((blk/c.elen.toNat:Nat):Int)).1.rq (accV (gotV (RG.l g) i) ((blk/c.elen.toNat:Nat):Int)).1.ex (accV (gotV (RG.l g) i) ((blk/c.elen.toNat:Nat):Int)).1.wd (bdsV ((blk/c.elen.toNat:Nat):Int) (addV ((aheadL cl q).map (ofW ((RG.l g).map V.bal)))) (accV (gotV (RG.l g) i) ((blk/c.elen.toNat:Nat):Int)).1.bal c [c.unb,sweepV c]))) (by simp[splice,V.c]) ?_
       refine rn [0,8] ?_
       refine dregL (L0:=[Res.blk eb 112 (ECell rb cb lb bb ub mb xb pb gb tb c lA (lv.length) lc),Res.blk b9 52 (V.c (V.mk (accV (gotV (RG.l g) i) ((blk/c.elen.toNat:Nat):Int)).1.bal (accV (gotV (RG.l g) i) ((blk/c.elen.toNat:Nat):Int)).1.st (accV (gotV (RG.l g) i) ((blk/c.elen.toNat:Nat):Int)).1.sl (accV (gotV (RG.l g) i) ((blk/c.elen.toNat:Nat):Int)).1.rq (accV (gotV (RG.l g) i) ((blk/c.elen.toNat:Nat):Int)).1.ex (accV (gotV (RG.l g) i) ((blk/c.elen.toNat:Nat):Int)).1.wd (bdsV ((blk/c.elen.toNat:Nat):Int) (addV ((aheadL cl q).map (ofW ((RG.l g).map V.bal)))) (accV (gotV (RG.l g) i) ((blk/c.elen.toNat:Nat):Int)).1.bal c [c.unb,sweepV c])))]) [] mixed rfl zB ?_
       refine rn [23,0,2,23,1,6,23,2,4] ?_
       refine dq 3 rfl (yQ (c' := [Value.pointer (some ⟨rb,0,none⟩)]) rfl rfl rfl) ?_
       refine rn [23,4,2,23,5,45] ?_
       refine dop 6 rfl (zG _ rfl (fun w1 hw1 ho1=>by have h7:=xD rb g (i) ((V.mk (accV (gotV (RG.l g) i) ((blk/c.elen.toNat:Nat):Int)).1.bal (accV (gotV (RG.l g) i) ((blk/c.elen.toNat:Nat):Int)).1.st (accV (gotV (RG.l g) i) ((blk/c.elen.toNat:Nat):Int)).1.sl (accV (gotV (RG.l g) i) ((blk/c.elen.toNat:Nat):Int)).1.rq (accV (gotV (RG.l g) i) ((blk/c.elen.toNat:Nat):Int)).1.ex (accV (gotV (RG.l g) i) ((blk/c.elen.toNat:Nat):Int)).1.wd (bdsV ((blk/c.elen.toNat:Nat):Int) (addV ((aheadL cl q).map (ofW ((RG.l g).map V.bal)))) (accV (gotV (RG.l g) i) ((blk/c.elen.toNat:Nat):Int)).1.bal c [c.unb,sweepV c]))) w1 ho1 hg hchg.1 hchg.2;exact h7) rfl ?_)
       rintro g96 ⟨r96,l96,c96⟩
       refine ii ?_
       refine rn [27,7,1,2,6,4,5,2,2] ?_
       refine g_op (zG _ rfl (fun w1 hw1 ho1=>by have h7:=rS xb b0 b1 g0 g1 q c.qsize.toNat (cl) (i) w1 ho1 h0 h1_ s0 s1 (by omega);exact h7) rfl ?_)
       rintro⟨g103,gg103⟩ ⟨r103,rr103,s103,ss103⟩
       refine ii ?_
       simp only at r103 rr103 s103 ss103
       refine rn [0,1,2,2] ?_
       refine g_op (zI rfl (fun w1 hw1=>by exact xM (i) ((bdsV ((blk/c.elen.toNat:Nat):Int) (addV ((aheadL cl q).map (ofW ((RG.l g).map V.bal)))) (accV (gotV (RG.l g) i) ((blk/c.elen.toNat:Nat):Int)).1.bal c [c.unb,sweepV c])) w1) rfl ?_)
       refine rn [33,0,11] ?_
       exact fin1 rfl (.cellw rfl rfl) (fun w' hw' => ⟨(g96,g103,gg103),(by(rw[hb];exact⟨r96,by rw[l96,xI hh],c96,r103,rr103,s103,ss103⟩)),by rw[hb];rfl,zA w' hw'⟩) _ (.inl rfl)
theorem exit_eng (eb rb cb lb bb ub mb xb b0 b1 pb gb tb:Nat) (c:C) (blk:Nat) (g:RG) (dep paid burn:Int) (bo:List En) (lv:List Int) (cur:Nat) (m:M) (q:LL) (pend:List Int) (mg:List PP) (pt:List Rq) (br:BR) (lA:Option Addr) (lc:Nat) (g0 g1 gp gg gt:Rg) (y:Op) (w:World) (hw:W0 [Res.blk eb 112 (ECell rb cb lb bb ub mb xb pb gb tb c lA (lv.length) lc),RgB rb g,RgW g,Res.im (RG.m g),CkB cb (blk) (c.elen.toNat),bL_ xb b0 b1,rB_i b0 g0,rW_i g0,rB_i b1 g1,rW_i g1] w) (hi:Inv (Eg.mk c blk (RG.l g) dep paid burn bo lv cur m q pend mg pt)) (hg:g.Rep) (hcp:(g.cp:Int)=c.capa) (h0:g0.Rep 1 (q.f.map (fun v:Int=>[Value.int .i64 v]))) (h1_:g1.Rep 1 (q.v.map (fun v:Int=>[Value.int .i64 v]))) (s0:Rg.size g0=c.qsize.toNat) (s1:Rg.size g1=c.qsize.toNat):Own2 (ι:=(RG × Rg × Rg)) Tryz.prog 59 [.pointer (some ⟨eb,0,none⟩),.agg y.c.toArray] w [Res.blk eb 112 (ECell rb cb lb bb ub mb xb pb gb tb c lA (lv.length) lc),RgB rb g,RgW g,Res.im (RG.m g),CkB cb (blk) (c.elen.toNat),bL_ xb b0 b1,rB_i b0 g0,rW_i g0,rB_i b1 g1,rW_i g1] (fun x=>x.1.Rep∧x.1.l=(leaveE (Eg.mk c blk (RG.l g) dep paid burn bo lv cur m q pend mg pt) 1 y.i).1.l∧x.1.cp=g.cp∧x.2.1.Rep 1 ((leaveE (Eg.mk c blk (RG.l g) dep paid burn bo lv cur m q pend mg pt) 1 y.i).1.q.f.map (fun v:Int=>[Value.int .i64 v]))∧x.2.2.Rep 1 ((leaveE (Eg.mk c blk (RG.l g) dep paid burn bo lv cur m q pend mg pt) 1 y.i).1.q.v.map (fun v:Int=>[Value.int .i64 v]))∧x.2.1.size=c.qsize.toNat∧x.2.2.size=c.qsize.toNat) (fun x=>.agg (Rs.c (leaveE (Eg.mk c blk (RG.l g) dep paid burn bo lv cur m q pend mg pt) 1 y.i).2).toArray) (fun x=>[]) (fun x=>[Res.blk eb 112 (ECell rb cb lb bb ub mb xb pb gb tb c lA (lv.length) lc),RgB rb x.1,RgW x.1,Res.im (RG.m x.1),CkB cb (blk) (c.elen.toNat),bL_ xb b0 b1,rB_i b0 x.2.1,rW_i x.2.1,rB_i b1 x.2.2,rW_i x.2.2]):=by
 refine g_st Tryz.func59 9 hw ?_
 refine rn [1] ?_
 refine g_op (g_box rfl rfl rfl fun b3=>?_)
 refine g_op (zK rfl fun b4=>?_)
 refine rn [0,1,2,4,5] ?_
 refine g_op (zG _ rfl (fun w1 hw1 ho1=>by have h7:=leave_any eb rb cb lb bb ub mb xb b0 b1 pb gb tb c blk g dep paid burn bo lv cur m q pend mg pt br lA lc g0 g1 gp gg gt (1) ((y).i) w1 ho1 (hi) hg hcp h0 h1_ s0 s1 (by decide);exact h7) rfl ?_)
 rintro⟨g8,ga8,gb8⟩ ⟨r8,l8,c8,ra8,rb8,sa8,sb8⟩
 refine ii ?_
 simp only at r8 l8 c8 ra8 rb8 sa8 sb8
 refine rn [33,0,11] ?_
 exact fin1 rfl (.cellw rfl rfl) (fun w' hw' => ⟨(g8,ga8,gb8),(by exact⟨r8,l8,c8,ra8,rb8,sa8,sb8⟩),rfl,zA w' hw'⟩) _ (.inl rfl)
theorem eject_eng (eb rb cb lb bb ub mb xb b0 b1 pb gb tb:Nat) (c:C) (blk:Nat) (g:RG) (dep paid burn:Int) (bo:List En) (lv:List Int) (cur:Nat) (m:M) (q:LL) (pend:List Int) (mg:List PP) (pt:List Rq) (br:BR) (lA:Option Addr) (lc:Nat) (g0 g1 gp gg gt:Rg) (y:Op) (w:World) (hw:W0 [Res.blk eb 112 (ECell rb cb lb bb ub mb xb pb gb tb c lA (lv.length) lc),RgB rb g,RgW g,Res.im (RG.m g),CkB cb (blk) (c.elen.toNat),bL_ xb b0 b1,rB_i b0 g0,rW_i g0,rB_i b1 g1,rW_i g1] w) (hi:Inv (Eg.mk c blk (RG.l g) dep paid burn bo lv cur m q pend mg pt)) (hg:g.Rep) (hcp:(g.cp:Int)=c.capa) (h0:g0.Rep 1 (q.f.map (fun v:Int=>[Value.int .i64 v]))) (h1_:g1.Rep 1 (q.v.map (fun v:Int=>[Value.int .i64 v]))) (s0:Rg.size g0=c.qsize.toNat) (s1:Rg.size g1=c.qsize.toNat):Own2 (ι:=(RG × Rg × Rg)) Tryz.prog 60 [.pointer (some ⟨eb,0,none⟩),.agg y.c.toArray] w [Res.blk eb 112 (ECell rb cb lb bb ub mb xb pb gb tb c lA (lv.length) lc),RgB rb g,RgW g,Res.im (RG.m g),CkB cb (blk) (c.elen.toNat),bL_ xb b0 b1,rB_i b0 g0,rW_i g0,rB_i b1 g1,rW_i g1] (fun x=>x.1.Rep∧x.1.l=(leaveE (Eg.mk c blk (RG.l g) dep paid burn bo lv cur m q pend mg pt) 0 y.i).1.l∧x.1.cp=g.cp∧x.2.1.Rep 1 ((leaveE (Eg.mk c blk (RG.l g) dep paid burn bo lv cur m q pend mg pt) 0 y.i).1.q.f.map (fun v:Int=>[Value.int .i64 v]))∧x.2.2.Rep 1 ((leaveE (Eg.mk c blk (RG.l g) dep paid burn bo lv cur m q pend mg pt) 0 y.i).1.q.v.map (fun v:Int=>[Value.int .i64 v]))∧x.2.1.size=c.qsize.toNat∧x.2.2.size=c.qsize.toNat) (fun x=>.agg (Rs.c (leaveE (Eg.mk c blk (RG.l g) dep paid burn bo lv cur m q pend mg pt) 0 y.i).2).toArray) (fun x=>[]) (fun x=>[Res.blk eb 112 (ECell rb cb lb bb ub mb xb pb gb tb c lA (lv.length) lc),RgB rb x.1,RgW x.1,Res.im (RG.m x.1),CkB cb (blk) (c.elen.toNat),bL_ xb b0 b1,rB_i b0 x.2.1,rW_i x.2.1,rB_i b1 x.2.2,rW_i x.2.2]):=by
 refine g_st Tryz.func60 9 hw ?_
 refine rn [1] ?_
 refine g_op (g_box rfl rfl rfl fun b3=>?_)
 refine g_op (zK rfl fun b4=>?_)
 refine rn [0,1,2,4,5] ?_
 refine g_op (zG _ rfl (fun w1 hw1 ho1=>by have h7:=leave_any eb rb cb lb bb ub mb xb b0 b1 pb gb tb c blk g dep paid burn bo lv cur m q pend mg pt br lA lc g0 g1 gp gg gt (0) ((y).i) w1 ho1 (hi) hg hcp h0 h1_ s0 s1 (by decide);exact h7) rfl ?_)
 rintro⟨g8,ga8,gb8⟩ ⟨r8,l8,c8,ra8,rb8,sa8,sb8⟩
 refine ii ?_
 simp only at r8 l8 c8 ra8 rb8 sa8 sb8
 refine rn [33,0,11] ?_
 exact fin1 rfl (.cellw rfl rfl) (fun w' hw' => ⟨(g8,ga8,gb8),(by exact⟨r8,l8,c8,ra8,rb8,sa8,sb8⟩),rfl,zA w' hw'⟩) _ (.inl rfl)
theorem cons_any (eb rb cb lb bb ub mb xb b0 b1 pb gb tb:Nat) (c:C) (blk:Nat) (g:RG) (dep paid burn:Int) (bo:List En) (lv:List Int) (cur:Nat) (m:M) (q:LL) (pend:List Int) (mg:List PP) (pt:List Rq) (br:BR) (lA:Option Addr) (lc:Nat) (g0 g1 gp gg gt:Rg) (y:Op) (w:World) (hw:W0 [Res.blk eb 112 (ECell rb cb lb bb ub mb xb pb gb tb c lA (lv.length) lc),RgB rb g,RgW g,Res.im (RG.m g),rB_pp gb gg,rW_pp gg] w) (hi:Inv (Eg.mk c blk (RG.l g) dep paid burn bo lv cur m q pend mg pt)) (hg:g.Rep) (hcp:(g.cp:Int)=c.capa) (hgg:gg.Rep 2 (mg.map PP.c)) (sgg:Rg.size gg=c.qsize.toNat):Own2 (ι:=Rg) Tryz.prog 62 [.pointer (some ⟨eb,0,none⟩),.agg y.c.toArray] w [Res.blk eb 112 (ECell rb cb lb bb ub mb xb pb gb tb c lA (lv.length) lc),RgB rb g,RgW g,Res.im (RG.m g),rB_pp gb gg,rW_pp gg] (fun x=>x.Rep 2 ((consE (Eg.mk c blk (RG.l g) dep paid burn bo lv cur m q pend mg pt) y.i y.t).1.mg.map PP.c)∧x.size=c.qsize.toNat) (fun x=>.agg (Rs.c (consE (Eg.mk c blk (RG.l g) dep paid burn bo lv cur m q pend mg pt) y.i y.t).2).toArray) (fun x=>[]) (fun x=>[Res.blk eb 112 (ECell rb cb lb bb ub mb xb pb gb tb c lA (lv.length) lc),RgB rb g,RgW g,Res.im (RG.m g),rB_pp gb x,rW_pp x]):=by
 refine g_st Tryz.func62 41 hw ?_
 have hok:Cok c:=hi.cok
 have hmo:Cmo c:=yU hi.cc
 have hblk:blk≤1000000000:=hi.blk
 have hk:blk<4611686018427387904:=by omega
 have hel:1≤c.elen.toNat∧c.elen.toNat≤4611686018427387904:=by have:=hok.elen;omega
 have hled:LOk c.supc dep paid burn:=hi.led
 have hqf:q.f.length≤c.qsize.toNat∧q.v.length≤c.qsize.toNat:=hi.qf
 have hsum:(bals (RG.l g)).sum=dep-paid-burn:=hi.sum
 have hvo:∀i,hasV (RG.l g) i=true→VO (gotV (RG.l g) i):=hi.vo
 have hqs:=hmo.qsize
 have hgl:=hg.le;have hgc:=hg.cp
 refine rn [1] ?_
 refine g_op (g_box rfl rfl rfl fun b3=>?_)
 refine g_op (zK rfl fun b4=>?_)
 refine rn [0,8,8] ?_
 refine dreg [] mixed rfl ?_
 refine rn [23,0,2,23,1,6,23,2,4,23,3,4,23,4,5,23,6,4,23,7,5,23,8,4,23,9,5,23,10,2,23,11,6,23,12,4] ?_
 refine dq 13 rfl (yQ (c' := C.c c) rfl rfl rfl) ?_
 refine dop 5 rfl (zG _ rfl (fun w1 hw1 ho1=>by have h7:=vW rb g w1 ho1 hg;exact h7) rfl ?_)
 rintro⟨A11,cap11⟩ _
 refine ii ?_
 refine dop 14 rfl (zI rfl (fun w1 hw1=>req_any A11 ((RG.l g).length) (cap11) ((RG.l g)) (_) (_) _ w1 (Rdb.toOld (ird (A:=A11)) hw1) (fun z hz=>(hg.ok z hz).bal) (by first|omega|(simp;omega))) rfl ?_)
 refine rn [23,15,3,27,7,1,2,51,0] ?_
 refine zC rfl (fun h1=>?_) (fun h1=>?_)
 ·have n1:(reqV (RG.l g) y.i y.t c)≠0:=by have h9:=h1;simpa using h9
  have hb:(consE (Eg.mk c blk (RG.l g) dep paid burn bo lv cur m q pend mg pt) y.i y.t)=((Eg.mk c blk (RG.l g) dep paid burn bo lv cur m q pend mg pt),⟨(reqV (RG.l g) y.i y.t c),0,0⟩):=by
    unfold consE;dsimp only;rw[if_pos n1]
  refine rn [1,2] ?_
  refine g_op (zI rfl (fun w1 hw1=>by exact yK ((reqV ((RG.l g)) ((y).i) ((y).t) c)) w1) rfl ?_)
  refine rn [33,0,11,13] ?_
  exact fin1 rfl (.cellw rfl rfl) (fun w' hw' => ⟨gg,(by(rw[hb];exact⟨hgg,sgg⟩)),by rw[hb];rfl,zA w' hw'⟩) _ (.inl rfl)
 ·have n1:(reqV (RG.l g) y.i y.t c)=0:=by have h9:=h1;simpa using h9
  refine rn [12,7,8,8] ?_
  refine dregL (L0:=[Res.blk eb 112 (ECell rb cb lb bb ub mb xb pb gb tb c lA (lv.length) lc),Res.blk b3 35 y.c]) [] mixed rfl zB ?_
  refine rn [23,0,2,23,1,6,23,2,4,23,3,5,23,4,4,23,5,5,23,6,4,23,7,5,23,8,49] ?_
  refine dop 9 rfl (g_lit rfl rfl rfl rfl rfl fun b34=>?_)
  refine zF (b:=b34) ((([(PP.mk y.i y.t)]:List PP).map PP.c).flatten) rfl ?_
  refine dop 10 rfl (zG _ rfl (fun w1 hw1 ho1=>by have h7:=push_pp gb gg mg [(PP.mk y.i y.t)] (some ⟨b34,0,none⟩) 1 w1 ho1 hgg (Rd.ofBlk (b:=b34) hw1 rfl (by simp[PP.c]) rfl) (by simp);exact h7) rfl ?_)
  rintro g35 ⟨r35,s35⟩
  refine ii ?_
  refine rn [23,11,44,27,7] ?_
  refine zC rfl (fun h2=>?_) (fun h2=>?_)
  ·have n2:c.qsize.toNat-mg.length=0:=by have h9:=h2;simp at h9;omega
   have hb:(consE (Eg.mk c blk (RG.l g) dep paid burn bo lv cur m q pend mg pt) y.i y.t)=((Eg.mk c blk (RG.l g) dep paid burn bo lv cur m q pend mg pt),⟨6,0,0⟩):=by
     unfold consE;dsimp only;rw[if_neg (fun h=>h n1),if_pos n2]
   refine rn [1] ?_
   refine g_op (zI rfl (fun w1 hw1=>by exact yK (6) w1) rfl ?_)
   refine rn [33,0,11,13] ?_
   exact fin1 rfl (.cellw rfl rfl) (fun w' hw' => ⟨g35,(by(try dsimp only);(rw[hb];have h8:=r35;rw[show(min ([(PP.mk y.i y.t)]:List PP).length (Rg.size gg-(mg).length))=0 by simp;omega] at h8;exact⟨by simpa using h8,by omega⟩)),by rw[hb];rfl,zA w' hw'⟩) _ (.inl rfl)
  ·have n2:¬c.qsize.toNat-mg.length=0:=by have h9:=h2;simp at h9;omega
   have hb:(consE (Eg.mk c blk (RG.l g) dep paid burn bo lv cur m q pend mg pt) y.i y.t)=((Eg.mk c blk (RG.l g) dep paid burn bo lv cur m q pend (mg++[PP.mk y.i y.t]) pt),⟨0,y.i,-1⟩):=by
     unfold consE;dsimp only;rw[if_neg (fun h=>h n1),if_neg n2]
   refine rn [12,7,1,4,5] ?_
   refine g_op (zI rfl (fun w1 hw1=>by exact xM ((y).i) ((-1)) w1) rfl ?_)
   refine rn [33,0,11] ?_
   exact fin1 rfl (.cellw rfl rfl) (fun w' hw' => ⟨g35,(by(try dsimp only);(rw[hb];have h8:=r35;rw[show(min ([(PP.mk y.i y.t)]:List PP).length (Rg.size gg-(mg).length))=1 by simp;omega] at h8;exact⟨by simpa using h8,by omega⟩)),by rw[hb];rfl,zA w' hw'⟩) _ (.inl rfl)
theorem part_any (eb rb cb lb bb ub mb xb b0 b1 pb gb tb:Nat) (c:C) (blk:Nat) (g:RG) (dep paid burn:Int) (bo:List En) (lv:List Int) (cur:Nat) (m:M) (q:LL) (pend:List Int) (mg:List PP) (pt:List Rq) (br:BR) (lA:Option Addr) (lc:Nat) (g0 g1 gp gg gt:Rg) (y:Op) (w:World) (hw:W0 [Res.blk eb 112 (ECell rb cb lb bb ub mb xb pb gb tb c lA (lv.length) lc),RgB rb g,RgW g,Res.im (RG.m g),rB_rq tb gt,rW_rq gt] w) (hi:Inv (Eg.mk c blk (RG.l g) dep paid burn bo lv cur m q pend mg pt)) (hg:g.Rep) (hcp:(g.cp:Int)=c.capa) (hgt:gt.Rep 2 (pt.map Rq.c)) (sgt:Rg.size gt=c.qsize.toNat):Own2 (ι:=Rg) Tryz.prog 63 [.pointer (some ⟨eb,0,none⟩),.agg y.c.toArray] w [Res.blk eb 112 (ECell rb cb lb bb ub mb xb pb gb tb c lA (lv.length) lc),RgB rb g,RgW g,Res.im (RG.m g),rB_rq tb gt,rW_rq gt] (fun x=>x.Rep 2 ((partE (Eg.mk c blk (RG.l g) dep paid burn bo lv cur m q pend mg pt) y.i y.a).1.pt.map Rq.c)∧x.size=c.qsize.toNat) (fun x=>.agg (Rs.c (partE (Eg.mk c blk (RG.l g) dep paid burn bo lv cur m q pend mg pt) y.i y.a).2).toArray) (fun x=>[]) (fun x=>[Res.blk eb 112 (ECell rb cb lb bb ub mb xb pb gb tb c lA (lv.length) lc),RgB rb g,RgW g,Res.im (RG.m g),rB_rq tb x,rW_rq x]):=by
 refine g_st Tryz.func63 36 hw ?_
 have hok:Cok c:=hi.cok
 have hmo:Cmo c:=yU hi.cc
 have hblk:blk≤1000000000:=hi.blk
 have hk:blk<4611686018427387904:=by omega
 have hel:1≤c.elen.toNat∧c.elen.toNat≤4611686018427387904:=by have:=hok.elen;omega
 have hled:LOk c.supc dep paid burn:=hi.led
 have hqf:q.f.length≤c.qsize.toNat∧q.v.length≤c.qsize.toNat:=hi.qf
 have hsum:(bals (RG.l g)).sum=dep-paid-burn:=hi.sum
 have hvo:∀i,hasV (RG.l g) i=true→VO (gotV (RG.l g) i):=hi.vo
 have hqs:=hmo.qsize
 have hgl:=hg.le;have hgc:=hg.cp
 refine rn [1] ?_
 refine g_op (g_box rfl rfl rfl fun b3=>?_)
 refine g_op (zK rfl fun b4=>?_)
 refine rn [0,1,4,5,4,5,49] ?_
 refine g_op (zK rfl fun b5=>?_)
 refine rn [33] ?_
 refine zF (b:=b5) (Rq.c (Rq.mk y.i y.a)) rfl ?_
 refine rn [0,8,8] ?_
 refine dreg [] mixed rfl ?_
 refine rn [23,0,2,23,1,6,23,2,4,23,3,4,23,4,5,23,6,45] ?_
 refine dop 5 rfl (zG _ rfl (fun w1 hw1 ho1=>by have h7:=vW rb g w1 ho1 hg;exact h7) rfl ?_)
 rintro⟨A17,cap17⟩ _
 refine ii ?_
 refine dop 7 rfl (zI rfl (fun w1 hw1=>pcheck_any A17 (RG.l g).length cap17 (RG.l g) (Rq.mk y.i y.a) w1 (Rdb.toOld (ird (A:=A17)) hw1) (by omega)) rfl ?_)
 refine rn [23,8,3,27,7,1,2,51,0] ?_
 refine zC rfl (fun h1=>?_) (fun h1=>?_)
 ·have n1:(prtC (RG.l g) y.i y.a)≠0:=by have h9:=h1;simpa using h9
  have hb:(partE (Eg.mk c blk (RG.l g) dep paid burn bo lv cur m q pend mg pt) y.i y.a)=((Eg.mk c blk (RG.l g) dep paid burn bo lv cur m q pend mg pt),⟨(prtC (RG.l g) y.i y.a),0,0⟩):=by
    unfold partE;dsimp only;rw[if_pos n1]
  refine rn [1,2] ?_
  refine g_op (zI rfl (fun w1 hw1=>by exact yK ((prtC (RG.l g) ((Rq.mk y.i y.a)).i ((Rq.mk y.i y.a)).m)) w1) rfl ?_)
  refine rn [33,0,11,13] ?_
  exact fin1 rfl (.cellw rfl rfl) (fun w' hw' => ⟨gt,(by(rw[hb];exact⟨hgt,sgt⟩)),by rw[hb];rfl,zA w' hw'⟩) _ (.inl rfl)
 ·have n1:(prtC (RG.l g) y.i y.a)=0:=by have h9:=h1;simpa using h9
  refine rn [12,7,8,8] ?_
  refine dregL (L0:=[Res.blk eb 112 (ECell rb cb lb bb ub mb xb pb gb tb c lA (lv.length) lc),Res.blk b5 110 (Rq.c (Rq.mk y.i y.a))]) [] mixed rfl zB ?_
  refine rn [23,0,2,23,1,6,23,2,4,23,3,5,23,4,45] ?_
  refine dop 5 rfl (g_lit rfl rfl rfl rfl rfl fun b29=>?_)
  refine zF (b:=b29) ((([(Rq.mk y.i y.a)]:List Rq).map Rq.c).flatten) rfl ?_
  refine dop 6 rfl (zG _ rfl (fun w1 hw1 ho1=>by have h7:=push_rq tb gt pt [(Rq.mk y.i y.a)] (some ⟨b29,0,none⟩) 1 w1 ho1 hgt (Rd.ofBlk (b:=b29) hw1 rfl (by simp[Rq.c]) rfl) (by simp);exact h7) rfl ?_)
  rintro g30 ⟨r30,s30⟩
  refine ii ?_
  refine rn [23,7,44,27,7] ?_
  refine zC rfl (fun h2=>?_) (fun h2=>?_)
  ·have n2:c.qsize.toNat-pt.length=0:=by have h9:=h2;simp at h9;omega
   have hb:(partE (Eg.mk c blk (RG.l g) dep paid burn bo lv cur m q pend mg pt) y.i y.a)=((Eg.mk c blk (RG.l g) dep paid burn bo lv cur m q pend mg pt),⟨6,0,0⟩):=by
     unfold partE;dsimp only;rw[if_neg (fun h=>h n1),if_pos n2]
   refine rn [1] ?_
   refine g_op (zI rfl (fun w1 hw1=>by exact yK (6) w1) rfl ?_)
   refine rn [33,0,11,13] ?_
   exact fin1 rfl (.cellw rfl rfl) (fun w' hw' => ⟨g30,(by(try dsimp only);(rw[hb];have h8:=r30;rw[show(min ([(Rq.mk y.i y.a)]:List Rq).length (Rg.size gt-(pt).length))=0 by simp;omega] at h8;exact⟨by simpa using h8,by omega⟩)),by rw[hb];rfl,zA w' hw'⟩) _ (.inl rfl)
  ·have n2:¬c.qsize.toNat-pt.length=0:=by have h9:=h2;simp at h9;omega
   have hb:(partE (Eg.mk c blk (RG.l g) dep paid burn bo lv cur m q pend mg pt) y.i y.a)=((Eg.mk c blk (RG.l g) dep paid burn bo lv cur m q pend mg (pt++[(Rq.mk y.i y.a)])),⟨0,y.i,-1⟩):=by
     unfold partE;dsimp only;rw[if_neg (fun h=>h n1),if_neg n2]
   refine rn [12,7,1,4,5] ?_
   refine g_op (zI rfl (fun w1 hw1=>by exact xM ((y).i) ((-1)) w1) rfl ?_)
   refine rn [33,0,11] ?_
   exact fin1 rfl (.cellw rfl rfl) (fun w' hw' => ⟨g30,(by(try dsimp only);(rw[hb];have h8:=r30;rw[show(min ([(Rq.mk y.i y.a)]:List Rq).length (Rg.size gt-(pt).length))=1 by simp;omega] at h8;exact⟨by simpa using h8,by omega⟩)),by rw[hb];rfl,zA w' hw'⟩) _ (.inl rfl)
end Go.Proofs.YtdddiilocbbkkaaGreat
