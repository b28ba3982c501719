/- TopDrains: for every configuration and all operations the law returns true. No condition. Part 21 of 28. -/
import Derived.Test.YtdddiilocbbkkaaGreatTD20
set_option linter.unusedVariables false
set_option linter.unusedSimpArgs false
namespace Go.Proofs.YtdddiilocbbkkaaGreat
open Go.RowKit Go.Eg
set_option maxHeartbeats 4000000
set_option synthInstance.maxSize 3000
set_option maxRecDepth 100000
structure EG where
 g:RG
 br:BR
 lA:Option Addr
 lc:Nat
 g0:Rg
 g1:Rg
 gp:Rg
 gg:Rg
 gt:Rg
structure EG.Rep (a:EG) (s:Eg):Prop where
 g:a.g.Rep
 l:a.g.l=s.l
 cp:(a.g.cp:Int)=s.c.capa
 b:a.br.Rep s.bo
 r0:a.g0.Rep 1 (s.q.f.map (fun v:Int=>[Value.int .i64 v]))
 r1:a.g1.Rep 1 (s.q.v.map (fun v:Int=>[Value.int .i64 v]))
 z0:a.g0.size=s.c.qsize.toNat
 z1:a.g1.size=s.c.qsize.toNat
 rp:a.gp.Rep 1 (s.pend.map (fun v:Int=>[Value.int .i64 v]))
 zp:a.gp.size=s.c.qsize.toNat
 rg:a.gg.Rep 2 (s.mg.map PP.c)
 zg:a.gg.size=s.c.qsize.toNat
 rt:a.gt.Rep 2 (s.pt.map Rq.c)
 zt:a.gt.size=s.c.qsize.toNat
structure TX where
 a:EG
 O:Option Addr
 oc:Nat
 pA:Option Addr
 pc:Nat
def rcV (r:Rc) (O:Option Addr) (oc:Nat) (pA:Option Addr) (pc:Nat):Value:=.agg #[.int .i64 r.k,.int .i64 r.code,.int .i64 r.i,.int .i64 r.blk,.int .i64 r.ep,.int .i64 r.dl,.slice O r.ag.length oc,.slice pA r.ps.length pc,.int .i64 r.vis]
theorem tick_eng (eb rb cb lb bb ub mb xb b0 b1 pb gb tb:Nat) (c:C) (blk:Nat) (g:RG) (dep paid burn:Int) (bo:List En) (lv:List Int) (cur:Nat) (m:M) (q:LL) (pend:List Int) (mg:List PP) (pt:List Rq) (br:BR) (lA:Option Addr) (lc:Nat) (g0 g1 gp gg gt:Rg) (y:Op) (w:World) (hw:W0 [Res.blk eb 112 (ECell rb cb lb bb ub mb xb pb gb tb c lA (lv.length) lc),RgB rb g,RgW g,Res.im (RG.m g),CkB cb (blk) (c.elen.toNat),LgB lb (dep) (paid) (burn) (c.supc),bB_ bb br,bW_ br,bK_ br,Res.row lA (lv).length lc 3 1 ((lv).map (fun v:Int=>[Value.int .i64 v])),CuB ub (cur),Res.blk mb 186 (M.c m),bL_ xb b0 b1,rB_i b0 g0,rW_i g0,rB_i b1 g1,rW_i g1,rB_i pb gp,rW_i gp,rB_pp gb gg,rW_pp gg,rB_rq tb gt,rW_rq gt] w) (hi:Inv (Eg.mk c blk (RG.l g) dep paid burn bo lv cur m q pend mg pt)) (hg:g.Rep) (hcp:(g.cp:Int)=c.capa) (hbr:br.Rep bo) (h0:g0.Rep 1 (q.f.map (fun v:Int=>[Value.int .i64 v]))) (h1_:g1.Rep 1 (q.v.map (fun v:Int=>[Value.int .i64 v]))) (s0:Rg.size g0=c.qsize.toNat) (s1:Rg.size g1=c.qsize.toNat) (hgp:gp.Rep 1 (pend.map (fun v:Int=>[Value.int .i64 v]))) (sgp:Rg.size gp=c.qsize.toNat) (hgg:gg.Rep 2 (mg.map PP.c)) (sgg:Rg.size gg=c.qsize.toNat) (hgt:gt.Rep 2 (pt.map Rq.c)) (sgt:Rg.size gt=c.qsize.toNat) (h7:y.k=7) (hb9:blk<1000000000):Own2 (ι:=TX) Tryz.prog 57 [.pointer (some ⟨eb,0,none⟩),.agg y.c.toArray] w [Res.blk eb 112 (ECell rb cb lb bb ub mb xb pb gb tb c lA (lv.length) lc),RgB rb g,RgW g,Res.im (RG.m g),CkB cb (blk) (c.elen.toNat),LgB lb (dep) (paid) (burn) (c.supc),bB_ bb br,bW_ br,bK_ br,Res.row lA (lv).length lc 3 1 ((lv).map (fun v:Int=>[Value.int .i64 v])),CuB ub (cur),Res.blk mb 186 (M.c m),bL_ xb b0 b1,rB_i b0 g0,rW_i g0,rB_i b1 g1,rW_i g1,rB_i pb gp,rW_i gp,rB_pp gb gg,rW_pp gg,rB_rq tb gt,rW_rq gt] (fun x=>x.a.Rep (tickE (Eg.mk c blk (RG.l g) dep paid burn bo lv cur m q pend mg pt)).1) (fun x=>rcV (tickE (Eg.mk c blk (RG.l g) dep paid burn bo lv cur m q pend mg pt)).2 x.O x.oc x.pA x.pc) (fun x=>[Res.row x.O (tickE (Eg.mk c blk (RG.l g) dep paid burn bo lv cur m q pend mg pt)).2.ag.length x.oc 55 3 ((tickE (Eg.mk c blk (RG.l g) dep paid burn bo lv cur m q pend mg pt)).2.ag.map As.cs),Res.row x.pA (tickE (Eg.mk c blk (RG.l g) dep paid burn bo lv cur m q pend mg pt)).2.ps.length x.pc 50 3 ((tickE (Eg.mk c blk (RG.l g) dep paid burn bo lv cur m q pend mg pt)).2.ps.map Y.c)]) (fun x=>[Res.blk eb 112 (ECell rb cb lb bb ub mb xb pb gb tb c x.a.lA ((tickE (Eg.mk c blk (RG.l g) dep paid burn bo lv cur m q pend mg pt)).1.lv.length) x.a.lc),RgB rb x.a.g,RgW x.a.g,Res.im (RG.m x.a.g),CkB cb ((blk+1)) (c.elen.toNat),LgB lb (dep) ((tickE (Eg.mk c blk (RG.l g) dep paid burn bo lv cur m q pend mg pt)).1.paid) (burn) (c.supc),bB_ bb x.a.br,bW_ x.a.br,bK_ x.a.br,Res.row x.a.lA ((tickE (Eg.mk c blk (RG.l g) dep paid burn bo lv cur m q pend mg pt)).1.lv).length x.a.lc 3 1 (((tickE (Eg.mk c blk (RG.l g) dep paid burn bo lv cur m q pend mg pt)).1.lv).map (fun v:Int=>[Value.int .i64 v])),CuB ub ((tickE (Eg.mk c blk (RG.l g) dep paid burn bo lv cur m q pend mg pt)).1.cur),Res.blk mb 186 (M.c (tickE (Eg.mk c blk (RG.l g) dep paid burn bo lv cur m q pend mg pt)).1.m),bL_ xb b0 b1,rB_i b0 x.a.g0,rW_i x.a.g0,rB_i b1 x.a.g1,rW_i x.a.g1,rB_i pb x.a.gp,rW_i x.a.gp,rB_pp gb x.a.gg,rW_pp x.a.gg,rB_rq tb x.a.gt,rW_rq x.a.gt]):=by
 refine g_st Tryz.func57 40 hw ?_
 have hok:Cok c:=hi.cok
 have hmo:Cmo c:=yU hi.cc
 have hblk:blk≤1000000000:=hi.blk
 have hk:blk<4611686018427387904:=by omega
 have hel:1≤c.elen.toNat∧c.elen.toNat≤4611686018427387904:=by have:=hok.elen;omega
 have hled:LOk c.supc dep paid burn:=hi.led
 have hqf:q.f.length≤c.qsize.toNat∧q.v.length≤c.qsize.toNat:=hi.qf
 have hsum:(bals (RG.l g)).sum=dep-paid-burn:=hi.sum
 have hvo:∀i,hasV (RG.l g) i=true→VO (gotV (RG.l g) i):=hi.vo
 have hqs:=hmo.qsize
 refine rn [1] ?_
 refine g_op (g_box rfl rfl rfl fun b3=>?_)
 refine g_op (zK rfl fun b4=>?_)
 refine rn [0,1,3,0,8,1,2,6,4,5] ?_
 refine g_op (zG _ rfl (fun w1 hw1 ho1=>by have h7:=tickc_any cb blk c.elen.toNat w1 ho1 (by omega) hel;exact h7) rfl ?_)
 rintro⟨⟩ _
 refine ii ?_
 refine rn [0] ?_
 refine zC rfl (fun h1=>?_) (fun h1=>?_)
 ·have hbd:(blk+1)%c.elen.toNat=0:=of_decide_eq_true h1
  have hmid:midE (Eg.mk c blk (RG.l g) dep paid burn bo lv cur m q pend mg pt)=(bdyE (Eg.mk c (blk+1) (RG.l g) dep paid burn bo lv cur m q pend mg pt)):=if_pos hbd
  have hiM:=(wM hi hb9).1
  rw[hmid] at hiM
  refine rn [10,2] ?_
  refine g_op (zG _ rfl (fun w1 hw1 ho1=>by have h7:=bdy_eng eb rb cb lb bb ub mb xb b0 b1 pb gb tb c blk g dep paid burn bo lv cur m q pend mg pt br lA lc g0 g1 gp gg gt w1 ho1 hi hg hcp hbr h0 h1_ s0 s1 hgp sgp hgg sgg hbd hb9;exact h7) rfl ?_)
  rintro⟨g15,br15,lA15,lc15,ga15,gb15,gp15,gg15,O15,oc15⟩ ⟨r15,l15,c15,rb15,ra15,rbb15,sa15,sb15,rp15,sp15,rg15,sg15⟩
  refine ii ?_
  simp only at r15 l15 c15 rb15 ra15 rbb15 sa15 sb15 rp15 sp15 rg15 sg15
  have hB1:(bdyE (Eg.mk c (blk+1) (RG.l g) dep paid burn bo lv cur m q pend mg pt)).1=(Eg.mk c (blk+1) (RG.l g15) dep paid burn (bdyE (Eg.mk c (blk+1) (RG.l g) dep paid burn bo lv cur m q pend mg pt)).1.bo (bdyE (Eg.mk c (blk+1) (RG.l g) dep paid burn bo lv cur m q pend mg pt)).1.lv cur (bdyE (Eg.mk c (blk+1) (RG.l g) dep paid burn bo lv cur m q pend mg pt)).1.m (bdyE (Eg.mk c (blk+1) (RG.l g) dep paid burn bo lv cur m q pend mg pt)).1.q (bdyE (Eg.mk c (blk+1) (RG.l g) dep paid burn bo lv cur m q pend mg pt)).1.pend (bdyE (Eg.mk c (blk+1) (RG.l g) dep paid burn bo lv cur m q pend mg pt)).1.mg pt):=by rw[l15];rfl
  rw[hB1] at hiM
  have hT:(tickE (Eg.mk c blk (RG.l g) dep paid burn bo lv cur m q pend mg pt))=((paysE (Eg.mk c (blk+1) (RG.l g15) dep paid burn (bdyE (Eg.mk c (blk+1) (RG.l g) dep paid burn bo lv cur m q pend mg pt)).1.bo (bdyE (Eg.mk c (blk+1) (RG.l g) dep paid burn bo lv cur m q pend mg pt)).1.lv cur (bdyE (Eg.mk c (blk+1) (RG.l g) dep paid burn bo lv cur m q pend mg pt)).1.m (bdyE (Eg.mk c (blk+1) (RG.l g) dep paid burn bo lv cur m q pend mg pt)).1.q (bdyE (Eg.mk c (blk+1) (RG.l g) dep paid burn bo lv cur m q pend mg pt)).1.pend (bdyE (Eg.mk c (blk+1) (RG.l g) dep paid burn bo lv cur m q pend mg pt)).1.mg pt)).1,⟨7,0,-1,((blk+1:Nat):Int),(((blk+1)/c.elen.toNat:Nat):Int),-1,(bdyE (Eg.mk c (blk+1) (RG.l g) dep paid burn bo lv cur m q pend mg pt)).2,(paysE (Eg.mk c (blk+1) (RG.l g15) dep paid burn (bdyE (Eg.mk c (blk+1) (RG.l g) dep paid burn bo lv cur m q pend mg pt)).1.bo (bdyE (Eg.mk c (blk+1) (RG.l g) dep paid burn bo lv cur m q pend mg pt)).1.lv cur (bdyE (Eg.mk c (blk+1) (RG.l g) dep paid burn bo lv cur m q pend mg pt)).1.m (bdyE (Eg.mk c (blk+1) (RG.l g) dep paid burn bo lv cur m q pend mg pt)).1.q (bdyE (Eg.mk c (blk+1) (RG.l g) dep paid burn bo lv cur m q pend mg pt)).1.pend (bdyE (Eg.mk c (blk+1) (RG.l g) dep paid burn bo lv cur m q pend mg pt)).1.mg pt)).2.1,(((paysE (Eg.mk c (blk+1) (RG.l g15) dep paid burn (bdyE (Eg.mk c (blk+1) (RG.l g) dep paid burn bo lv cur m q pend mg pt)).1.bo (bdyE (Eg.mk c (blk+1) (RG.l g) dep paid burn bo lv cur m q pend mg pt)).1.lv cur (bdyE (Eg.mk c (blk+1) (RG.l g) dep paid burn bo lv cur m q pend mg pt)).1.m (bdyE (Eg.mk c (blk+1) (RG.l g) dep paid burn bo lv cur m q pend mg pt)).1.q (bdyE (Eg.mk c (blk+1) (RG.l g) dep paid burn bo lv cur m q pend mg pt)).1.pend (bdyE (Eg.mk c (blk+1) (RG.l g) dep paid burn bo lv cur m q pend mg pt)).1.mg pt)).2.2:Nat):Int)⟩):=by rw[wD,hmid,hB1];rfl
  refine rn [3,0,1,2] ?_
  refine g_op (zG _ rfl (fun w1 hw1 ho1=>by have h7:=pay_eng eb rb cb lb bb ub mb xb b0 b1 pb gb tb c (blk+1) g15 dep paid burn (bdyE (Eg.mk c (blk+1) (RG.l g) dep paid burn bo lv cur m q pend mg pt)).1.bo (bdyE (Eg.mk c (blk+1) (RG.l g) dep paid burn bo lv cur m q pend mg pt)).1.lv cur (bdyE (Eg.mk c (blk+1) (RG.l g) dep paid burn bo lv cur m q pend mg pt)).1.m (bdyE (Eg.mk c (blk+1) (RG.l g) dep paid burn bo lv cur m q pend mg pt)).1.q (bdyE (Eg.mk c (blk+1) (RG.l g) dep paid burn bo lv cur m q pend mg pt)).1.pend (bdyE (Eg.mk c (blk+1) (RG.l g) dep paid burn bo lv cur m q pend mg pt)).1.mg pt br15 lA15 lc15 ga15 gb15 gp15 gg15 gt w1 ho1 (hiM) r15 (by omega) hgt sgt;exact h7) rfl ?_)
  rintro⟨g18,pA18,pc18,gt18⟩ ⟨r18,l18,c18,rt18,st18⟩
  refine ii ?_
  simp only at r18 l18 c18 rt18 st18
  refine rn [2,40,40,3,3,0,8] ?_
  refine dreg [13] mixed rfl ?_
  refine rn [23,0,45,23,1,2,23,2,6,23,3,4,23,4,5,23,6,2,23,7,6,23,8,4,23,9,5] ?_
  refine yG [5,12] (by kernel_rfl) (by simp) zB ⟨dpick rfl (zL _ rfl (fun w1 hw1 ho1=>by exact yL cb (blk+1) c.elen.toNat w1 ho1 (by omega) hel) rfl ?_),dpick rfl (zK rfl fun b8=>?_),trivial⟩
  ·refine yG [10,12] (by kernel_rfl) (by simp) zB ⟨dpick rfl (zL _ rfl (fun w1 hw1 ho1=>by exact zY cb (blk+1) c.elen.toNat w1 ho1 (by omega) hel) rfl ?_),dpick rfl (zK rfl fun b8=>?_),trivial⟩
   ·refine yG [11,12] (by kernel_rfl) (by simp) zB ⟨dpick rfl (zI rfl (fun w1 hw1=>by exact yX y ((-1)) ((-1)) ((((blk+1):Nat):Int)) (((((blk+1)/c.elen.toNat):Nat):Int)) w1) rfl ?_),dpick rfl (zK rfl fun b8=>?_),trivial⟩
    ·refine dop 12 rfl (zK rfl fun b8=>?_)
     refine dop 13 rfl (zQ rfl rfl rfl rfl rfl ?_)
     refine rn [28,7,1,2,2,2,4] ?_
     refine g_op (zJ rfl rfl rfl rfl rfl rfl rfl ?_)
     refine rn [4] ?_
     refine g_op (zJ rfl rfl rfl rfl rfl rfl rfl ?_)
     refine rn [4] ?_
     refine g_op (zJ rfl rfl rfl rfl rfl rfl rfl ?_)
     refine rn [0,1,45,33,0,11] ?_
     exact fin1 rfl (.cellw rfl rfl) (fun w' hw' => ⟨(⟨⟨g18,br15,lA15,lc15,ga15,gb15,gp15,gg15,gt18⟩,O15,oc15,pA18,pc18⟩:TX),(by(try dsimp only);(rw[hT];exact⟨r18,l18,by show(RG.cp g18:Int)=c.capa;omega,rb15,ra15,rbb15,sa15,sb15,rp15,sp15,rg15,sg15,rt18,st18⟩)),by rw[hT,h7];rfl,by have h9:=wQ [2,1,5,6,7,8,9,10,11,12,13,14,15,16,17,18,19,20,21,22,23,24,25,26,27] rfl (by decide) rfl w' hw';rw[hT];exact h9⟩) _ (.inl rfl)
    ·refine dop 11 rfl (zI rfl (fun w1 hw1=>by exact yX y ((-1)) ((-1)) ((((blk+1):Nat):Int)) (((((blk+1)/c.elen.toNat):Nat):Int)) w1) rfl ?_)
     refine dop 13 rfl (zQ rfl rfl rfl rfl rfl ?_)
     refine rn [28,7,1,2,2,2,4] ?_
     refine g_op (zJ rfl rfl rfl rfl rfl rfl rfl ?_)
     refine rn [4] ?_
     refine g_op (zJ rfl rfl rfl rfl rfl rfl rfl ?_)
     refine rn [4] ?_
     refine g_op (zJ rfl rfl rfl rfl rfl rfl rfl ?_)
     refine rn [0,1,45,33,0,11] ?_
     exact fin1 rfl (.cellw rfl rfl) (fun w' hw' => ⟨(⟨⟨g18,br15,lA15,lc15,ga15,gb15,gp15,gg15,gt18⟩,O15,oc15,pA18,pc18⟩:TX),(by(try dsimp only);(rw[hT];exact⟨r18,l18,by show(RG.cp g18:Int)=c.capa;omega,rb15,ra15,rbb15,sa15,sb15,rp15,sp15,rg15,sg15,rt18,st18⟩)),by rw[hT,h7];rfl,by have h9:=wQ [2,1,5,6,7,8,9,10,11,12,13,14,15,16,17,18,19,20,21,22,23,24,25,26,27] rfl (by decide) rfl w' hw';rw[hT];exact h9⟩) _ (.inl rfl)
   ·refine dop 10 rfl (zL _ rfl (fun w1 hw1 ho1=>by exact zY cb (blk+1) c.elen.toNat w1 ho1 (by omega) hel) rfl ?_)
    refine dop 11 rfl (zI rfl (fun w1 hw1=>by exact yX y ((-1)) ((-1)) ((((blk+1):Nat):Int)) (((((blk+1)/c.elen.toNat):Nat):Int)) w1) rfl ?_)
    refine dop 13 rfl (zQ rfl rfl rfl rfl rfl ?_)
    refine rn [28,7,1,2,2,2,4] ?_
    refine g_op (zJ rfl rfl rfl rfl rfl rfl rfl ?_)
    refine rn [4] ?_
    refine g_op (zJ rfl rfl rfl rfl rfl rfl rfl ?_)
    refine rn [4] ?_
    refine g_op (zJ rfl rfl rfl rfl rfl rfl rfl ?_)
    refine rn [0,1,45,33,0,11] ?_
    exact fin1 rfl (.cellw rfl rfl) (fun w' hw' => ⟨(⟨⟨g18,br15,lA15,lc15,ga15,gb15,gp15,gg15,gt18⟩,O15,oc15,pA18,pc18⟩:TX),(by(try dsimp only);(rw[hT];exact⟨r18,l18,by show(RG.cp g18:Int)=c.capa;omega,rb15,ra15,rbb15,sa15,sb15,rp15,sp15,rg15,sg15,rt18,st18⟩)),by rw[hT,h7];rfl,by have h9:=wQ [2,1,5,6,7,8,9,10,11,12,13,14,15,16,17,18,19,20,21,22,23,24,25,26,27] rfl (by decide) rfl w' hw';rw[hT];exact h9⟩) _ (.inl rfl)
  ·refine dop 5 rfl (zL _ rfl (fun w1 hw1 ho1=>by exact yL cb (blk+1) c.elen.toNat w1 ho1 (by omega) hel) rfl ?_)
   refine dop 10 rfl (zL _ rfl (fun w1 hw1 ho1=>by exact zY cb (blk+1) c.elen.toNat w1 ho1 (by omega) hel) rfl ?_)
   refine dop 11 rfl (zI rfl (fun w1 hw1=>by exact yX y ((-1)) ((-1)) ((((blk+1):Nat):Int)) (((((blk+1)/c.elen.toNat):Nat):Int)) w1) rfl ?_)
   refine dop 13 rfl (zQ rfl rfl rfl rfl rfl ?_)
   refine rn [28,7,1,2,2,2,4] ?_
   refine g_op (zJ rfl rfl rfl rfl rfl rfl rfl ?_)
   refine rn [4] ?_
   refine g_op (zJ rfl rfl rfl rfl rfl rfl rfl ?_)
   refine rn [4] ?_
   refine g_op (zJ rfl rfl rfl rfl rfl rfl rfl ?_)
   refine rn [0,1,45,33,0,11] ?_
   exact fin1 rfl (.cellw rfl rfl) (fun w' hw' => ⟨(⟨⟨g18,br15,lA15,lc15,ga15,gb15,gp15,gg15,gt18⟩,O15,oc15,pA18,pc18⟩:TX),(by(try dsimp only);(rw[hT];exact⟨r18,l18,by show(RG.cp g18:Int)=c.capa;omega,rb15,ra15,rbb15,sa15,sb15,rp15,sp15,rg15,sg15,rt18,st18⟩)),by rw[hT,h7];rfl,by have h9:=wQ [2,1,5,6,7,8,9,10,11,12,13,14,15,16,17,18,19,20,21,22,23,24,25,26,27] rfl (by decide) rfl w' hw';rw[hT];exact h9⟩) _ (.inl rfl)
 ·have hbd:¬(blk+1)%c.elen.toNat=0:=of_decide_eq_false h1
  have hmid:midE (Eg.mk c blk (RG.l g) dep paid burn bo lv cur m q pend mg pt)=((Eg.mk c (blk+1) (RG.l g) dep paid burn bo lv cur m q pend mg pt),[]):=if_neg hbd
  have hiM:=(wM hi hb9).1
  rw[hmid] at hiM
  have hT:(tickE (Eg.mk c blk (RG.l g) dep paid burn bo lv cur m q pend mg pt))=((paysE (Eg.mk c (blk+1) (RG.l g) dep paid burn bo lv cur m q pend mg pt)).1,⟨7,0,-1,((blk+1:Nat):Int),(((blk+1)/c.elen.toNat:Nat):Int),-1,[],(paysE (Eg.mk c (blk+1) (RG.l g) dep paid burn bo lv cur m q pend mg pt)).2.1,(((paysE (Eg.mk c (blk+1) (RG.l g) dep paid burn bo lv cur m q pend mg pt)).2.2:Nat):Int)⟩):=by rw[wD,hmid];rfl
  refine zX none 55 3 (([]:List As).map As.cs) (by rfl) ?_
  refine rn [12,7,1,2] ?_
  refine g_op (zG _ rfl (fun w1 hw1 ho1=>by have h7:=pay_eng eb rb cb lb bb ub mb xb b0 b1 pb gb tb c (blk+1) g dep paid burn bo lv cur m q pend mg pt br lA lc g0 g1 gp gg gt w1 ho1 (hiM) hg hcp hgt sgt;exact h7) rfl ?_)
  rintro⟨g18,pA18,pc18,gt18⟩ ⟨r18,l18,c18,rt18,st18⟩
  refine ii ?_
  simp only at r18 l18 c18 rt18 st18
  refine rn [2,40,40,3,3,0,8] ?_
  refine dreg [13] mixed rfl ?_
  refine rn [23,0,45,23,1,2,23,2,6,23,3,4,23,4,5,23,6,2,23,7,6,23,8,4,23,9,5] ?_
  refine yG [5,12] (by kernel_rfl) (by simp) zB ⟨dpick rfl (zL _ rfl (fun w1 hw1 ho1=>by exact yL cb (blk+1) c.elen.toNat w1 ho1 (by omega) hel) rfl ?_),dpick rfl (zK rfl fun b8=>?_),trivial⟩
  ·refine yG [10,12] (by kernel_rfl) (by simp) zB ⟨dpick rfl (zL _ rfl (fun w1 hw1 ho1=>by exact zY cb (blk+1) c.elen.toNat w1 ho1 (by omega) hel) rfl ?_),dpick rfl (zK rfl fun b8=>?_),trivial⟩
   ·refine yG [11,12] (by kernel_rfl) (by simp) zB ⟨dpick rfl (zI rfl (fun w1 hw1=>by exact yX y ((-1)) ((-1)) ((((blk+1):Nat):Int)) (((((blk+1)/c.elen.toNat):Nat):Int)) w1) rfl ?_),dpick rfl (zK rfl fun b8=>?_),trivial⟩
    ·refine dop 12 rfl (zK rfl fun b8=>?_)
     refine dop 13 rfl (zQ rfl rfl rfl rfl rfl ?_)
     refine rn [28,7,1,2,2,2,4] ?_
     refine g_op (zJ rfl rfl rfl rfl rfl rfl rfl ?_)
     refine rn [4] ?_
     refine g_op (zJ rfl rfl rfl rfl rfl rfl rfl ?_)
     refine rn [4] ?_
     refine g_op (zJ rfl rfl rfl rfl rfl rfl rfl ?_)
     refine rn [0,1,45,33,0,11] ?_
     exact fin1 rfl (.cellw rfl rfl) (fun w' hw' => ⟨(⟨⟨g18,br,lA,lc,g0,g1,gp,gg,gt18⟩,none,0,pA18,pc18⟩:TX),(by(try dsimp only);(rw[hT];exact⟨r18,l18,by show(RG.cp g18:Int)=c.capa;omega,hbr,h0,h1_,s0,s1,hgp,sgp,hgg,sgg,rt18,st18⟩)),by rw[hT,h7];rfl,by have h9:=wQ [2,1,5,6,7,8,9,10,11,12,13,14,15,16,17,18,19,20,21,22,23,24,25,26,27] rfl (by decide) rfl w' hw';rw[hT];exact h9⟩) _ (.inl rfl)
    ·refine dop 11 rfl (zI rfl (fun w1 hw1=>by exact yX y ((-1)) ((-1)) ((((blk+1):Nat):Int)) (((((blk+1)/c.elen.toNat):Nat):Int)) w1) rfl ?_)
     refine dop 13 rfl (zQ rfl rfl rfl rfl rfl ?_)
     refine rn [28,7,1,2,2,2,4] ?_
     refine g_op (zJ rfl rfl rfl rfl rfl rfl rfl ?_)
     refine rn [4] ?_
     refine g_op (zJ rfl rfl rfl rfl rfl rfl rfl ?_)
     refine rn [4] ?_
     refine g_op (zJ rfl rfl rfl rfl rfl rfl rfl ?_)
     refine rn [0,1,45,33,0,11] ?_
     exact fin1 rfl (.cellw rfl rfl) (fun w' hw' => ⟨(⟨⟨g18,br,lA,lc,g0,g1,gp,gg,gt18⟩,none,0,pA18,pc18⟩:TX),(by(try dsimp only);(rw[hT];exact⟨r18,l18,by show(RG.cp g18:Int)=c.capa;omega,hbr,h0,h1_,s0,s1,hgp,sgp,hgg,sgg,rt18,st18⟩)),by rw[hT,h7];rfl,by have h9:=wQ [2,1,5,6,7,8,9,10,11,12,13,14,15,16,17,18,19,20,21,22,23,24,25,26,27] rfl (by decide) rfl w' hw';rw[hT];exact h9⟩) _ (.inl rfl)
   ·refine dop 10 rfl (zL _ rfl (fun w1 hw1 ho1=>by exact zY cb (blk+1) c.elen.toNat w1 ho1 (by omega) hel) rfl ?_)
    refine dop 11 rfl (zI rfl (fun w1 hw1=>by exact yX y ((-1)) ((-1)) ((((blk+1):Nat):Int)) (((((blk+1)/c.elen.toNat):Nat):Int)) w1) rfl ?_)
    refine dop 13 rfl (zQ rfl rfl rfl rfl rfl ?_)
    refine rn [28,7,1,2,2,2,4] ?_
    refine g_op (zJ rfl rfl rfl rfl rfl rfl rfl ?_)
    refine rn [4] ?_
    refine g_op (zJ rfl rfl rfl rfl rfl rfl rfl ?_)
    refine rn [4] ?_
    refine g_op (zJ rfl rfl rfl rfl rfl rfl rfl ?_)
    refine rn [0,1,45,33,0,11] ?_
    exact fin1 rfl (.cellw rfl rfl) (fun w' hw' => ⟨(⟨⟨g18,br,lA,lc,g0,g1,gp,gg,gt18⟩,none,0,pA18,pc18⟩:TX),(by(try dsimp only);(rw[hT];exact⟨r18,l18,by show(RG.cp g18:Int)=c.capa;omega,hbr,h0,h1_,s0,s1,hgp,sgp,hgg,sgg,rt18,st18⟩)),by rw[hT,h7];rfl,by have h9:=wQ [2,1,5,6,7,8,9,10,11,12,13,14,15,16,17,18,19,20,21,22,23,24,25,26,27] rfl (by decide) rfl w' hw';rw[hT];exact h9⟩) _ (.inl rfl)
  ·refine dop 5 rfl (zL _ rfl (fun w1 hw1 ho1=>by exact yL cb (blk+1) c.elen.toNat w1 ho1 (by omega) hel) rfl ?_)
   refine dop 10 rfl (zL _ rfl (fun w1 hw1 ho1=>by exact zY cb (blk+1) c.elen.toNat w1 ho1 (by omega) hel) rfl ?_)
   refine dop 11 rfl (zI rfl (fun w1 hw1=>by exact yX y ((-1)) ((-1)) ((((blk+1):Nat):Int)) (((((blk+1)/c.elen.toNat):Nat):Int)) w1) rfl ?_)
   refine dop 13 rfl (zQ rfl rfl rfl rfl rfl ?_)
   refine rn [28,7,1,2,2,2,4] ?_
   refine g_op (zJ rfl rfl rfl rfl rfl rfl rfl ?_)
   refine rn [4] ?_
   refine g_op (zJ rfl rfl rfl rfl rfl rfl rfl ?_)
   refine rn [4] ?_
   refine g_op (zJ rfl rfl rfl rfl rfl rfl rfl ?_)
   refine rn [0,1,45,33,0,11] ?_
   exact fin1 rfl (.cellw rfl rfl) (fun w' hw' => ⟨(⟨⟨g18,br,lA,lc,g0,g1,gp,gg,gt18⟩,none,0,pA18,pc18⟩:TX),(by(try dsimp only);(rw[hT];exact⟨r18,l18,by show(RG.cp g18:Int)=c.capa;omega,hbr,h0,h1_,s0,s1,hgp,sgp,hgg,sgg,rt18,st18⟩)),by rw[hT,h7];rfl,by have h9:=wQ [2,1,5,6,7,8,9,10,11,12,13,14,15,16,17,18,19,20,21,22,23,24,25,26,27] rfl (by decide) rfl w' hw';rw[hT];exact h9⟩) _ (.inl rfl)
end Go.Proofs.YtdddiilocbbkkaaGreat
