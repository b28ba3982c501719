/- TopModel, part 15. No condition. -/
import Derived.Test.YtdddiilocbbkkaaGreatTN14
set_option linter.unusedVariables false
set_option linter.unusedSimpArgs false
namespace Go.Proofs.YtdddiilocbbkkaaGreat
open Go.RowKit Go.Eg
set_option maxHeartbeats 4000000
set_option synthInstance.maxSize 3000
set_option maxRecDepth 100000
structure EP where
 eb:Nat
 rb:Nat
 cb:Nat
 lb:Nat
 bb:Nat
 ub:Nat
 mb:Nat
 xb:Nat
 b0:Nat
 b1:Nat
 pb:Nat
 gb:Nat
 tb:Nat
theorem Ab (c:C) (w:World) (hc:chk c=0) (hk:c.ok):au (ι:=(EP × EG)) Tryz.prog 10 [c.v] w [] (fun x=>x.2.Rep (Δ c)) (fun x=>.tuple [aG x.1.eb,aH 0].toArray) (fun x=>[Res.blk x.1.eb 112 (av x.1.rb x.1.cb x.1.lb x.1.bb x.1.ub x.1.mb x.1.xb x.1.pb x.1.gb x.1.tb c x.2.lA ((Δ c).lv.length) x.2.lc),RgB x.1.rb x.2.g,RgW x.2.g,Res.im (RG.m x.2.g),CkB x.1.cb ((Δ c).blk) (c.elen.toNat),LgB x.1.lb ((Δ c).dep) ((Δ c).paid) ((Δ c).burn) (c.supc),bB_ x.1.bb x.2.br,bW_ x.2.br,bK_ x.2.br,Res.row x.2.lA ((Δ c).lv).length x.2.lc 3 1 (((Δ c).lv).map aC),CuB x.1.ub ((Δ c).cur),Res.blk x.1.mb 186 (M.c (Δ c).m),Res.blk x.1.xb 191 [aG x.1.b0,aG x.1.b1],aj x.1.b0 x.2.g0,ah x.2.g0,aj x.1.b1 x.2.g1,ah x.2.g1,aj x.1.pb x.2.gp,ah x.2.gp,cn x.1.gb x.2.gg,cm x.2.gg,cq x.1.tb x.2.gt,Ψ x.2.gt]) (fun x=>[]):=by
 refine Γ Tryz.func10 37 (WOK.start (fps []) _) ?_;have i6:Cok c:=lL hc hk;have o6:Cmo c:=yM hc;have q1:=i6.capa;have q2:=i6.elen;have q3:=o6.rlen;have q4:=o6.qsize;have W2:((c.capa.toNat:Nat):Int)=c.capa:=by omega
 have e_elen:((c.elen.toNat:Nat):Int)=c.elen:=by omega
 have e_rlen:((c.rlen.toNat:Nat):Int)=c.rlen:=by omega
 have E1:((c.qsize.toNat:Nat):Int)=c.qsize:=by omega
 refine Ri ?_;refine aa (aq (c:=C.c c) rfl rfl rfl fun b1=>rn [3,3,0,8,1,45] ?_);refine aa (zH rfl (fun w1 a6=>oZ c w1 hc i6) rfl (rn [48,0,20,12,7,8] ?_));refine bn [] an rfl (rn [23,0,4,23,1,5] ?_);refine ae 8 (v' := aH c.capa.toNat) rfl (by rw[W2]) (rn [23,4,45,23,5,4,23,6,5] ?_);refine ae 13 (v' := aH c.elen.toNat) rfl (by rw[e_elen]) (rn [23,8,4,23,9,5,23,11,4,23,12,5] ?_);refine ae 19 (v' := aH c.rlen.toNat) rfl (by rw[e_rlen]) (rn [23,16,4,23,17,5] ?_);refine ae 24 (v' := aH c.qsize.toNat) rfl (by rw[E1]) (rn [23,19,4,23,20,5] ?_);refine ae 27 (v' := aH c.qsize.toNat) rfl (by rw[E1]) (rn [23,22,4,23,23,5] ?_);refine ae 30 (v' := aH c.qsize.toNat) rfl (by rw[E1]) (rn [23,25,4,23,26,5] ?_);refine ae 33 (v' := aH c.qsize.toNat) rfl (by rw[E1]) ?_;refine dop 2 rfl (zJ [] rfl (fun w1 a6 a8=>by have h7:=wt (c.capa.toNat) w1 aK;exact h7) rfl ?_);rintro⟨b9,g9⟩ ⟨r9,l9,c9⟩;refine ii (rn [23,3,49] ?_);refine dop 7 rfl (zJ [] rfl (fun w1 a6 a8=>by have h7:=zj (c.elen.toNat) w1 aK;exact h7) rfl ?_);rintro G4 _;refine ii ?_;refine dop 10 rfl (zJ [] rfl (fun w1 a6 a8=>by have h7:=zx (c.supc) w1;exact h7) rfl ?_);rintro M5 _;refine ii ?_;refine dop 13 rfl (zJ [] rfl (fun w1 a6 a8=>by have h7:=Ao (c.rlen.toNat) w1 aK;exact h7) rfl ?_);rintro⟨N4,Y4⟩ ⟨P4,s20⟩;refine ii ?_;simp only at P4 s20;refine dop 14 rfl (zJ [] rfl (fun w1 a6 a8=>by have h7:=ve w1;exact h7) rfl ?_);rintro v7 _;refine ii ?_;refine dop 15 rfl (zJ [] rfl (fun w1 a6 a8=>by have h7:=zo w1;exact h7) rfl ?_);rintro R7 _;refine ii ?_;refine dop 18 rfl (zJ [] rfl (fun w1 a6 a8=>by have h7:=zy (c.qsize.toNat) w1 aK;exact h7) rfl ?_);rintro⟨E2,ba25,bb25,g25,gg25⟩ ⟨r25,s25,rr25,ss25⟩;refine ii ?_;simp only at r25 s25 rr25 ss25;refine dop 21 rfl (zJ [] rfl (fun w1 a6 a8=>by have h7:=zk (c.qsize.toNat) w1 aK;exact h7) rfl ?_);rintro⟨P0,g28⟩ ⟨r28,s28⟩;refine ii ?_;simp only at r28 s28;refine dop 24 rfl (zJ [] rfl (fun w1 a6 a8=>by have h7:=Eb (c.qsize.toNat) w1 aK;exact h7) rfl ?_);rintro⟨b31,g31⟩ ⟨r31,s31⟩;refine ii ?_;simp only at r31 s31;refine dop 27 rfl (zJ [] rfl (fun w1 a6 a8=>by have h7:=Ea (c.qsize.toNat) w1 aK;exact h7) rfl ?_);rintro⟨b34,g34⟩ ⟨r34,s34⟩;refine ii ?_;simp only at r34 s34;refine dq 28 rfl (yF (c:=(av b9 G4 M5 N4 v7 R7 E2 P0 b31 b34 c none 0 0)) rfl aL) ?_;refine dop 29 rfl (aq (c:=(av b9 G4 M5 N4 v7 R7 E2 P0 b31 b34 c none 0 0)) rfl rfl rfl fun b36=>rn [23,30,3,23,31,3,27,7,11] ?_);refine zY none 3 1 (([]:List Int).map aC) aP ?_;exact dE rfl rfl rfl fun w' a5=>⟨((⟨b36,b9,G4,M5,N4,v7,R7,E2,ba25,bb25,P0,b31,b34⟩:EP),(⟨g9,Y4,none,0,g25,gg25,g28,g31,g34⟩:EG)),(by(try dsimp only);exact⟨r9,l9,by show(RG.cp g9:Int)=c.capa;rw[c9,W2],P4,r25,rr25,s25,ss25,r28,s28,r31,s31,r34,s34⟩),rfl,by have h9:=zG (L' := [Res.blk b36 112 (av b9 G4 M5 N4 v7 R7 E2 P0 b31 b34 c none (([]:List Int).length) 0),RgB b9 g9,RgW g9,Res.im g9.m,CkB G4 (0) (c.elen.toNat),LgB M5 (0) (0) (0) (c.supc),bB_ N4 Y4,bW_ Y4,bK_ Y4,Res.row none (([]:List Int)).length 0 3 1 ((([]:List Int)).map aC),CuB v7 (0),Res.blk R7 186 (M.c M0),bL_ E2 ba25 bb25,aj ba25 g25,ah g25,aj bb25 gg25,ah gg25,aj P0 g28,ah g28,cn b31 g31,cm g31,cq b34 g34,Ψ g34]) w' a5;exact h9⟩
structure SN where
 vA:bU
 vc:Nat
 pA:bU
 pc:Nat
 fA:bU
 fc:Nat
 oA:bU
 oc:Nat
 mA:bU
 mc:Nat
 rA:bU
 rc:Nat
theorem vv (eb rb cb lb bb ub mb xb b0 b1 pb gb tb:Nat) (c:C) (blk:Nat) (g:RG) (dep paid burn:Int) (bo:List En) (lv:List Int) (cur:Nat) (m:M) (q:LL) (pend:List Int) (mg:List PP) (pt:List Rq) (br:BR) (lA:bU) (lc:Nat) (g0 g1 gp gg gt:Rg) (w:World) (hw:W0 [Res.blk eb 112 (av rb cb lb bb ub mb xb pb gb tb c lA (lv.length) lc),RgB rb g,RgW g,Res.im g.m,CkB cb (blk) (c.elen.toNat),LgB lb (dep) (paid) (burn) (c.supc),bB_ bb br,bW_ br,bK_ br,Res.row lA (lv).length lc 3 1 ((lv).map aC),CuB ub (cur),Res.blk mb 186 (M.c m),bL_ xb b0 b1,aj b0 g0,ah g0,aj b1 g1,ah g1,aj pb gp,ah gp,cn gb gg,cm gg,cq tb gt,Ψ gt] w) (hi:Inv (Eg.mk c blk g.l dep paid burn bo lv cur m q pend mg pt)) (hg:g.Rep) (q7:(g.cp:Int)=c.capa) (hbr:br.Rep bo) (h0:g0.Rep 1 (q.f.map aC)) (o7:g1.Rep 1 (q.v.map aC)) (s0:Rg.size g0=c.qsize.toNat) (s1:Rg.size g1=c.qsize.toNat) (hgp:gp.Rep 1 (pend.map aC)) (sgp:Rg.size gp=c.qsize.toNat) (hgg:gg.Rep 2 (mg.map PP.c)) (sgg:Rg.size gg=c.qsize.toNat) (hgt:gt.Rep 2 (pt.map Rq.c)) (sgt:Rg.size gt=c.qsize.toNat):au (ι:=SN) Tryz.prog 13 [aG eb] w [Res.blk eb 112 (av rb cb lb bb ub mb xb pb gb tb c lA (lv.length) lc),RgB rb g,RgW g,Res.im g.m,CkB cb (blk) (c.elen.toNat),LgB lb (dep) (paid) (burn) (c.supc),bB_ bb br,bW_ br,bK_ br,Res.row lA (lv).length lc 3 1 ((lv).map aC),CuB ub (cur),Res.blk mb 186 (M.c m),bL_ xb b0 b1,aj b0 g0,ah g0,aj b1 g1,ah g1,aj pb gp,ah gp,cn gb gg,cm gg,cq tb gt,Ψ gt] (fun x=>True) (fun x=>.agg ([aI blk,aI (blk/c.elen.toNat),.slice x.vA (g.l).length x.vc,aJ dep,aJ paid,aJ burn,aJ (dZ g.l),.slice x.pA pend.length x.pc,.slice x.fA q.f.length x.fc,.slice x.oA q.v.length x.oc,.slice x.mA mg.length x.mc,.slice x.rA pt.length x.rc,aI cur,aJ (M.bal m),aI bo.length]).toArray) (fun x=>[Res.row x.vA (g.l).length x.vc 52 7 ((g.l).map V.c),Res.row x.pA (pend).length x.pc 3 1 ((pend).map aC),Res.row x.fA (q.f).length x.fc 3 1 ((q.f).map aC),Res.row x.oA (q.v).length x.oc 3 1 ((q.v).map aC),Res.row x.mA (mg).length x.mc 106 2 ((mg).map PP.c),Res.row x.rA (pt).length x.rc 110 2 ((pt).map Rq.c)]) (fun x=>[Res.blk eb 112 (av rb cb lb bb ub mb xb pb gb tb c lA (lv.length) lc),RgB rb g,RgW g,Res.im g.m,CkB cb (blk) (c.elen.toNat),LgB lb (dep) (paid) (burn) (c.supc),bB_ bb br,bW_ br,bK_ br,Res.row lA (lv).length lc 3 1 ((lv).map aC),CuB ub (cur),Res.blk mb 186 (M.c m),bL_ xb b0 b1,aj b0 g0,ah g0,aj b1 g1,ah g1,aj pb gp,ah gp,cn gb gg,cm gg,cq tb gt,Ψ gt]):=by
 refine Γ Tryz.func13 81 hw ?_;have i6:Cok c:=hi.cok;have o6:Cmo c:=yM hi.cc;have u6:blk≤1000000000:=hi.blk;have hk:blk<4611686018427387904:=by omega
 have k8:1≤c.elen.toNat∧c.elen.toNat≤4611686018427387904:=by have:=i6.elen;omega
 have y2:LOk c.supc dep paid burn:=hi.led;have y8:q.f.length≤c.qsize.toNat∧q.v.length≤c.qsize.toNat:=hi.qf;have t6:(bx g.l).sum=dep-paid-burn:=hi.sum;have s7:∀i,ax g.l i=true→VO (ab g.l i):=hi.vo;have F9:=o6.qsize;have hbol:bo.length≤g.l.length:=hi.e.bol;have hgl0:=hg.le;have hgc0:=hg.cp;have hpel:pend.length≤4096:=by have h9:=hi.pe;simp only at h9;omega
 have F2:mg.length≤4096:=by have h9:=hi.mg;simp only at h9;omega
 have F1:pt.length≤4096:=by have h9:=hi.pt;simp only at h9;omega
 refine Ri ?_;refine aa (zK rfl fun b2=>rn [0,8,1,2,50,0,20,12,7,1,2,6,4,5] ?_);refine aa (zN _ rfl (fun w1 a6 a8=>by exact zw lb dep paid burn c.supc w1 a8) rfl ?_);refine aa (zK rfl fun b3=>rn [33,0,8] ?_);refine bn [69] an rfl (rn [23,0,2,23,1,6,23,2,4,23,3,5,23,5,2,23,6,6,23,7,4,23,8,5,23,10,2,23,11,6,23,12,4,23,13,4,23,14,5,23,16,4,23,17,5,23,18,4,23,19,5,23,20,4,23,21,5,23,22,2,23,23,6,23,24,4,23,25,4,23,26,5,23,28,2,23,29,6,23,30,4,23,31,5,23,33,2,23,34,6,23,35,4,23,36,5,23,38,2,23,39,6,23,40,4,23,41,5,23,43,2,23,44,6,23,45,4,23,46,5,23,48,2,23,49,6,23,50,4,23,51,5,23,53,2,23,54,6,23,55,4,23,56,5,23,58,2,23,59,6,23,60,4,23,61,5,23,63,2,23,64,6,23,65,4,23,66,5] ?_);refine dop 4 rfl (zN _ rfl (fun w1 a6 a8=>by exact yR cb blk c.elen.toNat w1 a8 hk k8) rfl ?_);refine dop 9 rfl (zN _ rfl (fun w1 a6 a8=>by exact yE cb blk c.elen.toNat w1 a8 hk k8) rfl ?_);refine dop 15 rfl (zJ _ rfl (fun w1 a6 a8=>by have h7:=uI rb g w1 a8 hg;exact h7) rfl ?_);rintro⟨A27,W9⟩ _;refine ii ?_;refine dop 27 rfl (zN _ rfl (fun w1 a6 a8=>by exact mH rb g w1 a8) rfl ?_);refine ae 39 (v' := aJ (dZ g.l)) rfl (by rw[hg.a]) ?_;refine dop 32 rfl (zJ _ rfl (fun w1 a6 a8=>by have h7:=BK pb gp pend w1 a8 hgp;exact h7) rfl ?_);rintro⟨A44,W8⟩ _;refine ii ?_;refine dop 37 rfl (zJ _ rfl (fun w1 a6 a8=>by have h7:=tW xb b0 b1 g0 g1 q c.qsize.toNat (0) w1 a8 h0 o7 s0 s1 aK;exact h7) rfl ?_);rintro⟨A49,N0⟩ _;refine ii ?_;refine ae 49 (v' := .slice A49 q.f.length N0) rfl (rfl) ?_;refine dop 42 rfl (zJ _ rfl (fun w1 a6 a8=>by have h7:=tW xb b0 b1 g0 g1 q c.qsize.toNat (1) w1 a8 h0 o7 s0 s1 aK;exact h7) rfl ?_);rintro⟨A54,M9⟩ _;refine ii ?_;refine ae 54 (v' := .slice A54 q.v.length M9) rfl (rfl) ?_;refine dop 47 rfl (zJ _ rfl (fun w1 a6 a8=>by have h7:=BJ gb gg mg w1 a8 hgg;exact h7) rfl ?_);rintro⟨A59,W7⟩ _;refine ii ?_;refine dop 52 rfl (zJ _ rfl (fun w1 a6 a8=>by have h7:=BI tb gt pt w1 a8 hgt;exact h7) rfl ?_);rintro⟨A64,W6⟩ _;refine ii ?_;refine dop 57 rfl (zN _ rfl (fun w1 a6 a8=>by exact BY ub cur w1 a8) rfl ?_);refine dop 62 rfl (zN _ rfl (fun w1 a6 a8=>by exact kn mb m w1 a8) rfl ?_);refine dop 67 rfl (zN _ rfl (fun w1 a6 a8=>by exact Ar bb br bo w1 a8 hbr) rfl ?_);refine dq 68 rfl (yF (c:=[aI blk,aI (blk/c.elen.toNat),.slice A27 (g.l).length W9,aJ dep,aJ paid,aJ burn,aJ (dZ g.l),.slice A44 pend.length W8,.slice A49 q.f.length N0,.slice A54 q.v.length M9,.slice A59 mg.length W7,.slice A64 pt.length W6,aI cur,aJ (M.bal m),aI bo.length]) rfl aL) ?_;refine dop 69 rfl (zT rfl rfl rfl rfl rfl (Nc ?_));exact dG rfl (.cellw rfl rfl) fun w' a5=>⟨(⟨A27,W9,A44,W8,A49,N0,A54,M9,A59,W7,A64,W6⟩:SN),bG,rfl,by have h9:=zG (L' := [Res.row A27 (g.l).length W9 52 7 ((g.l).map V.c),Res.row A44 (pend).length W8 3 1 ((pend).map aC),Res.row A49 ((dr 0 q)).length N0 3 1 (((dr 0 q)).map aC),Res.row A54 ((dr 1 q)).length M9 3 1 (((dr 1 q)).map aC),Res.row A59 (mg).length W7 106 2 ((mg).map PP.c),Res.row A64 (pt).length W6 110 2 ((pt).map Rq.c),Res.blk eb 112 (av rb cb lb bb ub mb xb pb gb tb c lA (lv.length) lc),RgB rb g,RgW g,Res.im g.m,CkB cb (blk) (c.elen.toNat),LgB lb (dep) (paid) (burn) (c.supc),bB_ bb br,bW_ br,bK_ br,Res.row lA (lv).length lc 3 1 ((lv).map aC),CuB ub (cur),Res.blk mb 186 (M.c m),bL_ xb b0 b1,aj b0 g0,ah g0,aj b1 g1,ah g1,aj pb gp,ah gp,cn gb gg,cm gg,cq tb gt,Ψ gt]) w' a5;exact h9⟩
theorem nQ (s:Eg) (y:Op):(ao s y).1.c=s.c:=by
 unfold ao;split
 ·rw[gu]
 unfold fF
 repeat' split
 ·show(dz s y).1.c=_;rw[lI]
 ·show(Θ s 1 y.i).1.c=_;rw[vH]
 ·show(Θ s 0 y.i).1.c=_;rw[vH]
 ·show(Φ s y.i).1.c=_;rw[qS]
 ·show(dk s y.i y.t).1.c=_;rw[jB]
 ·show(dh s y.i y.a).1.c=_;rw[iW]
 rfl
abbrev EL (p:EP) (a:EG) (s:Eg):List Res:=[Res.blk p.eb 112 (av p.rb p.cb p.lb p.bb p.ub p.mb p.xb p.pb p.gb p.tb s.c a.lA (s.lv.length) a.lc),RgB p.rb a.g,RgW a.g,Res.im (RG.m a.g),CkB p.cb (s.blk) (s.c.elen.toNat),LgB p.lb (s.dep) (s.paid) (s.burn) (s.c.supc),bB_ p.bb a.br,bW_ a.br,bK_ a.br,Res.row a.lA (s.lv).length a.lc 3 1 ((s.lv).map aC),CuB p.ub (s.cur),Res.blk p.mb 186 (M.c s.m),Res.blk p.xb 191 [aG p.b0,aG p.b1],aj p.b0 a.g0,ah a.g0,aj p.b1 a.g1,ah a.g1,aj p.pb a.gp,ah a.gp,cn p.gb a.gg,cm a.gg,cq p.tb a.gt,Ψ a.gt]
def Eng (p:EP) (a:EG) (s:Eg):Res:=.star (EL p a s)
theorem au.star1 {ι:Type} {P:Program} {f:FuncId} {args:List Value} {w:World} {Ls:List Res} {p:ι→Prop} {val:ι→Value} {Lnew Ls1:ι→List Res} (h:WOK (fps Ls) w Ls w→au P f args w Ls p val Lnew Ls1) (hw:W0 [Res.star Ls] w) :
  au P f args w [.star Ls] p val Lnew (fun x=>[.star (Ls1 x)]):=by
 have h1:WOK (fps Ls) w Ls w:=by
  have:=hw.opened (L:=[]);rwa [vR,cZ] at this
 refine Ret.mono (h h1) fun v w' ⟨x,hp,hv,u2⟩=>⟨x,hp,hv,?_⟩
 rw[vR];have h2:WOK (fps Ls) w (Ls1 x++Lnew x) w' := u2.perm List.perm_append_comm;exact h2.closed.perm (List.perm_append_singleton _ _).symm
theorem au.starN {ι:Type} {P:Program} {f:FuncId} {args:List Value} {w:World} {p:ι→Prop} {val:ι→Value} {Ls:ι→List Res} (h:au P f args w [] p val Ls (fun _=>[])):au P f args w [] p val (fun x=>[.star (Ls x)]) (fun _=>[]) :=
 Ret.mono h fun v w' ⟨x,hp,hv,u2⟩=>⟨x,hp,hv,u2.closed⟩
theorem Ec (c:C) (w:World) (hc:chk c=0) (hk:c.ok):au (ι:=(EP × EG)) Tryz.prog 10 [c.v] w [] (fun x=>x.2.Rep (Δ c)) (fun x=>.tuple [aG x.1.eb,aH 0].toArray) (fun x=>[Eng x.1 x.2 (Δ c)]) (fun _=>[]):=au.starN (Ab c w hc hk)
theorem BG (p:EP) (a:EG) (s:Eg) (y:Op) (w:World) (hw:W0 [Eng p a s] w) (hi:Inv s) (hr:a.Rep s) (hy:y.ok) (hb:s.blk<1000000000) :
  au (ι:=TX) Tryz.prog 14 [aG p.eb,.agg y.c.toArray] w [Eng p a s] (fun x=>x.a.Rep (ao s y).1) (fun x=>rcV (ao s y).2 x.O x.oc x.pA x.pc) (fun x=>[Res.row x.O (ao s y).2.ag.length x.oc 55 3 ((ao s y).2.ag.map As.cs),Res.row x.pA (ao s y).2.ps.length x.pc 50 3 ((ao s y).2.ps.map Y.c)]) (fun x=>[Eng p x.a (ao s y).1]):=by
 obtain⟨c,blk,l,dep,paid,burn,bo,lv,cur,m,q,pend,mg,pt⟩:=s;obtain⟨g,br,lA,lc,g0,g1,gp,gg,gt⟩:=a;obtain⟨h_g,h_l,V2,h_b,V1,U9,U5,U4,U7,U2,U8,U3,U6,U1⟩:=hr;simp only at h_g h_l V2 h_b V1 U9 U5 U4 U7 U2 U8 U3 U6 U1;subst h_l;have hA:=nQ (Eg.mk c blk g.l dep paid burn bo lv cur m q pend mg pt) y;have h9:=au.star1 (fun u2=>ur p.eb p.rb p.cb p.lb p.bb p.ub p.mb p.xb p.b0 p.b1 p.pb p.gb p.tb c blk g dep paid burn bo lv cur m q pend mg pt br lA lc g0 g1 gp gg gt y w u2 hi h_g V2 h_b V1 U9 U5 U4 U7 U2 U8 U3 U6 U1 hy hb) hw;refine Ret.mono h9 fun v w' ⟨x,h1,h2,h3⟩=>⟨x,h1,h2,?_⟩
 unfold Eng EL;rw[hA];exact h3
theorem Bf (p:EP) (a:EG) (s:Eg) (w:World) (hw:W0 [Eng p a s] w) (hi:Inv s) (hr:a.Rep s) :
  au (ι:=SN) Tryz.prog 13 [aG p.eb] w [Eng p a s] (fun _=>True) (fun x=>.agg [aI s.blk,aH s.ep,.slice x.vA s.l.length x.vc,aJ s.dep,aJ s.paid,aJ s.burn,aJ (dZ s.l),.slice x.pA s.pend.length x.pc,.slice x.fA s.q.f.length x.fc,.slice x.oA s.q.v.length x.oc,.slice x.mA s.mg.length x.mc,.slice x.rA s.pt.length x.rc,aI s.cur,aJ s.m.bal,aI s.bo.length].toArray) (fun x=>[Res.row x.vA (s.l).length x.vc 52 7 ((s.l).map V.c),Res.row x.pA (s.pend).length x.pc 3 1 ((s.pend).map aC),Res.row x.fA (s.q.f).length x.fc 3 1 ((s.q.f).map aC),Res.row x.oA (s.q.v).length x.oc 3 1 ((s.q.v).map aC),Res.row x.mA (s.mg).length x.mc 106 2 ((s.mg).map PP.c),Res.row x.rA (s.pt).length x.rc 110 2 ((s.pt).map Rq.c)]) (fun _=>[Eng p a s]):=by
 obtain⟨c,blk,l,dep,paid,burn,bo,lv,cur,m,q,pend,mg,pt⟩:=s;obtain⟨g,br,lA,lc,g0,g1,gp,gg,gt⟩:=a;obtain⟨h_g,h_l,V2,h_b,V1,U9,U5,U4,U7,U2,U8,U3,U6,U1⟩:=hr;simp only at h_g h_l V2 h_b V1 U9 U5 U4 U7 U2 U8 U3 U6 U1;subst h_l;exact au.star1 (fun u2=>vv p.eb p.rb p.cb p.lb p.bb p.ub p.mb p.xb p.b0 p.b1 p.pb p.gb p.tb c blk g dep paid burn bo lv cur m q pend mg pt br lA lc g0 g1 gp gg gt w u2 hi h_g V2 h_b V1 U9 U5 U4 U7 U2 U8 U3 U6 U1) hw
def szO:Nat→Nat
 | 0=>8
 | _=>2
def AP:Nat→Nat
 | 0=>308
 | 1=>310
 | _=>312
def wg:Nat→Nat
 | 0=>309
 | 1=>311
 | _=>313
def mo (j:Nat) (y:Op):Int:=match j with
 | 0=>y.a
 | 1=>IntKind.u64.wrap y.i
 | _=>IntKind.u64.wrap y.t
def gN (j:Nat) (y:Op) (v:Int):Op:=match j with
 | 0=>{ y with a:=v }
 | 1=>{ y with i:=IntKind.i64.wrap v }
 | _=>{ y with t:=IntKind.i64.wrap v }
def OD.c (j:Nat):List Value:=[aI (szO j),.func (.func (AP j)) #[] #[],.func (.func (wg j)) #[] #[]]
def be (k:Int):List Nat:=if k=1 then [0] else if k=2 then [1] else if k=3 then [1] else if k=4 then [1] else if k=5 then [1,2] else if k=6 then [1,0] else []
def ef (k:Int):Bool:=decide (1≤k∧k≤7)
def szK (k:Int):Nat:=if ef k=true then 1+((be k).map szO).sum else 0
theorem kh (k:Int):∀j∈be k,j≤2:=by
 intro j hj;unfold be at hj
 repeat' split at hj
 all_goals simp at hj
 all_goals omega
theorem vP (k:Int):(be k).length≤2:=by
 unfold be;repeat' split
 all_goals simp
theorem gw (j:Nat):1≤szO j∧szO j≤8:=by unfold szO;split<;>omega
theorem Fv (w:World) : Pur Tryz.prog 270 [] w (.agg (OD.c 0).toArray):=by
 refine Γ Tryz.func270 2 (WOK.start [] _) ?_;refine Ri ?_;refine aa (zK rfl fun b0=>rn [0,1] ?_);refine s_q (yF (c:=OD.c 0) rfl rfl) rfl (Rp ?_);exact dG rfl (.cellw rfl rfl) fun w' a5=>⟨aP,a5.upd⟩
theorem GEx (y:Op) (w:World) : Pur Tryz.prog 308 [.agg y.c.toArray] w (aJ (mo 0 y)):=by
 refine Γ Tryz.func308 5 (WOK.start [] _) ?_;refine Ri ?_;refine aa (aq rfl rfl rfl fun b1=>rn [3,0,1,4,5,3,0,11] ?_);exact dD rfl rfl fun w' a5=>⟨aP,a5.upd⟩
theorem Fe (b:Nat) (y:Op) (v:Int) (w:World) (hw:W0 [Res.blk b 35 y.c] w) : au (ι:=Unit) Tryz.prog 309 [aG b,aJ v] w [Res.blk b 35 y.c] (fun x=>True) (fun x=>.tuple #[]) (fun x=>[]) (fun x=>[Res.blk b 35 (Op.c (gN 0 y v))]):=by
 refine Γ Tryz.func309 8 hw ?_;refine rn [10,2,2,6,4] ?_;refine aa (zI rfl rfl rfl rfl rfl rfl rfl ?_);refine zF (b:=b) (Op.c (gN 0 y v)) aP (rn [9] ?_);exact dF rfl fun w' a5=>⟨(),aQ,rfl,zA w' a5⟩
theorem zf (w:World) : Pur Tryz.prog 271 [] w (.agg (OD.c 1).toArray):=by
 refine Γ Tryz.func271 2 (WOK.start [] _) ?_;refine Ri ?_;refine aa (zK rfl fun b0=>rn [0,1] ?_);refine s_q (yF (c:=OD.c 1) rfl rfl) rfl (Rp ?_);exact dG rfl (.cellw rfl rfl) fun w' a5=>⟨aP,a5.upd⟩
theorem GD (y:Op) (w:World) : Pur Tryz.prog 310 [.agg y.c.toArray] w (aJ (mo 1 y)):=by
 refine Γ Tryz.func310 6 (WOK.start [] _) ?_;refine Ri ?_;refine aa (aq rfl rfl rfl fun b1=>rn [3,0,1,4,5,62,3,0,11] ?_);exact dD rfl rfl fun w' a5=>⟨aP,a5.upd⟩
theorem Fd (b:Nat) (y:Op) (v:Int) (w:World) (hw:W0 [Res.blk b 35 y.c] w) : au (ι:=Unit) Tryz.prog 311 [aG b,aJ v] w [Res.blk b 35 y.c] (fun x=>True) (fun x=>.tuple #[]) (fun x=>[]) (fun x=>[Res.blk b 35 (Op.c (gN 1 y v))]):=by
 refine Γ Tryz.func311 9 hw ?_;refine rn [10,2,2,62,6,4] ?_;refine aa (zI rfl rfl rfl rfl rfl rfl rfl ?_);refine zF (b:=b) (Op.c (gN 1 y v)) aP (rn [9] ?_);exact dF rfl fun w' a5=>⟨(),aQ,rfl,zA w' a5⟩
theorem HK (w:World) : Pur Tryz.prog 272 [] w (.agg (OD.c 2).toArray):=by
 refine Γ Tryz.func272 2 (WOK.start [] _) ?_;refine Ri ?_;refine aa (zK rfl fun b0=>rn [0,1] ?_);refine s_q (yF (c:=OD.c 2) rfl rfl) rfl (Rp ?_);exact dG rfl (.cellw rfl rfl) fun w' a5=>⟨aP,a5.upd⟩
theorem GC (y:Op) (w:World) : Pur Tryz.prog 312 [.agg y.c.toArray] w (aJ (mo 2 y)):=by
 refine Γ Tryz.func312 6 (WOK.start [] _) ?_;refine Ri ?_;refine aa (aq rfl rfl rfl fun b1=>rn [3,0,1,4,5,62,3,0,11] ?_);exact dD rfl rfl fun w' a5=>⟨aP,a5.upd⟩
theorem Fc (b:Nat) (y:Op) (v:Int) (w:World) (hw:W0 [Res.blk b 35 y.c] w) : au (ι:=Unit) Tryz.prog 313 [aG b,aJ v] w [Res.blk b 35 y.c] (fun x=>True) (fun x=>.tuple #[]) (fun x=>[]) (fun x=>[Res.blk b 35 (Op.c (gN 2 y v))]):=by
 refine Γ Tryz.func313 9 hw ?_;refine rn [10,2,2,62,6,4] ?_;refine aa (zI rfl rfl rfl rfl rfl rfl rfl ?_);refine zF (b:=b) (Op.c (gN 2 y v)) aP (rn [9] ?_);exact dF rfl fun w' a5=>⟨(),aQ,rfl,zA w' a5⟩
theorem Hn {j:Nat} (h:j≤2):HasB Tryz.prog (AP j):=by
 rcases(show j=0∨j=1∨j=2 by omega) with rfl|rfl|rfl
 ·exact(inferInstance:HasB Tryz.prog 308)
 ·exact(inferInstance:HasB Tryz.prog 310)
 exact(inferInstance:HasB Tryz.prog 312)
theorem Hm {j:Nat} (h:j≤2):HasB Tryz.prog (wg j):=by
 rcases(show j=0∨j=1∨j=2 by omega) with rfl|rfl|rfl
 ·exact(inferInstance:HasB Tryz.prog 309)
 ·exact(inferInstance:HasB Tryz.prog 311)
 exact(inferInstance:HasB Tryz.prog 313)
theorem Ck {j:Nat} (h:j≤2) (y:Op) (w:World):Pur Tryz.prog (AP j) [.agg y.c.toArray] w (aJ (mo j y)):=by
 rcases(show j=0∨j=1∨j=2 by omega) with rfl|rfl|rfl
 ·exact GEx y w
 ·exact GD y w
 exact GC y w
theorem Bg {j:Nat} (h:j≤2) (b:Nat) (y:Op) (v:Int) (w:World) (hw:W0 [Res.blk b 35 y.c] w):au (ι:=Unit) Tryz.prog (wg j) [aG b,aJ v] w [Res.blk b 35 y.c] (fun _=>True) (fun _=>.tuple #[]) (fun _=>[]) (fun _=>[Res.blk b 35 (Op.c (gN j y v))]):=by
 rcases(show j=0∨j=1∨j=2 by omega) with rfl|rfl|rfl
 ·exact Fe b y v w hw
 ·exact Fd b y v w hw
 exact Fc b y v w hw
theorem uW (k:Int) (w:World) (hk:-9223372036854775808≤k∧k≤9223372036854775807):au (ι:=(bU × Nat)) Tryz.prog 204 [aH k] w [] (fun x=>True) (fun x=>.tuple [.slice x.1 (be k).length x.2,.bool (ef k)].toArray) (fun x=>[Res.row x.1 (be k).length x.2 324 3 ((be k).map OD.c)]) (fun x=>[]):=by
 refine Γ Tryz.func204 30 (WOK.start (fps []) _) ?_;refine rn [1,3,3,0,1] ?_;refine aa (sM rfl fun b7=>?_);refine aa (zH rfl (fun w1 a6=>Fv w1) rfl ?_);refine aa (bg rfl rfl rfl rfl rfl fun b9=>?_);refine aa (xM (b:=b7) (D:=[]) rfl rfl rfl (k3 aO) (fun p hp=>by simp at hp) (fun p hp=>by simp at hp) ?_);refine wL b7 [(aH 1,dC (some ⟨b9,0,none⟩) 1 1)] rfl ?_;refine aa (zH rfl (fun w1 a6=>zf w1) rfl ?_);refine aa (bg rfl rfl rfl rfl rfl fun p5=>?_);refine aa (xM (b:=b7) (D:=[(aH 1,dC (some ⟨b9,0,none⟩) 1 1)]) rfl rfl rfl (k3 aO) (by intro p hp;simp only[cH,cE,or_false] at hp;rcases hp with rfl<;>exact k3 aO) (by intro p hp;simp only[cH,cE,or_false] at hp;rcases hp with rfl<;>(intro hc;injection hc with _ hc;exact absurd hc aO)) ?_);refine wL b7 [(aH 1,dC (some ⟨b9,0,none⟩) 1 1),(aH 2,dC (some ⟨p5,0,none⟩) 1 1)] rfl ?_;refine aa (zH rfl (fun w1 a6=>zf w1) rfl ?_);refine aa (bg rfl rfl rfl rfl rfl fun j3=>?_);refine aa (xM (b:=b7) (D:=[(aH 1,dC (some ⟨b9,0,none⟩) 1 1),(aH 2,dC (some ⟨p5,0,none⟩) 1 1)]) rfl rfl rfl (k3 aO) (by intro p hp;simp only[cH,cE,or_false] at hp;rcases hp with rfl|rfl<;>exact k3 aO) (by intro p hp;simp only[cH,cE,or_false] at hp;rcases hp with rfl|rfl<;>(intro hc;injection hc with _ hc;exact absurd hc aO)) ?_);refine wL b7 [(aH 1,dC (some ⟨b9,0,none⟩) 1 1),(aH 2,dC (some ⟨p5,0,none⟩) 1 1),(aH 3,dC (some ⟨j3,0,none⟩) 1 1)] rfl ?_;refine aa (zH rfl (fun w1 a6=>zf w1) rfl ?_);refine aa (bg rfl rfl rfl rfl rfl fun s6=>?_);refine aa (xM (b:=b7) (D:=[(aH 1,dC (some ⟨b9,0,none⟩) 1 1),(aH 2,dC (some ⟨p5,0,none⟩) 1 1),(aH 3,dC (some ⟨j3,0,none⟩) 1 1)]) rfl rfl rfl (k3 aO) (by intro p hp;simp only[cH,cE,or_false] at hp;rcases hp with rfl|rfl|rfl<;>exact k3 aO) (by intro p hp;simp only[cH,cE,or_false] at hp;rcases hp with rfl|rfl|rfl<;>(intro hc;injection hc with _ hc;exact absurd hc aO)) ?_);refine wL b7 [(aH 1,dC (some ⟨b9,0,none⟩) 1 1),(aH 2,dC (some ⟨p5,0,none⟩) 1 1),(aH 3,dC (some ⟨j3,0,none⟩) 1 1),(aH 4,dC (some ⟨s6,0,none⟩) 1 1)] rfl ?_;refine aa (zH rfl (fun w1 a6=>zf w1) rfl ?_);refine aa (zH rfl (fun w1 a6=>HK w1) rfl ?_);refine aa (bg rfl rfl rfl rfl rfl fun u4=>?_);refine aa (xM (b:=b7) (D:=[(aH 1,dC (some ⟨b9,0,none⟩) 1 1),(aH 2,dC (some ⟨p5,0,none⟩) 1 1),(aH 3,dC (some ⟨j3,0,none⟩) 1 1),(aH 4,dC (some ⟨s6,0,none⟩) 1 1)]) rfl rfl rfl (k3 aO) (by intro p hp;simp only[cH,cE,or_false] at hp;rcases hp with rfl|rfl|rfl|rfl<;>exact k3 aO) (by intro p hp;simp only[cH,cE,or_false] at hp;rcases hp with rfl|rfl|rfl|rfl<;>(intro hc;injection hc with _ hc;exact absurd hc aO)) ?_);refine wL b7 [(aH 1,dC (some ⟨b9,0,none⟩) 1 1),(aH 2,dC (some ⟨p5,0,none⟩) 1 1),(aH 3,dC (some ⟨j3,0,none⟩) 1 1),(aH 4,dC (some ⟨s6,0,none⟩) 1 1),(aH 5,dC (some ⟨u4,0,none⟩) 2 2)] rfl ?_;refine aa (zH rfl (fun w1 a6=>zf w1) rfl ?_);refine aa (zH rfl (fun w1 a6=>Fv w1) rfl ?_);refine aa (bg rfl rfl rfl rfl rfl fun v7=>?_);refine aa (xM (b:=b7) (D:=[(aH 1,dC (some ⟨b9,0,none⟩) 1 1),(aH 2,dC (some ⟨p5,0,none⟩) 1 1),(aH 3,dC (some ⟨j3,0,none⟩) 1 1),(aH 4,dC (some ⟨s6,0,none⟩) 1 1),(aH 5,dC (some ⟨u4,0,none⟩) 2 2)]) rfl rfl rfl (k3 aO) (by intro p hp;simp only[cH,cE,or_false] at hp;rcases hp with rfl|rfl|rfl|rfl|rfl<;>exact k3 aO) (by intro p hp;simp only[cH,cE,or_false] at hp;rcases hp with rfl|rfl|rfl|rfl|rfl<;>(intro hc;injection hc with _ hc;exact absurd hc aO)) ?_);refine wL b7 [(aH 1,dC (some ⟨b9,0,none⟩) 1 1),(aH 2,dC (some ⟨p5,0,none⟩) 1 1),(aH 3,dC (some ⟨j3,0,none⟩) 1 1),(aH 4,dC (some ⟨s6,0,none⟩) 1 1),(aH 5,dC (some ⟨u4,0,none⟩) 2 2),(aH 6,dC (some ⟨v7,0,none⟩) 2 2)] rfl ?_;refine aa (bg rfl rfl rfl rfl rfl fun H2=>?_);refine aa (xM (b:=b7) (D:=[(aH 1,dC (some ⟨b9,0,none⟩) 1 1),(aH 2,dC (some ⟨p5,0,none⟩) 1 1),(aH 3,dC (some ⟨j3,0,none⟩) 1 1),(aH 4,dC (some ⟨s6,0,none⟩) 1 1),(aH 5,dC (some ⟨u4,0,none⟩) 2 2),(aH 6,dC (some ⟨v7,0,none⟩) 2 2)]) rfl rfl rfl (k3 aO) (by intro p hp;simp only[cH,cE,or_false] at hp;rcases hp with rfl|rfl|rfl|rfl|rfl|rfl<;>exact k3 aO) (by intro p hp;simp only[cH,cE,or_false] at hp;rcases hp with rfl|rfl|rfl|rfl|rfl|rfl<;>(intro hc;injection hc with _ hc;exact absurd hc aO)) ?_);refine wL b7 [(aH 1,dC (some ⟨b9,0,none⟩) 1 1),(aH 2,dC (some ⟨p5,0,none⟩) 1 1),(aH 3,dC (some ⟨j3,0,none⟩) 1 1),(aH 4,dC (some ⟨s6,0,none⟩) 1 1),(aH 5,dC (some ⟨u4,0,none⟩) 2 2),(aH 6,dC (some ⟨v7,0,none⟩) 2 2),(aH 7,dC (some ⟨H2,0,none⟩) 0 0)] rfl (SD ?_);rcases(show k=1∨k=2∨k=3∨k=4∨k=5∨k=6∨k=7∨¬(1≤k∧k≤7) by omega) with w5|Y0|hk3|hk4|hk5|hk6|hk7|s8
 ·have hL:be k=[0]:=by rw[w5];rfl
  have hB:ef k=true:=by rw[w5];rfl
  refine SD ?_;refine s_q (wI (b:=b7) (v:=.slice (some ⟨b9,0,none⟩) 1 1) (D:=[(aH 1,dC (some ⟨b9,0,none⟩) 1 1),(aH 2,dC (some ⟨p5,0,none⟩) 1 1),(aH 3,dC (some ⟨j3,0,none⟩) 1 1),(aH 4,dC (some ⟨s6,0,none⟩) 1 1),(aH 5,dC (some ⟨u4,0,none⟩) 2 2),(aH 6,dC (some ⟨v7,0,none⟩) 2 2),(aH 7,dC (some ⟨H2,0,none⟩) 0 0)]) rfl (by rw[w5];rfl) (k3 aO) (by intro p hp;simp only[cH,cE,or_false] at hp;rcases hp with rfl|rfl|rfl|rfl|rfl|rfl|rfl<;>exact k3 aO) aM (by intro p hp hc;simp only[cH,cE,or_false] at hp;rcases hp with rfl|rfl|rfl|rfl|rfl|rfl|rfl<;>first|rfl|(injection hc with _ hc;exact absurd hc aO))) rfl (Rv ?_);refine zF (b:=b9) ((([0]:List Nat).map OD.c).flatten) aP ?_;refine xW (b:=b9) 3 1 (([0]:List Nat).map OD.c) (yA (c:=OD.c) (fun _=>rfl) _) rfl rfl aO ?_;exact dE rfl rfl rfl fun w' a5=>⟨((some ⟨b9,0,none⟩:bU),(1:Nat)),aQ,by rw[hL,hB];rfl,by rw[hL];exact zA w' a5⟩
 ·have hL:be k=[1]:=by rw[Y0];rfl
  have hB:ef k=true:=by rw[Y0];rfl
  refine SD ?_;refine s_q (wI (b:=b7) (v:=.slice (some ⟨p5,0,none⟩) 1 1) (D:=[(aH 1,dC (some ⟨b9,0,none⟩) 1 1),(aH 2,dC (some ⟨p5,0,none⟩) 1 1),(aH 3,dC (some ⟨j3,0,none⟩) 1 1),(aH 4,dC (some ⟨s6,0,none⟩) 1 1),(aH 5,dC (some ⟨u4,0,none⟩) 2 2),(aH 6,dC (some ⟨v7,0,none⟩) 2 2),(aH 7,dC (some ⟨H2,0,none⟩) 0 0)]) rfl (by rw[Y0];rfl) (k3 aO) (by intro p hp;simp only[cH,cE,or_false] at hp;rcases hp with rfl|rfl|rfl|rfl|rfl|rfl|rfl<;>exact k3 aO) aM (by intro p hp hc;simp only[cH,cE,or_false] at hp;rcases hp with rfl|rfl|rfl|rfl|rfl|rfl|rfl<;>first|rfl|(injection hc with _ hc;exact absurd hc aO))) rfl (Rv ?_);refine zF (b:=p5) ((([1]:List Nat).map OD.c).flatten) aP ?_;refine xW (b:=p5) 3 1 (([1]:List Nat).map OD.c) (yA (c:=OD.c) (fun _=>rfl) _) rfl rfl aO ?_;exact dE rfl rfl rfl fun w' a5=>⟨((some ⟨p5,0,none⟩:bU),(1:Nat)),aQ,by rw[hL,hB];rfl,by rw[hL];exact zA w' a5⟩
 ·have hL:be k=[1]:=by rw[hk3];rfl
  have hB:ef k=true:=by rw[hk3];rfl
  refine SD ?_;refine s_q (wI (b:=b7) (v:=.slice (some ⟨j3,0,none⟩) 1 1) (D:=[(aH 1,dC (some ⟨b9,0,none⟩) 1 1),(aH 2,dC (some ⟨p5,0,none⟩) 1 1),(aH 3,dC (some ⟨j3,0,none⟩) 1 1),(aH 4,dC (some ⟨s6,0,none⟩) 1 1),(aH 5,dC (some ⟨u4,0,none⟩) 2 2),(aH 6,dC (some ⟨v7,0,none⟩) 2 2),(aH 7,dC (some ⟨H2,0,none⟩) 0 0)]) rfl (by rw[hk3];rfl) (k3 aO) (by intro p hp;simp only[cH,cE,or_false] at hp;rcases hp with rfl|rfl|rfl|rfl|rfl|rfl|rfl<;>exact k3 aO) aM (by intro p hp hc;simp only[cH,cE,or_false] at hp;rcases hp with rfl|rfl|rfl|rfl|rfl|rfl|rfl<;>first|rfl|(injection hc with _ hc;exact absurd hc aO))) rfl (Rv ?_);refine zF (b:=j3) ((([1]:List Nat).map OD.c).flatten) aP ?_;refine xW (b:=j3) 3 1 (([1]:List Nat).map OD.c) (yA (c:=OD.c) (fun _=>rfl) _) rfl rfl aO ?_;exact dE rfl rfl rfl fun w' a5=>⟨((some ⟨j3,0,none⟩:bU),(1:Nat)),aQ,by rw[hL,hB];rfl,by rw[hL];exact zA w' a5⟩
 ·have hL:be k=[1]:=by rw[hk4];rfl
  have hB:ef k=true:=by rw[hk4];rfl
  refine SD ?_;refine s_q (wI (b:=b7) (v:=.slice (some ⟨s6,0,none⟩) 1 1) (D:=[(aH 1,dC (some ⟨b9,0,none⟩) 1 1),(aH 2,dC (some ⟨p5,0,none⟩) 1 1),(aH 3,dC (some ⟨j3,0,none⟩) 1 1),(aH 4,dC (some ⟨s6,0,none⟩) 1 1),(aH 5,dC (some ⟨u4,0,none⟩) 2 2),(aH 6,dC (some ⟨v7,0,none⟩) 2 2),(aH 7,dC (some ⟨H2,0,none⟩) 0 0)]) rfl (by rw[hk4];rfl) (k3 aO) (by intro p hp;simp only[cH,cE,or_false] at hp;rcases hp with rfl|rfl|rfl|rfl|rfl|rfl|rfl<;>exact k3 aO) aM (by intro p hp hc;simp only[cH,cE,or_false] at hp;rcases hp with rfl|rfl|rfl|rfl|rfl|rfl|rfl<;>first|rfl|(injection hc with _ hc;exact absurd hc aO))) rfl (Rv ?_);refine zF (b:=s6) ((([1]:List Nat).map OD.c).flatten) aP ?_;refine xW (b:=s6) 3 1 (([1]:List Nat).map OD.c) (yA (c:=OD.c) (fun _=>rfl) _) rfl rfl aO ?_;exact dE rfl rfl rfl fun w' a5=>⟨((some ⟨s6,0,none⟩:bU),(1:Nat)),aQ,by rw[hL,hB];rfl,by rw[hL];exact zA w' a5⟩
 ·have hL:be k=[1,2]:=by rw[hk5];rfl
  have hB:ef k=true:=by rw[hk5];rfl
  refine SD ?_;refine s_q (wI (b:=b7) (v:=.slice (some ⟨u4,0,none⟩) 2 2) (D:=[(aH 1,dC (some ⟨b9,0,none⟩) 1 1),(aH 2,dC (some ⟨p5,0,none⟩) 1 1),(aH 3,dC (some ⟨j3,0,none⟩) 1 1),(aH 4,dC (some ⟨s6,0,none⟩) 1 1),(aH 5,dC (some ⟨u4,0,none⟩) 2 2),(aH 6,dC (some ⟨v7,0,none⟩) 2 2),(aH 7,dC (some ⟨H2,0,none⟩) 0 0)]) rfl (by rw[hk5];rfl) (k3 aO) (by intro p hp;simp only[cH,cE,or_false] at hp;rcases hp with rfl|rfl|rfl|rfl|rfl|rfl|rfl<;>exact k3 aO) aM (by intro p hp hc;simp only[cH,cE,or_false] at hp;rcases hp with rfl|rfl|rfl|rfl|rfl|rfl|rfl<;>first|rfl|(injection hc with _ hc;exact absurd hc aO))) rfl (Rv ?_);refine zF (b:=u4) ((([1,2]:List Nat).map OD.c).flatten) aP ?_;refine xW (b:=u4) 3 2 (([1,2]:List Nat).map OD.c) (yA (c:=OD.c) (fun _=>rfl) _) rfl rfl aO ?_;exact dE rfl rfl rfl fun w' a5=>⟨((some ⟨u4,0,none⟩:bU),(2:Nat)),aQ,by rw[hL,hB];rfl,by rw[hL];exact zA w' a5⟩
 ·have hL:be k=[1,0]:=by rw[hk6];rfl
  have hB:ef k=true:=by rw[hk6];rfl
  refine SD ?_;refine s_q (wI (b:=b7) (v:=.slice (some ⟨v7,0,none⟩) 2 2) (D:=[(aH 1,dC (some ⟨b9,0,none⟩) 1 1),(aH 2,dC (some ⟨p5,0,none⟩) 1 1),(aH 3,dC (some ⟨j3,0,none⟩) 1 1),(aH 4,dC (some ⟨s6,0,none⟩) 1 1),(aH 5,dC (some ⟨u4,0,none⟩) 2 2),(aH 6,dC (some ⟨v7,0,none⟩) 2 2),(aH 7,dC (some ⟨H2,0,none⟩) 0 0)]) rfl (by rw[hk6];rfl) (k3 aO) (by intro p hp;simp only[cH,cE,or_false] at hp;rcases hp with rfl|rfl|rfl|rfl|rfl|rfl|rfl<;>exact k3 aO) aM (by intro p hp hc;simp only[cH,cE,or_false] at hp;rcases hp with rfl|rfl|rfl|rfl|rfl|rfl|rfl<;>first|rfl|(injection hc with _ hc;exact absurd hc aO))) rfl (Rv ?_);refine zF (b:=v7) ((([1,0]:List Nat).map OD.c).flatten) aP ?_;refine xW (b:=v7) 3 2 (([1,0]:List Nat).map OD.c) (yA (c:=OD.c) (fun _=>rfl) _) rfl rfl aO ?_;exact dE rfl rfl rfl fun w' a5=>⟨((some ⟨v7,0,none⟩:bU),(2:Nat)),aQ,by rw[hL,hB];rfl,by rw[hL];exact zA w' a5⟩
 ·have hL:be k=[]:=by rw[hk7];rfl
  have hB:ef k=true:=by rw[hk7];rfl
  refine SD ?_;refine s_q (wI (b:=b7) (v:=.slice (some ⟨H2,0,none⟩) 0 0) (D:=[(aH 1,dC (some ⟨b9,0,none⟩) 1 1),(aH 2,dC (some ⟨p5,0,none⟩) 1 1),(aH 3,dC (some ⟨j3,0,none⟩) 1 1),(aH 4,dC (some ⟨s6,0,none⟩) 1 1),(aH 5,dC (some ⟨u4,0,none⟩) 2 2),(aH 6,dC (some ⟨v7,0,none⟩) 2 2),(aH 7,dC (some ⟨H2,0,none⟩) 0 0)]) rfl (by rw[hk7];rfl) (k3 aO) (by intro p hp;simp only[cH,cE,or_false] at hp;rcases hp with rfl|rfl|rfl|rfl|rfl|rfl|rfl<;>exact k3 aO) aM (by intro p hp hc;simp only[cH,cE,or_false] at hp;rcases hp with rfl|rfl|rfl|rfl|rfl|rfl|rfl<;>first|rfl|(injection hc with _ hc;exact absurd hc aO))) rfl (Rv ?_);refine zF (b:=H2) ((([]:List Nat).map OD.c).flatten) aP ?_;refine xW (b:=H2) 3 0 (([]:List Nat).map OD.c) (yA (c:=OD.c) (fun _=>rfl) _) rfl rfl aO ?_;exact dE rfl rfl rfl fun w' a5=>⟨((some ⟨H2,0,none⟩:bU),(0:Nat)),aQ,by rw[hL,hB];rfl,by rw[hL];exact zA w' a5⟩
 have hL:be k=[]:=by unfold be;repeat rw[bY aK]
 have hB:ef k=false:=cY s8;refine SD ?_;refine s_q (mM (b:=b7) (z:=.slice none 0 0) (D:=[(aH 1,dC (some ⟨b9,0,none⟩) 1 1),(aH 2,dC (some ⟨p5,0,none⟩) 1 1),(aH 3,dC (some ⟨j3,0,none⟩) 1 1),(aH 4,dC (some ⟨s6,0,none⟩) 1 1),(aH 5,dC (some ⟨u4,0,none⟩) 2 2),(aH 6,dC (some ⟨v7,0,none⟩) 2 2),(aH 7,dC (some ⟨H2,0,none⟩) 0 0)]) rfl rfl (k3 hk) (by intro p hp;simp only[cH,cE,or_false] at hp;rcases hp with rfl|rfl|rfl|rfl|rfl|rfl|rfl<;>exact k3 aO) (by intro p hp hc;simp only[cH,cE,or_false] at hp;rcases hp with rfl|rfl|rfl|rfl|rfl|rfl|rfl<;>(injection hc with _ hc;omega)) (zv aL)) rfl (Rv ?_);refine zY none 324 3 (([]:List Nat).map OD.c) aP ?_;exact dE rfl rfl rfl fun w' a5=>⟨((none:bU),(0:Nat)),aQ,by rw[hL,hB];rfl,by rw[hL];exact zA w' a5⟩
theorem wE:∀(l:List Nat) (k:Nat),((l.take k).map szO).sum≤8*l.length
 | [],_=>by simp
 | a :: l,0=>by simp
 | a :: l,k+1=>by
  have h1:=wE l k;have h2:=gw a;simp only[List.take_succ_cons,cV,dB,cT];omega
theorem yV {l:List Nat} {k:Nat} (h:k<l.length):((l.take (k+1)).map szO).sum=((l.take k).map szO).sum+szO l[k]:=by
 rw[←cB h,cA,List.sum_append,cV,List.map_nil,dB,List.sum_nil,Nat.add_zero]
theorem vk (k:Int):szK k≤17:=by
 unfold szK;have h1:=wE (be k) (be k).length;have h2:=vP k;rw[cI] at h1;split<;>omega
theorem lh (k:Int) (w:World) (hk:-9223372036854775808≤k∧k≤9223372036854775807):Pur Tryz.prog 252 [aH k] w (aI (szK k)):=by
 refine Γ Tryz.func252 27 (WOK.start [] _) ?_;refine Sq ?_;refine aa (zJ [] rfl (fun w1 a6 a8=>by have h7:=uW (k) w1 hk;exact h7) rfl ?_);rintro⟨A10,C1⟩ _;refine ii (Ro ?_);refine zB rfl (fun h1=>?_) (fun h1=>?_)
 ·have hB:ef k=false:=by simpa using h1
  refine Re ?_;exact dD rfl rfl fun w' a5=>⟨by unfold szK;rw[hB];rfl,a5.upd⟩
 have hB:ef k=true:=by simpa using h1
 refine rn [12,7,1,3,0,8,1,2,47,2,0,14] ?_;refine ae 5 (v' := aI (1+(((be k).take 0).map szO).sum)) rfl aP ?_;refine dP [2,15,16] (fun(x:Nat)=>[(5,aI (1+(((be k).take x).map szO).sum)),(17,aI x)]) (fun(x:Nat)=>[Res.row A10 (be k).length C1 324 3 ((be k).map OD.c)]) (fun(x:Nat)=>x≤(be k).length) (fun(x:Nat)=>(be k).length-x) 0 aW ?_;rintro i y1;replace y1:i≤(be k).length:=y1;have o5:=wE (be k) i;have T0:=vP k;refine Rj ?_;refine zB rfl (fun h2=>?_) (fun h2=>?_)
 ·have H5:i<(be k).length:=by have h9:=bW h2;omega
  refine Ry ?_;refine s_q (zM (i:=i) rfl rfl rfl (ird (A:=A10)) aN) rfl ?_;refine s_q (zU (i:=i) rfl (ird (A:=A10)) (zP aT) rfl) rfl ?_;refine aa (zK rfl fun b7=>rn [33,0,10,2,4,5] ?_);refine s_q (xP (a:=(1+(((be k).take i).map szO).sum)) (b:=szO (be k)[i]) rfl rfl (by have h9:=gw (be k)[i];omega)) rfl (Rx ?_);refine ae 5 (v' := aI (1+(((be k).take (i+1)).map szO).sum)) rfl (by rw[yV H5];congr 1;omega) ?_;exact cr (i+1) aU
 have F6:i=(be k).length:=by have h9:=bX h2;omega
 refine Ru ?_;refine zE (zE (zQ (Rl ?_)));exact dD rfl rfl fun w' a5=>⟨by unfold szK;rw[bZ hB,F6,cI],a5.upd⟩
theorem nu (A:bU) (n cap:Nat) (w:World) : au (ι:=Nat) Tryz.prog 253 [.slice A n cap] w [] (fun x=>True) (fun x=>.func (.func 296) #[] [aG x].toArray) (fun x=>[Res.blk x 56 [dC A n cap]]) (fun x=>[]):=by
 refine Γ Tryz.func253 4 (WOK.start (fps []) _) ?_;refine Ri ?_;refine aa (aq (c:=[dC A n cap]) rfl rfl rfl fun b1=>SA ?_);exact dD rfl rfl fun w' a5=>⟨b1,aQ,rfl,zA w' a5⟩
def rdN (bs:List Nat):Nat:=bs.foldl (fun v b=>v*256+b) 0
theorem iL {bs:List Nat} {k:Nat} (h:k<bs.length):rdN (bs.take (k+1))=rdN (bs.take k)*256+bs[k]:=by
 unfold rdN;rw[←cB h,List.foldl_append];rfl
theorem iM {bs:List Nat} (hb:∀b∈bs,b<256):∀k,k≤bs.length→rdN (bs.take k)<256 ^ k
 | 0,_=>by simp[rdN]
 | k+1,h=>by
  have h1:=iM hb k aK;have h2:=hb _ (cC (show k<bs.length by omega));rw[iL aK,Nat.pow_succ];omega
theorem Fm {k:Nat} (h:k<8):256 ^ k*256≤18446744073709551616:=by
 rw[←Nat.pow_succ];exact Nat.pow_le_pow_right aO (show k+1≤8 by omega)
theorem EV {a b:Nat} (hb:b<256):(a*256) ||| b=a*256+b:=by
 have:=Nat.two_pow_add_eq_or_of_lt (i:=8) (show b<2 ^ 8 by omega) a;rw[Nat.mul_comm];exact this.symm
theorem Bv (q:Nat) (A:bU) (m cap n:Nat) (bs:List Nat) (w:World) (hw:W0 [Res.blk q 56 [dC A m cap]] w) (hrd:Rd w [Res.blk q 56 [dC A m cap]] A m 1 (bs.map aE)) (j5:m≤cap) (hn:n≤m) (hn8:n≤8) (hby:∀b∈bs,b<256):au (ι:=Unit) Tryz.prog 296 [aH (n:Int),aG q] w [Res.blk q 56 [dC A m cap]] (fun x=>True) (fun x=>.int .u64 ((rdN (bs.take n):Nat):Int)) (fun x=>[]) (fun x=>[Res.blk q 56 [dC (cz A cap n 1) (m-n) (cap-n)]]):=by
 refine Γ Tryz.func296 25 hw ?_;have hm:m=bs.length:=by have:=hrd.old.len;simpa using this
 refine rn [1,3,0,1,3,0,8,1,5,2] ?_;refine s_q (xC (h:=n) rfl rfl rfl aK) rfl (SK ?_);refine ae 4 (v' := aJ ((rdN (bs.take 0):Nat):Int)) rfl aP ?_;refine dP [0,1,3,9,10] (fun(x:Nat)=>[(4,aJ ((rdN (bs.take x):Nat):Int)),(11,aI x)]) (fun(x:Nat)=>[Res.blk q 56 [dC A m cap]]) (fun(x:Nat)=>x≤n) (fun(x:Nat)=>n-x) 0 aW ?_;rintro i y1;replace y1:i≤n:=y1;refine Rj ?_;refine zB rfl (fun h1=>?_) (fun h1=>?_)
 ·have H5:i<n:=by have h9:=bW h1;omega
  have hbs:i<bs.length:=by omega
  have hb9:=hby _ (cC hbs);have j8:=iM hby i aK;have z7:=Fm (k:=i) aK;have hq9:rdN (bs.take i)*256<18446744073709551616-255:=by
    have h8:(rdN (bs.take i)+1)*256≤256 ^ i*256:=Nat.mul_le_mul_right 256 j8;omega
  refine Ry ?_;refine s_q (zM (i:=i) rfl rfl rfl (hrd.rdb.h (cap:=cap) aK j5) aN) rfl ?_;refine s_q (zX (i:=i) (o:=0) rfl (hrd.rdb.h (cap:=cap) aK j5) (uG (l:=bs) (m:=n) aN aK) rfl rfl) rfl (rn [3,0,10,2] ?_);refine s_q (ka (a:=rdN (bs.take i)) (n:=8) rfl rfl aO) rfl ?_;refine ae 16 (v' := aJ ((rdN (bs.take i)*256:Nat):Int)) rfl (by rw[Nat.mod_eq_of_lt aK]) (SD ?_);refine s_q (yS (z:=((bs[i]:Nat):Int)) rfl (ey aK aK)) rfl ?_;refine s_q (DW (a:=rdN (bs.take i)*256) (b:=bs[i]) rfl rfl aK aK) rfl ?_;refine ae 19 (v' := aJ ((rdN (bs.take (i+1)):Nat):Int)) rfl (by rw[EV hb9,iL hbs]) (Rx ?_);exact cr (i+1) aU
 have F6:i=n:=by have h9:=bX h1;omega
 refine Ru ?_;refine zE (zE (zQ (rn [7,1,5,2] ?_)));refine s_q (xB (l:=n) rfl rfl rfl aK) rfl ?_;refine aa (zI rfl rfl rfl rfl rfl rfl rfl ?_);refine zF (b:=q) [dC (cz A cap n 1) (m-n) (cap-n)] aP (SJ ?_);exact dD rfl rfl fun w' a5=>⟨(),aQ,by rw[F6],zA w' a5⟩
def zO:Op:=⟨0,0,0,0⟩
def oY (s:Op × List Nat) (j:Nat):Op × List Nat:=(gN j s.1 ((rdN (s.2.take (szO j)):Nat):Int),s.2.drop (szO j))
def eT (js:List Nat) (s:Op × List Nat) (k:Nat):Op × List Nat:=(js.take k).foldl oY s
theorem sP {js:List Nat} {s:Op × List Nat} {k:Nat} (h:k<js.length):eT js s (k+1)=oY (eT js s k) js[k]:=wT _ _ h
def Cz (k:Nat) (rest:List Nat):Op:=(eT (be k) (⟨k,0,0,0⟩,rest) (be k).length).1
def eA (bs:List Nat) (p:Nat):Op × Nat × Bool :=
 if h:p<bs.length then
  if szK bs[p]=0 then(zO,p+1,true) else if bs.length-p<szK bs[p] then(zO,bs.length,true) else(Cz bs[p] (bs.drop (p+1)),p+szK bs[p],true)
 else(zO,0,false)
theorem gz:∀{l:List Nat} {k:Nat},k≤l.length→((l.take k).map szO).sum≤(l.map szO).sum
 | [],_,_=>by simp
 | a :: l,0,_=>by simp
 | a :: l,k+1,h=>by
  have:=gz (l:=l) (k:=k) (by simpa using h);simp only[List.take_succ_cons,cV,dB];omega
theorem iz {js:List Nat} {s:Op × List Nat}:∀k,k≤js.length→((js.map szO).sum≤s.2.length)→(eT js s k).2.length+((js.take k).map szO).sum=s.2.length∧∀(h:k<js.length),szO js[k]≤(eT js s k).2.length
 | 0,_,hs=>by
  refine⟨by simp[eT],fun h=>?_⟩;have:=yV (l:=js) (k:=0) h;have h2:=gz (l:=js) (k:=1) h;simp[eT] at this h2 ⊢;omega
 | k+1,h,hs=>by
  obtain⟨h1,h2⟩:=iz (js:=js) (s:=s) k aK hs;have h3:=h2 aK;rw[sP aK];have h4:=yV (l:=js) (k:=k) aK;have h5:(oY (eT js s k) js[k]).2.length+((js.take (k+1)).map szO).sum=s.2.length:=by
   show((eT js s k).2.drop (szO js[k])).length+_=_;rw[h4,cS];omega
  refine⟨h5,fun h6=>?_⟩;have h7:=yV (l:=js) (k:=k+1) h6;have h8:=gz (l:=js) (k:=k+1+1) aK;omega
theorem DA {js:List Nat} {s:Op × List Nat} (hb:∀b∈s.2,b<256) (k:Nat):∀b∈(eT js s k).2,b<256:=by
 have key:∀(js:List Nat) (s:Op × List Nat),(∀b∈s.2,b<256)→∀b∈(js.foldl oY s).2,b<256:=fun js=>by
  induction js with
  | nil=>exact fun _ h=>h
  | cons j js ih=>exact fun s h=>ih _ fun b hb=>h b (cL hb)
 exact key _ _ hb
theorem mY (A:bU) (n cap p:Nat) (bs:List Nat) (w:World) (hrd:Rd w [] A n 1 (bs.map aE)) (j5:n≤cap) (hn:n≤1000000) (hpm:p≤2000000) (hby:∀b∈bs,b<256):Pur Tryz.prog 186 [.slice A n cap,aH (p:Int)] w (.tuple [.agg (Op.c (eA bs p).1).toArray,aI ((eA bs p).2.1),.bool (eA bs p).2.2].toArray):=by
 refine Γ Tryz.func186 78 (WOK.start [] _) ?_;have hm:n=bs.length:=by have:=hrd.old.len;simpa using this
 refine Ri ?_;refine aa (zK rfl fun b4=>rn [3,3,0,8,1,2,46,2] ?_);refine zS 17 rfl (fun h1=>?_) (fun h1=>?_)
 ·exfalso;have h9:=bW h1;omega
 refine RU ?_;refine zB rfl (fun h2=>?_) (fun h2=>?_)
 ·have hp:¬p<bs.length:=by have h9:=bW h2;omega
  have hD:eA bs p=(zO,0,false):=by unfold eA;rw[dif_neg hp]
  refine Sv ?_;exact dI rfl (.cellw rfl rfl) (.tmp rfl) (.tmp rfl) fun w' a5=>⟨by rw[hD];rfl,a5.upd⟩
 have hp:p<bs.length:=by have h9:=bX h2;omega
 obtain⟨kb,T2⟩:∃z,z=bs[p]:=⟨_,rfl⟩
 have hb9:kb<256:=T2 ▸ hby _ (cC hp);have X5:=vk ((kb:Nat):Int);refine SQ ?_;refine s_q (zM (i:=p) rfl rfl rfl hrd.rdb aS) rfl ?_;refine s_q (zX (i:=p) (o:=0) rfl hrd.rdb (zP aN) rfl rfl) rfl ?_;refine ae 27 (v' := .int .u8 ((kb:Nat):Int)) rfl (by rw[T2]) ?_;refine s_q (yS (z:=((kb:Nat):Int)) rfl (dY aK aK)) rfl (rn [3,0,8,1,2] ?_);refine aa (zH rfl (fun w1 a6=>lh (((kb:Nat):Int)) w1 aK) rfl (rn [3,0,14,1,2,44,3,0] ?_));refine zB rfl (fun h3=>?_) (fun h3=>?_)
 ·have hs:szK ((kb:Nat):Int)=0:=by have h9:=bW h3;omega
  have hD:eA bs p=(zO,p+1,true):=by unfold eA;rw[dif_pos hp,←T2,bZ hs]
  refine rn [1,49,2,43,33,3,3,0,11] ?_;refine zL (zD ?_);exact dI rfl (.cellw rfl rfl) (.tmp rfl) (.tmp rfl) fun w' a5=>⟨by rw[hD];rfl,a5.upd⟩
 have hs:¬szK ((kb:Nat):Int)=0:=by have h9:=bX h3;omega
 refine rn [1,2,47,2] ?_;refine s_q (tJ (a:=n) (b:=p) rfl rfl aR aR) rfl (rn [2,46,3,0] ?_);refine zB rfl (fun h4=>?_) (fun h4=>?_)
 ·have ht:bs.length-p<szK ((kb:Nat):Int):=by have h9:=bW h4;omega
  have hD:eA bs p=(zO,bs.length,true):=by unfold eA;rw[dif_pos hp,←T2,bY hs,bZ ht]
  refine rn [1,49,2,47,33,3,3,0,11] ?_;refine zL (zD ?_);exact dI rfl (.cellw rfl rfl) (.tmp rfl) (.tmp rfl) fun w' a5=>⟨by rw[hD,hm];rfl,a5.upd⟩
 have ht:¬bs.length-p<szK ((kb:Nat):Int):=by have h9:=bX h4;omega
 have hD:eA bs p=(Cz kb (bs.drop (p+1)),p+szK ((kb:Nat):Int),true):=by unfold eA;rw[dif_pos hp,←T2,bY hs,bY ht]
 have hB:ef ((kb:Nat):Int)=true:=by unfold szK at hs;split at hs<;>simp_all
 have t6:((be ((kb:Nat):Int)).map szO).sum≤(bs.drop (p+1)).length:=by unfold szK at ht;rw[bZ hB] at ht;simp only[cS];omega
 have hrt:=hrd.sub (cap:=cap) (l:=p+1) (m:=n) aK (cM _) j5;rw[cP aV,←List.map_drop] at hrt;refine rn [12,15,7,1,2,49] ?_;refine aa (zK rfl fun b9=>rn [33] ?_);refine zF (b:=b9) (Op.c (eT (be ((kb:Nat):Int)) ((⟨((kb:Nat):Int),0,0,0⟩:Op),bs.drop (p+1)) 0).1) aP (rn [0,1,2,2,43] ?_);refine s_q (xB (l:=p+1) rfl rfl rfl aK) rfl ?_;refine aa (zJ [] rfl (fun w1 a6 a8=>by have h7:=nu (cz A cap (p+1) 1) ((n-(p+1))) ((cap-(p+1))) w1;exact h7) rfl ?_);rintro b53 _;refine ii (RR ?_);refine aa (zJ [] rfl (fun w1 a6 a8=>by have h7:=uW (((kb:Nat):Int)) w1 aK;exact h7) rfl ?_);rintro⟨A56,cap56⟩ _;refine ii (rn [2,40,40,3,3,0,8,1,2,47,2,0,14] ?_);refine dP [1,4,5,6,7,9,10,59,60] (fun(x:Nat × bU × Nat × Nat)=>[(61,aI x.1)]) (fun(x:Nat × bU × Nat × Nat)=>[Res.blk b4 35 [aH 0,aH 0,aH 0,aJ 0],Res.row A56 (be ((kb:Nat):Int)).length cap56 324 3 ((be ((kb:Nat):Int)).map OD.c),Res.blk b9 35 (Op.c (eT (be ((kb:Nat):Int)) ((⟨((kb:Nat):Int),0,0,0⟩:Op),bs.drop (p+1)) x.1).1),Res.blk b53 56 [dC x.2.1 x.2.2.1 x.2.2.2]]) (fun(x:Nat × bU × Nat × Nat)=>x.1≤(be ((kb:Nat):Int)).length∧Rd w [] x.2.1 x.2.2.1 1 ((eT (be ((kb:Nat):Int)) ((⟨((kb:Nat):Int),0,0,0⟩:Op),bs.drop (p+1)) x.1).2.map aE)∧x.2.2.1≤x.2.2.2) (fun(x:Nat × bU × Nat × Nat)=>(be ((kb:Nat):Int)).length-x.1) (0,(cz A cap (p+1) 1),(n-(p+1)),(cap-(p+1))) (by(try dsimp only);exact⟨cN _,hrt,aK⟩) ?_;rintro⟨k,A9,n9,c9⟩ ⟨f6,j7,I8⟩;replace f6:k≤(be ((kb:Nat):Int)).length:=f6;replace j7:Rd w [] A9 n9 1 ((eT (be ((kb:Nat):Int)) ((⟨((kb:Nat):Int),0,0,0⟩:Op),bs.drop (p+1)) k).2.map aE):=j7;replace I8:n9≤c9:=I8;refine yB (L' := [Res.blk b4 35 [aH 0,aH 0,aH 0,aJ 0],Res.row A56 (be ((kb:Nat):Int)).length cap56 324 3 ((be ((kb:Nat):Int)).map OD.c),Res.blk b9 35 (Op.c (eT (be ((kb:Nat):Int)) ((⟨((kb:Nat):Int),0,0,0⟩:Op),bs.drop (p+1)) k).1),Res.blk b53 56 [dC A9 n9 c9]]) rfl ?_;refine ae 61 (v' := aI k) rfl rfl ?_;have k8:n9=(eT (be ((kb:Nat):Int)) ((⟨((kb:Nat):Int),0,0,0⟩:Op),bs.drop (p+1)) k).2.length:=by have h9:=j7.old.len;simpa using h9
 obtain⟨j8,o5⟩:=iz (js:=(be ((kb:Nat):Int))) (s:=((⟨((kb:Nat):Int),0,0,0⟩:Op),bs.drop (p+1))) k aK t6;have hby9:=DA (js:=(be ((kb:Nat):Int))) (s:=((⟨((kb:Nat):Int),0,0,0⟩:Op),bs.drop (p+1))) (fun b hb=>hby b (cL hb)) k;have hol9:=vP ((kb:Nat):Int);refine Rj ?_;refine zB rfl (fun h5=>?_) (fun h5=>?_)
 ·have f8:k<(be ((kb:Nat):Int)).length:=by have h9:=bW h5;omega
  have P5:=o5 f8;obtain⟨jk,G8⟩:∃z,z=(be ((kb:Nat):Int))[k]:=⟨_,rfl⟩
  have D6:jk≤2:=G8 ▸ kh _ _ (cC f8);rw[←G8] at P5;have hz7:=gw jk;have hbS:HasB Tryz.prog (wg jk):=Hm D6;have D9:(eT (be ((kb:Nat):Int)) ((⟨((kb:Nat):Int),0,0,0⟩:Op),bs.drop (p+1)) (k+1))=oY (eT (be ((kb:Nat):Int)) ((⟨((kb:Nat):Int),0,0,0⟩:Op),bs.drop (p+1)) k) jk:=by rw[G8];exact sP f8
  have Z6:=j7.sub (cap:=c9) (l:=szO jk) (m:=n9) aK (cM _) I8;rw[cP aV,←List.map_drop] at Z6;rw[show(eT (be ((kb:Nat):Int)) ((⟨((kb:Nat):Int),0,0,0⟩:Op),bs.drop (p+1)) k).2.drop (szO jk)=(eT (be ((kb:Nat):Int)) ((⟨((kb:Nat):Int),0,0,0⟩:Op),bs.drop (p+1)) (k+1)).2 from by rw[D9];rfl] at Z6;refine Ry ?_;refine s_q (zM (i:=k) rfl rfl rfl (ird (A:=A56)) aN) rfl ?_;refine s_q (zU (i:=k) rfl (ird (A:=A56)) (zP aT) rfl) rfl ?_;refine aa (zK rfl fun G4=>rn [33] ?_);refine zF (b:=G4) (OD.c jk) (by rw[G8]) (rn [0] ?_);refine dR (L0:=[Res.blk G4 324 (OD.c jk)]) [] an rfl zG (rn [23,0,4,23,1,5,23,2,2,23,3,4,23,4,5] ?_);refine dop 5 rfl (xV [Res.blk b53 56 [dC A9 n9 c9]] rfl rfl (fun w1 a6 a8=>by have h7:=Bv b53 A9 (n9) (c9) ((szO jk)) (eT (be ((kb:Nat):Int)) ((⟨((kb:Nat):Int),0,0,0⟩:Op),bs.drop (p+1)) k).2 w1 a8 (Rd.ofOld a6 j7.old aK aM) I8 aK aK hby9;exact h7) rfl ?_);rintro⟨⟩ _;refine ii ?_;refine dop 6 rfl ((xV (f:=wg jk) (fst:=[]) (cap:=[]) [Res.blk b9 35 (Op.c (eT (be ((kb:Nat):Int)) ((⟨((kb:Nat):Int),0,0,0⟩:Op),bs.drop (p+1)) k).1)] rfl rfl (fun w1 a6 a8=>by have h7:=Bg D6 b9 (eT (be ((kb:Nat):Int)) ((⟨((kb:Nat):Int),0,0,0⟩:Op),bs.drop (p+1)) k).1 ((rdN ((eT (be ((kb:Nat):Int)) ((⟨((kb:Nat):Int),0,0,0⟩:Op),bs.drop (p+1)) k).2.take (szO jk)):Nat):Int) w1 a8;exact h7) rfl ?_));rintro⟨⟩ _;refine ii (rn [27,15,7,10,43,2,9] ?_);refine zF (b:=b9) (Op.c (eT (be ((kb:Nat):Int)) ((⟨((kb:Nat):Int),0,0,0⟩:Op),bs.drop (p+1)) (k+1)).1) (by rw[D9];rfl) ?_;exact cr ((k+1),(cz A9 c9 (szO jk) 1),(n9-szO jk),(c9-szO jk)) (by(try dsimp only);exact⟨aN,Z6,aK⟩)
 have f9:k=(be ((kb:Nat):Int)).length:=by have h9:=bX h5;omega
 subst f9;refine Ru ?_;refine zE (zE (zQ (rn [7,8] ?_)));refine dR (L0:=[Res.blk b9 35 (Op.c (eT (be ((kb:Nat):Int)) ((⟨((kb:Nat):Int),0,0,0⟩:Op),bs.drop (p+1)) (be ((kb:Nat):Int)).length).1)]) [5] an rfl zG (rn [23,0,45,24,1,2,24,2,2] ?_);refine dop 3 rfl (zH rfl (fun w1 a6=>lh (((kb:Nat):Int)) w1 aK) rfl ?_);refine dp 4 rfl (fun _=>xP (a:=p) (b:=(szK ((kb:Nat):Int))) rfl rfl aR) ?_;refine dop 5 rfl (zT rfl rfl rfl rfl rfl (rn [24,6,3,24,7,3,28,7,11] ?_));exact dI rfl (.cellw rfl rfl) (.tmp rfl) (.tmp rfl) fun w' a5=>⟨by rw[hD];unfold Cz;rfl,a5.upd⟩
def vN (j:Nat) (y:Op):Nat:=(mo j y).toNat
theorem FV {y:Op} (hy:y.ok) (j:Nat):mo j y=((vN j y:Nat):Int):=by
 have h0:0≤mo j y:=by
  unfold mo;split
  ·exact hy.a.1
  ·rw[cF];omega
  rw[cF];omega
 unfold vN;omega
def beB (n v i:Nat):List Nat:=(List.range i).map fun t=>v/2 ^ (8*(n-1-t))%256
theorem Av (n v i:Nat):beB n v (i+1)=beB n v i++[v/2 ^ (8*(n-1-i))%256]:=by unfold beB;rw[List.range_succ,cA];rfl
theorem ry (n v i:Nat):(beB n v i).length=i:=by simp[beB]
def wrK (y:Op) (k:Nat):List Nat:=y.k.toNat :: ((be y.k).take k).flatMap fun j=>beB (szO j) (vN j y) (szO j)
def wrB (y:Op):List Nat:=if ef y.k=true then wrK y (be y.k).length else []
theorem lT {y:Op} {k:Nat} (h:k<(be y.k).length):wrK y (k+1)=wrK y k++beB (szO (be y.k)[k]) (vN (be y.k)[k] y) (szO (be y.k)[k]):=by
 unfold wrK;rw[←cB h,List.flatMap_append];simp
theorem kO (y:Op):∀k,k≤(be y.k).length→(wrK y k).length=1+(((be y.k).take k).map szO).sum
 | 0,_=>by simp[wrK]
 | k+1,h=>by rw[lT aK,cQ,kO y k aK,ry,yV aK];omega
theorem jS (y:Op) (w:World) (hy:y.ok):au (ι:=(bU × Nat)) Tryz.prog 142 [.agg y.c.toArray] w [] (fun x=>True) (fun x=>.tuple [.slice x.1 (wrB y).length x.2,.bool (ef y.k)].toArray) (fun x=>[Res.row x.1 (wrB y).length x.2 5 1 ((wrB y).map aE)]) (fun x=>[]):=by
 refine Γ Tryz.func142 48 (WOK.start (fps []) _) ?_;refine Ri ?_;refine aa (aq rfl rfl rfl fun b1=>rn [3,3,0,1,4,5] ?_);refine aa (zJ [] rfl (fun w1 a6 a8=>by have h7:=uW ((y).k) w1 hy.k;exact h7) rfl ?_);rintro⟨A13,p8⟩ _;refine ii (Ro ?_);refine zB rfl (fun h1=>?_) (fun h1=>?_)
 ·have hB:ef y.k=false:=by simpa using h1
  have hW:wrB y=[]:=by unfold wrB;rw[hB];rfl
  refine RL ?_;refine zY none 5 1 (([]:List Nat).map aE) aP ?_;exact dE rfl rfl rfl fun w' a5=>⟨((none:bU),(0:Nat)),aQ,by rw[hW,hB];rfl,by rw[hW];exact zA w' a5⟩
 have hB:ef y.k=true:=by simpa using h1
 have hk7:1≤y.k∧y.k≤7:=bW hB;have hW:wrB y=wrK y (be y.k).length:=by unfold wrB;rw[hB];rfl
 refine rn [12,7,1,4,5] ?_;refine s_q (yS (z:=((y.k.toNat:Nat):Int)) rfl (by rw[show(((y.k.toNat:Nat)):Int)=y.k by omega];simp only[IntKind.wrap_u8];omega)) rfl ?_;refine aa (bg rfl rfl rfl rfl rfl fun v7=>?_);refine zF (b:=v7) ((([y.k.toNat]:List Nat).map aE).flatten) rfl (Su ?_);refine zF (b:=v7) (((wrK y 0).map aE).flatten) aP ?_;refine xW (b:=v7) 1 1 ((wrK y 0).map aE) (yA (c:=aE) (fun _=>rfl) _) rfl rfl aO ?_;refine zR (A:=some ⟨v7,0,none⟩) (wrK y 0).length aP ?_;refine ae 6 (v' := .slice (some ⟨v7,0,none⟩) (wrK y 0).length 1) rfl aP ?_;refine dP [1,2,3,22,23] (fun(x:Nat × bU × Nat)=>[(6,.slice x.2.1 (wrK y x.1).length x.2.2),(24,aI x.1)]) (fun(x:Nat × bU × Nat)=>[Res.blk b1 35 y.c,Res.row A13 (be y.k).length p8 324 3 ((be y.k).map OD.c),Res.row x.2.1 ((wrK y x.1)).length x.2.2 5 1 (((wrK y x.1)).map aE)]) (fun(x:Nat × bU × Nat)=>x.1≤(be y.k).length) (fun(x:Nat × bU × Nat)=>(be y.k).length-x.1) (0,(some ⟨v7,0,none⟩),1) aW ?_;rintro⟨k,A9,c9⟩ f6;replace f6:k≤(be y.k).length:=f6;refine yB (L' := [Res.blk b1 35 y.c,Res.row A13 (be y.k).length p8 324 3 ((be y.k).map OD.c),Res.row A9 ((wrK y k)).length c9 5 1 (((wrK y k)).map aE)]) rfl ?_;refine ae 6 (v' := .slice A9 (wrK y k).length c9) rfl rfl ?_;refine ae 24 (v' := aI k) rfl rfl ?_;have hol9:=vP y.k;have hwl9:=kO y k aK;have hwm9:=wE (be y.k) k;refine Rj ?_;refine zB rfl (fun h2=>?_) (fun h2=>?_)
 ·have f8:k<(be y.k).length:=by have h9:=bW h2;omega
  obtain⟨jk,G8⟩:∃z,z=(be y.k)[k]:=⟨_,rfl⟩
  have D6:jk≤2:=G8 ▸ kh _ _ (cC f8);have D9:(wrK y (k+1))=wrK y k++beB (szO jk) (vN jk y) (szO jk):=by rw[G8];exact lT f8
  have hz7:=gw jk;have hbG:HasB Tryz.prog (AP jk):=Hn D6;refine Ry ?_;refine s_q (zM (i:=k) rfl rfl rfl (ird (A:=A13)) aN) rfl ?_;refine s_q (zU (i:=k) rfl (ird (A:=A13)) (zP aT) rfl) rfl ?_;refine aa (zK rfl fun b8=>rn [33] ?_);refine zF (b:=b8) (OD.c jk) (by rw[G8]) (rn [0,1,4,5] ?_);refine s_q (yN (z:=(szO jk:Int)-1-((0:Nat):Int)) rfl rfl (by rw[dY aK aK];omega)) rfl (rn [3,0,14] ?_);refine zC (A:=A9) ((wrK y k++beB (szO jk) (vN jk y) 0).map aE) (by simp[beB]) ?_;refine zR (A:=A9) (wrK y k++beB (szO jk) (vN jk y) 0).length (by simp[beB]) ?_;refine ae 6 (v' := .slice A9 (wrK y k++beB (szO jk) (vN jk y) 0).length c9) rfl (by simp[beB]) ?_;refine dP [1,2,3,8,22,23,24] (fun(x:Nat × bU × Nat)=>[(6,.slice x.2.1 (wrK y k++beB (szO jk) (vN jk y) x.1).length x.2.2),(9,aH ((szO jk:Int)-1-((x.1:Nat):Int)))]) (fun(x:Nat × bU × Nat)=>[Res.blk b8 324 (OD.c jk),Res.blk b1 35 y.c,Res.row A13 (be y.k).length p8 324 3 ((be y.k).map OD.c),Res.row x.2.1 ((wrK y k++beB (szO jk) (vN jk y) x.1)).length x.2.2 5 1 (((wrK y k++beB (szO jk) (vN jk y) x.1)).map aE)]) (fun(x:Nat × bU × Nat)=>x.1≤szO jk) (fun(x:Nat × bU × Nat)=>szO jk-x.1) (0,A9,c9) bF ?_;rintro⟨i,A8,c8⟩ y1;replace y1:i≤szO jk:=y1;refine yB (L' := [Res.blk b8 324 (OD.c jk),Res.blk b1 35 y.c,Res.row A13 (be y.k).length p8 324 3 ((be y.k).map OD.c),Res.row A8 ((wrK y k++beB (szO jk) (vN jk y) i)).length c8 5 1 (((wrK y k++beB (szO jk) (vN jk y) i)).map aE)]) rfl ?_;refine ae 6 (v' := .slice A8 (wrK y k++beB (szO jk) (vN jk y) i).length c8) rfl rfl ?_;refine ae 9 (v' := aH ((szO jk:Int)-1-((i:Nat):Int))) rfl rfl ?_;have hbl9:=ry (szO jk) (vN jk y) i;refine rn [8,1,2,53,0] ?_;refine zB rfl (fun h3=>?_) (fun h3=>?_)
  ·have H5:i<szO jk:=by have h9:=bW h3;omega
   have I3:(wrK y k++beB (szO jk) (vN jk y) (i+1))=(wrK y k++beB (szO jk) (vN jk y) i)++[(vN jk y/2 ^ (8*(szO jk-1-i))%256)]:=by rw[Av,cJ]
   refine rn [12,7,8,14,10,2,4,5,45] ?_;refine aa ((mu (f:=AP jk) rfl rfl (fun w1 a6=>Ck D6 y w1) rfl ?_));refine ae 39 (v' := aJ ((vN jk y:Nat):Int)) rfl (by rw[FV hy]) (SD ?_);refine s_q (uB (z:=((8*(szO jk-1-i):Nat):Int)) rfl rfl (by rw[dY aK aK];omega)) rfl ?_;refine s_q (uA (a:=vN jk y) (n:=8*(szO jk-1-i)) rfl rfl aK) rfl ?_;refine s_q (yS (z:=(((vN jk y/2 ^ (8*(szO jk-1-i))%256):Nat):Int)) rfl (by simp only[IntKind.wrap_u8];omega)) rfl ?_;refine aa (bg rfl rfl rfl rfl rfl fun b44=>?_);refine zF (b:=b44) ((([(vN jk y/2 ^ (8*(szO jk-1-i))%256)]:List Nat).map aE).flatten) rfl ?_;refine aa (zW (A:=A8) (els:=((wrK y k++beB (szO jk) (vN jk y) i)).map aE) (news:=(([(vN jk y/2 ^ (8*(szO jk-1-i))%256)]:List Nat).map aE)) rfl rfl (InL.rdb (b:=b44) rfl aM rfl) (zZ (c:=aE) (by intro x;simp[Value.oneCell']) _) aR rfl fun A45 cap45=>⟨_,inferInstance,?_⟩);refine zC (A:=A45) ((((wrK y k++beB (szO jk) (vN jk y) i)++[(vN jk y/2 ^ (8*(szO jk-1-i))%256)])).map aE) (by first|rfl|exact cA.symm|(simp;done)) (rn [3,9,15,7,10,2] ?_);refine s_q (yN (z:=(szO jk:Int)-1-((i+1:Nat):Int)) rfl rfl (by rw[dY aK aK];omega)) rfl (rn [3,9] ?_);refine zC (A:=A45) ((wrK y k++beB (szO jk) (vN jk y) (i+1)).map aE) (by rw[I3]) ?_;refine zR (A:=A45) (wrK y k++beB (szO jk) (vN jk y) (i+1)).length (by rw[I3];simp;omega) ?_;refine ae 6 (v' := .slice A45 (wrK y k++beB (szO jk) (vN jk y) (i+1)).length cap45) rfl (by rw[I3];simp;omega) ?_;exact cr ((i+1),A45,cap45) bF
  have F6:i=szO jk:=by have h9:=bX h3;omega
  refine Ru ?_;refine zE (zE (zQ (rn [15,7,10,43,2,9] ?_)));rw[F6] at *;refine zC (A:=A8) ((wrK y (k+1)).map aE) (by rw[D9]) ?_;refine zR (A:=A8) (wrK y (k+1)).length (by rw[D9]) ?_;refine ae 6 (v' := .slice A8 (wrK y (k+1)).length c8) rfl (by rw[D9]) ?_;exact cr ((k+1),A8,c8) aU
 have f9:k=(be y.k).length:=by have h9:=bX h2;omega
 refine Ru ?_;refine zE (zE (zQ (SI ?_)));subst f9;exact dE rfl rfl rfl fun w' a5=>⟨(A9,c9),aQ,by rw[hW,hB],by rw[hW];exact zA w' a5⟩
def okE (y:Op):Bool:=ef y.k && decide ((eA (wrB y) 0).1=y)
theorem HF {y:Op} (h:okE y=true):ef y.k=true:=by unfold okE at h;simp at h;exact h.1
theorem uy {y:Op}:∀b∈wrB y,b<256:=fun b hb=>by
 unfold wrB at hb;split at hb
 ·rename_i hB;have hB:1≤y.k∧y.k≤7:=bW hB;unfold wrK at hb;rcases cH.1 hb with rfl|hb
  ·omega
  obtain⟨j,_,hb⟩:=List.mem_flatMap.1 hb;obtain⟨t,_,rfl⟩:=cG.1 hb;exact cW _ aO
 simp at hb
theorem kP (y:Op):(wrB y).length≤17:=by
 unfold wrB;split
 ·rw[kO y _ (cM _)];have h1:=wE (be y.k) (be y.k).length;have h2:=vP y.k;omega
 simp
theorem vd (y:Op) (w:World) (hy:y.ok):Pur Tryz.prog 141 [.agg y.c.toArray] w (.bool (okE y)):=by
 refine Γ Tryz.func141 24 (WOK.start [] _) ?_;refine Ri ?_;refine aa (aq rfl rfl rfl fun b1=>rn [3,0,1,45] ?_);refine aa (zJ [] rfl (fun w1 a6 a8=>by have h7:=jS y w1 hy;exact h7) rfl ?_);rintro⟨A10,C1⟩ _;refine ii (Ro ?_);refine zB rfl (fun h1=>?_) (fun h1=>?_)
 ·have hB:ef y.k=false:=by simpa using h1
  refine Re ?_;exact dD rfl rfl fun w' a5=>⟨by unfold okE;rw[hB];rfl,a5.upd⟩
 have hB:ef y.k=true:=by simpa using h1
 have hwl:=kP y;refine Sx ?_;refine aa (zH rfl (fun w1 a6=>mY A10 ((wrB y).length) (C1) 0 (wrB y) w1 (Rd.ofRow (A:=A10) a6) (iH (A:=A10) a6) aK aK uy) rfl (rn [2,40,40,40] ?_));refine aa (zK rfl fun b5=>rn [33,3,3,0,1,45,45] ?_);refine s_q (pz rfl rfl rfl) rfl (Rb ?_);exact dD rfl rfl fun w' a5=>⟨by unfold okE;rw[hB,Bool.true_and];simp[Op.ext_iff'],a5.upd⟩
theorem ze (y:Op) (w:World) (hy:y.ok) (hv:okE y=true):au (ι:=(bU × Nat)) Tryz.prog 86 [.agg y.c.toArray] w [] (fun x=>True) (fun x=>.tuple [.slice x.1 (wrB y).length x.2,.bool true].toArray) (fun x=>[Res.row x.1 (wrB y).length x.2 5 1 ((wrB y).map aE)]) (fun x=>[]):=by
 refine Γ Tryz.func86 11 (WOK.start (fps []) _) ?_;refine Ri ?_;refine aa (aq rfl rfl rfl fun b1=>rn [3,3,0,8,1,45] ?_);refine aa (zH rfl (fun w1 a6=>vd y w1 hy) rfl ?_);refine zV 5 (b:=true) rfl (by rw[hv]) (rn [48,0,20,12,7,1,45] ?_);refine aa (zJ [] rfl (fun w1 a6 a8=>by have h7:=jS y w1 hy;exact h7) rfl ?_);rintro⟨A8,D7⟩ _;refine ii (rn [40,40,3,3,0,11] ?_);exact dE rfl rfl rfl fun w' a5=>⟨(A8,D7),aQ,by rw[HF hv],zA w' a5⟩
theorem Aq (x y:Nat) (w:World) (hx:x<18446744073709551616) (hy:y<18446744073709551616):Pur Tryz.prog 88 [aJ ((x:Nat):Int),aJ ((y:Nat):Int)] w (.tuple [aJ ((x*y/18446744073709551616:Nat):Int),aJ ((x*y%18446744073709551616:Nat):Int)].toArray):=by
 refine Γ Tryz.func88 30 (WOK.start [] _) ?_;refine rn [1,3,3,0,8,20,12,7,1,2,2] ?_;refine aa (zH rfl (fun w1 a6=>jt x y w1 hx hy) rfl (Rv ?_));exact dE rfl rfl rfl fun w' a5=>⟨aP,a5.upd⟩
theorem ta (z:Op) (n:Nat):(List.replicate n (Op.c zO)).take 0++([z].map Op.c).take (min 1 n)++(List.replicate n (Op.c zO)).drop (0+min 1 n)=List.replicate (min 1 n) (Op.c z)++List.replicate (n-min 1 n) (Op.c zO):=by
 rcases Nat.eq_zero_or_pos n with h0|h0
 ·subst h0;rfl
 rw[show min 1 n=1 by omega];simp
theorem wwx (z:Op) {n m:Nat} (h:m≤n):((List.replicate m (Op.c z)++List.replicate (n-m) (Op.c zO))).take m++(((List.replicate m (Op.c z)++List.replicate (n-m) (Op.c zO))).take m).take (min m (n-m))++((List.replicate m (Op.c z)++List.replicate (n-m) (Op.c zO))).drop (m+min m (n-m))=(List.replicate (m+min m (n-m)) (Op.c z)++List.replicate (n-(m+min m (n-m))) (Op.c zO)):=by
 have h1:(List.replicate m (Op.c z)++List.replicate (n-m) (Op.c zO)).take m=List.replicate m (Op.c z):=List.take_left' aM;rw[h1,List.take_replicate,Nat.min_eq_left (Nat.min_le_left _ _),←List.drop_drop,List.drop_left' aM,List.drop_replicate,List.replicate_append_replicate]
 congr 2
 omega
theorem Bu (A:bU) (cap n:Nat) (z:Op) (w:World) (hrd:Rd w [] A 1 4 ([z].map Op.c)) (hn:n≤100000):au (ι:=(bU × Nat)) Tryz.prog 43 [.slice A 1 cap,aH (n:Int)] w [] (fun x=>True) (fun x=>.slice x.1 (List.replicate n z).length x.2) (fun x=>[Res.row x.1 (List.replicate n z).length x.2 35 4 ((List.replicate n z).map Op.c)]) (fun x=>[]):=by
 refine Γ Tryz.func43 48 (WOK.start (fps []) _) ?_;refine rn [1,3,0,8,1,2,46,0] ?_;refine zB rfl (fun h1=>?_) (fun h1=>?_)
 ·exfalso;have h9:=bW h1;omega
 refine rn [12,7,1,2,47] ?_;refine s_q (yS (z:=((1:Nat):Int)) rfl (ey aK aK)) rfl (SD ?_);refine s_q (yS (z:=((n:Nat):Int)) rfl (ey aK aK)) rfl ?_;refine aa (zH rfl (fun w1 a6=>Aq 1 n w1 aK aK) rfl ?_);refine ae 18 (v' := .tuple [aJ ((0:Nat):Int),aJ ((n:Nat):Int)].toArray) rfl (by rw[Nat.one_mul,Nat.div_eq_of_lt aK,Nat.mod_eq_of_lt aK]) (rn [2,40,40,3,3,0,8,1,2,55] ?_);refine zV 22 (b:=false) rfl aO (Na ?_);refine zV 25 (b:=false) rfl aV (SR ?_);refine s_q (yS (z:=((n:Nat):Int)) rfl (dY aK aK)) rfl ?_;refine aa (pD (n:=n) rfl rfl rfl rfl aK rfl fun Q0=>Sr ?_);refine aa (tY (A:=(some ⟨Q0,0,none⟩)) (n:=n) (cap:=n) (els:=List.replicate n (Op.c zO)) (news:=[z].map Op.c) (l:=0) rfl rfl (fun _=>by simp) hrd.rdb aK (by simp[Op.c,Value.oneCell']) rfl ?_);refine zC (A:=(some ⟨Q0,0,none⟩)) (List.replicate (min 1 n) (Op.c z)++List.replicate (n-(min 1 n)) (Op.c zO)) (ta z n) ?_;refine ae 33 (v' := aI (min 1 n)) rfl aP (rn [3,0,8,14] ?_);refine dP [4,7] (fun(x:Nat)=>[(8,aI x)]) (fun(x:Nat)=>[Res.row (some ⟨Q0,0,none⟩) n n 35 4 (List.replicate x (Op.c z)++List.replicate (n-x) (Op.c zO))]) (fun(x:Nat)=>(x≤n∧(0<n→1≤x))) (fun(x:Nat)=>n-x) (min 1 n) bF ?_;rintro m9 hm9;replace hm9:m9≤n∧(0<n→1≤m9):=hm9;refine Rw ?_;refine zB rfl (fun h2=>?_) (fun h2=>?_)
 ·have N7:m9<n:=by have h9:=bW h2;omega
  refine rn [12,7,14] ?_;refine dR (L0:=[]) [] an rfl zG (rn [23,0,2,23,1,2,23,2,2] ?_);refine dq 3 rfl (xB (l:=m9) rfl rfl rfl aK) (SU ?_);refine dq 6 rfl (xC (h:=m9) rfl rfl rfl aK) ?_;refine dop 7 rfl (tY (A:=(some ⟨Q0,0,none⟩)) (n:=n) (cap:=n) (els:=(List.replicate m9 (Op.c z)++List.replicate (n-m9) (Op.c zO))) (l:=m9) rfl rfl (fun h0=>by unfold cz;rw[bY aK];simp[yY]) (Rdb.h (InRow.rdb (A:=(some ⟨Q0,0,none⟩)) (els:=(List.replicate m9 (Op.c z)++List.replicate (n-m9) (Op.c zO))) aV (by intro c hc;rcases cK.1 hc with hc|hc<;>(rw[List.eq_of_mem_replicate hc];rfl))) (cap:=n) (h:=m9) aK (cM _)) aK (fun c hc=>by rcases cK.1 (cD hc) with hc|hc<;>(rw[List.eq_of_mem_replicate hc];simp[Op.c,zO,Value.oneCell'])) rfl ?_);refine zC (A:=(some ⟨Q0,0,none⟩)) (List.replicate (m9+min m9 (n-m9)) (Op.c z)++List.replicate (n-(m9+min m9 (n-m9))) (Op.c zO)) (wwx z aK) ?_;refine dq 8 rfl (xP (a:=m9) (b:=(min m9 (n-m9))) rfl rfl aR) (rn [23,9,3,27,15] ?_);exact cr (m9+min m9 (n-m9)) bF
 have L5:n=m9:=by have h9:=bX h2;omega
 subst L5;refine Ru ?_;refine zE (zE (zQ (Rl ?_)));refine zC (A:=(some ⟨Q0,0,none⟩)) ((List.replicate n z).map Op.c) aM ?_;refine zR (A:=(some ⟨Q0,0,none⟩)) (List.replicate n z).length aM ?_;exact dD rfl rfl fun w' a5=>⟨((some ⟨Q0,0,none⟩:bU),n),aQ,aM,zA w' a5⟩
theorem sg (n:Nat) (w:World) (hn:n≤100000):au (ι:=(bU × Nat)) Tryz.prog 12 [aH (n:Int)] w [] (fun x=>True) (fun x=>.slice x.1 (List.replicate n (Op.mk 7 0 0 0)).length x.2) (fun x=>[Res.row x.1 (List.replicate n (Op.mk 7 0 0 0)).length x.2 35 4 ((List.replicate n (Op.mk 7 0 0 0)).map Op.c)]) (fun x=>[]):=by
 refine Γ Tryz.func12 9 (WOK.start (fps []) _) ?_;refine rn [1,3,0,1,49] ?_;refine aa (bg rfl rfl rfl rfl rfl fun b4=>?_);refine zF (b:=b4) ((([(Op.mk 7 0 0 0)]:List Op).map Op.c).flatten) rfl (SD ?_);refine s_q (iO (a:=n) (b:=0) rfl rfl) rfl ?_;refine s_q (qW (a:=(max n 0)) (b:=1048576) rfl rfl) rfl ?_;refine ae 7 (v' := aI n) rfl aV ?_;refine aa (zJ [] rfl (fun w1 a6 a8=>by have h7:=Bu (some ⟨b4,0,none⟩) 1 n (Op.mk 7 0 0 0) w1 (Rd.ofBlk (b:=b4) (els:=([(Op.mk 7 0 0 0)]:List Op).map Op.c) a6 rfl (by simp[Op.c]) rfl) aK;exact h7) rfl ?_);rintro⟨A8,D7⟩ _;refine ii (Rb ?_);exact dD rfl rfl fun w' a5=>⟨(A8,D7),aQ,rfl,zA w' a5⟩
theorem pY:∀(l:List Op) (k:Nat),((l.take k).flatMap wrB).length≤17*k
 | [],_=>by simp
 | y :: l,0=>by simp
 | y :: l,k+1=>by
  have h1:=pY l k;have h2:=kP y;simp only[List.take_succ_cons,List.flatMap_cons,cQ];omega
theorem lB {l:List Op} {k:Nat} (h:k<l.length):(l.take (k+1)).flatMap wrB=(l.take k).flatMap wrB++wrB l[k]:=by rw[←cB h,List.flatMap_append];simp
def fq (bs:List Nat):Nat→Nat→List Op
 | 0,_=>[]
 | k+1,p=>if p<bs.length then(eA bs p).1 :: fq bs k (eA bs p).2.1 else []
def ct (bs:List Nat):List Op:=fq bs bs.length 0
theorem nM {bs:List Nat} {k p:Nat} (h:¬p<bs.length):fq bs k p=[]:=by
 cases k with
 | zero=>rfl
 | succ k=>simp only[fq];rw[bY h]
theorem kJ {bs:List Nat} {k p:Nat} (h:p<bs.length):fq bs (k+1) p=(eA bs p).1 :: fq bs k (eA bs p).2.1:=by simp only[fq];rw[bZ h]
theorem rk {bs:List Nat} {p:Nat} (h:p<bs.length):(eA bs p).2.2=true∧p<(eA bs p).2.1∧(eA bs p).2.1≤bs.length:=by
 unfold eA;rw[dif_pos h];split
 ·exact⟨rfl,aM,by simp only;omega⟩
 rename_i h1;split
 ·exact⟨rfl,h,cM _⟩
 exact⟨rfl,by simp only;omega,by simp only;omega⟩
theorem nL (bs:List Nat):∀k p,(fq bs k p).length≤k
 | 0,_=>cM _
 | k+1,p=>by
  unfold fq;split
  ·have:=nL bs k (eA bs p).2.1;simp only[cT];omega
  simp
theorem qI (bs:List Nat):(ct bs).length≤bs.length:=nL _ _ _
theorem wh (A:bU) (n cap:Nat) (l:List Op) (w:World) (hrd:Rd w [] A n 4 (l.map Op.c)) (hn:n≤10000) (hv:∀y∈l,y.ok∧okE y=true):au (ι:=(bU × Nat)) Tryz.prog 31 [.slice A n cap] w [] (fun x=>True) (fun x=>.tuple [.slice x.1 (l.flatMap wrB).length x.2,.bool true].toArray) (fun x=>[Res.row x.1 (l.flatMap wrB).length x.2 5 1 ((l.flatMap wrB).map aE)]) (fun x=>[]):=by
 refine Γ Tryz.func31 27 (WOK.start (fps []) _) ?_;have hm:n=l.length:=by have:=hrd.old.len;simpa using this
 refine rn [1,3,3,0,1,3] ?_;refine xA 4 5 1 rfl fun Az1 capz1 hcz1=>?_;refine zC (A:=Az1) (([]:List Nat).map aE) rfl (rn [0,8,1,2,47,2,0,14] ?_);refine zC (A:=Az1) (((l.take 0).flatMap wrB).map aE) aM ?_;refine zR (A:=Az1) ((l.take 0).flatMap wrB).length aM ?_;refine ae 4 (v' := .slice Az1 ((l.take 0).flatMap wrB).length capz1) rfl aM ?_;refine dP [2,3,9,10] (fun(x:Nat × bU × Nat)=>[(4,.slice x.2.1 ((l.take x.1).flatMap wrB).length x.2.2),(11,aI x.1)]) (fun(x:Nat × bU × Nat)=>[Res.row x.2.1 (((l.take x.1).flatMap wrB)).length x.2.2 5 1 ((((l.take x.1).flatMap wrB)).map aE)]) (fun(x:Nat × bU × Nat)=>x.1≤n) (fun(x:Nat × bU × Nat)=>n-x.1) (0,Az1,capz1) aW ?_;rintro⟨k,A9,c9⟩ f6;replace f6:k≤n:=f6;refine yB (L' := [Res.row A9 (((l.take k).flatMap wrB)).length c9 5 1 ((((l.take k).flatMap wrB)).map aE)]) rfl ?_;refine ae 4 (v' := .slice A9 ((l.take k).flatMap wrB).length c9) rfl rfl ?_;refine ae 11 (v' := aI k) rfl rfl ?_;have hfl9:=pY l k;refine Rj ?_;refine zB rfl (fun h1=>?_) (fun h1=>?_)
 ·have f8:k<n:=by have h9:=bW h1;omega
  have X9:k<l.length:=by omega
  obtain⟨yk,D4⟩:∃z,z=l[k]:=⟨_,rfl⟩
  obtain⟨N8,P6⟩:=hv yk (D4 ▸ cC X9);have o5:=lB X9;rw[←D4] at o5;have hwl9:=kP yk;refine Ry ?_;refine s_q (zM (i:=k) rfl rfl rfl hrd.rdb aN) rfl ?_;refine s_q (zU (i:=k) rfl hrd.rdb (zP aX) rfl) rfl ?_;refine aa (zK rfl fun b6=>rn [33] ?_);refine zF (b:=b6) (Op.c yk) (by rw[D4]) (rn [0,1,45] ?_);refine aa (zJ [] rfl (fun w1 a6 a8=>by have h7:=ze yk w1 N8 P6;exact h7) rfl ?_);rintro⟨A17,y5⟩ _;refine ii (rn [2,40,40,3,3,0,8,1,2,48,0,20,12,7,10,2,2] ?_);refine aa (zW (A:=A9) (els:=(((l.take k).flatMap wrB)).map aE) (news:=(((wrB yk)).map aE)) rfl rfl (ird (A:=A17)) (zZ (c:=aE) (by intro x;simp[Value.oneCell']) _) aR rfl fun A24 cap24=>⟨_,inferInstance,?_⟩);refine zC (A:=A24) (((((l.take k).flatMap wrB)++(wrB yk))).map aE) (by first|rfl|exact cA.symm|(simp;done)) (Rx ?_);refine zC (A:=A24) (((l.take (k+1)).flatMap wrB).map aE) (by rw[o5,D4]) ?_;refine zR (A:=A24) ((l.take (k+1)).flatMap wrB).length (by rw[o5,D4];simp) ?_;refine ae 4 (v' := .slice A24 ((l.take (k+1)).flatMap wrB).length cap24) rfl (by rw[o5,D4];simp) ?_;exact cr ((k+1),A24,cap24) aU
 have f9:k=n:=by have h9:=bX h1;omega
 refine Ru ?_;refine zE (zE (zQ (SI ?_)));subst f9;have hE:((l.take k).flatMap wrB)=l.flatMap wrB:=by rw[hm,cI]
 refine zC (A:=A9) ((l.flatMap wrB).map aE) (by rw[hE]) ?_;refine zR (A:=A9) (l.flatMap wrB).length (by rw[hE]) ?_;exact dE rfl rfl rfl fun w' a5=>⟨(A9,c9),aQ,by rw[hE],zA w' a5⟩
theorem za (A:bU) (n cap:Nat) (w:World) : au (ι:=Nat) Tryz.prog 126 [.slice A n cap] w [] (fun x=>True) (fun x=>.func (.func 185) #[] [aG x].toArray) (fun x=>[Res.blk x 56 [dC A n cap]]) (fun x=>[]):=by
 refine Γ Tryz.func126 4 (WOK.start (fps []) _) ?_;refine Ri ?_;refine aa (aq (c:=[dC A n cap]) rfl rfl rfl fun b1=>SA ?_);exact dD rfl rfl fun w' a5=>⟨b1,aQ,rfl,zA w' a5⟩
theorem tj (l9:Nat) (B9:List Op→Res→Prop) (r:Res) (q:Nat) (A:bU) (n cap:Nat) (bs:List Nat) (w:World) (hw:W0 [Res.blk q 56 [dC A n cap],r] w) (hY:YOK Tryz.prog l9 (fun x:Op=>Value.agg x.c.toArray) B9 (ct bs)) (hB0:B9 [] r) (hrd:Rd w [Res.blk q 56 [dC A n cap],r] A n 1 (bs.map aE)) (j5:n≤cap) (hn:n≤1000000) (hby:∀b∈bs,b<256):Ret Tryz.prog 185 [.func (.yield l9) #[] #[],aG q] w (fun _ w2=>∃r2,B9 (ct bs) r2∧WOK (fps [Res.blk q 56 [dC A n cap],r]) w [Res.blk q 56 [dC A n cap],r2] w2):=by
 refine Γ Tryz.func185 27 hw ?_;have hm:n=bs.length:=by have:=hrd.old.len;simpa using this
 refine rn [1,3,0,14] ?_;refine dP [0,1] (fun(x:Nat × Nat × List Op × Res)=>[(3,aI x.1)]) (fun(x:Nat × Nat × List Op × Res)=>[Res.blk q 56 [dC A n cap],x.2.2.2]) (fun(x:Nat × Nat × List Op × Res)=>B9 x.2.2.1 x.2.2.2∧x.2.2.1++fq bs x.2.1 x.1=ct bs∧bs.length-x.1≤x.2.1∧x.1≤bs.length) (fun(x:Nat × Nat × List Op × Res)=>bs.length-x.1) (0,bs.length,[],r) (by(try dsimp only);exact⟨hB0,rfl,aK,aK⟩) ?_;rintro⟨p,k,pre,r1⟩ ⟨hB,hd,hk,hp⟩;replace hB:B9 pre r1:=hB;replace hd:pre++fq bs k p=ct bs:=hd;replace hk:bs.length-p≤k:=hk;replace hp:p≤bs.length:=hp;refine yB (L' := [Res.blk q 56 [dC A n cap],r1]) rfl ?_;refine ae 3 (v' := aI p) rfl rfl (rn [8,1,2,5,47,46,0] ?_);refine zB rfl (fun h1=>?_) (fun h1=>?_)
 ·have z7:p<bs.length:=by have h9:=bW h1;omega
  obtain⟨hin1,hin2,hin3⟩:=rk z7;obtain⟨k1,rfl⟩:∃z,k=z+1:=⟨k-1,aK⟩
  have hd9:(pre++[(eA bs p).1])++fq bs k1 (eA bs p).2.1=ct bs:=by rw[←hd,cJ,kJ z7];rfl
  have B6:pre++[(eA bs p).1] <+: ct bs:=⟨_,hd9⟩
  refine rn [12,7,14,1,5,2] ?_;refine aa (zH rfl (fun w1 a6=>mY A (n) (cap) p bs w1 (Rd.ofRd a6 hrd aK) j5 aK aK hby) rfl (rn [2,40,40,40] ?_));refine aa (zK rfl fun b4=>rn [33,3,3,0,8,1,2,48] ?_);refine zV 19 (b:=false) rfl (by rw[hin1];rfl) (rn [2,22,2,22,45] ?_);refine ff rfl rfl (qr hY B6 hB rfl rfl rfl fun r9 hB9=>?_);refine⟨_,inferInstance,?_⟩;refine rn [22,48,42,0,20,12,7,10,2,3,9,15] ?_;exact cr ((eA bs p).2.1,k1,(pre++[(eA bs p).1]),r9) (by(try dsimp only);exact⟨hB9,hd9,aK,hin3⟩)
 have z7:¬p<bs.length:=by have h9:=bX h1;omega
 have F4:pre=ct bs:=by rw[←hd,nM z7,cZ]
 refine Ru ?_;refine zE (zE (zQ ?_));exact dF rfl fun w' a5=>⟨r1,F4 ▸ hB,by have h9:=zG (L' := [Res.blk q 56 [dC A n cap],r1]) w' a5;exact h9⟩
theorem lj (A:bU) (n cap:Nat) (bs:List Nat) (w:World) (hrd:Rd w [] A n 1 (bs.map aE)) (j5:n≤cap) (hn:n≤1000000) (hby:∀b∈bs,b<256):au (ι:=(bU × Nat)) Tryz.prog 68 [.slice A n cap] w [] (fun x=>True) (fun x=>.slice x.1 (ct bs).length x.2) (fun x=>[Res.row x.1 (ct bs).length x.2 35 4 ((ct bs).map Op.c)]) (fun x=>[]):=by
 refine tX Tryz.func68 rfl 13 rfl aM (fps []) [] (WOK.start _ _) _ rfl ?_;have hm:n=bs.length:=by have:=hrd.old.len;simpa using this
 refine rn [1,3,0,1] ?_;refine aa (zK rfl fun b3=>?_);refine zF (b:=b3) [dC none ([]:List Op).length 0] rfl ?_;refine zY none 35 4 (([]:List Op).map Op.c) rfl (rn [0,8,1,2] ?_);refine aa (zJ [] rfl (fun w1 a6 a8=>by have h7:=za A (n) (cap) w1;exact h7) rfl ?_);rintro q6 _;refine ii (rn [0,14] ?_);refine kwx (fst:=[]) (cap:=[aG q6]) (enc:=(fun x:Op=>Value.agg x.c.toArray)) (all:=(ct bs)) rfl rfl [Res.blk q6 56 [dC A n cap]] [Res.blk q6 56 [dC A n cap]] [] (fun(y9:bU × Nat × List Op)=>[Res.blk b3 25 [dC y9.1 y9.2.2.length y9.2.1],Res.row y9.1 y9.2.2.length y9.2.1 35 4 (y9.2.2.map Op.c)]) (fun pre (y9:bU × Nat × List Op)=>y9.2.2=pre) (none,0,[]) (rfl) (fun w1 a6=>by have h9:=zG (L' := [Res.blk q6 56 [dC A n cap],Res.blk b3 25 [dC none ([]:List Op).length 0],Res.row none ([]:List Op).length 0 35 4 (([]:List Op).map Op.c)]) w1 a6;exact h9) (fun w1 a6=>by intro l9 B9 r9 hY9 hB9 p4 T0;have H8:WOK _ _ [Res.blk q6 56 [dC A n cap],r9] w1:=p4;exact tj l9 B9 r9 q6 A n cap bs w1 T0 hY9 hB9 (Rd.ofRd H8 hrd aK) j5 hn hby) (fun x9 (y9:bU × Nat × List Op) (z9:Nat)=>[(4,aG z9),(3,aG b3)]) (fun x9 (y9:bU × Nat × List Op) (z9:Nat)=>[Res.blk z9 35 x9.c,Res.blk b3 25 [dC y9.1 y9.2.2.length y9.2.1],Res.row y9.1 y9.2.2.length y9.2.1 35 4 (y9.2.2.map Op.c)]) ?_ ?_ ?_
 ·rintro l9 pre x9 ⟨A9,c9,o9⟩ w9 B6 z7;refine yB (L' := [Res.blk b3 25 [dC A9 o9.length c9],Res.row A9 o9.length c9 35 4 (o9.map Op.c)]) rfl (rn [10] ?_);refine aa (zK rfl fun b4=>rn [33,9] ?_);exact Ew (b4) (by repeat(first|exact trivial|refine⟨rfl,?_⟩)) zG
 ·rintro l9 pre x9 ⟨A9,c9,o9⟩ z9 w9 B6 z7;replace z7:o9=pre:=z7;have H9:=B6.length_le;have U0:=qI bs;simp only[cQ,cT,List.length_nil] at H9;have hbl3:o9.length≤1000000:=by rw[z7];omega
  refine yB (L' := [Res.blk z9 35 x9.c,Res.blk b3 25 [dC A9 o9.length c9],Res.row A9 o9.length c9 35 4 (o9.map Op.c)]) rfl (rn [14,10,5,45] ?_);refine aa (bg rfl rfl rfl rfl rfl fun t4=>?_);refine zF (b:=t4) ((([x9]:List Op).map Op.c).flatten) rfl ?_;refine aa (zW (A:=A9) (els:=(o9).map Op.c) (news:=(([x9]:List Op).map Op.c)) rfl rfl (InL.rdb (b:=t4) rfl (by simp[Op.c]) rfl) (zZ (c:=Op.c) (by intro x;simp[Op.c,Value.oneCell']) _) aR rfl fun A11 y7=>⟨_,inferInstance,?_⟩);refine zC (A:=A11) (((o9++[x9])).map Op.c) (by first|rfl|exact cA.symm|(simp;done)) ?_;refine aa (zI rfl rfl rfl rfl rfl rfl rfl (rn [9,15] ?_));refine zR (A:=A11) ((o9++[x9]):List Op).length aM ?_;refine zF (b:=b3) [dC A11 ((o9++[x9]):List Op).length y7] (by simp[ay]) ?_;exact qu (fun w2 u2=>⟨(A11,y7,(o9++[x9]:List Op)),by show o9++[x9]=pre++[x9];rw[z7],by have h9:=zG (L' := [Res.blk b3 25 [dC A11 (o9++[x9]:List Op).length y7],Res.row A11 (o9++[x9]:List Op).length y7 35 4 ((o9++[x9]:List Op).map Op.c)]) w2 u2;exact h9⟩)
 rintro⟨A9,c9,o9⟩ z7 m9;refine yB (L' := [Res.obj m9 (.deferred (some [])),Res.blk q6 56 [dC A n cap],Res.blk b3 25 [dC A9 o9.length c9],Res.row A9 o9.length c9 35 4 (o9.map Op.c)]) rfl ?_;replace z7:o9=(ct bs):=z7;refine rn [15,7,1,5,3,0,11] ?_;subst z7;exact nB rfl (.tmp rfl) (fun w' a5 => ⟨(A9,c9),aQ,rfl,by have h9:=zG (L' := [Res.row ((A9,c9)).1 (ct bs).length ((A9,c9)).2 35 4 ((ct bs).map Op.c)]) w' a5;exact h9⟩) _ (.inl rfl)
end Go.Proofs.YtdddiilocbbkkaaGreat
