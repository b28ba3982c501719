/- Part 25 of the proof of TopModel. No condition. -/
import Derived.Test.YtdddiilocbbkkaaGreatTM24
set_option linter.unusedVariables false
set_option linter.unusedSimpArgs false
namespace Go.Proofs.YtdddiilocbbkkaaGreat
open Go.RowKit Go.Eg
set_option maxHeartbeats 4000000
set_option synthInstance.maxSize 3000
set_option maxRecDepth 100000
structure EP where
 eb:Nat
 rb:Nat
 cb:Nat
 lb:Nat
 bb:Nat
 ub:Nat
 mb:Nat
 xb:Nat
 b0:Nat
 b1:Nat
 pb:Nat
 gb:Nat
 tb:Nat
theorem Ab (c:C) (w:World) (hc:chk c=0) (hk:c.ok):au (ι:=(EP × EG)) Tryz.prog 10 [c.v] w [] (fun x=>x.2.Rep (ap c)) (fun x=>.tuple [aG x.1.eb,aH 0].toArray) (fun x=>[Res.blk x.1.eb 112 (av x.1.rb x.1.cb x.1.lb x.1.bb x.1.ub x.1.mb x.1.xb x.1.pb x.1.gb x.1.tb c x.2.lA ((ap c).lv.length) x.2.lc),RgB x.1.rb x.2.g,RgW x.2.g,Res.im (RG.m x.2.g),CkB x.1.cb ((ap c).blk) (c.elen.toNat),LgB x.1.lb ((ap c).dep) ((ap c).paid) ((ap c).burn) (c.supc),bB_ x.1.bb x.2.br,bW_ x.2.br,bK_ x.2.br,Res.row x.2.lA ((ap c).lv).length x.2.lc 3 1 (((ap c).lv).map aC),CuB x.1.ub ((ap c).cur),Res.blk x.1.mb 186 (M.c (ap c).m),Res.blk x.1.xb 191 [aG x.1.b0,aG x.1.b1],aj x.1.b0 x.2.g0,ah x.2.g0,aj x.1.b1 x.2.g1,ah x.2.g1,aj x.1.pb x.2.gp,ah x.2.gp,cn x.1.gb x.2.gg,cm x.2.gg,cq x.1.tb x.2.gt,co x.2.gt]) (fun x=>[]):=by
 refine am Tryz.func10 37 (WOK.start (fps []) _) ?_;have i6:Cok c:=lL hc hk;have o6:Cmo c:=yM hc;have q1:=i6.capa;have q2:=i6.elen;have q3:=o6.rlen;have q4:=o6.qsize;have W2:((c.capa.toNat:Nat):Int)=c.capa:=by omega
 have e_elen:((c.elen.toNat:Nat):Int)=c.elen:=by omega
 have e_rlen:((c.rlen.toNat:Nat):Int)=c.rlen:=by omega
 have E1:((c.qsize.toNat:Nat):Int)=c.qsize:=by omega
 refine Ri ?_;refine aa (aq (c:=C.c c) rfl rfl rfl fun b1=>rn [3,3,0,8,1,45] ?_);refine aa (zH rfl (fun w1 a6=>oZ c w1 hc i6) rfl (rn [48,0,20,12,7,8] ?_));refine bn [] an rfl (rn [23,0,4,23,1,5] ?_);refine ae 8 (v' := aH c.capa.toNat) rfl (by rw[W2]) (rn [23,4,45,23,5,4,23,6,5] ?_);refine ae 13 (v' := aH c.elen.toNat) rfl (by rw[e_elen]) (rn [23,8,4,23,9,5,23,11,4,23,12,5] ?_);refine ae 19 (v' := aH c.rlen.toNat) rfl (by rw[e_rlen]) (rn [23,16,4,23,17,5] ?_);refine ae 24 (v' := aH c.qsize.toNat) rfl (by rw[E1]) (rn [23,19,4,23,20,5] ?_);refine ae 27 (v' := aH c.qsize.toNat) rfl (by rw[E1]) (rn [23,22,4,23,23,5] ?_);refine ae 30 (v' := aH c.qsize.toNat) rfl (by rw[E1]) (rn [23,25,4,23,26,5] ?_);refine ae 33 (v' := aH c.qsize.toNat) rfl (by rw[E1]) ?_;refine dop 2 rfl (zJ [] rfl (fun w1 a6 a8=>by have h7:=wt (c.capa.toNat) w1 aK;exact h7) rfl ?_);rintro⟨b9,g9⟩ ⟨r9,l9,c9⟩;refine ii (rn [23,3,49] ?_);refine dop 7 rfl (zJ [] rfl (fun w1 a6 a8=>by have h7:=zj (c.elen.toNat) w1 aK;exact h7) rfl ?_);rintro G4 _;refine ii ?_;refine dop 10 rfl (zJ [] rfl (fun w1 a6 a8=>by have h7:=zx (c.supc) w1;exact h7) rfl ?_);rintro M5 _;refine ii ?_;refine dop 13 rfl (zJ [] rfl (fun w1 a6 a8=>by have h7:=Ao (c.rlen.toNat) w1 aK;exact h7) rfl ?_);rintro⟨N4,Y4⟩ ⟨P4,s20⟩;refine ii ?_;simp only at P4 s20;refine dop 14 rfl (zJ [] rfl (fun w1 a6 a8=>by have h7:=ve w1;exact h7) rfl ?_);rintro v7 _;refine ii ?_;refine dop 15 rfl (zJ [] rfl (fun w1 a6 a8=>by have h7:=zo w1;exact h7) rfl ?_);rintro R7 _;refine ii ?_;refine dop 18 rfl (zJ [] rfl (fun w1 a6 a8=>by have h7:=zy (c.qsize.toNat) w1 aK;exact h7) rfl ?_);rintro⟨E2,ba25,bb25,g25,gg25⟩ ⟨r25,s25,rr25,ss25⟩;refine ii ?_;simp only at r25 s25 rr25 ss25;refine dop 21 rfl (zJ [] rfl (fun w1 a6 a8=>by have h7:=zk (c.qsize.toNat) w1 aK;exact h7) rfl ?_);rintro⟨P0,g28⟩ ⟨r28,s28⟩;refine ii ?_;simp only at r28 s28;refine dop 24 rfl (zJ [] rfl (fun w1 a6 a8=>by have h7:=Eb (c.qsize.toNat) w1 aK;exact h7) rfl ?_);rintro⟨b31,g31⟩ ⟨r31,s31⟩;refine ii ?_;simp only at r31 s31;refine dop 27 rfl (zJ [] rfl (fun w1 a6 a8=>by have h7:=Ea (c.qsize.toNat) w1 aK;exact h7) rfl ?_);rintro⟨b34,g34⟩ ⟨r34,s34⟩;refine ii ?_;simp only at r34 s34;refine dq 28 rfl (yF (c:=(av b9 G4 M5 N4 v7 R7 E2 P0 b31 b34 c none 0 0)) rfl aL) ?_;refine dop 29 rfl (aq (c:=(av b9 G4 M5 N4 v7 R7 E2 P0 b31 b34 c none 0 0)) rfl rfl rfl fun b36=>rn [23,30,3,23,31,3,27,7,11] ?_);refine zY none 3 1 (([]:List Int).map aC) aP ?_;exact dE rfl rfl rfl fun w' a5=>⟨((⟨b36,b9,G4,M5,N4,v7,R7,E2,ba25,bb25,P0,b31,b34⟩:EP),(⟨g9,Y4,none,0,g25,gg25,g28,g31,g34⟩:EG)),(by(try dsimp only);exact⟨r9,l9,by show(RG.cp g9:Int)=c.capa;rw[c9,W2],P4,r25,rr25,s25,ss25,r28,s28,r31,s31,r34,s34⟩),rfl,by have h9:=zG (L' := [Res.blk b36 112 (av b9 G4 M5 N4 v7 R7 E2 P0 b31 b34 c none (([]:List Int).length) 0),RgB b9 g9,RgW g9,Res.im g9.m,CkB G4 (0) (c.elen.toNat),LgB M5 (0) (0) (0) (c.supc),bB_ N4 Y4,bW_ Y4,bK_ Y4,Res.row none (([]:List Int)).length 0 3 1 ((([]:List Int)).map aC),CuB v7 (0),Res.blk R7 186 (M.c M0),bL_ E2 ba25 bb25,aj ba25 g25,ah g25,aj bb25 gg25,ah gg25,aj P0 g28,ah g28,cn b31 g31,cm g31,cq b34 g34,co g34]) w' a5;exact h9⟩
structure SN where
 vA:bU
 vc:Nat
 pA:bU
 pc:Nat
 fA:bU
 fc:Nat
 oA:bU
 oc:Nat
 mA:bU
 mc:Nat
 rA:bU
 rc:Nat
theorem vv (eb rb cb lb bb ub mb xb b0 b1 pb gb tb:Nat) (c:C) (blk:Nat) (g:RG) (dep paid burn:Int) (bo:List En) (lv:List Int) (cur:Nat) (m:M) (q:LL) (pend:List Int) (mg:List PP) (pt:List Rq) (br:BR) (lA:bU) (lc:Nat) (g0 g1 gp gg gt:Rg) (w:World) (hw:W0 [Res.blk eb 112 (av rb cb lb bb ub mb xb pb gb tb c lA (lv.length) lc),RgB rb g,RgW g,Res.im g.m,CkB cb (blk) (c.elen.toNat),LgB lb (dep) (paid) (burn) (c.supc),bB_ bb br,bW_ br,bK_ br,Res.row lA (lv).length lc 3 1 ((lv).map aC),CuB ub (cur),Res.blk mb 186 (M.c m),bL_ xb b0 b1,aj b0 g0,ah g0,aj b1 g1,ah g1,aj pb gp,ah gp,cn gb gg,cm gg,cq tb gt,co gt] w) (hi:Inv (Eg.mk c blk g.l dep paid burn bo lv cur m q pend mg pt)) (hg:g.Rep) (q7:(g.cp:Int)=c.capa) (hbr:br.Rep bo) (h0:g0.Rep 1 (q.f.map aC)) (o7:g1.Rep 1 (q.v.map aC)) (s0:Rg.size g0=c.qsize.toNat) (s1:Rg.size g1=c.qsize.toNat) (hgp:gp.Rep 1 (pend.map aC)) (sgp:Rg.size gp=c.qsize.toNat) (hgg:gg.Rep 2 (mg.map PP.c)) (sgg:Rg.size gg=c.qsize.toNat) (hgt:gt.Rep 2 (pt.map Rq.c)) (sgt:Rg.size gt=c.qsize.toNat):au (ι:=SN) Tryz.prog 13 [aG eb] w [Res.blk eb 112 (av rb cb lb bb ub mb xb pb gb tb c lA (lv.length) lc),RgB rb g,RgW g,Res.im g.m,CkB cb (blk) (c.elen.toNat),LgB lb (dep) (paid) (burn) (c.supc),bB_ bb br,bW_ br,bK_ br,Res.row lA (lv).length lc 3 1 ((lv).map aC),CuB ub (cur),Res.blk mb 186 (M.c m),bL_ xb b0 b1,aj b0 g0,ah g0,aj b1 g1,ah g1,aj pb gp,ah gp,cn gb gg,cm gg,cq tb gt,co gt] (fun x=>True) (fun x=>.agg ([aI blk,aI (blk/c.elen.toNat),.slice x.vA (g.l).length x.vc,aJ dep,aJ paid,aJ burn,aJ (dZ g.l),.slice x.pA pend.length x.pc,.slice x.fA q.f.length x.fc,.slice x.oA q.v.length x.oc,.slice x.mA mg.length x.mc,.slice x.rA pt.length x.rc,aI cur,aJ (M.bal m),aI bo.length]).toArray) (fun x=>[Res.row x.vA (g.l).length x.vc 52 7 ((g.l).map V.c),Res.row x.pA (pend).length x.pc 3 1 ((pend).map aC),Res.row x.fA (q.f).length x.fc 3 1 ((q.f).map aC),Res.row x.oA (q.v).length x.oc 3 1 ((q.v).map aC),Res.row x.mA (mg).length x.mc 106 2 ((mg).map PP.c),Res.row x.rA (pt).length x.rc 110 2 ((pt).map Rq.c)]) (fun x=>[Res.blk eb 112 (av rb cb lb bb ub mb xb pb gb tb c lA (lv.length) lc),RgB rb g,RgW g,Res.im g.m,CkB cb (blk) (c.elen.toNat),LgB lb (dep) (paid) (burn) (c.supc),bB_ bb br,bW_ br,bK_ br,Res.row lA (lv).length lc 3 1 ((lv).map aC),CuB ub (cur),Res.blk mb 186 (M.c m),bL_ xb b0 b1,aj b0 g0,ah g0,aj b1 g1,ah g1,aj pb gp,ah gp,cn gb gg,cm gg,cq tb gt,co gt]):=by
 refine am Tryz.func13 81 hw ?_;have i6:Cok c:=hi.cok;have o6:Cmo c:=yM hi.cc;have u6:blk<=1000000000:=hi.blk;have hk:blk<4611686018427387904:=by omega
 have k8:1<=c.elen.toNat/\c.elen.toNat<=4611686018427387904:=by have:=i6.elen;omega
 have y2:LOk c.supc dep paid burn:=hi.led;have y8:q.f.length<=c.qsize.toNat/\q.v.length<=c.qsize.toNat:=hi.qf;have t6:(bx g.l).sum=dep-paid-burn:=hi.sum;have s7:∀i,ax g.l i=true->VO (ab g.l i):=hi.vo;have F9:=o6.qsize;have hbol:bo.length<=g.l.length:=hi.e.bol;have hgl0:=hg.le;have hgc0:=hg.cp;have hpel:pend.length<=4096:=by have h9:=hi.pe;simp only at h9;omega
 have F2:mg.length<=4096:=by have h9:=hi.mg;simp only at h9;omega
 have F1:pt.length<=4096:=by have h9:=hi.pt;simp only at h9;omega
 refine Ri ?_;refine aa (zK rfl fun b2=>rn [0,8,1,2,50,0,20,12,7,1,2,6,4,5] ?_);refine aa (zN _ rfl (fun w1 a6 a8=>by exact zw lb dep paid burn c.supc w1 a8) rfl ?_);refine aa (zK rfl fun b3=>rn [33,0,8] ?_);refine bn [69] an rfl (rn [23,0,2,23,1,6,23,2,4,23,3,5,23,5,2,23,6,6,23,7,4,23,8,5,23,10,2,23,11,6,23,12,4,23,13,4,23,14,5,23,16,4,23,17,5,23,18,4,23,19,5,23,20,4,23,21,5,23,22,2,23,23,6,23,24,4,23,25,4,23,26,5,23,28,2,23,29,6,23,30,4,23,31,5,23,33,2,23,34,6,23,35,4,23,36,5,23,38,2,23,39,6,23,40,4,23,41,5,23,43,2,23,44,6,23,45,4,23,46,5,23,48,2,23,49,6,23,50,4,23,51,5,23,53,2,23,54,6,23,55,4,23,56,5,23,58,2,23,59,6,23,60,4,23,61,5,23,63,2,23,64,6,23,65,4,23,66,5] ?_);refine dop 4 rfl (zN _ rfl (fun w1 a6 a8=>by exact yR cb blk c.elen.toNat w1 a8 hk k8) rfl ?_);refine dop 9 rfl (zN _ rfl (fun w1 a6 a8=>by exact yE cb blk c.elen.toNat w1 a8 hk k8) rfl ?_);refine dop 15 rfl (zJ _ rfl (fun w1 a6 a8=>by have h7:=uI rb g w1 a8 hg;exact h7) rfl ?_);rintro⟨A27,W9⟩ _;refine ii ?_;refine dop 27 rfl (zN _ rfl (fun w1 a6 a8=>by exact mH rb g w1 a8) rfl ?_);refine ae 39 (v' := aJ (dZ g.l)) rfl (by rw[hg.a]) ?_;refine dop 32 rfl (zJ _ rfl (fun w1 a6 a8=>by have h7:=BK pb gp pend w1 a8 hgp;exact h7) rfl ?_);rintro⟨A44,W8⟩ _;refine ii ?_;refine dop 37 rfl (zJ _ rfl (fun w1 a6 a8=>by have h7:=tW xb b0 b1 g0 g1 q c.qsize.toNat (0) w1 a8 h0 o7 s0 s1 aK;exact h7) rfl ?_);rintro⟨A49,N0⟩ _;refine ii ?_;refine ae 49 (v' := .slice A49 q.f.length N0) rfl (rfl) ?_;refine dop 42 rfl (zJ _ rfl (fun w1 a6 a8=>by have h7:=tW xb b0 b1 g0 g1 q c.qsize.toNat (1) w1 a8 h0 o7 s0 s1 aK;exact h7) rfl ?_);rintro⟨A54,M9⟩ _;refine ii ?_;refine ae 54 (v' := .slice A54 q.v.length M9) rfl (rfl) ?_;refine dop 47 rfl (zJ _ rfl (fun w1 a6 a8=>by have h7:=BJ gb gg mg w1 a8 hgg;exact h7) rfl ?_);rintro⟨A59,W7⟩ _;refine ii ?_;refine dop 52 rfl (zJ _ rfl (fun w1 a6 a8=>by have h7:=BI tb gt pt w1 a8 hgt;exact h7) rfl ?_);rintro⟨A64,W6⟩ _;refine ii ?_;refine dop 57 rfl (zN _ rfl (fun w1 a6 a8=>by exact BY ub cur w1 a8) rfl ?_);refine dop 62 rfl (zN _ rfl (fun w1 a6 a8=>by exact kn mb m w1 a8) rfl ?_);refine dop 67 rfl (zN _ rfl (fun w1 a6 a8=>by exact Ar bb br bo w1 a8 hbr) rfl ?_);refine dq 68 rfl (yF (c:=[aI blk,aI (blk/c.elen.toNat),.slice A27 (g.l).length W9,aJ dep,aJ paid,aJ burn,aJ (dZ g.l),.slice A44 pend.length W8,.slice A49 q.f.length N0,.slice A54 q.v.length M9,.slice A59 mg.length W7,.slice A64 pt.length W6,aI cur,aJ (M.bal m),aI bo.length]) rfl aL) ?_;refine dop 69 rfl (zT rfl rfl rfl rfl rfl (Nc ?_));exact dG rfl (.cellw rfl rfl) fun w' a5=>⟨(⟨A27,W9,A44,W8,A49,N0,A54,M9,A59,W7,A64,W6⟩:SN),bG,rfl,by have h9:=zG (L' := [Res.row A27 (g.l).length W9 52 7 ((g.l).map V.c),Res.row A44 (pend).length W8 3 1 ((pend).map aC),Res.row A49 ((dr 0 q)).length N0 3 1 (((dr 0 q)).map aC),Res.row A54 ((dr 1 q)).length M9 3 1 (((dr 1 q)).map aC),Res.row A59 (mg).length W7 106 2 ((mg).map PP.c),Res.row A64 (pt).length W6 110 2 ((pt).map Rq.c),Res.blk eb 112 (av rb cb lb bb ub mb xb pb gb tb c lA (lv.length) lc),RgB rb g,RgW g,Res.im g.m,CkB cb (blk) (c.elen.toNat),LgB lb (dep) (paid) (burn) (c.supc),bB_ bb br,bW_ br,bK_ br,Res.row lA (lv).length lc 3 1 ((lv).map aC),CuB ub (cur),Res.blk mb 186 (M.c m),bL_ xb b0 b1,aj b0 g0,ah g0,aj b1 g1,ah g1,aj pb gp,ah gp,cn gb gg,cm gg,cq tb gt,co gt]) w' a5;exact h9⟩
theorem nQ (s:Eg) (y:Op):(ao s y).1.c=s.c:=by
 unfold ao;split
 ·rw[gu]
 unfold fF
 repeat' split
 ·show(dz s y).1.c=_;rw[lI]
 ·show(bv s 1 y.i).1.c=_;rw[vH]
 ·show(bv s 0 y.i).1.c=_;rw[vH]
 ·show(ci s y.i).1.c=_;rw[qS]
 ·show(dk s y.i y.t).1.c=_;rw[jB]
 ·show(dh s y.i y.a).1.c=_;rw[iW]
 rfl
abbrev EL (p:EP) (a:EG) (s:Eg):List Res:=[Res.blk p.eb 112 (av p.rb p.cb p.lb p.bb p.ub p.mb p.xb p.pb p.gb p.tb s.c a.lA (s.lv.length) a.lc),RgB p.rb a.g,RgW a.g,Res.im (RG.m a.g),CkB p.cb (s.blk) (s.c.elen.toNat),LgB p.lb (s.dep) (s.paid) (s.burn) (s.c.supc),bB_ p.bb a.br,bW_ a.br,bK_ a.br,Res.row a.lA (s.lv).length a.lc 3 1 ((s.lv).map aC),CuB p.ub (s.cur),Res.blk p.mb 186 (M.c s.m),Res.blk p.xb 191 [aG p.b0,aG p.b1],aj p.b0 a.g0,ah a.g0,aj p.b1 a.g1,ah a.g1,aj p.pb a.gp,ah a.gp,cn p.gb a.gg,cm a.gg,cq p.tb a.gt,co a.gt]
def Eng (p:EP) (a:EG) (s:Eg):Res:=.star (EL p a s)
theorem au.star1 {ι:Type} {P:Program} {f:FuncId} {args:List Value} {w:World} {Ls:List Res} {p:ι->Prop} {val:ι->Value} {Lnew Ls1:ι->List Res} (h:WOK (fps Ls) w Ls w->au P f args w Ls p val Lnew Ls1) (hw:W0 [Res.star Ls] w) :
  au P f args w [.star Ls] p val Lnew (fun x=>[.star (Ls1 x)]):=by
 have h1:WOK (fps Ls) w Ls w:=by
  have:=hw.opened (L:=[]);rwa [vR,cZ] at this
 refine Ret.mono (h h1) fun v w' ⟨x,hp,hv,u2⟩=>⟨x,hp,hv,?_⟩
 rw[vR];have h2:WOK (fps Ls) w (Ls1 x++Lnew x) w' := u2.perm List.perm_append_comm;exact h2.closed.perm (List.perm_append_singleton _ _).symm
theorem au.starN {ι:Type} {P:Program} {f:FuncId} {args:List Value} {w:World} {p:ι->Prop} {val:ι->Value} {Ls:ι->List Res} (h:au P f args w [] p val Ls (fun _=>[])):au P f args w [] p val (fun x=>[.star (Ls x)]) (fun _=>[]) :=
 Ret.mono h fun v w' ⟨x,hp,hv,u2⟩=>⟨x,hp,hv,u2.closed⟩
theorem Ec (c:C) (w:World) (hc:chk c=0) (hk:c.ok):au (ι:=(EP × EG)) Tryz.prog 10 [c.v] w [] (fun x=>x.2.Rep (ap c)) (fun x=>.tuple [aG x.1.eb,aH 0].toArray) (fun x=>[Eng x.1 x.2 (ap c)]) (fun _=>[]):=au.starN (Ab c w hc hk)
theorem BG (p:EP) (a:EG) (s:Eg) (y:Op) (w:World) (hw:W0 [Eng p a s] w) (hi:Inv s) (hr:a.Rep s) (hy:y.ok) (hb:s.blk<1000000000) :
  au (ι:=TX) Tryz.prog 14 [aG p.eb,.agg y.c.toArray] w [Eng p a s] (fun x=>x.a.Rep (ao s y).1) (fun x=>rcV (ao s y).2 x.O x.oc x.pA x.pc) (fun x=>[Res.row x.O (ao s y).2.ag.length x.oc 55 3 ((ao s y).2.ag.map As.cs),Res.row x.pA (ao s y).2.ps.length x.pc 50 3 ((ao s y).2.ps.map Y.c)]) (fun x=>[Eng p x.a (ao s y).1]):=by
 obtain⟨c,blk,l,dep,paid,burn,bo,lv,cur,m,q,pend,mg,pt⟩:=s;obtain⟨g,br,lA,lc,g0,g1,gp,gg,gt⟩:=a;obtain⟨h_g,h_l,V2,h_b,V1,U9,U5,U4,U7,U2,U8,U3,U6,U1⟩:=hr;simp only at h_g h_l V2 h_b V1 U9 U5 U4 U7 U2 U8 U3 U6 U1;subst h_l;have hA:=nQ (Eg.mk c blk g.l dep paid burn bo lv cur m q pend mg pt) y;have h9:=au.star1 (fun u2=>ur p.eb p.rb p.cb p.lb p.bb p.ub p.mb p.xb p.b0 p.b1 p.pb p.gb p.tb c blk g dep paid burn bo lv cur m q pend mg pt br lA lc g0 g1 gp gg gt y w u2 hi h_g V2 h_b V1 U9 U5 U4 U7 U2 U8 U3 U6 U1 hy hb) hw;refine Ret.mono h9 fun v w' ⟨x,h1,h2,h3⟩=>⟨x,h1,h2,?_⟩
 unfold Eng EL;rw[hA];exact h3
theorem Bf (p:EP) (a:EG) (s:Eg) (w:World) (hw:W0 [Eng p a s] w) (hi:Inv s) (hr:a.Rep s) :
  au (ι:=SN) Tryz.prog 13 [aG p.eb] w [Eng p a s] (fun _=>True) (fun x=>.agg [aI s.blk,aH s.ep,.slice x.vA s.l.length x.vc,aJ s.dep,aJ s.paid,aJ s.burn,aJ (dZ s.l),.slice x.pA s.pend.length x.pc,.slice x.fA s.q.f.length x.fc,.slice x.oA s.q.v.length x.oc,.slice x.mA s.mg.length x.mc,.slice x.rA s.pt.length x.rc,aI s.cur,aJ s.m.bal,aI s.bo.length].toArray) (fun x=>[Res.row x.vA (s.l).length x.vc 52 7 ((s.l).map V.c),Res.row x.pA (s.pend).length x.pc 3 1 ((s.pend).map aC),Res.row x.fA (s.q.f).length x.fc 3 1 ((s.q.f).map aC),Res.row x.oA (s.q.v).length x.oc 3 1 ((s.q.v).map aC),Res.row x.mA (s.mg).length x.mc 106 2 ((s.mg).map PP.c),Res.row x.rA (s.pt).length x.rc 110 2 ((s.pt).map Rq.c)]) (fun _=>[Eng p a s]):=by
 obtain⟨c,blk,l,dep,paid,burn,bo,lv,cur,m,q,pend,mg,pt⟩:=s;obtain⟨g,br,lA,lc,g0,g1,gp,gg,gt⟩:=a;obtain⟨h_g,h_l,V2,h_b,V1,U9,U5,U4,U7,U2,U8,U3,U6,U1⟩:=hr;simp only at h_g h_l V2 h_b V1 U9 U5 U4 U7 U2 U8 U3 U6 U1;subst h_l;exact au.star1 (fun u2=>vv p.eb p.rb p.cb p.lb p.bb p.ub p.mb p.xb p.b0 p.b1 p.pb p.gb p.tb c blk g dep paid burn bo lv cur m q pend mg pt br lA lc g0 g1 gp gg gt w u2 hi h_g V2 h_b V1 U9 U5 U4 U7 U2 U8 U3 U6 U1) hw
def szO:Nat->Nat
 | 0=>8
 | _=>2
def AP:Nat->Nat
 | 0=>308
 | 1=>310
 | _=>312
def wg:Nat->Nat
 | 0=>309
 | 1=>311
 | _=>313
def mo (j:Nat) (y:Op):Int:=match j with
 | 0=>y.a
 | 1=>IntKind.u64.wrap y.i
 | _=>IntKind.u64.wrap y.t
def gN (j:Nat) (y:Op) (v:Int):Op:=match j with
 | 0=>{ y with a:=v }
 | 1=>{ y with i:=IntKind.i64.wrap v }
 | _=>{ y with t:=IntKind.i64.wrap v }
def OD.c (j:Nat):List Value:=[aI (szO j),.func (.func (AP j)) #[] #[],.func (.func (wg j)) #[] #[]]
def be (k:Int):List Nat:=if k=1 then [0] else if k=2 then [1] else if k=3 then [1] else if k=4 then [1] else if k=5 then [1,2] else if k=6 then [1,0] else []
def ef (k:Int):Bool:=decide (1<=k/\k<=7)
def szK (k:Int):Nat:=if ef k=true then 1+((be k).map szO).sum else 0
theorem kh (k:Int):∀j∈be k,j<=2:=by
 intro j hj;unfold be at hj
 repeat' split at hj
 all_goals simp at hj
 all_goals omega
theorem vP (k:Int):(be k).length<=2:=by
 unfold be;repeat' split
 all_goals simp
theorem gw (j:Nat):1<=szO j/\szO j<=8:=by unfold szO;split<;>omega
theorem Fv (w:World) : Pur Tryz.prog 270 [] w (.agg (OD.c 0).toArray):=by
 refine am Tryz.func270 2 (WOK.start [] _) ?_;refine Ri ?_;refine aa (zK rfl fun b0=>rn [0,1] ?_);refine s_q (yF (c:=OD.c 0) rfl rfl) rfl (Rp ?_);exact dG rfl (.cellw rfl rfl) fun w' a5=>⟨aP,a5.upd⟩
theorem GE (y:Op) (w:World) : Pur Tryz.prog 308 [.agg y.c.toArray] w (aJ (mo 0 y)):=by
 refine am Tryz.func308 5 (WOK.start [] _) ?_;refine Ri ?_;refine aa (aq rfl rfl rfl fun b1=>rn [3,0,1,4,5,3,0,11] ?_);exact dD rfl rfl fun w' a5=>⟨aP,a5.upd⟩
theorem Fe (b:Nat) (y:Op) (v:Int) (w:World) (hw:W0 [Res.blk b 35 y.c] w) : au (ι:=Unit) Tryz.prog 309 [aG b,aJ v] w [Res.blk b 35 y.c] (fun x=>True) (fun x=>.tuple #[]) (fun x=>[]) (fun x=>[Res.blk b 35 (Op.c (gN 0 y v))]):=by
 refine am Tryz.func309 8 hw ?_;refine rn [10,2,2,6,4] ?_;refine aa (zI rfl rfl rfl rfl rfl rfl rfl ?_);refine zF (b:=b) (Op.c (gN 0 y v)) aP (rn [9] ?_);exact dF rfl fun w' a5=>⟨(),aQ,rfl,zA w' a5⟩
theorem zf (w:World) : Pur Tryz.prog 271 [] w (.agg (OD.c 1).toArray):=by
 refine am Tryz.func271 2 (WOK.start [] _) ?_;refine Ri ?_;refine aa (zK rfl fun b0=>rn [0,1] ?_);refine s_q (yF (c:=OD.c 1) rfl rfl) rfl (Rp ?_);exact dG rfl (.cellw rfl rfl) fun w' a5=>⟨aP,a5.upd⟩
theorem GD (y:Op) (w:World) : Pur Tryz.prog 310 [.agg y.c.toArray] w (aJ (mo 1 y)):=by
 refine am Tryz.func310 6 (WOK.start [] _) ?_;refine Ri ?_;refine aa (aq rfl rfl rfl fun b1=>rn [3,0,1,4,5,62,3,0,11] ?_);exact dD rfl rfl fun w' a5=>⟨aP,a5.upd⟩
theorem Fd (b:Nat) (y:Op) (v:Int) (w:World) (hw:W0 [Res.blk b 35 y.c] w) : au (ι:=Unit) Tryz.prog 311 [aG b,aJ v] w [Res.blk b 35 y.c] (fun x=>True) (fun x=>.tuple #[]) (fun x=>[]) (fun x=>[Res.blk b 35 (Op.c (gN 1 y v))]):=by
 refine am Tryz.func311 9 hw ?_;refine rn [10,2,2,62,6,4] ?_;refine aa (zI rfl rfl rfl rfl rfl rfl rfl ?_);refine zF (b:=b) (Op.c (gN 1 y v)) aP (rn [9] ?_);exact dF rfl fun w' a5=>⟨(),aQ,rfl,zA w' a5⟩
theorem HK (w:World) : Pur Tryz.prog 272 [] w (.agg (OD.c 2).toArray):=by
 refine am Tryz.func272 2 (WOK.start [] _) ?_;refine Ri ?_;refine aa (zK rfl fun b0=>rn [0,1] ?_);refine s_q (yF (c:=OD.c 2) rfl rfl) rfl (Rp ?_);exact dG rfl (.cellw rfl rfl) fun w' a5=>⟨aP,a5.upd⟩
theorem GC (y:Op) (w:World) : Pur Tryz.prog 312 [.agg y.c.toArray] w (aJ (mo 2 y)):=by
 refine am Tryz.func312 6 (WOK.start [] _) ?_;refine Ri ?_;refine aa (aq rfl rfl rfl fun b1=>rn [3,0,1,4,5,62,3,0,11] ?_);exact dD rfl rfl fun w' a5=>⟨aP,a5.upd⟩
theorem Fc (b:Nat) (y:Op) (v:Int) (w:World) (hw:W0 [Res.blk b 35 y.c] w) : au (ι:=Unit) Tryz.prog 313 [aG b,aJ v] w [Res.blk b 35 y.c] (fun x=>True) (fun x=>.tuple #[]) (fun x=>[]) (fun x=>[Res.blk b 35 (Op.c (gN 2 y v))]):=by
 refine am Tryz.func313 9 hw ?_;refine rn [10,2,2,62,6,4] ?_;refine aa (zI rfl rfl rfl rfl rfl rfl rfl ?_);refine zF (b:=b) (Op.c (gN 2 y v)) aP (rn [9] ?_);exact dF rfl fun w' a5=>⟨(),aQ,rfl,zA w' a5⟩
theorem Hn {j:Nat} (h:j<=2):HasB Tryz.prog (AP j):=by
 rcases(show j=0\/j=1\/j=2 by omega) with rfl|rfl|rfl
 ·exact(inferInstance:HasB Tryz.prog 308)
 ·exact(inferInstance:HasB Tryz.prog 310)
 exact(inferInstance:HasB Tryz.prog 312)
theorem Hm {j:Nat} (h:j<=2):HasB Tryz.prog (wg j):=by
 rcases(show j=0\/j=1\/j=2 by omega) with rfl|rfl|rfl
 ·exact(inferInstance:HasB Tryz.prog 309)
 ·exact(inferInstance:HasB Tryz.prog 311)
 exact(inferInstance:HasB Tryz.prog 313)
theorem Ck {j:Nat} (h:j<=2) (y:Op) (w:World):Pur Tryz.prog (AP j) [.agg y.c.toArray] w (aJ (mo j y)):=by
 rcases(show j=0\/j=1\/j=2 by omega) with rfl|rfl|rfl
 ·exact GE y w
 ·exact GD y w
 exact GC y w
theorem Bg {j:Nat} (h:j<=2) (b:Nat) (y:Op) (v:Int) (w:World) (hw:W0 [Res.blk b 35 y.c] w):au (ι:=Unit) Tryz.prog (wg j) [aG b,aJ v] w [Res.blk b 35 y.c] (fun _=>True) (fun _=>.tuple #[]) (fun _=>[]) (fun _=>[Res.blk b 35 (Op.c (gN j y v))]):=by
 rcases(show j=0\/j=1\/j=2 by omega) with rfl|rfl|rfl
 ·exact Fe b y v w hw
 ·exact Fd b y v w hw
 exact Fc b y v w hw
theorem uW (k:Int) (w:World) (hk:-9223372036854775808<=k/\k<=9223372036854775807):au (ι:=(bU × Nat)) Tryz.prog 204 [aH k] w [] (fun x=>True) (fun x=>.tuple [.slice x.1 (be k).length x.2,.bool (ef k)].toArray) (fun x=>[Res.row x.1 (be k).length x.2 324 3 ((be k).map OD.c)]) (fun x=>[]):=by
 refine am Tryz.func204 30 (WOK.start (fps []) _) ?_;refine rn [1,3,3,0,1] ?_;refine aa (sM rfl fun b7=>?_);refine aa (zH rfl (fun w1 a6=>Fv w1) rfl ?_);refine aa (bg rfl rfl rfl rfl rfl fun b9=>?_);refine aa (xM (b:=b7) (D:=[]) rfl rfl rfl (k3 aO) (fun p hp=>by simp at hp) (fun p hp=>by simp at hp) ?_);refine wL b7 [(aH 1,dC (some ⟨b9,0,none⟩) 1 1)] rfl ?_;refine aa (zH rfl (fun w1 a6=>zf w1) rfl ?_);refine aa (bg rfl rfl rfl rfl rfl fun p5=>?_);refine aa (xM (b:=b7) (D:=[(aH 1,dC (some ⟨b9,0,none⟩) 1 1)]) rfl rfl rfl (k3 aO) (by intro p hp;simp only[cH,cE,or_false] at hp;rcases hp with rfl<;>exact k3 aO) (by intro p hp;simp only[cH,cE,or_false] at hp;rcases hp with rfl<;>(intro hc;injection hc with _ hc;exact absurd hc aO)) ?_);refine wL b7 [(aH 1,dC (some ⟨b9,0,none⟩) 1 1),(aH 2,dC (some ⟨p5,0,none⟩) 1 1)] rfl ?_;refine aa (zH rfl (fun w1 a6=>zf w1) rfl ?_);refine aa (bg rfl rfl rfl rfl rfl fun j3=>?_);refine aa (xM (b:=b7) (D:=[(aH 1,dC (some ⟨b9,0,none⟩) 1 1),(aH 2,dC (some ⟨p5,0,none⟩) 1 1)]) rfl rfl rfl (k3 aO) (by intro p hp;simp only[cH,cE,or_false] at hp;rcases hp with rfl|rfl<;>exact k3 aO) (by intro p hp;simp only[cH,cE,or_false] at hp;rcases hp with rfl|rfl<;>(intro hc;injection hc with _ hc;exact absurd hc aO)) ?_);refine wL b7 [(aH 1,dC (some ⟨b9,0,none⟩) 1 1),(aH 2,dC (some ⟨p5,0,none⟩) 1 1),(aH 3,dC (some ⟨j3,0,none⟩) 1 1)] rfl ?_;refine aa (zH rfl (fun w1 a6=>zf w1) rfl ?_);refine aa (bg rfl rfl rfl rfl rfl fun s6=>?_);refine aa (xM (b:=b7) (D:=[(aH 1,dC (some ⟨b9,0,none⟩) 1 1),(aH 2,dC (some ⟨p5,0,none⟩) 1 1),(aH 3,dC (some ⟨j3,0,none⟩) 1 1)]) rfl rfl rfl (k3 aO) (by intro p hp;simp only[cH,cE,or_false] at hp;rcases hp with rfl|rfl|rfl<;>exact k3 aO) (by intro p hp;simp only[cH,cE,or_false] at hp;rcases hp with rfl|rfl|rfl<;>(intro hc;injection hc with _ hc;exact absurd hc aO)) ?_);refine wL b7 [(aH 1,dC (some ⟨b9,0,none⟩) 1 1),(aH 2,dC (some ⟨p5,0,none⟩) 1 1),(aH 3,dC (some ⟨j3,0,none⟩) 1 1),(aH 4,dC (some ⟨s6,0,none⟩) 1 1)] rfl ?_;refine aa (zH rfl (fun w1 a6=>zf w1) rfl ?_);refine aa (zH rfl (fun w1 a6=>HK w1) rfl ?_);refine aa (bg rfl rfl rfl rfl rfl fun u4=>?_);refine aa (xM (b:=b7) (D:=[(aH 1,dC (some ⟨b9,0,none⟩) 1 1),(aH 2,dC (some ⟨p5,0,none⟩) 1 1),(aH 3,dC (some ⟨j3,0,none⟩) 1 1),(aH 4,dC (some ⟨s6,0,none⟩) 1 1)]) rfl rfl rfl (k3 aO) (by intro p hp;simp only[cH,cE,or_false] at hp;rcases hp with rfl|rfl|rfl|rfl<;>exact k3 aO) (by intro p hp;simp only[cH,cE,or_false] at hp;rcases hp with rfl|rfl|rfl|rfl<;>(intro hc;injection hc with _ hc;exact absurd hc aO)) ?_);refine wL b7 [(aH 1,dC (some ⟨b9,0,none⟩) 1 1),(aH 2,dC (some ⟨p5,0,none⟩) 1 1),(aH 3,dC (some ⟨j3,0,none⟩) 1 1),(aH 4,dC (some ⟨s6,0,none⟩) 1 1),(aH 5,dC (some ⟨u4,0,none⟩) 2 2)] rfl ?_;refine aa (zH rfl (fun w1 a6=>zf w1) rfl ?_);refine aa (zH rfl (fun w1 a6=>Fv w1) rfl ?_);refine aa (bg rfl rfl rfl rfl rfl fun v7=>?_);refine aa (xM (b:=b7) (D:=[(aH 1,dC (some ⟨b9,0,none⟩) 1 1),(aH 2,dC (some ⟨p5,0,none⟩) 1 1),(aH 3,dC (some ⟨j3,0,none⟩) 1 1),(aH 4,dC (some ⟨s6,0,none⟩) 1 1),(aH 5,dC (some ⟨u4,0,none⟩) 2 2)]) rfl rfl rfl (k3 aO) (by intro p hp;simp only[cH,cE,or_false] at hp;rcases hp with rfl|rfl|rfl|rfl|rfl<;>exact k3 aO) (by intro p hp;simp only[cH,cE,or_false] at hp;rcases hp with rfl|rfl|rfl|rfl|rfl<;>(intro hc;injection hc with _ hc;exact absurd hc aO)) ?_);refine wL b7 [(aH 1,dC (some ⟨b9,0,none⟩) 1 1),(aH 2,dC (some ⟨p5,0,none⟩) 1 1),(aH 3,dC (some ⟨j3,0,none⟩) 1 1),(aH 4,dC (some ⟨s6,0,none⟩) 1 1),(aH 5,dC (some ⟨u4,0,none⟩) 2 2),(aH 6,dC (some ⟨v7,0,none⟩) 2 2)] rfl ?_;refine aa (bg rfl rfl rfl rfl rfl fun H2=>?_);refine aa (xM (b:=b7) (D:=[(aH 1,dC (some ⟨b9,0,none⟩) 1 1),(aH 2,dC (some ⟨p5,0,none⟩) 1 1),(aH 3,dC (some ⟨j3,0,none⟩) 1 1),(aH 4,dC (some ⟨s6,0,none⟩) 1 1),(aH 5,dC (some ⟨u4,0,none⟩) 2 2),(aH 6,dC (some ⟨v7,0,none⟩) 2 2)]) rfl rfl rfl (k3 aO) (by intro p hp;simp only[cH,cE,or_false] at hp;rcases hp with rfl|rfl|rfl|rfl|rfl|rfl<;>exact k3 aO) (by intro p hp;simp only[cH,cE,or_false] at hp;rcases hp with rfl|rfl|rfl|rfl|rfl|rfl<;>(intro hc;injection hc with _ hc;exact absurd hc aO)) ?_);refine wL b7 [(aH 1,dC (some ⟨b9,0,none⟩) 1 1),(aH 2,dC (some ⟨p5,0,none⟩) 1 1),(aH 3,dC (some ⟨j3,0,none⟩) 1 1),(aH 4,dC (some ⟨s6,0,none⟩) 1 1),(aH 5,dC (some ⟨u4,0,none⟩) 2 2),(aH 6,dC (some ⟨v7,0,none⟩) 2 2),(aH 7,dC (some ⟨H2,0,none⟩) 0 0)] rfl (SD ?_);rcases(show k=1\/k=2\/k=3\/k=4\/k=5\/k=6\/k=7\/¬(1<=k/\k<=7) by omega) with w5|Y0|hk3|hk4|hk5|hk6|hk7|s8
 ·have hL:be k=[0]:=by rw[w5];rfl
  have hB:ef k=true:=by rw[w5];rfl
  refine SD ?_;refine s_q (wI (b:=b7) (v:=.slice (some ⟨b9,0,none⟩) 1 1) (D:=[(aH 1,dC (some ⟨b9,0,none⟩) 1 1),(aH 2,dC (some ⟨p5,0,none⟩) 1 1),(aH 3,dC (some ⟨j3,0,none⟩) 1 1),(aH 4,dC (some ⟨s6,0,none⟩) 1 1),(aH 5,dC (some ⟨u4,0,none⟩) 2 2),(aH 6,dC (some ⟨v7,0,none⟩) 2 2),(aH 7,dC (some ⟨H2,0,none⟩) 0 0)]) rfl (by rw[w5];rfl) (k3 aO) (by intro p hp;simp only[cH,cE,or_false] at hp;rcases hp with rfl|rfl|rfl|rfl|rfl|rfl|rfl<;>exact k3 aO) aM (by intro p hp hc;simp only[cH,cE,or_false] at hp;rcases hp with rfl|rfl|rfl|rfl|rfl|rfl|rfl<;>first|rfl|(injection hc with _ hc;exact absurd hc aO))) rfl (Rv ?_);refine zF (b:=b9) ((([0]:List Nat).map OD.c).flatten) aP ?_;refine xW (b:=b9) 3 1 (([0]:List Nat).map OD.c) (yA (c:=OD.c) (fun _=>rfl) _) rfl rfl aO ?_;exact dE rfl rfl rfl fun w' a5=>⟨((some ⟨b9,0,none⟩:bU),(1:Nat)),aQ,by rw[hL,hB];rfl,by rw[hL];exact zA w' a5⟩
 ·have hL:be k=[1]:=by rw[Y0];rfl
  have hB:ef k=true:=by rw[Y0];rfl
  refine SD ?_;refine s_q (wI (b:=b7) (v:=.slice (some ⟨p5,0,none⟩) 1 1) (D:=[(aH 1,dC (some ⟨b9,0,none⟩) 1 1),(aH 2,dC (some ⟨p5,0,none⟩) 1 1),(aH 3,dC (some ⟨j3,0,none⟩) 1 1),(aH 4,dC (some ⟨s6,0,none⟩) 1 1),(aH 5,dC (some ⟨u4,0,none⟩) 2 2),(aH 6,dC (some ⟨v7,0,none⟩) 2 2),(aH 7,dC (some ⟨H2,0,none⟩) 0 0)]) rfl (by rw[Y0];rfl) (k3 aO) (by intro p hp;simp only[cH,cE,or_false] at hp;rcases hp with rfl|rfl|rfl|rfl|rfl|rfl|rfl<;>exact k3 aO) aM (by intro p hp hc;simp only[cH,cE,or_false] at hp;rcases hp with rfl|rfl|rfl|rfl|rfl|rfl|rfl<;>first|rfl|(injection hc with _ hc;exact absurd hc aO))) rfl (Rv ?_);refine zF (b:=p5) ((([1]:List Nat).map OD.c).flatten) aP ?_;refine xW (b:=p5) 3 1 (([1]:List Nat).map OD.c) (yA (c:=OD.c) (fun _=>rfl) _) rfl rfl aO ?_;exact dE rfl rfl rfl fun w' a5=>⟨((some ⟨p5,0,none⟩:bU),(1:Nat)),aQ,by rw[hL,hB];rfl,by rw[hL];exact zA w' a5⟩
 ·have hL:be k=[1]:=by rw[hk3];rfl
  have hB:ef k=true:=by rw[hk3];rfl
  refine SD ?_;refine s_q (wI (b:=b7) (v:=.slice (some ⟨j3,0,none⟩) 1 1) (D:=[(aH 1,dC (some ⟨b9,0,none⟩) 1 1),(aH 2,dC (some ⟨p5,0,none⟩) 1 1),(aH 3,dC (some ⟨j3,0,none⟩) 1 1),(aH 4,dC (some ⟨s6,0,none⟩) 1 1),(aH 5,dC (some ⟨u4,0,none⟩) 2 2),(aH 6,dC (some ⟨v7,0,none⟩) 2 2),(aH 7,dC (some ⟨H2,0,none⟩) 0 0)]) rfl (by rw[hk3];rfl) (k3 aO) (by intro p hp;simp only[cH,cE,or_false] at hp;rcases hp with rfl|rfl|rfl|rfl|rfl|rfl|rfl<;>exact k3 aO) aM (by intro p hp hc;simp only[cH,cE,or_false] at hp;rcases hp with rfl|rfl|rfl|rfl|rfl|rfl|rfl<;>first|rfl|(injection hc with _ hc;exact absurd hc aO))) rfl (Rv ?_);refine zF (b:=j3) ((([1]:List Nat).map OD.c).flatten) aP ?_;refine xW (b:=j3) 3 1 (([1]:List Nat).map OD.c) (yA (c:=OD.c) (fun _=>rfl) _) rfl rfl aO ?_;exact dE rfl rfl rfl fun w' a5=>⟨((some ⟨j3,0,none⟩:bU),(1:Nat)),aQ,by rw[hL,hB];rfl,by rw[hL];exact zA w' a5⟩
 ·have hL:be k=[1]:=by rw[hk4];rfl
  have hB:ef k=true:=by rw[hk4];rfl
  refine SD ?_;refine s_q (wI (b:=b7) (v:=.slice (some ⟨s6,0,none⟩) 1 1) (D:=[(aH 1,dC (some ⟨b9,0,none⟩) 1 1),(aH 2,dC (some ⟨p5,0,none⟩) 1 1),(aH 3,dC (some ⟨j3,0,none⟩) 1 1),(aH 4,dC (some ⟨s6,0,none⟩) 1 1),(aH 5,dC (some ⟨u4,0,none⟩) 2 2),(aH 6,dC (some ⟨v7,0,none⟩) 2 2),(aH 7,dC (some ⟨H2,0,none⟩) 0 0)]) rfl (by rw[hk4];rfl) (k3 aO) (by intro p hp;simp only[cH,cE,or_false] at hp;rcases hp with rfl|rfl|rfl|rfl|rfl|rfl|rfl<;>exact k3 aO) aM (by intro p hp hc;simp only[cH,cE,or_false] at hp;rcases hp with rfl|rfl|rfl|rfl|rfl|rfl|rfl<;>first|rfl|(injection hc with _ hc;exact absurd hc aO))) rfl (Rv ?_);refine zF (b:=s6) ((([1]:List Nat).map OD.c).flatten) aP ?_;refine xW (b:=s6) 3 1 (([1]:List Nat).map OD.c) (yA (c:=OD.c) (fun _=>rfl) _) rfl rfl aO ?_;exact dE rfl rfl rfl fun w' a5=>⟨((some ⟨s6,0,none⟩:bU),(1:Nat)),aQ,by rw[hL,hB];rfl,by rw[hL];exact zA w' a5⟩
 ·have hL:be k=[1,2]:=by rw[hk5];rfl
  have hB:ef k=true:=by rw[hk5];rfl
  refine SD ?_;refine s_q (wI (b:=b7) (v:=.slice (some ⟨u4,0,none⟩) 2 2) (D:=[(aH 1,dC (some ⟨b9,0,none⟩) 1 1),(aH 2,dC (some ⟨p5,0,none⟩) 1 1),(aH 3,dC (some ⟨j3,0,none⟩) 1 1),(aH 4,dC (some ⟨s6,0,none⟩) 1 1),(aH 5,dC (some ⟨u4,0,none⟩) 2 2),(aH 6,dC (some ⟨v7,0,none⟩) 2 2),(aH 7,dC (some ⟨H2,0,none⟩) 0 0)]) rfl (by rw[hk5];rfl) (k3 aO) (by intro p hp;simp only[cH,cE,or_false] at hp;rcases hp with rfl|rfl|rfl|rfl|rfl|rfl|rfl<;>exact k3 aO) aM (by intro p hp hc;simp only[cH,cE,or_false] at hp;rcases hp with rfl|rfl|rfl|rfl|rfl|rfl|rfl<;>first|rfl|(injection hc with _ hc;exact absurd hc aO))) rfl (Rv ?_);refine zF (b:=u4) ((([1,2]:List Nat).map OD.c).flatten) aP ?_;refine xW (b:=u4) 3 2 (([1,2]:List Nat).map OD.c) (yA (c:=OD.c) (fun _=>rfl) _) rfl rfl aO ?_;exact dE rfl rfl rfl fun w' a5=>⟨((some ⟨u4,0,none⟩:bU),(2:Nat)),aQ,by rw[hL,hB];rfl,by rw[hL];exact zA w' a5⟩
 ·have hL:be k=[1,0]:=by rw[hk6];rfl
  have hB:ef k=true:=by rw[hk6];rfl
  refine SD ?_;refine s_q (wI (b:=b7) (v:=.slice (some ⟨v7,0,none⟩) 2 2) (D:=[(aH 1,dC (some ⟨b9,0,none⟩) 1 1),(aH 2,dC (some ⟨p5,0,none⟩) 1 1),(aH 3,dC (some ⟨j3,0,none⟩) 1 1),(aH 4,dC (some ⟨s6,0,none⟩) 1 1),(aH 5,dC (some ⟨u4,0,none⟩) 2 2),(aH 6,dC (some ⟨v7,0,none⟩) 2 2),(aH 7,dC (some ⟨H2,0,none⟩) 0 0)]) rfl (by rw[hk6];rfl) (k3 aO) (by intro p hp;simp only[cH,cE,or_false] at hp;rcases hp with rfl|rfl|rfl|rfl|rfl|rfl|rfl<;>exact k3 aO) aM (by intro p hp hc;simp only[cH,cE,or_false] at hp;rcases hp with rfl|rfl|rfl|rfl|rfl|rfl|rfl<;>first|rfl|(injection hc with _ hc;exact absurd hc aO))) rfl (Rv ?_);refine zF (b:=v7) ((([1,0]:List Nat).map OD.c).flatten) aP ?_;refine xW (b:=v7) 3 2 (([1,0]:List Nat).map OD.c) (yA (c:=OD.c) (fun _=>rfl) _) rfl rfl aO ?_;exact dE rfl rfl rfl fun w' a5=>⟨((some ⟨v7,0,none⟩:bU),(2:Nat)),aQ,by rw[hL,hB];rfl,by rw[hL];exact zA w' a5⟩
 ·have hL:be k=[]:=by rw[hk7];rfl
  have hB:ef k=true:=by rw[hk7];rfl
  refine SD ?_;refine s_q (wI (b:=b7) (v:=.slice (some ⟨H2,0,none⟩) 0 0) (D:=[(aH 1,dC (some ⟨b9,0,none⟩) 1 1),(aH 2,dC (some ⟨p5,0,none⟩) 1 1),(aH 3,dC (some ⟨j3,0,none⟩) 1 1),(aH 4,dC (some ⟨s6,0,none⟩) 1 1),(aH 5,dC (some ⟨u4,0,none⟩) 2 2),(aH 6,dC (some ⟨v7,0,none⟩) 2 2),(aH 7,dC (some ⟨H2,0,none⟩) 0 0)]) rfl (by rw[hk7];rfl) (k3 aO) (by intro p hp;simp only[cH,cE,or_false] at hp;rcases hp with rfl|rfl|rfl|rfl|rfl|rfl|rfl<;>exact k3 aO) aM (by intro p hp hc;simp only[cH,cE,or_false] at hp;rcases hp with rfl|rfl|rfl|rfl|rfl|rfl|rfl<;>first|rfl|(injection hc with _ hc;exact absurd hc aO))) rfl (Rv ?_);refine zF (b:=H2) ((([]:List Nat).map OD.c).flatten) aP ?_;refine xW (b:=H2) 3 0 (([]:List Nat).map OD.c) (yA (c:=OD.c) (fun _=>rfl) _) rfl rfl aO ?_;exact dE rfl rfl rfl fun w' a5=>⟨((some ⟨H2,0,none⟩:bU),(0:Nat)),aQ,by rw[hL,hB];rfl,by rw[hL];exact zA w' a5⟩
 have hL:be k=[]:=by unfold be;repeat rw[bY aK]
 have hB:ef k=false:=cY s8;refine SD ?_;refine s_q (mM (b:=b7) (z:=.slice none 0 0) (D:=[(aH 1,dC (some ⟨b9,0,none⟩) 1 1),(aH 2,dC (some ⟨p5,0,none⟩) 1 1),(aH 3,dC (some ⟨j3,0,none⟩) 1 1),(aH 4,dC (some ⟨s6,0,none⟩) 1 1),(aH 5,dC (some ⟨u4,0,none⟩) 2 2),(aH 6,dC (some ⟨v7,0,none⟩) 2 2),(aH 7,dC (some ⟨H2,0,none⟩) 0 0)]) rfl rfl (k3 hk) (by intro p hp;simp only[cH,cE,or_false] at hp;rcases hp with rfl|rfl|rfl|rfl|rfl|rfl|rfl<;>exact k3 aO) (by intro p hp hc;simp only[cH,cE,or_false] at hp;rcases hp with rfl|rfl|rfl|rfl|rfl|rfl|rfl<;>(injection hc with _ hc;omega)) (zv aL)) rfl (Rv ?_);refine zY none 324 3 (([]:List Nat).map OD.c) aP ?_;exact dE rfl rfl rfl fun w' a5=>⟨((none:bU),(0:Nat)),aQ,by rw[hL,hB];rfl,by rw[hL];exact zA w' a5⟩
theorem wE:∀(l:List Nat) (k:Nat),((l.take k).map szO).sum<=8*l.length
 | [],_=>by simp
 | a :: l,0=>by simp
 | a :: l,k+1=>by
  have h1:=wE l k;have h2:=gw a;simp only[List.take_succ_cons,cV,dB,cT];omega
theorem yV {l:List Nat} {k:Nat} (h:k<l.length):((l.take (k+1)).map szO).sum=((l.take k).map szO).sum+szO l[k]:=by
 rw[←cB h,cA,List.sum_append,cV,List.map_nil,dB,List.sum_nil,Nat.add_zero]
theorem vk (k:Int):szK k<=17:=by
 unfold szK;have h1:=wE (be k) (be k).length;have h2:=vP k;rw[cI] at h1;split<;>omega
theorem lh (k:Int) (w:World) (hk:-9223372036854775808<=k/\k<=9223372036854775807):Pur Tryz.prog 252 [aH k] w (aI (szK k)):=by
 refine am Tryz.func252 27 (WOK.start [] _) ?_;refine Sq ?_;refine aa (zJ [] rfl (fun w1 a6 a8=>by have h7:=uW (k) w1 hk;exact h7) rfl ?_);rintro⟨A10,C1⟩ _;refine ii (Ro ?_);refine zB rfl (fun h1=>?_) (fun h1=>?_)
 ·have hB:ef k=false:=by simpa using h1
  refine Re ?_;exact dD rfl rfl fun w' a5=>⟨by unfold szK;rw[hB];rfl,a5.upd⟩
 have hB:ef k=true:=by simpa using h1
 refine rn [12,7,1,3,0,8,1,2,47,2,0,14] ?_;refine ae 5 (v' := aI (1+(((be k).take 0).map szO).sum)) rfl aP ?_;refine dP [2,15,16] (fun(x:Nat)=>[(5,aI (1+(((be k).take x).map szO).sum)),(17,aI x)]) (fun(x:Nat)=>[Res.row A10 (be k).length C1 324 3 ((be k).map OD.c)]) (fun(x:Nat)=>x<=(be k).length) (fun(x:Nat)=>(be k).length-x) 0 aW ?_;rintro i y1;replace y1:i<=(be k).length:=y1;have o5:=wE (be k) i;have T0:=vP k;refine Rj ?_;refine zB rfl (fun h2=>?_) (fun h2=>?_)
 ·have H5:i<(be k).length:=by have h9:=bW h2;omega
  refine Ry ?_;refine s_q (zM (i:=i) rfl rfl rfl (ird (A:=A10)) aN) rfl ?_;refine s_q (zU (i:=i) rfl (ird (A:=A10)) (zP aT) rfl) rfl ?_;refine aa (zK rfl fun b7=>rn [33,0,10,2,4,5] ?_);refine s_q (xP (a:=(1+(((be k).take i).map szO).sum)) (b:=szO (be k)[i]) rfl rfl (by have h9:=gw (be k)[i];omega)) rfl (Rx ?_);refine ae 5 (v' := aI (1+(((be k).take (i+1)).map szO).sum)) rfl (by rw[yV H5];congr 1;omega) ?_;exact cr (i+1) aU
 have F6:i=(be k).length:=by have h9:=bX h2;omega
 refine Ru ?_;refine zE (zE (zQ (Rl ?_)));exact dD rfl rfl fun w' a5=>⟨by unfold szK;rw[bZ hB,F6,cI],a5.upd⟩
theorem nu (A:bU) (n cap:Nat) (w:World) : au (ι:=Nat) Tryz.prog 253 [.slice A n cap] w [] (fun x=>True) (fun x=>.func (.func 296) #[] [aG x].toArray) (fun x=>[Res.blk x 56 [dC A n cap]]) (fun x=>[]):=by
 refine am Tryz.func253 4 (WOK.start (fps []) _) ?_;refine Ri ?_;refine aa (aq (c:=[dC A n cap]) rfl rfl rfl fun b1=>SA ?_);exact dD rfl rfl fun w' a5=>⟨b1,aQ,rfl,zA w' a5⟩
def rdN (bs:List Nat):Nat:=bs.foldl (fun v b=>v*256+b) 0
theorem iL {bs:List Nat} {k:Nat} (h:k<bs.length):rdN (bs.take (k+1))=rdN (bs.take k)*256+bs[k]:=by
 unfold rdN;rw[←cB h,List.foldl_append];rfl
theorem iM {bs:List Nat} (hb:∀b∈bs,b<256):∀k,k<=bs.length->rdN (bs.take k)<256 ^ k
 | 0,_=>by simp[rdN]
 | k+1,h=>by
  have h1:=iM hb k aK;have h2:=hb _ (cC (show k<bs.length by omega));rw[iL aK,Nat.pow_succ];omega
theorem Fm {k:Nat} (h:k<8):256 ^ k*256<=18446744073709551616:=by
 rw[←Nat.pow_succ];exact Nat.pow_le_pow_right aO (show k+1<=8 by omega)
theorem EV {a b:Nat} (hb:b<256):(a*256) ||| b=a*256+b:=by
 have:=Nat.two_pow_add_eq_or_of_lt (i:=8) (show b<2 ^ 8 by omega) a;rw[Nat.mul_comm];exact this.symm
theorem Bv (q:Nat) (A:bU) (m cap n:Nat) (bs:List Nat) (w:World) (hw:W0 [Res.blk q 56 [dC A m cap]] w) (hrd:Rd w [Res.blk q 56 [dC A m cap]] A m 1 (bs.map aE)) (j5:m<=cap) (hn:n<=m) (hn8:n<=8) (hby:∀b∈bs,b<256):au (ι:=Unit) Tryz.prog 296 [aH (n:Int),aG q] w [Res.blk q 56 [dC A m cap]] (fun x=>True) (fun x=>.int .u64 ((rdN (bs.take n):Nat):Int)) (fun x=>[]) (fun x=>[Res.blk q 56 [dC (cz A cap n 1) (m-n) (cap-n)]]):=by
 refine am Tryz.func296 25 hw ?_;have hm:m=bs.length:=by have:=hrd.old.len;simpa using this
 refine rn [1,3,0,1,3,0,8,1,5,2] ?_;refine s_q (xC (h:=n) rfl rfl rfl aK) rfl (SK ?_);refine ae 4 (v' := aJ ((rdN (bs.take 0):Nat):Int)) rfl aP ?_;refine dP [0,1,3,9,10] (fun(x:Nat)=>[(4,aJ ((rdN (bs.take x):Nat):Int)),(11,aI x)]) (fun(x:Nat)=>[Res.blk q 56 [dC A m cap]]) (fun(x:Nat)=>x<=n) (fun(x:Nat)=>n-x) 0 aW ?_;rintro i y1;replace y1:i<=n:=y1;refine Rj ?_;refine zB rfl (fun h1=>?_) (fun h1=>?_)
 ·have H5:i<n:=by have h9:=bW h1;omega
  have hbs:i<bs.length:=by omega
  have hb9:=hby _ (cC hbs);have j8:=iM hby i aK;have z7:=Fm (k:=i) aK;have hq9:rdN (bs.take i)*256<18446744073709551616-255:=by
    have h8:(rdN (bs.take i)+1)*256<=256 ^ i*256:=Nat.mul_le_mul_right 256 j8;omega
  refine Ry ?_;refine s_q (zM (i:=i) rfl rfl rfl (hrd.rdb.h (cap:=cap) aK j5) aN) rfl ?_;refine s_q (zX (i:=i) (o:=0) rfl (hrd.rdb.h (cap:=cap) aK j5) (uG (l:=bs) (m:=n) aN aK) rfl rfl) rfl (rn [3,0,10,2] ?_);refine s_q (ka (a:=rdN (bs.take i)) (n:=8) rfl rfl aO) rfl ?_;refine ae 16 (v' := aJ ((rdN (bs.take i)*256:Nat):Int)) rfl (by rw[Nat.mod_eq_of_lt aK]) (SD ?_);refine s_q (yS (z:=((bs[i]:Nat):Int)) rfl (ey aK aK)) rfl ?_;refine s_q (DW (a:=rdN (bs.take i)*256) (b:=bs[i]) rfl rfl aK aK) rfl ?_;refine ae 19 (v' := aJ ((rdN (bs.take (i+1)):Nat):Int)) rfl (by rw[EV hb9,iL hbs]) (Rx ?_);exact cr (i+1) aU
 have F6:i=n:=by have h9:=bX h1;omega
 refine Ru ?_;refine zE (zE (zQ (rn [7,1,5,2] ?_)));refine s_q (xB (l:=n) rfl rfl rfl aK) rfl ?_;refine aa (zI rfl rfl rfl rfl rfl rfl rfl ?_);refine zF (b:=q) [dC (cz A cap n 1) (m-n) (cap-n)] aP (SJ ?_);exact dD rfl rfl fun w' a5=>⟨(),aQ,by rw[F6],zA w' a5⟩
end Go.Proofs.YtdddiilocbbkkaaGreat
