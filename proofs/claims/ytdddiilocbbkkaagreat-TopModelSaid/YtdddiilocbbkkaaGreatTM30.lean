/- Part 30 of the proof of TopModel. No condition. -/
import Derived.Test.YtdddiilocbbkkaaGreatTM28
set_option linter.unusedVariables false
set_option linter.unusedSimpArgs false
namespace Go.Proofs.YtdddiilocbbkkaaGreat
open Go.RowKit Go.Eg
set_option maxHeartbeats 4000000
set_option synthInstance.maxSize 3000
set_option maxRecDepth 100000
theorem me (p:SP) (g:SG) (s:Eg) (y:Op) (w:World) (hw:WOK (fps (RSL p g s)) w (RSL p g s) w) (hi:Inv s) (hg:g.Ok s) (hy:y.ok):au (ι:=SG) Tryz.prog 130 [aG p.sb,.agg (Op.c y).toArray] w (RSL p g s) (fun x=>x.Ok (if y.k=5 then dk s y.i y.t else dh s y.i y.a).1) (fun x=>.agg (RX.c (rcX s y (if y.k=5 then dk s y.i y.t else dh s y.i y.a).2)).toArray) (fun x=>[]) (fun x=>RSL p x (if y.k=5 then dk s y.i y.t else dh s y.i y.a).1):=by
 refine am Tryz.func130 100 hw ?_;have o6:=yM hi.cc;have F9:=o6.qsize;have i6:=hi.cok;have q7:=i6.capa;have B8:=hi.cap;have X8:s.l.length<=4096:=by omega
 have y8:=hi.qf;have X6:=hi.pe;have F2:=hi.mg;have F1:=hi.pt;have u6:=hi.blk;refine Ri ?_;refine aa (aq rfl rfl rfl fun b3=>?_);refine aa (zK rfl fun b4=>rn [0,1,4,5,4,5] ?_);refine s_q (yF (c:=Rq.c (Rq.mk y.i y.a)) rfl aL) rfl ?_;refine aa (zK rfl fun b5=>rn [33] ?_);refine zF (b:=b5) (Rq.c ⟨y.i,y.a⟩) aP (Sw ?_);refine bn [] an rfl (rn [23,0,2,23,1,6,23,2,4,23,3,5,23,4,45] ?_);refine dop 5 rfl (zH rfl (fun w1 a6=>kZ g.vA s.l.length g.vc s.l ⟨y.i,y.a⟩ w1 (Rdb.toOld (ird (A:=g.vA)) a6) aK) rfl (rn [23,6,3,27,7,1,2,6,4,5,47,3,0,8,1,4,5,44,0] ?_));refine zB rfl (fun h1=>?_) (fun h1=>?_)
 ·have k5:y.k=5:=bW h1;refine rn [8] ?_;refine bn [] an rfl (rn [23,0,2,23,1,6,23,2,4,23,3,5,23,4,4,23,5,5,23,6,4,23,7,5,23,8,2,23,9,6,23,10,4] ?_);refine dq 11 rfl (yP (c' := C.c s.c) rfl rfl rfl) ?_;refine dop 12 rfl (zH rfl (fun w1 a6=>lz g.vA (s.l.length) (g.vc) (s.l) (_) (_) _ w1 (Rdb.toOld (ird (A:=g.vA)) a6) (tR hi) aZ) rfl (rn [23,13,3,27,7,10,2,6,4,5,47,3,0,8,1,2,44,2] ?_));refine zS 47 rfl (fun h2=>?_) (fun h2=>?_)
  ·have X5:=h2;have k6:¬(dN s.l y.i y.t s.c)≠0:=fun hc=>hc (bW X5);refine rn [22,2,22,2,22,6,22,4,22,4,22,5,22,53,41,0] ?_;refine zB rfl (fun h3=>?_) (fun h3=>?_)
   ·have P5:=h3;have k7:s.c.qsize.toNat-s.mg.length=0:=by have h9:=bW P5;omega
    have hD:(if y.k=5 then dk s y.i y.t else dh s y.i y.a)=(s,⟨6,0,0⟩):=(bZ k5).trans ((bY k6).trans (bZ k7));refine rn [10,3,0,8,1,2,51] ?_;refine zV 57 (b:=true) rfl (rfl) (rn [0,19,1,2,4,5,2] ?_);refine aa (zN _ rfl (fun w1 a6 a8=>by exact xD p g s ((y).k) (6) w1 a8) rfl ?_);refine Rm ?_;exact dG rfl (.cellw rfl rfl) fun w' a5=>⟨g,(by(rw[hD];exact hg)),by rw[hD];rfl,by rw[hD];exact zA w' a5⟩
   have P5:=h3;have k7:¬s.c.qsize.toNat-s.mg.length=0:=by have h9:=bX P5;omega
   have hD:(if y.k=5 then dk s y.i y.t else dh s y.i y.a)=({ s with mg:=(s.mg++[(PP.mk y.i y.t)]) },⟨0,y.i,-1⟩):=(bZ k5).trans ((bY k6).trans (bY k7));refine rn [12,7,8,1,2,51] ?_;refine zV 57 (b:=false) rfl (by simp[Classical.not_not.1 k6]) (rn [0,20,12,7,8,1,4,5,44] ?_);refine zV 65 (b:=true) rfl (cX k5) (rn [0,19] ?_);refine bn [16] an rfl (rn [23,0,2,23,2,2,23,3,6,23,4,4,23,5,5,23,7,4,23,8,5,23,9,4,23,10,5] ?_);refine dq 11 rfl (yF (c:=PP.c (PP.mk y.i y.t)) rfl aL) ?_;refine dj [0,3,4] (fun(x:bU × Nat)=>[]) (fun(x:bU × Nat)=>[Res.blk b3 35 y.c,rcZ b4,Res.blk b5 150 (Rq.c ⟨y.i,y.a⟩),Res.blk p.sb 147 (SC p { g with mA:=x.1,mc:=x.2 } { s with mg:=(s.mg++[(PP.mk y.i y.t)]) }),Res.blk p.lb 138 (LdC s.c.supc s.dep s.paid s.burn),Res.blk p.xb 141 [dC g.fA (s.q).f.length g.fc,dC g.oA (s.q).v.length g.oc,aI s.c.qsize.toNat],Res.ro g.fA (s.q).f.length 1 ((s.q).f.map aC),Res.ro g.oA (s.q).v.length 1 ((s.q).v.map aC),Res.blk p.mb 144 (R.c (R.of s.m)),Res.row g.vA s.l.length g.vc 52 7 (s.l.map V.c),Res.ro g.pA s.pend.length 1 (s.pend.map aC),Res.row x.1 (s.mg++[(PP.mk y.i y.t)]).length x.2 106 2 ((s.mg++[(PP.mk y.i y.t)]).map PP.c),Res.ro g.rA s.pt.length 2 (s.pt.map Rq.c)]) ?_ ?_
   ·refine yJ [1,12] aL aM zG ⟨bu rfl (bg rfl rfl rfl rfl rfl fun b67=>?_),bu rfl (bg rfl rfl rfl rfl rfl fun Q2=>?_),trivial⟩
    ·refine xL (t:=67) (T:=106) (k:=2) rfl fun A67 M8 hc67=>?_;refine zC (A:=A67) (([]:List PP).map PP.c) rfl ?_;refine yJ [6,12] aL aM zG ⟨bu rfl (zW (A:=A67) (els:=(([]:List PP)).map PP.c) (news:=((s.mg).map PP.c)) rfl rfl (Rdb.ro (A:=g.mA) (els:=(s.mg).map PP.c) bA (yA (c:=PP.c) (fun _=>rfl) _)) (zZ (c:=PP.c) (by intro x;simp[PP.c,Value.oneCell']) _) aR rfl fun A72 cap72=>⟨_,inferInstance,?_⟩),bu rfl (bg rfl rfl rfl rfl rfl fun Q2=>?_),trivial⟩
     ·refine zC (A:=A72) ((s.mg).map PP.c) (by first|rfl|exact cA.symm|(simp;done)) ?_;refine zR (A:=A72) (s.mg.length) aM ?_;refine ae 72 (v' := .slice A72 (s.mg.length) cap72) rfl aM ?_;refine dop 12 rfl (bg rfl rfl rfl rfl rfl fun Q2=>?_);refine zF (b:=Q2) ((([(PP.mk y.i y.t)]:List PP).map PP.c).flatten) rfl ?_;refine dop 13 rfl (zW (A:=A72) (els:=(s.mg).map PP.c) (news:=(([(PP.mk y.i y.t)]:List PP).map PP.c)) rfl rfl (InL.rdb (b:=Q2) rfl (by simp[PP.c]) rfl) (zZ (c:=PP.c) (by intro x;simp[PP.c,Value.oneCell']) _) aR rfl fun A79 t2=>⟨_,inferInstance,?_⟩);refine zC (A:=A79) (((s.mg++[(PP.mk y.i y.t)])).map PP.c) (by first|rfl|exact cA.symm|(simp;done)) ?_;refine zR (A:=A79) (s.mg++[(PP.mk y.i y.t)]).length aM ?_;refine ae 79 (v' := .slice A79 (s.mg++[(PP.mk y.i y.t)]).length t2) rfl aM (rn [24,14,6,23,15,4] ?_);refine dop 16 rfl (zI rfl rfl rfl rfl rfl rfl rfl ?_);refine zF (b:=p.sb) (SC p ({ g with mA:=A79,mc:=t2 }:SG) { s with mg:=(s.mg++[(PP.mk y.i y.t)]) }) aP (Nf ?_);exact eL (A79,t2)
     refine zF (b:=Q2) ((([(PP.mk y.i y.t)]:List PP).map PP.c).flatten) rfl ?_;refine dop 6 rfl (zW (A:=A67) (els:=(([]:List PP)).map PP.c) (news:=((s.mg).map PP.c)) rfl rfl (Rdb.ro (A:=g.mA) (els:=(s.mg).map PP.c) bA (yA (c:=PP.c) (fun _=>rfl) _)) (zZ (c:=PP.c) (by intro x;simp[PP.c,Value.oneCell']) _) aR rfl fun A72 cap72=>⟨_,inferInstance,?_⟩);refine zC (A:=A72) ((s.mg).map PP.c) (by first|rfl|exact cA.symm|(simp;done)) ?_;refine zR (A:=A72) (s.mg.length) aM ?_;refine ae 72 (v' := .slice A72 (s.mg.length) cap72) rfl aM ?_;refine dop 13 rfl (zW (A:=A72) (els:=(s.mg).map PP.c) (news:=(([(PP.mk y.i y.t)]:List PP).map PP.c)) rfl rfl (InL.rdb (b:=Q2) rfl (by simp[PP.c]) rfl) (zZ (c:=PP.c) (by intro x;simp[PP.c,Value.oneCell']) _) aR rfl fun A79 t2=>⟨_,inferInstance,?_⟩);refine zC (A:=A79) (((s.mg++[(PP.mk y.i y.t)])).map PP.c) (by first|rfl|exact cA.symm|(simp;done)) ?_;refine zR (A:=A79) (s.mg++[(PP.mk y.i y.t)]).length aM ?_;refine ae 79 (v' := .slice A79 (s.mg++[(PP.mk y.i y.t)]).length t2) rfl aM (rn [24,14,6,23,15,4] ?_);refine dop 16 rfl (zI rfl rfl rfl rfl rfl rfl rfl ?_);refine zF (b:=p.sb) (SC p ({ g with mA:=A79,mc:=t2 }:SG) { s with mg:=(s.mg++[(PP.mk y.i y.t)]) }) aP (Nf ?_);exact eL (A79,t2)
    refine zF (b:=Q2) ((([(PP.mk y.i y.t)]:List PP).map PP.c).flatten) rfl ?_;refine dop 1 rfl (bg rfl rfl rfl rfl rfl fun b67=>?_);refine xL (t:=67) (T:=106) (k:=2) rfl fun A67 M8 hc67=>?_;refine zC (A:=A67) (([]:List PP).map PP.c) rfl ?_;refine dop 6 rfl (zW (A:=A67) (els:=(([]:List PP)).map PP.c) (news:=((s.mg).map PP.c)) rfl rfl (Rdb.ro (A:=g.mA) (els:=(s.mg).map PP.c) bA (yA (c:=PP.c) (fun _=>rfl) _)) (zZ (c:=PP.c) (by intro x;simp[PP.c,Value.oneCell']) _) aR rfl fun A72 cap72=>⟨_,inferInstance,?_⟩);refine zC (A:=A72) ((s.mg).map PP.c) (by first|rfl|exact cA.symm|(simp;done)) ?_;refine zR (A:=A72) (s.mg.length) aM ?_;refine ae 72 (v' := .slice A72 (s.mg.length) cap72) rfl aM ?_;refine dop 13 rfl (zW (A:=A72) (els:=(s.mg).map PP.c) (news:=(([(PP.mk y.i y.t)]:List PP).map PP.c)) rfl rfl (InL.rdb (b:=Q2) rfl (by simp[PP.c]) rfl) (zZ (c:=PP.c) (by intro x;simp[PP.c,Value.oneCell']) _) aR rfl fun A79 t2=>⟨_,inferInstance,?_⟩);refine zC (A:=A79) (((s.mg++[(PP.mk y.i y.t)])).map PP.c) (by first|rfl|exact cA.symm|(simp;done)) ?_;refine zR (A:=A79) (s.mg++[(PP.mk y.i y.t)]).length aM ?_;refine ae 79 (v' := .slice A79 (s.mg++[(PP.mk y.i y.t)]).length t2) rfl aM (rn [24,14,6,23,15,4] ?_);refine dop 16 rfl (zI rfl rfl rfl rfl rfl rfl rfl ?_);refine zF (b:=p.sb) (SC p ({ g with mA:=A79,mc:=t2 }:SG) { s with mg:=(s.mg++[(PP.mk y.i y.t)]) }) aP (Nf ?_);exact eL (A79,t2)
   rintro⟨A79,t2⟩;refine wQ A79 fun hpc _ _=>?_;refine uD (A:=A79) (s.mg++[(PP.mk y.i y.t)]).length ((s.mg++[(PP.mk y.i y.t)]).map PP.c) rfl rfl (rn [7,1,2,4,5,4,5] ?_);refine aa (zN _ rfl (fun w1 a6 a8=>by exact sY p ({ g with mA:=A79,mc:=t2 }:SG) ({ s with mg:=(s.mg++[(PP.mk y.i y.t)]) }:Eg) ((y).k) ((y).i) ((-1)) w1 a8) rfl ?_);refine Rp ?_;exact dG rfl (.cellw rfl rfl) fun w' a5=>⟨({ g with mA:=A79,mc:=t2 }:SG),(by(rw[hD];exact⟨hg.p,hg.f,hg.o,hpc,hg.r⟩)),by rw[hD];rfl,by rw[hD];exact zA w' a5⟩
  have X5:=h2;have k6:(dN s.l y.i y.t s.c)≠0:=bX X5;have hD:(if y.k=5 then dk s y.i y.t else dh s y.i y.a)=(s,⟨(dN s.l y.i y.t s.c),0,0⟩):=(bZ k5).trans (bZ k6);refine rn [21,21,21,21,21,21,21,42,0,20,12,7,8,1,2,51] ?_;refine zV 57 (b:=true) rfl (by simp[k6]) (rn [0,19,1,2,4,5,2] ?_);refine aa (zN _ rfl (fun w1 a6 a8=>by exact xD p g s ((y).k) ((dN s.l y.i y.t s.c)) w1 a8) rfl ?_);refine Rm ?_;exact dG rfl (.cellw rfl rfl) fun w' a5=>⟨g,(by(rw[hD];exact hg)),by rw[hD,rD k6],by rw[hD];exact zA w' a5⟩
 have k5:¬y.k=5:=bX h1;refine rn [12,7,8,1,2,44,2] ?_;refine zS 47 rfl (fun h4=>?_) (fun h4=>?_)
 ·have X5:=h4;have k6:¬(fS s.l y.i y.a)≠0:=fun hc=>hc (bW X5);refine rn [22,2,22,2,22,6,22,4,22,4,22,5,22,53,41,0] ?_;refine zB rfl (fun h5=>?_) (fun h5=>?_)
  ·have P5:=h5;have k7:s.c.qsize.toNat-s.pt.length=0:=by have h9:=bW P5;omega
   have hD:(if y.k=5 then dk s y.i y.t else dh s y.i y.a)=(s,⟨6,0,0⟩):=(bY k5).trans ((bY k6).trans (bZ k7));refine rn [10,3,0,8,1,2,51] ?_;refine zV 57 (b:=true) rfl (rfl) (rn [0,19,1,2,4,5,2] ?_);refine aa (zN _ rfl (fun w1 a6 a8=>by exact xD p g s ((y).k) (6) w1 a8) rfl ?_);refine Rm ?_;exact dG rfl (.cellw rfl rfl) fun w' a5=>⟨g,(by(rw[hD];exact hg)),by rw[hD];rfl,by rw[hD];exact zA w' a5⟩
  have P5:=h5;have k7:¬s.c.qsize.toNat-s.pt.length=0:=by have h9:=bX P5;omega
  have hD:(if y.k=5 then dk s y.i y.t else dh s y.i y.a)=({ s with pt:=(s.pt++[(Rq.mk y.i y.a)]) },⟨0,y.i,-1⟩):=(bY k5).trans ((bY k6).trans (bY k7));refine rn [12,7,8,1,2,51] ?_;refine zV 57 (b:=false) rfl (by simp[Classical.not_not.1 k6]) (rn [0,20,12,7,8,1,4,5,44] ?_);refine zV 65 (b:=false) rfl (cY k5) (rn [0,20] ?_);refine bn [12] an rfl (rn [23,0,2,23,2,2,23,3,6,23,4,4,23,5,5,23,7,45] ?_);refine dj [0,3,4] (fun(x:bU × Nat)=>[]) (fun(x:bU × Nat)=>[Res.blk b3 35 y.c,rcZ b4,Res.blk b5 150 (Rq.c ⟨y.i,y.a⟩),Res.blk p.sb 147 (SC p { g with rA:=x.1,rc:=x.2 } { s with pt:=(s.pt++[(Rq.mk y.i y.a)]) }),Res.blk p.lb 138 (LdC s.c.supc s.dep s.paid s.burn),Res.blk p.xb 141 [dC g.fA (s.q).f.length g.fc,dC g.oA (s.q).v.length g.oc,aI s.c.qsize.toNat],Res.ro g.fA (s.q).f.length 1 ((s.q).f.map aC),Res.ro g.oA (s.q).v.length 1 ((s.q).v.map aC),Res.blk p.mb 144 (R.c (R.of s.m)),Res.row g.vA s.l.length g.vc 52 7 (s.l.map V.c),Res.ro g.pA s.pend.length 1 (s.pend.map aC),Res.ro g.mA s.mg.length 2 (s.mg.map PP.c),Res.row x.1 (s.pt++[(Rq.mk y.i y.a)]).length x.2 150 2 ((s.pt++[(Rq.mk y.i y.a)]).map Rq.c)]) ?_ ?_
  ·refine yJ [1,8] aL aM zG ⟨bu rfl (bg rfl rfl rfl rfl rfl fun b83=>?_),bu rfl (bg rfl rfl rfl rfl rfl fun b90=>?_),trivial⟩
   ·refine xL (t:=83) (T:=150) (k:=2) rfl fun A83 m8 hc83=>?_;refine zC (A:=A83) (([]:List Rq).map Rq.c) rfl ?_;refine yJ [6,8] aL aM zG ⟨bu rfl (zW (A:=A83) (els:=(([]:List Rq)).map Rq.c) (news:=((s.pt).map Rq.c)) rfl rfl (Rdb.ro (A:=g.rA) (els:=(s.pt).map Rq.c) bA (yA (c:=Rq.c) (fun _=>rfl) _)) (zZ (c:=Rq.c) (by intro x;simp[Rq.c,Value.oneCell']) _) aR rfl fun A88 cap88=>⟨_,inferInstance,?_⟩),bu rfl (bg rfl rfl rfl rfl rfl fun b90=>?_),trivial⟩
    ·refine zC (A:=A88) ((s.pt).map Rq.c) (by first|rfl|exact cA.symm|(simp;done)) ?_;refine zR (A:=A88) (s.pt.length) aM ?_;refine ae 88 (v' := .slice A88 (s.pt.length) cap88) rfl aM ?_;refine dop 8 rfl (bg rfl rfl rfl rfl rfl fun b90=>?_);refine zF (b:=b90) ((([(Rq.mk y.i y.a)]:List Rq).map Rq.c).flatten) rfl ?_;refine dop 9 rfl (zW (A:=A88) (els:=(s.pt).map Rq.c) (news:=(([(Rq.mk y.i y.a)]:List Rq).map Rq.c)) rfl rfl (InL.rdb (b:=b90) rfl (by simp[Rq.c]) rfl) (zZ (c:=Rq.c) (by intro x;simp[Rq.c,Value.oneCell']) _) aR rfl fun A91 t1=>⟨_,inferInstance,?_⟩);refine zC (A:=A91) (((s.pt++[(Rq.mk y.i y.a)])).map Rq.c) (by first|rfl|exact cA.symm|(simp;done)) ?_;refine zR (A:=A91) (s.pt++[(Rq.mk y.i y.a)]).length aM ?_;refine ae 91 (v' := .slice A91 (s.pt++[(Rq.mk y.i y.a)]).length t1) rfl aM (rn [24,10,6,23,11,4] ?_);refine dop 12 rfl (zI rfl rfl rfl rfl rfl rfl rfl ?_);refine zF (b:=p.sb) (SC p ({ g with rA:=A91,rc:=t1 }:SG) { s with pt:=(s.pt++[(Rq.mk y.i y.a)]) }) aP (Nf ?_);exact eL (A91,t1)
    refine zF (b:=b90) ((([(Rq.mk y.i y.a)]:List Rq).map Rq.c).flatten) rfl ?_;refine dop 6 rfl (zW (A:=A83) (els:=(([]:List Rq)).map Rq.c) (news:=((s.pt).map Rq.c)) rfl rfl (Rdb.ro (A:=g.rA) (els:=(s.pt).map Rq.c) bA (yA (c:=Rq.c) (fun _=>rfl) _)) (zZ (c:=Rq.c) (by intro x;simp[Rq.c,Value.oneCell']) _) aR rfl fun A88 cap88=>⟨_,inferInstance,?_⟩);refine zC (A:=A88) ((s.pt).map Rq.c) (by first|rfl|exact cA.symm|(simp;done)) ?_;refine zR (A:=A88) (s.pt.length) aM ?_;refine ae 88 (v' := .slice A88 (s.pt.length) cap88) rfl aM ?_;refine dop 9 rfl (zW (A:=A88) (els:=(s.pt).map Rq.c) (news:=(([(Rq.mk y.i y.a)]:List Rq).map Rq.c)) rfl rfl (InL.rdb (b:=b90) rfl (by simp[Rq.c]) rfl) (zZ (c:=Rq.c) (by intro x;simp[Rq.c,Value.oneCell']) _) aR rfl fun A91 t1=>⟨_,inferInstance,?_⟩);refine zC (A:=A91) (((s.pt++[(Rq.mk y.i y.a)])).map Rq.c) (by first|rfl|exact cA.symm|(simp;done)) ?_;refine zR (A:=A91) (s.pt++[(Rq.mk y.i y.a)]).length aM ?_;refine ae 91 (v' := .slice A91 (s.pt++[(Rq.mk y.i y.a)]).length t1) rfl aM (rn [24,10,6,23,11,4] ?_);refine dop 12 rfl (zI rfl rfl rfl rfl rfl rfl rfl ?_);refine zF (b:=p.sb) (SC p ({ g with rA:=A91,rc:=t1 }:SG) { s with pt:=(s.pt++[(Rq.mk y.i y.a)]) }) aP (Nf ?_);exact eL (A91,t1)
   refine zF (b:=b90) ((([(Rq.mk y.i y.a)]:List Rq).map Rq.c).flatten) rfl ?_;refine dop 1 rfl (bg rfl rfl rfl rfl rfl fun b83=>?_);refine xL (t:=83) (T:=150) (k:=2) rfl fun A83 m8 hc83=>?_;refine zC (A:=A83) (([]:List Rq).map Rq.c) rfl ?_;refine dop 6 rfl (zW (A:=A83) (els:=(([]:List Rq)).map Rq.c) (news:=((s.pt).map Rq.c)) rfl rfl (Rdb.ro (A:=g.rA) (els:=(s.pt).map Rq.c) bA (yA (c:=Rq.c) (fun _=>rfl) _)) (zZ (c:=Rq.c) (by intro x;simp[Rq.c,Value.oneCell']) _) aR rfl fun A88 cap88=>⟨_,inferInstance,?_⟩);refine zC (A:=A88) ((s.pt).map Rq.c) (by first|rfl|exact cA.symm|(simp;done)) ?_;refine zR (A:=A88) (s.pt.length) aM ?_;refine ae 88 (v' := .slice A88 (s.pt.length) cap88) rfl aM ?_;refine dop 9 rfl (zW (A:=A88) (els:=(s.pt).map Rq.c) (news:=(([(Rq.mk y.i y.a)]:List Rq).map Rq.c)) rfl rfl (InL.rdb (b:=b90) rfl (by simp[Rq.c]) rfl) (zZ (c:=Rq.c) (by intro x;simp[Rq.c,Value.oneCell']) _) aR rfl fun A91 t1=>⟨_,inferInstance,?_⟩);refine zC (A:=A91) (((s.pt++[(Rq.mk y.i y.a)])).map Rq.c) (by first|rfl|exact cA.symm|(simp;done)) ?_;refine zR (A:=A91) (s.pt++[(Rq.mk y.i y.a)]).length aM ?_;refine ae 91 (v' := .slice A91 (s.pt++[(Rq.mk y.i y.a)]).length t1) rfl aM (rn [24,10,6,23,11,4] ?_);refine dop 12 rfl (zI rfl rfl rfl rfl rfl rfl rfl ?_);refine zF (b:=p.sb) (SC p ({ g with rA:=A91,rc:=t1 }:SG) { s with pt:=(s.pt++[(Rq.mk y.i y.a)]) }) aP (Nf ?_);exact eL (A91,t1)
  rintro⟨A91,t1⟩;refine wQ A91 fun hpc _ _=>?_;refine uD (A:=A91) (s.pt++[(Rq.mk y.i y.a)]).length ((s.pt++[(Rq.mk y.i y.a)]).map Rq.c) rfl rfl (rn [7,1,2,4,5,4,5] ?_);refine aa (zN _ rfl (fun w1 a6 a8=>by exact sY p ({ g with rA:=A91,rc:=t1 }:SG) ({ s with pt:=(s.pt++[(Rq.mk y.i y.a)]) }:Eg) ((y).k) ((y).i) ((-1)) w1 a8) rfl ?_);refine Rp ?_;exact dG rfl (.cellw rfl rfl) fun w' a5=>⟨({ g with rA:=A91,rc:=t1 }:SG),(by(rw[hD];exact⟨hg.p,hg.f,hg.o,hg.m,hpc⟩)),by rw[hD];rfl,by rw[hD];exact zA w' a5⟩
 have X5:=h4;have k6:(fS s.l y.i y.a)≠0:=bX X5;have hD:(if y.k=5 then dk s y.i y.t else dh s y.i y.a)=(s,⟨(fS s.l y.i y.a),0,0⟩):=(bY k5).trans (bZ k6);refine rn [21,21,21,21,21,21,21,42,0,20,12,7,8,1,2,51] ?_;refine zV 57 (b:=true) rfl (by simp[k6]) (rn [0,19,1,2,4,5,2] ?_);refine aa (zN _ rfl (fun w1 a6 a8=>by exact xD p g s ((y).k) ((fS s.l y.i y.a)) w1 a8) rfl ?_);refine Rm ?_;exact dG rfl (.cellw rfl rfl) fun w' a5=>⟨g,(by(rw[hD];exact hg)),by rw[hD,rD k6],by rw[hD];exact zA w' a5⟩
theorem rf {l l' : List V} (h:l.length=l'.length) (hg:∀j,ab l j=ab l' j):l=l' := List.ext_getElem h fun i h1 h2=>by
 have:=hg (i:Int);rwa [yK h1,yK h2] at this
def dM (p:V->Bool) (e:Int) (l:List V) (k:Nat):List V:=(List.range k).foldl (fun l (i:Nat)=>if p (ab l (i:Int))=true then evV l (i:Int) e else l) l
theorem jb (p:V->Bool) (e:Int) (l:List V) (k:Nat):dM p e l (k+1)=if p (ab (dM p e l k) (k:Int))=true then evV (dM p e l k) (k:Int) e else dM p e l k:=by
 unfold dM;rw[List.range_succ,List.foldl_append];rfl
theorem Ez {l:List V} {i e:Int} (he:1<=e/\e<=5) (h:(ab l i).st=e) (j:Int):ab (evV l i e) j=if j=i then { ab l i with st:=e+1 } else ab l j:=by
 have hh:ax l i=true:=yL aK;have hn:nxt (ab l i).st e=e+1:=by unfold nxt;rw[bY aK,bY aK,bZ ⟨he.1,he.2,h⟩,h]
 rw[ir,bZ aK,yZ,hn];simp[hh]
theorem xK {p:V->Bool} {e:Int} (he:1<=e/\e<=5) (hp:∀v,p v=true->v.st=e) (l:List V):∀k,(dM p e l k).length=l.length/\∀j,ab (dM p e l k) j=if(0<=j/\j<k)/\p (ab l j)=true then { ab l j with st:=e+1 } else ab l j
 | 0=>⟨rfl,fun j=>by rw[bY aK];rfl⟩
 | k+1=>by
  obtain⟨h1,h2⟩:=xK he hp l k;have hk:ab (dM p e l k) (k:Int)=ab l (k:Int):=by rw[h2,bY aK]
  rw[jb,hk];by_cases hc:p (ab l (k:Int))=true
  ·rw[bZ hc];refine⟨by rw[ir];split<;>simp[wK,h1],fun j=>?_⟩;rw[Ez he (by rw[hk];exact hp _ hc)];by_cases hj:j=(k:Int)
   ·subst hj;rw[bZ rfl,hk,bZ ⟨aK,hc⟩]
   rw[bY hj,h2];by_cases hx:(0<=j/\j<(k:Int))/\p (ab l j)=true
   ·rw[bZ hx,bZ ⟨aK,hx.2⟩]
   rw[bY hx,bY (fun hy=>hx ⟨aK,hy.2⟩)]
  rw[bY hc];refine⟨h1,fun j=>?_⟩;rw[h2];by_cases hx:(0<=j/\j<(k:Int))/\p (ab l j)=true
  ·rw[bZ hx,bZ ⟨aK,hx.2⟩]
  rw[bY hx,bY];rintro⟨hy,hz⟩;by_cases hj:j=(k:Int)
  ·subst hj;exact hc hz
  exact hx ⟨aK,hz⟩
def pLv (e:Int) (v:V):Bool:=decide (v.st=3/\v.ex=e)
def pRp (e:Int) (v:V):Bool:=decide (v.st=4/\v.wd<=e)
theorem qo {e:Int} {l:List V} {q:LL} {bo:List En} {lv:List Int} (he:1<=e) (h:et (e-1) l q bo lv):lv.foldl (fun l i=>evV l i 3) l=dM (pLv e) 3 l l.length:=by
 obtain⟨s1,s2⟩:=xK (p:=pLv e) (e:=3) aK (fun v hv=>(bW hv).1) l l.length;refine rf (by rw[s1];exact(vX aK _ _).1) fun j=>?_;rw[s2,vS aK];by_cases hj:j∈lv/\(ab l j).st=3
 ·have hh:ax l j=true:=yL aK;have hr:=bW hh;have hx:=h.lex j hj.1;rw[bZ hj,bZ ⟨hr,cX ⟨hj.2,aK⟩⟩]
 rw[bY hj,bY];rintro⟨_,hc⟩;have hc:=bW hc;exact hj ⟨(h.lvs j).2 ⟨hc.1,aK⟩,hc.1⟩
theorem mD {e:Int} {l:List V} {q:LL} {bo:List En} (he:0<=e) (h:Mid e e l q bo) (hw:∀j,(ab l j).wd<=1099511627776):(eQ e (l,bo)).1=dM (pRp e) 4 l l.length:=by
 obtain⟨⟨r1,r2⟩,_⟩:=h.rip he hw;obtain⟨s1,s2⟩:=xK (p:=pRp e) (e:=4) aK (fun v hv=>(bW hv).1) l l.length;refine rf (by rw[s1];exact r1) fun j=>?_;rw[s2,r2];by_cases hj:j∈cv e bo/\(ab l j).wd<=e/\(ab l j).st=4
 ·have hr:=bW (yL (l:=l) (i:=j) aK);rw[bZ hj,bZ ⟨hr,cX ⟨hj.2.2,hj.2.1⟩⟩];rfl
 rw[bY hj,bY];rintro⟨_,hc⟩;have hc:=bW hc;obtain⟨x,hx,rfl⟩:=cG.1 ((h.bon j).2 hc.1);have hb:=h.bep x hx;exact hj ⟨fy.2 ⟨x,hx,aK,rfl⟩,hc.2,hc.1⟩
theorem lQ (c:C):∀(ag:List As) (s:List V × List En × List Int),(ag.foldl (eJ c) s).1=ag.foldl (fun l a=>dT l a.i (eS (ab l a.i) a.e c).1) s.1
 | [],_=>rfl
 | a :: ag,s=>by rw[cR,lQ c ag,cR];rfl
structure Pnd (l:List V) (pend:List Int):Prop where
 nd:pend.Nodup
 st:∀i∈pend,(ab l i).st=1
theorem Pnd.of {l l' : List V} {pend:List Int} (h:Pnd l pend) (hg:∀i,(ab l i).st=1->(ab l' i).st=1):Pnd l' pend:=⟨h.nd,fun i hi=>hg i (h.st i hi)⟩
theorem DQ {s:Eg} (h:Inv s) (hp:Pnd s.l s.pend) (y:Op):Pnd (fF s y).1.l (fF s y).1.pend:=by
 have lv:∀cl,Pnd (bv s cl y.i).1.l (bv s cl y.i).1.pend:=fun cl=>by
  unfold bv
  repeat' split
  all_goals first|exact hp|skip
  rename_i h1 h2 h3 h4;have hh:ax s.l y.i=true:=by simpa using h1
  show Pnd (s.l.set y.i.toNat _) s.pend;rw[xU hh];refine hp.of fun i hi=>?_;rw[yZ];split
  ·rename_i hc;exfalso;rw[hc.2] at hi;apply h2;unfold cy;split
   ·simp
   rw[hi];simp[nxt]
  exact hi
 unfold fF
 repeat' split
 ·unfold dz
  repeat' split
  all_goals first|exact hp|skip
  have hn:∀i∈s.pend,i≠(s.l.length:Int):=fun i hi hc=>by
   have:=hp.st i hi;have:=bW (yL (l:=s.l) (i:=i) aK);omega
  refine⟨List.nodup_append.2 ⟨hp.nd,aM,fun a ha b hb=>?_⟩,fun i hi=>?_⟩
  ·simp only[cH,cE,or_false] at hb;subst hb;exact hn a ha
  show(ab (s.l++[_]) i).st=1;rw[ku];split
  ·rfl
  rename_i hc;rcases cK.1 hi with hi|hi
  ·exact hp.st i hi
  simp only[cH,cE,or_false] at hi;exact absurd hi hc
 ·exact lv 1
 ·exact lv 0
 ·unfold ci;split
  ·exact hp
  rename_i h1;have hh:ax s.l y.i=true:=by simpa using h1
  simp only;split
  ·exact hp
  rename_i h2;split
  ·exact hp
  split
  ·exact hp
  show Pnd (s.l.set y.i.toNat _) s.pend;rw[xU hh];refine hp.of fun i hi=>?_;rw[yZ];split
  ·rename_i hc;exfalso;rw[hc.2] at hi;apply h2;unfold bh;split
   ·exact .inl rfl
   rw[hi];simp[nxt]
  exact hi
 ·unfold dk
  repeat' split
  all_goals exact hp
 ·unfold dh
  repeat' split
  all_goals exact hp
 exact hp
structure BdR (s:Eg) (ch:Int) (l1 l2 l3 l4:List V) (ag:List As) (q:LL) (m:M) (n:Nat):Prop where
 e1:l1=dM (pLv s.ep) 3 s.l s.l.length
 e2:l2=dM (pRp s.ep) 4 l1 l1.length
 ec:ch=ee s.c l2
 es:ce (bx l2) s.ep ch s.q s.m=(ag,q,m)
 e3:l3=ag.foldl (fun l a=>dT l a.i (eS (ab l a.i) a.e s.c).1) l2
 en:n=(dd ch (bx l3) s.pend 0 true).length
 e4:l4=(s.pend.take n).foldl (fun l i=>evV l i 1) l3
 hl:(dO s).1.l=(runM s.c l4 (s.mg.take s.c.merg.toNat)).1
 hq:(dO s).1.q=q
 hm:(dO s).1.m=m
 hp:(dO s).1.pend=s.pend.drop n
 ha:(dO s).2=ag
theorem FL {s:Eg} (he:1<=s.ep) (hE:et (s.ep-1) s.l s.q s.bo s.lv) (hw:∀j,(ab s.l j).wd<=1099511627776):∃ch l1 l2 l3 l4 ag q m n,BdR s ch l1 l2 l3 l4 ag q m n:=by
 have h1:=qo he hE;have d1:=hE.mid;have a6:∀j,(ab (s.lv.foldl (fun l i=>evV l i 3) s.l) j).wd<=1099511627776:=fun j=>by
  rw[vS aK];split<;>exact hw j
 have h2:=mD aK d1 a6;rw[h1] at h2;obtain⟨l1,hl1⟩:∃z,z=dM (pLv s.ep) 3 s.l s.l.length:=⟨_,rfl⟩
 rw[←hl1] at h1 h2;obtain⟨l2,hl2⟩:∃z,z=dM (pRp s.ep) 4 l1 l1.length:=⟨_,rfl⟩
 rw[←hl2] at h2;obtain⟨st,D8⟩:∃z,z=ce (bx l2) s.ep (ee s.c l2) s.q s.m:=⟨_,rfl⟩
 obtain⟨l3,hl3⟩:∃z,z=st.1.foldl (fun l a=>dT l a.i (eS (ab l a.i) a.e s.c).1) l2:=⟨_,rfl⟩
 have h3:(st.1.foldl (eJ s.c) (l2,(eQ s.ep (l1,s.bo)).2,[])).1=l3:=by rw[lQ,hl3]
 have hb:=sa (ee s.c l2) (bx l3) s.pend 0 true;refine⟨ee s.c l2,l1,l2,l3,_,st.1,st.2.1,st.2.2,_,hl1,hl2,rfl,D8.symm,hl3,rfl,rfl,?_,?_,?_,?_,?_⟩
 all_goals
  unfold dO;simp only[h1,h2,←D8,h3]
 rw[←hb]
theorem AU {l0:List V} {e:Int} {is:List Int} {ps:List Y} (hn:is.Nodup) (h:∀i∈is,(ab l0 i).st=5/\(ab l0 i).wd<=e) {k:Nat} (hk:k<is.length) :
  ab ((is.take k).foldl (cx l0 e) (l0,ps)).1 is[k]=ab l0 is[k]:=by
 have hs:(is.take k).Sublist is:=List.take_sublist k is;obtain⟨_,g2,_⟩:=wR (l0:=l0) (e:=e) (is.take k) l0 ps (hs.nodup hn) (fun i hi=>⟨(h i (hs.subset hi)).1,(h i (hs.subset hi)).2,rfl⟩);rw[g2,bY];intro hc;obtain⟨m,hm,he⟩:=List.mem_take_iff_getElem.1 hc;have:=(List.getElem_inj hn).1 he;omega
theorem uH {p:V->Bool} {e:Int} (he:1<=e/\e<=5) (hp:∀v,p v=true->v.st=e) {l:List V} {k:Nat} (hk:k<l.length) :
  dM p e l (k+1)=if p (ab l (k:Int))=true then(dM p e l k).set k { ab (dM p e l k) (k:Int) with st:=nxt (ab (dM p e l k) (k:Int)).st e } else dM p e l k:=by
 obtain⟨h1,h2⟩:=xK he hp l k;have hg:ab (dM p e l k) (k:Int)=ab l (k:Int):=by rw[h2,bY aK]
 rw[jb,hg];split
 ·rename_i h;have hs:=hp _ h;have hh:ax (dM p e l k) (k:Int)=true:=gZ (by rw[h1];exact hk);have hn:nxt (ab l (k:Int)).st e=e+1:=by unfold nxt;rw[bY aK,bY aK,bZ ⟨he.1,he.2,hs⟩,hs]
  unfold evV;rw[hg,bZ ⟨hh,aK⟩];rfl
 rfl
theorem Ey {l:List V} {k:Nat} {e:Int} (he:1<=e/\e<=5) (hk:k<l.length) (hs:(ab l (k:Int)).st=e):evV l (k:Int) e=l.set k { ab l (k:Int) with st:=nxt (ab l (k:Int)).st e }:=by
 have hn:nxt (ab l (k:Int)).st e=e+1:=by unfold nxt;rw[bY aK,bY aK,bZ ⟨he.1,he.2,hs⟩,hs]
 unfold evV;rw[bZ ⟨gZ hk,aK⟩];rfl
def fB (c:C) (l:List V) (a:As):List V:=dT l a.i (eS (ab l a.i) a.e c).1
theorem jK (c:C):∀(ag:List As) (l:List V),(ag.foldl (fB c) l).length=l.length
 | [],_=>rfl
 | a :: ag,l=>by rw[cR,jK c ag];exact wK _ _ _
theorem gX {l:List V}:okV l↔∀j,0<=(ab l j).bal/\(ab l j).bal<=18446744073709551615:=by
 constructor
 ·intro h j;rcases Bool.eq_false_or_eq_true (ax l j) with hj|hj
  ·exact h _ (vV hj)
  rw[wW hj];simp[V.z]
 intro h x hx;obtain⟨j,_,rfl⟩:=wJ hx;exact h j
theorem mW {l l' : List V} (h:okV l) (hb:bx l' = bx l):okV l' := fun x hx=>by
 have:x.bal∈bx l:=by rw[←hb];exact cG.2 ⟨x,hx,rfl⟩
 obtain⟨y,hy,hyx⟩:=cG.1 this;rw[←hyx];exact h y hy
structure BdF (s:Eg) (ch:Int) (l1 l2 l3 l4:List V) (ag:List As) (q:LL) (m:M) (n:Nat):Prop where
 r:BdR s ch l1 l2 l3 l4 ag q m n
 n1:l1.length=s.l.length
 n2:l2.length=s.l.length
 n3:l3.length=s.l.length
 n4:l4.length=s.l.length
 s0:∀j,-1000<=(ab s.l j).st/\(ab s.l j).st<=1000
 s1:∀j,-1000<=(ab l1 j).st/\(ab l1 j).st<=1000
 s3:∀j,-1000<=(ab l3 j).st/\(ab l3 j).st<=1000
 o2:okV l2
 o3:okV l3
 o4:okV l4
 ac:0<=dZ l2/\dZ l2<=18446744073709551615
 ai:∀a∈ag,ax l2 a.i=true/\I64 a.e
 al:ag.length<=8192
 p3:Pnd l3 s.pend
 nn:n<=s.pend.length
 q1:q.f.length<=s.q.f.length/\q.v.length<=s.q.v.length
 v4:∀i,ax l4 i=true->VO (ab l4 i)
theorem Ay {t:Eg} (h:Inv t) (hp:Pnd t.l t.pend) (hb:t.blk<1000000000) (hc:(t.blk+1)%t.c.elen.toNat=0):∃ch l1 l2 l3 l4 ag q m n,BdF { t with blk:=t.blk+1 } ch l1 l2 l3 l4 ag q m n:=by
 obtain⟨s,hs⟩:∃s,s=({ t with blk:=t.blk+1 }:Eg):=⟨_,rfl⟩
 have J9:=gR (s:=t) h.cok.elen.1;rw[bZ hc,←hs] at J9;rw[←hs];have he0:=h.epb;have f1:s.l=t.l:=by rw[hs]
 have f2:s.q=t.q:=by rw[hs]
 have f3:s.pend=t.pend:=by rw[hs]
 have f4:s.c=t.c:=by rw[hs]
 have hE:et (s.ep-1) s.l s.q s.bo s.lv:=by
  have h1:=h.e.ep_eq (show t.ep=s.ep-1 by omega);rw[hs] at h1 ⊢;exact h1
 have s7:∀i,ax s.l i=true->VO (ab s.l i):=by rw[f1];exact h.vo
 have hw:=VO.z_wd s.l s7;have D8:∀j,-1000<=(ab s.l j).st/\(ab s.l j).st<=1000:=fun j=>by
  rcases Bool.eq_false_or_eq_true (ax s.l j) with hj|hj
  ·have:=(s7 j hj).s;omega
  rw[wW hj];simp[V.z]
 have ok0:okV s.l:=by rw[f1];exact tR h
 have hk:=h.cok;obtain⟨ch,l1,l2,l3,l4,ag,q,m,n,r⟩:=FL (show 1<=s.ep by omega) hE hw;obtain⟨a1,a2⟩:=xK (p:=pLv s.ep) (e:=3) aK (fun v hv=>(bW hv).1) s.l s.l.length;rw[←r.e1] at a1 a2;obtain⟨b1,b2⟩:=xK (p:=pRp s.ep) (e:=4) aK (fun v hv=>(bW hv).1) l1 l1.length;rw[←r.e2] at b1 b2;have hst1:∀j,-1000<=(ab l1 j).st/\(ab l1 j).st<=1000:=fun j=>by
  rw[a2];split
  ·simp
  exact D8 j
 have hst2:∀j,-1000<=(ab l2 j).st/\(ab l2 j).st<=1000:=fun j=>by
  rw[b2];split
  ·simp
  exact hst1 j
 have ok1:okV l1:=gX.2 fun j=>by
  have:=gX.1 ok0 j;rw[a2];split<;>exact this
 have ok2:okV l2:=gX.2 fun j=>by
  have:=gX.1 ok1 j;rw[b2];split<;>exact this
 -- the assignments
 have d1:=hE.mid;have e1:s.lv.foldl (fun l i=>evV l i 3) s.l=l1:=by rw[r.e1];exact qo aK hE
 rw[e1] at d1;have a6:∀j,(ab l1 j).wd<=1099511627776:=fun j=>by rw[a2];split<;>exact hw j
 have u2:∀j,(ab l2 j).wd<=1099511627776:=fun j=>by rw[b2];split<;>exact a6 j
 obtain⟨_,d2⟩:=d1.rip aK a6;have e2:(eQ s.ep (l1,s.bo)).1=l2:=by rw[r.e2];exact mD aK d1 a6
 rw[e2] at d2;obtain⟨fa,_⟩:=d2.asg (e:=s.ep) aK (c:=s.c) (by rw[f4];exact hk.unb.1) (by rw[f4];have:=hk.unb;omega) u2 (bx l2) ch s.m;have hsh:=wY (bx l2) s.ep ch s.q s.m;have O3:=qQ (W:=bx l2) (e:=s.ep) (lim:=ch) (m:=s.m) (sz:=t.c.qsize.toNat) (q:=s.q) (by rw[f2];exact h.qf);rw[lQ,r.es] at fa;rw[r.es] at hsh
 change Asg s.ep s.c l2 (ag.foldl (fun l a=>dT l a.i (eS (ab l a.i) a.e s.c).1) l2) ag at fa
 rw[←r.e3] at fa;obtain⟨a,b,g1,g2,g3,_,g5⟩:=hsh;have ok3:okV l3:=mW ok2 fa.bal;have hae:∀x∈ag,x.e=s.ep+1:=fun x hx=>by
  have g1:ag=_:=g1;rw[g1] at hx;rcases cK.1 hx with hx|hx<;>(obtain⟨i,_,rfl⟩:=cG.1 hx;rfl)
 have hag:ag.length=(s.q.f.take a).length+(s.q.v.take b).length:=by
  have g1:ag=_:=g1;rw[g1];simp
 have y8:=h.qf;have F9:=(yM h.cc).qsize;have p0:Pnd s.l s.pend:=by rw[f1,f3];exact hp
 have p1:Pnd l1 s.pend:=p0.of fun i hi=>by rw[a2,bY];exact hi;intro hc;have:=(bW hc.2).1;omega
 have p2:Pnd l2 s.pend:=p1.of fun i hi=>by rw[b2,bY];exact hi;intro hc;have:=(bW hc.2).1;omega
 have p3:Pnd l3 s.pend:=p2.of fun i hi=>by rw[fa.got,bY];exact hi;intro hc;have:=(fa.as3 i hc).1;omega
 have n3:l3.length=s.l.length:=by rw[fa.len,b1,a1]
 have n4:l4.length=s.l.length:=by rw[r.e4,(vX aK _ _).1,n3]
 have sm:(bx l2).sum<=18446744073709551615:=by
  have e3:bx l2=bx t.l:=by
   have:=qK s.ep (cv s.ep s.bo) (l1,cu s.ep s.bo);have e4:bx (eQ s.ep (l1,s.bo)).1=bx l1:=this;rw[e2] at e4;rw[e4,←e1,xR,f1]
  rw[e3,h.sum];obtain⟨x1,x2,x3,x4,x5,x6⟩:=h.led;omega
 have hac:=qN (l:=l2) fun v hv=>(ok2 v hv).1;have v1:∀i,ax l1 i=true->VO (ab l1 i):=fun i hi=>by
  rw[xJ a1] at hi;have:=s7 i hi;rw[a2];split
  ·exact⟨this.b,aM,this.r,this.x,this.w,this.d⟩
  exact this
 have v2:∀i,ax l2 i=true->VO (ab l2 i):=fun i hi=>by
  rw[xJ b1] at hi;have:=v1 i hi;rw[b2];split
  ·exact⟨this.b,aM,this.r,this.x,this.w,this.d⟩
  exact this
 have v3:∀i,ax l3 i=true->VO (ab l3 i):=fun i hi=>by
  rw[xJ fa.len] at hi;have h1:=v2 i hi;have hu:=hk.unb;have hw:=h1.w;rw[fa.got];split
  ·exact⟨h1.b,h1.s,h1.r,by simp only[asV];omega,by simp only[asV];rw[f4];omega,h1.d⟩
  exact h1
 have v4:∀i,ax l4 i=true->VO (ab l4 i):=by rw[r.e4];exact lV (e:=1) aK _ v3
 refine⟨ch,l1,l2,l3,l4,ag,q,m,n,r,a1,b1.trans a1,n3,n4,D8,hst1,fun j=>?_,ok2,ok3,?_,⟨hac.1,aK⟩,fun x hx=>⟨yL ?_,?_⟩,?_,p3,?_,?_,v4⟩
 ·rw[fa.got];split
  ·exact hst2 j
  exact hst2 j
 ·exact mW ok3 (by rw[r.e4];exact xR 1 _ _)
 ·have:=(fa.as3 x.i (cG.2 ⟨x,hx,rfl⟩)).1;omega
 ·rw[hae x hx];unfold I64;omega
 ·rw[hag];rw[f2];simp only[List.length_take];omega
 ·rw[r.en];exact sT _ _ _ _ _
 have g5:q=⟨s.q.f.drop a,s.q.v.drop b⟩:=g5;rw[g5];simp
theorem DR {l3:List V} {pend:List Int} (h:Pnd l3 pend) {k:Nat} (hk:k<pend.length):ab ((pend.take k).foldl (fun l i=>evV l i 1) l3) pend[k]=ab l3 pend[k]/\(ab l3 pend[k]).st=1/\((pend.take k).foldl (fun l i=>evV l i 1) l3).length=l3.length:=by
 refine⟨?_,h.st _ (cC hk),(vX aK _ _).1⟩;rw[vS aK,bY];rintro⟨hc,_⟩;obtain⟨m,hm,he⟩:=List.mem_take_iff_getElem.1 hc;have:=(List.getElem_inj h.nd).1 he;omega
theorem wM {α β:Type} (f:β->α->β) (b:β) {l:List α} {k:Nat} (hk:k<l.length):(l.take (k+1)).foldl f b=f ((l.take k).foldl f b) l[k]:=by rw[←cB hk,List.foldl_append];rfl
theorem CP {t:Eg} (h:Inv t) (hp:Pnd t.l t.pend) (hb:t.blk<1000000000):Pnd (fC t).1.l (fC t).1.pend:=by
 by_cases hc:(t.blk+1)%t.c.elen.toNat=0
 ·have hm:fC t=dO { t with blk:=t.blk+1 }:=bZ hc;obtain⟨ch,l1,l2,l3,l4,ag,q,m,n,F⟩:=Ay h hp hb hc;rw[hm,F.r.hl,F.r.hp];have k2:=(K2.runM (c:=({ t with blk:=t.blk+1 }:Eg).c) (({ t with blk:=t.blk+1 }:Eg).mg.take ({ t with blk:=t.blk+1 }:Eg).c.merg.toNat) F.v4).1;refine⟨(List.drop_sublist _ _).nodup F.p3.nd,fun i hi=>?_⟩;have h3:(ab l3 i).st=1:=F.p3.st i (cL hi);have h4:ab l4 i=ab l3 i:=by
   rw[F.r.e4,vS aK,bY];rintro⟨hc2,_⟩;have hn:=F.p3.nd;rw[←List.take_append_drop n ({ t with blk:=t.blk+1 }:Eg).pend] at hn;exact(List.nodup_append.1 hn).2.2 i hc2 i hi rfl
  rw[k2.ne (by rw[h4];omega),h4];exact h3
 have hm:fC t=({ t with blk:=t.blk+1 },[]):=bY hc;rw[hm];exact hp
theorem yt {z:Eg} (h:Inv z) (hp:Pnd z.l z.pend):Pnd (dV z).1.l (dV z).1.pend:=by
 obtain⟨⟨P⟩,_⟩:=qY h;show Pnd (dV z).1.l z.pend;refine hp.of fun i hi=>?_;have e1:ab P.l1 i=ab z.l i:=P.f1.ne aK;rw[P.got,bY,e1]
 ·exact hi
 intro hc;have:=P.i5 i hc;rw[e1] at this;omega
theorem uq {s:Eg} (h:Inv s) (hb:s.blk<1000000000) (hp:Pnd s.l s.pend) (y:Op):Pnd (ao s y).1.l (ao s y).1.pend:=by
 unfold ao;split
 ·rw[wH];exact yt (uX h hb).1 (CP h hp hb)
 exact DQ h hp y
def fN (l:List V):List Bool:=l.map fun v=>decide (v.st=5)
theorem LOk.led {cap d u:Int}:∀(l:List Y) {p:Int},LOk cap d p u->(∀y∈l,0<=y.a)->LOk cap d (l.foldl (fD d u) p) u
 | [],_,h,_=>h
 | y :: l,p,h,hy=>by
  rw[cR];refine LOk.led l ?_ fun x hx=>hy x (by simp[hx]);have h0:=hy y aM;obtain⟨h1,h2,h3,h4,h5,h6⟩:=h;unfold fD dW;by_cases hc:d-p-u<y.a
  ·rw[bZ hc,bY aO];exact⟨h1,h2,h3,h4,h5,h6⟩
  rw[bY hc,bZ rfl];exact⟨aK,h2,aK,h4,aK,h6⟩
theorem vp {l:List Y} (h:∀y∈l,0<=y.a):∀y∈l,y.a<=eG l:=by
 induction l with
 | nil=>intro y hy;cases hy
 | cons x l ih =>
  have hs:0<=eG l:=xH fun z hz=>by obtain⟨w,hw,rfl⟩:=cG.1 hz;exact h w (by simp[hw])
  have h0:=h x aM;have e:eG (x :: l)=x.a+eG l:=by simp[eG]
  intro y hy;rcases cH.1 hy with rfl|hy
  ·omega
  have:=ih (fun z hz=>h z (by simp[hz])) y hy;omega
structure PyF (z:Eg) (n:Nat) (la:List V) (ps:List Y) (w:Nat × List Int × Nat) (vq pq:Nat) (F:List V × List Y):Prop where
 en:n=min z.pt.length z.c.parts.toNat
 ela:la=(run z.c z.l (z.pt.take n)).1
 eps:ps=pos (run z.c z.l (z.pt.take n)).2
 eV:z.c.vis-(n:Int)=(vq:Int)
 eP:z.c.pays-(ps.length:Int)=(pq:Int)
 bV:1<=vq/\vq<=4096
 bP:1<=pq/\pq<=4096
 ew:w=dJ z.cur (fN la) vq pq
 len:la.length=z.l.length
 idx:∀i∈w.2.1,ax la i=true/\(ab la i).st=5/\(ab la i).wd<=z.ep
 nd:w.2.1.Nodup
 wl:w.2.1.length<=la.length
 wv:w.2.2<=4096
 psl:ps.length<=4096
 psa:∀y∈ps,0<=y.a/\y.a<=18446744073709551615
 ok:okV la
 eF:F=w.2.1.foldl (cx la z.ep) (la,ps)
 fin:(dV z).1={ z with l:=F.1,paid:=F.2.foldl (fD z.dep z.burn) z.paid,cur:=w.1,pt:=z.pt.drop n }
 fip:(dV z).2=(F.2,n+w.2.2)
theorem EN {z:Eg} (h:Inv z):∃n la ps w vq pq F,PyF z n la ps w vq pq F:=by
 have hk:=h.cok;have hpp:=hk.parts;have hq:=(yM h.cc).qsize;obtain⟨x1,x2,x3,x4,x5,x6⟩:=h.led;have t6:=h.sum;have hpt:=h.pt;have j5:=h.cap;have q7:=hk.capa;obtain⟨n,en⟩:∃n,n=min z.pt.length z.c.parts.toNat:=⟨_,rfl⟩
 have etk:z.pt.take z.c.parts.toNat=z.pt.take n:=by
  rw[en];rcases Nat.le_total z.pt.length z.c.parts.toNat with h1|h1
  ·rw[Nat.min_eq_left h1,cI,cP h1]
  rw[Nat.min_eq_right h1]
 have etl:(z.pt.take n).length=n:=by rw[List.length_take];omega
 obtain⟨f1,s1,p1⟩:=K2.run (c:=z.c) h.ck.minb.1 (z.pt.take n) (fun r hr=>h.pm r (cD hr)) h.vo aK;obtain⟨r,hr⟩:∃r,r=run z.c z.l (z.pt.take n):=⟨_,rfl⟩
 rw[←hr] at f1 s1 p1;have Z8:(pos r.2).length<=n:=by
  have:=nl z.c z.l (z.pt.take n);rw[←hr,etl] at this;exact Nat.le_trans (List.length_filter_le _ _) this
 have hps:∀y∈pos r.2,y∈r.2:=fun y hy=>(List.mem_filter.1 hy).1;have v1:=f1.vo h.vo;have hnn:∀y∈r.2,0<=y.a:=fun y hy=>(p1 y hy).1;have hbn:0<=(bx r.1).sum:=xH fun x hx=>by
  obtain⟨v,hv,rfl⟩:=cG.1 hx;obtain⟨j,hj,rfl⟩:=wJ hv;exact(v1 j hj).b
 have hsn:0<=eG r.2:=xH fun x hx=>by obtain⟨y,hy,rfl⟩:=cG.1 hx;exact hnn y hy
 have i6:okV r.1:=fun x hx=>by
  obtain⟨j,hj,rfl⟩:=wJ hx;have h2:=gQ [j] r.1 aM (fun i=>by
   rcases Bool.eq_false_or_eq_true (ax r.1 i) with hi|hi
   ·exact(v1 i hi).b
   rw[wW hi];exact Int.le_refl _)
  have h3:gk r.1 [j]=(ab r.1 j).bal:=by simp[gk]
  have:=(v1 j hj).b;omega
 obtain⟨vq,hV⟩:∃vq:Nat,z.c.vis-(n:Int)=vq:=⟨(z.c.vis-(n:Int)).toNat,aK⟩
 obtain⟨pq,hP⟩:∃pq:Nat,z.c.pays-((pos r.2).length:Int)=pq:=⟨(z.c.pays-((pos r.2).length:Int)).toNat,aK⟩
 have hvs:=hk.vis;have hpy:=hk.pays;obtain⟨w,hw⟩:∃w,w=dJ z.cur (fN r.1) (vq:Int) (pq:Int):=⟨_,rfl⟩
 obtain⟨w1,w2⟩:=rR z.cur (fN r.1) (vq:Int) (pq:Int);rw[←hw] at w1 w2;have hEa:=h.e.sm f1.sm;have hidx:∀i∈w.2.1,ax r.1 i=true/\(ab r.1 i).st=5/\(ab r.1 i).wd<=z.ep:=fun i hi=>by
  obtain⟨j,rfl,hj⟩:=w1 i hi;have h5:=gU hj;exact⟨yL aK,h5,hEa.rdy _ h5⟩
 have hwl:w.2.1.length<=r.1.length:=wP w2 fun i hi=>(hidx i hi).1;have hrl:=f1.len;have hwv:w.2.2<=4096:=by
  rw[hw];unfold dJ;split
  ·exact cN _
  have h2:=gx (rd:=fN r.1) (n:=(fN r.1).length) (pays:=((pq:Nat):Int).toNat) (min ((vq:Nat):Int) ((fN r.1).length:Int)).toNat z.cur [] 0;have h3:(fN r.1).length=r.1.length:=cU _;omega
 refine⟨n,r.1,pos r.2,w,vq,pq,_,en,congrArg Prod.fst hr,congrArg (fun q=>pos q.2) hr,hV,hP,⟨aK,aK⟩,⟨aK,aK⟩,hw,f1.len,hidx,w2,hwl,hwv,aK,fun y hy=>⟨hnn y (hps y hy),?_⟩,i6,rfl,?_,?_⟩
 ·have:=vp hnn y (hps y hy);omega
 ·unfold dV;simp only[etk,etl,←hr];rw[hV,hP];have a5 : dJ z.cur (r.1.map fun v=>decide (v.st=5)) (vq:Int) (pq:Int)=w:=hw.symm;rw[a5]
 unfold dV;simp only[etk,etl,←hr];rw[hV,hP];have a5 : dJ z.cur (r.1.map fun v=>decide (v.st=5)) (vq:Int) (pq:Int)=w:=hw.symm;rw[a5]
theorem CE {z:Eg} {n:Nat} {la:List V} {ps:List Y} {w:Nat × List Int × Nat} {vq pq:Nat} {F:List V × List Y} (h:PyF z n la ps w vq pq F) {k:Nat} (hk:k<w.2.1.length) :
  ((w.2.1.take k).foldl (cx la z.ep) (la,ps)).1.length=z.l.length/\((w.2.1.take k).foldl (cx la z.ep) (la,ps)).2.length=ps.length+k /\
  ab ((w.2.1.take k).foldl (cx la z.ep) (la,ps)).1 w.2.1[k]=ab la w.2.1[k] /\
  (w.2.1.take (k+1)).foldl (cx la z.ep) (la,ps)=(dT ((w.2.1.take k).foldl (cx la z.ep) (la,ps)).1 w.2.1[k] (db (ab la w.2.1[k]) z.ep).1,((w.2.1.take k).foldl (cx la z.ep) (la,ps)).2++[⟨w.2.1[k],(db (ab la w.2.1[k]) z.ep).2.1,true⟩]):=by
 have hs:(w.2.1.take k).Sublist w.2.1:=List.take_sublist k _;obtain⟨g1,_⟩:=wR (l0:=la) (e:=z.ep) (w.2.1.take k) la ps (hs.nodup h.nd) (fun i hi=>⟨(h.idx i (hs.subset hi)).2.1,(h.idx i (hs.subset hi)).2.2,rfl⟩);refine⟨by rw[g1,h.len],?_,AU h.nd (fun i hi=>(h.idx i hi).2) hk,?_⟩
 ·rw[io,List.length_take,Nat.min_eq_left aK]
 rw[wM _ _ hk];rfl
theorem CG {z:Eg} {n:Nat} {la:List V} {ps:List Y} {w:Nat × List Int × Nat} {vq pq:Nat} {F:List V × List Y} (h:PyF z n la ps w vq pq F) :
  F.1.length=z.l.length/\F.2.length=ps.length+w.2.1.length/\∀y∈F.2,0<=y.a/\y.a<=18446744073709551615:=by
 obtain⟨g1,g2,g3,_⟩:=wR (l0:=la) (e:=z.ep) w.2.1 la ps h.nd (fun i hi=>⟨(h.idx i hi).2.1,(h.idx i hi).2.2,rfl⟩);rw[←h.eF] at g1 g3;refine⟨by rw[g1,h.len],by rw[g3];simp,fun y hy=>?_⟩;rw[g3] at hy;rcases cK.1 hy with hy|hy
 ·exact h.psa y hy
 obtain⟨i,hi,rfl⟩:=cG.1 hy;exact h.ok _ (vV (h.idx i hi).1)
end Go.Proofs.YtdddiilocbbkkaaGreat
