/- TopModel, part 18. No condition. -/
import Derived.Test.YtdddiilocbbkkaaGreatTN16
set_option linter.unusedVariables false
set_option linter.unusedSimpArgs false
namespace Go.Proofs.YtdddiilocbbkkaaGreat
open Go.RowKit Go.Eg
set_option maxHeartbeats 4000000
set_option synthInstance.maxSize 3000
set_option maxRecDepth 100000
theorem me (p:SP) (g:SG) (s:Eg) (y:Op) (w:World) (hw:WOK (fps (RSL p g s)) w (RSL p g s) w) (hi:Inv s) (hg:g.Ok s) (hy:y.ok):au (ι:=SG) Tryz.prog 130 [aG p.sb,.agg (Op.c y).toArray] w (RSL p g s) (fun x=>x.Ok (if y.k=5 then dk s y.i y.t else dh s y.i y.a).1) (fun x=>.agg (RX.c (rcX s y (if y.k=5 then dk s y.i y.t else dh s y.i y.a).2)).toArray) (fun x=>[]) (fun x=>RSL p x (if y.k=5 then dk s y.i y.t else dh s y.i y.a).1):=by
 refine Γ Tryz.func130 100 hw ?_;have o6:=yM hi.cc;have F9:=o6.qsize;have i6:=hi.cok;have q7:=i6.capa;have B8:=hi.cap;have X8:s.l.length≤4096:=by omega
 have y8:=hi.qf;have X6:=hi.pe;have F2:=hi.mg;have F1:=hi.pt;have u6:=hi.blk;refine Ri ?_;refine aa (aq rfl rfl rfl fun b3=>?_);refine aa (zK rfl fun b4=>rn [0,1,4,5,4,5] ?_);refine s_q (yF (c:=Rq.c (Rq.mk y.i y.a)) rfl aL) rfl ?_;refine aa (zK rfl fun b5=>rn [33] ?_);refine zF (b:=b5) (Rq.c ⟨y.i,y.a⟩) aP (Sw ?_);refine bn [] an rfl (rn [23,0,2,23,1,6,23,2,4,23,3,5,23,4,45] ?_);refine dop 5 rfl (zH rfl (fun w1 a6=>kZ g.vA s.l.length g.vc s.l ⟨y.i,y.a⟩ w1 (Rdb.toOld (ird (A:=g.vA)) a6) aK) rfl (rn [23,6,3,27,7,1,2,6,4,5,47,3,0,8,1,4,5,44,0] ?_));refine zB rfl (fun h1=>?_) (fun h1=>?_)
 ·have k5:y.k=5:=bW h1;refine rn [8] ?_;refine bn [] an rfl (rn [23,0,2,23,1,6,23,2,4,23,3,5,23,4,4,23,5,5,23,6,4,23,7,5,23,8,2,23,9,6,23,10,4] ?_);refine dq 11 rfl (yP (c' := C.c s.c) rfl rfl rfl) ?_;refine dop 12 rfl (zH rfl (fun w1 a6=>lz g.vA (s.l.length) (g.vc) (s.l) (_) (_) _ w1 (Rdb.toOld (ird (A:=g.vA)) a6) (tR hi) aZ) rfl (rn [23,13,3,27,7,10,2,6,4,5,47,3,0,8,1,2,44,2] ?_));refine zS 47 rfl (fun h2=>?_) (fun h2=>?_)
  ·have X5:=h2;have k6:¬(dN s.l y.i y.t s.c)≠0:=fun hc=>hc (bW X5);refine rn [22,2,22,2,22,6,22,4,22,4,22,5,22,53,41,0] ?_;refine zB rfl (fun h3=>?_) (fun h3=>?_)
   ·have P5:=h3;have k7:s.c.qsize.toNat-s.mg.length=0:=by have h9:=bW P5;omega
    have hD:(if y.k=5 then dk s y.i y.t else dh s y.i y.a)=(s,⟨6,0,0⟩):=(bZ k5).trans ((bY k6).trans (bZ k7));refine rn [10,3,0,8,1,2,51] ?_;refine zV 57 (b:=true) rfl (rfl) (rn [0,19,1,2,4,5,2] ?_);refine aa (zN _ rfl (fun w1 a6 a8=>by exact xD p g s ((y).k) (6) w1 a8) rfl ?_);refine Rm ?_;exact dG rfl (.cellw rfl rfl) fun w' a5=>⟨g,(by(rw[hD];exact hg)),by rw[hD];rfl,by rw[hD];exact zA w' a5⟩
   have P5:=h3;have k7:¬s.c.qsize.toNat-s.mg.length=0:=by have h9:=bX P5;omega
   have hD:(if y.k=5 then dk s y.i y.t else dh s y.i y.a)=({ s with mg:=(s.mg++[(PP.mk y.i y.t)]) },⟨0,y.i,-1⟩):=(bZ k5).trans ((bY k6).trans (bY k7));refine rn [12,7,8,1,2,51] ?_;refine zV 57 (b:=false) rfl (by simp[Classical.not_not.1 k6]) (rn [0,20,12,7,8,1,4,5,44] ?_);refine zV 65 (b:=true) rfl (cX k5) (rn [0,19] ?_);refine bn [16] an rfl (rn [23,0,2,23,2,2,23,3,6,23,4,4,23,5,5,23,7,4,23,8,5,23,9,4,23,10,5] ?_);refine dq 11 rfl (yF (c:=PP.c (PP.mk y.i y.t)) rfl aL) ?_;refine dj [0,3,4] (fun(x:bU × Nat)=>[]) (fun(x:bU × Nat)=>[Res.blk b3 35 y.c,rcZ b4,Res.blk b5 150 (Rq.c ⟨y.i,y.a⟩),Res.blk p.sb 147 (SC p { g with mA:=x.1,mc:=x.2 } { s with mg:=(s.mg++[(PP.mk y.i y.t)]) }),Res.blk p.lb 138 (LdC s.c.supc s.dep s.paid s.burn),Res.blk p.xb 141 [dC g.fA (s.q).f.length g.fc,dC g.oA (s.q).v.length g.oc,aI s.c.qsize.toNat],Res.ro g.fA (s.q).f.length 1 ((s.q).f.map aC),Res.ro g.oA (s.q).v.length 1 ((s.q).v.map aC),Res.blk p.mb 144 (R.c (R.of s.m)),Res.row g.vA s.l.length g.vc 52 7 (s.l.map V.c),Res.ro g.pA s.pend.length 1 (s.pend.map aC),Res.row x.1 (s.mg++[(PP.mk y.i y.t)]).length x.2 106 2 ((s.mg++[(PP.mk y.i y.t)]).map PP.c),Res.ro g.rA s.pt.length 2 (s.pt.map Rq.c)]) ?_ ?_
   ·refine yJ [1,12] aL aM zG ⟨bu rfl (bg rfl rfl rfl rfl rfl fun b67=>?_),bu rfl (bg rfl rfl rfl rfl rfl fun Q2=>?_),trivial⟩
    ·refine xL (t:=67) (T:=106) (k:=2) rfl fun A67 M8 hc67=>?_;refine zC (A:=A67) (([]:List PP).map PP.c) rfl ?_;refine yJ [6,12] aL aM zG ⟨bu rfl (zW (A:=A67) (els:=(([]:List PP)).map PP.c) (news:=((s.mg).map PP.c)) rfl rfl (Rdb.ro (A:=g.mA) (els:=(s.mg).map PP.c) bA (yA (c:=PP.c) (fun _=>rfl) _)) (zZ (c:=PP.c) (by intro x;simp[PP.c,Value.oneCell']) _) aR rfl fun A72 cap72=>⟨_,inferInstance,?_⟩),bu rfl (bg rfl rfl rfl rfl rfl fun Q2=>?_),trivial⟩
     ·refine zC (A:=A72) ((s.mg).map PP.c) (by first|rfl|exact cA.symm|(simp;done)) ?_;refine zR (A:=A72) (s.mg.length) aM ?_;refine ae 72 (v' := .slice A72 (s.mg.length) cap72) rfl aM ?_;refine dop 12 rfl (bg rfl rfl rfl rfl rfl fun Q2=>?_);refine zF (b:=Q2) ((([(PP.mk y.i y.t)]:List PP).map PP.c).flatten) rfl ?_;refine dop 13 rfl (zW (A:=A72) (els:=(s.mg).map PP.c) (news:=(([(PP.mk y.i y.t)]:List PP).map PP.c)) rfl rfl (InL.rdb (b:=Q2) rfl (by simp[PP.c]) rfl) (zZ (c:=PP.c) (by intro x;simp[PP.c,Value.oneCell']) _) aR rfl fun A79 t2=>⟨_,inferInstance,?_⟩);refine zC (A:=A79) (((s.mg++[(PP.mk y.i y.t)])).map PP.c) (by first|rfl|exact cA.symm|(simp;done)) ?_;refine zR (A:=A79) (s.mg++[(PP.mk y.i y.t)]).length aM ?_;refine ae 79 (v' := .slice A79 (s.mg++[(PP.mk y.i y.t)]).length t2) rfl aM (rn [24,14,6,23,15,4] ?_);refine dop 16 rfl (zI rfl rfl rfl rfl rfl rfl rfl ?_);refine zF (b:=p.sb) (SC p ({ g with mA:=A79,mc:=t2 }:SG) { s with mg:=(s.mg++[(PP.mk y.i y.t)]) }) aP (Nf ?_);exact eL (A79,t2)
     refine zF (b:=Q2) ((([(PP.mk y.i y.t)]:List PP).map PP.c).flatten) rfl ?_;refine dop 6 rfl (zW (A:=A67) (els:=(([]:List PP)).map PP.c) (news:=((s.mg).map PP.c)) rfl rfl (Rdb.ro (A:=g.mA) (els:=(s.mg).map PP.c) bA (yA (c:=PP.c) (fun _=>rfl) _)) (zZ (c:=PP.c) (by intro x;simp[PP.c,Value.oneCell']) _) aR rfl fun A72 cap72=>⟨_,inferInstance,?_⟩);refine zC (A:=A72) ((s.mg).map PP.c) (by first|rfl|exact cA.symm|(simp;done)) ?_;refine zR (A:=A72) (s.mg.length) aM ?_;refine ae 72 (v' := .slice A72 (s.mg.length) cap72) rfl aM ?_;refine dop 13 rfl (zW (A:=A72) (els:=(s.mg).map PP.c) (news:=(([(PP.mk y.i y.t)]:List PP).map PP.c)) rfl rfl (InL.rdb (b:=Q2) rfl (by simp[PP.c]) rfl) (zZ (c:=PP.c) (by intro x;simp[PP.c,Value.oneCell']) _) aR rfl fun A79 t2=>⟨_,inferInstance,?_⟩);refine zC (A:=A79) (((s.mg++[(PP.mk y.i y.t)])).map PP.c) (by first|rfl|exact cA.symm|(simp;done)) ?_;refine zR (A:=A79) (s.mg++[(PP.mk y.i y.t)]).length aM ?_;refine ae 79 (v' := .slice A79 (s.mg++[(PP.mk y.i y.t)]).length t2) rfl aM (rn [24,14,6,23,15,4] ?_);refine dop 16 rfl (zI rfl rfl rfl rfl rfl rfl rfl ?_);refine zF (b:=p.sb) (SC p ({ g with mA:=A79,mc:=t2 }:SG) { s with mg:=(s.mg++[(PP.mk y.i y.t)]) }) aP (Nf ?_);exact eL (A79,t2)
    refine zF (b:=Q2) ((([(PP.mk y.i y.t)]:List PP).map PP.c).flatten) rfl ?_;refine dop 1 rfl (bg rfl rfl rfl rfl rfl fun b67=>?_);refine xL (t:=67) (T:=106) (k:=2) rfl fun A67 M8 hc67=>?_;refine zC (A:=A67) (([]:List PP).map PP.c) rfl ?_;refine dop 6 rfl (zW (A:=A67) (els:=(([]:List PP)).map PP.c) (news:=((s.mg).map PP.c)) rfl rfl (Rdb.ro (A:=g.mA) (els:=(s.mg).map PP.c) bA (yA (c:=PP.c) (fun _=>rfl) _)) (zZ (c:=PP.c) (by intro x;simp[PP.c,Value.oneCell']) _) aR rfl fun A72 cap72=>⟨_,inferInstance,?_⟩);refine zC (A:=A72) ((s.mg).map PP.c) (by first|rfl|exact cA.symm|(simp;done)) ?_;refine zR (A:=A72) (s.mg.length) aM ?_;refine ae 72 (v' := .slice A72 (s.mg.length) cap72) rfl aM ?_;refine dop 13 rfl (zW (A:=A72) (els:=(s.mg).map PP.c) (news:=(([(PP.mk y.i y.t)]:List PP).map PP.c)) rfl rfl (InL.rdb (b:=Q2) rfl (by simp[PP.c]) rfl) (zZ (c:=PP.c) (by intro x;simp[PP.c,Value.oneCell']) _) aR rfl fun A79 t2=>⟨_,inferInstance,?_⟩);refine zC (A:=A79) (((s.mg++[(PP.mk y.i y.t)])).map PP.c) (by first|rfl|exact cA.symm|(simp;done)) ?_;refine zR (A:=A79) (s.mg++[(PP.mk y.i y.t)]).length aM ?_;refine ae 79 (v' := .slice A79 (s.mg++[(PP.mk y.i y.t)]).length t2) rfl aM (rn [24,14,6,23,15,4] ?_);refine dop 16 rfl (zI rfl rfl rfl rfl rfl rfl rfl ?_);refine zF (b:=p.sb) (SC p ({ g with mA:=A79,mc:=t2 }:SG) { s with mg:=(s.mg++[(PP.mk y.i y.t)]) }) aP (Nf ?_);exact eL (A79,t2)
   rintro⟨A79,t2⟩;refine wQ A79 fun hpc _ _=>?_;refine uD (A:=A79) (s.mg++[(PP.mk y.i y.t)]).length ((s.mg++[(PP.mk y.i y.t)]).map PP.c) rfl rfl (rn [7,1,2,4,5,4,5] ?_);refine aa (zN _ rfl (fun w1 a6 a8=>by exact sY p ({ g with mA:=A79,mc:=t2 }:SG) ({ s with mg:=(s.mg++[(PP.mk y.i y.t)]) }:Eg) ((y).k) ((y).i) ((-1)) w1 a8) rfl ?_);refine Rp ?_;exact dG rfl (.cellw rfl rfl) fun w' a5=>⟨({ g with mA:=A79,mc:=t2 }:SG),(by(rw[hD];exact⟨hg.p,hg.f,hg.o,hpc,hg.r⟩)),by rw[hD];rfl,by rw[hD];exact zA w' a5⟩
  have X5:=h2;have k6:(dN s.l y.i y.t s.c)≠0:=bX X5;have hD:(if y.k=5 then dk s y.i y.t else dh s y.i y.a)=(s,⟨(dN s.l y.i y.t s.c),0,0⟩):=(bZ k5).trans (bZ k6);refine rn [21,21,21,21,21,21,21,42,0,20,12,7,8,1,2,51] ?_;refine zV 57 (b:=true) rfl (by simp[k6]) (rn [0,19,1,2,4,5,2] ?_);refine aa (zN _ rfl (fun w1 a6 a8=>by exact xD p g s ((y).k) ((dN s.l y.i y.t s.c)) w1 a8) rfl ?_);refine Rm ?_;exact dG rfl (.cellw rfl rfl) fun w' a5=>⟨g,(by(rw[hD];exact hg)),by rw[hD,rD k6],by rw[hD];exact zA w' a5⟩
 have k5:¬y.k=5:=bX h1;refine rn [12,7,8,1,2,44,2] ?_;refine zS 47 rfl (fun h4=>?_) (fun h4=>?_)
 ·have X5:=h4;have k6:¬(fS s.l y.i y.a)≠0:=fun hc=>hc (bW X5);refine rn [22,2,22,2,22,6,22,4,22,4,22,5,22,53,41,0] ?_;refine zB rfl (fun h5=>?_) (fun h5=>?_)
  ·have P5:=h5;have k7:s.c.qsize.toNat-s.pt.length=0:=by have h9:=bW P5;omega
   have hD:(if y.k=5 then dk s y.i y.t else dh s y.i y.a)=(s,⟨6,0,0⟩):=(bY k5).trans ((bY k6).trans (bZ k7));refine rn [10,3,0,8,1,2,51] ?_;refine zV 57 (b:=true) rfl (rfl) (rn [0,19,1,2,4,5,2] ?_);refine aa (zN _ rfl (fun w1 a6 a8=>by exact xD p g s ((y).k) (6) w1 a8) rfl ?_);refine Rm ?_;exact dG rfl (.cellw rfl rfl) fun w' a5=>⟨g,(by(rw[hD];exact hg)),by rw[hD];rfl,by rw[hD];exact zA w' a5⟩
  have P5:=h5;have k7:¬s.c.qsize.toNat-s.pt.length=0:=by have h9:=bX P5;omega
  have hD:(if y.k=5 then dk s y.i y.t else dh s y.i y.a)=({ s with pt:=(s.pt++[(Rq.mk y.i y.a)]) },⟨0,y.i,-1⟩):=(bY k5).trans ((bY k6).trans (bY k7));refine rn [12,7,8,1,2,51] ?_;refine zV 57 (b:=false) rfl (by simp[Classical.not_not.1 k6]) (rn [0,20,12,7,8,1,4,5,44] ?_);refine zV 65 (b:=false) rfl (cY k5) (rn [0,20] ?_);refine bn [12] an rfl (rn [23,0,2,23,2,2,23,3,6,23,4,4,23,5,5,23,7,45] ?_);refine dj [0,3,4] (fun(x:bU × Nat)=>[]) (fun(x:bU × Nat)=>[Res.blk b3 35 y.c,rcZ b4,Res.blk b5 150 (Rq.c ⟨y.i,y.a⟩),Res.blk p.sb 147 (SC p { g with rA:=x.1,rc:=x.2 } { s with pt:=(s.pt++[(Rq.mk y.i y.a)]) }),Res.blk p.lb 138 (LdC s.c.supc s.dep s.paid s.burn),Res.blk p.xb 141 [dC g.fA (s.q).f.length g.fc,dC g.oA (s.q).v.length g.oc,aI s.c.qsize.toNat],Res.ro g.fA (s.q).f.length 1 ((s.q).f.map aC),Res.ro g.oA (s.q).v.length 1 ((s.q).v.map aC),Res.blk p.mb 144 (R.c (R.of s.m)),Res.row g.vA s.l.length g.vc 52 7 (s.l.map V.c),Res.ro g.pA s.pend.length 1 (s.pend.map aC),Res.ro g.mA s.mg.length 2 (s.mg.map PP.c),Res.row x.1 (s.pt++[(Rq.mk y.i y.a)]).length x.2 150 2 ((s.pt++[(Rq.mk y.i y.a)]).map Rq.c)]) ?_ ?_
  ·refine yJ [1,8] aL aM zG ⟨bu rfl (bg rfl rfl rfl rfl rfl fun b83=>?_),bu rfl (bg rfl rfl rfl rfl rfl fun b90=>?_),trivial⟩
   ·refine xL (t:=83) (T:=150) (k:=2) rfl fun A83 m8 hc83=>?_;refine zC (A:=A83) (([]:List Rq).map Rq.c) rfl ?_;refine yJ [6,8] aL aM zG ⟨bu rfl (zW (A:=A83) (els:=(([]:List Rq)).map Rq.c) (news:=((s.pt).map Rq.c)) rfl rfl (Rdb.ro (A:=g.rA) (els:=(s.pt).map Rq.c) bA (yA (c:=Rq.c) (fun _=>rfl) _)) (zZ (c:=Rq.c) (by intro x;simp[Rq.c,Value.oneCell']) _) aR rfl fun A88 cap88=>⟨_,inferInstance,?_⟩),bu rfl (bg rfl rfl rfl rfl rfl fun b90=>?_),trivial⟩
    ·refine zC (A:=A88) ((s.pt).map Rq.c) (by first|rfl|exact cA.symm|(simp;done)) ?_;refine zR (A:=A88) (s.pt.length) aM ?_;refine ae 88 (v' := .slice A88 (s.pt.length) cap88) rfl aM ?_;refine dop 8 rfl (bg rfl rfl rfl rfl rfl fun b90=>?_);refine zF (b:=b90) ((([(Rq.mk y.i y.a)]:List Rq).map Rq.c).flatten) rfl ?_;refine dop 9 rfl (zW (A:=A88) (els:=(s.pt).map Rq.c) (news:=(([(Rq.mk y.i y.a)]:List Rq).map Rq.c)) rfl rfl (InL.rdb (b:=b90) rfl (by simp[Rq.c]) rfl) (zZ (c:=Rq.c) (by intro x;simp[Rq.c,Value.oneCell']) _) aR rfl fun A91 t1=>⟨_,inferInstance,?_⟩);refine zC (A:=A91) (((s.pt++[(Rq.mk y.i y.a)])).map Rq.c) (by first|rfl|exact cA.symm|(simp;done)) ?_;refine zR (A:=A91) (s.pt++[(Rq.mk y.i y.a)]).length aM ?_;refine ae 91 (v' := .slice A91 (s.pt++[(Rq.mk y.i y.a)]).length t1) rfl aM (rn [24,10,6,23,11,4] ?_);refine dop 12 rfl (zI rfl rfl rfl rfl rfl rfl rfl ?_);refine zF (b:=p.sb) (SC p ({ g with rA:=A91,rc:=t1 }:SG) { s with pt:=(s.pt++[(Rq.mk y.i y.a)]) }) aP (Nf ?_);exact eL (A91,t1)
    refine zF (b:=b90) ((([(Rq.mk y.i y.a)]:List Rq).map Rq.c).flatten) rfl ?_;refine dop 6 rfl (zW (A:=A83) (els:=(([]:List Rq)).map Rq.c) (news:=((s.pt).map Rq.c)) rfl rfl (Rdb.ro (A:=g.rA) (els:=(s.pt).map Rq.c) bA (yA (c:=Rq.c) (fun _=>rfl) _)) (zZ (c:=Rq.c) (by intro x;simp[Rq.c,Value.oneCell']) _) aR rfl fun A88 cap88=>⟨_,inferInstance,?_⟩);refine zC (A:=A88) ((s.pt).map Rq.c) (by first|rfl|exact cA.symm|(simp;done)) ?_;refine zR (A:=A88) (s.pt.length) aM ?_;refine ae 88 (v' := .slice A88 (s.pt.length) cap88) rfl aM ?_;refine dop 9 rfl (zW (A:=A88) (els:=(s.pt).map Rq.c) (news:=(([(Rq.mk y.i y.a)]:List Rq).map Rq.c)) rfl rfl (InL.rdb (b:=b90) rfl (by simp[Rq.c]) rfl) (zZ (c:=Rq.c) (by intro x;simp[Rq.c,Value.oneCell']) _) aR rfl fun A91 t1=>⟨_,inferInstance,?_⟩);refine zC (A:=A91) (((s.pt++[(Rq.mk y.i y.a)])).map Rq.c) (by first|rfl|exact cA.symm|(simp;done)) ?_;refine zR (A:=A91) (s.pt++[(Rq.mk y.i y.a)]).length aM ?_;refine ae 91 (v' := .slice A91 (s.pt++[(Rq.mk y.i y.a)]).length t1) rfl aM (rn [24,10,6,23,11,4] ?_);refine dop 12 rfl (zI rfl rfl rfl rfl rfl rfl rfl ?_);refine zF (b:=p.sb) (SC p ({ g with rA:=A91,rc:=t1 }:SG) { s with pt:=(s.pt++[(Rq.mk y.i y.a)]) }) aP (Nf ?_);exact eL (A91,t1)
   refine zF (b:=b90) ((([(Rq.mk y.i y.a)]:List Rq).map Rq.c).flatten) rfl ?_;refine dop 1 rfl (bg rfl rfl rfl rfl rfl fun b83=>?_);refine xL (t:=83) (T:=150) (k:=2) rfl fun A83 m8 hc83=>?_;refine zC (A:=A83) (([]:List Rq).map Rq.c) rfl ?_;refine dop 6 rfl (zW (A:=A83) (els:=(([]:List Rq)).map Rq.c) (news:=((s.pt).map Rq.c)) rfl rfl (Rdb.ro (A:=g.rA) (els:=(s.pt).map Rq.c) bA (yA (c:=Rq.c) (fun _=>rfl) _)) (zZ (c:=Rq.c) (by intro x;simp[Rq.c,Value.oneCell']) _) aR rfl fun A88 cap88=>⟨_,inferInstance,?_⟩);refine zC (A:=A88) ((s.pt).map Rq.c) (by first|rfl|exact cA.symm|(simp;done)) ?_;refine zR (A:=A88) (s.pt.length) aM ?_;refine ae 88 (v' := .slice A88 (s.pt.length) cap88) rfl aM ?_;refine dop 9 rfl (zW (A:=A88) (els:=(s.pt).map Rq.c) (news:=(([(Rq.mk y.i y.a)]:List Rq).map Rq.c)) rfl rfl (InL.rdb (b:=b90) rfl (by simp[Rq.c]) rfl) (zZ (c:=Rq.c) (by intro x;simp[Rq.c,Value.oneCell']) _) aR rfl fun A91 t1=>⟨_,inferInstance,?_⟩);refine zC (A:=A91) (((s.pt++[(Rq.mk y.i y.a)])).map Rq.c) (by first|rfl|exact cA.symm|(simp;done)) ?_;refine zR (A:=A91) (s.pt++[(Rq.mk y.i y.a)]).length aM ?_;refine ae 91 (v' := .slice A91 (s.pt++[(Rq.mk y.i y.a)]).length t1) rfl aM (rn [24,10,6,23,11,4] ?_);refine dop 12 rfl (zI rfl rfl rfl rfl rfl rfl rfl ?_);refine zF (b:=p.sb) (SC p ({ g with rA:=A91,rc:=t1 }:SG) { s with pt:=(s.pt++[(Rq.mk y.i y.a)]) }) aP (Nf ?_);exact eL (A91,t1)
  rintro⟨A91,t1⟩;refine wQ A91 fun hpc _ _=>?_;refine uD (A:=A91) (s.pt++[(Rq.mk y.i y.a)]).length ((s.pt++[(Rq.mk y.i y.a)]).map Rq.c) rfl rfl (rn [7,1,2,4,5,4,5] ?_);refine aa (zN _ rfl (fun w1 a6 a8=>by exact sY p ({ g with rA:=A91,rc:=t1 }:SG) ({ s with pt:=(s.pt++[(Rq.mk y.i y.a)]) }:Eg) ((y).k) ((y).i) ((-1)) w1 a8) rfl ?_);refine Rp ?_;exact dG rfl (.cellw rfl rfl) fun w' a5=>⟨({ g with rA:=A91,rc:=t1 }:SG),(by(rw[hD];exact⟨hg.p,hg.f,hg.o,hg.m,hpc⟩)),by rw[hD];rfl,by rw[hD];exact zA w' a5⟩
 have X5:=h4;have k6:(fS s.l y.i y.a)≠0:=bX X5;have hD:(if y.k=5 then dk s y.i y.t else dh s y.i y.a)=(s,⟨(fS s.l y.i y.a),0,0⟩):=(bY k5).trans (bZ k6);refine rn [21,21,21,21,21,21,21,42,0,20,12,7,8,1,2,51] ?_;refine zV 57 (b:=true) rfl (by simp[k6]) (rn [0,19,1,2,4,5,2] ?_);refine aa (zN _ rfl (fun w1 a6 a8=>by exact xD p g s ((y).k) ((fS s.l y.i y.a)) w1 a8) rfl ?_);refine Rm ?_;exact dG rfl (.cellw rfl rfl) fun w' a5=>⟨g,(by(rw[hD];exact hg)),by rw[hD,rD k6],by rw[hD];exact zA w' a5⟩
theorem rf {l l' : List V} (h:l.length=l'.length) (hg:∀j,ab l j=ab l' j):l=l' := List.ext_getElem h fun i h1 h2=>by
 have:=hg (i:Int);rwa [yK h1,yK h2] at this
def dM (p:V→Bool) (e:Int) (l:List V) (k:Nat):List V:=(List.range k).foldl (fun l (i:Nat)=>if p (ab l (i:Int))=true then evV l (i:Int) e else l) l
theorem jb (p:V→Bool) (e:Int) (l:List V) (k:Nat):dM p e l (k+1)=if p (ab (dM p e l k) (k:Int))=true then evV (dM p e l k) (k:Int) e else dM p e l k:=by
 unfold dM;rw[List.range_succ,List.foldl_append];rfl
theorem Ez {l:List V} {i e:Int} (he:1≤e∧e≤5) (h:(ab l i).st=e) (j:Int):ab (evV l i e) j=if j=i then { ab l i with st:=e+1 } else ab l j:=by
 have hh:ax l i=true:=yL aK;have hn:nxt (ab l i).st e=e+1:=by unfold nxt;rw[bY aK,bY aK,bZ ⟨he.1,he.2,h⟩,h]
 rw[ir,bZ aK,yZ,hn];simp[hh]
theorem xK {p:V→Bool} {e:Int} (he:1≤e∧e≤5) (hp:∀v,p v=true→v.st=e) (l:List V):∀k,(dM p e l k).length=l.length∧∀j,ab (dM p e l k) j=if(0≤j∧j<k)∧p (ab l j)=true then { ab l j with st:=e+1 } else ab l j
 | 0=>⟨rfl,fun j=>by rw[bY aK];rfl⟩
 | k+1=>by
  obtain⟨h1,h2⟩:=xK he hp l k;have hk:ab (dM p e l k) (k:Int)=ab l (k:Int):=by rw[h2,bY aK]
  rw[jb,hk];by_cases hc:p (ab l (k:Int))=true
  ·rw[bZ hc];refine⟨by rw[ir];split<;>simp[wK,h1],fun j=>?_⟩;rw[Ez he (by rw[hk];exact hp _ hc)];by_cases hj:j=(k:Int)
   ·subst hj;rw[bZ rfl,hk,bZ ⟨aK,hc⟩]
   rw[bY hj,h2];by_cases hx:(0≤j∧j<(k:Int))∧p (ab l j)=true
   ·rw[bZ hx,bZ ⟨aK,hx.2⟩]
   rw[bY hx,bY (fun hy=>hx ⟨aK,hy.2⟩)]
  rw[bY hc];refine⟨h1,fun j=>?_⟩;rw[h2];by_cases hx:(0≤j∧j<(k:Int))∧p (ab l j)=true
  ·rw[bZ hx,bZ ⟨aK,hx.2⟩]
  rw[bY hx,bY];rintro⟨hy,hz⟩;by_cases hj:j=(k:Int)
  ·subst hj;exact hc hz
  exact hx ⟨aK,hz⟩
def pLv (e:Int) (v:V):Bool:=decide (v.st=3∧v.ex=e)
def pRp (e:Int) (v:V):Bool:=decide (v.st=4∧v.wd≤e)
theorem qo {e:Int} {l:List V} {q:LL} {bo:List En} {lv:List Int} (he:1≤e) (h:et (e-1) l q bo lv):lv.foldl (fun l i=>evV l i 3) l=dM (pLv e) 3 l l.length:=by
 obtain⟨s1,s2⟩:=xK (p:=pLv e) (e:=3) aK (fun v hv=>(bW hv).1) l l.length;refine rf (by rw[s1];exact(vX aK _ _).1) fun j=>?_;rw[s2,vS aK];by_cases hj:j∈lv∧(ab l j).st=3
 ·have hh:ax l j=true:=yL aK;have hr:=bW hh;have hx:=h.lex j hj.1;rw[bZ hj,bZ ⟨hr,cX ⟨hj.2,aK⟩⟩]
 rw[bY hj,bY];rintro⟨_,hc⟩;have hc:=bW hc;exact hj ⟨(h.lvs j).2 ⟨hc.1,aK⟩,hc.1⟩
theorem mD {e:Int} {l:List V} {q:LL} {bo:List En} (he:0≤e) (h:Mid e e l q bo) (hw:∀j,(ab l j).wd≤1099511627776):(eQ e (l,bo)).1=dM (pRp e) 4 l l.length:=by
 obtain⟨⟨r1,r2⟩,_⟩:=h.rip he hw;obtain⟨s1,s2⟩:=xK (p:=pRp e) (e:=4) aK (fun v hv=>(bW hv).1) l l.length;refine rf (by rw[s1];exact r1) fun j=>?_;rw[s2,r2];by_cases hj:j∈cv e bo∧(ab l j).wd≤e∧(ab l j).st=4
 ·have hr:=bW (yL (l:=l) (i:=j) aK);rw[bZ hj,bZ ⟨hr,cX ⟨hj.2.2,hj.2.1⟩⟩];rfl
 rw[bY hj,bY];rintro⟨_,hc⟩;have hc:=bW hc;obtain⟨x,hx,rfl⟩:=cG.1 ((h.bon j).2 hc.1);have hb:=h.bep x hx;exact hj ⟨fy.2 ⟨x,hx,aK,rfl⟩,hc.2,hc.1⟩
theorem lQ (c:C):∀(ag:List As) (s:List V × List En × List Int),(ag.foldl (eJ c) s).1=ag.foldl (fun l a=>dT l a.i (eS (ab l a.i) a.e c).1) s.1
 | [],_=>rfl
 | a :: ag,s=>by rw[cR,lQ c ag,cR];rfl
structure Pnd (l:List V) (pend:List Int):Prop where
 nd:pend.Nodup
 st:∀i∈pend,(ab l i).st=1
theorem Pnd.of {l l' : List V} {pend:List Int} (h:Pnd l pend) (hg:∀i,(ab l i).st=1→(ab l' i).st=1):Pnd l' pend:=⟨h.nd,fun i hi=>hg i (h.st i hi)⟩
theorem DQ {s:Eg} (h:Inv s) (hp:Pnd s.l s.pend) (y:Op):Pnd (fF s y).1.l (fF s y).1.pend:=by
 have lv:∀cl,Pnd (Θ s cl y.i).1.l (Θ s cl y.i).1.pend:=fun cl=>by
  unfold Θ
  repeat' split
  all_goals first|exact hp|skip
  rename_i h1 h2 h3 h4;have hh:ax s.l y.i=true:=by simpa using h1
  show Pnd (s.l.set y.i.toNat _) s.pend;rw[xU hh];refine hp.of fun i hi=>?_;rw[yZ];split
  ·rename_i hc;exfalso;rw[hc.2] at hi;apply h2;unfold cy;split
   ·simp
   rw[hi];simp[nxt]
  exact hi
 unfold fF
 repeat' split
 ·unfold dz
  repeat' split
  all_goals first|exact hp|skip
  have hn:∀i∈s.pend,i≠(s.l.length:Int):=fun i hi hc=>by
   have:=hp.st i hi;have:=bW (yL (l:=s.l) (i:=i) aK);omega
  refine⟨List.nodup_append.2 ⟨hp.nd,aM,fun a ha b hb=>?_⟩,fun i hi=>?_⟩
  ·simp only[cH,cE,or_false] at hb;subst hb;exact hn a ha
  show(ab (s.l++[_]) i).st=1;rw[ku];split
  ·rfl
  rename_i hc;rcases cK.1 hi with hi|hi
  ·exact hp.st i hi
  simp only[cH,cE,or_false] at hi;exact absurd hi hc
 ·exact lv 1
 ·exact lv 0
 ·unfold Φ;split
  ·exact hp
  rename_i h1;have hh:ax s.l y.i=true:=by simpa using h1
  simp only;split
  ·exact hp
  rename_i h2;split
  ·exact hp
  split
  ·exact hp
  show Pnd (s.l.set y.i.toNat _) s.pend;rw[xU hh];refine hp.of fun i hi=>?_;rw[yZ];split
  ·rename_i hc;exfalso;rw[hc.2] at hi;apply h2;unfold bh;split
   ·exact .inl rfl
   rw[hi];simp[nxt]
  exact hi
 ·unfold dk
  repeat' split
  all_goals exact hp
 ·unfold dh
  repeat' split
  all_goals exact hp
 exact hp
structure BdR (s:Eg) (ch:Int) (l1 l2 l3 l4:List V) (ag:List As) (q:LL) (m:M) (n:Nat):Prop where
 e1:l1=dM (pLv s.ep) 3 s.l s.l.length
 e2:l2=dM (pRp s.ep) 4 l1 l1.length
 ec:ch=ee s.c l2
 es:Ξ (bx l2) s.ep ch s.q s.m=(ag,q,m)
 e3:l3=ag.foldl (fun l a=>dT l a.i (eS (ab l a.i) a.e s.c).1) l2
 en:n=(dd ch (bx l3) s.pend 0 true).length
 e4:l4=(s.pend.take n).foldl (fun l i=>evV l i 1) l3
 hl:(dO s).1.l=(runM s.c l4 (s.mg.take s.c.merg.toNat)).1
 hq:(dO s).1.q=q
 hm:(dO s).1.m=m
 hp:(dO s).1.pend=s.pend.drop n
 ha:(dO s).2=ag
theorem FL {s:Eg} (he:1≤s.ep) (hE:et (s.ep-1) s.l s.q s.bo s.lv) (hw:∀j,(ab s.l j).wd≤1099511627776):∃ch l1 l2 l3 l4 ag q m n,BdR s ch l1 l2 l3 l4 ag q m n:=by
 have h1:=qo he hE;have d1:=hE.mid;have a6:∀j,(ab (s.lv.foldl (fun l i=>evV l i 3) s.l) j).wd≤1099511627776:=fun j=>by
  rw[vS aK];split<;>exact hw j
 have h2:=mD aK d1 a6;rw[h1] at h2;obtain⟨l1,hl1⟩:∃z,z=dM (pLv s.ep) 3 s.l s.l.length:=⟨_,rfl⟩
 rw[←hl1] at h1 h2;obtain⟨l2,hl2⟩:∃z,z=dM (pRp s.ep) 4 l1 l1.length:=⟨_,rfl⟩
 rw[←hl2] at h2;obtain⟨st,D8⟩:∃z,z=Ξ (bx l2) s.ep (ee s.c l2) s.q s.m:=⟨_,rfl⟩
 obtain⟨l3,hl3⟩:∃z,z=st.1.foldl (fun l a=>dT l a.i (eS (ab l a.i) a.e s.c).1) l2:=⟨_,rfl⟩
 have h3:(st.1.foldl (eJ s.c) (l2,(eQ s.ep (l1,s.bo)).2,[])).1=l3:=by rw[lQ,hl3]
 have hb:=sa (ee s.c l2) (bx l3) s.pend 0 true;refine⟨ee s.c l2,l1,l2,l3,_,st.1,st.2.1,st.2.2,_,hl1,hl2,rfl,D8.symm,hl3,rfl,rfl,?_,?_,?_,?_,?_⟩
 all_goals
  unfold dO;simp only[h1,h2,←D8,h3]
 rw[←hb]
theorem AU {l0:List V} {e:Int} {is:List Int} {ps:List Y} (hn:is.Nodup) (h:∀i∈is,(ab l0 i).st=5∧(ab l0 i).wd≤e) {k:Nat} (hk:k<is.length) :
  ab ((is.take k).foldl (cx l0 e) (l0,ps)).1 is[k]=ab l0 is[k]:=by
 have hs:(is.take k).Sublist is:=List.take_sublist k is;obtain⟨_,g2,_⟩:=wR (l0:=l0) (e:=e) (is.take k) l0 ps (hs.nodup hn) (fun i hi=>⟨(h i (hs.subset hi)).1,(h i (hs.subset hi)).2,rfl⟩);rw[g2,bY];intro hc;obtain⟨m,hm,he⟩:=List.mem_take_iff_getElem.1 hc;have:=(List.getElem_inj hn).1 he;omega
theorem uH {p:V→Bool} {e:Int} (he:1≤e∧e≤5) (hp:∀v,p v=true→v.st=e) {l:List V} {k:Nat} (hk:k<l.length) :
  dM p e l (k+1)=if p (ab l (k:Int))=true then(dM p e l k).set k { ab (dM p e l k) (k:Int) with st:=nxt (ab (dM p e l k) (k:Int)).st e } else dM p e l k:=by
 obtain⟨h1,h2⟩:=xK he hp l k;have hg:ab (dM p e l k) (k:Int)=ab l (k:Int):=by rw[h2,bY aK]
 rw[jb,hg];split
 ·rename_i h;have hs:=hp _ h;have hh:ax (dM p e l k) (k:Int)=true:=gZ (by rw[h1];exact hk);have hn:nxt (ab l (k:Int)).st e=e+1:=by unfold nxt;rw[bY aK,bY aK,bZ ⟨he.1,he.2,hs⟩,hs]
  unfold evV;rw[hg,bZ ⟨hh,aK⟩];rfl
 rfl
theorem Ey {l:List V} {k:Nat} {e:Int} (he:1≤e∧e≤5) (hk:k<l.length) (hs:(ab l (k:Int)).st=e):evV l (k:Int) e=l.set k { ab l (k:Int) with st:=nxt (ab l (k:Int)).st e }:=by
 have hn:nxt (ab l (k:Int)).st e=e+1:=by unfold nxt;rw[bY aK,bY aK,bZ ⟨he.1,he.2,hs⟩,hs]
 unfold evV;rw[bZ ⟨gZ hk,aK⟩];rfl
def fB (c:C) (l:List V) (a:As):List V:=dT l a.i (eS (ab l a.i) a.e c).1
theorem jK (c:C):∀(ag:List As) (l:List V),(ag.foldl (fB c) l).length=l.length
 | [],_=>rfl
 | a :: ag,l=>by rw[cR,jK c ag];exact wK _ _ _
theorem gX {l:List V}:okV l↔∀j,0≤(ab l j).bal∧(ab l j).bal≤18446744073709551615:=by
 constructor
 ·intro h j;rcases Bool.eq_false_or_eq_true (ax l j) with hj|hj
  ·exact h _ (vV hj)
  rw[wW hj];simp[V.z]
 intro h x hx;obtain⟨j,_,rfl⟩:=wJ hx;exact h j
theorem mW {l l' : List V} (h:okV l) (hb:bx l' = bx l):okV l' := fun x hx=>by
 have:x.bal∈bx l:=by rw[←hb];exact cG.2 ⟨x,hx,rfl⟩
 obtain⟨y,hy,hyx⟩:=cG.1 this;rw[←hyx];exact h y hy
structure BdF (s:Eg) (ch:Int) (l1 l2 l3 l4:List V) (ag:List As) (q:LL) (m:M) (n:Nat):Prop where
 r:BdR s ch l1 l2 l3 l4 ag q m n
 n1:l1.length=s.l.length
 n2:l2.length=s.l.length
 n3:l3.length=s.l.length
 n4:l4.length=s.l.length
 s0:∀j,-1000≤(ab s.l j).st∧(ab s.l j).st≤1000
 s1:∀j,-1000≤(ab l1 j).st∧(ab l1 j).st≤1000
 s3:∀j,-1000≤(ab l3 j).st∧(ab l3 j).st≤1000
 o2:okV l2
 o3:okV l3
 o4:okV l4
 ac:0≤dZ l2∧dZ l2≤18446744073709551615
 ai:∀a∈ag,ax l2 a.i=true∧I64 a.e
 al:ag.length≤8192
 p3:Pnd l3 s.pend
 nn:n≤s.pend.length
 q1:q.f.length≤s.q.f.length∧q.v.length≤s.q.v.length
 v4:∀i,ax l4 i=true→VO (ab l4 i)
theorem Ay {t:Eg} (h:Inv t) (hp:Pnd t.l t.pend) (hb:t.blk<1000000000) (hc:(t.blk+1)%t.c.elen.toNat=0):∃ch l1 l2 l3 l4 ag q m n,BdF { t with blk:=t.blk+1 } ch l1 l2 l3 l4 ag q m n:=by
 obtain⟨s,hs⟩:∃s,s=({ t with blk:=t.blk+1 }:Eg):=⟨_,rfl⟩
 have J9:=gR (s:=t) h.cok.elen.1;rw[bZ hc,←hs] at J9;rw[←hs];have he0:=h.epb;have f1:s.l=t.l:=by rw[hs]
 have f2:s.q=t.q:=by rw[hs]
 have f3:s.pend=t.pend:=by rw[hs]
 have f4:s.c=t.c:=by rw[hs]
 have hE:et (s.ep-1) s.l s.q s.bo s.lv:=by
  have h1:=h.e.ep_eq (show t.ep=s.ep-1 by omega);rw[hs] at h1 ⊢;exact h1
 have s7:∀i,ax s.l i=true→VO (ab s.l i):=by rw[f1];exact h.vo
 have hw:=VO.z_wd s.l s7;have D8:∀j,-1000≤(ab s.l j).st∧(ab s.l j).st≤1000:=fun j=>by
  rcases Bool.eq_false_or_eq_true (ax s.l j) with hj|hj
  ·have:=(s7 j hj).s;omega
  rw[wW hj];simp[V.z]
 have ok0:okV s.l:=by rw[f1];exact tR h
 have hk:=h.cok;obtain⟨ch,l1,l2,l3,l4,ag,q,m,n,r⟩:=FL (show 1≤s.ep by omega) hE hw;obtain⟨a1,a2⟩:=xK (p:=pLv s.ep) (e:=3) aK (fun v hv=>(bW hv).1) s.l s.l.length;rw[←r.e1] at a1 a2;obtain⟨b1,b2⟩:=xK (p:=pRp s.ep) (e:=4) aK (fun v hv=>(bW hv).1) l1 l1.length;rw[←r.e2] at b1 b2;have hst1:∀j,-1000≤(ab l1 j).st∧(ab l1 j).st≤1000:=fun j=>by
  rw[a2];split
  ·simp
  exact D8 j
 have hst2:∀j,-1000≤(ab l2 j).st∧(ab l2 j).st≤1000:=fun j=>by
  rw[b2];split
  ·simp
  exact hst1 j
 have ok1:okV l1:=gX.2 fun j=>by
  have:=gX.1 ok0 j;rw[a2];split<;>exact this
 have ok2:okV l2:=gX.2 fun j=>by
  have:=gX.1 ok1 j;rw[b2];split<;>exact this
 -- the assignments
 have d1:=hE.mid;have e1:s.lv.foldl (fun l i=>evV l i 3) s.l=l1:=by rw[r.e1];exact qo aK hE
 rw[e1] at d1;have a6:∀j,(ab l1 j).wd≤1099511627776:=fun j=>by rw[a2];split<;>exact hw j
 have u2:∀j,(ab l2 j).wd≤1099511627776:=fun j=>by rw[b2];split<;>exact a6 j
 obtain⟨_,d2⟩:=d1.rip aK a6;have e2:(eQ s.ep (l1,s.bo)).1=l2:=by rw[r.e2];exact mD aK d1 a6
 rw[e2] at d2;obtain⟨fa,_⟩:=d2.asg (e:=s.ep) aK (c:=s.c) (by rw[f4];exact hk.unb.1) (by rw[f4];have:=hk.unb;omega) u2 (bx l2) ch s.m;have hsh:=wY (bx l2) s.ep ch s.q s.m;have O3:=qQ (W:=bx l2) (e:=s.ep) (lim:=ch) (m:=s.m) (sz:=t.c.qsize.toNat) (q:=s.q) (by rw[f2];exact h.qf);rw[lQ,r.es] at fa;rw[r.es] at hsh
 change Asg s.ep s.c l2 (ag.foldl (fun l a=>dT l a.i (eS (ab l a.i) a.e s.c).1) l2) ag at fa
 rw[←r.e3] at fa;obtain⟨a,b,g1,g2,g3,_,g5⟩:=hsh;have ok3:okV l3:=mW ok2 fa.bal;have hae:∀x∈ag,x.e=s.ep+1:=fun x hx=>by
  have g1:ag=_:=g1;rw[g1] at hx;rcases cK.1 hx with hx|hx<;>(obtain⟨i,_,rfl⟩:=cG.1 hx;rfl)
 have hag:ag.length=(s.q.f.take a).length+(s.q.v.take b).length:=by
  have g1:ag=_:=g1;rw[g1];simp
 have y8:=h.qf;have F9:=(yM h.cc).qsize;have p0:Pnd s.l s.pend:=by rw[f1,f3];exact hp
 have p1:Pnd l1 s.pend:=p0.of fun i hi=>by rw[a2,bY];exact hi;intro hc;have:=(bW hc.2).1;omega
 have p2:Pnd l2 s.pend:=p1.of fun i hi=>by rw[b2,bY];exact hi;intro hc;have:=(bW hc.2).1;omega
 have p3:Pnd l3 s.pend:=p2.of fun i hi=>by rw[fa.got,bY];exact hi;intro hc;have:=(fa.as3 i hc).1;omega
 have n3:l3.length=s.l.length:=by rw[fa.len,b1,a1]
 have n4:l4.length=s.l.length:=by rw[r.e4,(vX aK _ _).1,n3]
 have sm:(bx l2).sum≤18446744073709551615:=by
  have e3:bx l2=bx t.l:=by
   have:=qK s.ep (cv s.ep s.bo) (l1,cu s.ep s.bo);have e4:bx (eQ s.ep (l1,s.bo)).1=bx l1:=this;rw[e2] at e4;rw[e4,←e1,xR,f1]
  rw[e3,h.sum];obtain⟨x1,x2,x3,x4,x5,x6⟩:=h.led;omega
 have hac:=qN (l:=l2) fun v hv=>(ok2 v hv).1;have v1:∀i,ax l1 i=true→VO (ab l1 i):=fun i hi=>by
  rw[xJ a1] at hi;have:=s7 i hi;rw[a2];split
  ·exact⟨this.b,aM,this.r,this.x,this.w,this.d⟩
  exact this
 have v2:∀i,ax l2 i=true→VO (ab l2 i):=fun i hi=>by
  rw[xJ b1] at hi;have:=v1 i hi;rw[b2];split
  ·exact⟨this.b,aM,this.r,this.x,this.w,this.d⟩
  exact this
 have v3:∀i,ax l3 i=true→VO (ab l3 i):=fun i hi=>by
  rw[xJ fa.len] at hi;have h1:=v2 i hi;have hu:=hk.unb;have hw:=h1.w;rw[fa.got];split
  ·exact⟨h1.b,h1.s,h1.r,by simp only[asV];omega,by simp only[asV];rw[f4];omega,h1.d⟩
  exact h1
 have v4:∀i,ax l4 i=true→VO (ab l4 i):=by rw[r.e4];exact lV (e:=1) aK _ v3
 refine⟨ch,l1,l2,l3,l4,ag,q,m,n,r,a1,b1.trans a1,n3,n4,D8,hst1,fun j=>?_,ok2,ok3,?_,⟨hac.1,aK⟩,fun x hx=>⟨yL ?_,?_⟩,?_,p3,?_,?_,v4⟩
 ·rw[fa.got];split
  ·exact hst2 j
  exact hst2 j
 ·exact mW ok3 (by rw[r.e4];exact xR 1 _ _)
 ·have:=(fa.as3 x.i (cG.2 ⟨x,hx,rfl⟩)).1;omega
 ·rw[hae x hx];unfold I64;omega
 ·rw[hag];rw[f2];simp only[List.length_take];omega
 ·rw[r.en];exact sT _ _ _ _ _
 have g5:q=⟨s.q.f.drop a,s.q.v.drop b⟩:=g5;rw[g5];simp
theorem DR {l3:List V} {pend:List Int} (h:Pnd l3 pend) {k:Nat} (hk:k<pend.length):ab ((pend.take k).foldl (fun l i=>evV l i 1) l3) pend[k]=ab l3 pend[k]∧(ab l3 pend[k]).st=1∧((pend.take k).foldl (fun l i=>evV l i 1) l3).length=l3.length:=by
 refine⟨?_,h.st _ (cC hk),(vX aK _ _).1⟩;rw[vS aK,bY];rintro⟨hc,_⟩;obtain⟨m,hm,he⟩:=List.mem_take_iff_getElem.1 hc;have:=(List.getElem_inj h.nd).1 he;omega
theorem wM {α β:Type} (f:β→α→β) (b:β) {l:List α} {k:Nat} (hk:k<l.length):(l.take (k+1)).foldl f b=f ((l.take k).foldl f b) l[k]:=by rw[←cB hk,List.foldl_append];rfl
theorem CP {t:Eg} (h:Inv t) (hp:Pnd t.l t.pend) (hb:t.blk<1000000000):Pnd (fC t).1.l (fC t).1.pend:=by
 by_cases hc:(t.blk+1)%t.c.elen.toNat=0
 ·have hm:fC t=dO { t with blk:=t.blk+1 }:=bZ hc;obtain⟨ch,l1,l2,l3,l4,ag,q,m,n,F⟩:=Ay h hp hb hc;rw[hm,F.r.hl,F.r.hp];have k2:=(K2.runM (c:=({ t with blk:=t.blk+1 }:Eg).c) (({ t with blk:=t.blk+1 }:Eg).mg.take ({ t with blk:=t.blk+1 }:Eg).c.merg.toNat) F.v4).1;refine⟨(List.drop_sublist _ _).nodup F.p3.nd,fun i hi=>?_⟩;have h3:(ab l3 i).st=1:=F.p3.st i (cL hi);have h4:ab l4 i=ab l3 i:=by
   rw[F.r.e4,vS aK,bY];rintro⟨hc2,_⟩;have hn:=F.p3.nd;rw[←List.take_append_drop n ({ t with blk:=t.blk+1 }:Eg).pend] at hn;exact(List.nodup_append.1 hn).2.2 i hc2 i hi rfl
  rw[k2.ne (by rw[h4];omega),h4];exact h3
 have hm:fC t=({ t with blk:=t.blk+1 },[]):=bY hc;rw[hm];exact hp
theorem yt {z:Eg} (h:Inv z) (hp:Pnd z.l z.pend):Pnd (dV z).1.l (dV z).1.pend:=by
 obtain⟨⟨P⟩,_⟩:=qY h;show Pnd (dV z).1.l z.pend;refine hp.of fun i hi=>?_;have e1:ab P.l1 i=ab z.l i:=P.f1.ne aK;rw[P.got,bY,e1]
 ·exact hi
 intro hc;have:=P.i5 i hc;rw[e1] at this;omega
theorem uq {s:Eg} (h:Inv s) (hb:s.blk<1000000000) (hp:Pnd s.l s.pend) (y:Op):Pnd (ao s y).1.l (ao s y).1.pend:=by
 unfold ao;split
 ·rw[wH];exact yt (uX h hb).1 (CP h hp hb)
 exact DQ h hp y
def fN (l:List V):List Bool:=l.map fun v=>decide (v.st=5)
theorem LOk.led {cap d u:Int}:∀(l:List Y) {p:Int},LOk cap d p u→(∀y∈l,0≤y.a)→LOk cap d (l.foldl (fD d u) p) u
 | [],_,h,_=>h
 | y :: l,p,h,hy=>by
  rw[cR];refine LOk.led l ?_ fun x hx=>hy x (by simp[hx]);have h0:=hy y aM;obtain⟨h1,h2,h3,h4,h5,h6⟩:=h;unfold fD dW;by_cases hc:d-p-u<y.a
  ·rw[bZ hc,bY aO];exact⟨h1,h2,h3,h4,h5,h6⟩
  rw[bY hc,bZ rfl];exact⟨aK,h2,aK,h4,aK,h6⟩
theorem vp {l:List Y} (h:∀y∈l,0≤y.a):∀y∈l,y.a≤eG l:=by
 induction l with
 | nil=>intro y hy;cases hy
 | cons x l ih =>
  have hs:0≤eG l:=xH fun z hz=>by obtain⟨w,hw,rfl⟩:=cG.1 hz;exact h w (by simp[hw])
  have h0:=h x aM;have e:eG (x :: l)=x.a+eG l:=by simp[eG]
  intro y hy;rcases cH.1 hy with rfl|hy
  ·omega
  have:=ih (fun z hz=>h z (by simp[hz])) y hy;omega
structure PyF (z:Eg) (n:Nat) (la:List V) (ps:List Y) (w:Nat × List Int × Nat) (vq pq:Nat) (F:List V × List Y):Prop where
 en:n=min z.pt.length z.c.parts.toNat
 ela:la=(run z.c z.l (z.pt.take n)).1
 eps:ps=pos (run z.c z.l (z.pt.take n)).2
 eV:z.c.vis-(n:Int)=(vq:Int)
 eP:z.c.pays-(ps.length:Int)=(pq:Int)
 bV:1≤vq∧vq≤4096
 bP:1≤pq∧pq≤4096
 ew:w=dJ z.cur (fN la) vq pq
 len:la.length=z.l.length
 idx:∀i∈w.2.1,ax la i=true∧(ab la i).st=5∧(ab la i).wd≤z.ep
 nd:w.2.1.Nodup
 wl:w.2.1.length≤la.length
 wv:w.2.2≤4096
 psl:ps.length≤4096
 psa:∀y∈ps,0≤y.a∧y.a≤18446744073709551615
 ok:okV la
 eF:F=w.2.1.foldl (cx la z.ep) (la,ps)
 fin:(dV z).1={ z with l:=F.1,paid:=F.2.foldl (fD z.dep z.burn) z.paid,cur:=w.1,pt:=z.pt.drop n }
 fip:(dV z).2=(F.2,n+w.2.2)
theorem EN {z:Eg} (h:Inv z):∃n la ps w vq pq F,PyF z n la ps w vq pq F:=by
 have hk:=h.cok;have hpp:=hk.parts;have hq:=(yM h.cc).qsize;obtain⟨x1,x2,x3,x4,x5,x6⟩:=h.led;have t6:=h.sum;have hpt:=h.pt;have j5:=h.cap;have q7:=hk.capa;obtain⟨n,en⟩:∃n,n=min z.pt.length z.c.parts.toNat:=⟨_,rfl⟩
 have etk:z.pt.take z.c.parts.toNat=z.pt.take n:=by
  rw[en];rcases Nat.le_total z.pt.length z.c.parts.toNat with h1|h1
  ·rw[Nat.min_eq_left h1,cI,cP h1]
  rw[Nat.min_eq_right h1]
 have etl:(z.pt.take n).length=n:=by rw[List.length_take];omega
 obtain⟨f1,s1,p1⟩:=K2.run (c:=z.c) h.ck.minb.1 (z.pt.take n) (fun r hr=>h.pm r (cD hr)) h.vo aK;obtain⟨r,hr⟩:∃r,r=run z.c z.l (z.pt.take n):=⟨_,rfl⟩
 rw[←hr] at f1 s1 p1;have Z8:(pos r.2).length≤n:=by
  have:=nl z.c z.l (z.pt.take n);rw[←hr,etl] at this;exact Nat.le_trans (List.length_filter_le _ _) this
 have hps:∀y∈pos r.2,y∈r.2:=fun y hy=>(List.mem_filter.1 hy).1;have v1:=f1.vo h.vo;have hnn:∀y∈r.2,0≤y.a:=fun y hy=>(p1 y hy).1;have hbn:0≤(bx r.1).sum:=xH fun x hx=>by
  obtain⟨v,hv,rfl⟩:=cG.1 hx;obtain⟨j,hj,rfl⟩:=wJ hv;exact(v1 j hj).b
 have hsn:0≤eG r.2:=xH fun x hx=>by obtain⟨y,hy,rfl⟩:=cG.1 hx;exact hnn y hy
 have i6:okV r.1:=fun x hx=>by
  obtain⟨j,hj,rfl⟩:=wJ hx;have h2:=gQ [j] r.1 aM (fun i=>by
   rcases Bool.eq_false_or_eq_true (ax r.1 i) with hi|hi
   ·exact(v1 i hi).b
   rw[wW hi];exact Int.le_refl _)
  have h3:gk r.1 [j]=(ab r.1 j).bal:=by simp[gk]
  have:=(v1 j hj).b;omega
 obtain⟨vq,hV⟩:∃vq:Nat,z.c.vis-(n:Int)=vq:=⟨(z.c.vis-(n:Int)).toNat,aK⟩
 obtain⟨pq,hP⟩:∃pq:Nat,z.c.pays-((pos r.2).length:Int)=pq:=⟨(z.c.pays-((pos r.2).length:Int)).toNat,aK⟩
 have hvs:=hk.vis;have hpy:=hk.pays;obtain⟨w,hw⟩:∃w,w=dJ z.cur (fN r.1) (vq:Int) (pq:Int):=⟨_,rfl⟩
 obtain⟨w1,w2⟩:=rR z.cur (fN r.1) (vq:Int) (pq:Int);rw[←hw] at w1 w2;have hEa:=h.e.sm f1.sm;have hidx:∀i∈w.2.1,ax r.1 i=true∧(ab r.1 i).st=5∧(ab r.1 i).wd≤z.ep:=fun i hi=>by
  obtain⟨j,rfl,hj⟩:=w1 i hi;have h5:=gU hj;exact⟨yL aK,h5,hEa.rdy _ h5⟩
 have hwl:w.2.1.length≤r.1.length:=wP w2 fun i hi=>(hidx i hi).1;have hrl:=f1.len;have hwv:w.2.2≤4096:=by
  rw[hw];unfold dJ;split
  ·exact cN _
  have h2:=gx (rd:=fN r.1) (n:=(fN r.1).length) (pays:=((pq:Nat):Int).toNat) (min ((vq:Nat):Int) ((fN r.1).length:Int)).toNat z.cur [] 0;have h3:(fN r.1).length=r.1.length:=cU _;omega
 refine⟨n,r.1,pos r.2,w,vq,pq,_,en,congrArg Prod.fst hr,congrArg (fun q=>pos q.2) hr,hV,hP,⟨aK,aK⟩,⟨aK,aK⟩,hw,f1.len,hidx,w2,hwl,hwv,aK,fun y hy=>⟨hnn y (hps y hy),?_⟩,i6,rfl,?_,?_⟩
 ·have:=vp hnn y (hps y hy);omega
 ·unfold dV;simp only[etk,etl,←hr];rw[hV,hP];have a5 : dJ z.cur (r.1.map fun v=>decide (v.st=5)) (vq:Int) (pq:Int)=w:=hw.symm;rw[a5]
 unfold dV;simp only[etk,etl,←hr];rw[hV,hP];have a5 : dJ z.cur (r.1.map fun v=>decide (v.st=5)) (vq:Int) (pq:Int)=w:=hw.symm;rw[a5]
theorem CE {z:Eg} {n:Nat} {la:List V} {ps:List Y} {w:Nat × List Int × Nat} {vq pq:Nat} {F:List V × List Y} (h:PyF z n la ps w vq pq F) {k:Nat} (hk:k<w.2.1.length) :
  ((w.2.1.take k).foldl (cx la z.ep) (la,ps)).1.length=z.l.length∧((w.2.1.take k).foldl (cx la z.ep) (la,ps)).2.length=ps.length+k ∧
  ab ((w.2.1.take k).foldl (cx la z.ep) (la,ps)).1 w.2.1[k]=ab la w.2.1[k] ∧
  (w.2.1.take (k+1)).foldl (cx la z.ep) (la,ps)=(dT ((w.2.1.take k).foldl (cx la z.ep) (la,ps)).1 w.2.1[k] (db (ab la w.2.1[k]) z.ep).1,((w.2.1.take k).foldl (cx la z.ep) (la,ps)).2++[⟨w.2.1[k],(db (ab la w.2.1[k]) z.ep).2.1,true⟩]):=by
 have hs:(w.2.1.take k).Sublist w.2.1:=List.take_sublist k _;obtain⟨g1,_⟩:=wR (l0:=la) (e:=z.ep) (w.2.1.take k) la ps (hs.nodup h.nd) (fun i hi=>⟨(h.idx i (hs.subset hi)).2.1,(h.idx i (hs.subset hi)).2.2,rfl⟩);refine⟨by rw[g1,h.len],?_,AU h.nd (fun i hi=>(h.idx i hi).2) hk,?_⟩
 ·rw[iox,List.length_take,Nat.min_eq_left aK]
 rw[wM _ _ hk];rfl
theorem CG {z:Eg} {n:Nat} {la:List V} {ps:List Y} {w:Nat × List Int × Nat} {vq pq:Nat} {F:List V × List Y} (h:PyF z n la ps w vq pq F) :
  F.1.length=z.l.length∧F.2.length=ps.length+w.2.1.length∧∀y∈F.2,0≤y.a∧y.a≤18446744073709551615:=by
 obtain⟨g1,g2,g3,_⟩:=wR (l0:=la) (e:=z.ep) w.2.1 la ps h.nd (fun i hi=>⟨(h.idx i hi).2.1,(h.idx i hi).2.2,rfl⟩);rw[←h.eF] at g1 g3;refine⟨by rw[g1,h.len],by rw[g3];simp,fun y hy=>?_⟩;rw[g3] at hy;rcases cK.1 hy with hy|hy
 ·exact h.psa y hy
 obtain⟨i,hi,rfl⟩:=cG.1 hy;exact h.ok _ (vV (h.idx i hi).1)
theorem sj {α:Type} (l:List α) (P:Nat):l.take (min l.length P)=l.take P:=by
 rcases Nat.le_total l.length P with h|h
 ·rw[Nat.min_eq_left h,cI,cP h]
 rw[Nat.min_eq_right h]
theorem Gb {c:C} {l:List V} (h:0≤dZ l∧dZ l≤18446744073709551615) (hk:c.ok):0≤ee c l∧ee c l≤18446744073709551615:=by
 have h1:=hk.minch;have h2:=hk.quot;unfold ee dK;split
 ·omega
 have h3:=Int.ediv_nonneg h.1 h2.1;have h4:=Int.ediv_le_self c.quot h.1;omega
theorem rz {s:Eg} {ch:Int} {l1 l2 l3 l4:List V} {ag:List As} {q:LL} {m:M} {n:Nat} (r:BdR s ch l1 l2 l3 l4 ag q m n) (p:SP) (x:SG) :
  RSL p x (dO s).1=RSL p x { s with l:=(runM s.c l4 (s.mg.take s.c.merg.toNat)).1,q:=q,m:=m,pend:=s.pend.drop n,mg:=s.mg.drop (min s.mg.length s.c.merg.toNat) }∧(x.Ok { s with l:=(runM s.c l4 (s.mg.take s.c.merg.toNat)).1,q:=q,m:=m,pend:=s.pend.drop n,mg:=s.mg.drop (min s.mg.length s.c.merg.toNat) }→x.Ok (dO s).1):=by
 have e1:=r.hl;have e2:=r.hq;have e3:=r.hm;have e4:=r.hp;have e5:(dO s).1.mg=s.mg.drop (min s.mg.length s.c.merg.toNat):=by
  show s.mg.drop (s.mg.take s.c.merg.toNat).length=_;rw[List.length_take,Nat.min_comm]
 have c1:(dO s).1.c=s.c:=rfl;have c2:(dO s).1.blk=s.blk:=rfl;have c3:(dO s).1.dep=s.dep:=rfl;have c4:(dO s).1.paid=s.paid:=rfl;have c5:(dO s).1.burn=s.burn:=rfl;have c6:(dO s).1.pt=s.pt:=rfl;have c7:(dO s).1.cur=s.cur:=rfl;generalize (dO s).1=y at *;cases y;simp only at e1 e2 e3 e4 e5 c1 c2 c3 c4 c5 c6 c7;subst e1 e2 e3 e4 e5 c1 c2 c3 c4 c5 c6 c7;exact⟨rfl,fun h=>⟨h.p,h.f,h.o,h.m,h.r⟩⟩
theorem FA {s t:Eg} (hs:s={ t with blk:=t.blk+1 }) (hi:Inv t) (hb:t.blk<1000000000):0≤s.ep∧s.ep≤1000000000:=by
 have h1:=AZ s;have h2:=Aa s;have h3:s.blk=t.blk+1:=by rw[hs]
 omega
theorem zr (p:SP) (g:SG) (s t:Eg) (ch:Int) (l1 l2 l3 l4:List V) (ag:List As) (q:LL) (m:M) (n:Nat) (w:World) (hw:WOK (fps (RSL p g s)) w (RSL p g s) w) (hs:s={ t with blk:=t.blk+1 }) (hi:Inv t) (hb9:t.blk<1000000000) (hq2:t.c.qsize≤200) (hF:BdF s ch l1 l2 l3 l4 ag q m n) (hg:g.Ok s):au (ι:=(SG × bU × Nat)) Tryz.prog 198 [aG p.sb] w (RSL p g s) (fun x=>x.1.Ok (dO s).1) (fun x=>.slice x.2.1 ag.length x.2.2) (fun x=>[Res.row x.2.1 ag.length x.2.2 55 3 (ag.map As.cs)]) (fun x=>RSL p x.1 (dO s).1):=by
 refine Γ Tryz.func198 248 hw ?_;have hcE:s.c=t.c:=by rw[hs]
 have hlE:s.l=t.l:=by rw[hs]
 have hqE:s.q=t.q:=by rw[hs]
 have hpE:s.pend=t.pend:=by rw[hs]
 have hmE:s.mg=t.mg:=by rw[hs]
 have hrE:s.pt=t.pt:=by rw[hs]
 have hMm:s.m=t.m:=by rw[hs]
 have o6:=yM hi.cc;have F9:=o6.qsize;have hmg0:=o6.merg;have i6:=hi.cok;have q7:=i6.capa;have B8:=hi.cap;have y8:=hi.qf;have X6:=hi.pe;have F2:=hi.mg;have F1:=hi.pt;have D9:=hi.ck;have hm9:=hi.m;rw[←hcE] at F9 hmg0 i6 q7 B8 y8 X6 F2 F1 D9 hq2;rw[←hlE] at B8;rw[←hqE] at y8;rw[←hpE] at X6;rw[←hmE] at F2;rw[←hrE] at F1;rw[←hMm] at hm9;have X8:s.l.length≤4096:=by omega
 have G1:0≤s.ep∧s.ep≤1000000000:=FA hs hi hb9;refine rn [1,3,0,8,1,3,0,14] ?_;refine yB (L' := RSL p { g with vA:=g.vA,vc:=g.vc } { s with l:=(dM (pLv s.ep) 3 s.l 0) }) rfl ?_;refine dP [0,2] (fun(x:Nat × bU × Nat)=>[(3,aI x.1)]) (fun(x:Nat × bU × Nat)=>RSL p { g with vA:=x.2.1,vc:=x.2.2 } { s with l:=(dM (pLv s.ep) 3 s.l x.1) }) (fun(x:Nat × bU × Nat)=>x.1≤s.l.length) (fun(x:Nat × bU × Nat)=>s.l.length-x.1) (0,g.vA,g.vc) aW ?_;rintro⟨k,A9,c9⟩ f6;replace f6:k≤s.l.length:=f6;refine yB (L' := RSL p { g with vA:=A9,vc:=c9 } { s with l:=(dM (pLv s.ep) 3 s.l k) }) rfl ?_;refine ae 3 (v' := aI k) rfl rfl ?_;have hsl:(dM (pLv s.ep) 3 s.l k).length=s.l.length:=(xK aK (fun v hv=>(bW hv).1) s.l k).1;have hsl2:({ s with l:=(dM (pLv s.ep) 3 s.l k) }:Eg).l.length=s.l.length:=hsl;have hn1:=hF.n1;refine rn [8,1,2,2,6,4,5,47,46,0] ?_;refine zB rfl (fun h1=>?_) (fun h1=>?_)
 ·have f8:k<s.l.length:=by have h9:=bW h1;omega
  refine rn [12,7,8,14,1,2,6,4,5,2] ?_;refine s_q (zM (i:=k) rfl rfl rfl (ird (A:=({ g with vA:=A9,vc:=c9 }:SG).vA)) aN) rfl ?_;refine s_q (zU (i:=k) rfl (ird (A:=({ g with vA:=A9,vc:=c9 }:SG).vA)) (zP aT) rfl) rfl ?_;refine aa (zK rfl fun b4=>rn [33] ?_);refine zF (b:=b4) (V.c (ab (dM (pLv s.ep) 3 s.l k) (k:Int))) (by rw[yK aK]) (Sw ?_);refine bn [] an rfl (rn [23,0,4,23,1,5,23,2,44,23,3,2] ?_);refine zS 34 rfl (fun h2=>?_) (fun h2=>?_)
  ·have k1:(ab (dM (pLv s.ep) 3 s.l k) (k:Int)).st=3:=bW h2;refine rn [26,4,4,26,5,5,26,6,2,26,7,6,26,8,4,26,9,5,26,10,44,23,11,41,27,7] ?_;refine zB rfl (fun h3=>?_) (fun h3=>?_)
   ·have k2:(ab (dM (pLv s.ep) 3 s.l k) (k:Int)).ex=s.ep:=bW h3;have O4:(ab (dM (pLv s.ep) 3 s.l k) (k:Int))=ab s.l (k:Int):=by rw[(xK aK (fun v hv=>(bW hv).1) s.l k).2,bY aK]
    have C7:(dM (pLv s.ep) 3 s.l (k+1))=(dM (pLv s.ep) 3 s.l k).set k { (ab (dM (pLv s.ep) 3 s.l k) (k:Int)) with st:=nxt (ab (dM (pLv s.ep) 3 s.l k) (k:Int)).st 3 }:=by rw[uH aK (fun v hv=>(bW hv).1) aK,bZ (by rw[←O4];exact cX ⟨k1,k2⟩)]
    refine rn [10,2,2] ?_;refine aa (zJ _ rfl (fun w1 a6 a8=>by have h7:=rH p ({ g with vA:=A9,vc:=c9 }:SG) ({ s with l:=(dM (pLv s.ep) 3 s.l k) }:Eg) (k) (3) w1 a8 (by show k<(dM (pLv s.ep) 3 s.l k).length;omega) (by show(dM (pLv s.ep) 3 s.l k).length≤4096;omega) (by show -1000≤(ab (dM (pLv s.ep) 3 s.l k) (k:Int)).st∧_;rw[O4];exact hF.s0 k);exact h7) rfl ?_);rintro⟨A45,cap45⟩ _;refine ii (rn [9,15,7,10,2,43,3,9] ?_);refine zC (A:=A45) ((dM (pLv s.ep) 3 s.l (k+1)).map V.c) (by rw[C7]) ?_;refine zR (A:=A45) (dM (pLv s.ep) 3 s.l (k+1)).length (by rw[C7]) ?_;refine zF (b:=p.sb) (SC p { g with vA:=A45,vc:=cap45 } { s with l:=(dM (pLv s.ep) 3 s.l (k+1)) }) (by rw[C7]<;>rfl) ?_;exact cr ((k+1),A45,cap45) aU
   have k2:¬(ab (dM (pLv s.ep) 3 s.l k) (k:Int)).ex=s.ep:=bX h3;have O4:(ab (dM (pLv s.ep) 3 s.l k) (k:Int))=ab s.l (k:Int):=by rw[(xK aK (fun v hv=>(bW hv).1) s.l k).2,bY aK]
   have C7:(dM (pLv s.ep) 3 s.l (k+1))=(dM (pLv s.ep) 3 s.l k):=by rw[uH aK (fun v hv=>(bW hv).1) aK,bY (by rw[←O4];exact fun hc=>k2 (bW hc).2)]
   refine RP ?_;refine zC (A:=A9) ((dM (pLv s.ep) 3 s.l (k+1)).map V.c) (by rw[C7]) ?_;refine zR (A:=A9) (dM (pLv s.ep) 3 s.l (k+1)).length (by rw[C7]) ?_;refine zF (b:=p.sb) (SC p { g with vA:=A9,vc:=c9 } { s with l:=(dM (pLv s.ep) 3 s.l (k+1)) }) (by rw[C7]<;>rfl) ?_;exact cr ((k+1),A9,c9) aU
  have k1:¬(ab (dM (pLv s.ep) 3 s.l k) (k:Int)).st=3:=bX h2;have O4:(ab (dM (pLv s.ep) 3 s.l k) (k:Int))=ab s.l (k:Int):=by rw[(xK aK (fun v hv=>(bW hv).1) s.l k).2,bY aK]
  have C7:(dM (pLv s.ep) 3 s.l (k+1))=(dM (pLv s.ep) 3 s.l k):=by rw[uH aK (fun v hv=>(bW hv).1) aK,bY (by rw[←O4];exact fun hc=>k1 (bW hc).1)]
  refine rn [25,4,25,5,25,6,25,7,25,8,25,9,25,10,23,11,42,27,7,20,12,15,7,10,2,43,3,9] ?_;refine zC (A:=A9) ((dM (pLv s.ep) 3 s.l (k+1)).map V.c) (by rw[C7]) ?_;refine zR (A:=A9) (dM (pLv s.ep) 3 s.l (k+1)).length (by rw[C7]) ?_;refine zF (b:=p.sb) (SC p { g with vA:=A9,vc:=c9 } { s with l:=(dM (pLv s.ep) 3 s.l (k+1)) }) (by rw[C7]<;>rfl) ?_;exact cr ((k+1),A9,c9) aU
 have f9:k=s.l.length:=by have h9:=bX h1;omega
 refine Ru ?_;refine zE (zE (zQ (rn [7,8,1] ?_)));refine yB (L' := RSL p { g with vA:=A9,vc:=c9 } { s with l:=l1 }) (by rw[hF.r.e1,←f9]) (rn [3,0,14] ?_);refine yB (L' := RSL p { g with vA:=A9,vc:=c9 } { s with l:=(dM (pRp s.ep) 4 l1 0) }) (by first|rfl|(show RSL p _ { s with l:=l1 }=_;rfl)) ?_;refine dP [0,2] (fun(x:Nat × bU × Nat)=>[(5,aI x.1)]) (fun(x:Nat × bU × Nat)=>RSL p { g with vA:=x.2.1,vc:=x.2.2 } { s with l:=(dM (pRp s.ep) 4 l1 x.1) }) (fun(x:Nat × bU × Nat)=>x.1≤l1.length) (fun(x:Nat × bU × Nat)=>l1.length-x.1) (0,A9,c9) aW ?_;rintro⟨k,A8,c8⟩ f6;replace f6:k≤l1.length:=f6;refine yB (L' := RSL p { g with vA:=A8,vc:=c8 } { s with l:=(dM (pRp s.ep) 4 l1 k) }) rfl ?_;refine ae 5 (v' := aI k) rfl rfl ?_;have hsl:(dM (pRp s.ep) 4 l1 k).length=l1.length:=(xK aK (fun v hv=>(bW hv).1) l1 k).1;have hsl2:({ s with l:=(dM (pRp s.ep) 4 l1 k) }:Eg).l.length=l1.length:=hsl;have hn1:=hF.n1;refine rn [8,1,2,2,6,4,5,47,46,0] ?_;refine zB rfl (fun h4=>?_) (fun h4=>?_)
 ·have f8:k<l1.length:=by have h9:=bW h4;omega
  refine rn [12,7,8,14,1,2,6,4,5,2] ?_;refine s_q (zM (i:=k) rfl rfl rfl (ird (A:=({ g with vA:=A8,vc:=c8 }:SG).vA)) aN) rfl ?_;refine s_q (zU (i:=k) rfl (ird (A:=({ g with vA:=A8,vc:=c8 }:SG).vA)) (zP aT) rfl) rfl ?_;refine aa (zK rfl fun b6=>rn [33] ?_);refine zF (b:=b6) (V.c (ab (dM (pRp s.ep) 4 l1 k) (k:Int))) (by rw[yK aK]) (Sw ?_);refine bn [] an rfl (rn [23,0,4,23,1,5,23,2,44,23,3,2] ?_);refine zS 65 rfl (fun h5=>?_) (fun h5=>?_)
  ·have k1:(ab (dM (pRp s.ep) 4 l1 k) (k:Int)).st=4:=bW h5;refine rn [26,4,4,26,5,5,26,6,2,26,7,6,26,8,4,26,9,5,26,10,56,23,11,41,27,7] ?_;refine zB rfl (fun h6=>?_) (fun h6=>?_)
   ·have k2:(ab (dM (pRp s.ep) 4 l1 k) (k:Int)).wd≤s.ep:=bW h6;have O4:(ab (dM (pRp s.ep) 4 l1 k) (k:Int))=ab l1 (k:Int):=by rw[(xK aK (fun v hv=>(bW hv).1) l1 k).2,bY aK]
    have C7:(dM (pRp s.ep) 4 l1 (k+1))=(dM (pRp s.ep) 4 l1 k).set k { (ab (dM (pRp s.ep) 4 l1 k) (k:Int)) with st:=nxt (ab (dM (pRp s.ep) 4 l1 k) (k:Int)).st 4 }:=by rw[uH aK (fun v hv=>(bW hv).1) aK,bZ (by rw[←O4];exact cX ⟨k1,k2⟩)]
    refine rn [10,2,2] ?_;refine aa (zJ _ rfl (fun w1 a6 a8=>by have h7:=rH p ({ g with vA:=A8,vc:=c8 }:SG) ({ s with l:=(dM (pRp s.ep) 4 l1 k) }:Eg) (k) (4) w1 a8 (by show k<(dM (pRp s.ep) 4 l1 k).length;omega) (by show(dM (pRp s.ep) 4 l1 k).length≤4096;omega) (by show -1000≤(ab (dM (pRp s.ep) 4 l1 k) (k:Int)).st∧_;rw[O4];exact hF.s1 k);exact h7) rfl ?_);rintro⟨A76,M7⟩ _;refine ii (rn [9,15,7,10,2,43,3,9] ?_);refine zC (A:=A76) ((dM (pRp s.ep) 4 l1 (k+1)).map V.c) (by rw[C7]) ?_;refine zR (A:=A76) (dM (pRp s.ep) 4 l1 (k+1)).length (by rw[C7]) ?_;refine zF (b:=p.sb) (SC p { g with vA:=A76,vc:=M7 } { s with l:=(dM (pRp s.ep) 4 l1 (k+1)) }) (by rw[C7]<;>rfl) ?_;exact cr ((k+1),A76,M7) aU
   have k2:¬(ab (dM (pRp s.ep) 4 l1 k) (k:Int)).wd≤s.ep:=bX h6;have O4:(ab (dM (pRp s.ep) 4 l1 k) (k:Int))=ab l1 (k:Int):=by rw[(xK aK (fun v hv=>(bW hv).1) l1 k).2,bY aK]
   have C7:(dM (pRp s.ep) 4 l1 (k+1))=(dM (pRp s.ep) 4 l1 k):=by rw[uH aK (fun v hv=>(bW hv).1) aK,bY (by rw[←O4];exact fun hc=>k2 (bW hc).2)]
   refine RP ?_;refine zC (A:=A8) ((dM (pRp s.ep) 4 l1 (k+1)).map V.c) (by rw[C7]) ?_;refine zR (A:=A8) (dM (pRp s.ep) 4 l1 (k+1)).length (by rw[C7]) ?_;refine zF (b:=p.sb) (SC p { g with vA:=A8,vc:=c8 } { s with l:=(dM (pRp s.ep) 4 l1 (k+1)) }) (by rw[C7]<;>rfl) ?_;exact cr ((k+1),A8,c8) aU
  have k1:¬(ab (dM (pRp s.ep) 4 l1 k) (k:Int)).st=4:=bX h5;have O4:(ab (dM (pRp s.ep) 4 l1 k) (k:Int))=ab l1 (k:Int):=by rw[(xK aK (fun v hv=>(bW hv).1) l1 k).2,bY aK]
  have C7:(dM (pRp s.ep) 4 l1 (k+1))=(dM (pRp s.ep) 4 l1 k):=by rw[uH aK (fun v hv=>(bW hv).1) aK,bY (by rw[←O4];exact fun hc=>k1 (bW hc).1)]
  refine rn [25,4,25,5,25,6,25,7,25,8,25,9,25,10,23,11,42,27,7,20,12,15,7,10,2,43,3,9] ?_;refine zC (A:=A8) ((dM (pRp s.ep) 4 l1 (k+1)).map V.c) (by rw[C7]) ?_;refine zR (A:=A8) (dM (pRp s.ep) 4 l1 (k+1)).length (by rw[C7]) ?_;refine zF (b:=p.sb) (SC p { g with vA:=A8,vc:=c8 } { s with l:=(dM (pRp s.ep) 4 l1 (k+1)) }) (by rw[C7]<;>rfl) ?_;exact cr ((k+1),A8,c8) aU
 have f9:k=l1.length:=by have h9:=bX h4;omega
 refine yB (L' := RSL p { g with vA:=A8,vc:=c8 } { s with l:=l2 }) (by rw[hF.r.e2,←f9]) ?_;have hn2:({ s with l:=l2 }:Eg).l.length=s.l.length:=hF.n2;refine Ru ?_;refine zE (zE (zQ (rn [7,8] ?_)));refine bn [] an rfl (rn [23,0,2,23,1,6,23,2,4,23,3,5,23,5,2,23,6,6,23,7,4,23,8,4,23,9,5,23,10,2,23,11,6,23,12,4,23,13,4,23,14,5] ?_);refine dop 4 rfl (zH rfl (fun w1 a6=>pa ({ g with vA:=A8,vc:=c8 }:SG).vA (({ s with l:=l2 }:Eg).l.length) (({ g with vA:=A8,vc:=c8 }:SG).vc) (({ s with l:=l2 }:Eg).l) w1 (Rdb.toOld (ird (A:=({ g with vA:=A8,vc:=c8 }:SG).vA)) a6) aK) rfl ?_);refine ae 81 (v' := aJ (dZ l2)) rfl (by show aJ (IntKind.u64.wrap (dZ l2))=_;rw[ey hF.ac.1 (by have:=hF.ac;omega)]) ?_;refine dop 15 rfl (zH rfl (fun w1 a6=>by exact nw ((dZ l2)) (s.c.minch) (s.c.quot) w1 hF.ac D9.minch D9.quot) rfl ?_);refine ae 92 (v' := aJ ch) rfl (by rw[hF.r.ec];rfl) (rn [23,16,3,27,7,1] ?_);have D8:eg (bx l2) s.ep ch s.q (R.of s.m)=(ag,q,R.of m):=by
   have h8:=(ld (W:=bx l2) (e:=s.ep) (lim:=ch) (q:=s.q) (m:=s.m) (fun x hx=>(kj hF.o2 x hx).1) (by rw[hF.r.ec];exact jC hF.ac.1 D9.minch.1) hm9).1;rw[h8,hF.r.es]
 have hql:=hF.q1;refine rn [3] ?_;refine xA 8 55 3 rfl fun Az1 capz1 hcz1=>?_;refine zC (A:=Az1) (([]:List As).map As.cs) rfl (Sw ?_);refine dR (L0:=[Res.blk p.sb 147 (SC p { g with vA:=A8,vc:=c8 } ({ s with l:=l2 }:Eg)),Res.blk p.lb 138 (LdC ({ s with l:=l2 }:Eg).c.supc ({ s with l:=l2 }:Eg).dep ({ s with l:=l2 }:Eg).paid ({ s with l:=l2 }:Eg).burn),Res.row { g with vA:=A8,vc:=c8 }.vA ({ s with l:=l2 }:Eg).l.length { g with vA:=A8,vc:=c8 }.vc 52 7 (({ s with l:=l2 }:Eg).l.map V.c),Res.ro { g with vA:=A8,vc:=c8 }.pA ({ s with l:=l2 }:Eg).pend.length 1 (({ s with l:=l2 }:Eg).pend.map aC),Res.ro { g with vA:=A8,vc:=c8 }.mA ({ s with l:=l2 }:Eg).mg.length 2 (({ s with l:=l2 }:Eg).mg.map PP.c),Res.ro { g with vA:=A8,vc:=c8 }.rA ({ s with l:=l2 }:Eg).pt.length 2 (({ s with l:=l2 }:Eg).pt.map Rq.c)]) [] an rfl zG (rn [23,0,2,23,1,6,23,2,4,23,3,5,23,4,2,23,5,6,23,6,4,23,7,5,23,8,2,23,9,6,23,10,4,23,11,5,23,12,2,23,13,2,23,14,6,23,15,4,23,16,5] ?_);refine dop 17 rfl (zJ [] rfl (fun w1 a6 a8=>by have h7:=tE ({ g with vA:=A8,vc:=c8 }:SG).vA (({ s with l:=l2 }:Eg).l.length) (({ g with vA:=A8,vc:=c8 }:SG).vc) (({ s with l:=l2 }:Eg).l) w1 (Rd.ofRow (A:=({ g with vA:=A8,vc:=c8 }:SG).vA) a6) aK;exact h7) rfl ?_);rintro⟨A110,cap110⟩ _;refine ii ?_;refine dop 18 rfl (zJ _ rfl (fun w1 a6 a8=>by have h7:=ss s.ep ch p.xb p.mb g.fA g.oA g.fc g.oc s.q s.c.qsize.toNat (R.of s.m) A110 ((({ s with l:=l2 }:Eg).l).length) (cap110) (l2.map V.bal) w1 a8 hg.f hg.o aK y8 (Rd.ofRow (A:=A110) a6) aK;rw[show eg (l2.map V.bal) s.ep ch s.q (R.of s.m)=(ag,q,R.of m) from D8] at h7;dsimp only at h7;exact h7) rfl ?_);rintro⟨O111,I7,A111,l7,AA111,i4⟩ ⟨u111,uu111⟩;refine ii ?_;simp only at u111 uu111;refine rn [23,19,3,27,7,8,1,3,0,14] ?_;refine zC (A:=Az1) ((ag.take 0).map As.cs) aM ?_;refine zC (A:=A8) (((ag.take 0).foldl (fB s.c) l2).map V.c) aP ?_;refine zR (A:=A8) ((ag.take 0).foldl (fB s.c) l2).length aP ?_;refine zF (b:=p.sb) (SC p { g with vA:=A8,vc:=c8,fA:=A111,fc:=l7,oA:=AA111,oc:=i4 } { s with l:=((ag.take 0).foldl (fB s.c) l2),q:=q,m:=m }) aP ?_;refine dP [0,2,7,9] (fun(x:Nat × bU × Nat × bU × Nat)=>[(8,.slice x.2.2.2.1 x.1 x.2.2.2.2),(10,aI x.1)]) (fun(x:Nat × bU × Nat × bU × Nat)=>(Res.row O111 ag.length I7 366 3 (ag.map As.cs) :: Res.row x.2.2.2.1 x.1 x.2.2.2.2 55 3 ((ag.take x.1).map As.cs) :: RSL p { g with vA:=x.2.1,vc:=x.2.2.1,fA:=A111,fc:=l7,oA:=AA111,oc:=i4 } { s with l:=((ag.take x.1).foldl (fB s.c) l2),q:=q,m:=m })) (fun(x:Nat × bU × Nat × bU × Nat)=>x.1≤ag.length) (fun(x:Nat × bU × Nat × bU × Nat)=>ag.length-x.1) (0,A8,c8,Az1,capz1) aW ?_;rintro⟨k,A7,c7,O7,Y9⟩ f6;replace f6:k≤ag.length:=f6;refine yB (L' := (Res.row O111 ag.length I7 366 3 (ag.map As.cs) :: Res.row O7 k Y9 55 3 ((ag.take k).map As.cs) :: RSL p { g with vA:=A7,vc:=c7,fA:=A111,fc:=l7,oA:=AA111,oc:=i4 } { s with l:=((ag.take k).foldl (fB s.c) l2),q:=q,m:=m })) rfl ?_;refine ae 8 (v' := .slice O7 k Y9) rfl rfl ?_;refine ae 10 (v' := aI k) rfl rfl ?_;have hfl:((ag.take k).foldl (fB s.c) l2).length=s.l.length:=by rw[jK,hF.n2]
 have hfl2:({ s with l:=((ag.take k).foldl (fB s.c) l2),q:=q,m:=m }:Eg).l.length=s.l.length:=hfl;have hgl9:=hF.al;refine Rw ?_;refine zB rfl (fun h7=>?_) (fun h7=>?_)
 ·have f8:k<ag.length:=by have h9:=bW h7;omega
  obtain⟨hai,hae⟩:=hF.ai _ (cC f8);obtain⟨ak,hak⟩:∃z,z=ag[k]:=⟨_,rfl⟩
  rw[←hak] at hai hae;obtain⟨n9,I8,hnl9⟩:=xF hai;rw[hF.n2] at hnl9;have hfk:((ag.take (k+1)).foldl (fB s.c) l2)=((ag.take k).foldl (fB s.c) l2).set n9 (eS (ab ((ag.take k).foldl (fB s.c) l2) ak.i) ak.e s.c).1:=by rw[wM _ _ f8,←hak];show dT _ _ _=_;unfold dT;rw[bZ (by rw[xJ (jK s.c _ _)];exact hai),I8];rfl
  refine Sg ?_;refine bn [25] an rfl (rn [23,0,2,23,1,6,23,2,4,23,3,5,23,4,2,23,5,2] ?_);refine dq 6 rfl (zM (i:=k) rfl rfl rfl (ird (A:=O111)) aN) (rn [23,7,4] ?_);refine dq 8 rfl (zX (i:=k) (o:=0) rfl (ird (A:=O111)) (zP aT) rfl rfl) ?_;refine ae 127 (v' := aI n9) rfl (by rw[←hak,I8]) ?_;refine dq 9 rfl (zM (i:=n9) rfl rfl rfl (ird (A:=({ g with vA:=A7,vc:=c7,fA:=A111,fc:=l7,oA:=AA111,oc:=i4 }:SG).vA)) bO) ?_;refine dq 10 rfl (zU (i:=n9) rfl (ird (A:=({ g with vA:=A7,vc:=c7,fA:=A111,fc:=l7,oA:=AA111,oc:=i4 }:SG).vA)) (zP aT) rfl) ?_;refine ae 129 (v' := V.v (ab ((ag.take k).foldl (fB s.c) l2) ak.i)) rfl (by rw[I8,yK aK];rfl) (rn [23,11,2,23,12,2] ?_);refine dq 13 rfl (zM (i:=k) rfl rfl rfl (ird (A:=O111)) aN) (rn [23,14,4] ?_);refine dq 15 rfl (zX (i:=k) (o:=2) rfl (ird (A:=O111)) (zP aT) rfl rfl) ?_;refine ae 134 (v' := aH ak.e) rfl (by rw[hak]) (rn [23,16,2,23,17,6,23,18,4] ?_);refine dq 19 rfl (yP (c' := C.c s.c) rfl rfl rfl) ?_;refine dj [0,2,7,8,9,10] (fun(x:Nat)=>[(11,aG x)]) (fun(x:Nat)=>(Res.blk x 52 (V.c (eS (ab ((ag.take k).foldl (fB s.c) l2) ak.i) ak.e s.c).1) :: Res.row O111 ag.length I7 366 3 (ag.map As.cs) :: Res.row O7 k Y9 55 3 ((ag.take k).map As.cs) :: RSL p { g with vA:=A7,vc:=c7,fA:=A111,fc:=l7,oA:=AA111,oc:=i4 } { s with l:=((ag.take k).foldl (fB s.c) l2),q:=q,m:=m })) ?_ ?_
  ·refine yJ [20,24] aL aM zG ⟨bu rfl (zH rfl (fun w1 a6=>pR ((ab ((ag.take k).foldl (fB s.c) l2) ak.i)) (ak.e) s.c w1 hae ⟨by have:=i6.unb;omega,by have:=i6.unb;omega⟩) rfl ?_),bu rfl (zK rfl fun p5=>?_),trivial⟩
   ·refine rn [23,21,2,23,22,40,24,23,40] ?_;refine dop 24 rfl (zK rfl fun p5=>?_);refine dop 25 rfl (zT rfl rfl rfl rfl rfl ?_);refine zF (b:=p5) (V.c (eS (ab ((ag.take k).foldl (fB s.c) l2) ak.i) ak.e s.c).1) aP (rn [24,26,3,28] ?_);exact eL p5
   refine dop 20 rfl (zH rfl (fun w1 a6=>pR ((ab ((ag.take k).foldl (fB s.c) l2) ak.i)) (ak.e) s.c w1 hae ⟨by have:=i6.unb;omega,by have:=i6.unb;omega⟩) rfl ?_);refine rn [23,21,2,23,22,40,24,23,40] ?_;refine dop 25 rfl (zT rfl rfl rfl rfl rfl ?_);refine zF (b:=p5) (V.c (eS (ab ((ag.take k).foldl (fB s.c) l2) ak.i) ak.e s.c).1) aP (rn [24,26,3,28] ?_);exact eL p5
  rintro p5;refine rn [7,8] ?_;refine bn [14] an rfl (rn [23,0,2,23,1,2,23,2,6,23,3,4,23,4,5,23,5,2,23,6,2] ?_);refine dq 7 rfl (zM (i:=k) rfl rfl rfl (ird (A:=O111)) aN) (rn [23,8,4] ?_);refine dq 9 rfl (zX (i:=k) (o:=0) rfl (ird (A:=O111)) (zP aT) rfl rfl) ?_;refine ae 151 (v' := aI n9) rfl (by rw[←hak,I8]) (rn [23,10,45] ?_);refine dop 11 rfl (zJ [] rfl (fun w1 a6 a8=>by have h7:=rG ({ g with vA:=A7,vc:=c7,fA:=A111,fc:=l7,oA:=AA111,oc:=i4 }:SG).vA (({ s with l:=((ag.take k).foldl (fB s.c) l2),q:=q,m:=m }:Eg).l.length) (({ g with vA:=A7,vc:=c7,fA:=A111,fc:=l7,oA:=AA111,oc:=i4 }:SG).vc) (({ s with l:=((ag.take k).foldl (fB s.c) l2),q:=q,m:=m }:Eg).l) (n9) ((eS (ab ((ag.take k).foldl (fB s.c) l2) ak.i) ak.e s.c).1) w1 (Rd.ofRow (A:=({ g with vA:=A7,vc:=c7,fA:=A111,fc:=l7,oA:=AA111,oc:=i4 }:SG).vA) a6) aZ bI;exact h7) rfl ?_);rintro⟨A153,L6⟩ _;refine ii (SB ?_);refine dop 14 rfl (zI rfl rfl rfl rfl rfl rfl rfl ?_);refine zF (b:=p.sb) (SC p { g with vA:=A153,vc:=L6,fA:=A111,fc:=l7,oA:=AA111,oc:=i4 } { s with l:=((ag.take k).foldl (fB s.c) l2).set n9 (eS (ab ((ag.take k).foldl (fB s.c) l2) ak.i) ak.e s.c).1,q:=q,m:=m }) aP (rn [28,7] ?_);refine dR (L0:=[Res.row O111 ag.length I7 366 3 (ag.map As.cs)]) [] an rfl zG (rn [23,0,2,23,1,2,23,2,2] ?_);refine dq 3 rfl (zM (i:=k) rfl rfl rfl (ird (A:=O111)) aN) (rn [23,4,4] ?_);refine dq 5 rfl (zX (i:=k) (o:=0) rfl (ird (A:=O111)) (zP aT) rfl rfl) ?_;refine ae 161 (v' := aH ak.i) rfl (by rw[hak]) (rn [23,6,2,23,7,2] ?_);refine dq 8 rfl (zM (i:=k) rfl rfl rfl (ird (A:=O111)) aN) (rn [23,9,4] ?_);refine dq 10 rfl (zX (i:=k) (o:=1) rfl (ird (A:=O111)) (zP aT) rfl rfl) ?_;refine ae 166 (v' := aH ak.c) rfl (by rw[hak]) (rn [23,11,2,23,12,2] ?_);refine dq 13 rfl (zM (i:=k) rfl rfl rfl (ird (A:=O111)) aN) (rn [23,14,4] ?_);refine dq 15 rfl (zX (i:=k) (o:=2) rfl (ird (A:=O111)) (zP aT) rfl rfl) ?_;refine ae 171 (v' := aH ak.e) rfl (by rw[hak]) ?_;refine dq 16 rfl (yF (c:=As.cs ak) rfl aL) ?_;refine dop 17 rfl (bg rfl rfl rfl rfl rfl fun b173=>?_);refine zF (b:=b173) ((([ak]:List As).map As.cs).flatten) rfl ?_;refine dop 18 rfl (zW (A:=O7) (els:=((ag.take k)).map As.cs) (news:=(([ak]:List As).map As.cs)) rfl rfl (InL.rdb (b:=b173) rfl (by simp[As.cs]) rfl) (zZ (c:=As.cs) (by intro x;simp[As.cs,Value.oneCell']) _) aR rfl fun A174 cap174=>⟨_,inferInstance,?_⟩);refine zC (A:=A174) ((((ag.take k)++[ak])).map As.cs) (by first|rfl|exact cA.symm|(simp;done)) (rn [23,19,3,27,15,7,10,2,43,3,9] ?_);refine zC (A:=A174) ((ag.take (k+1)).map As.cs) (by rw[←cB f8,hak]) ?_;refine zR (A:=A174) (k+1) bT ?_;refine zC (A:=A153) (((ag.take (k+1)).foldl (fB s.c) l2).map V.c) (by rw[hfk]) ?_;refine zR (A:=A153) ((ag.take (k+1)).foldl (fB s.c) l2).length (by rw[hfk]) ?_;refine zF (b:=p.sb) (SC p { g with vA:=A153,vc:=L6,fA:=A111,fc:=l7,oA:=AA111,oc:=i4 } { s with l:=((ag.take (k+1)).foldl (fB s.c) l2),q:=q,m:=m }) (by rw[hfk]<;>rfl) ?_;exact cr ((k+1),A153,L6,A174,cap174) aU
 have f9:k=ag.length:=by have h9:=bX h7;omega
 have hf3:((ag.take k).foldl (fB s.c) l2)=l3:=by rw[f9,cI,hF.r.e3];rfl
 refine yB (L' := Res.row O111 ag.length I7 366 3 (ag.map As.cs) :: Res.row O7 ag.length Y9 55 3 (ag.map As.cs) :: RSL p { g with vA:=A7,vc:=c7,fA:=A111,fc:=l7,oA:=AA111,oc:=i4 } { s with l:=l3,q:=q,m:=m }) (by rw[hf3,f9,cI]) ?_;refine ae 8 (v' := .slice O7 ag.length Y9) rfl (by rw[f9]) ?_;have hn3:({ s with l:=l3,q:=q,m:=m }:Eg).l.length=s.l.length:=hF.n3;refine Ru ?_;refine zE (zE (zQ (rn [7,8] ?_)));refine bn [] an rfl (rn [23,0,2,23,1,6,23,2,4,23,3,5,23,4,2,23,5,2,23,6,6,23,7,4,23,8,5] ?_);refine dop 9 rfl (zJ [] rfl (fun w1 a6 a8=>by have h7:=tE ({ g with vA:=A7,vc:=c7,fA:=A111,fc:=l7,oA:=AA111,oc:=i4 }:SG).vA (({ s with l:=l3,q:=q,m:=m }:Eg).l.length) (({ g with vA:=A7,vc:=c7,fA:=A111,fc:=l7,oA:=AA111,oc:=i4 }:SG).vc) (({ s with l:=l3,q:=q,m:=m }:Eg).l) w1 (Rd.ofRow (A:=({ g with vA:=A7,vc:=c7,fA:=A111,fc:=l7,oA:=AA111,oc:=i4 }:SG).vA) a6) aK;exact h7) rfl ?_);rintro⟨A184,cap184⟩ _;refine ii ?_;refine dop 10 rfl (zH rfl (fun w1 a6=>ly g.pA g.pc s.pend ch A184 ((({ s with l:=l3,q:=q,m:=m }:Eg).l).length) (cap184) (l3.map V.bal) w1 (Rdb.toOld (Rdb.ro (A:=({ g with vA:=A7,vc:=c7,fA:=A111,fc:=l7,oA:=AA111,oc:=i4 }:SG).pA) (els:=(({ s with l:=l3,q:=q,m:=m }:Eg).pend).map aC) bA (yA (c:=aC) (fun _=>rfl) _)) a6) hg.p (Rdb.toOld (ird (A:=A184)) a6) (kj hF.o3) (by rw[hF.r.ec];exact Gb hF.ac D9) aK) rfl ?_);refine ae 185 (v' := aI n) rfl (by rw[hF.r.en];rfl) (rn [23,11,3,27,7,8,1,3,0,14] ?_);refine zC (A:=A7) (((s.pend.take 0).foldl (fun l i=>evV l i 1) l3).map V.c) aP ?_;refine zR (A:=A7) ((s.pend.take 0).foldl (fun l i=>evV l i 1) l3).length aP ?_;refine zF (b:=p.sb) (SC p { g with vA:=A7,vc:=c7,fA:=A111,fc:=l7,oA:=AA111,oc:=i4 } { s with l:=((s.pend.take 0).foldl (fun l i=>evV l i 1) l3),q:=q,m:=m }) aP ?_;refine dP [0,2,8,13] (fun(x:Nat × bU × Nat)=>[(14,aI x.1)]) (fun(x:Nat × bU × Nat)=>(Res.row O7 ag.length Y9 55 3 (ag.map As.cs) :: RSL p { g with vA:=x.2.1,vc:=x.2.2,fA:=A111,fc:=l7,oA:=AA111,oc:=i4 } { s with l:=((s.pend.take x.1).foldl (fun l i=>evV l i 1) l3),q:=q,m:=m })) (fun(x:Nat × bU × Nat)=>x.1≤n) (fun(x:Nat × bU × Nat)=>n-x.1) (0,A7,c7) aW ?_;rintro⟨k,A6,c6⟩ f6;replace f6:k≤n:=f6;refine yB (L' := (Res.row O7 ag.length Y9 55 3 (ag.map As.cs) :: RSL p { g with vA:=A6,vc:=c6,fA:=A111,fc:=l7,oA:=AA111,oc:=i4 } { s with l:=((s.pend.take k).foldl (fun l i=>evV l i 1) l3),q:=q,m:=m })) rfl ?_;refine ae 14 (v' := aI k) rfl rfl ?_;have hnn:=hF.nn;refine rn [8,1,2,2,46,0] ?_;refine zB rfl (fun h8=>?_) (fun h8=>?_)
 ·have f8:k<n:=by have h9:=bW h8;omega
  have hkp:k<s.pend.length:=by omega
  obtain⟨I9,hs1,hfl⟩:=DR hF.p3 hkp;obtain⟨n8,hn8,hnl8⟩:=xF (yL (l:=l3) (i:=s.pend[k]) aK);rw[hF.n3] at hfl hnl8;rw[hn8] at I9 hs1;have C7:((s.pend.take (k+1)).foldl (fun l i=>evV l i 1) l3)=((s.pend.take k).foldl (fun l i=>evV l i 1) l3).set n8 { (ab ((s.pend.take k).foldl (fun l i=>evV l i 1) l3) (n8:Int)) with st:=nxt (ab ((s.pend.take k).foldl (fun l i=>evV l i 1) l3) (n8:Int)).st 1 }:=by rw[wM _ _ hkp,hn8];exact Ey aK aK (by rw[I9];exact hs1)
  refine rn [12,7,8,14,10,2,2,6,4,5,2] ?_;refine s_q (zM (i:=k) rfl rfl rfl (Rdb.ro (A:=({ g with vA:=A6,vc:=c6,fA:=A111,fc:=l7,oA:=AA111,oc:=i4 }:SG).pA) (els:=(({ s with l:=((s.pend.take k).foldl (fun l i=>evV l i 1) l3),q:=q,m:=m }:Eg).pend).map aC) bA (yA (c:=aC) (fun _=>rfl) _)) aN) rfl ?_;refine s_q (zX (i:=k) (o:=0) rfl (Rdb.ro (A:=({ g with vA:=A6,vc:=c6,fA:=A111,fc:=l7,oA:=AA111,oc:=i4 }:SG).pA) (els:=(({ s with l:=((s.pend.take k).foldl (fun l i=>evV l i 1) l3),q:=q,m:=m }:Eg).pend).map aC) bA (yA (c:=aC) (fun _=>rfl) _)) (zP (by first|exact aN|omega|(simp;done))) rfl rfl) rfl ?_;refine ae 198 (v' := aI n8) rfl (by rw[hn8]) ?_;refine aa (zJ _ rfl (fun w1 a6 a8=>by have h7:=rH p ({ g with vA:=A6,vc:=c6,fA:=A111,fc:=l7,oA:=AA111,oc:=i4 }:SG) ({ s with l:=((s.pend.take k).foldl (fun l i=>evV l i 1) l3),q:=q,m:=m }:Eg) (n8) (1) w1 a8 (by show n8<((s.pend.take k).foldl (fun l i=>evV l i 1) l3).length;omega) (by show((s.pend.take k).foldl (fun l i=>evV l i 1) l3).length≤4096;omega) (by show -1000≤(ab ((s.pend.take k).foldl (fun l i=>evV l i 1) l3) (n8:Int)).st∧_;rw[I9];exact hF.s3 n8);exact h7) rfl ?_);rintro⟨A199,X0⟩ _;refine ii (rn [9,15,7,10,2,43,3,9] ?_);refine zC (A:=A199) (((s.pend.take (k+1)).foldl (fun l i=>evV l i 1) l3).map V.c) (by rw[C7]) ?_;refine zR (A:=A199) ((s.pend.take (k+1)).foldl (fun l i=>evV l i 1) l3).length (by rw[C7]) ?_;refine zF (b:=p.sb) (SC p { g with vA:=A199,vc:=X0,fA:=A111,fc:=l7,oA:=AA111,oc:=i4 } { s with l:=((s.pend.take (k+1)).foldl (fun l i=>evV l i 1) l3),q:=q,m:=m }) (by rw[C7]<;>rfl) ?_;exact cr ((k+1),A199,X0) aU
 have f9:k=n:=by have h9:=bX h8;omega
 refine Ru ?_;refine zE (zE (zQ (rn [7,1] ?_)));refine yB (L' := Res.row O7 ag.length Y9 55 3 (ag.map As.cs) :: RSL p { g with vA:=A6,vc:=c6,fA:=A111,fc:=l7,oA:=AA111,oc:=i4 } { s with l:=l4,q:=q,m:=m }) (by rw[hF.r.e4,f9]) (rn [2,2,6,4,5,2] ?_);refine s_q (xB (l:=n) rfl rfl rfl (by have:=hF.nn;omega)) rfl ?_;refine ae 206 (v' := .slice (cz g.pA g.pc n 1) (s.pend.drop n).length (g.pc-n)) rfl (by rw[cS]) (SY ?_);refine aa (zI rfl rfl rfl rfl rfl rfl rfl ?_);refine zF (b:=p.sb) (SC p { g with vA:=A6,vc:=c6,fA:=A111,fc:=l7,oA:=AA111,oc:=i4,pA:=cz g.pA g.pc n 1,pc:=g.pc-n } { s with l:=l4,q:=q,m:=m,pend:=(s.pend.drop n) }) aP ?_;refine qH (A:=g.pA) g.pc n s.pend.length (s.pend.drop n).length ((s.pend.drop n).map aC) hF.nn (cM _) hg.p (by rw[cS]) (by rw[cP aM,List.map_drop]) (Sw ?_);refine bn [19] an rfl (rn [23,0,2,23,1,2,23,2,6,23,3,4,23,4,5,23,5,2,23,6,6,23,7,4,23,8,5,23,9,2,23,10,6,23,11,4] ?_);refine dq 12 rfl (yP (c' := C.c s.c) rfl rfl rfl) ?_;refine dop 13 rfl (zJ [] rfl (fun w1 a6 a8=>by have h7:=lx ({ g with vA:=A6,vc:=c6,fA:=A111,fc:=l7,oA:=AA111,oc:=i4,pA:=cz g.pA g.pc n 1,pc:=g.pc-n }:SG).vA g.mA (({ s with l:=l4,q:=q,m:=m,pend:=(s.pend.drop n) }:Eg).l.length) (({ g with vA:=A6,vc:=c6,fA:=A111,fc:=l7,oA:=AA111,oc:=i4,pA:=cz g.pA g.pc n 1,pc:=g.pc-n }:SG).vc) g.mc s.c.merg.toNat l4 s.mg s.c w1 (Rd.ofRow (A:=({ g with vA:=A6,vc:=c6,fA:=A111,fc:=l7,oA:=AA111,oc:=i4,pA:=cz g.pA g.pc n 1,pc:=g.pc-n }:SG).vA) a6) (Rd.ofRo (A:=({ g with vA:=A6,vc:=c6,fA:=A111,fc:=l7,oA:=AA111,oc:=i4,pA:=cz g.pA g.pc n 1,pc:=g.pc-n }:SG).mA) a6 aK) hg.m (by rw[hF.n4];omega) aK aK hF.o4;rw[sj] at h7;exact h7) rfl ?_);rintro⟨A223,C9,AA223,cc223⟩ _;refine ii ?_;simp only;refine zR (A:=A223) (runM s.c l4 (s.mg.take s.c.merg.toNat)).1.length (by rw[(yG _ _ _).1]) ?_;refine ae 223 (v' := .tuple [.slice A223 (runM s.c l4 (s.mg.take s.c.merg.toNat)).1.length C9,.slice AA223 (runM s.c l4 (s.mg.take s.c.merg.toNat)).2.length cc223].toArray) rfl (by rw[(yG _ _ _).1]) (rn [23,14,2,23,15,40,24,16,40,24,17,6,23,18,4] ?_);refine dop 19 rfl (zI rfl rfl rfl rfl rfl rfl rfl ?_);refine zF (b:=p.sb) (SC p { g with vA:=A223,vc:=C9,fA:=A111,fc:=l7,oA:=AA111,oc:=i4,pA:=cz g.pA g.pc n 1,pc:=g.pc-n } { s with l:=(runM s.c l4 (s.mg.take s.c.merg.toNat)).1,q:=q,m:=m,pend:=(s.pend.drop n) }) aP (rn [28,7,8] ?_);refine bn [19] an rfl (rn [23,0,2,23,1,2,23,2,6,23,3,4,23,4,5,23,5,2,23,6,6,23,7,4,23,8,5,23,9,47,23,10,2,23,11,6,23,12,4,23,13,4,23,14,5,23,15,58] ?_);refine ae 243 (v' := aI (min s.mg.length s.c.merg.toNat)) rfl (by show aH (min ((s.mg.length:Nat):Int) s.c.merg)=_;congr 1;omega) ?_;refine dq 16 rfl (xB (l:=(min s.mg.length s.c.merg.toNat)) rfl rfl rfl (by show(min s.mg.length s.c.merg.toNat)≤s.mg.length;omega)) ?_;refine ae 244 (v' := .slice (cz g.mA g.mc (min s.mg.length s.c.merg.toNat) 2) (s.mg.drop (min s.mg.length s.c.merg.toNat)).length (g.mc-(min s.mg.length s.c.merg.toNat))) rfl (by rw[cS]) (rn [24,17,6,23,18,4] ?_);refine dop 19 rfl (zI rfl rfl rfl rfl rfl rfl rfl (rn [28,7,1] ?_));refine zF (b:=p.sb) (SC p { g with vA:=A223,vc:=C9,fA:=A111,fc:=l7,oA:=AA111,oc:=i4,pA:=cz g.pA g.pc n 1,pc:=g.pc-n,mA:=cz g.mA g.mc (min s.mg.length s.c.merg.toNat) 2,mc:=g.mc-(min s.mg.length s.c.merg.toNat) } { s with l:=(runM s.c l4 (s.mg.take s.c.merg.toNat)).1,q:=q,m:=m,pend:=(s.pend.drop n),mg:=(s.mg.drop (min s.mg.length s.c.merg.toNat)) }) aP ?_;refine qH (A:=g.mA) g.mc (min s.mg.length s.c.merg.toNat) s.mg.length (s.mg.drop (min s.mg.length s.c.merg.toNat)).length ((s.mg.drop (min s.mg.length s.c.merg.toNat)).map PP.c) aK (cM _) hg.m (by rw[cS]) (by rw[cP aM,List.map_drop]) (rn [2,3,0,11] ?_);exact dD rfl rfl fun w' a5=>⟨(({ g with vA:=A223,vc:=C9,fA:=A111,fc:=l7,oA:=AA111,oc:=i4,pA:=cz g.pA g.pc n 1,pc:=g.pc-n,mA:=cz g.mA g.mc (min s.mg.length s.c.merg.toNat) 2,mc:=g.mc-(min s.mg.length s.c.merg.toNat) }:SG),O7,Y9),(by(try dsimp only);exact(rz hF.r p ({ g with vA:=A223,vc:=C9,fA:=A111,fc:=l7,oA:=AA111,oc:=i4,pA:=cz g.pA g.pc n 1,pc:=g.pc-n,mA:=cz g.mA g.mc (min s.mg.length s.c.merg.toNat) 2,mc:=g.mc-(min s.mg.length s.c.merg.toNat) }:SG)).2 ⟨by show(s.pend.drop n).length≤g.pc-n;have:=hg.p;rw[cS];omega,u111,uu111,by show(s.mg.drop (min s.mg.length s.c.merg.toNat)).length≤g.mc-(min s.mg.length s.c.merg.toNat);have:=hg.m;rw[cS];omega,hg.r⟩),rfl,by rw[(rz hF.r p ({ g with vA:=A223,vc:=C9,fA:=A111,fc:=l7,oA:=AA111,oc:=i4,pA:=cz g.pA g.pc n 1,pc:=g.pc-n,mA:=cz g.mA g.mc (min s.mg.length s.c.merg.toNat) 2,mc:=g.mc-(min s.mg.length s.c.merg.toNat) }:SG)).1];exact zA w' a5⟩
end Go.Proofs.YtdddiilocbbkkaaGreat
