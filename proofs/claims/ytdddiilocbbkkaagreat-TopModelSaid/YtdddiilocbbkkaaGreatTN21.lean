/- TopModel: for every configuration and every byte script the law returns true. No condition. -/
import Derived.Test.YtdddiilocbbkkaaGreatTN20
set_option linter.unusedVariables false
set_option linter.unusedSimpArgs false
namespace Go.Proofs.YtdddiilocbbkkaaGreat
open Go.RowKit Go.Eg
set_option maxHeartbeats 4000000
set_option synthInstance.maxSize 3000
set_option maxRecDepth 100000
theorem kr (c:C) (A_b:bU) (Q1:Nat) (b:List Nat) (w:World) (k_c:c.ok) (o_b:Old w A_b b.length 1 (b.map aE)) (h_b:b.length≤Q1∧Q1≤9223372036854775807) (k_b:∀x∈b,(fun x:Nat=>x<256) x):Pur Tryz.prog 5 [c.v,.slice A_b b.length Q1] w (.bool true):=by
 refine Γ Tryz.func5 76 (WOK.start [] _) ?_;obtain⟨bs,hbz⟩:∃z,z=b.take (min b.length 600):=⟨_,rfl⟩
 have hrb:Rd w [] (cz A_b Q1 0 1) (min b.length 600) 1 (bs.map aE):=by
   have h9:Rd w [] A_b b.length 1 (b.map aE):=⟨o_b,by simp[fps]⟩
   have h8:=h9.h (cap:=Q1) (h:=(min b.length 600)) aK h_b.1;rw[←List.map_take,←hbz] at h8;exact h8
 have hbs:∀x∈bs,x<256:=fun x hx=>k_b x (cD (hbz ▸ hx));obtain⟨l,hl⟩:∃z,z=ct bs:=⟨_,rfl⟩
 refine Ri ?_;refine aa (aq rfl rfl rfl fun b2=>rn [3,0,1,2,2,47,58] ?_);refine ae 15 (v' := aI (min b.length 600)) rfl (by show aH (min ((b.length:Nat):Int) 600)=_;congr 1;omega) ?_;refine s_q (xC (h:=(min b.length 600)) rfl rfl rfl aK) rfl ?_;refine aa (zJ [] rfl (fun w1 a6 a8=>by have h7:=su (cz A_b Q1 0 1) (min b.length 600) Q1 bs w1 (Rd.ofRd (L0:=[]) a6 hrb aK) aK aK hbs;rw[←hl] at h7;exact h7) rfl ?_);rintro⟨A17,y5⟩ _;refine ii (rn [3,0,8,1,45,2] ?_);refine aa (zH rfl (fun w1 a6=>AV c A17 l.length y5 w1) rfl (rn [44,2] ?_));refine zS 22 rfl (fun h1=>?_) (fun h1=>?_)
 ·refine rn [21,21,21,41,0,19,1] ?_;refine aa (zH rfl (fun w1 a6=>iC w1) rfl (rn [3,0,11,13] ?_));exact dD rfl rfl fun w' a5=>⟨aP,a5.upd⟩
 have hfit:fz c l.length=true:=Ex h1;obtain⟨hc,q1,q2,q3,q4,q5,q6⟩:=bW hfit;have hmq:=(yM hc).qsize;refine rn [22,2,22,47,22,55,42,0] ?_;refine zB rfl (fun h2=>?_) (fun h2=>?_)
 ·refine Ri ?_;refine aa (zH rfl (fun w1 a6=>iC w1) rfl (rn [3,0,11,13] ?_));exact dD rfl rfl fun w' a5=>⟨aP,a5.upd⟩
 have hb6:b.length≤600:=by have h9:=bX h2;omega
 have hbb:bs=b:=by rw[hbz,cP aK]
 have hlb:l=ct b:=by rw[hl,hbb]
 have X8:=qI b;rw[←hlb] at X8;have hlo:∀y∈l,y.ok:=by rw[hlb];exact qJ k_b _ _
 have H9:(Δ c).blk+l.length<1000000000:=by show 0+l.length<_;omega
 have hiE:Inv (aw (Δ c) l).1:=by rw[←vM];exact(vL (tS hc k_c) hlo H9 l.length (cM _)).1
 refine rn [12,7,1,45,2] ?_;refine aa (zJ [] rfl (fun w1 a6 a8=>by have h7:=lq c A_b b.length Q1 b w1 hc k_c (Rd.ofOld a6 o_b aK aM) aK aK k_b;rw[←hlb] at h7;exact h7) rfl ?_);rintro⟨p31,a31,i8,A31,c31,xs⟩ ⟨hr31,S4⟩;refine ii ?_;simp only at hr31 S4;have hxl:xs.length=l.length:=by have h9:=congrArg List.length S4;rw[cU,←vM,rU _ _ _ (cM _)] at h9;exact h9
 refine Sn ?_;refine aa (zK rfl fun b6=>rn [33] ?_);refine zF (b:=b6) [dC A31 xs.length c31,aI (aw (Δ c) l).1.blk,aH (aw (Δ c) l).1.ep,.slice i8.vA (aw (Δ c) l).1.l.length i8.vc,aJ (aw (Δ c) l).1.dep,aJ (aw (Δ c) l).1.paid,aJ (aw (Δ c) l).1.burn,aJ (dZ (aw (Δ c) l).1.l),.slice i8.pA (aw (Δ c) l).1.pend.length i8.pc,.slice i8.fA (aw (Δ c) l).1.q.f.length i8.fc,.slice i8.oA (aw (Δ c) l).1.q.v.length i8.oc,.slice i8.mA (aw (Δ c) l).1.mg.length i8.mc,.slice i8.rA (aw (Δ c) l).1.pt.length i8.rc,aI (aw (Δ c) l).1.cur,aJ (aw (Δ c) l).1.m.bal,aI (aw (Δ c) l).1.bo.length] aP (rn [3,0,1,45] ?_);refine aa (zJ [] rfl (fun w1 a6 a8=>by have h7:=oK c w1 k_c aK;exact h7) rfl ?_);rintro⟨p,g⟩ k35;refine ii ?_;simp only at k35;refine Sr ?_;refine aa (zJ (RSL p g (Δ c)) rfl (fun w1 a6 a8=>by have h7:=zm p g (Δ c) A17 l.length y5 l w1 a8 (tS hc k_c) k35 (CD c) (Rd.ofRow (A:=A17) a6) hlo H9 q5 aK;exact h7) rfl ?_);rintro⟨i7,A38,c38,ys⟩ ⟨k38,y38⟩;refine ii ?_;simp only at k38 y38;refine rn [3,0,8,1,2,51] ?_;refine zV 40 (b:=false) rfl aM (rn [2,22,4,22,5,22,2] ?_);refine ff rfl rfl (zH rfl (fun w1 a6=>uv A31 A38 c31 c38 xs ys w1 (Rd.ofRow (A:=A31) a6) (Rd.ofRow (A:=A38) a6) (RdX.inStar (xs:=xs) a6) (RdX.inStar (xs:=ys) a6) (y38.trans S4.symm) aK (Du (tS hc k_c) hlo H9 q5 S4)) rfl (rn [22,48] ?_));refine zV 46 (b:=false) rfl (rfl) (rn [42,2,22,4] ?_);refine nh (yP (c' := [aI (aw (Δ c) l).1.blk,aH (aw (Δ c) l).1.ep,.slice i8.vA (aw (Δ c) l).1.l.length i8.vc,aJ (aw (Δ c) l).1.dep,aJ (aw (Δ c) l).1.paid,aJ (aw (Δ c) l).1.burn,aJ (dZ (aw (Δ c) l).1.l),.slice i8.pA (aw (Δ c) l).1.pend.length i8.pc,.slice i8.fA (aw (Δ c) l).1.q.f.length i8.fc,.slice i8.oA (aw (Δ c) l).1.q.v.length i8.oc,.slice i8.mA (aw (Δ c) l).1.mg.length i8.mc,.slice i8.rA (aw (Δ c) l).1.pt.length i8.rc,aI (aw (Δ c) l).1.cur,aJ (aw (Δ c) l).1.m.bal,aI (aw (Δ c) l).1.bo.length]) rfl rfl rfl) rfl rfl rfl (rn [22,2] ?_);refine ff rfl rfl (zN (Res.row i8.vA (aw (Δ c) l).1.l.length i8.vc 52 7 ((aw (Δ c) l).1.l.map V.c) :: Res.row i8.pA (aw (Δ c) l).1.pend.length i8.pc 3 1 ((aw (Δ c) l).1.pend.map aC) :: Res.row i8.fA (aw (Δ c) l).1.q.f.length i8.fc 3 1 ((aw (Δ c) l).1.q.f.map aC) :: Res.row i8.oA (aw (Δ c) l).1.q.v.length i8.oc 3 1 ((aw (Δ c) l).1.q.v.map aC) :: Res.row i8.mA (aw (Δ c) l).1.mg.length i8.mc 106 2 ((aw (Δ c) l).1.mg.map PP.c) :: Res.row i8.rA (aw (Δ c) l).1.pt.length i8.rc 110 2 ((aw (Δ c) l).1.pt.map Rq.c) :: RSL p i7 (aw (Δ c) l).1) rfl (fun w1 a6 a8=>by exact ng p i7 (aw (Δ c) l).1 i8 w1 a8 hiE) rfl ?_);refine rn [22,44] ?_;refine zV 53 (b:=false) rfl aM (rn [42,0,20,12,7,8,1,2,47,2,0,14] ?_);refine dP [4,6,55,56] (fun(x:Nat)=>[(57,aI x)]) (fun(x:Nat)=>[Res.blk b6 60 [dC A31 xs.length c31,aI (aw (Δ c) l).1.blk,aH (aw (Δ c) l).1.ep,.slice i8.vA (aw (Δ c) l).1.l.length i8.vc,aJ (aw (Δ c) l).1.dep,aJ (aw (Δ c) l).1.paid,aJ (aw (Δ c) l).1.burn,aJ (dZ (aw (Δ c) l).1.l),.slice i8.pA (aw (Δ c) l).1.pend.length i8.pc,.slice i8.fA (aw (Δ c) l).1.q.f.length i8.fc,.slice i8.oA (aw (Δ c) l).1.q.v.length i8.oc,.slice i8.mA (aw (Δ c) l).1.mg.length i8.mc,.slice i8.rA (aw (Δ c) l).1.pt.length i8.rc,aI (aw (Δ c) l).1.cur,aJ (aw (Δ c) l).1.m.bal,aI (aw (Δ c) l).1.bo.length],Res.row A31 xs.length c31 47 9 (xs.map RX.c),Res.row A17 l.length y5 35 4 (l.map Op.c)]) (fun(x:Nat)=>x≤l.length) (fun(x:Nat)=>l.length-x) 0 aW ?_;rintro k f6;replace f6:k≤l.length:=f6;refine Rj ?_;refine zB rfl (fun h3=>?_) (fun h3=>?_)
 ·have f8:k<l.length:=by have h9:=bW h3;omega
  obtain⟨yk,D4⟩:∃z,z=l[k]:=⟨_,rfl⟩
  obtain⟨xk,hxk⟩:∃z,z=xs[k]:=⟨_,rfl⟩
  refine rn [12,7,8,14,1,2] ?_;refine s_q (zM (i:=k) rfl rfl rfl (ird (A:=A17)) aN) rfl ?_;refine s_q (zU (i:=k) rfl (ird (A:=A17)) (zP aT) rfl) rfl ?_;refine aa (zK rfl fun p5=>rn [3,33] ?_);refine zF (b:=p5) (Op.c yk) (by rw[D4]) (rn [0,1,4,5,44,2] ?_);refine zS 65 rfl (fun h4=>?_) (fun h4=>?_)
  ·have s8:yk.k=0:=bW h4;have u3:xk.r.code=11:=by rw[hxk];exact Bl S4 aK f8 (by rw[←D4];exact s8)
   refine rn [22,4,22,5,22,2] ?_;refine nh (zM (i:=k) rfl rfl rfl (ird (A:=A31)) aN) rfl rfl rfl (rn [22,4] ?_);refine nh (zX (i:=k) (o:=1) rfl (ird (A:=A31)) (zP aT) rfl rfl) rfl rfl rfl ?_;refine ae 71 (v' := aH 11) rfl (by rw[←u3,hxk]) (rn [22,51] ?_);refine zV 72 (b:=false) rfl aM (rn [41,0,20,12,15,7,10,43,2,9] ?_);exact cr (k+1) aU
  refine rn [21,21,21,21,21,21,21,42,0,20,12,15,7,10,43,2,9] ?_;exact cr (k+1) aU
 have f9:k=l.length:=by have h9:=bX h3;omega
 refine Ru ?_;refine zE (zE (zQ (rn [7,1] ?_)));refine aa (zH rfl (fun w1 a6=>iC w1) rfl (Rb ?_));exact dD rfl rfl fun w' a5=>⟨aP,a5.upd⟩
theorem jQ (v0:Value) (v1:Value) (W:World) (a0:Arg Tryz.prog W 24 v0) (a1:Arg Tryz.prog W 56 v1):Pur Tryz.prog 5 [v0,v1] W (.bool true):=by
 obtain⟨cs,rfl,f,h⟩:=Arg.agg Tryz.underlying24 a0;obtain⟨c,rfl,k_c⟩:=Fr f cs h;obtain⟨A_b,Q1,b,rfl,hle1,hm1,o_b,k_b⟩:=Arg.slice aE (fun x:Nat=>x<256) Tryz.underlying56 (show Tryz.prog.cellsOf 5=1 by kernel_rfl) aK (fun f cs h=>Fs Tryz.underlying5 h) a1;have h_b:b.length≤Q1∧Q1≤9223372036854775807:=⟨hle1,by unfold maxLen at hm1;omega⟩
 exact kr c A_b Q1 b W k_c o_b h_b k_b
namespace LawTopModel
open Go.ChangeShapes Go.WideShapes Go.ChangeAt Go.RowKit Go.Eg YtdddiilocbbkkaaGreat.Tryz
theorem own:ownKnob Tryz.prog.godebug=none:=by kernel_rfl
theorem qq:laidOutB Tryz.prog=true:=by kernel_rfl
theorem lifted (os:Os) (started:os.Started) (H:Type) (enc:TypeId × Value→H) :
  ReturnsInHanded {} Tryz.checked os 5 .any (Rows.topModelSpec.pre6 enc Tryz.prog Tryz.f5 Rows.topModelRow.domain false) (Rows.topModelSpec.post enc Tryz.prog Tryz.f5 false true false false):=by
 refine returnsInHanded_of_change (C:=Tryz.checked) own started aL Tryz.func5
  (ChangeSpec.witness6 (enc:=enc) (C:=Tryz.checked) false ⟨#[],#[.agg #[aH 0,aH 0,aJ 0,aJ 0,aJ 0,aJ 0,aJ 0,aJ 0,aJ 0,aJ 0,aH 0,aH 0,aH 0,aH 0,aH 0,aH 0,aH 0,aH 0,aJ 0,aJ 0],.slice none 0 0],[]⟩ 8 aL aL aL aL) ?_
 intro W X4 args ds gs before hval0 hW hcnd _;have hval:∀(j:Nat) t v,Tryz.f5.params[j]?=some t→args[j]?=some v→Value.okWide Tryz.prog W .any X4 t v:=hval0;have hW' := hW;obtain⟨p,q,hA0,hV,rfl,hfz,hnd⟩:=hW;have hA:DataW.TrodAll enc Tryz.prog W 0 (fun _=>true) true Tryz.f5.params.toList args.toList ds p:=hA0;rw[Tryz.params5] at hA hval;obtain⟨v0,vs0,d0,ds0,p0,q0,hargs,rfl,rfl,h0,r0⟩:=trodAll_cons hA;obtain⟨v1,vs1,d1,ds1,p1,q1,rfl,rfl,rfl,h1,r1⟩:=trodAll_cons r0;obtain⟨rfl,rfl,rfl⟩:=trodAll_nil r1;obtain rfl:args = #[v0,v1]:=by cases args;simp_all
 obtain⟨rfl,rfl⟩:=trodVars_none hV;have a0:=Arg.of h0 (hval 0 24 v0 rfl rfl);have lt0:∀x∈p0,x.block<W.heap.size:=by obtain⟨m,hm⟩:=h0;exact DataW.trod_lt m _ _ _ hm
 have a1:=Arg.of h1 (hval 1 56 v1 rfl rfl);have lt1:∀x∈p1,x.block<W.heap.size:=by obtain⟨m,hm⟩:=h1;exact DataW.trod_lt m _ _ _ hm
 clear hA0 hval0;simp only[cZ] at hW';refine Calls.mono (jQ v0 v1 W a0 a1) ?_;rintro e W' ⟨v,rfl,rfl,hu⟩;have bel:=hu.below;have targ:=(trodAll_cons_mk (Below.trod qq aL (bW aL) h0 bel lt0) (trodAll_cons_mk (Below.trod qq aL (bW aL) h1 bel lt1) trodAll_mk0))
 simp only[cZ] at targ;exact⟨_,rfl,_,_,_,[],_,[],hW',trodAll_mk1 (shut_bool Tryz.underlying4 _),targ,rfl,bel.frame _,fun h=>by cases h⟩
theorem eH {a b:Bool} (ha:a=true) (hb:b=true):(a && b)=true:=by rw[ha,hb];rfl
theorem jf0:(Rows.topModelRow.wf (OpenSpec.ofChange Rows.topModelSpec))=true:=by kernel_rfl
theorem jf1:(laidOutB pinned.checked.prog)=true:=by kernel_rfl
theorem jf2:(mapsRowed pinned.checked.prog)=true:=by kernel_rfl
theorem jf3:(Tryz.f5.params.all (pinned.checked.prog.readableRec ·))=true:=by kernel_rfl
theorem jf4:(namedTie pinned.checked.prog Rows.topModelRow.named Rows.topModelSpec.vars)=true:=by kernel_rfl
theorem jf5:(Rows.topModelRow.stops == [])=true:=by kernel_rfl
theorem jf6:(pinned.checked.prog.stops == [])=true:=by kernel_rfl
theorem jf7:(Rows.topModelRow.knobs == [])=true:=by kernel_rfl
theorem jf8:(pinned.checked.prog.stopKnobs == [])=true:=by kernel_rfl
theorem jf9:(Rows.topModelRow.inPlace == pinned.checked.prog.inPlace 5)=true:=by kernel_rfl
theorem Hl:(Rows.topModelRow.unfollowed == pinned.checked.prog.unfollowed 5)=true:=by kernel_rfl
theorem Hk:(Rows.topModelRow.recurses == pinned.checked.prog.recurses 5)=true:=by kernel_rfl
theorem Hj:(Rows.topModelRow.named == pinned.checked.prog.varsNamed 5)=true:=by kernel_rfl
theorem Hi:(Rows.topModelRow.maps == (Tryz.f5.params.toList++Rows.topModelSpec.plain.varTypes pinned.checked.prog).any (pinned.checked.prog.mapsRec ·))=true:=by kernel_rfl
theorem Hh:(Rows.topModelRow.ifaces == (Tryz.f5.params.toList++Rows.topModelSpec.plain.varTypes pinned.checked.prog).any (pinned.checked.prog.ifacesRec ·))=true:=by kernel_rfl
theorem Hg:(Rows.topModelRow.mapsOut == pinned.checked.prog.mapsAmong Tryz.f5.resultTypes.toList)=true:=by kernel_rfl
theorem Hf:(Rows.topModelRow.loops == (Tryz.f5.params.toList++Rows.topModelSpec.plain.varTypes pinned.checked.prog).any (pinned.checked.prog.loopsFrom ·))=true:=by kernel_rfl
theorem He:(Rows.topModelRow.wideKeys == (Tryz.f5.params.toList++Rows.topModelSpec.plain.varTypes pinned.checked.prog++Tryz.f5.resultTypes.toList).any (pinned.checked.prog.wideKeysFrom ·))=true:=by kernel_rfl
theorem Hd:(Rows.topModelSpec.vars.all (pinned.checked.prog.varReadable ·))=true:=by kernel_rfl
theorem Hc:(Tryz.f5.resultTypes.all (fun t=>pinned.checked.prog.readableRec t && decide (t<pinned.checked.prog.types.size)))=true:=by kernel_rfl
theorem Hb:(Rows.topModelRow.ifacesOut == Tryz.f5.resultTypes.toList.any (pinned.checked.prog.ifacesRec ·))=true:=by kernel_rfl
theorem Ha:(Rows.topModelRow.loopsOut == Tryz.f5.resultTypes.toList.any (pinned.checked.prog.loopsFrom ·))=true:=by kernel_rfl
theorem HZ:(Rows.topModelRow.plainKeys == pinned.checked.prog.plainKeys)=true:=by kernel_rfl
theorem HY:(Rows.topModelRow.shortTexts.isNone)=true:=by kernel_rfl
theorem HX:(pinned.checked.prog.stopsHeard)=true:=by kernel_rfl
theorem HW:(pinned.checked.prog.mayEnter)=true:=by kernel_rfl
theorem HV:(Rows.topModelRow.lifted == pinned.checked.prog.liftsFinal)=true:=by kernel_rfl
theorem HU:(pinned.checked.prog.make == some Rows.topModelRow.make)=true:=by kernel_rfl
theorem HT:(Rows.topModelRow.kinds == (if Rows.topModelRow.domain.isEmpty then [] else Tryz.f5.params.toList.map fun t=>match pinned.checked.prog.underlying t with|some (.int k)=>some k|_=>none))=true:=by kernel_rfl
theorem HS:(Rows.topModelRow.pinned == Rows.topModelRow.pinnedBy)=true:=by kernel_rfl
theorem HR:(Rows.topModelRow.veiled == (Tryz.f5.params.toList++Rows.topModelSpec.plain.varTypes pinned.checked.prog++Tryz.f5.resultTypes.toList).any (pinned.checked.prog.veiledRec ·))=true:=by kernel_rfl
theorem HQ:(Rows.topModelRow.veiledFits pinned.checked.prog Tryz.f5.params.toList (Tryz.f5.params.toList++Rows.topModelSpec.plain.varTypes pinned.checked.prog++Tryz.f5.resultTypes.toList))=true:=by kernel_rfl
theorem closed:joinedFacts pinned.checked.prog 5 Tryz.f5 Rows.topModelSpec Rows.topModelRow=true:=eH (eH (eH (eH (eH (eH (eH (eH (eH (eH (eH (eH (eH (eH (eH (eH (eH (eH (eH (eH (eH (eH (eH (eH (eH (eH (eH (eH (eH (eH (eH jf0 jf1) jf2) jf3) jf4) jf5) jf6) jf7) jf8) jf9) Hl) Hk) Hj) Hi) Hh) Hg) Hf) He) Hd) Hc) Hb) Ha) HZ) HY) HX) HW) HV) HU) HT) HS) HR) HQ
theorem HE:Rows.topModelRow.holds Tryz.pinned (OpenSpec.ofChange Rows.topModelSpec) :=
 OpenClaim.holds_of_wide 5 Tryz.f5 rfl rfl rfl rfl rfl rfl rfl ⟨rfl,rfl,rfl,rfl,rfl⟩ rfl rfl rfl rfl rfl aL Tryz.func5 closed
  (bW aL) (by unfold Func.isWrapper;first|(rw[bZ bH];kernel_rfl)|(rw[bY bH];exact⟨rfl,rfl⟩))
  (fun os started H enc _=>lifted os started H enc)
theorem proved:Rows.TopModelSaid:=HE
end LawTopModel
end Go.Proofs.YtdddiilocbbkkaaGreat
