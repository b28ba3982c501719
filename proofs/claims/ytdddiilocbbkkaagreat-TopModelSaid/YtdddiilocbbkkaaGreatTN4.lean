/- TopModel, part 4. No condition. -/
import Derived.Test.YtdddiilocbbkkaaGreatTN3
set_option linter.unusedVariables false
set_option linter.unusedSimpArgs false
namespace Go.Proofs.YtdddiilocbbkkaaGreat
open Go.RowKit Go.Eg
set_option maxHeartbeats 4000000
set_option synthInstance.maxSize 3000
set_option maxRecDepth 100000
structure V where
 bal:Int
 st:Int
 sl:Bool
 rq:Int
 ex:Int
 wd:Int
 dl:Int
 deriving DecidableEq
def V.c (x:V):List Value:=[aJ x.bal,aH x.st,.bool x.sl,aH x.rq,aH x.ex,aH x.wd,aH x.dl]
def V.v (x:V):Value:=.agg x.c.toArray
structure V.ok (x:V):Prop where
 bal:0≤x.bal∧x.bal≤18446744073709551615
 st:-9223372036854775808≤x.st∧x.st≤9223372036854775807
 rq:-9223372036854775808≤x.rq∧x.rq≤9223372036854775807
 ex:-9223372036854775808≤x.ex∧x.ex≤9223372036854775807
 wd:-9223372036854775808≤x.wd∧x.wd≤9223372036854775807
 dl:-9223372036854775808≤x.dl∧x.dl≤9223372036854775807
theorem V.ext_iff' (x y:V):x=y↔(x.bal=y.bal∧x.st=y.st∧x.sl=y.sl∧x.rq=y.rq∧x.ex=y.ex∧x.wd=y.wd∧x.dl=y.dl):=by
 cases x;cases y;simp
structure C where
 capa:Int
 qsize:Int
 mind:Int
 maxd:Int
 supc:Int
 minb:Int
 maxb:Int
 minch:Int
 quot:Int
 fcap:Int
 unb:Int
 sld:Int
 rlen:Int
 elen:Int
 vis:Int
 pays:Int
 parts:Int
 merg:Int
 pnum:Int
 pden:Int
 deriving DecidableEq
def C.c (x:C):List Value:=[aH x.capa,aH x.qsize,aJ x.mind,aJ x.maxd,aJ x.supc,aJ x.minb,aJ x.maxb,aJ x.minch,aJ x.quot,aJ x.fcap,aH x.unb,aH x.sld,aH x.rlen,aH x.elen,aH x.vis,aH x.pays,aH x.parts,aH x.merg,aJ x.pnum,aJ x.pden]
def C.v (x:C):Value:=.agg x.c.toArray
structure C.ok (x:C):Prop where
 capa:-9223372036854775808≤x.capa∧x.capa≤9223372036854775807
 qsize:-9223372036854775808≤x.qsize∧x.qsize≤9223372036854775807
 mind:0≤x.mind∧x.mind≤18446744073709551615
 maxd:0≤x.maxd∧x.maxd≤18446744073709551615
 supc:0≤x.supc∧x.supc≤18446744073709551615
 minb:0≤x.minb∧x.minb≤18446744073709551615
 maxb:0≤x.maxb∧x.maxb≤18446744073709551615
 minch:0≤x.minch∧x.minch≤18446744073709551615
 quot:0≤x.quot∧x.quot≤18446744073709551615
 fcap:0≤x.fcap∧x.fcap≤18446744073709551615
 unb:-9223372036854775808≤x.unb∧x.unb≤9223372036854775807
 sld:-9223372036854775808≤x.sld∧x.sld≤9223372036854775807
 rlen:-9223372036854775808≤x.rlen∧x.rlen≤9223372036854775807
 elen:-9223372036854775808≤x.elen∧x.elen≤9223372036854775807
 vis:-9223372036854775808≤x.vis∧x.vis≤9223372036854775807
 pays:-9223372036854775808≤x.pays∧x.pays≤9223372036854775807
 parts:-9223372036854775808≤x.parts∧x.parts≤9223372036854775807
 merg:-9223372036854775808≤x.merg∧x.merg≤9223372036854775807
 pnum:0≤x.pnum∧x.pnum≤18446744073709551615
 pden:0≤x.pden∧x.pden≤18446744073709551615
theorem Fr {w:World} (f:Nat) (cs:List Value) (h:OKc Tryz.prog w f 24 cs):∃x:C,cs=x.c∧x.ok:=by
 obtain⟨f,hl,h⟩:=OKc.struct Tryz.underlying24 h;have hT:Tryz.prog.cellsOf 24=20:=by kernel_rfl
 have hc3:Tryz.prog.cellsOf 3=1:=by kernel_rfl
 have hc22:Tryz.prog.cellsOf 22=1:=by kernel_rfl
 rw[hT] at hl;obtain⟨c0,c1,c2,c3,c4,c5,c6,c7,c8,c9,c10,c11,c12,c13,c14,c15,c16,c17,c18,K4,rfl⟩:∃c0 c1 c2 c3 c4 c5 c6 c7 c8 c9 c10 c11 c12 c13 c14 c15 c16 c17 c18 K4:Value,cs=[c0,c1,c2,c3,c4,c5,c6,c7,c8,c9,c10,c11,c12,c13,c14,c15,c16,c17,c18,K4]:=by
  match cs,hl with
  | [c0,c1,c2,c3,c4,c5,c6,c7,c8,c9,c10,c11,c12,c13,c14,c15,c16,c17,c18,K4],_=>exact⟨_,_,_,_,_,_,_,_,_,_,_,_,_,_,_,_,_,_,_,_,rfl⟩
 simp only[cH,cE,or_false,forall_eq_or_imp,forall_eq,hc3,hc22,List.drop_zero,List.drop_succ_cons,List.take_succ_cons,List.take_zero] at h;obtain⟨h0,h1,h2,h3,h4,h5,h6,h7,h8,h9,K3,K1,P8,P7,Y3,Y2,h16,h17,h18,h19⟩:=h;obtain⟨x0,e0,r0⟩:=OKc.int Tryz.underlying3 h0;obtain rfl:c0=_:=by simpa using e0
 obtain⟨x1,e1,r1⟩:=OKc.int Tryz.underlying3 h1;obtain rfl:c1=_:=by simpa using e1
 obtain⟨x2,e2,r2⟩:=OKc.int Tryz.underlying22 h2;obtain rfl:c2=_:=by simpa using e2
 obtain⟨x3,e3,r3⟩:=OKc.int Tryz.underlying22 h3;obtain rfl:c3=_:=by simpa using e3
 obtain⟨x4,e4,r4⟩:=OKc.int Tryz.underlying22 h4;obtain rfl:c4=_:=by simpa using e4
 obtain⟨x5,e5,r5⟩:=OKc.int Tryz.underlying22 h5;obtain rfl:c5=_:=by simpa using e5
 obtain⟨x6,e6,r6⟩:=OKc.int Tryz.underlying22 h6;obtain rfl:c6=_:=by simpa using e6
 obtain⟨x7,e7,r7⟩:=OKc.int Tryz.underlying22 h7;obtain rfl:c7=_:=by simpa using e7
 obtain⟨x8,e8,r8⟩:=OKc.int Tryz.underlying22 h8;obtain rfl:c8=_:=by simpa using e8
 obtain⟨x9,e9,r9⟩:=OKc.int Tryz.underlying22 h9;obtain rfl:c9=_:=by simpa using e9
 obtain⟨x10,e10,r10⟩:=OKc.int Tryz.underlying3 K3;obtain rfl:c10=_:=by simpa using e10
 obtain⟨x11,e11,r11⟩:=OKc.int Tryz.underlying3 K1;obtain rfl:c11=_:=by simpa using e11
 obtain⟨x12,e12,r12⟩:=OKc.int Tryz.underlying3 P8;obtain rfl:c12=_:=by simpa using e12
 obtain⟨x13,e13,r13⟩:=OKc.int Tryz.underlying3 P7;obtain rfl:c13=_:=by simpa using e13
 obtain⟨x14,e14,r14⟩:=OKc.int Tryz.underlying3 Y3;obtain rfl:c14=_:=by simpa using e14
 obtain⟨x15,e15,r15⟩:=OKc.int Tryz.underlying3 Y2;obtain rfl:c15=_:=by simpa using e15
 obtain⟨x16,e16,r16⟩:=OKc.int Tryz.underlying3 h16;obtain rfl:c16=_:=by simpa using e16
 obtain⟨x17,e17,r17⟩:=OKc.int Tryz.underlying3 h17;obtain rfl:c17=_:=by simpa using e17
 obtain⟨x18,e18,N6⟩:=OKc.int Tryz.underlying22 h18;obtain rfl:c18=_:=by simpa using e18
 obtain⟨u5,e19,N5⟩:=OKc.int Tryz.underlying22 h19;obtain rfl:K4=_:=by simpa using e19
 exact⟨⟨x0,x1,x2,x3,x4,x5,x6,x7,x8,x9,x10,x11,x12,x13,x14,x15,x16,x17,x18,u5⟩,rfl,⟨r0,r1,r2,r3,r4,r5,r6,r7,r8,r9,r10,r11,r12,r13,r14,r15,r16,r17,N6,N5⟩⟩
structure Op where
 k:Int
 i:Int
 t:Int
 a:Int
 deriving DecidableEq
def Op.c (x:Op):List Value:=[aH x.k,aH x.i,aH x.t,aJ x.a]
def Op.v (x:Op):Value:=.agg x.c.toArray
structure Op.ok (x:Op):Prop where
 k:-9223372036854775808≤x.k∧x.k≤9223372036854775807
 i:-9223372036854775808≤x.i∧x.i≤9223372036854775807
 t:-9223372036854775808≤x.t∧x.t≤9223372036854775807
 a:0≤x.a∧x.a≤18446744073709551615
theorem Op.ext_iff' (x y:Op):x=y↔(x.k=y.k∧x.i=y.i∧x.t=y.t∧x.a=y.a):=by
 cases x;cases y;simp
structure En where
 e:Int
 i:Int
 deriving DecidableEq
def En.c (x:En):List Value:=[aH x.e,aH x.i]
structure Rq where
 i:Int
 m:Int
 deriving DecidableEq
def Rq.c (x:Rq):List Value:=[aH x.i,aJ x.m]
structure PP where
 a:Int
 b:Int
def PP.c (x:PP):List Value:=[aH x.a,aH x.b]
def Cw:C:=⟨16,8,16,64,1024,8,128,32,4,64,2,5,4,4,6,4,2,2,1,4⟩
theorem Ad (w:World):Pur Tryz.prog 30 [] w (Cw.v):=by
 refine Γ Tryz.func30 2 (WOK.start [] _) ?_;refine Ri ?_;refine aa (zK rfl fun b0=>rn [0,1] ?_);refine s_q (yF (c:=Cw.c) rfl rfl) rfl (Rp ?_);exact eO rfl (.cellw rfl rfl) (fun w' hw=>⟨aP,hw.upd⟩) _ (.inl rfl)
def btw (n lo hi:Int):Bool:=decide (lo≤n) && decide (n≤hi)
def ar (c:C) (i:Int):Bool :=
 if i=1 then btw c.capa 1 4096 else if i=2 then btw c.qsize 1 4096 else if i=3 then decide (1≤c.mind) else if i=4 then decide (c.mind≤c.maxd)
 else if i=5 then decide (c.maxd≤c.supc) && decide (c.supc≤1152921504606846976) else if i=6 then decide (1≤c.minb) && decide (c.minb≤c.mind)
 else if i=7 then decide (c.maxd≤c.maxb) && decide (c.maxb≤c.supc) else if i=8 then decide (1≤c.minch) && decide (c.minch≤1152921504606846976)
 else if i=9 then decide (1≤c.quot) else if i=10 then decide (c.fcap≤1152921504606846976) else if i=11 then btw c.unb 1 1048576
 else if i=12 then decide (c.unb<c.sld) && decide (c.sld≤1048576) else if i=13 then btw c.rlen 1 4096 else if i=14 then btw c.elen 1 4096
 else if i=15 then btw c.vis 1 4096 else if i=16 then btw c.pays 1 4096 else if i=17 then decide (0≤c.parts) && (decide (c.parts<c.vis) && decide (c.parts<c.pays))
 else if i=18 then btw c.merg 0 4096 else if i=19 then decide (c.pnum≤c.pden) else decide (1≤c.pden) && decide (c.pden≤4294967296)
def oa (c:C):Nat→Nat→Int
 | 0,_=>0
 | f+1,i=>if ar c i then oa c f (i+1) else i
def chk (c:C):Int:=oa c 20 1
theorem jD {c:C}:∀{f i:Nat},oa c f i=0→0<i→∀j,i≤j→j<i+f→ar c j=true
 | 0,i,_,_,j,h1,h2=>by omega
 | f+1,i,h,hi,j,h1,h2=>by
  unfold oa at h;split at h
  ·by_cases hj:j=i
   ·subst hj;assumption
   exact jD h aK j aK aK
  omega
theorem yC {c:C} (h:chk c=0) (j:Nat) (h1:1≤j) (h2:j≤20):ar c j=true:=jD h aK j h1 aK
theorem vY (n lo hi:Int) (w:World):Pur Tryz.prog 140 [aH n,aH lo,aH hi] w (.bool (btw n lo hi)):=by
 refine Γ Tryz.func140 15 (WOK.start [] _) ?_;refine rn [1,3,0,1,2,2,56,2] ?_;refine zS 10 rfl (fun h1=>?_) (fun h1=>?_)
 ·refine rn [22,2,22,2,22,56,41,3,0,11] ?_;exact eO rfl (.tmp rfl) (fun w' hw=>⟨by first|rfl|(simp_all[btw];done)|(simp_all[btw];omega)|(simp_all[btw]<;>intros<;>omega),hw.upd⟩) _ (.inl rfl)
 refine Sh ?_;exact eO rfl (.tmp rfl) (fun w' hw=>⟨by first|rfl|(simp_all[btw];done)|(simp_all[btw];omega)|(simp_all[btw]<;>intros<;>omega),hw.upd⟩) _ (.inl rfl)
theorem sy (c:C) (i:Int) (w:World):Pur Tryz.prog 85 [c.v,aH i] w (.bool (ar c i)):=by
 refine Γ Tryz.func85 166 (WOK.start [] _) ?_;refine Ri ?_;refine aa (aq rfl rfl rfl fun b2=>rn [3,0,1,3,0,8,1,2,0,14,1,44,3,0] ?_);refine zB rfl (fun h1=>?_) (fun h1=>?_)
 ·refine rn [1,4,5] ?_;refine aa (zH rfl (fun w hw=>vY _ _ _ w) rfl (Rb ?_));refine zL (zD ?_);exact eO rfl (.tmp rfl) (fun w' hw=>⟨by first|rfl|(simp_all[ar];done)|(simp_all[ar];omega)|(simp_all[ar]<;>intros<;>omega),hw.upd⟩) _ (.inl rfl)
 refine Rr ?_;refine zB rfl (fun h2=>?_) (fun h2=>?_)
 ·refine rn [1,4,5] ?_;refine aa (zH rfl (fun w hw=>vY _ _ _ w) rfl (Rb ?_));refine zL (zD ?_);exact eO rfl (.tmp rfl) (fun w' hw=>⟨by first|rfl|(simp_all[ar];done)|(simp_all[ar];omega)|(simp_all[ar]<;>intros<;>omega),hw.upd⟩) _ (.inl rfl)
 refine Rr ?_;refine zB rfl (fun h3=>?_) (fun h3=>?_)
 ·refine rn [1,4,5,53,3,0,11] ?_;refine zL (zD ?_);exact eO rfl (.tmp rfl) (fun w' hw=>⟨by first|rfl|(simp_all[ar];done)|(simp_all[ar];omega)|(simp_all[ar]<;>intros<;>omega),hw.upd⟩) _ (.inl rfl)
 refine Rr ?_;refine zB rfl (fun h4=>?_) (fun h4=>?_)
 ·refine rn [1,4,5,4,5,53,3,0,11] ?_;refine zL (zD ?_);exact eO rfl (.tmp rfl) (fun w' hw=>⟨by first|rfl|(simp_all[ar];done)|(simp_all[ar];omega)|(simp_all[ar]<;>intros<;>omega),hw.upd⟩) _ (.inl rfl)
 refine Rr ?_;refine zB rfl (fun h5=>?_) (fun h5=>?_)
 ·refine rn [1,4,5,4,5,53,2] ?_;refine zS 36 rfl (fun h6=>?_) (fun h6=>?_)
  ·refine rn [22,4,22,5,22,2,22,56,41,3,0,11] ?_;refine zL (zD ?_);exact eO rfl (.tmp rfl) (fun w' hw=>⟨by first|rfl|(simp_all[ar];done)|(simp_all[ar];omega)|(simp_all[ar]<;>intros<;>omega),hw.upd⟩) _ (.inl rfl)
  refine rn [21,21,21,21,42,3,0,11] ?_;refine zL (zD ?_);exact eO rfl (.tmp rfl) (fun w' hw=>⟨by first|rfl|(simp_all[ar];done)|(simp_all[ar];omega)|(simp_all[ar]<;>intros<;>omega),hw.upd⟩) _ (.inl rfl)
 refine Rr ?_;refine zB rfl (fun h7=>?_) (fun h7=>?_)
 ·refine rn [1,4,5,53,2] ?_;refine zS 47 rfl (fun h8=>?_) (fun h8=>?_)
  ·refine rn [22,4,22,5,22,4,22,5,22,56,41,3,0,11] ?_;refine zL (zD ?_);exact eO rfl (.tmp rfl) (fun w' hw=>⟨by first|rfl|(simp_all[ar];done)|(simp_all[ar];omega)|(simp_all[ar]<;>intros<;>omega),hw.upd⟩) _ (.inl rfl)
  refine rn [21,21,21,21,21,42,3,0,11] ?_;refine zL (zD ?_);exact eO rfl (.tmp rfl) (fun w' hw=>⟨by first|rfl|(simp_all[ar];done)|(simp_all[ar];omega)|(simp_all[ar]<;>intros<;>omega),hw.upd⟩) _ (.inl rfl)
 refine Rr ?_;refine zB rfl (fun h9=>?_) (fun h9=>?_)
 ·refine rn [1,4,5,4,5,53,2] ?_;refine zS 61 rfl (fun K3=>?_) (fun K3=>?_)
  ·refine rn [22,4,22,5,22,4,22,5,22,56,41,3,0,11] ?_;refine zL (zD ?_);exact eO rfl (.tmp rfl) (fun w' hw=>⟨by first|rfl|(simp_all[ar];done)|(simp_all[ar];omega)|(simp_all[ar]<;>intros<;>omega),hw.upd⟩) _ (.inl rfl)
  refine rn [21,21,21,21,21,42,3,0,11] ?_;refine zL (zD ?_);exact eO rfl (.tmp rfl) (fun w' hw=>⟨by first|rfl|(simp_all[ar];done)|(simp_all[ar];omega)|(simp_all[ar]<;>intros<;>omega),hw.upd⟩) _ (.inl rfl)
 refine Rr ?_;refine zB rfl (fun K1=>?_) (fun K1=>?_)
 ·refine rn [1,4,5,53,2] ?_;refine zS 73 rfl (fun P8=>?_) (fun P8=>?_)
  ·refine rn [22,4,22,5,22,2,22,56,41,3,0,11] ?_;refine zL (zD ?_);exact eO rfl (.tmp rfl) (fun w' hw=>⟨by first|rfl|(simp_all[ar];done)|(simp_all[ar];omega)|(simp_all[ar]<;>intros<;>omega),hw.upd⟩) _ (.inl rfl)
  refine rn [21,21,21,21,42,3,0,11] ?_;refine zL (zD ?_);exact eO rfl (.tmp rfl) (fun w' hw=>⟨by first|rfl|(simp_all[ar];done)|(simp_all[ar];omega)|(simp_all[ar]<;>intros<;>omega),hw.upd⟩) _ (.inl rfl)
 refine Rr ?_;refine zB rfl (fun P7=>?_) (fun P7=>?_)
 ·refine rn [1,4,5,53,3,0,11] ?_;refine zL (zD ?_);exact eO rfl (.tmp rfl) (fun w' hw=>⟨by first|rfl|(simp_all[ar];done)|(simp_all[ar];omega)|(simp_all[ar]<;>intros<;>omega),hw.upd⟩) _ (.inl rfl)
 refine Rr ?_;refine zB rfl (fun Y3=>?_) (fun Y3=>?_)
 ·refine rn [1,4,5,2,56,3,0,11] ?_;refine zL (zD ?_);exact eO rfl (.tmp rfl) (fun w' hw=>⟨by first|rfl|(simp_all[ar];done)|(simp_all[ar];omega)|(simp_all[ar]<;>intros<;>omega),hw.upd⟩) _ (.inl rfl)
 refine Rr ?_;refine zB rfl (fun Y2=>?_) (fun Y2=>?_)
 ·refine rn [1,4,5] ?_;refine aa (zH rfl (fun w hw=>vY _ _ _ w) rfl (Rb ?_));refine zL (zD ?_);exact eO rfl (.tmp rfl) (fun w' hw=>⟨by first|rfl|(simp_all[ar];done)|(simp_all[ar];omega)|(simp_all[ar]<;>intros<;>omega),hw.upd⟩) _ (.inl rfl)
 refine Rr ?_;refine zB rfl (fun h16=>?_) (fun h16=>?_)
 ·refine rn [1,4,5,4,5,55,2] ?_;refine zS 102 rfl (fun h17=>?_) (fun h17=>?_)
  ·refine rn [22,4,22,5,22,56,41,3,0,11] ?_;refine zL (zD ?_);exact eO rfl (.tmp rfl) (fun w' hw=>⟨by first|rfl|(simp_all[ar];done)|(simp_all[ar];omega)|(simp_all[ar]<;>intros<;>omega),hw.upd⟩) _ (.inl rfl)
  refine Sh ?_;refine zL (zD ?_);exact eO rfl (.tmp rfl) (fun w' hw=>⟨by first|rfl|(simp_all[ar];done)|(simp_all[ar];omega)|(simp_all[ar]<;>intros<;>omega),hw.upd⟩) _ (.inl rfl)
 refine Rr ?_;refine zB rfl (fun h18=>?_) (fun h18=>?_)
 ·refine rn [1,4,5] ?_;refine aa (zH rfl (fun w hw=>vY _ _ _ w) rfl (Rb ?_));refine zL (zD ?_);exact eO rfl (.tmp rfl) (fun w' hw=>⟨by first|rfl|(simp_all[ar];done)|(simp_all[ar];omega)|(simp_all[ar]<;>intros<;>omega),hw.upd⟩) _ (.inl rfl)
 refine Rr ?_;refine zB rfl (fun h19=>?_) (fun h19=>?_)
 ·refine rn [1,4,5] ?_;refine aa (zH rfl (fun w hw=>vY _ _ _ w) rfl (Rb ?_));refine zL (zD ?_);exact eO rfl (.tmp rfl) (fun w' hw=>⟨by first|rfl|(simp_all[ar];done)|(simp_all[ar];omega)|(simp_all[ar]<;>intros<;>omega),hw.upd⟩) _ (.inl rfl)
 refine Rr ?_;refine zB rfl (fun h20=>?_) (fun h20=>?_)
 ·refine rn [1,4,5] ?_;refine aa (zH rfl (fun w hw=>vY _ _ _ w) rfl (Rb ?_));refine zL (zD ?_);exact eO rfl (.tmp rfl) (fun w' hw=>⟨by first|rfl|(simp_all[ar];done)|(simp_all[ar];omega)|(simp_all[ar]<;>intros<;>omega),hw.upd⟩) _ (.inl rfl)
 refine Rr ?_;refine zB rfl (fun h21=>?_) (fun h21=>?_)
 ·refine rn [1,4,5] ?_;refine aa (zH rfl (fun w hw=>vY _ _ _ w) rfl (Rb ?_));refine zL (zD ?_);exact eO rfl (.tmp rfl) (fun w' hw=>⟨by first|rfl|(simp_all[ar];done)|(simp_all[ar];omega)|(simp_all[ar]<;>intros<;>omega),hw.upd⟩) _ (.inl rfl)
 refine Rr ?_;refine zB rfl (fun h22=>?_) (fun h22=>?_)
 ·refine rn [1,4,5,53,2] ?_;refine zS 132 rfl (fun h23=>?_) (fun h23=>?_)
  ·refine rn [22,4,22,5,22,4,22,5,22,46,41,2] ?_;refine zS 139 rfl (fun h24=>?_) (fun h24=>?_)
   ·refine rn [22,4,22,5,22,4,22,5,22,46,41,3,0,11] ?_;refine zL (zD ?_);exact eO rfl (.tmp rfl) (fun w' hw=>⟨by first|rfl|(simp_all[ar];done)|(simp_all[ar];omega)|(simp_all[ar]<;>intros<;>omega),hw.upd⟩) _ (.inl rfl)
   refine rn [21,21,21,21,21,42,3,0,11] ?_;refine zL (zD ?_);exact eO rfl (.tmp rfl) (fun w' hw=>⟨by first|rfl|(simp_all[ar];done)|(simp_all[ar];omega)|(simp_all[ar]<;>intros<;>omega),hw.upd⟩) _ (.inl rfl)
  refine rn [21,21,21,21,21,42,2,21,21,21,21,21,42,3,0,11] ?_;refine zL (zD ?_);exact eO rfl (.tmp rfl) (fun w' hw=>⟨by first|rfl|(simp_all[ar];done)|(simp_all[ar];omega)|(simp_all[ar]<;>intros<;>omega),hw.upd⟩) _ (.inl rfl)
 refine Rr ?_;refine zB rfl (fun h25=>?_) (fun h25=>?_)
 ·refine rn [1,4,5] ?_;refine aa (zH rfl (fun w hw=>vY _ _ _ w) rfl (Rb ?_));refine zL (zD ?_);exact eO rfl (.tmp rfl) (fun w' hw=>⟨by first|rfl|(simp_all[ar];done)|(simp_all[ar];omega)|(simp_all[ar]<;>intros<;>omega),hw.upd⟩) _ (.inl rfl)
 refine Rr ?_;refine zB rfl (fun h26=>?_) (fun h26=>?_)
 ·refine rn [1,4,5,4,5,56,3,0,11] ?_;refine zL (zD ?_);exact eO rfl (.tmp rfl) (fun w' hw=>⟨by first|rfl|(simp_all[ar];done)|(simp_all[ar];omega)|(simp_all[ar]<;>intros<;>omega),hw.upd⟩) _ (.inl rfl)
 refine rn [12,15,7,1,4,5,53,2] ?_;refine zS 161 rfl (fun h27=>?_) (fun h27=>?_)
 ·refine rn [22,4,22,5,22,56,41,3,0,11] ?_;exact eO rfl (.tmp rfl) (fun w' hw=>⟨by first|rfl|(simp_all[ar];done)|(simp_all[ar];omega)|(simp_all[ar]<;>intros<;>omega),hw.upd⟩) _ (.inl rfl)
 refine Sh ?_;exact eO rfl (.tmp rfl) (fun w' hw=>⟨by first|rfl|(simp_all[ar];done)|(simp_all[ar];omega)|(simp_all[ar]<;>intros<;>omega),hw.upd⟩) _ (.inl rfl)
theorem DC (c:C) (w:World):Pur Tryz.prog 29 [c.v] w (aH (chk c)):=by
 refine Γ Tryz.func29 13 (WOK.start [] _) ?_;refine Ri ?_;refine aa (aq rfl rfl rfl fun b1=>rn [3,0,8,1,3,0,14] ?_);refine kx [1] (fun(i:Nat)=>[(3,aH (i:Int))]) (fun _=>[Res.blk b1 24 c.c]) (fun i=>1≤i∧i≤21∧chk c=oa c (21-i) i) (fun i=>21-i) 1 ⟨aK,aK,rfl⟩ rfl ⟨rfl,trivial⟩ va ?_;rintro i ⟨J7,hi2,hi3⟩;refine rn [8,1,2,56,0] ?_;refine zB rfl (fun h1=>?_) (fun h1=>?_)
 ·refine rn [12,7,8,14,1,45,2] ?_;refine aa (zH rfl (fun w hw=>sy _ _ w) rfl (rn [48,0] ?_));refine zB rfl (fun h2=>?_) (fun h2=>?_)
  ·refine rn [1,2,3,0,11] ?_;refine zL (zD (zD (zL (zD ?_))));exact eO rfl (.tmp rfl) (fun w' hw=>⟨by rw[hi3,show 21-i=(21-(i+1))+1 by simp_all;omega,oa];simp_all,hw.upd⟩) _ (.inl rfl)
  refine RP ?_;exact xX (i+1) ⟨aK,by simp_all;omega,by rw[hi3,show 21-i=(21-(i+1))+1 by simp_all;omega,oa];simp_all⟩ bE ⟨rfl,rfl,trivial⟩ va
 refine Ru ?_;refine zE (zE (zQ (So ?_)));exact eO rfl (.tmp rfl) (fun w' hw=>⟨by rw[hi3,show 21-i=0 by simp_all;omega];rfl,hw.upd⟩) _ (.inl rfl)
def eI (l:List Int):Bool:=decide (l.sum≤18446744073709551615)
def df (l:List Int):Int:=if l.sum≤18446744073709551615 then l.sum else 0
def okU (l:List Int):Prop:=∀x∈l,0≤x∧x≤18446744073709551615
theorem xH:∀{l:List Int},(∀x∈l,0≤x)→0≤l.sum
 | [],_=>by simp
 | x :: l,h=>by
  have:=xH (l:=l) fun y hy=>h y (by simp[hy]);have:=h x aM;simp only[dB];omega
theorem vJ {l:List Int} (h:okU l) {k:Nat} (hk:k<l.length):(l.take (k+1)).sum=(l.take k).sum+l[k]∧0≤(l.take k).sum∧0≤l[k]∧l[k]≤18446744073709551615:=by
 have h1:=h l[k] (cC _);refine⟨?_,xH fun x hx=>(h x (cD hx)).1,h1.1,h1.2⟩;rw[←cB hk,List.sum_append];simp
theorem vn {l:List Int} (h:okU l) (k:Nat):(l.take k).sum≤l.sum:=by
 have e:l.sum=(l.take k).sum+(l.drop k).sum:=by rw[←List.sum_append,List.take_append_drop]
 have:=xH (l:=l.drop k) fun x hx=>(h x (cL hx)).1;omega
theorem nS {l:List Int} (h:okU l) {k:Nat} (hk:18446744073709551615<(l.take k).sum):eI l=false∧df l=0:=by
 have:=vn h k;refine⟨cY aK,bY aK⟩
theorem qM {l:List Int} (h:l.sum≤18446744073709551615):eI l=true∧df l=l.sum:=⟨cX h,bZ h⟩
theorem Bi (A:bU) (n cap:Nat) (l:List Int) (w:World) (ha:Old w A n 1 (l.map aD)) (hl:okU l) (hb:n≤1000000):Pur Tryz.prog 241 [.slice A n cap] w (.tuple [aJ (if l.sum≤18446744073709551615 then l.sum else 18446744073709551615),.bool (!eI l)].toArray):=by
 refine Γ Tryz.func241 23 (WOK.start [] _) ?_;have hn:n=l.length:=by simpa using ha.len
 refine rn [1,3,3,0,1,3,0,8,1,2,47,2,0,14] ?_;refine dP [2,3,7,8] (fun(x:Nat)=>[(4,aJ ((l.take x).sum)),(9,aI x)]) (fun(x:Nat)=>[]) (fun(x:Nat)=>x≤n∧(l.take x).sum≤18446744073709551615) (fun(x:Nat)=>n-x) 0 (by(try dsimp only);exact⟨cN _,aM⟩) ?_;rintro k ⟨f6,hs⟩;replace f6:k≤n:=f6;replace hs:(l.take k).sum≤18446744073709551615:=hs;refine Rj ?_;refine zB rfl (fun h1=>?_) (fun h1=>?_)
 ·have f8:k<n:=by have h9:=bW h1;omega
  refine Ry ?_;refine s_q (zM (i:=k) rfl rfl rfl (ha.rdb rfl) aN) rfl ?_;refine s_q (zX (i:=k) (o:=0) rfl (ha.rdb rfl) (zP aN) rfl rfl) rfl (rn [3,0,8,1,2,2,54,2,46,0] ?_);refine zB rfl (fun h2=>?_) (fun h2=>?_)
  ·refine rn [1,3,3,0,11] ?_;refine zD (zL (zD (zD (zL (zD ?_)))));exact dE rfl rfl rfl fun w' a5=>⟨by have h9:=vJ hl (k:=k) aK;have h8:18446744073709551615<(l.take (k+1)).sum:=(by simp at h2;rw[cF] at h2;omega);have h7:=nS hl h8;have h6:=vn hl (k+1);rw[h7.1,bY aK];rfl,a5.upd⟩
  refine rn [12,7,10,2,2] ?_;refine s_q (yI (z:=(l.take (k+1)).sum) rfl rfl (by have h9:=vJ hl (k:=k) aK;simp at h2;rw[cF] at h2 ⊢;omega)) rfl (Rx ?_);exact cr (k+1) (by(try dsimp only);exact⟨aN,(by have:=vJ hl (k:=k) aK;simp at h2;rw[cF] at h2;omega)⟩)
 have f9:k=n:=by have h9:=bX h1;omega
 refine Ru ?_;refine zE (zE (zQ (SI ?_)));exact dE rfl rfl rfl fun w' a5=>⟨by have e8:l.take k=l:=(by rw[f9,hn,cI]);rw[e8] at hs ⊢;have h7:=qM hs;rw[h7.1,bZ hs];rfl,a5.upd⟩
theorem vZ (A:bU) (n cap:Nat) (l:List Int) (w:World) (ha:Old w A n 1 (l.map aD)) (hl:okU l) (hb:n≤1000000):Pur Tryz.prog 163 [.slice A n cap] w (.tuple [aJ (df l),.bool (eI l)].toArray):=by
 refine Γ Tryz.func163 13 (WOK.start [] _) ?_;have hn:n=l.length:=by simpa using ha.len
 refine rn [1,3,3,0,1,2] ?_;refine aa (zH rfl (fun w1 a6=>Bi A (n) (cap) (l) w1 (Rdb.toOld (ha.rdb rfl) a6) (by first|assumption|(intro x hx;simp at hx;first|(rcases hx with rfl|rfl<;>omega)|(rcases hx with rfl|rfl|rfl<;>omega)|(subst hx;omega))) bB) rfl ?_);refine rn [2,40,40,3,3,0,8,1,2,0] ?_;refine zB rfl (fun h1=>?_) (fun h1=>?_)
 ·refine RL ?_;exact dE rfl rfl rfl fun w' a5=>⟨by simp[eI] at h1;simp[eI,df];omega,a5.upd⟩
 refine rn [12,7,1,2,3,3,0,11] ?_;exact dE rfl rfl rfl fun w' a5=>⟨by simp[eI] at h1;simp[eI,df,h1],a5.upd⟩
theorem qE (w:World) : Pur Tryz.prog 137 [] w (aJ 18446744073709551615):=by
 refine Γ Tryz.func137 1 (WOK.start [] _) ?_;refine rn [1,3,0,1,3,0,11] ?_;exact dD rfl rfl fun w' a5=>⟨aP,a5.upd⟩
theorem tI (A:bU) (n cap:Nat) (l:List Int) (w:World) (ha:Old w A n 1 (l.map aD)) (hl:okU l) (hb:n≤1000000):Pur Tryz.prog 81 [.slice A n cap] w (.tuple [aJ (df l),.bool (eI l)].toArray):=by
 refine Γ Tryz.func81 27 (WOK.start [] _) ?_;have hn:n=l.length:=by simpa using ha.len
 refine rn [1,3,3,0,1,3,0,8,1,3,0,14] ?_;refine dP [0,2,3] (fun(x:Nat)=>[(4,aJ ((l.take x).sum)),(5,aI x)]) (fun(x:Nat)=>[]) (fun(x:Nat)=>x≤n∧(l.take x).sum≤18446744073709551615) (fun(x:Nat)=>n-x) 0 (by(try dsimp only);exact⟨cN _,aM⟩) ?_;rintro k ⟨f6,hs⟩;replace f6:k≤n:=f6;replace hs:(l.take k).sum≤18446744073709551615:=hs;refine Rw ?_;refine zB rfl (fun h1=>?_) (fun h1=>?_)
 ·have f8:k<n:=by have h9:=bW h1;omega
  refine rn [12,7,8,14,8,8] ?_;refine bn [] an rfl (RV ?_);refine dq 2 rfl (zM (i:=k) rfl rfl rfl (ha.rdb rfl) aN) ?_;refine dq 3 rfl (zX (i:=k) (o:=0) rfl (ha.rdb rfl) (zP aN) rfl rfl) (rn [23,5,2] ?_);refine dop 4 rfl (zH rfl (fun w1 a6=>qE w1) rfl ?_);refine dq 6 rfl (yN (z:=18446744073709551615-(l.take k).sum) rfl rfl (by have h9:=vJ hl (k:=k) aK;rw[cF];omega)) (rn [23,7,55,27,7] ?_);refine zB rfl (fun h2=>?_) (fun h2=>?_)
  ·refine rn [1,3,3,0,11] ?_;refine zD (zL (zD (zD (zL (zD ?_)))));exact dE rfl rfl rfl fun w' a5=>⟨by have h9:=vJ hl (k:=k) aK;have h8:18446744073709551615<(l.take (k+1)).sum:=(by simp at h2;omega);have h7:=nS hl h8;rw[h7.1,h7.2],a5.upd⟩
  refine rn [12,7,10,2,2,2] ?_;refine s_q (zM (i:=k) rfl rfl rfl (ha.rdb rfl) aN) rfl ?_;refine s_q (zX (i:=k) (o:=0) rfl (ha.rdb rfl) (zP aN) rfl rfl) rfl ?_;refine s_q (yI (z:=(l.take (k+1)).sum) rfl rfl (by have h9:=vJ hl (k:=k) aK;simp at h2;rw[cF];omega)) rfl (Rt ?_);exact cr (k+1) (by(try dsimp only);exact⟨aN,(by have:=vJ hl (k:=k) aK;simp at h2;omega)⟩)
 have f9:k=n:=by have h9:=bX h1;omega
 refine Ru ?_;refine zE (zE (zQ (SI ?_)));exact dE rfl rfl rfl fun w' a5=>⟨by have e8:l.take k=l:=(by rw[f9,hn,cI]);rw[e8] at hs ⊢;have h7:=qM hs;rw[h7.1,h7.2],a5.upd⟩
def ed (d:Int):Bool := !decide (d=0)
def fK (a d:Int):Int:=if d=0 then 0 else if a=0 then 0 else(a-1)/d+1
def fw (a d:Int):Bool := !decide (d=0) && decide (fK a d≤1099511627776)
def gA (a d:Int):Int:=if fw a d then fK a d else 0
def U64 (x:Int):Prop:=0≤x∧x≤18446744073709551615
theorem lM {a d:Int} (ha:U64 a) (hd:U64 d):0≤fK a d∧fK a d≤18446744073709551615:=by
 unfold U64 at *;unfold fK;split
 ·omega
 split
 ·omega
 have h1:0<d:=by omega
 have h2:0≤(a-1)/d:=Int.ediv_nonneg aK aK;have h3:(a-1)/d≤a-1:=Int.ediv_le_self _ aK;omega
def eN (l:List Int):Bool:=decide ((∀x∈l,0≤x)∧l.sum≤1099511627776)
def eh (l:List Int):Int:=if eN l then l.sum else 0
theorem kt {l:List Int} {k:Nat} (hk:k<l.length) (hs:∀x∈l.take k,0≤x) (h:l[k]<0∨1099511627776-(l.take k).sum<l[k]):eN l=false:=by
 unfold eN;refine cY fun hc=>?_;have s8:=hc.1 l[k] (cC _);have e:l.sum=(l.take (k+1)).sum+(l.drop (k+1)).sum:=by rw[←List.sum_append,List.take_append_drop]
 have e2:(l.take (k+1)).sum=(l.take k).sum+l[k]:=by rw[←cB hk,List.sum_append];simp
 have:=xH (l:=l.drop (k+1)) fun x hx=>hc.1 x (cL hx);omega
theorem uL {l:List Int} {k:Nat} (hk:k<l.length) (h1:∀x∈l.take k,0≤x) (h2:0≤l[k]):(∀x∈l.take (k+1),0≤x)∧(l.take (k+1)).sum=(l.take k).sum+l[k]∧0≤(l.take k).sum:=by
 refine⟨?_,?_,xH h1⟩
 ·rw[←cB hk];intro x hx;rcases cK.1 hx with hx|hx
  ·exact h1 x hx
  simp at hx;omega
 rw[←cB hk,List.sum_append];simp
def I64 (x:Int):Prop:=-9223372036854775808≤x∧x≤9223372036854775807
theorem Al (a d:Int) (w:World) (ha:U64 a) (hd:U64 d):Pur Tryz.prog 80 [aJ a,aJ d] w (.tuple [aJ (fK a d),.bool (ed d)].toArray):=by
 refine Γ Tryz.func80 17 (WOK.start [] _) ?_;refine rn [1,3,3,0,8,14,1,2,44,3,0] ?_;refine zB rfl (fun h1=>?_) (fun h1=>?_)
 ·refine rn [1,3,3,0,11] ?_;refine zL (zD ?_);exact dE rfl rfl rfl fun w' a5=>⟨by simp at h1;simp[fK,ed,h1],a5.upd⟩
 refine rn [1,2,44,3,0] ?_;refine zB rfl (fun h2=>?_) (fun h2=>?_)
 ·refine rn [1,3,3,0,11] ?_;refine zL (zD ?_);exact dE rfl rfl rfl fun w' a5=>⟨by simp at h1 h2;simp[fK,ed,h1,h2],a5.upd⟩
 refine rn [12,15,7,1,2] ?_;refine s_q (yN (z:=a-1) rfl rfl (by unfold U64 at *;simp at h1 h2;rw[cF];omega)) rfl (SD ?_);refine s_q (fj rfl rfl (by simpa using h1)) rfl ?_;refine ae 15 (v' := aJ ((a-1)/d)) rfl (by unfold U64 at *;simp at h1 h2;have e1:(a-1).tdiv d=(a-1)/d:=Int.tdiv_eq_ediv_of_nonneg aK;have e2:0≤(a-1)/d:=Int.ediv_nonneg aK aK;have e3:(a-1)/d≤a-1:=Int.ediv_le_self _ aK;rw[e1,ey e2 aK]) ?_;refine s_q (yI (z:=(a-1)/d+1) rfl rfl (by unfold U64 at *;simp at h1 h2;have e2:0≤(a-1)/d:=Int.ediv_nonneg aK aK;have e3:(a-1)/d≤a-1:=Int.ediv_le_self _ aK;rw[ey aK aK])) rfl (rn [3,3,0,11] ?_);exact dE rfl rfl rfl fun w' a5=>⟨by simp at h1 h2;simp[fK,ed,h1,h2],a5.upd⟩
theorem Cu (a d:Int) (w:World) (ha:U64 a) (hd:U64 d):Pur Tryz.prog 25 [aJ a,aJ d] w (.tuple [aH (gA a d),.bool (fw a d)].toArray):=by
 refine Γ Tryz.func25 22 (WOK.start [] _) ?_;refine rn [1,3,3,0,1,2,2] ?_;refine aa (zH rfl (fun w1 a6=>Al _ _ w1 ha hd) rfl (Sc ?_));refine zS 16 rfl (fun h1=>?_) (fun h1=>?_)
 ·refine rn [21,21,41,0,19,1,3,3,0,11,13] ?_;exact dE rfl rfl rfl fun w' a5=>⟨by first|(simp_all[gA,fw,ed];done)|(simp_all[gA,fw,ed];omega),a5.upd⟩
 refine rn [22,2,22,55,42,0] ?_;refine zB rfl (fun h2=>?_) (fun h2=>?_)
 ·refine RL ?_;exact dE rfl rfl rfl fun w' a5=>⟨by first|(simp_all[gA,fw,ed];done)|(simp_all[gA,fw,ed];omega),a5.upd⟩
 refine Sx ?_;refine s_q (yS (z:=fK a d) rfl (by have h0:=lM ha hd;simp[ed] at h1;simp at h2;rw[dY aK aK])) rfl (rn [3,3,0,11] ?_);exact dE rfl rfl rfl fun w' a5=>⟨by first|(simp_all[gA,fw,ed];done)|(simp_all[gA,fw,ed];omega),a5.upd⟩
theorem pB (e:Int) (A:bU) (n cap:Nat) (l:List Int) (w:World) (he:I64 e) (hl:Rd w [] A n 1 (l.map aC)) (i6:∀x∈l,I64 x) (hb:n≤1000):du Tryz.prog 244 [aH e,.slice A n cap] w [] (.tuple [aH (eh (e :: l)),.bool (eN (e :: l))].toArray):=by
 refine Γ Tryz.func244 31 (WOK.start (fps []) _) ?_;have hn:n=l.length:=by simpa using hl.old.len
 refine rn [1,3,3,0,1,3,0,8,1,2] ?_;refine aa (bg rfl rfl rfl rfl rfl fun t4=>?_);refine zF (b:=t4) ((([e]:List Int).map aC).flatten) rfl (SD ?_);refine xW (b:=t4) 1 1 (([e]:List Int).map aC) (yA (c:=aC) (fun _=>rfl) _) rfl rfl aO ?_;refine aa (zW (A:=(some ⟨t4,0,none⟩)) (els:=(([e]:List Int)).map aC) (news:=((l).map aC)) rfl rfl hl.rdb (zZ (c:=aC) (by intro x;simp[Value.oneCell']) _) aR rfl fun A12 D1=>⟨_,inferInstance,?_⟩);refine zC (A:=A12) (((([e]:List Int)++l)).map aC) (by first|rfl|exact cA.symm|(simp;done)) ?_;refine zC (A:=A12) ((e :: l).map aC) aM ?_;refine zR (A:=A12) (e :: l).length aV ?_;refine ae 12 (v' := .slice A12 (e :: l).length D1) rfl (by first|rfl|(simp[hn];omega)|(simp;omega)) (SK ?_);refine dP [4,5,12,13] (fun(x:Nat)=>[(6,aH (((e :: l).take x).sum)),(14,aI x)]) (fun(x:Nat)=>[Res.row A12 (e :: l).length D1 3 1 ((e :: l).map aC)]) (fun(x:Nat)=>x≤(e :: l).length∧(∀y∈(e :: l).take x,0≤y)∧((e :: l).take x).sum≤1099511627776) (fun(x:Nat)=>(e :: l).length-x) 0 (by(try dsimp only);exact⟨cN _,aM,aM⟩) ?_;rintro k ⟨f6,hs,ht⟩;replace f6:k≤(e :: l).length:=f6;replace hs:∀y∈(e :: l).take k,0≤y:=hs;replace ht:((e :: l).take k).sum≤1099511627776:=ht;refine Rj ?_;refine zB rfl (fun h1=>?_) (fun h1=>?_)
 ·have f8:k<(e :: l).length:=by have h9:=bW h1;omega
  have hx:I64 ((e :: l)[k]):=by
    have hm:(e :: l)[k]∈(e :: l):=cC _;rcases cH.1 hm with h|h
    · rw[h];exact he
    · exact i6 _ h
  unfold I64 at hx;have h8:(e :: l).length≤1001:=by simp;omega
  have o5:=xH hs;refine Ry ?_;refine s_q (zM (i:=k) rfl rfl rfl (ird (A:=A12)) aN) rfl ?_;refine s_q (zX (i:=k) (o:=0) rfl (ird (A:=A12)) (zP aT) rfl rfl) rfl (rn [3,0,8,1,2,46,2] ?_);refine zS 20 rfl (fun h2=>?_) (fun h2=>?_)
  ·refine rn [21,21,21,21,41,0,19,1,3,3,0,11] ?_;refine zD (zL (zD (zD (zL (zD ?_)))));exact dE rfl rfl rfl fun w' a5=>⟨(),trivial,by have h7:=kt f8 hs (.inl (by simpa using h2));rw[eh,h7];rfl,zA w' a5⟩
  refine rn [22,2,22,2] ?_;refine nh (yN (z:=1099511627776-((e :: l).take k).sum) rfl rfl (by rw[dY aK aK])) rfl rfl rfl (rn [22,55,42,0] ?_);refine zB rfl (fun h3=>?_) (fun h3=>?_)
  ·refine rn [1,3,3,0,11] ?_;refine zD (zL (zD (zD (zL (zD ?_)))));exact dE rfl rfl rfl fun w' a5=>⟨(),trivial,by have h7:=kt f8 hs (.inr (by simp at h3;omega));rw[eh,h7];rfl,zA w' a5⟩
  refine rn [12,7,10,2,2] ?_;refine s_q (yI (z:=((e :: l).take (k+1)).sum) rfl rfl (by have h9:=uL f8 hs (by simpa using h2);simp at h3;rw[dY aK aK];omega)) rfl (Rx ?_);exact cr (k+1) (by(try dsimp only);exact⟨aN,(uL f8 hs (by simpa using h2)).1,(by have h9:=uL f8 hs (by simpa using h2);simp at h3;omega)⟩)
 have f9:k=(e :: l).length:=by have h9:=bX h1;omega
 refine Ru ?_;refine zE (zE (zQ (SI ?_)));exact dE rfl rfl rfl fun w' a5=>⟨(),trivial,by rw[f9,cI] at hs ht ⊢;have h7:eN (e :: l)=true:=cX ⟨hs,ht⟩;rw[eh,h7];rfl,zA w' a5⟩
structure Cok (c:C):Prop where
 capa:1≤c.capa∧c.capa≤4096
 minch:1≤c.minch∧c.minch≤1152921504606846976
 fcap:0≤c.fcap∧c.fcap≤1152921504606846976
 unb:1≤c.unb∧c.unb≤1048576
 sld:c.unb<c.sld∧c.sld≤1048576
 elen:1≤c.elen∧c.elen≤4096
 vis:1≤c.vis∧c.vis≤4096
 pays:1≤c.pays∧c.pays≤4096
 parts:0≤c.parts∧c.parts<c.vis∧c.parts<c.pays
theorem lL {c:C} (h:chk c=0) (hk:c.ok):Cok c:=by
 have h1:=yC h 1 aK aK;have h8:=yC h 8 aK aK;have K3:=yC h 10 aK aK;have K1:=yC h 11 aK aK;have P8:=yC h 12 aK aK;have Y3:=yC h 14 aK aK;have Y2:=yC h 15 aK aK;have h16:=yC h 16 aK aK;have h17:=yC h 17 aK aK;simp[ar,btw] at h1 h8 K3 K1 P8 Y3 Y2 h16 h17;have:=hk.fcap;exact⟨h1,h8,⟨aK,K3⟩,K1,P8,Y3,Y2,h16,h17⟩
def blN (c:C):Int:=min (c.vis-c.parts) (c.pays-c.parts)
def dv (c:C):Int:=(c.capa-1)/blN c+1
def dU (c:C):Int:=(dv c-1)/c.elen
theorem xQ {c:C} (h:Cok c):1≤blN c∧blN c≤4096:=by
 have:=h.parts;have:=h.vis;have:=h.pays;unfold blN;omega
theorem yU {c:C} (h:Cok c):1≤dv c∧dv c≤4096:=by
 have h1:=h.capa;have h2:=xQ h;have h3:0≤(c.capa-1)/blN c:=Int.ediv_nonneg aK aK;have h4:(c.capa-1)/blN c≤c.capa-1:=Int.ediv_le_self _ aK;unfold dv;omega
theorem rS {c:C} (h:Cok c):0≤dU c∧dU c≤4096:=by
 have h1:=yU h;have h2:=h.elen;have h3:0≤(dv c-1)/c.elen:=Int.ediv_nonneg aK aK;have h4:(dv c-1)/c.elen≤dv c-1:=Int.ediv_le_self _ aK;unfold dU;omega
theorem nt {c:C} (h:Cok c):(c.capa+blN c-1)/blN c=dv c:=by
 have h2:=xQ h;have e:c.capa+blN c-1=(c.capa-1)+1*blN c:=by omega
 rw[e,Int.add_mul_ediv_right _ _ aK];rfl
def gP (a b:Int) (c:C):Bool:=eI [a,b,c.fcap] && fw (df [a,b,c.fcap]) c.minch
def fO (a b:Int) (c:C):Int:=if gP a b c then max (gA (df [a,b,c.fcap]) c.minch) 1 else 0
def ft (e a b:Int) (c:C) (l:List Int):Bool:=gP a b c && eN (e :: ([fO a b c,1]++l))
def ez (e a b:Int) (c:C) (l:List Int):Int:=if gP a b c then eh (e :: ([fO a b c,1]++l)) else 0
theorem CJ {a b d:Int} (ha:U64 a) (hb:U64 b) (hd:U64 d):okU [a,b,d]:=by
 intro x hx;simp at hx;rcases hx with rfl|rfl|rfl<;>assumption
theorem lS {l:List Int} (h:okU l):U64 (df l):=by
 unfold df U64;split
 ·exact⟨xH fun x hx=>(h x hx).1,by assumption⟩
 omega
theorem FK {a b:Int} {c:C} (ha:U64 a) (hb:U64 b) (h:Cok c):0≤fO a b c∧fO a b c≤1099511627776:=by
 unfold fO;split
 ·rename_i h1;simp only[gP,Bool.and_eq_true] at h1;have h2:=h1.2;simp only[fw,Bool.and_eq_true,decide_eq_true_eq] at h2;unfold gA;rw[bZ h1.2];omega
 omega
theorem Fu {a b:Int} {c:C} {l:List Int} (ha:U64 a) (hb:U64 b) (hc:Cok c) (i6:∀x∈l,I64 x):∀x∈[fO a b c,1]++l,I64 x:=by
 intro x hx;have F8:=FK (c:=c) ha hb hc;simp only[cK,cH,cE,or_false] at hx;rcases hx with(rfl|rfl)|hx
 ·exact⟨aK,aK⟩
 ·exact⟨aK,aK⟩
 exact i6 x hx
theorem HG {c:C} (hc:Cok c):∀x∈[c.unb,dU c],I64 x:=by
 intro x hx;have h1:=hc.unb;have h2:=rS hc;simp only[cH,cE,or_false] at hx;rcases hx with rfl|rfl<;>exact⟨aK,aK⟩
theorem Cok.U {c:C} (h:Cok c):U64 c.fcap∧U64 c.minch:=by
 have:=h.fcap;have:=h.minch;unfold U64;omega
theorem Dn (c:C) (w:World) (hc:Cok c):Pur Tryz.prog 138 [c.v] w (aH (c.vis-c.parts)):=by
 refine Γ Tryz.func138 8 (WOK.start [] _) ?_;refine Ri ?_;refine aa (aq rfl rfl rfl fun b1=>rn [3,0,1,4,5,4,5] ?_);refine s_q (yN (z:=c.vis-c.parts) rfl rfl (by have h1:=hc.parts;have h2:=hc.vis;have h3:=hc.pays;have h4:=hc.capa;have h5:=xQ hc;have h6:=yU hc;have h7:=hc.elen;rw[dY aK aK])) rfl (Rb ?_);exact dD rfl rfl fun w' a5=>⟨aP,a5.upd⟩
theorem Dq (c:C) (w:World) (hc:Cok c):Pur Tryz.prog 139 [c.v] w (aH (c.pays-c.parts)):=by
 refine Γ Tryz.func139 8 (WOK.start [] _) ?_;refine Ri ?_;refine aa (aq rfl rfl rfl fun b1=>rn [3,0,1,4,5,4,5] ?_);refine s_q (yN (z:=c.pays-c.parts) rfl rfl (by have h1:=hc.parts;have h2:=hc.vis;have h3:=hc.pays;have h4:=hc.capa;have h5:=xQ hc;have h6:=yU hc;have h7:=hc.elen;rw[dY aK aK])) rfl (Rb ?_);exact dD rfl rfl fun w' a5=>⟨aP,a5.upd⟩
theorem Ds (c:C) (w:World) (hc:Cok c):Pur Tryz.prog 84 [c.v] w (aH (dv c)):=by
 refine Γ Tryz.func84 15 (WOK.start [] _) ?_;refine Ri ?_;refine aa (aq rfl rfl rfl fun b1=>rn [3,0,8] ?_);refine bn [] an rfl (rn [23,0,45,23,2,45] ?_);refine dop 1 rfl (zH rfl (fun w1 a6=>Dn c w1 hc) rfl ?_);refine dop 3 rfl (zH rfl (fun w1 a6=>Dq c w1 hc) rfl (rn [23,4,58] ?_));refine ae 8 (v' := aH (blN c)) rfl (rfl) (rn [23,5,3,27,7,1,4,5] ?_);refine s_q (yN (z:=c.capa-1) rfl rfl (by have h1:=hc.parts;have h2:=hc.vis;have h3:=hc.pays;have h4:=hc.capa;have h5:=xQ hc;have h6:=yU hc;have h7:=hc.elen;rw[dY aK aK])) rfl (SD ?_);refine s_q (fj rfl rfl (by have h1:=hc.parts;have h2:=hc.vis;have h3:=hc.pays;have h4:=hc.capa;have h5:=xQ hc;have h6:=yU hc;have h7:=hc.elen;omega)) rfl ?_;refine ae 13 (v' := aH ((c.capa-1)/blN c)) rfl (by have h1:=hc.parts;have h2:=hc.vis;have h3:=hc.pays;have h4:=hc.capa;have h5:=xQ hc;have h6:=yU hc;have h7:=hc.elen;have e3:0≤(c.capa-1)/blN c:=Int.ediv_nonneg aK aK;have e4:(c.capa-1)/blN c≤c.capa-1:=Int.ediv_le_self _ aK;rw[Int.tdiv_eq_ediv_of_nonneg aK,dY aK aK]) ?_;refine s_q (yI (z:=dv c) rfl rfl (by have h1:=hc.parts;have h2:=hc.vis;have h3:=hc.pays;have h4:=hc.capa;have h5:=xQ hc;have h6:=yU hc;have h7:=hc.elen;have e3:0≤(c.capa-1)/blN c:=Int.ediv_nonneg aK aK;have e4:(c.capa-1)/blN c≤c.capa-1:=Int.ediv_le_self _ aK;rw[dY aK aK];rfl)) rfl (Rb ?_);exact dD rfl rfl fun w' a5=>⟨aP,a5.upd⟩
theorem Dm (c:C) (w:World) (hc:Cok c):Pur Tryz.prog 28 [c.v] w (aH (dU c)):=by
 refine Γ Tryz.func28 9 (WOK.start [] _) ?_;refine Ri ?_;refine aa (aq rfl rfl rfl fun b1=>rn [3,0,8] ?_);refine bn [] an rfl (rn [23,0,45,23,3,4,23,4,5] ?_);refine dop 1 rfl (zH rfl (fun w1 a6=>Ds c w1 hc) rfl ?_);refine dq 2 rfl (yN (z:=dv c-1) rfl rfl (by have h1:=hc.parts;have h2:=hc.vis;have h3:=hc.pays;have h4:=hc.capa;have h5:=xQ hc;have h6:=yU hc;have h7:=hc.elen;rw[dY aK aK])) ?_;refine dq 5 rfl (fj rfl rfl (by have h1:=hc.parts;have h2:=hc.vis;have h3:=hc.pays;have h4:=hc.capa;have h5:=xQ hc;have h6:=yU hc;have h7:=hc.elen;omega)) ?_;refine ae 8 (v' := aH (dU c)) rfl (by have h1:=hc.parts;have h2:=hc.vis;have h3:=hc.pays;have h4:=hc.capa;have h5:=xQ hc;have h6:=yU hc;have h7:=hc.elen;have e3:0≤(dv c-1)/c.elen:=Int.ediv_nonneg aK aK;have e4:(dv c-1)/c.elen≤dv c-1:=Int.ediv_le_self _ aK;rw[Int.tdiv_eq_ediv_of_nonneg aK,dY aK aK];rfl) (rn [23,6,3,27,7,11] ?_);exact dD rfl rfl fun w' a5=>⟨aP,a5.upd⟩
theorem DG (a b:Int) (c:C) (w:World) (ha:U64 a) (hb:U64 b) (hc:Cok c):Pur Tryz.prog 289 [aJ a,aJ b,c.v] w (.tuple [aH (fO a b c),.bool (gP a b c)].toArray):=by
 refine Γ Tryz.func289 33 (WOK.start [] _) ?_;refine Ri ?_;refine aa (aq rfl rfl rfl fun b5=>rn [3,3,0,1,2,2,4,5] ?_);refine aa (bg rfl rfl rfl rfl rfl fun I2=>?_);refine zF (b:=I2) ((([a,b,(c).fcap]:List Int).map aD).flatten) rfl ?_;refine aa (zH rfl (fun w1 a6=>vZ (some ⟨I2,0,none⟩) (3) (3) (([a,b,(c).fcap]:List Int)) w1 (Rdb.toOld (InL.rdb (b:=I2) (els:=(([a,b,(c).fcap]:List Int)).map aD) rfl aM rfl) a6) (CJ ha hb hc.U.1) bB) rfl (Ro ?_));refine zB rfl (fun h1=>?_) (fun h1=>?_)
 ·refine RL ?_;exact dE rfl rfl rfl fun w' a5=>⟨by first|(simp_all[fO,gP];done),a5.upd⟩
 refine rn [12,7,1,2,4,5] ?_;refine aa (zH rfl (fun w1 a6=>Cu _ _ w1 (lS (CJ ha hb hc.U.1)) hc.U.2) rfl (Ro ?_));refine zB rfl (fun h2=>?_) (fun h2=>?_)
 ·refine RL ?_;exact dE rfl rfl rfl fun w' a5=>⟨by first|(simp_all[fO,gP];done),a5.upd⟩
 refine rn [12,7,1,2,59,3,3,0,11] ?_;exact dE rfl rfl rfl fun w' a5=>⟨by first|(simp_all[fO,gP];done),a5.upd⟩
theorem olx (e a b:Int) (c:C) (w:World) : au (ι:=(Nat × Nat × Nat × Nat)) Tryz.prog 246 [aH e,aJ a,aJ b,c.v] w [] (fun x=>True) (fun x=>.func (.func 288) #[] [aG x.1,aG x.2.1,aG x.2.2.1,aG x.2.2.2].toArray) (fun x=>[Res.blk x.1 22 [aJ a],Res.blk x.2.1 22 [aJ b],Res.blk x.2.2.1 24 c.c,Res.blk x.2.2.2 3 [aH e]]) (fun x=>[]):=by
 refine Γ Tryz.func246 10 (WOK.start (fps []) _) ?_;refine Ri ?_;refine aa (aq rfl rfl rfl fun b4=>?_);refine aa (aq rfl rfl rfl fun b5=>?_);refine aa (aq rfl rfl rfl fun b6=>?_);refine aa (aq rfl rfl rfl fun b7=>SA ?_);exact dD rfl rfl fun w' a5=>⟨(b5,b6,b7,b4),aQ,by first|rfl|(simp_all;done),zA w' a5⟩
theorem DM (q1 q2 q3 q4:Nat) (e a b:Int) (c:C) (A:bU) (n cap:Nat) (l:List Int) (w:World) (hw:W0 [Res.blk q1 22 [aJ a],Res.blk q2 22 [aJ b],Res.blk q3 24 c.c,Res.blk q4 3 [aH e]] w) (ha:U64 a) (hb:U64 b) (hc:Cok c) (he:I64 e) (hl:Rd w [Res.blk q1 22 [aJ a],Res.blk q2 22 [aJ b],Res.blk q3 24 c.c,Res.blk q4 3 [aH e]] A n 1 (l.map aC)) (i6:∀x∈l,I64 x) (I8:n≤100):du Tryz.prog 288 [.slice A n cap,aG q1,aG q2,aG q3,aG q4] w [Res.blk q1 22 [aJ a],Res.blk q2 22 [aJ b],Res.blk q3 24 c.c,Res.blk q4 3 [aH e]] (.tuple [aH (ez e a b c l),.bool (ft e a b c l)].toArray):=by
 refine Γ Tryz.func288 27 hw ?_;have hn:n=l.length:=by simpa using hl.old.len
 refine rn [1,3,3,0,1,5,5,45] ?_;refine aa (zH rfl (fun w1 a6=>DG _ _ _ w1 ha hb hc) rfl (Ro ?_));refine zB rfl (fun h1=>?_) (fun h1=>?_)
 ·refine RL ?_;exact dE rfl rfl rfl fun w' a5=>⟨(),trivial,by first|(simp_all[ez,ft];done),zA w' a5⟩
 refine RM ?_;refine bn [] an rfl (rn [23,0,5,23,1,2,23,3,2] ?_);refine dop 2 rfl (bg rfl rfl rfl rfl rfl fun v7=>?_);refine zF (b:=v7) ((([(fO (a) (b) (c)),1]:List Int).map aC).flatten) rfl ?_;refine xW (b:=v7) 1 2 (([(fO (a) (b) (c)),1]:List Int).map aC) (yA (c:=aC) (fun _=>rfl) _) rfl rfl aO ?_;refine dop 4 rfl (zW (A:=(some ⟨v7,0,none⟩)) (els:=(([(fO (a) (b) (c)),1]:List Int)).map aC) (news:=((l).map aC)) rfl rfl hl.rdb (zZ (c:=aC) (by intro x;simp[Value.oneCell']) _) aR rfl fun A23 cap23=>⟨_,inferInstance,?_⟩);refine zC (A:=A23) (((([(fO (a) (b) (c)),1]:List Int)++l)).map aC) (by first|rfl|exact cA.symm|(simp;done)) ?_;refine dop 5 rfl (zN [] rfl (fun w1 a6 a8=>by exact pB (e) A23 ((2+n)) (cap23) ((([(fO (a) (b) (c)),1]:List Int)++l)) w1 he (Rd.ofRow (A:=A23) a6) (Fu ha hb hc i6) bB) rfl ?_);refine rn [23,6,40,23,7,40,23,8,3,23,9,3,27,7,11] ?_;exact dE rfl rfl rfl fun w' a5=>⟨(),trivial,by first|(simp_all[ez,ft];done),zA w' a5⟩
theorem CF (e a b:Int) (c:C) (w:World) (ha:U64 a) (hb:U64 b) (hc:Cok c) (he:I64 e):Pur Tryz.prog 169 [aH e,aJ a,aJ b,c.v] w (.tuple [aH (ez e a b c [c.unb,dU c]),.bool (ft e a b c [c.unb,dU c])].toArray):=by
 refine Γ Tryz.func169 23 (WOK.start [] _) ?_;refine Ri ?_;refine aa (aq rfl rfl rfl fun b7=>rn [3,3,0,8] ?_);refine bn [] an rfl (rn [23,0,2,23,1,2,23,2,2,23,3,45,23,5,4,23,6,5,23,7,45] ?_);refine dop 4 rfl (zJ [] rfl (fun w1 a6 a8=>by have h7:=olx e a b c w1;exact h7) rfl ?_);rintro⟨ba,bb,bc,bd⟩ _;refine ii ?_;refine dop 8 rfl (zH rfl (fun w1 a6=>Dm c w1 hc) rfl ?_);refine dop 9 rfl (bg rfl rfl rfl rfl rfl fun j2=>?_);refine zF (b:=j2) ((([(c).unb,dU c]:List Int).map aC).flatten) rfl ?_;refine dop 10 rfl (Cm [Res.blk ba 22 [aJ a],Res.blk bb 22 [aJ b],Res.blk bc 24 c.c,Res.blk bd 3 [aH e]] rfl rfl (fun w1 a6 a8=>by have h7:=DM ba bb bc bd e a b c (some ⟨j2,0,none⟩) 2 2 ([(c).unb,dU c]:List Int) w1 a8 ha hb hc he (Rd.ofBlk (b:=j2) (els:=([(c).unb,dU c]:List Int).map aC) a6 rfl aM rfl) (HG hc) aK;exact h7) rfl ?_);refine rn [23,11,40,23,12,40,23,13,3,23,14,3,27,7,11] ?_;exact dE rfl rfl rfl fun w' a5=>⟨aP,a5.upd⟩
theorem jE {a d:Int} (ha:0≤a) (hd:0<d):(0<a%d→fK a d=a/d+1)∧(¬0<a%d→fK a d=a/d):=by
 have h1:=Int.emod_nonneg a (show d≠0 by omega);have h2:=Int.emod_lt_of_pos a hd;have h3:=Int.emod_add_mul_ediv a d;have n1:¬d=0:=by omega
 unfold fK;rw[bY n1];constructor
 ·intro hr;have ha0:¬a=0:=by intro h;subst h;simp at hr
  rw[bY ha0];have:=((Int.ediv_emod_unique (a:=a-1) (b:=d) (q:=a/d) (r:=a%d-1) hd).2 ⟨aK,aK,aK⟩).1;rw[this]
 intro hr;by_cases ha0:a=0
 ·subst ha0;simp
 rw[bY ha0];have e:d*(a/d-1)=d*(a/d)-d:=by rw[Int.mul_sub,Int.mul_one]
 have:=((Int.ediv_emod_unique (a:=a-1) (b:=d) (q:=a/d-1) (r:=d-1) hd).2 ⟨by rw[e];omega,aK,aK⟩).1;rw[this];omega
theorem mi {e:Int} {l:List Int} {k:Nat} (hk:k<l.length) (he:0≤e) (h1:∀x∈l.take k,0≤x) (h:l[k]<0∨1099511627776-(e+(l.take k).sum)<l[k]):eN (e :: l)=false:=by
 refine kt (k:=k+1) (by simpa using hk) (fun x hx=>?_) ?_
 ·simp only[List.take_succ_cons,cH] at hx;rcases hx with rfl|hx
  ·exact he
  exact h1 x hx
 simpa using h
theorem DK {e a b:Int} {c:C} {x y:Int} (hx:0≤x) (hy:0≤y):ft e a b c [x+y]=ft e a b c [x,y]∧ez e a b c [x+y]=ez e a b c [x,y]:=by
 have h:eN (e :: ([fO a b c,1]++[x+y]))=eN (e :: ([fO a b c,1]++[x,y])):=by
  simp only[eN,List.cons_append,List.nil_append,cH,cE,or_false,forall_eq_or_imp,forall_eq,dB,List.sum_nil]
  congr 1
  apply propext;constructor<;>(rintro⟨⟨h1,h2,h3,h4⟩,h5⟩;refine⟨⟨h1,h2,h3,?_⟩,?_⟩<;>first|omega|exact⟨hx,hy⟩)
 unfold ft ez;refine⟨by rw[h],?_⟩;unfold eh;rw[h];simp
theorem te (a d:Int) (w:World) (ha:U64 a) (hd:U64 d):Pur Tryz.prog 326 [aJ a,aJ d] w (.tuple [aJ (fK a d),.bool (ed d)].toArray):=by
 refine Γ Tryz.func326 19 (WOK.start [] _) ?_;refine rn [1,3,3,0,8,1,2,44,0] ?_;refine zB rfl (fun h1=>?_) (fun h1=>?_)
 ·refine RL ?_;exact dE rfl rfl rfl fun w' a5=>⟨by simp at h1;simp[fK,ed,h1],a5.upd⟩
 refine SQ ?_;refine s_q (fj rfl rfl (by simpa using h1)) rfl ?_;refine ae 11 (v' := aJ (a/d)) rfl (by unfold U64 at *;simp at h1;have e1:a.tdiv d=a/d:=Int.tdiv_eq_ediv_of_nonneg aK;have e2:0≤a/d:=Int.ediv_nonneg aK aK;have e3:a/d≤a:=Int.ediv_le_self _ aK;rw[e1,ey e2 aK]) (rn [3,0,8,1,2,2] ?_);refine s_q (mI rfl rfl (by simpa using h1)) rfl ?_;refine ae 14 (v' := aJ (a%d)) rfl (by unfold U64 at *;rw[Int.tmod_eq_emod_of_nonneg aK]) (rn [55,0] ?_);refine zB rfl (fun h2=>?_) (fun h2=>?_)
 ·refine rn [10,2] ?_;refine s_q (yI (z:=a/d+1) rfl rfl (by unfold U64 at *;simp at h1;simp at h2;have e2:0≤a/d:=Int.ediv_nonneg aK aK;have hq:=(jE (a:=a) (d:=d) aK aK).1 h2;have hb:=lM (a:=a) (d:=d) ha hd;rw[ey aK aK])) rfl (rn [3,0,1,2,3,3,0,11] ?_);exact dE rfl rfl rfl fun w' a5=>⟨by simp at h1 h2;have hq:=jE (a:=a) (d:=d) (by unfold U64 at ha;omega) (by unfold U64 at hd;omega);simp[ed,h1];first|exact(hq.1 h2).symm|exact(hq.2 aK).symm,a5.upd⟩
 refine rn [12,7,1,2,3,3,0,11] ?_;exact dE rfl rfl rfl fun w' a5=>⟨by simp at h1 h2;have hq:=jE (a:=a) (d:=d) (by unfold U64 at ha;omega) (by unfold U64 at hd;omega);simp[ed,h1];first|exact(hq.1 h2).symm|exact(hq.2 aK).symm,a5.upd⟩
theorem wu (a d:Int) (w:World) (ha:U64 a) (hd:U64 d):Pur Tryz.prog 325 [aJ a,aJ d] w (.tuple [aH (gA a d),.bool (fw a d)].toArray):=by
 refine Γ Tryz.func325 22 (WOK.start [] _) ?_;refine rn [1,3,3,0,1,2,2] ?_;refine aa (zH rfl (fun w1 a6=>te _ _ w1 ha hd) rfl (Sc ?_));refine zS 16 rfl (fun h1=>?_) (fun h1=>?_)
 ·refine rn [21,21,41,0,19,1,3,3,0,11,13] ?_;exact dE rfl rfl rfl fun w' a5=>⟨by first|(simp_all[gA,fw,ed];done)|(simp_all[gA,fw,ed];omega),a5.upd⟩
 refine rn [22,2,22,55,42,0] ?_;refine zB rfl (fun h2=>?_) (fun h2=>?_)
 ·refine RL ?_;exact dE rfl rfl rfl fun w' a5=>⟨by first|(simp_all[gA,fw,ed];done)|(simp_all[gA,fw,ed];omega),a5.upd⟩
 refine Sx ?_;refine s_q (yS (z:=fK a d) rfl (by have h0:=lM ha hd;simp[ed] at h1;simp at h2;rw[dY aK aK])) rfl (rn [3,3,0,11] ?_);exact dE rfl rfl rfl fun w' a5=>⟨by first|(simp_all[gA,fw,ed];done)|(simp_all[gA,fw,ed];omega),a5.upd⟩
theorem ie (w:World) : Pur Tryz.prog 297 [] w (aH 1099511627776):=by
 refine Γ Tryz.func297 1 (WOK.start [] _) ?_;refine rn [1,3,0,1,3,0,11] ?_;exact dD rfl rfl fun w' a5=>⟨aP,a5.upd⟩
theorem rC (e:Int) (A:bU) (n cap:Nat) (l:List Int) (w:World) (he:I64 e) (hl:Old w A n 1 (l.map aC)) (i6:∀x∈l,I64 x) (hb:n≤1000):Pur Tryz.prog 260 [aH e,.slice A n cap] w (.tuple [aH (eh (e :: l)),.bool (eN (e :: l))].toArray):=by
 refine Γ Tryz.func260 42 (WOK.start [] _) ?_;have hn:n=l.length:=by simpa using hl.len
 refine rn [1,3,3,0,8,1,2,46,2] ?_;refine zS 9 rfl (fun h1=>?_) (fun h1=>?_)
 ·have K8:eN (e :: l)=false:=cY (fun hc=>by have:=hc.1 e aM;simp at h1;omega);refine rn [21,21,21,41,0,19,1,3,3,0,11,13] ?_;exact dE rfl rfl rfl fun w' a5=>⟨by rw[eh,K8];rfl,a5.upd⟩
 refine rn [22,2] ?_;refine ff rfl rfl (zH rfl (fun w1 a6=>ie w1) rfl (rn [22,55,42,0] ?_));refine zB rfl (fun h2=>?_) (fun h2=>?_)
 ·have K8:eN (e :: l)=false:=cY (fun hc=>by have h9:=xH (l:=l) (fun x hx=>hc.1 x (by simp[hx]));have h8:=hc.2;simp at h2 h8;omega);refine RL ?_;exact dE rfl rfl rfl fun w' a5=>⟨by rw[eh,K8];rfl,a5.upd⟩
 have he0:0≤e:=by simpa using h1
 have he1:e≤1099511627776:=by simpa using h2
 refine rn [12,7,8,1,3,0,14] ?_;refine ae 0 (v' := aH (e+(l.take 0).sum)) rfl aM ?_;refine dP [1,4,5] (fun(x:Nat)=>[(0,aH (e+(l.take x).sum)),(6,aI x)]) (fun(x:Nat)=>[]) (fun(x:Nat)=>x≤n∧(∀y∈l.take x,0≤y)∧e+(l.take x).sum≤1099511627776) (fun(x:Nat)=>n-x) 0 (by(try dsimp only);exact⟨aK,aM,aV⟩) ?_;rintro k ⟨f6,hs,ht⟩;replace f6:k≤n:=f6;replace hs:∀y∈l.take k,0≤y:=hs;replace ht:e+(l.take k).sum≤1099511627776:=ht;refine Rw ?_;refine zB rfl (fun h3=>?_) (fun h3=>?_)
 ·have f8:k<n:=by have h9:=bW h3;omega
  have R8:k<l.length:=by omega
  have hx:I64 (l[k]):=i6 _ (cC _);unfold I64 at hx;have o5:=xH hs;refine rn [12,7,8,14,8,8] ?_;refine bn [] an rfl (RV ?_);refine dq 2 rfl (zM (i:=k) rfl rfl rfl (hl.rdb rfl) aS) ?_;refine dq 3 rfl (zX (i:=k) (o:=0) rfl (hl.rdb rfl) (zP aN) rfl rfl) (rn [23,4,46,23,5,2] ?_);refine zS 25 rfl (fun h4=>?_) (fun h4=>?_)
  ·refine rn [25,6,25,7,25,8,25,9,25,10,25,11,25,12,25,13,23,14,41,27,7,19,1,3,3,0,11] ?_;refine zD (zL (zD (zD (zL (zD ?_)))));exact dE rfl rfl rfl fun w' a5=>⟨by rw[eh,mi R8 he0 hs (.inl (by simpa using h4))];rfl,a5.upd⟩
  refine rn [26,6,2,26,7,2] ?_;refine dqg 8 rfl (zM (i:=k) rfl rfl rfl (hl.rdb rfl) aS) rfl rfl ?_;refine dqg 9 rfl (zX (i:=k) (o:=0) rfl (hl.rdb rfl) (zP aN) rfl rfl) rfl rfl (rn [26,11,2] ?_);refine oV 10 rfl rfl rfl (zH rfl (fun w1 a6=>ie w1) rfl ?_);refine dqg 12 rfl (yN (z:=1099511627776-(e+(l.take k).sum)) rfl rfl (by rw[dY aK aK])) rfl rfl (rn [26,13,55,23,14,42,27,7] ?_);refine zB rfl (fun h5=>?_) (fun h5=>?_)
  ·refine rn [1,3,3,0,11] ?_;refine zD (zL (zD (zD (zL (zD ?_)))));exact dE rfl rfl rfl fun w' a5=>⟨by rw[eh,mi R8 he0 hs (.inr (by simp at h5;omega))];rfl,a5.upd⟩
  refine rn [12,7,10,2,2,2] ?_;refine s_q (zM (i:=k) rfl rfl rfl (hl.rdb rfl) aS) rfl ?_;refine s_q (zX (i:=k) (o:=0) rfl (hl.rdb rfl) (zP aN) rfl rfl) rfl ?_;refine s_q (yI (z:=e+(l.take (k+1)).sum) rfl rfl (by have h9:=uL R8 hs (by simpa using h4);simp at h5;rw[dY aK aK];omega)) rfl (Rt ?_);exact cr (k+1) (by(try dsimp only);exact⟨aK,(uL R8 hs (by simpa using h4)).1,(by have h9:=uL R8 hs (by simpa using h4);simp at h5;omega)⟩)
 have f9:l.take k=l:=by have h9:=bX h3;rw[cP aK]
 rw[f9] at hs ht;refine Ru ?_;refine zE (zE (zQ (SI ?_)));exact dE rfl rfl rfl fun w' a5=>⟨by have h7:eN (e :: l)=true:=cX ⟨by intro x hx;rcases cH.1 hx with rfl|hx;exact he0;exact hs x hx,by simpa using ht⟩;rw[f9,eh,h7];simp,a5.upd⟩
theorem xd (a b:Int) (c:C) (w:World) (ha:U64 a) (hb:U64 b) (hc:Cok c):Pur Tryz.prog 321 [aJ a,aJ b,c.v] w (.tuple [aH (fO a b c),.bool (gP a b c)].toArray):=by
 refine Γ Tryz.func321 34 (WOK.start [] _) ?_;refine Ri ?_;refine aa (aq rfl rfl rfl fun b5=>rn [3,3,0,1,2,2,4,5] ?_);refine aa (bg rfl rfl rfl rfl rfl fun M5=>?_);refine zF (b:=M5) ((([a,b,(c).fcap]:List Int).map aD).flatten) rfl ?_;refine aa (zH rfl (fun w1 a6=>tI (some ⟨M5,0,none⟩) (3) (3) (([a,b,(c).fcap]:List Int)) w1 (Rdb.toOld (InL.rdb (b:=M5) (els:=(([a,b,(c).fcap]:List Int)).map aD) rfl aM rfl) a6) (CJ ha hb hc.U.1) bB) rfl (Ro ?_));refine zB rfl (fun h1=>?_) (fun h1=>?_)
 ·refine RL ?_;exact dE rfl rfl rfl fun w' a5=>⟨by first|(simp_all[fO,gP];done),a5.upd⟩
 refine rn [12,7,1,2,4,5] ?_;refine aa (zH rfl (fun w1 a6=>wu _ _ w1 (lS (CJ ha hb hc.U.1)) hc.U.2) rfl (Ro ?_));refine zB rfl (fun h2=>?_) (fun h2=>?_)
 ·refine RL ?_;exact dE rfl rfl rfl fun w' a5=>⟨by first|(simp_all[fO,gP];done),a5.upd⟩
 refine rn [12,7,1,2,59,3,3,0,11] ?_;exact dE rfl rfl rfl fun w' a5=>⟨by first|(simp_all[fO,gP];done),a5.upd⟩
theorem mG (c:C) (w:World) (hc:Cok c):Pur Tryz.prog 322 [c.v] w (aH (dv c)):=by
 refine Γ Tryz.func322 19 (WOK.start [] _) ?_;refine Ri ?_;refine aa (aq rfl rfl rfl fun b1=>rn [3,0,1,4,5,4,5,58,4,5] ?_);refine s_q (yN (z:=blN c) rfl rfl (by have h1:=hc.parts;have h2:=hc.vis;have h3:=hc.pays;have h4:=hc.capa;have h5:=xQ hc;have h6:=yU hc;have h7:=hc.elen;rw[dY aK aK];unfold blN;omega)) rfl (rn [3,0,1,4,5,2] ?_);refine s_q (yI (z:=c.capa+blN c) rfl rfl (by have h1:=hc.parts;have h2:=hc.vis;have h3:=hc.pays;have h4:=hc.capa;have h5:=xQ hc;have h6:=yU hc;have h7:=hc.elen;rw[dY aK aK])) rfl ?_;refine s_q (yN (z:=c.capa+blN c-1) rfl rfl (by have h1:=hc.parts;have h2:=hc.vis;have h3:=hc.pays;have h4:=hc.capa;have h5:=xQ hc;have h6:=yU hc;have h7:=hc.elen;rw[dY aK aK])) rfl (SD ?_);refine s_q (fj rfl rfl (by have h1:=hc.parts;have h2:=hc.vis;have h3:=hc.pays;have h4:=hc.capa;have h5:=xQ hc;have h6:=yU hc;have h7:=hc.elen;omega)) rfl ?_;refine ae 18 (v' := aH (dv c)) rfl (by have h1:=hc.parts;have h2:=hc.vis;have h3:=hc.pays;have h4:=hc.capa;have h5:=xQ hc;have h6:=yU hc;have h7:=hc.elen;rw[Int.tdiv_eq_ediv_of_nonneg aK,nt hc,dY aK aK]) (Rb ?_);exact dD rfl rfl fun w' a5=>⟨aP,a5.upd⟩
theorem Bn (c:C) (w:World) (hc:Cok c):Pur Tryz.prog 300 [c.v] w (aH (dU c)):=by
 refine Γ Tryz.func300 9 (WOK.start [] _) ?_;refine Ri ?_;refine aa (aq rfl rfl rfl fun b1=>rn [3,0,8] ?_);refine bn [] an rfl (rn [23,0,45,23,3,4,23,4,5] ?_);refine dop 1 rfl (zH rfl (fun w1 a6=>mG c w1 hc) rfl ?_);refine dq 2 rfl (yN (z:=dv c-1) rfl rfl (by have h1:=hc.parts;have h2:=hc.vis;have h3:=hc.pays;have h4:=hc.capa;have h5:=xQ hc;have h6:=yU hc;have h7:=hc.elen;rw[dY aK aK])) ?_;refine dq 5 rfl (fj rfl rfl (by have h1:=hc.parts;have h2:=hc.vis;have h3:=hc.pays;have h4:=hc.capa;have h5:=xQ hc;have h6:=yU hc;have h7:=hc.elen;omega)) ?_;refine ae 8 (v' := aH (dU c)) rfl (by have h1:=hc.parts;have h2:=hc.vis;have h3:=hc.pays;have h4:=hc.capa;have h5:=xQ hc;have h6:=yU hc;have h7:=hc.elen;have e3:0≤(dv c-1)/c.elen:=Int.ediv_nonneg aK aK;have e4:(dv c-1)/c.elen≤dv c-1:=Int.ediv_le_self _ aK;rw[Int.tdiv_eq_ediv_of_nonneg aK,dY aK aK];rfl) (rn [23,6,3,27,7,11] ?_);exact dD rfl rfl fun w' a5=>⟨aP,a5.upd⟩
theorem nz (e a b:Int) (c:C) (m:Int) (w:World) (ha:U64 a) (hb:U64 b) (hc:Cok c) (he:I64 e) (hm:I64 m):Pur Tryz.prog 299 [aH e,aJ a,aJ b,c.v,aH m] w (.tuple [aH (ez e a b c [m]),.bool (ft e a b c [m])].toArray):=by
 refine Γ Tryz.func299 30 (WOK.start [] _) ?_;refine Ri ?_;refine aa (aq rfl rfl rfl fun b8=>rn [3,3,0,1,2,2,45] ?_);refine aa (zH rfl (fun w1 a6=>xd _ _ _ w1 ha hb hc) rfl (Ro ?_));refine zB rfl (fun h1=>?_) (fun h1=>?_)
 ·refine RL ?_;exact dE rfl rfl rfl fun w' a5=>⟨by first|(simp_all[ez,ft];done),a5.upd⟩
 refine rn [12,7,1,2,2,2] ?_;refine aa (bg rfl rfl rfl rfl rfl fun b26=>?_);refine zF (b:=b26) ((([(fO a b c),1,m]:List Int).map aC).flatten) rfl ?_;refine aa (zH rfl (fun w1 a6=>rC _ (some ⟨b26,0,none⟩) (3) (3) (([(fO a b c),1,m]:List Int)) w1 he (Rdb.toOld (InL.rdb (b:=b26) (els:=(([(fO a b c),1,m]:List Int)).map aC) rfl aM rfl) a6) (Fu ha hb hc (l:=[m]) (by simpa using hm)) bL) rfl ?_);refine rn [40,40,3,3,0,11] ?_;exact dE rfl rfl rfl fun w' a5=>⟨by first|(simp_all[ez,ft];done),a5.upd⟩
theorem wrx (e a b:Int) (c:C) (w:World) (ha:U64 a) (hb:U64 b) (hc:Cok c) (he:I64 e):Pur Tryz.prog 259 [aH e,aJ a,aJ b,c.v] w (.tuple [aH (ez e a b c [c.unb,dU c]),.bool (ft e a b c [c.unb,dU c])].toArray):=by
 refine Γ Tryz.func259 22 (WOK.start [] _) ?_;refine Ri ?_;refine aa (aq rfl rfl rfl fun b7=>rn [3,3,0,8] ?_);refine bn [] an rfl (rn [23,0,2,23,1,2,23,2,2,23,3,45,23,4,4,23,5,5,23,6,45] ?_);refine dop 7 rfl (zH rfl (fun w1 a6=>Bn c w1 hc) rfl ?_);refine dq 8 rfl (yI (z:=c.unb+dU c) rfl rfl (by have h1:=hc.unb;have h2:=rS hc;rw[dY aK aK])) ?_;refine dop 9 rfl (zH rfl (fun w1 a6=>nz _ _ _ _ _ w1 ha hb hc he (by have h1:=hc.unb;have h2:=rS hc;exact⟨aK,aK⟩)) rfl ?_);refine rn [23,10,40,23,11,40,23,12,3,23,13,3,27,7,11] ?_;exact dE rfl rfl rfl fun w' a5=>⟨by have h9:=DK (e:=e) (a:=a) (b:=b) (c:=c) (x:=c.unb) (y:=dU c) (by have:=hc.unb;omega) (rS hc).1;rw[h9.1,h9.2],a5.upd⟩
theorem Ai (s:List (List Value)) {f M:Nat} {z:List Value} (hf:f≤s.length) (hM:s.length≤M):(List.replicate M z).take 0++((s.drop f).take (s.length-f)).take (min (s.length-f) M)++(List.replicate M z).drop (0+min (s.length-f) M)=s.drop f++List.replicate (M-(s.length-f)) z:=by
 have e:min (s.length-f) M=s.length-f:=by omega
 rw[e,List.take_zero,List.nil_append,cP aM,cP aM,Nat.zero_add,List.drop_replicate]
theorem Ah (s:List (List Value)) {f M:Nat} {z:List Value} (hf:f≤s.length) (hM:s.length≤M):(s.drop f++List.replicate (M-(s.length-f)) z).take (s.length-f)++((s.drop 0).take (f-0)).take (min f (M-(s.length-f)))++(s.drop f++List.replicate (M-(s.length-f)) z).drop (s.length-f+min f (M-(s.length-f)))=s.drop f++s.take f++List.replicate (M-s.length) z:=by
 have e:min f (M-(s.length-f))=f:=by omega
 have h1:(s.drop f).length=s.length-f:=by simp
 rw[e,List.drop_zero,Nat.sub_zero,List.take_left' h1,List.take_take,Nat.min_self,←List.drop_drop,List.drop_left' h1,List.drop_replicate]
 congr 2;omega
theorem vG {s:List (List Value)} (f:Nat) {M:Nat} {z:List Value} (hf:f≤s.length) (hM:s.length≤M):(s.drop f++s.take f++List.replicate (M-s.length) z).length=M:=by
 simp;omega
abbrev aj (b:Nat) (g:Rg):Res:=Res.blk b 193 (Rg.c g)
abbrev ah (g:Rg):Res:=Res.row g.A g.s.length g.cap 3 1 g.s
theorem Eo (b:Nat) (g:Rg) (l:List (List Value)) (w:World) (hw:W0 [aj b g,ah g] w) (h:g.Rep 1 l) (hs:g.n<g.size):au (ι:=Rg) Tryz.prog 165 [aG b] w [aj b g,ah g] (fun x=>x.Rep 1 l∧x.n<x.s.length∧x.size=g.size) (fun x=>.tuple #[]) (fun x=>[]) (fun x=>[aj b x,ah x]):=by
 refine Γ Tryz.func165 58 hw ?_;refine rn [8,8] ?_;refine bn [] an rfl (RI ?_);refine zB rfl (fun h1=>?_) (fun h1=>?_)
 ·refine rn [11,13] ?_;exact dF rfl fun w' a5=>⟨g,(by(try dsimp only);exact⟨h,by simpa using h1,rfl⟩),by first|rfl|(simp_all;done),zA w' a5⟩
 refine RM ?_;refine bn [] an rfl ?_;have hn:g.n=g.s.length:=by have:=h.le;simp at h1;omega
 have q1:=h.sz;have q2:=h.hi;have q3:=h.fst;have q4:=h.cp;refine RW ?_;refine dq 9 rfl (uB rfl rfl (dY aK aK)) ?_;refine dq 10 rfl (yI rfl rfl (dY aK aK)) (rn [23,11,58] ?_);refine dop 12 rfl (pD (n:=(min g.size (2*g.s.length+1))) rfl rfl aK aK aK rfl fun m7=>rn [23,13,3,27,7,8] ?_);refine dR (L0:=[Res.blk b 193 (Rg.c g),Res.row g.A g.s.length g.cap 3 1 g.s]) [] an rfl zG (RY ?_);refine dq 9 rfl (xB (l:=g.first) rfl rfl rfl aK) ?_;refine dop 10 rfl (tY (A:=some ⟨m7,0,none⟩) (n:=(min g.size (2*g.s.length+1))) (cap:=(min g.size (2*g.s.length+1))) (els:=List.replicate (min g.size (2*g.s.length+1)) [aH 0]) (l:=0) rfl rfl (fun _=>by simp) (Rdb.sub (Rdb.row 2 rfl rfl (fun c hc=>(h.one c hc).1)) (l:=g.first) (h:=g.s.length) aK (cM _) q4) aK (fun c hc=>(h.one c (cL (cD hc))).2) rfl ?_);refine yB (L' := [Res.row (some ⟨m7,0,none⟩) (min g.size (2*g.s.length+1)) (min g.size (2*g.s.length+1)) 3 1 (g.s.drop g.first++List.replicate ((min g.size (2*g.s.length+1))-(g.s.length-g.first)) [aH 0]),Res.blk b 193 (Rg.c g),Res.row g.A g.s.length g.cap 3 1 g.s]) (by rw[Ai _ aK aK]) ?_;have ek:min (g.s.length-g.first) (min g.size (2*g.s.length+1))=g.s.length-g.first:=by omega
 refine rn [23,11,3,27,7,8] ?_;refine dR (L0:=[Res.blk b 193 (Rg.c g),Res.row g.A g.s.length g.cap 3 1 g.s]) [] an rfl zG (RV ?_);refine dq 2 rfl (xB (l:=g.s.length-g.first) rfl rfl aK aK) (Sa ?_);refine dq 11 rfl (xC (h:=g.first) rfl rfl rfl aK) ?_;refine dop 12 rfl (tY (A:=some ⟨m7,0,none⟩) (n:=(min g.size (2*g.s.length+1))) (cap:=(min g.size (2*g.s.length+1))) (els:=g.s.drop g.first++List.replicate ((min g.size (2*g.s.length+1))-(g.s.length-g.first)) [aH 0]) (l:=g.s.length-g.first) rfl rfl (fun h0=>by unfold cz;rw[bY aK];simp[yY]) (Rdb.sub (Rdb.row 2 rfl rfl (fun c hc=>(h.one c hc).1)) (l:=0) (h:=g.first) aK aK q4) aK (fun c hc=>(h.one c (cL (cD hc))).2) rfl ?_);refine yB (L' := [Res.row (some ⟨m7,0,none⟩) (Rg.s (Rg.grown g (some ⟨m7,0,none⟩) [aH 0])).length (Rg.cap (Rg.grown g (some ⟨m7,0,none⟩) [aH 0])) 3 1 (Rg.s (Rg.grown g (some ⟨m7,0,none⟩) [aH 0])),Res.blk b 193 (Rg.c g),Res.row g.A g.s.length g.cap 3 1 g.s]) (by rw[Ah _ aK aK];simp only[Rg.grown,vG _ (show g.first≤g.s.length by omega) (show g.s.length≤(min g.size (2*g.s.length+1)) by omega)]) (rn [27,7,10,2,2,2,6,4] ?_);refine aa (zI rfl rfl rfl rfl rfl rfl rfl (SY ?_));refine aa (zI rfl rfl rfl rfl rfl rfl rfl (rn [9] ?_));have M6:=h.grown (some ⟨m7,0,none⟩) (z:=[aH 0]) ⟨rfl,by simp[Value.oneCell']⟩ hn hs;have hgc:ay (ay g.c 0 [dC (some ⟨m7,0,none⟩) (min g.size (2*g.s.length+1)) (min g.size (2*g.s.length+1))]) 2 [aH 0]=Rg.c (Rg.grown g (some ⟨m7,0,none⟩) [aH 0]):=by simp only[Rg.c,Rg.grown,vG _ (show g.first≤g.s.length by omega) (show g.s.length≤(min g.size (2*g.s.length+1)) by omega)];simp[ay]
 refine yB (L' := [Res.row (some ⟨m7,0,none⟩) (Rg.s (Rg.grown g (some ⟨m7,0,none⟩) [aH 0])).length (Rg.cap (Rg.grown g (some ⟨m7,0,none⟩) [aH 0])) 3 1 (Rg.s (Rg.grown g (some ⟨m7,0,none⟩) [aH 0])),Res.blk b 193 (Rg.c (Rg.grown g (some ⟨m7,0,none⟩) [aH 0])),Res.row g.A g.s.length g.cap 3 1 g.s]) (by rw[←hgc]) ?_;exact dF rfl fun w' a5=>⟨(Rg.grown g (some ⟨m7,0,none⟩) [aH 0]),(by first|exact⟨M6.1,M6.2,rfl⟩|(dsimp only;exact⟨M6.1,M6.2,rfl⟩)),rfl,by have h9:=zG (L' := [Res.blk b 193 (Rg.c (Rg.grown g (some ⟨m7,0,none⟩) [aH 0])),Res.row (some ⟨m7,0,none⟩) (Rg.s (Rg.grown g (some ⟨m7,0,none⟩) [aH 0])).length (Rg.cap (Rg.grown g (some ⟨m7,0,none⟩) [aH 0])) 3 1 (Rg.s (Rg.grown g (some ⟨m7,0,none⟩) [aH 0]))]) w' a5;exact h9⟩
theorem zk (n:Nat) (w:World) (hn:1≤n∧n≤1048576):au (ι:=(Nat × Rg)) Tryz.prog 40 [aH (n:Int)] w [] (fun x=>x.2.Rep 1 (([]:List Int).map aC)∧x.2.size=n) (fun x=>.pointer (some ⟨x.1,0,none⟩)) (fun x=>[aj x.1 x.2,ah x.2]) (fun x=>[]):=by
 refine Γ Tryz.func40 12 (WOK.start (fps []) _) ?_;refine rn [1,3,0,8,1,2,46] ?_;refine zV 4 (b:=false) rfl aV (Na ?_);refine zV 7 (b:=false) rfl aV (SR ?_);refine s_q (yF (c:=Rg.c (Rg.init n)) rfl rfl) rfl ?_;refine aa (aq rfl rfl rfl fun p5=>Rb ?_);refine uZ none 3 1 ?_;exact dD rfl rfl fun w' a5=>⟨(p5,Rg.init n),(by first|exact⟨.init hn.2,rfl⟩|(dsimp only;exact⟨.init hn.2,rfl⟩)),rfl,by have h9:=zG (L' := [Res.blk p5 193 (Rg.c (Rg.init n)),Res.row none 0 0 3 1 []]) w' a5;exact h9⟩
theorem qp (b:Nat) (g:Rg) (l:List Int) (w:World) (hw:W0 [aj b g,ah g] w) (h:g.Rep 1 (l.map aC)):du Tryz.prog 92 [aG b] w [aj b g,ah g] (aH (l.length:Int)):=by
 refine Γ Tryz.func92 9 hw ?_;refine RC ?_;exact dD rfl rfl fun w' a5=>⟨(),trivial,by rw[h.num],zA w' a5⟩
theorem kz (b:Nat) (g:Rg) (l:List Int) (w:World) (hw:W0 [aj b g,ah g] w) (h:g.Rep 1 (l.map aC)):du Tryz.prog 104 [aG b] w [aj b g,ah g] (aI (g.size-l.length)):=by
 refine Γ Tryz.func104 14 hw ?_;have q1:=h.sz;have q2:=h.hi;have q3:=h.le;refine RT ?_;refine bn [] an rfl (RJ ?_);refine dq 8 rfl (tJ (a:=g.size) (b:=g.n) rfl rfl aR aR) (rn [23,9,3,27,7,11] ?_);exact dD rfl rfl fun w' a5=>⟨(),trivial,by rw[h.num],zA w' a5⟩
theorem iU (b:Nat) (g:Rg) (l:List Int) (i:Int) (w:World) (hw:W0 [aj b g,ah g] w) (h:g.Rep 1 (l.map aC)):du Tryz.prog 93 [aG b,aH i] w [aj b g,ah g] (.tuple [aH ((pk l i).getD 0),.bool (pk l i).isSome].toArray):=by
 refine Γ Tryz.func93 34 hw ?_;refine rn [1,3,3,0,1,3,0,8,1,2,46,2] ?_;refine zS 9 rfl (fun h1=>?_) (fun h1=>?_)
 ·refine rn [21,21,21,21,41,0,19,1,2,3,3,0,11,13] ?_;exact dE rfl rfl rfl fun w' a5=>⟨(),trivial,by have e:pk l i=none:=(by unfold pk;rw[bY (by simp at h1;omega)]);rw[e];rfl,zA w' a5⟩
 refine rn [22,2,22,2] ?_;refine ff rfl rfl (zN _ rfl (fun w1 a6 a8=>by exact qp b g l w1 a8 h) rfl ?_);refine rn [22,53,42,0] ?_;refine zB rfl (fun h2=>?_) (fun h2=>?_)
 ·refine rn [1,2,3,3,0,11,13] ?_;exact dE rfl rfl rfl fun w' a5=>⟨(),trivial,by have e:pk l i=none:=(by unfold pk;rw[bZ (by simp at h1;omega),List.getElem?_eq_none (by simp at h1 h2;omega)]);rw[e];rfl,zA w' a5⟩
 obtain⟨i,rfl⟩:∃i' : Nat,i=i' := ⟨i.toNat,by simp at h1;omega⟩
 have hi:i<l.length:=by simp at h2;omega
 have q1:=h.sz;have q2:=h.hi;have q3:=h.le;have q4:=h.num;have q5:=h.fst;refine RM ?_;refine bn [] an rfl (RD ?_);refine dq 9 rfl (xP (a:=g.first) (b:=i) rfl rfl aK) (rn [23,10,2,23,11,6,23,12,4,23,13,5,23,14,47] ?_);refine dq 15 rfl (wA rfl rfl aK) ?_;refine dq 16 rfl (zM (i:=(g.first+i)%g.s.length) rfl rfl rfl (InRow.rdb (A:=Rg.A g) rfl (fun c hc=>(h.one c hc).1)) (h.idx hi)) ?_;refine dq 17 rfl (zX (i:=(g.first+i)%g.s.length) (o:=0) rfl (InRow.rdb (A:=Rg.A g) rfl (fun c hc=>(h.one c hc).1)) (h.at hi) rfl rfl) (rn [23,18,3,23,19,3,27,7,11] ?_);exact dE rfl rfl rfl fun w' a5=>⟨(),trivial,by rw[uV,List.getElem?_eq_getElem hi];rfl,zA w' a5⟩
theorem yq (b:Nat) (g:Rg) (l:List Int) (w:World) (hw:W0 [aj b g,ah g] w) (h:g.Rep 1 (l.map aC)):au (ι:=Rg) Tryz.prog 232 [aG b] w [aj b g,ah g] (fun x=>x.Rep 1 (l.tail.map aC)∧x.size=g.size) (fun x=>.tuple [aH (l.head?.getD 0),.bool l.head?.isSome].toArray) (fun x=>[]) (fun x=>[aj b x,ah x]):=by
 refine Γ Tryz.func232 46 hw ?_;refine rn [1,3,3,0,1,2] ?_;refine aa (zN _ rfl (fun w1 a6 a8=>by exact iU b g l _ w1 a8 h) rfl ?_);refine rn [2,40,40,3,3,0,8,1,2,0] ?_;refine zB rfl (fun h1=>?_) (fun h1=>?_)
 ·obtain⟨x,l',rfl⟩:∃x l',l=x :: l' := by cases l with|nil=>simp[pk] at h1|cons x l' => exact⟨x,l',rfl⟩
  obtain⟨qf,qg,qn⟩:=h.hd;have q1:=h.sz;have q2:=h.hi;have q3:=h.le;refine SZ ?_;refine bn [10] an rfl (RD ?_);refine dq 9 rfl (zM (i:=g.first) rfl rfl rfl (InRow.rdb (A:=Rg.A g) rfl (fun c hc=>(h.one c hc).1)) qf) ?_;refine dop 10 rfl (yD (A:=Rg.A g) (i:=g.first) (o:=0) (cs' := [aH 0]) rfl rfl rfl rfl rfl qg aO rfl rfl (rn [28,7,8] ?_));refine bn [14] an rfl (RF ?_);refine dq 11 rfl (wA (a:=(g.first+1)) (b:=g.s.length) rfl rfl aR) (SB ?_);refine dop 14 rfl (zI rfl rfl rfl rfl rfl rfl rfl (rn [28,7,10,2,6,4,5] ?_));refine s_q (tJ (a:=g.n) (b:=1) rfl rfl aR aR) rfl (SY ?_);refine aa (zI rfl rfl rfl rfl rfl rfl rfl (rn [0,1,2,2,3,3,0,11] ?_));refine zF (b:=b) (Rg.c (Rg.pop g [aH 0])) (by simp[Rg.c,Rg.pop,ay]) ?_;exact dE rfl rfl rfl fun w' a5=>⟨(Rg.pop g [aH 0]),(by first|exact⟨h.pop ⟨rfl,by simp[Value.oneCell']⟩,rfl⟩|(dsimp only;exact⟨h.pop ⟨rfl,by simp[Value.oneCell']⟩,rfl⟩)),by simp[pk],by have h9:=zG (L' := [Res.blk b 193 (Rg.c (Rg.pop g [aH 0])),Res.row g.A g.s.length g.cap 3 1 (g.s.set g.first [aH 0])]) w' a5;show WOK _ _ [aj b ((Rg.pop g [aH 0])),ah ((Rg.pop g [aH 0]))] _;dsimp only[aj,ah];rw[show(Rg.s (Rg.pop g [aH 0])).length=g.s.length from by simp[Rg.pop]];exact h9⟩
 obtain rfl:l=[]:=by cases l with|cons x l' => simp[pk] at h1|nil=>rfl
 refine rn [12,7,1,2,2,3,3,0,11] ?_;exact dE rfl rfl rfl fun w' a5=>⟨g,(by exact⟨h,rfl⟩),by first|rfl|(simp_all;done),zA w' a5⟩
theorem oD (b:Nat) (g:Rg) (l:List Int) (els:List Int) (A:bU) (cap:Nat) (w:World) (hw:W0 [aj b g,ah g] w) (h:g.Rep 1 (l.map aC)) (hrd:Rd w [aj b g,ah g] A els.length 1 (els.map aC)) (j5:els.length≤cap):au (ι:=Rg) Tryz.prog 107 [aG b,.slice A els.length cap] w [aj b g,ah g] (fun x=>x.Rep 1 ((l++els.take (min els.length (Rg.size g-l.length))).map aC)∧x.size=g.size) (fun x=>.int .i64 ((min els.length (Rg.size g-l.length)):Nat)) (fun x=>[]) (fun x=>[aj b x,ah x]):=by
 refine Γ Tryz.func107 53 hw ?_;have q1:=h.sz;have q2:=h.hi;have q3:=h.le;have q4:=h.num;refine rn [1,3,0,1,2,47,2] ?_;refine aa (zN _ rfl (fun w1 a6 a8=>by exact kz b g l w1 a8 h) rfl ?_);refine s_q (qW (a:=els.length) (b:=(Rg.size g-(l).length)) rfl rfl) rfl (rn [3,0,8,1,2,2] ?_);refine s_q (xC (h:=(min els.length (Rg.size g-l.length))) rfl rfl rfl aK) rfl (SK ?_);refine dP [0,4,5,15,16] (fun(x:Nat × Rg)=>[(17,aI x.1)]) (fun(x:Nat × Rg)=>[aj b x.2,ah x.2]) (fun(x:Nat × Rg)=>x.1≤(min els.length (Rg.size g-l.length))∧Rg.Rep x.2 1 ((l++els.take x.1).map aC)∧Rg.size x.2=Rg.size g) (fun(x:Nat × Rg)=>(min els.length (Rg.size g-l.length))-x.1) (0,g) (by(try dsimp only);exact⟨cN _,(by simpa using h),rfl⟩) ?_;rintro⟨k,g1⟩ ⟨f6,hr,es⟩;replace f6:k≤(min els.length (Rg.size g-l.length)):=f6;replace hr:Rg.Rep g1 1 ((l++els.take k).map aC):=hr;replace es:Rg.size g1=Rg.size g:=es;refine yB (L' := [aj b g1,ah g1]) rfl ?_;refine ae 17 (v' := aI k) rfl rfl (Rj ?_);refine zB rfl (fun h1=>?_) (fun h1=>?_)
 ·have f8:k<(min els.length (Rg.size g-l.length)):=by have h9:=bW h1;omega
  refine Ry ?_;refine s_q (zM (i:=k) rfl rfl rfl (hrd.rdb.h (cap:=cap) aK j5) aN) rfl ?_;refine s_q (zX (i:=k) (o:=0) rfl (hrd.rdb.h (cap:=cap) aK j5) (uG (l:=els) (m:=(min els.length (Rg.size g-l.length))) aN aK) rfl rfl) rfl (RR ?_);refine aa (zJ _ rfl (fun w1 a6 a8=>by exact Eo b g1 _ w1 a8 hr (by have q1:=hr.num;simp at q1;omega)) rfl ?_);rintro q8 ⟨G5,n22,s22⟩;refine ii ?_;have q1:=G5.sz;have q2:=G5.hi;have q3:=G5.fst;refine Sw ?_;refine bn [21] an rfl (RB ?_);refine dq 12 rfl (xP (a:=q8.first) (b:=q8.n) rfl rfl aR) (rn [23,13,2,23,14,6,23,15,4,23,16,5,23,17,47] ?_);refine dq 18 rfl (wA (a:=(q8.first+q8.n)) (b:=q8.s.length) rfl rfl aR) (rn [23,19,2] ?_);refine dq 20 rfl (zM (i:=(q8.first+q8.n)%q8.s.length) rfl rfl rfl (InRow.rdb (A:=Rg.A q8) rfl (fun c hc=>(G5.one c hc).1)) (cW _ aK)) ?_;refine dop 21 rfl (yD (A:=Rg.A q8) (i:=(q8.first+q8.n)%q8.s.length) (o:=0) (cs' := (aC els[k])) rfl rfl rfl rfl rfl (List.getElem?_eq_getElem (cW _ aK)) aM rfl (yH (G5.one _ (cC _)).1) ?_);refine rn [28,7,10,2,6,4,5,43,6,4] ?_;refine aa (zI rfl rfl rfl rfl rfl rfl rfl (RS ?_));refine yB (L' := [aj b (Rg.put q8 (aC els[k])),ah (Rg.put q8 (aC els[k]))]) (by simp[aj,ah,Rg.put,Rg.c,ay]) ?_;exact cr ((k+1),(Rg.put q8 (aC els[k]))) (by(try dsimp only);exact⟨aN,(by rw[←uE aK];exact G5.put ⟨rfl,by simp[Value.oneCell']⟩ n22),(by simp only[Rg.put];omega)⟩)
 have f9:k=(min els.length (Rg.size g-l.length)):=by have h9:=bX h1;omega
 refine Ru ?_;refine zE (zE (zQ (Rl ?_)));exact dD rfl rfl fun w' a5=>⟨g1,(by exact⟨by rw[←f9];exact hr,es⟩),by first|rfl|(simp_all;done),zA w' a5⟩
theorem BK (b:Nat) (g:Rg) (l:List Int) (w:World) (hw:W0 [aj b g,ah g] w) (h:g.Rep 1 (l.map aC)):au (ι:=(bU × Nat)) Tryz.prog 49 [aG b] w [aj b g,ah g] (fun x=>True) (fun x=>.slice x.1 l.length x.2) (fun x=>[Res.row x.1 l.length x.2 3 1 (l.map aC)]) (fun x=>[aj b g,ah g]):=by
 refine Γ Tryz.func49 24 hw ?_;have q1:=h.sz;have q2:=h.hi;have q3:=h.le;have q4:=h.num;refine rn [1,3,0,1,3] ?_;refine xA 3 3 1 rfl fun A3 cap3 hc3=>rn [0,8,1,2] ?_;refine aa (zN _ rfl (fun w1 a6 a8=>by exact qp b g l w1 a8 h) rfl ?_);refine rn [2,0,14] ?_;refine zC (A:=A3) ((l.take 0).map aC) aM ?_;refine dP [0,2,8] (fun(x:Nat × bU × Nat)=>[(3,.slice x.2.1 x.1 x.2.2),(9,aI x.1)]) (fun(x:Nat × bU × Nat)=>[Res.row x.2.1 x.1 x.2.2 3 1 ((l.take x.1).map aC),aj b g,ah g]) (fun(x:Nat × bU × Nat)=>x.1≤l.length) (fun(x:Nat × bU × Nat)=>l.length-x.1) (0,A3,cap3) aW ?_;rintro⟨k,A,cap⟩ f6;replace f6:k≤l.length:=f6;refine yB (L' := [Res.row A k cap 3 1 ((l.take k).map aC),aj b g,ah g]) rfl ?_;refine ae 3 (v' := .slice A k cap) rfl rfl ?_;refine ae 9 (v' := aI k) rfl rfl (Rj ?_);refine zB rfl (fun h1=>?_) (fun h1=>?_)
 ·have f8:k<l.length:=by have h9:=bW h1;omega
  refine rn [12,7,8,14,1,2,3,0,1,2,2] ?_;refine aa (zN _ rfl (fun w1 a6 a8=>by exact iU b g l _ w1 a8 h) rfl ?_);refine rn [2,40,40,3] ?_;refine ae 5 (v' := aH l[k]) rfl (by rw[uV,List.getElem?_eq_getElem f8];rfl) ?_;refine rn [3,0,10,2,2] ?_;refine aa (bg rfl rfl rfl rfl rfl fun N4=>?_);refine aa (zW (A:=A) (els:=(l.take k).map aC) (news:=[aC l[k]]) rfl rfl (InL.rdb (b:=N4) rfl aM rfl) (by simp[Value.oneCell']) aK rfl fun A' cap' => ⟨_,inferInstance,?_⟩);refine zC (A:=A') ((l.take (k+1)).map aC) (uC f8) (Rx ?_);exact cr ((k+1),A',cap') aU
 have f9:k=l.length:=by have h9:=bX h1;omega
 subst f9;refine Ru ?_;refine zE (zE (zQ (Rl ?_)));refine zC (A:=A) (l.map aC) aM ?_;exact dD rfl rfl fun w' a5=>⟨(A,cap),bG,rfl,by have h9:=zG (L' := [Res.row A l.length cap 3 1 (l.map aC),aj b g,ah g]) w' a5;exact h9⟩
theorem ACx (w:World) : Pur Tryz.prog 92 [.pointer none] w (aH 0):=by
 refine Γ Tryz.func92 9 (WOK.start [] _) ?_;refine rn [1,3,0,8,1,2,61,0,19,1,3,0,11,13] ?_;exact dD rfl rfl fun w' a5=>⟨aP,a5.upd⟩
theorem Ct (w:World) : Pur Tryz.prog 104 [.pointer none] w (aH 0):=by
 refine Γ Tryz.func104 14 (WOK.start [] _) ?_;refine rn [1,3,0,8,1,2,61,0,19,1,3,0,11,13] ?_;exact dD rfl rfl fun w' a5=>⟨aP,a5.upd⟩
theorem qd (i:Int) (w:World) : Pur Tryz.prog 93 [.pointer none,aH i] w (.tuple [aH 0,.bool false].toArray):=by
 refine Γ Tryz.func93 34 (WOK.start [] _) ?_;refine rn [1,3,3,0,1,3,0,8,1,2,46,2] ?_;refine zS 9 rfl (fun h1=>?_) (fun h1=>?_)
 ·refine rn [21,21,21,21,41,0,19,1,2,3,3,0,11,13] ?_;exact dE rfl rfl rfl fun w' a5=>⟨aP,a5.upd⟩
 refine rn [22,2,22,2] ?_;refine ff rfl rfl (zH rfl (fun w1 a6=>ACx w1) rfl (rn [22,53,42,0] ?_));refine zB rfl (fun h2=>?_) (fun h2=>?_)
 ·refine rn [1,2,3,3,0,11,13] ?_;exact dE rfl rfl rfl fun w' a5=>⟨aP,a5.upd⟩
 exfalso;simp at h1 h2;omega
theorem ET (w:World) : Pur Tryz.prog 232 [.pointer none] w (.tuple [aH 0,.bool false].toArray):=by
 refine Γ Tryz.func232 46 (WOK.start [] _) ?_;refine rn [1,3,3,0,1,2] ?_;refine aa (zH rfl (fun w1 a6=>qd _ w1) rfl (rn [2,40,40,3,3,0,8,1,2,0,20,12,7,1,2,2,3,3,0,11] ?_));exact dE rfl rfl rfl fun w' a5=>⟨aP,a5.upd⟩
theorem FP (w:World) : Pur Tryz.prog 49 [.pointer none] w (.slice none 0 0):=by
 refine Γ Tryz.func49 24 (WOK.start [] _) ?_;refine rn [1,3,0,1,3,0,8,1,2] ?_;refine aa (zH rfl (fun w1 a6=>ACx w1) rfl (rn [2,0,14] ?_));refine dP [0,2,8] (fun(x:Nat)=>[(3,.slice none 0 0),(9,aI x)]) (fun(x:Nat)=>[]) (fun(x:Nat)=>x≤0) (fun(x:Nat)=>0-x) 0 aW ?_;rintro k f6;replace f6:k≤0:=f6;refine Rj ?_;refine zB rfl (fun h1=>?_) (fun h1=>?_)
 ·have f8:k<0:=by have h9:=bW h1;omega
  exfalso;omega
 have f9:k=0:=by have h9:=bX h1;omega
 refine Ru ?_;refine zE (zE (zQ (Rl ?_)));exact dD rfl rfl fun w' a5=>⟨aP,a5.upd⟩
end Go.Proofs.YtdddiilocbbkkaaGreat
