/- TopModel, part 7. No condition. -/
import Derived.Test.YtdddiilocbbkkaaGreatTN6
set_option linter.unusedVariables false
set_option linter.unusedSimpArgs false
namespace Go.Proofs.YtdddiilocbbkkaaGreat
open Go.RowKit Go.Eg
set_option maxHeartbeats 4000000
set_option synthInstance.maxSize 3000
set_option maxRecDepth 100000
theorem rG (A:bU) (n cap:Nat) (l:List V) (i:Nat) (y:V) (w:World) (hrd:Rd w [] A n 7 (l.map V.c)) (j5:n≤1000000) (hi:i<l.length):au (ι:=(bU × Nat)) Tryz.prog 192 [.slice A n cap,aI i,y.v] w [] (fun x=>True) (fun x=>.slice x.1 (l.set i y).length x.2) (fun x=>[Res.row x.1 (l.set i y).length x.2 52 7 ((l.set i y).map V.c)]) (fun x=>[]):=by
 refine Γ Tryz.func192 16 (WOK.start (fps []) _) ?_;have hn:n=l.length:=by have:=hrd.old.len;simpa using this
 refine Ri ?_;refine aa (aq (c:=V.c y) rfl rfl rfl fun b5=>rn [3,0,1] ?_);refine aa (bg rfl rfl rfl rfl rfl fun b8=>?_);refine xL (t:=8) (T:=52) (k:=7) rfl fun A8 D7 H8=>?_;refine zC (A:=A8) (([]:List V).map V.c) rfl (SD ?_);refine aa (zW (A:=A8) (els:=(([]:List V)).map V.c) (news:=((l).map V.c)) rfl rfl hrd.rdb (zZ (c:=V.c) (by intro x;simp[V.c,Value.oneCell']) _) aR rfl fun A10 C1=>⟨_,inferInstance,?_⟩);refine zC (A:=A10) ((l).map V.c) (by first|rfl|exact cA.symm|(simp;done)) ?_;refine zR (A:=A10) (n) aM ?_;refine ae 10 (v' := .slice A10 (n) C1) rfl aM (rn [3,0,1,2,2,45] ?_);refine s_q (zM (i:=i) rfl rfl rfl (ird (A:=A10)) aS) rfl ?_;refine aa (yD (A:=A10) (i:=i) (o:=0) (cs' := V.c (y)) rfl rfl rfl rfl rfl (zP aT) aY rfl (yH rfl) ?_);refine zC (A:=A10) ((l.set i y).map V.c) (by simp only[dA]) (SJ ?_);exact dD rfl rfl fun w' a5=>⟨(A10,C1),aQ,by simp[hn],by rw[List.length_set,←hn];exact zA w' a5⟩
def pos (l:List Y):List Y:=l.filter fun y => !decide (y.a=0)
theorem iQ {l:List Y} {j:Nat} (h:j<l.length):pos (l.take (j+1))=pos (l.take j)++(if l[j].a=0 then [] else [l[j]]):=by
 unfold pos;rw[←cB h,List.filter_append];by_cases h0:l[j].a=0<;>simp[h0]
theorem EQx (l:List Y):(pos l).length≤l.length:=List.length_filter_le _ _
theorem mT (y:Y) (w:World) : Pur Tryz.prog 286 [.agg y.c.toArray] w (.bool (decide (y.a=0))):=by
 refine Γ Tryz.func286 6 (WOK.start [] _) ?_;refine Ri ?_;refine aa (aq rfl rfl rfl fun b1=>rn [3,0,1,4,5,44,3,0,11] ?_);exact dD rfl rfl fun w' a5=>⟨aP,a5.upd⟩
theorem ml (A:bU) (n cap:Nat) (l:List Y) (w:World) (hw:W0 [Res.row A n cap 50 3 (l.map Y.c)] w) (hn:n=l.length) (j5:n≤1000000):au (ι:=Int) Tryz.prog 319 [.slice A n cap,.func (.func 286) #[] #[]] w [Res.row A n cap 50 3 (l.map Y.c)] (fun x=>((x=-1∧∀y∈l,¬y.a=0)∨∃k:Nat,x=k∧k<l.length∧(∀y∈l.take k,¬y.a=0)∧(l[k]?.map Y.a)=some 0)) (fun x=>.int .i64 x) (fun x=>[]) (fun x=>[Res.row A n cap 50 3 (l.map Y.c)]):=by
 refine Γ Tryz.func319 19 hw ?_;refine rn [1,3,0,8,1,2,47,2,0,14] ?_;refine dP [0,1,4,7] (fun(x:Nat)=>[(8,aI x)]) (fun(x:Nat)=>[Res.row A n cap 50 3 (l.map Y.c)]) (fun(x:Nat)=>x≤l.length∧(∀y∈l.take x,¬y.a=0)) (fun(x:Nat)=>l.length-x) 0 (by(try dsimp only);exact⟨cN _,aM⟩) ?_;rintro k ⟨f6,hz⟩;replace f6:k≤l.length:=f6;replace hz:∀y∈l.take k,¬y.a=0:=hz;refine Rj ?_;refine zB rfl (fun h1=>?_) (fun h1=>?_)
 ·have f8:k<l.length:=by have h9:=bW h1;omega
  refine rn [12,7,8,14,1,2,3,0,1,2,2,2] ?_;refine s_q (zM (i:=k) rfl rfl rfl (InRow.rdb (A:=A) (els:=l.map Y.c) (by simpa using hn) (yA (c:=Y.c) (fun _=>rfl) _)) aN) rfl ?_;refine s_q (zU (i:=k) rfl (InRow.rdb (A:=A) (els:=l.map Y.c) (by simpa using hn) (yA (c:=Y.c) (fun _=>rfl) _)) (zP aX) rfl) rfl ?_;refine aa (uY rfl rfl (fun w1 a6=>mT l[k] w1) rfl (rn [0] ?_));refine zB rfl (fun h2=>?_) (fun h2=>?_)
  ·refine rn [1,2,3,0,11] ?_;refine zL (zD (zD (zL (zD ?_))));exact dD rfl rfl fun w' a5=>⟨((k:Nat):Int),(by(try dsimp only);exact .inr ⟨k,rfl,f8,hz,by rw[List.getElem?_eq_getElem f8];simpa using h2⟩),rfl,zA w' a5⟩
  refine RK ?_;exact cr (k+1) (by(try dsimp only);exact⟨aN,(by rw[←cB f8];intro y hy;rcases cK.1 hy with h|h;exact hz y h;simp at h;subst h;simpa using h2)⟩)
 have f9:k=l.length:=by have h9:=bX h1;omega
 refine Ru ?_;refine zE (zE (zQ (So ?_)));exact dD rfl rfl fun w' a5=>⟨(-1),(by exact .inl ⟨rfl,by rw[f9,cI] at hz;exact hz⟩),rfl,zA w' a5⟩
theorem uP {α:Type} {s l:List α} {j:Nat} (h:s.drop j=l.drop j) (h1:j<s.length) (h2:j<l.length):s[j]=l[j]∧s.drop (j+1)=l.drop (j+1):=by
 rw[List.drop_eq_getElem_cons h1,List.drop_eq_getElem_cons h2] at h;injection h with h3 h4;exact⟨h3,h4⟩
theorem iw {s l:List Y} {i j:Nat} (T4:i<j) (hs:j<s.length) (hj:j<l.length) (C6:s.take i=pos (l.take j)) (F3:s.drop j=l.drop j) (h0:¬s[j].a=0) :
  (s.set i s[j]).take (i+1)=pos (l.take (j+1))∧(s.set i s[j]).drop (j+1)=l.drop (j+1):=by
 obtain⟨h1,h2⟩:=uP F3 hs hj;constructor
 ·rw[iQ hj,←h1,bY h0,←C6,List.set_eq_take_append_cons_drop,bZ aK,show s.take i++s[j] :: s.drop (i+1)=(s.take i++[s[j]])++s.drop (i+1) by simp];exact List.take_left' aV
 rw[List.drop_set_of_lt aK];exact h2
theorem iy {s l:List Y} {i j:Nat} (hs:j<s.length) (hj:j<l.length) (C6:s.take i=pos (l.take j)) (F3:s.drop j=l.drop j) (h0:s[j].a=0):s.take i=pos (l.take (j+1))∧s.drop (j+1)=l.drop (j+1):=by
 obtain⟨h1,h2⟩:=uP F3 hs hj;exact⟨by rw[iQ hj,←h1,bZ h0,cZ];exact C6,h2⟩
theorem CB {l:List Y} {i:Nat} (hi:i<l.length) (hp:∀y∈l.take i,¬y.a=0) (ha:(l[i]?.map Y.a)=some 0):l.take i=pos (l.take (i+1)):=by
 have h0:l[i].a=0:=by rw[List.getElem?_eq_getElem hi] at ha;simpa using ha
 rw[iQ hi,bZ h0,cZ];exact(List.filter_eq_self.2 fun y hy=>by simp[hp y hy]).symm
theorem kg {l:List Y} (hp:∀y∈l,¬y.a=0):pos l=l:=List.filter_eq_self.2 fun y hy=>by simp[hp y hy]
theorem lJ (A:bU) (n cap:Nat) (l:List Y) (w:World) (hw:W0 [Res.row A n cap 50 3 (l.map Y.c)] w) (hn:n=l.length) (j5:n≤1000000):au (ι:=(bU × Nat)) Tryz.prog 285 [.slice A n cap,.func (.func 286) #[] #[]] w [Res.row A n cap 50 3 (l.map Y.c)] (fun x=>True) (fun x=>.slice x.1 (pos l).length x.2) (fun x=>[]) (fun x=>[Res.row x.1 (pos l).length x.2 50 3 ((pos l).map Y.c)]):=by
 refine Γ Tryz.func285 42 hw ?_;refine Sf ?_;refine aa (zJ _ rfl (fun w1 a6 a8=>by have h7:=ml A (n) (cap) (l) w1 a8 bN aK;exact h7) rfl ?_);rintro z hz;refine ii (rn [3,0,8,1,2,44,0] ?_);refine zB rfl (fun h1=>?_) (fun h1=>?_)
 ·have F4:∀y∈l,¬y.a=0:=by
    rcases hz with h|⟨k,rfl,_⟩
    · exact h.2
    · exfalso;simp at h1<;>omega
  refine rn [1,2,3,0,11,13] ?_;refine zR (A:=A) (pos l).length (by rw[kg F4,hn]) ?_;refine zC (A:=A) ((pos l).map Y.c) (by rw[kg F4]) ?_;exact dD rfl rfl fun w' a5=>⟨(A,cap),aQ,by rw[kg F4,hn],zA w' a5⟩
 obtain⟨i,rfl,hi,hpre,ha⟩:∃k:Nat,z=k∧k<l.length∧(∀y∈l.take k,¬y.a=0)∧(l[k]?.map Y.a)=some 0:=by
   rcases hz with h|h
   · exact absurd h.1 (by simpa using h1)
   · exact h
 refine rn [12,7,8,1,2,43,3,0,14] ?_;refine dP [0,1,4] (fun(x:Nat × Nat × List Y)=>[(5,aI x.1),(6,aI x.2.1)]) (fun(x:Nat × Nat × List Y)=>[Res.row A n cap 50 3 ((x.2.2).map Y.c)]) (fun(x:Nat × Nat × List Y)=>x.1<x.2.1∧x.2.1≤l.length∧(x.2.2).length=l.length∧(x.2.2).take x.1=pos (l.take x.2.1)∧(x.2.2).drop x.2.1=l.drop x.2.1) (fun(x:Nat × Nat × List Y)=>l.length-x.2.1) (i,(i+1),l) (by(try dsimp only);exact⟨aK,aK,rfl,(CB hi hpre ha),rfl⟩) ?_;rintro⟨i1,j,s1⟩ ⟨T4,hjn,hls,C6,F3⟩;replace T4:i1<j:=T4;replace hjn:j≤l.length:=hjn;replace hls:(s1).length=l.length:=hls;replace C6:(s1).take i1=pos (l.take j):=C6;replace F3:(s1).drop j=l.drop j:=F3;refine yB (L' := [Res.row A n cap 50 3 ((s1).map Y.c)]) rfl ?_;refine ae 5 (v' := aI i1) rfl rfl ?_;refine ae 6 (v' := aI j) rfl rfl (Rw ?_);refine zB rfl (fun h2=>?_) (fun h2=>?_)
 ·have B5:j<l.length:=by have h9:=bW h2;omega
  have E9:j<s1.length:=by omega
  refine SV ?_;refine s_q (zM (i:=j) rfl rfl rfl (ird (A:=A)) aS) rfl ?_;refine s_q (zU (i:=j) rfl (ird (A:=A)) (zP aT) rfl) rfl ?_;refine aa (zK rfl fun b7=>rn [33,0,1,2,45] ?_);refine aa (uY rfl rfl (fun w1 a6=>mT (s1)[j] w1) rfl (rn [48,0] ?_));refine zB rfl (fun h3=>?_) (fun h3=>?_)
  ·refine rn [1,2,2,45] ?_;refine s_q (zM (i:=i1) rfl rfl rfl (ird (A:=A)) aS) rfl ?_;refine aa (yD (A:=A) (i:=i1) (o:=0) (cs' := Y.c ((s1[j]))) rfl rfl rfl rfl rfl (zP aT) aY rfl (yH rfl) ?_);refine zC (A:=A) ((s1.set i1 (s1[j])).map Y.c) (by simp only[dA]) (rn [0,10,2,43,3,9,15,7,10,2,43,3,9] ?_);exact cr ((i1+1),(j+1),(s1.set i1 s1[j])) (by(try dsimp only);exact⟨aK,aK,(by simpa using hls),(iw T4 E9 B5 C6 F3 (by simpa using h3)).1,(iw T4 E9 B5 C6 F3 (by simpa using h3)).2⟩)
  refine RP ?_;exact cr (i1,(j+1),s1) (by(try dsimp only);exact⟨aK,aK,hls,(iy E9 B5 C6 F3 (by simpa using h3)).1,(iy E9 B5 C6 F3 (by simpa using h3)).2⟩)
 have W1:j=l.length:=by have h9:=bX h2;omega
 rw[W1,cI] at C6;have J7:i1=(pos l).length:=by have h9:=congrArg List.length C6;simp at h9;omega
 have hlt:i1<n:=by omega
 refine Ru ?_;refine zE (zE (zQ (rn [7,1] ?_)));refine AS A aK fun⟨hA,hA0⟩ hle hcm=>rn [2,2] ?_;refine s_q (xB (l:=i1) rfl rfl rfl aK) rfl ?_;refine aa (qw (A:=A) (l:=i1) (n:=n) (els:=s1.map Y.c) rfl (fun h0=>ppx hA aK) aK (by simp[Value.oneCell']) ?_);refine SE ?_;refine s_q (xC (h:=i1) rfl rfl rfl aK) rfl (Rb ?_);refine sL (A:=A) i1 (pos l).length ((pos l).map Y.c) aK J7 (by rw[cJ,List.take_append_of_le_length aV,List.take_take,Nat.min_self,←List.map_take,C6]) ?_;exact dD rfl rfl fun w' a5=>⟨(cz A cap 0 3,cap),aQ,by rw[J7],zA w' a5⟩
theorem kf (A:bU) (n cap:Nat) (l:List Y) (w:World) (hw:W0 [Res.row A n cap 50 3 (l.map Y.c)] w) (hn:n=l.length) (j5:n≤1000000):au (ι:=(bU × Nat)) Tryz.prog 237 [.slice A n cap] w [Res.row A n cap 50 3 (l.map Y.c)] (fun x=>True) (fun x=>.slice x.1 (pos l).length x.2) (fun x=>[]) (fun x=>[Res.row x.1 (pos l).length x.2 50 3 ((pos l).map Y.c)]):=by
 refine Γ Tryz.func237 5 hw ?_;refine Sq ?_;refine aa (zJ _ rfl (fun w1 a6 a8=>by have h7:=lJ A (n) (cap) (l) w1 a8 bN aN;exact h7) rfl ?_);rintro⟨A4,cap4⟩ _;refine ii (Rb ?_);exact dD rfl rfl fun w' a5=>⟨(A4,cap4),aQ,by first|rfl|(simp_all;done),zA w' a5⟩
def apV (x:V) (m:Int) (c:C):V:={ x with bal:=IntKind.u64.wrap (x.bal-min m (dm x c)) }
def inB (out:List V) (r:Rq):Prop:=0≤r.i∧r.i<(out.length:Int)
instance (out:List V) (r:Rq):Decidable (inB out r):=by unfold inB;exact inferInstance
theorem inB.lt {out:List V} {r:Rq} (h:inB out r):r.i.toNat<out.length:=by unfold inB at h;omega
def jP (c:C) (out:List V) (r:Rq):List V:=if h:inB out r then out.set r.i.toNat (apV (out[r.i.toNat]'h.lt) r.m c) else out
def gJ (c:C) (out:List V) (paid:List Y) (r:Rq):List Y:=if h:inB out r then paid++[⟨r.i,min r.m (dm (out[r.i.toNat]'h.lt) c),false⟩] else paid
theorem yx (c:C) (out:List V) (r:Rq):(jP c out r).length=out.length:=by unfold jP;split<;>simp
def eY (c:C) (s:List V × List Y) (r:Rq):List V × List Y:=(jP c s.1 r,gJ c s.1 s.2 r)
def run (c:C) (l:List V) (q:List Rq):List V × List Y:=q.foldl (eY c) (l,[])
theorem ll {c:C} {l:List V} {q:List Rq} {k:Nat} (h:k<q.length):run c l (q.take (k+1))=eY c (run c l (q.take k)) q[k]:=by
 unfold run;rw[←cB h,List.foldl_append];rfl
theorem lp {c:C} {l:List V} {q:List Rq} {k:Nat} (h:k<q.length):(run c l (q.take (k+1))).1=jP c (run c l (q.take k)).1 q[k]:=by rw[ll h];rfl
theorem lmx {c:C} {l:List V} {q:List Rq} {k:Nat} (h:k<q.length):(run c l (q.take (k+1))).2=gJ c (run c l (q.take k)).1 (run c l (q.take k)).2 q[k]:=by rw[ll h];rfl
theorem kE (c:C):∀(q:List Rq) (s:List V × List Y),(q.foldl (eY c) s).1.length=s.1.length
 | [],_=>rfl
 | r :: q,s=>by rw[cR,kE c q];exact yx c s.1 r
theorem uS (c:C) (l:List V) (q:List Rq):(run c l q).1.length=l.length:=kE c q (l,[])
theorem yw (c:C) (out:List V) (paid:List Y) (r:Rq):(gJ c out paid r).length≤paid.length+1:=by unfold gJ;split<;>simp
theorem kD (c:C):∀(q:List Rq) (s:List V × List Y),(q.foldl (eY c) s).2.length≤s.2.length+q.length
 | [],_=>by simp
 | r :: q,s=>by
  rw[cR];have h1:=kD c q (eY c s r);have h2:(eY c s r).2.length≤s.2.length+1:=yw c s.1 s.2 r;simp only[cT];omega
theorem lk (c:C) (l:List V) (q:List Rq):(run c l q).2.length≤q.length:=by have:=kD c q (l,[]);simpa[run] using this
theorem qB {c:C} {out:List V} {r:Rq} {k:Nat} (hr:r.i=(k:Int)) (h:k<out.length):jP c out r=out.set k (apV out[k] r.m c):=by
 obtain⟨i,m⟩:=r;simp only at hr;subst hr;unfold jP;rw[dif_pos (show inB out ⟨(k:Int),m⟩ from⟨aM,by simpa using h⟩)];rfl
theorem qA {c:C} {out:List V} {paid:List Y} {r:Rq} {k:Nat} (hr:r.i=(k:Int)) (h:k<out.length):gJ c out paid r=paid++[⟨(k:Int),min r.m (dm out[k] c),false⟩]:=by
 obtain⟨i,m⟩:=r;simp only at hr;subst hr;unfold gJ;rw[dif_pos (show inB out ⟨(k:Int),m⟩ from⟨aM,by simpa using h⟩)];rfl
theorem tQ {c:C} {out:List V} {r:Rq} (h:¬inB out r):jP c out r=out:=by unfold jP;rw[dif_neg h]
theorem tP {c:C} {out:List V} {paid:List Y} {r:Rq} (h:¬inB out r):gJ c out paid r=paid:=by unfold gJ;rw[dif_neg h]
theorem th (bo bc bp:Nat) (A Ap:bU) (n cap cp:Nat) (out:List V) (paid:List Y) (c:C) (r:Rq) (w:World) (hw:W0 [Res.blk bo 37 [dC A n cap],Res.row A n cap 52 7 ((out).map V.c),Res.blk bc 24 c.c,Res.blk bp 45 [dC Ap (paid).length cp],Res.row Ap (paid).length cp 50 3 ((paid).map Y.c)] w) (hn:n=out.length) (j5:n≤1000000) (Z8:paid.length≤1000000):au (ι:=(bU × Nat)) Tryz.prog 235 [.agg r.c.toArray,aG bo,aG bc,aG bp] w [Res.blk bo 37 [dC A n cap],Res.row A n cap 52 7 ((out).map V.c),Res.blk bc 24 c.c,Res.blk bp 45 [dC Ap (paid).length cp],Res.row Ap (paid).length cp 50 3 ((paid).map Y.c)] (fun x=>True) (fun x=>.tuple #[]) (fun x=>[]) (fun x=>[Res.blk bo 37 [dC A n cap],Res.row A n cap 52 7 ((jP c out r).map V.c),Res.blk bc 24 c.c,Res.blk bp 45 [dC x.1 (gJ c out paid r).length x.2],Res.row x.1 (gJ c out paid r).length x.2 50 3 ((gJ c out paid r).map Y.c)]):=by
 refine Γ Tryz.func235 41 hw ?_;refine Ri ?_;refine aa (aq rfl rfl rfl fun b4=>rn [0,8,1,4,5,46,2] ?_);refine zS 10 rfl (fun h1=>?_) (fun h1=>?_)
 ·refine rn [21,21,21,21,21,41,0,19,11,13] ?_;have K8:¬inB out r:=fun h=>by simp at h1;exact absurd h.1 aK
  exact dF rfl fun w' a5=>⟨(Ap,cp),aQ,rfl,by rw[tQ K8,tP K8];exact zA w' a5⟩
 refine rn [22,4,22,5,22,5,22,47,22,53,42,0] ?_;refine zB rfl (fun h2=>?_) (fun h2=>?_)
 ·refine rn [11,13] ?_;have K8:¬inB out r:=fun h=>by simp at h2;exact absurd h.2 aK
  exact dF rfl fun w' a5=>⟨(Ap,cp),aQ,rfl,by rw[tQ K8,tP K8];exact zA w' a5⟩
 obtain⟨k,s8⟩:∃k:Nat,r.i=k:=⟨r.i.toNat,by simp at h1;omega⟩
 have hk:k<out.length:=by simp at h2;omega
 refine RM ?_;refine bn [13] an rfl (rn [23,0,5,23,1,4,23,2,5] ?_);refine ae 20 (v' := aI k) rfl (by rw[s8]) ?_;refine dq 3 rfl (zM (i:=k) rfl rfl rfl (InRow.rdb (A:=A) (els:=(out).map V.c) (by simpa using hn) (yA (c:=V.c) (fun _=>rfl) _)) aS) ?_;refine dq 4 rfl (zU (i:=k) rfl (InRow.rdb (A:=A) (els:=(out).map V.c) (by simpa using hn) (yA (c:=V.c) (fun _=>rfl) _)) (zP bD) rfl) (rn [23,5,4,23,6,5,23,7,45] ?_);refine yJ [8,12] aL aM zG ⟨bu rfl (zH rfl (fun w hw=>gM _ _ _ w) rfl ?_),bu rfl (zK rfl fun b5=>?_),trivial⟩
 ·refine rn [23,9,2,23,10,40,24,11,40] ?_;refine dop 12 rfl (zK rfl fun b5=>?_);refine dop 13 rfl (zT rfl rfl rfl rfl rfl (rn [24,14,3,28,7,1,5,4,5] ?_));refine ae 31 (v' := aI k) rfl (by rw[s8]) (rn [45] ?_);refine s_q (zM (i:=k) rfl rfl rfl (InRow.rdb (A:=A) (els:=(out).map V.c) (by simpa using hn) (yA (c:=V.c) (fun _=>rfl) _)) aS) rfl ?_;refine aa (yD (A:=A) (i:=k) (o:=0) (cs' := V.c ((apV out[k] r.m c))) rfl rfl rfl rfl rfl (zP bD) aY rfl (yH rfl) ?_);refine zC (A:=A) ((out.set k (apV out[k] r.m c)).map V.c) (by simp only[dA]) (rn [0,10,5,4,5] ?_);refine ae 36 (v' := aI k) rfl (by rw[s8]) (rn [2,49] ?_);refine aa (bg rfl rfl rfl rfl rfl fun b39=>?_);refine zF (b:=b39) ((([(Y.mk ((k:Nat):Int) (min r.m (dm out[k] c)) false)]:List Y).map Y.c).flatten) rfl ?_;refine aa (zW (A:=Ap) (els:=(paid).map Y.c) (news:=(([(Y.mk ((k:Nat):Int) (min r.m (dm out[k] c)) false)]:List Y).map Y.c)) rfl rfl (InL.rdb (b:=b39) rfl (by simp[Y.c]) rfl) (zZ (c:=Y.c) (by intro x;simp[Y.c,Value.oneCell']) _) aR rfl fun A40 v5=>⟨_,inferInstance,?_⟩);refine zC (A:=A40) (((paid++[(Y.mk ((k:Nat):Int) (min r.m (dm out[k] c)) false)])).map Y.c) (by first|rfl|exact cA.symm|(simp;done)) ?_;refine aa (zI rfl rfl rfl rfl rfl rfl rfl (rn [9] ?_));refine zR (A:=A40) (paid++[(Y.mk ((k:Nat):Int) (min r.m (dm out[k] c)) false)]).length aM ?_;refine zF (b:=bp) [dC A40 (paid++[(Y.mk ((k:Nat):Int) (min r.m (dm out[k] c)) false)]).length v5] (by simp[ay]) ?_;exact dF rfl fun w' a5=>⟨(A40,v5),aQ,rfl,by rw[qB s8 hk,qA s8 hk];exact zA w' a5⟩
 refine dop 8 rfl (zH rfl (fun w hw=>gM _ _ _ w) rfl (rn [23,9,2,23,10,40,24,11,40] ?_));refine dop 13 rfl (zT rfl rfl rfl rfl rfl (rn [24,14,3,28,7,1,5,4,5] ?_));refine ae 31 (v' := aI k) rfl (by rw[s8]) (rn [45] ?_);refine s_q (zM (i:=k) rfl rfl rfl (InRow.rdb (A:=A) (els:=(out).map V.c) (by simpa using hn) (yA (c:=V.c) (fun _=>rfl) _)) aS) rfl ?_;refine aa (yD (A:=A) (i:=k) (o:=0) (cs' := V.c ((apV out[k] r.m c))) rfl rfl rfl rfl rfl (zP bD) aY rfl (yH rfl) ?_);refine zC (A:=A) ((out.set k (apV out[k] r.m c)).map V.c) (by simp only[dA]) (rn [0,10,5,4,5] ?_);refine ae 36 (v' := aI k) rfl (by rw[s8]) (rn [2,49] ?_);refine aa (bg rfl rfl rfl rfl rfl fun b39=>?_);refine zF (b:=b39) ((([(Y.mk ((k:Nat):Int) (min r.m (dm out[k] c)) false)]:List Y).map Y.c).flatten) rfl ?_;refine aa (zW (A:=Ap) (els:=(paid).map Y.c) (news:=(([(Y.mk ((k:Nat):Int) (min r.m (dm out[k] c)) false)]:List Y).map Y.c)) rfl rfl (InL.rdb (b:=b39) rfl (by simp[Y.c]) rfl) (zZ (c:=Y.c) (by intro x;simp[Y.c,Value.oneCell']) _) aR rfl fun A40 v5=>⟨_,inferInstance,?_⟩);refine zC (A:=A40) (((paid++[(Y.mk ((k:Nat):Int) (min r.m (dm out[k] c)) false)])).map Y.c) (by first|rfl|exact cA.symm|(simp;done)) ?_;refine aa (zI rfl rfl rfl rfl rfl rfl rfl (rn [9] ?_));refine zR (A:=A40) (paid++[(Y.mk ((k:Nat):Int) (min r.m (dm out[k] c)) false)]).length aM ?_;refine zF (b:=bp) [dC A40 (paid++[(Y.mk ((k:Nat):Int) (min r.m (dm out[k] c)) false)]).length v5] (by simp[ay]) ?_;exact dF rfl fun w' a5=>⟨(A40,v5),aQ,rfl,by rw[qB s8 hk,qA s8 hk];exact zA w' a5⟩
theorem nY (A B:bU) (n cap capq P:Nat) (l:List V) (q:List Rq) (c:C) (w:World) (hl:Rd w [] A n 7 (l.map V.c)) (hq:Rd w [] B q.length 2 (q.map Rq.c)) (hcq:q.length≤capq) (hb:n≤1000000) (hbq:q.length≤1000000) (hP:c.parts=((P:Nat):Int)):au (ι:=(bU × Nat × bU × Nat)) Tryz.prog 157 [.slice A n cap,.slice B q.length capq,c.v] w [] (fun x=>True) (fun x=>.tuple [.slice x.1 l.length x.2.1,.slice x.2.2.1 (pos (run c l (q.take (min q.length P))).2).length x.2.2.2,aI (min q.length P)].toArray) (fun x=>[Res.row x.1 l.length x.2.1 52 7 ((run c l (q.take (min q.length P))).1.map V.c),Res.row x.2.2.1 (pos (run c l (q.take (min q.length P))).2).length x.2.2.2 50 3 ((pos (run c l (q.take (min q.length P))).2).map Y.c)]) (fun x=>[]):=by
 refine Γ Tryz.func157 39 (WOK.start (fps []) _) ?_;have hln:n=l.length:=by have:=hl.old.len;simpa using this
 refine Ri ?_;refine aa (aq rfl rfl rfl fun b5=>rn [3,3,3,0,1,2] ?_);refine aa (zJ [] rfl (fun w1 a6 a8=>by have h7:=lK A (n) (cap) (l) w1 (Rd.ofRd a6 hl aK) aZ;exact h7) rfl ?_);rintro⟨A16,y6⟩ _;refine ii ?_;refine aa (zK rfl fun b9=>?_);refine aa (zI rfl rfl rfl rfl rfl rfl rfl ?_);refine zF (b:=b9) [dC A16 (l).length y6] (by simp[ay]) (rn [0,1] ?_);refine aa (zK rfl fun t4=>rn [0,1,52] ?_);refine uZ none 50 3 ?_;refine zC (A:=none) ((run c l (q.take 0)).2.map Y.c) (by simp[run]) ?_;refine zR (A:=none) (run c l (q.take 0)).2.length (by simp[run]) ?_;refine zF (b:=t4) [dC none (run c l (q.take 0)).2.length 0] (by simp[run]) ?_;refine zC (A:=A16) ((run c l (q.take 0)).1.map V.c) (by simp[run]) (rn [3,0,1,2,47,4,5,58] ?_);refine ae 22 (v' := aI (min q.length P)) rfl (by rw[hP];congr 1;omega) (rn [3,0,8,1,2,2] ?_);refine s_q (xC (h:=(min q.length P)) rfl rfl rfl aK) rfl (SK ?_);refine dP [6,7,8,9,10,11,12,25,26] (fun(x:Nat × bU × Nat)=>[(27,aI x.1)]) (fun(x:Nat × bU × Nat)=>[Res.blk b9 37 [dC A16 (l).length y6],Res.row A16 (l).length y6 52 7 (((run c l (q.take x.1)).1).map V.c),Res.blk b5 24 c.c,Res.blk t4 45 [dC x.2.1 ((run c l (q.take x.1)).2).length x.2.2],Res.row x.2.1 ((run c l (q.take x.1)).2).length x.2.2 50 3 (((run c l (q.take x.1)).2).map Y.c)]) (fun(x:Nat × bU × Nat)=>x.1≤(min q.length P)) (fun(x:Nat × bU × Nat)=>(min q.length P)-x.1) (0,none,0) aW ?_;rintro⟨k,A,cap⟩ f6;replace f6:k≤(min q.length P):=f6;refine yB (L' := [Res.blk b9 37 [dC A16 (l).length y6],Res.row A16 (l).length y6 52 7 (((run c l (q.take k)).1).map V.c),Res.blk b5 24 c.c,Res.blk t4 45 [dC A ((run c l (q.take k)).2).length cap],Res.row A ((run c l (q.take k)).2).length cap 50 3 (((run c l (q.take k)).2).map Y.c)]) rfl ?_;refine ae 27 (v' := aI k) rfl rfl ?_;have hr1:=lk c l (q.take k);have hr2:(q.take k).length≤k:=List.length_take_le _ _;have hr3:=Rd.old hl;refine Rj ?_;refine zB rfl (fun h1=>?_) (fun h1=>?_)
 ·have f8:k<(min q.length P):=by have h9:=bW h1;omega
  refine Ry ?_;refine s_q (zM (i:=k) rfl rfl rfl (hq.rdb.h (cap:=capq) aK hcq) aN) rfl ?_;refine s_q (zU (i:=k) rfl (hq.rdb.h (cap:=capq) aK hcq) (uG (l:=q) (m:=(min q.length P)) bR aK) rfl) rfl ?_;refine aa (zK rfl fun G4=>rn [33,0,10,2,45] ?_);refine aa (xV [Res.blk b9 37 [dC A16 (l).length y6],Res.row A16 (l).length y6 52 7 (((run c l (q.take k)).1).map V.c),Res.blk b5 24 c.c,Res.blk t4 45 [dC A ((run c l (q.take k)).2).length cap],Res.row A ((run c l (q.take k)).2).length cap 50 3 (((run c l (q.take k)).2).map Y.c)] rfl rfl (fun w1 a6 a8=>by have h7:=th b9 b5 t4 A16 A (l).length y6 cap (run c l (q.take k)).1 (run c l (q.take k)).2 c (q[k]) w1 a8 (uS _ _ _).symm aK aK;exact h7) rfl ?_);rintro⟨A33,cap33⟩ _;refine ii (RS ?_);have hkq:k<q.length:=by omega
  rw[←lp hkq,←lmx hkq];exact cr ((k+1),A33,cap33) aU
 have f9:k=(min q.length P):=by have h9:=bX h1;omega
 refine Ru ?_;refine zE (zE (zQ (rn [7,8] ?_)));refine dR (L0:=[Res.blk b9 37 [dC A16 (l).length y6],Res.blk t4 45 [dC A (run c l (q.take k)).2.length cap]]) [] an rfl zG (rn [23,0,5,23,1,5,23,3,2] ?_);refine dop 2 rfl (zJ _ rfl (fun w1 a6 a8=>by have h7:=kf A ((run c l (q.take k)).2.length) (cap) ((run c l (q.take k)).2) w1 a8 bN aN;exact h7) rfl ?_);rintro⟨A37,cap37⟩ _;refine ii (rn [23,4,3,23,5,3,23,6,3,27,7,11] ?_);exact dI rfl (.tmp rfl) (.tmp rfl) (.tmp rfl) fun w' a5=>⟨(A16,y6,A37,cap37),aQ,by rw[←f9],by rw[←f9];exact zA w' a5⟩
def dK (a m q:Int):Int:=if q=0 then m else max m (a/q)
theorem qz {a c:Int} (ha:0≤a) (hM:a≤18446744073709551615) (hc:0≤c):IntKind.u64.wrap (a.tdiv c)=a/c:=by
 rw[Int.tdiv_eq_ediv_of_nonneg ha];have h1:=Int.ediv_nonneg ha hc;have h2:=Int.ediv_le_self c ha;exact ey h1 aK
theorem uh (x m y:Int) (w:World) (hx:0≤x∧x≤18446744073709551615) (hm:0≤m∧m≤18446744073709551615) (hy:0≤y∧y≤18446744073709551615):Pur Tryz.prog 150 [aJ x,aJ m,aJ y] w (aJ (dK x m y)):=by
 refine Γ Tryz.func150 15 (WOK.start [] _) ?_;refine rn [1,3,0,8,1,2,44,0] ?_;refine zB rfl (fun h1=>?_) (fun h1=>?_)
 ·refine rn [1,2,3,0,11,13] ?_;exact dD rfl rfl fun w' a5=>⟨by simp_all[dK],a5.upd⟩
 refine rn [12,7,1,2,2,2] ?_;refine s_q (fj rfl rfl bC) rfl ?_;refine ae 13 (v' := aJ (x/y)) rfl (by rw[qz hx.1 hx.2 hy.1]) (rn [59,3,0,11] ?_);exact dD rfl rfl fun w' a5=>⟨by simp_all[dK],a5.upd⟩
theorem nw (x m y:Int) (w:World) (hx:0≤x∧x≤18446744073709551615) (hm:0≤m∧m≤18446744073709551615) (hy:0≤y∧y≤18446744073709551615):Pur Tryz.prog 264 [aJ x,aJ m,aJ y] w (aJ (dK x m y)):=by
 refine Γ Tryz.func264 15 (WOK.start [] _) ?_;refine rn [1,3,0,8,1,2,44,0] ?_;refine zB rfl (fun h1=>?_) (fun h1=>?_)
 ·refine rn [1,2,3,0,11,13] ?_;exact dD rfl rfl fun w' a5=>⟨by simp_all[dK],a5.upd⟩
 refine rn [12,7,1,2,2,2] ?_;refine s_q (fj rfl rfl bC) rfl ?_;refine ae 13 (v' := aJ (x/y)) rfl (by rw[qz hx.1 hx.2 hy.1]) (rn [59,3,0,11] ?_);exact dD rfl rfl fun w' a5=>⟨by simp_all[dK],a5.upd⟩
abbrev CkB (b k el:Nat):Res:=Res.blk b 171 [aI k,aI el]
theorem km (cb k el:Nat) (w:World) (hw:W0 [CkB cb (k) (el)] w) (hk:k<4611686018427387904) (k8:1≤el∧el≤4611686018427387904):du Tryz.prog 89 [aG cb] w [CkB cb (k) (el)] (aI k):=by
 refine Γ Tryz.func89 7 hw ?_;refine rn [1,3,0,1,2,6,4,5,3,0,11] ?_;exact dD rfl rfl fun w' a5=>⟨(),trivial,by first|rfl|(simp_all;done),zA w' a5⟩
theorem tk (cb k el:Nat) (w:World) (hw:W0 [CkB cb (k) (el)] w) (hk:k<4611686018427387904) (k8:1≤el∧el≤4611686018427387904):au (ι:=Unit) Tryz.prog 147 [aG cb] w [CkB cb (k) (el)] (fun x=>True) (fun x=>.tuple #[]) (fun x=>[]) (fun x=>[CkB cb ((k+1)) (el)]):=by
 refine Γ Tryz.func147 9 hw ?_;refine rn [10,2,6,4,5] ?_;refine s_q (yI (z:=((k+1:Nat):Int)) rfl rfl (by rw[dY aK aK];omega)) rfl (SY ?_);refine aa (zI rfl rfl rfl rfl rfl rfl rfl ?_);refine zF (b:=cb) [aI (k+1),aI el] (by simp[ay]) (rn [9] ?_);exact dF rfl fun w' a5=>⟨(),aQ,rfl,zA w' a5⟩
theorem nD (k el:Nat) (w:World) (hk:k<4611686018427387904) (k8:1≤el∧el≤4611686018427387904):Pur Tryz.prog 90 [aH (k:Int),aH (el:Int)] w (aI (k/el)):=by
 refine Γ Tryz.func90 14 (WOK.start [] _) ?_;refine rn [1,3,0,8,1,2,46,2] ?_;refine zS 7 rfl (fun h1=>?_) (fun h1=>?_)
 ·refine Sk ?_;exact dD rfl rfl fun w' a5=>⟨by first|rfl|(exfalso;simp_all;omega),a5.upd⟩
 refine rn [22,2,22,46,42,0] ?_;refine zB rfl (fun h2=>?_) (fun h2=>?_)
 ·refine Re ?_;exact dD rfl rfl fun w' a5=>⟨by first|rfl|(exfalso;simp_all;omega),a5.upd⟩
 refine SQ ?_;refine s_q (EF (a:=k) (b:=el) rfl rfl aR aR) rfl (Rb ?_);exact dD rfl rfl fun w' a5=>⟨by first|rfl|(exfalso;simp_all;omega),a5.upd⟩
theorem sh (cb k el:Nat) (w:World) (hw:W0 [CkB cb (k) (el)] w) (hk:k<4611686018427387903) (k8:1≤el∧el≤4611686018427387904):au (ι:=Unit) Tryz.prog 100 [aG cb] w [CkB cb (k) (el)] (fun x=>True) (fun x=>.bool (decide ((k+1)%el=0))) (fun x=>[]) (fun x=>[CkB cb ((k+1)) (el)]):=by
 refine Γ Tryz.func100 19 hw ?_;refine Sj ?_;refine aa (zJ _ rfl (fun w1 a6 a8=>by have h7:=tk cb k el w1 a8 aK k8;exact h7) rfl ?_);rintro⟨⟩ _;refine ii (Sw ?_);refine bn [] an rfl (rn [23,0,2,23,1,6,23,2,4,23,4,2,23,5,6,23,6,4,23,7,5] ?_);refine dop 3 rfl (zN _ rfl (fun w1 a6 a8=>by exact km cb (k+1) el w1 a8 aK k8) rfl ?_);refine dq 8 rfl (wA (a:=(k+1)) (b:=el) rfl rfl aR) (rn [23,9,44,23,10,3,27,7,11] ?_);exact dD rfl rfl fun w' a5=>⟨(),aQ,by congr 1;simp only[decide_eq_decide];omega,zA w' a5⟩
theorem yR (cb k el:Nat) (w:World) (hw:W0 [CkB cb (k) (el)] w) (hk:k<4611686018427387904) (k8:1≤el∧el≤4611686018427387904):du Tryz.prog 45 [aG cb] w [CkB cb (k) (el)] (aI k):=by
 refine Γ Tryz.func45 9 hw ?_;refine Sj ?_;refine aa (zN _ rfl (fun w1 a6 a8=>by exact km cb k el w1 a8 hk k8) rfl ?_);refine Rb ?_;exact dD rfl rfl fun w' a5=>⟨(),trivial,by first|rfl|(simp_all;done),zA w' a5⟩
theorem yE (cb k el:Nat) (w:World) (hw:W0 [CkB cb (k) (el)] w) (hk:k<4611686018427387904) (k8:1≤el∧el≤4611686018427387904):du Tryz.prog 46 [aG cb] w [CkB cb (k) (el)] (aI (k/el)):=by
 refine Γ Tryz.func46 14 hw ?_;refine RT ?_;refine bn [] an rfl (rn [23,0,2,23,1,6,23,2,4,23,4,2,23,5,6,23,6,4,23,7,5] ?_);refine dop 3 rfl (zN _ rfl (fun w1 a6 a8=>by exact km cb k el w1 a8 hk k8) rfl ?_);refine dop 8 rfl (zH rfl (fun w1 a6=>by exact nD k el w1 hk k8) rfl ?_);refine rn [23,9,3,27,7,11] ?_;exact dD rfl rfl fun w' a5=>⟨(),trivial,by first|rfl|(simp_all;done),zA w' a5⟩
theorem zj (el:Nat) (w:World) (k8:1≤el):au (ι:=Nat) Tryz.prog 34 [aH (el:Int)] w [] (fun x=>True) (fun x=>.pointer (some ⟨x,0,none⟩)) (fun x=>[CkB x (0) (el)]) (fun x=>[]):=by
 refine Γ Tryz.func34 8 (WOK.start (fps []) _) ?_;refine rn [1,3,0,8,1,2,46,0] ?_;refine zB rfl (fun h1=>?_) (fun h1=>?_)
 ·exfalso;have h9:=bW h1;omega
 refine Sx ?_;refine s_q (yF (c:=[aI 0,aI el]) rfl rfl) rfl ?_;refine aa (aq rfl rfl rfl fun b7=>Rb ?_);exact dD rfl rfl fun w' a5=>⟨b7,aQ,rfl,zA w' a5⟩
abbrev LgB (b:Nat) (d p u cap:Int):Res:=Res.blk b 175 [aJ d,aJ p,aJ u,aJ cap]
def eR (cap d p u a:Int):Int:=if cap-(d-p-u)<a then 4 else if 18446744073709551615<d+a then 10 else 0
def dW (d p u a:Int):Int:=if d-p-u<a then 3 else 0
structure LOk (cap d p u:Int):Prop where
 hp:0≤p
 hu:0≤u
 hd:p+u≤d
 hm:d≤18446744073709551615
 hc:d-p-u≤cap
 hcm:cap≤18446744073709551615
theorem iK (lb:Nat) (d p u cap:Int) (w:World) (hw:W0 [LgB lb (d) (p) (u) (cap)] w) (hl:LOk cap d p u):du Tryz.prog 162 [aG lb] w [LgB lb (d) (p) (u) (cap)] (aJ (d-p-u)):=by
 refine Γ Tryz.func162 20 hw ?_;obtain⟨l1,l2,l3,l4,l5,l6⟩:=hl;refine SZ ?_;refine bn [] an rfl (rn [23,0,2,23,1,6,23,2,4,23,3,4,23,4,5,23,5,2,23,6,6,23,7,4,23,8,4,23,9,5] ?_);refine dq 10 rfl (yN (z:=d-p) rfl rfl (by rw[cF];omega)) (rn [23,11,2,23,12,6,23,13,4,23,14,4,23,15,5] ?_);refine dq 16 rfl (yN (z:=d-p-u) rfl rfl (by rw[cF];omega)) (rn [23,17,3,27,7,11] ?_);exact dD rfl rfl fun w' a5=>⟨(),trivial,by first|rfl|(simp_all;done),zA w' a5⟩
theorem ui (lb:Nat) (d p u cap:Int) (a:Int) (q:Nat) (w:World) (hw:W0 [LgB lb (d) (p) (u) (cap)] w) (hl:LOk cap d p u) (ha:0≤a∧a≤18446744073709551615) (hq:Rd w [LgB lb (d) (p) (u) (cap)] (some ⟨q,0,none⟩) 1 1 ([a].map aD)):au (ι:=Unit) Tryz.prog 177 [aG lb,.pointer (some ⟨lb,1,none⟩),.slice (some ⟨q,0,none⟩) 1 1] w [LgB lb (d) (p) (u) (cap)] (fun x=>True) (fun x=>.int .i64 (dW d p u a)) (fun x=>[]) (fun x=>[LgB lb (d) ((if dW d p u a=0 then p+a else p)) (u) (cap)]):=by
 refine Γ Tryz.func177 28 hw ?_;have hl0:=hl;obtain⟨l1,l2,l3,l4,l5,l6⟩:=hl0;refine Sq ?_;refine aa (zH rfl (fun w1 a6=>vZ (some ⟨q,0,none⟩) (1) (1) ([a]) w1 (Rdb.toOld hq.rdb a6) (by intro x hx;simp at hx;omega) bB) rfl ?_);refine SD ?_;refine ae 9 (v' := .tuple [aJ a,.bool true].toArray) rfl (by rw[(sW ha).1,(sW ha).2]) (rn [40,40,3,3,0,8,1,2,48,2,22,2,22,2] ?_);refine ff rfl rfl (zN _ rfl (fun w1 a6 a8=>by exact iK lb (d) (p) (u) (cap) w1 a8 hl) rfl ?_);refine rn [22,55,42,0] ?_;refine zB rfl (fun h1=>?_) (fun h1=>?_)
 ·have hb:dW d p u a=3:=by unfold dW;rw[bZ (by have h9:=bW h1;omega)]
  refine Re ?_;exact dD rfl rfl fun w' a5=>⟨(),aQ,by rw[hb],by have h9:=zG (L' := [LgB lb (d) (p) (u) (cap)]) w' a5;show WOK _ _ [LgB lb (d) ((if dW d p u a=0 then p+a else p)) (u) (cap)] _;rw[hb];simp only[show¬((3:Int)=0) from by decide,if_false];exact h9⟩
 have hb:dW d p u a=0:=by unfold dW;rw[bY (by have h9:=bX h1;omega)]
 have hle:a≤d-p-u:=by have h9:=bX h1;omega
 refine rn [12,7,1,2,6,5,2] ?_;refine s_q (yI (z:=p+a) rfl rfl (by rw[cF];omega)) rfl (rn [6] ?_);refine aa (zI rfl rfl rfl rfl rfl rfl rfl ?_);refine zF (b:=lb) [aJ (d),aJ (p+a),aJ (u),aJ (cap)] (by simp[ay]) (RA ?_);exact dD rfl rfl fun w' a5=>⟨(),aQ,by rw[hb],by have h9:=zG (L' := [LgB lb (d) (p+a) (u) (cap)]) w' a5;show WOK _ _ [LgB lb (d) ((if dW d p u a=0 then p+a else p)) (u) (cap)] _;rw[hb];simp only[if_true];exact h9⟩
theorem uj (lb:Nat) (d p u cap:Int) (a:Int) (q:Nat) (w:World) (hw:W0 [LgB lb (d) (p) (u) (cap)] w) (hl:LOk cap d p u) (ha:0≤a∧a≤18446744073709551615) (hq:Rd w [LgB lb (d) (p) (u) (cap)] (some ⟨q,0,none⟩) 1 1 ([a].map aD)):au (ι:=Unit) Tryz.prog 177 [aG lb,.pointer (some ⟨lb,2,none⟩),.slice (some ⟨q,0,none⟩) 1 1] w [LgB lb (d) (p) (u) (cap)] (fun x=>True) (fun x=>.int .i64 (dW d p u a)) (fun x=>[]) (fun x=>[LgB lb (d) (p) ((if dW d p u a=0 then u+a else u)) (cap)]):=by
 refine Γ Tryz.func177 28 hw ?_;have hl0:=hl;obtain⟨l1,l2,l3,l4,l5,l6⟩:=hl0;refine Sq ?_;refine aa (zH rfl (fun w1 a6=>vZ (some ⟨q,0,none⟩) (1) (1) ([a]) w1 (Rdb.toOld hq.rdb a6) (by intro x hx;simp at hx;omega) bB) rfl ?_);refine SD ?_;refine ae 9 (v' := .tuple [aJ a,.bool true].toArray) rfl (by rw[(sW ha).1,(sW ha).2]) (rn [40,40,3,3,0,8,1,2,48,2,22,2,22,2] ?_);refine ff rfl rfl (zN _ rfl (fun w1 a6 a8=>by exact iK lb (d) (p) (u) (cap) w1 a8 hl) rfl ?_);refine rn [22,55,42,0] ?_;refine zB rfl (fun h1=>?_) (fun h1=>?_)
 ·have hb:dW d p u a=3:=by unfold dW;rw[bZ (by have h9:=bW h1;omega)]
  refine Re ?_;exact dD rfl rfl fun w' a5=>⟨(),aQ,by rw[hb],by have h9:=zG (L' := [LgB lb (d) (p) (u) (cap)]) w' a5;show WOK _ _ [LgB lb (d) (p) ((if dW d p u a=0 then u+a else u)) (cap)] _;rw[hb];simp only[show¬((3:Int)=0) from by decide,if_false];exact h9⟩
 have hb:dW d p u a=0:=by unfold dW;rw[bY (by have h9:=bX h1;omega)]
 have hle:a≤d-p-u:=by have h9:=bX h1;omega
 refine rn [12,7,1,2,6,5,2] ?_;refine s_q (yI (z:=u+a) rfl rfl (by rw[cF];omega)) rfl (rn [6] ?_);refine aa (zI rfl rfl rfl rfl rfl rfl rfl ?_);refine zF (b:=lb) [aJ (d),aJ (p),aJ (u+a),aJ (cap)] (by simp[ay]) (RA ?_);exact dD rfl rfl fun w' a5=>⟨(),aQ,by rw[hb],by have h9:=zG (L' := [LgB lb (d) (p) (u+a) (cap)]) w' a5;show WOK _ _ [LgB lb (d) (p) ((if dW d p u a=0 then u+a else u)) (cap)] _;rw[hb];simp only[if_true];exact h9⟩
theorem tp (lb:Nat) (d p u cap:Int) (a:Int) (w:World) (hw:W0 [LgB lb (d) (p) (u) (cap)] w) (hl:LOk cap d p u) (ha:0≤a∧a≤18446744073709551615):au (ι:=Unit) Tryz.prog 161 [aG lb,aJ a] w [LgB lb (d) (p) (u) (cap)] (fun x=>True) (fun x=>.int .i64 (dW d p u a)) (fun x=>[]) (fun x=>[LgB lb (d) ((if dW d p u a=0 then p+a else p)) (u) (cap)]):=by
 refine Γ Tryz.func161 18 hw ?_;refine RT ?_;refine dR (L0:=[]) [] an rfl zG (rn [23,0,2,23,1,6,23,2,4,23,3,2,23,4,6,23,5,4,23,6,4,23,7,4,23,8,2] ?_);refine dop 9 rfl (bg rfl rfl rfl rfl rfl fun I2=>?_);refine zF (b:=I2) ((([a]:List Int).map aD).flatten) rfl ?_;refine dop 10 rfl (zJ _ rfl (fun w1 a6 a8=>by have h7:=ui lb (d) (p) (u) (cap) (a) I2 w1 a8 hl ha (Rd.ofBlk (b:=I2) (els:=([a]:List Int).map aD) a6 rfl aM rfl);exact h7) rfl ?_);rintro⟨⟩ _;refine ii (rn [23,11,3,27,7,11] ?_);exact dD rfl rfl fun w' a5=>⟨(),aQ,rfl,zA w' a5⟩
theorem jy (lb:Nat) (d p u cap:Int) (a:Int) (w:World) (hw:W0 [LgB lb (d) (p) (u) (cap)] w) (hl:LOk cap d p u) (ha:0≤a∧a≤18446744073709551615):au (ι:=Unit) Tryz.prog 114 [aG lb,aJ a] w [LgB lb (d) (p) (u) (cap)] (fun x=>True) (fun x=>.int .i64 (dW d p u a)) (fun x=>[]) (fun x=>[LgB lb (d) (p) ((if dW d p u a=0 then u+a else u)) (cap)]):=by
 refine Γ Tryz.func114 18 hw ?_;refine RT ?_;refine dR (L0:=[]) [] an rfl zG (rn [23,0,2,23,1,6,23,2,4,23,3,2,23,4,6,23,5,4,23,6,4,23,7,4,23,8,2] ?_);refine dop 9 rfl (bg rfl rfl rfl rfl rfl fun I2=>?_);refine zF (b:=I2) ((([a]:List Int).map aD).flatten) rfl ?_;refine dop 10 rfl (zJ _ rfl (fun w1 a6 a8=>by have h7:=uj lb (d) (p) (u) (cap) (a) I2 w1 a8 hl ha (Rd.ofBlk (b:=I2) (els:=([a]:List Int).map aD) a6 rfl aM rfl);exact h7) rfl ?_);rintro⟨⟩ _;refine ii (rn [23,11,3,27,7,11] ?_);exact dD rfl rfl fun w' a5=>⟨(),aQ,rfl,zA w' a5⟩
theorem AG (lb:Nat) (d p u cap:Int) (a:Int) (w:World) (hw:W0 [LgB lb (d) (p) (u) (cap)] w) (hl:LOk cap d p u) (ha:0≤a∧a≤18446744073709551615):au (ι:=Unit) Tryz.prog 105 [aG lb,aJ a] w [LgB lb (d) (p) (u) (cap)] (fun x=>True) (fun x=>.int .i64 (eR cap d p u a)) (fun x=>[]) (fun x=>[LgB lb ((if eR cap d p u a=0 then d+a else d)) (p) (u) (cap)]):=by
 refine Γ Tryz.func105 40 hw ?_;have hl0:=hl;obtain⟨l1,l2,l3,l4,l5,l6⟩:=hl0;refine rn [1,3,0,8,1,2,50,0,20,12,7,8,8] ?_;refine bn [] an rfl (rn [23,0,2,23,1,2,23,2,6,23,3,4,23,4,5,23,5,2,23,6,6,23,7,4] ?_);refine dop 8 rfl (zN _ rfl (fun w1 a6 a8=>by exact iK lb (d) (p) (u) (cap) w1 a8 hl) rfl ?_);refine dq 9 rfl (yN (z:=cap-(d-p-u)) rfl rfl (by rw[cF];omega)) (rn [23,10,55,27,7] ?_);refine zB rfl (fun h1=>?_) (fun h1=>?_)
 ·have hb:eR cap d p u a=4:=by unfold eR;rw[bZ (by have h9:=bW h1;omega)]
  refine Re ?_;exact dD rfl rfl fun w' a5=>⟨(),aQ,by rw[hb],by have h9:=zG (L' := [LgB lb (d) (p) (u) (cap)]) w' a5;show WOK _ _ [LgB lb ((if eR cap d p u a=0 then d+a else d)) (p) (u) (cap)] _;rw[hb];simp;exact h9⟩
 have hle:¬cap-(d-p-u)<a:=by have h9:=bX h1;omega
 refine rn [12,7,1,2,6,4,4,4,5,2] ?_;refine aa (bg rfl rfl rfl rfl rfl fun P0=>?_);refine zF (b:=P0) ((([d,a]:List Int).map aD).flatten) rfl ?_;refine aa (zH rfl (fun w1 a6=>vZ (some ⟨P0,0,none⟩) (2) (2) (([d,a]:List Int)) w1 (Rdb.toOld (InL.rdb (b:=P0) (els:=(([d,a]:List Int)).map aD) rfl aM rfl) a6) (by intro x hx;simp at hx;rcases hx with rfl|rfl<;>omega) bB) rfl ?_);refine Ro ?_;refine zB rfl (fun h2=>?_) (fun h2=>?_)
 ·have hb:eR cap d p u a=10:=by unfold eR;rw[bY hle,bZ (by have h9:=h2;simp[eI] at h9;omega)]
  refine Re ?_;exact dD rfl rfl fun w' a5=>⟨(),aQ,by rw[hb],by have h9:=zG (L' := [LgB lb (d) (p) (u) (cap)]) w' a5;show WOK _ _ [LgB lb ((if eR cap d p u a=0 then d+a else d)) (p) (u) (cap)] _;rw[hb];simp;exact h9⟩
 have hb:eR cap d p u a=0:=by unfold eR;rw[bY hle,bY (by have h9:=h2;simp[eI] at h9;omega)]
 have hsm:df [d,a]=d+a:=by have h9:=h2;simp[eI] at h9;unfold df;rw[bZ aV];simp
 refine rn [12,7,1,2,2,6,4,4,4] ?_;refine aa (zI rfl rfl rfl rfl rfl rfl rfl ?_);refine zF (b:=lb) [aJ (d+a),aJ p,aJ u,aJ cap] (by rw[hsm];simp[ay]) (RA ?_);exact dD rfl rfl fun w' a5=>⟨(),aQ,by rw[hb],by have h9:=zG (L' := [LgB lb (d+a) (p) (u) (cap)]) w' a5;show WOK _ _ [LgB lb ((if eR cap d p u a=0 then d+a else d)) (p) (u) (cap)] _;rw[hb];simp;exact h9⟩
theorem zx (cap:Int) (w:World) : au (ι:=Nat) Tryz.prog 35 [aJ cap] w [] (fun x=>True) (fun x=>.pointer (some ⟨x,0,none⟩)) (fun x=>[LgB x (0) (0) (0) (cap)]) (fun x=>[]):=by
 refine Γ Tryz.func35 6 (WOK.start (fps []) _) ?_;refine Sq ?_;refine s_q (yF (c:=[aJ 0,aJ 0,aJ 0,aJ cap]) rfl rfl) rfl ?_;refine aa (aq rfl rfl rfl fun b5=>Rb ?_);exact dD rfl rfl fun w' a5=>⟨b5,aQ,rfl,zA w' a5⟩
theorem zw (lb:Nat) (d p u cap:Int) (w:World) (hw:W0 [LgB lb (d) (p) (u) (cap)] w) : du Tryz.prog 44 [aG lb] w [LgB lb (d) (p) (u) (cap)] (.agg #[aJ d,aJ p,aJ u]):=by
 refine Γ Tryz.func44 11 hw ?_;refine Ri ?_;refine aa (zK rfl fun b2=>rn [0,8,1,2,50,0,20,12,7,1,2,6,4,4] ?_);refine s_q (yP (c' := [aJ d,aJ p,aJ u]) rfl rfl rfl) rfl (Rp ?_);exact dG rfl (.cellw rfl rfl) fun w' a5=>⟨(),trivial,by first|rfl|(simp_all;done),zA w' a5⟩
abbrev CuB (b k:Nat):Res:=Res.blk b 180 [aI k]
theorem ve (w:World) : au (ι:=Nat) Tryz.prog 37 [] w [] (fun x=>True) (fun x=>.pointer (some ⟨x,0,none⟩)) (fun x=>[CuB x (0)]) (fun x=>[]):=by
 refine Γ Tryz.func37 3 (WOK.start (fps []) _) ?_;refine rn [1,3,0,1] ?_;refine s_q (yF (c:=[aI 0]) rfl rfl) rfl ?_;refine aa (aq rfl rfl rfl fun b2=>Rb ?_);exact dD rfl rfl fun w' a5=>⟨b2,aQ,rfl,zA w' a5⟩
theorem BY (ub k:Nat) (w:World) (hw:W0 [CuB ub (k)] w) : du Tryz.prog 53 [aG ub] w [CuB ub (k)] (aI k):=by
 refine Γ Tryz.func53 9 hw ?_;refine RC ?_;exact dD rfl rfl fun w' a5=>⟨(),trivial,by first|rfl|(simp_all;done),zA w' a5⟩
theorem wD (y:Op) (e k q:Int) (w:World) : Pur Tryz.prog 56 [.agg y.c.toArray,aH e,aH k,aH q] w (.agg #[aH y.k,aH e,aH (-1),aH k,aH q,aH (-1),.slice none 0 0,.slice none 0 0,aH 0]):=by
 refine Γ Tryz.func56 15 (WOK.start [] _) ?_;refine Ri ?_;refine aa (aq rfl rfl rfl fun b4=>?_);refine aa (zK rfl fun b8=>rn [0,1,4,5,2,2,2] ?_);refine s_q (yF (c:=[aH (y.k),aH (e),aH (-1),aH (k),aH (q),aH (-1),.slice none 0 0,.slice none 0 0,aH 0]) rfl rfl) rfl (Rp ?_);exact dG rfl (.cellw rfl rfl) fun w' a5=>⟨aP,a5.upd⟩
theorem xE (y:Op) (i dl k q:Int) (w:World) : Pur Tryz.prog 65 [.agg y.c.toArray,aH i,aH dl,aH k,aH q] w (.agg #[aH y.k,aH 0,aH i,aH k,aH q,aH dl,.slice none 0 0,.slice none 0 0,aH 0]):=by
 refine Γ Tryz.func65 18 (WOK.start [] _) ?_;refine Ri ?_;refine aa (aq rfl rfl rfl fun b5=>?_);refine aa (zK rfl fun t4=>rn [0,1,4,5,2,2,2,2] ?_);refine s_q (yF (c:=[aH (y.k),aH (0),aH (i),aH (k),aH (q),aH (dl),.slice none 0 0,.slice none 0 0,aH 0]) rfl rfl) rfl (Rp ?_);exact dG rfl (.cellw rfl rfl) fun w' a5=>⟨aP,a5.upd⟩
theorem yQ (e:Int) (w:World) : Pur Tryz.prog 64 [aH e] w (.agg #[aH e,aH 0,aH 0]):=by
 refine Γ Tryz.func64 5 (WOK.start [] _) ?_;refine Ri ?_;refine aa (zK rfl fun b2=>rn [0,1,2] ?_);refine s_q (yF (c:=[aH e,aH 0,aH 0]) rfl rfl) rfl (Rp ?_);exact dG rfl (.cellw rfl rfl) fun w' a5=>⟨aP,a5.upd⟩
theorem xS (i d:Int) (w:World) : Pur Tryz.prog 108 [aH i,aH d] w (.agg #[aH 0,aH i,aH d]):=by
 refine Γ Tryz.func108 8 (WOK.start [] _) ?_;refine Ri ?_;refine aa (zK rfl fun b4=>SE ?_);refine s_q (yF (c:=[aH 0,aH i,aH d]) rfl rfl) rfl (Rp ?_);exact dG rfl (.cellw rfl rfl) fun w' a5=>⟨aP,a5.upd⟩
end Go.Proofs.YtdddiilocbbkkaaGreat
