/- Part 8 of the proof of TopModel. No condition. -/
import Derived.Test.YtdddiilocbbkkaaGreatTM7
set_option linter.unusedVariables false
set_option linter.unusedSimpArgs false
namespace Go.Proofs.YtdddiilocbbkkaaGreat
open Go.RowKit Go.Eg
set_option maxHeartbeats 4000000
set_option synthInstance.maxSize 3000
set_option maxRecDepth 100000
structure M.ok (m:M):Prop where
 g:0<=m.g/\m.g<=18446744073709551615
 t:0<=m.t/\m.t<=18446744073709551615
 d:0<=m.d/\m.d<=18446744073709551615
 bf:0<=m.bf/\m.bf<=18446744073709551615
def R.of (m:M):R:=⟨m.bal,m.spent,m.g,m.t,m.d⟩
theorem kM (n:Int):UU n=n%18446744073709551616:=cF n
theorem Gd:M0.ok:=⟨aO,aO,aO,aO⟩
theorem R.ext {a b:R} (h1:a.b=b.b) (h2:a.s=b.s) (h3:a.g=b.g) (h4:a.t=b.t) (h5:a.d=b.d):a=b:=by
 cases a;cases b;simp_all
theorem zb {m:M} (h:m.ok) {x:Int} (hx:0<=x):(R.of m).grant x=R.of (m.grant x):=by
 obtain⟨h1,h2,h3,h4⟩:=h;apply R.ext<;>simp only[R.of,R.grant,M.grant,M.bal,M.spent,kM]<;>omega
theorem CK {m:M} (h:m.ok) {x:Int} (hx:0<=x):(R.of m).take x=R.of (m.take x):=by
 obtain⟨h1,h2,h3,h4⟩:=h;unfold R.take M.take;by_cases hb:m.bal<x
 ·rw[bZ hb,bZ (show(R.of m).b<x from hb)]
 rw[bY hb,bY (show¬(R.of m).b<x from hb)];apply R.ext<;>simp only[R.of,M.bal,M.spent,kM] at * <;> omega
theorem CL {m:M} (h:m.ok):(R.of m).drop=R.of m.drop:=by
 obtain⟨h1,h2,h3,h4⟩:=h;apply R.ext<;>simp only[R.of,R.drop,M.drop,M.bal,M.spent,kM]<;>omega
theorem AO {m:M} (h:m.ok) (x:Int):(m.grant x).ok:=by
 obtain⟨h1,h2,h3,h4⟩:=h;constructor<;>simp only[M.grant,kM]<;>omega
theorem Bb {m:M} (h:m.ok) (x:Int):(m.take x).ok:=by
 unfold M.take;split
 ·exact h
 obtain⟨h1,h2,h3,h4⟩:=h;constructor<;>simp only[kM]<;>omega
theorem Cv {m:M} (h:m.ok):m.drop.ok:=by
 obtain⟨h1,h2,h3,h4⟩:=h;constructor<;>simp only[M.drop,kM]<;>omega
def dw (W:List Int) (e:Int):Nat->LL->M->List As->List As × LL × M
 | 0,q,m,out=>(out,q,m)
 | n+1,q,m,out=>if dQ q=false then(out,q,m.drop) else if m.bal<ofW W (cd q) then(out,q,m) else dw W e n (de q) (m.take (ofW W (cd q))) (out++[⟨cd q,dL q,e+1⟩])
def ce (W:List Int) (e lim:Int) (q:LL) (m:M):List As × LL × M:=dw W e (fI q+1) q (m.grant lim) []
theorem hQ {W:List Int} {e:Int} {n:Nat} {q:LL} {m:M} {out:List As} (h:dQ q=false):dw W e (n+1) q m out=(out,q,m.drop):=by rw[dw,bZ h]
theorem pN {W:List Int} {e:Int} {n:Nat} {q:LL} {m:M} {out:List As} (h:dQ q=true) (h2:m.bal<ofW W (cd q)):dw W e (n+1) q m out=(out,q,m):=by rw[dw,bY (by simp[h]),bZ h2]
theorem ja {W:List Int} {e:Int} {n:Nat} {q:LL} {m:M} {out:List As} (h:dQ q=true) (h2:¬m.bal<ofW W (cd q)):dw W e (n+1) q m out=dw W e n (de q) (m.take (ofW W (cd q))) (out++[⟨cd q,dL q,e+1⟩]):=by rw[dw,bY (by simp[h]),bY h2]
theorem EY {W:List Int} (h:∀x∈W,0<=x) (i:Int):0<=ofW W i:=by
 unfold ofW;split
 ·omega
 rename_i hi;have hj:i.toNat<W.length:=by omega
 rw[List.getElem?_eq_getElem hj];exact h _ (cC hj)
theorem jZ {W:List Int} {e:Int} (hW:∀x∈W,0<=x):∀{n:Nat} {q:LL} {m:M} {out:List As},m.ok->fe W e n q (R.of m) out=((dw W e n q m out).1,(dw W e n q m out).2.1,R.of (dw W e n q m out).2.2)/\(dw W e n q m out).2.2.ok
 | 0,q,m,out,h=>⟨rfl,h⟩
 | n+1,q,m,out,h=>by
  unfold fe dw;split
  ·exact⟨by rw[CL h],Cv h⟩
  rw[show(R.of m).b=m.bal from rfl];split
  ·exact⟨rfl,h⟩
  rw[CK h (EY hW _)];exact jZ hW (Bb h _)
theorem ld {W:List Int} {e lim:Int} {q:LL} {m:M} (hW:∀x∈W,0<=x) (hl:0<=lim) (h:m.ok):eg W e lim q (R.of m)=((ce W e lim q m).1,(ce W e lim q m).2.1,R.of (ce W e lim q m).2.2)/\(ce W e lim q m).2.2.ok:=by
 unfold eg ce;rw[zb h hl];exact jZ hW (AO h lim)
theorem hO {W:List Int} {e:Int}:∀{n:Nat} {q:LL} {m:M} {out:List As},(dw W e n q m out).2.1.f.length<=q.f.length/\(dw W e n q m out).2.1.v.length<=q.v.length/\(dw W e n q m out).1.length<=out.length+n
 | 0,_,_,_=>by simp[dw]
 | n+1,q,m,out=>by
  unfold dw;split
  ·simp
  split
  ·simp
  have h1:=hO (W:=W) (e:=e) (n:=n) (q:=de q) (m:=m.take (ofW W (cd q))) (out:=out++[⟨cd q,dL q,e+1⟩]);have h2:=iR q;simp only[cQ,cT,List.length_nil] at h1;omega
theorem qQ {W:List Int} {e lim:Int} {q:LL} {m:M} {sz:Nat} (h:q.f.length<=sz/\q.v.length<=sz):(ce W e lim q m).2.1.f.length<=sz/\(ce W e lim q m).2.1.v.length<=sz:=by
 have:=hO (W:=W) (e:=e) (n:=fI q+1) (q:=q) (m:=m.grant lim) (out:=[]);unfold ce;omega
theorem tT (mb:Nat) (m:M) (w:World) (hw:W0 [Res.blk mb 186 (M.c m)] w) : du Tryz.prog 99 [aG mb] w [Res.blk mb 186 (M.c m)] (aJ m.bal):=by
 refine am Tryz.func99 20 hw ?_;refine SZ ?_;refine bn [] an rfl (rn [23,0,2,23,1,6,23,2,4,23,3,4,23,4,5,23,5,2,23,6,6,23,7,4,23,8,4,23,9,5,23,10,57,23,11,2,23,12,6,23,13,4,23,14,4,23,15,5,23,16,57,23,17,3,27,7,11] ?_);exact dD rfl rfl fun w' a5=>⟨(),trivial,by first|rfl|(simp_all;done),zA w' a5⟩
theorem tm (mb:Nat) (m:M) (w:World) (hw:W0 [Res.blk mb 186 (M.c m)] w) : du Tryz.prog 315 [aG mb] w [Res.blk mb 186 (M.c m)] (aJ (UU (18446744073709551615-m.bal))):=by
 refine am Tryz.func315 6 hw ?_;refine Sq ?_;refine aa (zN _ rfl (fun w1 a6 a8=>by exact tT mb m w1 a8) rfl ?_);refine rn [57,3,0,11] ?_;exact dD rfl rfl fun w' a5=>⟨(),trivial,by first|rfl|(simp_all;done),zA w' a5⟩
theorem AN (a b:Int) (w:World) : Pur Tryz.prog 316 [aJ a,aJ b] w (.tuple [aJ (if a<b then 0 else UU (a-b)),.bool (!decide (a<b))].toArray):=by
 refine am Tryz.func316 12 (WOK.start [] _) ?_;refine rn [1,3,3,0,8,1,2,2,55,0] ?_;refine zB rfl (fun h1=>?_) (fun h1=>?_)
 ·refine RL ?_;exact dE rfl rfl rfl fun w' a5=>⟨by simp at h1;rw[bZ aK,cX aK];rfl,a5.upd⟩
 refine rn [12,7,1,2,2,57,3,3,0,11] ?_;exact dE rfl rfl rfl fun w' a5=>⟨by simp at h1;rw[bY aK,cY aK];rfl,a5.upd⟩
theorem oJ (mb:Nat) (m:M) (y:Int) (w:World) (hw:W0 [Res.blk mb 186 (M.c m)] w) : au (ι:=Unit) Tryz.prog 276 [aG mb,aJ y] w [Res.blk mb 186 (M.c m)] (fun x=>True) (fun x=>.int .u64 (m.grant y).bal) (fun x=>[]) (fun x=>[Res.blk mb 186 (M.c (m.grant y))]):=by
 refine am Tryz.func276 37 hw ?_;refine RT ?_;refine bn [17] an rfl (rn [23,0,2,23,1,6,23,2,4,23,3,4,23,4,4,23,5,5,23,6,2,23,7,2,23,8,6,23,9,4] ?_);refine dop 10 rfl (zN _ rfl (fun w1 a6 a8=>by exact tm mb m w1 a8) rfl ?_);refine rn [23,11,58,23,12,54,24,13,6,24,14,4,24,15,4,23,16,4] ?_;refine dop 17 rfl (zI (c' := M.c ⟨UU (m.g+min y (UU (18446744073709551615-m.bal))),m.t,m.d,m.bf⟩) rfl rfl rfl rfl rfl rfl rfl (rn [28,7,1,2,2,6,4,4,4,5,6,4] ?_));refine aa (zI (c' := M.c (m.grant y)) rfl rfl rfl rfl rfl rfl rfl (rn [0,1,2,6,4] ?_));refine aa (zN _ rfl (fun w1 a6 a8=>by exact tT mb (m.grant y) w1 a8) rfl ?_);refine Rb ?_;exact dD rfl rfl fun w' a5=>⟨(),aQ,rfl,zA w' a5⟩
theorem tl (mb:Nat) (m:M) (y:Int) (w:World) (hw:W0 [Res.blk mb 186 (M.c m)] w) : au (ι:=Unit) Tryz.prog 277 [aG mb,aJ y] w [Res.blk mb 186 (M.c m)] (fun x=>True) (fun x=>.bool (!decide (m.bal<y))) (fun x=>[]) (fun x=>[Res.blk mb 186 (M.c (m.take y))]):=by
 refine am Tryz.func277 32 hw ?_;refine rn [1,3,0,8,1,2,50,0,20,12,7,8,1,2,6,4] ?_;refine aa (zN _ rfl (fun w1 a6 a8=>by exact tT mb m w1 a8) rfl ?_);refine SD ?_;refine aa (zH rfl (fun w1 a6=>AN ((M.bal m)) (y) w1) rfl (rn [2,40,40,3,3,0,1,2,48,0] ?_));refine zB rfl (fun h1=>?_) (fun h1=>?_)
 ·refine Re ?_;have e7:m.take y=m:=bZ (by simp at h1;omega);exact dD rfl rfl fun w' a5=>⟨(),aQ,by simp at h1;simp;omega,by rw[e7];exact zA w' a5⟩
 refine rn [12,7,1,2,6,4,4,4,5,2,54,6,4,4,4] ?_;refine aa (zI (c' := M.c ⟨m.g,UU (m.t+y),m.d,m.bf⟩) rfl rfl rfl rfl rfl rfl rfl (RA ?_));have e7:m.take y=⟨m.g,UU (m.t+y),m.d,m.bf⟩:=bY (by simp at h1;omega);exact dD rfl rfl fun w' a5=>⟨(),aQ,by simp at h1;simp;omega,by rw[e7];exact zA w' a5⟩
theorem tn (mb:Nat) (m:M) (w:World) (hw:W0 [Res.blk mb 186 (M.c m)] w) : au (ι:=Unit) Tryz.prog 280 [aG mb] w [Res.blk mb 186 (M.c m)] (fun x=>True) (fun x=>.int .u64 m.bal) (fun x=>[]) (fun x=>[Res.blk mb 186 (M.c m.drop)]):=by
 refine am Tryz.func280 23 hw ?_;refine Sj ?_;refine aa (zN _ rfl (fun w1 a6 a8=>by exact tT mb m w1 a8) rfl ?_);refine rn [3,0,1,2,6,4,4,4,5,2,54,6,4,4,4] ?_;refine aa (zI (c' := M.c m.drop) rfl rfl rfl rfl rfl rfl rfl (SJ ?_));exact dD rfl rfl fun w' a5=>⟨(),aQ,rfl,zA w' a5⟩
theorem kn (mb:Nat) (m:M) (w:World) (hw:W0 [Res.blk mb 186 (M.c m)] w) : du Tryz.prog 54 [aG mb] w [Res.blk mb 186 (M.c m)] (aJ m.bal):=by
 refine am Tryz.func54 9 hw ?_;refine Sj ?_;refine aa (zN _ rfl (fun w1 a6 a8=>by exact tT mb m w1 a8) rfl ?_);refine Rb ?_;exact dD rfl rfl fun w' a5=>⟨(),trivial,by first|rfl|(simp_all;done),zA w' a5⟩
theorem zo (w:World) : au (ι:=Nat) Tryz.prog 38 [] w [] (fun x=>True) (fun x=>.pointer (some ⟨x,0,none⟩)) (fun x=>[Res.blk x 186 (M.c M0)]) (fun x=>[]):=by
 refine am Tryz.func38 3 (WOK.start (fps []) _) ?_;refine rn [1,3,0,1] ?_;refine s_q (yF (c:=M.c M0) rfl rfl) rfl ?_;refine aa (aq (c:=M.c M0) rfl rfl rfl fun b2=>Rb ?_);exact dD rfl rfl fun w' a5=>⟨b2,aQ,rfl,zA w' a5⟩
theorem ux (A:bU) (n cap:Nat) (l:List Int) (i:Int) (w:World) (ha:Old w A n 1 (l.map aD)):Pur Tryz.prog 245 [.slice A n cap,aH i] w (aJ (ofW l i)):=by
 refine am Tryz.func245 17 (WOK.start [] _) ?_;refine rn [1,3,0,8,1,2,46,2] ?_;refine zS 7 rfl (fun h1=>?_) (fun h1=>?_)
 ·refine Sp ?_;exact dD rfl rfl fun w' a5=>⟨by rw[kk (by first|exact .inl (bW h1)|(have h8:=ha.len;simp only[cU] at h8;simp_all;omega))],a5.upd⟩
 refine RU ?_;refine zB rfl (fun h2=>?_) (fun h2=>?_)
 ·refine Re ?_;exact dD rfl rfl fun w' a5=>⟨by rw[kk (.inr (by have h8:=ha.len;simp only[cU] at h8;have h7:=bW h2;omega))],a5.upd⟩
 have hn:n=l.length:=by simpa using ha.len
 have h9:¬i<0/\¬(l.length:Int)<=i:=⟨bX h1,by have h7:=bX h2;omega⟩
 obtain⟨j,rfl⟩:∃j:Nat,i=j:=⟨i.toNat,aK⟩
 have hj:j<l.length:=by omega
 refine SQ ?_;refine s_q (zM (i:=j) rfl rfl rfl (ha.rdb rfl) aS) rfl ?_;refine s_q (zX (i:=j) (o:=0) rfl (ha.rdb rfl) (zP aN) rfl rfl) rfl (Rb ?_);exact dD rfl rfl fun w' a5=>⟨by rw[zd hj],a5.upd⟩
theorem um (e lim:Int) (bl b0 b1 mb:Nat) (g0 g1:Rg) (q:LL) (sz:Nat) (m:M) (W:bU) (wn wc:Nat) (l:List Int) (w:World) (hw:W0 [bL_ bl b0 b1,aj b0 g0,ah g0,aj b1 g1,ah g1,Res.blk mb 186 (M.c m)] w) (h0:g0.Rep 1 ((q).f.map aC)) (hh1:g1.Rep 1 ((q).v.map aC)) (s0:Rg.size g0=sz) (s1:Rg.size g1=sz) (j4:sz<=4096) (hq:q.f.length<=sz/\q.v.length<=sz) (B4:Rd w [bL_ bl b0 b1,aj b0 g0,ah g0,aj b1 g1,ah g1,Res.blk mb 186 (M.c m)] W wn 1 (l.map aD)) (he9:-1000000<=e/\e<=1000000000000000):au (ι:=(bU × Nat × Rg × Rg)) Tryz.prog 229 [aH e,aG bl,aG mb,aJ lim,.slice W wn wc] w [bL_ bl b0 b1,aj b0 g0,ah g0,aj b1 g1,ah g1,Res.blk mb 186 (M.c m)] (fun x=>x.2.2.1.Rep 1 ((ce l e lim q m).2.1.f.map aC)/\x.2.2.2.Rep 1 ((ce l e lim q m).2.1.v.map aC)/\x.2.2.1.size=sz/\x.2.2.2.size=sz) (fun x=>.slice x.1 (ce l e lim q m).1.length x.2.1) (fun x=>[Res.row x.1 ((ce l e lim q m).1).length x.2.1 55 3 (((ce l e lim q m).1).map As.cs)]) (fun x=>[bL_ bl b0 b1,aj b0 x.2.2.1,ah x.2.2.1,aj b1 x.2.2.2,ah x.2.2.2,Res.blk mb 186 (M.c (ce l e lim q m).2.2)]):=by
 refine am Tryz.func229 62 hw ?_;refine rn [1,3,0,8,1,2,50,2,22,2,22,50,42,0,20,12,7,1,2,2] ?_;refine aa (zJ _ rfl (fun w1 a6 a8=>by have h7:=oJ mb m (lim) w1 a8;exact h7) rfl ?_);rintro⟨⟩ _;refine ii (rn [0,1,2,52,3,0,1,3] ?_);refine xA 12 55 3 rfl fun Az1 capz1 hcz1=>?_;refine zC (A:=Az1) (([]:List As).map As.cs) rfl (rn [0,1,2] ?_);refine aa (zN _ rfl (fun w1 a6 a8=>by exact mn bl b0 b1 g0 g1 q sz w1 a8 h0 hh1 s0 s1 aK) rfl ?_);refine rn [2,40,40,40,3,3,3,0,8,14] ?_;refine dP [0,1,2,4,10,11] (fun(x:bU × Nat × List As × LL × M × Rg × Rg)=>[(12,.slice x.1 x.2.2.1.length x.2.1),(13,aH (cd x.2.2.2.1)),(14,aH (dL x.2.2.2.1)),(15,.bool (dQ x.2.2.2.1))]) (fun(x:bU × Nat × List As × LL × M × Rg × Rg)=>[Res.row x.1 (x.2.2.1).length x.2.1 55 3 ((x.2.2.1).map As.cs),bL_ bl b0 b1,aj b0 x.2.2.2.2.2.1,ah x.2.2.2.2.2.1,aj b1 x.2.2.2.2.2.2,ah x.2.2.2.2.2.2,Res.blk mb 186 (M.c x.2.2.2.2.1)]) (fun(x:bU × Nat × List As × LL × M × Rg × Rg)=>(ce l e lim q m)=dw l e (fI x.2.2.2.1+1) x.2.2.2.1 x.2.2.2.2.1 x.2.2.1/\(x.2.2.2.2.2.1).Rep 1 ((x.2.2.2.1).f.map aC)/\(x.2.2.2.2.2.2).Rep 1 ((x.2.2.2.1).v.map aC)/\(x.2.2.2.2.2.1).size=sz/\(x.2.2.2.2.2.2).size=sz/\(x.2.2.1).length+fI x.2.2.2.1=fI q/\((x.2.2.2.1).f.length<=sz/\(x.2.2.2.1).v.length<=sz)) (fun(x:bU × Nat × List As × LL × M × Rg × Rg)=>fI x.2.2.2.1) (Az1,capz1,[],q,(M.grant m lim),g0,g1) (by(try dsimp only);exact⟨rfl,h0,hh1,s0,s1,aM,hq⟩) ?_;rintro⟨A,cap,out,p,m1,p0,p1⟩ ⟨hs,r0,r1,z0,z1,hl,hp⟩;replace hs:(ce l e lim q m)=dw l e (fI p+1) p m1 out:=hs;replace r0:(p0).Rep 1 ((p).f.map aC):=r0;replace r1:(p1).Rep 1 ((p).v.map aC):=r1;replace z0:(p0).size=sz:=z0;replace z1:(p1).size=sz:=z1;replace hl:(out).length+fI p=fI q:=hl;replace hp:(p).f.length<=sz/\(p).v.length<=sz:=hp;refine yB (L' := [Res.row A (out).length cap 55 3 ((out).map As.cs),bL_ bl b0 b1,aj b0 p0,ah p0,aj b1 p1,ah p1,Res.blk mb 186 (M.c m1)]) rfl ?_;refine ae 12 (v' := .slice A out.length cap) rfl rfl ?_;refine ae 13 (v' := aH (cd p)) rfl rfl ?_;refine ae 14 (v' := aH (dL p)) rfl rfl ?_;refine ae 15 (v' := .bool (dQ p)) rfl rfl ?_;have hlq:fI q<=8192:=by unfold fI;omega
 refine rn [8,1,2,2] ?_;refine zS 34 rfl (fun h1=>?_) (fun h1=>?_)
 ·have hB:dQ p=true:=by simpa using h1
  refine rn [22,2,22,2,22,2] ?_;refine ff rfl rfl (zH rfl (fun w1 a6=>ux W (wn) (wc) (l) ((cd p)) w1 (Rdb.toOld B4.rdb a6)) rfl ?_);refine ff rfl rfl (xV [Res.blk mb 186 (M.c m1)] rfl rfl (fun w1 a6 a8=>by have h7:=tl mb m1 ((ofW l ((cd p)))) w1 a8;exact h7) rfl ?_);rintro⟨⟩ _;refine ii (rn [41,0] ?_);refine zB rfl (fun h2=>?_) (fun h2=>?_)
  ·have hT:¬m1.bal<ofW l (cd p):=by simpa using h2
   refine rn [12,7,14,1,2] ?_;refine aa (zJ _ rfl (fun w1 a6 a8=>by have h7:=CC bl b0 b1 p0 p1 p sz w1 a8 r0 r1 z0 z1 aK;exact h7) rfl ?_);rintro⟨g42,gg42⟩ ⟨r42,rr42,s42,ss42⟩;refine ii ?_;simp only at r42 rr42 s42 ss42;refine rn [0,1,2,2,2,2] ?_;refine s_q (yI (z:=e+1) rfl rfl (dY aK aK)) rfl (rn [49] ?_);refine aa (bg rfl rfl rfl rfl rfl fun b49=>?_);refine zF (b:=b49) ((([(As.mk (cd p) (dL p) (e+1))]:List As).map As.cs).flatten) rfl ?_;refine aa (zW (A:=A) (els:=(out).map As.cs) (news:=(([(As.mk (cd p) (dL p) (e+1))]:List As).map As.cs)) rfl rfl (InL.rdb (b:=b49) rfl (by simp[As.cs]) rfl) (zZ (c:=As.cs) (by intro x;simp[As.cs,Value.oneCell']) _) aR rfl fun A50 cap50=>⟨_,inferInstance,?_⟩);refine zC (A:=A50) (((out++[(As.mk (cd p) (dL p) (e+1))])).map As.cs) (by first|rfl|exact cA.symm|(simp;done)) (rn [3,0,10,2] ?_);refine aa (zN _ rfl (fun w1 a6 a8=>by exact mn bl b0 b1 g42 gg42 (de p) sz w1 a8 r42 rr42 s42 ss42 aK) rfl ?_);refine rn [2,40,40,40,3,3,3,9,15] ?_;refine zR (A:=A50) ((out++[(As.mk (cd p) (dL p) (e+1))])).length aM ?_;refine ae 12 (v' := .slice A50 ((out++[(As.mk (cd p) (dL p) (e+1))])).length cap50) rfl aM ?_;exact xX (A50,cap50,(out++[(As.mk (cd p) (dL p) (e+1))]),(de p),(M.take m1 ((ofW l ((cd p))))),g42,gg42) (by(try dsimp only);exact⟨(by rw[←ja hB hT,sH hB];exact hs),r42,rr42,s42,ss42,(by have h9:=sH hB;simp only[cQ,cT,List.length_nil];omega),(by have h9:=iR p;omega)⟩) (by have h9:=sH hB;dsimp only;omega) (by repeat(first|exact trivial|refine⟨rfl,?_⟩)) zG
  have hT:m1.bal<ofW l (cd p):=by simpa using h2
  have hR:(ce l e lim q m)=(out,p,m1.take (ofW l (cd p))):=by rw[hs,pN hB hT,show m1.take (ofW l (cd p))=m1 from bZ hT]
  refine Ru ?_;refine zE (zE (zQ (rn [7,8,1,2] ?_)));refine zV 57 (b:=true) rfl (hB) (rn [48,0,20,12,7,1,2,3,0,11] ?_);exact dD rfl rfl fun w' a5=>⟨(A,cap,p0,p1),(by(rw[hR];exact⟨r0,r1,z0,z1⟩)),by rw[hR],by rw[hR];exact zA w' a5⟩
 have hB:dQ p=false:=by simpa using h1
 have hR:(ce l e lim q m)=(out,p,m1.drop):=by rw[hs,hQ hB]
 refine rn [21,21,21,21,21,42,0,20,16] ?_;refine zE (zE (zQ (rn [7,8,1,2] ?_)));refine zV 57 (b:=false) rfl (hB) (rn [48,0,19,10,2] ?_);refine aa (zJ _ rfl (fun w1 a6 a8=>by have h7:=tn mb m1 w1 a8;exact h7) rfl ?_);rintro⟨⟩ _;refine ii (SJ ?_);exact dD rfl rfl fun w' a5=>⟨(A,cap,p0,p1),(by(rw[hR];exact⟨r0,r1,z0,z1⟩)),by rw[hR],by rw[hR];exact zA w' a5⟩
theorem qk {l:List Int} (h:okU l) (i:Int):0<=ofW l i/\ofW l i<=18446744073709551615:=by
 unfold ofW;split
 ·omega
 rename_i hi;have hj:i.toNat<l.length:=by omega
 rw[List.getElem?_eq_getElem hj];exact h _ (cC hj)
theorem ki {l is:List Int} (h:okU l):okU (is.map (ofW l)):=by
 intro x hx;obtain⟨i,_,rfl⟩:=cG.1 hx;exact qk h i
theorem gr (A B9:bU) (n1 c1 n2 c2:Nat) (l is:List Int) (w:World) (ha:Old w A n1 1 (l.map aD)) (hb:Old w B9 n2 1 (is.map aC)) (hl:okU l) (I8:n2<=100000):Pur Tryz.prog 167 [.slice A n1 c1,.slice B9 n2 c2] w (.tuple [aJ (df (is.map (ofW l))),.bool (eI (is.map (ofW l)))].toArray):=by
 refine am Tryz.func167 26 (WOK.start [] _) ?_;have e1:n1=l.length:=by simpa using ha.len
 have e2:n2=is.length:=by simpa using hb.len
 refine rn [1,3,3,0,1,3] ?_;refine xA 6 22 1 rfl fun Az1 capz1 hcz1=>?_;refine zC (A:=Az1) (([]:List Int).map aD) rfl (rn [0,8,1,2,47,2,0,14] ?_);refine dP [0,4,5,9,10] (fun(x:Nat × bU × Nat × List Int)=>[(6,.slice x.2.1 x.2.2.2.length x.2.2.1),(11,aI x.1)]) (fun(x:Nat × bU × Nat × List Int)=>[Res.row x.2.1 (x.2.2.2).length x.2.2.1 22 1 ((x.2.2.2).map aD)]) (fun(x:Nat × bU × Nat × List Int)=>x.1<=n2/\x.2.2.2=(is.take x.1).map (ofW l)) (fun(x:Nat × bU × Nat × List Int)=>n2-x.1) (0,Az1,capz1,[]) (by(try dsimp only);exact⟨cN _,aM⟩) ?_;rintro⟨k,B,bc,o⟩ ⟨f6,ho⟩;replace f6:k<=n2:=f6;replace ho:o=(is.take k).map (ofW l):=ho;refine yB (L' := [Res.row B (o).length bc 22 1 ((o).map aD)]) rfl ?_;refine ae 6 (v' := .slice B o.length bc) rfl rfl ?_;refine ae 11 (v' := aI k) rfl rfl ?_;have hol:o.length=min k n2:=by rw[ho];simp[e2]
 refine Rj ?_;refine zB rfl (fun h1=>?_) (fun h1=>?_)
 ·have f8:k<n2:=by have h9:=bW h1;omega
  refine Ry ?_;refine s_q (zM (i:=k) rfl rfl rfl (hb.rdb rfl) aN) rfl ?_;refine s_q (zX (i:=k) (o:=0) rfl (hb.rdb rfl) (zP aX) rfl rfl) rfl (rn [3,0,10,2,2,2] ?_);refine aa (zH rfl (fun w1 a6=>ux A (n1) (c1) (l) _ w1 (Rdb.toOld (ha.rdb rfl) a6)) rfl ?_);refine aa (bg rfl rfl rfl rfl rfl fun j2=>?_);refine zF (b:=j2) ((([(ofW l (is[k]))]:List Int).map aD).flatten) rfl ?_;refine aa (zW (A:=B) (els:=(o).map aD) (news:=(([(ofW l (is[k]))]:List Int).map aD)) rfl rfl (InL.rdb (b:=j2) rfl aM rfl) (zZ (c:=aD) (by intro x;simp[Value.oneCell']) _) aR rfl fun A20 cap20=>⟨_,inferInstance,?_⟩);refine zC (A:=A20) (((o++[(ofW l (is[k]))])).map aD) (by first|rfl|exact cA.symm|(simp;done)) (Rx ?_);refine zR (A:=A20) ((o++[(ofW l (is[k]))])).length aM ?_;refine ae 6 (v' := .slice A20 ((o++[(ofW l (is[k]))])).length cap20) rfl aM ?_;exact cr ((k+1),A20,cap20,(o++[(ofW l (is[k]))])) (by(try dsimp only);exact⟨aN,(by rw[←cB (show k<is.length by omega),cA,ho];rfl)⟩)
 have f9:k=n2:=by have h9:=bX h1;omega
 refine Ru ?_;refine zE (zE (zQ (rn [7,1,2] ?_)));refine aa (zH rfl (fun w1 a6=>vZ B (o.length) (bc) (o) w1 (Rdb.toOld (ird (A:=B)) a6) (by rw[ho];exact ki hl) bB) rfl ?_);refine rn [40,40,3,3,0,11] ?_;exact dE rfl rfl rfl fun w' a5=>⟨by have e8:o=is.map (ofW l):=(by rw[ho,f9,e2,cI]);rw[e8],a5.upd⟩
theorem pP (A B9:bU) (n1 c1 n2 c2:Nat) (l is:List Int) (w:World) (ha:Old w A n1 1 (l.map aD)) (hb:Old w B9 n2 1 (is.map aC)) (hl:okU l) (I8:n2<=100000):Pur Tryz.prog 257 [.slice A n1 c1,.slice B9 n2 c2] w (.tuple [aJ (df (is.map (ofW l))),.bool (eI (is.map (ofW l)))].toArray):=by
 refine am Tryz.func257 27 (WOK.start [] _) ?_;have e1:n1=l.length:=by simpa using ha.len
 have e2:n2=is.length:=by simpa using hb.len
 refine rn [1,3,3,0,1,3] ?_;refine xA 6 22 1 rfl fun Az1 capz1 hcz1=>?_;refine zC (A:=Az1) (([]:List Int).map aD) rfl (rn [0,8,1,3,0,14] ?_);refine dP [0,1,4,5] (fun(x:Nat × bU × Nat × List Int)=>[(6,.slice x.2.1 x.2.2.2.length x.2.2.1),(7,aI x.1)]) (fun(x:Nat × bU × Nat × List Int)=>[Res.row x.2.1 (x.2.2.2).length x.2.2.1 22 1 ((x.2.2.2).map aD)]) (fun(x:Nat × bU × Nat × List Int)=>x.1<=n2/\x.2.2.2=(is.take x.1).map (ofW l)) (fun(x:Nat × bU × Nat × List Int)=>n2-x.1) (0,Az1,capz1,[]) (by(try dsimp only);exact⟨cN _,aM⟩) ?_;rintro⟨k,B,bc,o⟩ ⟨f6,ho⟩;replace f6:k<=n2:=f6;replace ho:o=(is.take k).map (ofW l):=ho;refine yB (L' := [Res.row B (o).length bc 22 1 ((o).map aD)]) rfl ?_;refine ae 6 (v' := .slice B o.length bc) rfl rfl ?_;refine ae 7 (v' := aI k) rfl rfl ?_;have hol:o.length=min k n2:=by rw[ho];simp[e2]
 refine Rw ?_;refine zB rfl (fun h1=>?_) (fun h1=>?_)
 ·have f8:k<n2:=by have h9:=bW h1;omega
  have f8:k<n2:=by have h9:=bW h1;omega
  refine rn [12,7,8,14,10,2,2,2,2] ?_;refine s_q (zM (i:=k) rfl rfl rfl (hb.rdb rfl) aN) rfl ?_;refine s_q (zX (i:=k) (o:=0) rfl (hb.rdb rfl) (zP aX) rfl rfl) rfl ?_;refine aa (zH rfl (fun w1 a6=>mX A (n1) (c1) (l) _ w1 (Rdb.toOld (ha.rdb rfl) a6)) rfl ?_);refine aa (bg rfl rfl rfl rfl rfl fun v7=>?_);refine zF (b:=v7) ((([(ofW l (is[k]))]:List Int).map aD).flatten) rfl ?_;refine aa (zW (A:=B) (els:=(o).map aD) (news:=(([(ofW l (is[k]))]:List Int).map aD)) rfl rfl (InL.rdb (b:=v7) rfl aM rfl) (zZ (c:=aD) (by intro x;simp[Value.oneCell']) _) aR rfl fun A22 cap22=>⟨_,inferInstance,?_⟩);refine zC (A:=A22) (((o++[(ofW l (is[k]))])).map aD) (by first|rfl|exact cA.symm|(simp;done)) (Rt ?_);refine zR (A:=A22) ((o++[(ofW l (is[k]))])).length aM ?_;refine ae 6 (v' := .slice A22 ((o++[(ofW l (is[k]))])).length cap22) rfl aM ?_;exact cr ((k+1),A22,cap22,(o++[(ofW l (is[k]))])) (by(try dsimp only);exact⟨aN,(by rw[←cB (show k<is.length by omega),cA,ho];rfl)⟩)
 have f9:k=n2:=by have h9:=bX h1;omega
 have f9:k=n2:=by have h9:=bX h1;omega
 refine Ru ?_;refine zE (zE (zQ (rn [7,1,2] ?_)));refine aa (zH rfl (fun w1 a6=>tI B (o.length) (bc) (o) w1 (Rdb.toOld (ird (A:=B)) a6) (by rw[ho];exact ki hl) bB) rfl ?_);refine rn [40,40,3,3,0,11] ?_;exact dE rfl rfl rfl fun w' a5=>⟨by have e8:o=is.map (ofW l):=(by rw[ho,f9,e2,cI]);rw[e8],a5.upd⟩
def fT (lim s:Int) (f:Bool) (w:Int) (ok:Bool):Bool:=f || (ok && eI [s,w] && decide (df [s,w]<=lim))
def fQ (lim s:Int) (f:Bool) (w:Int) (ok:Bool):Int:=if fT lim s f w ok then df [s,w] else s
def fg (lim s:Int) (f:Bool) (w:Int) (ok:Bool):Bool:=if fT lim s f w ok then false else f
theorem nO (sb fb lb:Nat) (s lim w9:Int) (f ok:Bool) (w:World) (hw:W0 [Res.blk sb 22 [aJ (s)],Res.blk fb 4 [Value.bool (f)],Res.blk lb 22 [aJ lim]] w) (hs:0<=s/\s<=18446744073709551615) (B4:0<=w9/\w9<=18446744073709551615):au (ι:=Unit) Tryz.prog 318 [aJ w9,.bool ok,aG sb,aG fb,aG lb] w [Res.blk sb 22 [aJ (s)],Res.blk fb 4 [Value.bool (f)],Res.blk lb 22 [aJ lim]] (fun x=>True) (fun x=>.bool (fT lim s f w9 ok)) (fun x=>[]) (fun x=>[Res.blk sb 22 [aJ (fQ lim s f w9 ok)],Res.blk fb 4 [Value.bool (fg lim s f w9 ok)],Res.blk lb 22 [aJ lim]]):=by
 refine am Tryz.func318 33 hw ?_;refine rn [1,3,0,1,5,2] ?_;refine aa (bg rfl rfl rfl rfl rfl fun j3=>?_);refine zF (b:=j3) ((([s,w9]:List Int).map aD).flatten) rfl ?_;refine aa (zH rfl (fun w1 a6=>vZ (some ⟨j3,0,none⟩) (2) (2) (([s,w9]:List Int)) w1 (Rdb.toOld (InL.rdb (b:=j3) (els:=(([s,w9]:List Int)).map aD) rfl aM rfl) a6) (by intro x hx;simp at hx;rcases hx with rfl|rfl<;>omega) bB) rfl ?_);refine rn [2,40,40,3,3,0,8,1,5,48,2] ?_;refine zS 19 rfl (fun h1=>?_) (fun h1=>?_)
 ·refine rn [22,2,22,48,22,2] ?_;refine zS 22 rfl (fun h2=>?_) (fun h2=>?_)
  ·refine rn [21,21,22,41,22,2,21,21,21,22,41,41,0,19,1,3,0,11,13] ?_;have hb:fT lim s f w9 ok=false:=by simp only[fT];simp_all;try omega
   exact dD rfl rfl fun w' a5=>⟨(),aQ,by rw[hb],by have h9:=zG (L' := [Res.blk sb 22 [aJ (s)],Res.blk fb 4 [Value.bool (f)],Res.blk lb 22 [aJ lim]]) w' a5;show WOK _ _ [Res.blk sb 22 [aJ (fQ lim s f w9 ok)],Res.blk fb 4 [Value.bool (fg lim s f w9 ok)],Res.blk lb 22 [aJ lim]] _;simp only[fQ,fg,hb];exact h9⟩
  refine rn [22,2,22,48,22,42,22,2] ?_;refine zS 26 rfl (fun h3=>?_) (fun h3=>?_)
  ·refine rn [21,21,21,22,41,41,0,19,1,3,0,11,13] ?_;have hb:fT lim s f w9 ok=false:=by simp only[fT];simp_all;try omega
   exact dD rfl rfl fun w' a5=>⟨(),aQ,by rw[hb],by have h9:=zG (L' := [Res.blk sb 22 [aJ (s)],Res.blk fb 4 [Value.bool (f)],Res.blk lb 22 [aJ lim]]) w' a5;show WOK _ _ [Res.blk sb 22 [aJ (fQ lim s f w9 ok)],Res.blk fb 4 [Value.bool (fg lim s f w9 ok)],Res.blk lb 22 [aJ lim]] _;simp only[fQ,fg,hb];exact h9⟩
  refine rn [22,2,22,5,22,55,22,42,41,0] ?_;refine zB rfl (fun h4=>?_) (fun h4=>?_)
  ·refine Re ?_;have hb:fT lim s f w9 ok=false:=by simp only[fT];simp_all;try omega
   exact dD rfl rfl fun w' a5=>⟨(),aQ,by rw[hb],by have h9:=zG (L' := [Res.blk sb 22 [aJ (s)],Res.blk fb 4 [Value.bool (f)],Res.blk lb 22 [aJ lim]]) w' a5;show WOK _ _ [Res.blk sb 22 [aJ (fQ lim s f w9 ok)],Res.blk fb 4 [Value.bool (fg lim s f w9 ok)],Res.blk lb 22 [aJ lim]] _;simp only[fQ,fg,hb];exact h9⟩
  refine Sx ?_;refine aa (zI rfl rfl rfl rfl rfl rfl rfl ?_);refine zF (b:=sb) [aJ (df [s,w9])] rfl ?_;refine aa (zI rfl rfl rfl rfl rfl rfl rfl ?_);refine zF (b:=fb) [Value.bool false] rfl (RA ?_);have hb:fT lim s f w9 ok=true:=by simp only[fT];simp_all;try omega
  exact dD rfl rfl fun w' a5=>⟨(),aQ,by rw[hb],by have h9:=zG (L' := [Res.blk sb 22 [aJ (df [s,w9])],Res.blk fb 4 [Value.bool (false)],Res.blk lb 22 [aJ lim]]) w' a5;show WOK _ _ [Res.blk sb 22 [aJ (fQ lim s f w9 ok)],Res.blk fb 4 [Value.bool (fg lim s f w9 ok)],Res.blk lb 22 [aJ lim]] _;simp only[fQ,fg,hb];exact h9⟩
 refine rn [21,21,21] ?_;refine il rfl rfl rfl ?_;refine il rfl rfl rfl (rn [21,21] ?_);refine il rfl rfl rfl ?_;refine il rfl rfl rfl ?_;refine il rfl rfl rfl (rn [21,42,0,20,12,7,1,2] ?_);refine aa (zI rfl rfl rfl rfl rfl rfl rfl ?_);refine zF (b:=sb) [aJ (df [s,w9])] rfl ?_;refine aa (zI rfl rfl rfl rfl rfl rfl rfl ?_);refine zF (b:=fb) [Value.bool false] rfl (RA ?_);have hb:fT lim s f w9 ok=true:=by simp only[fT];simp_all;try omega
 exact dD rfl rfl fun w' a5=>⟨(),aQ,by rw[hb],by have h9:=zG (L' := [Res.blk sb 22 [aJ (df [s,w9])],Res.blk fb 4 [Value.bool (false)],Res.blk lb 22 [aJ lim]]) w' a5;show WOK _ _ [Res.blk sb 22 [aJ (fQ lim s f w9 ok)],Res.blk fb 4 [Value.bool (fg lim s f w9 ok)],Res.blk lb 22 [aJ lim]] _;simp only[fQ,fg,hb];exact h9⟩
theorem oh (lim:Int) (w:World) : au (ι:=(Nat × Nat × Nat)) Tryz.prog 283 [aJ lim] w [] (fun x=>True) (fun x=>.func (.func 318) #[] [aG x.1,aG x.2.1,aG x.2.2].toArray) (fun x=>[Res.blk x.1 22 [aJ (0)],Res.blk x.2.1 4 [Value.bool (true)],Res.blk x.2.2 22 [aJ lim]]) (fun x=>[]):=by
 refine am Tryz.func283 6 (WOK.start (fps []) _) ?_;refine Ri ?_;refine aa (aq (c:=[aJ lim]) rfl rfl rfl fun b1=>rn [3,0,1] ?_);refine aa (zK rfl fun b3=>?_);refine aa (zK rfl fun b4=>?_);refine aa (zI rfl rfl rfl rfl rfl rfl rfl ?_);refine zF (b:=b3) [aJ 0] rfl ?_;refine aa (zI rfl rfl rfl rfl rfl rfl rfl ?_);refine zF (b:=b4) [Value.bool true] rfl (rn [0,1,52,3,0,11] ?_);exact dD rfl rfl fun w' a5=>⟨(b3,b4,b1),aQ,rfl,zA w' a5⟩
theorem uk (rb:bU) (lim:Int) (W:bU) (wn wc:Nat) (w:World) : au (ι:=(Nat × Nat × Nat × Nat)) Tryz.prog 231 [.pointer rb,aH 0,aJ lim,.slice W wn wc] w [] (fun x=>True) (fun x=>.func (.func 282) #[] [aG x.1,aG x.2.1,aG x.2.2.1,aG x.2.2.2].toArray) (fun x=>[Res.blk x.1 22 [aJ lim],Res.blk x.2.1 102 [Value.pointer rb],Res.blk x.2.2.1 3 [aH 0],Res.blk x.2.2.2 161 [dC W wn wc]]) (fun x=>[]):=by
 refine am Tryz.func231 10 (WOK.start (fps []) _) ?_;refine Ri ?_;refine aa (aq (c:=[Value.pointer rb]) rfl rfl rfl fun b4=>?_);refine aa (aq (c:=[aH 0]) rfl rfl rfl fun b5=>?_);refine aa (aq (c:=[aJ lim]) rfl rfl rfl fun b6=>?_);refine aa (aq (c:=[dC W wn wc]) rfl rfl rfl fun b7=>SA ?_);exact dD rfl rfl fun w' a5=>⟨(b6,b4,b5,b7),aQ,rfl,zA w' a5⟩
def dd (lim:Int) (ws:List Int):List Int->Int->Bool->List Int
 | [],_,_=>[]
 | i :: r,s,f=>if fT lim s f (ofW ws i) true then i :: dd lim ws r (fQ lim s f (ofW ws i) true) (fg lim s f (ofW ws i) true) else []
theorem Az {lim:Int} {ws l:List Int} {k:Nat} (hk:k<l.length) {s:Int} {f:Bool} (h:fT lim s f (ofW ws l[k]) true=true):dd lim ws (l.drop k) s f=l[k] :: dd lim ws (l.drop (k+1)) (fQ lim s f (ofW ws l[k]) true) (fg lim s f (ofW ws l[k]) true):=by
 rw[List.drop_eq_getElem_cons hk,dd,bZ h]
theorem nP {lim:Int} {ws l:List Int} {k:Nat} (hk:k<l.length) {s:Int} {f:Bool} (h:fT lim s f (ofW ws l[k]) true=false):dd lim ws (l.drop k) s f=[]:=by
 rw[List.drop_eq_getElem_cons hk,dd,bY (by simp[h])]
theorem sW {x:Int} (h:0<=x/\x<=18446744073709551615):df [x]=x/\eI [x]=true:=by
 have hs:([x]:List Int).sum<=18446744073709551615:=by simp;omega
 obtain⟨h1,h2⟩:=qM hs;exact⟨by rw[h2];simp,h1⟩
theorem DE {lim s w:Int} {f ok:Bool} (hs:0<=s/\s<=18446744073709551615) (hw:0<=w/\w<=18446744073709551615):0<=fQ lim s f w ok/\fQ lim s f w ok<=18446744073709551615:=by
 unfold fQ df;split
 ·split
  ·simp only[dB,List.sum_nil] at *;omega
  omega
 exact hs
theorem om (l9:Nat) (B9:List Int->Res->Prop) (r:Res) (b6 b4 b5 b7 rb:Nat) (g:Rg) (lim:Int) (W:bU) (wn wc:Nat) (ws l:List Int) (w:World) (hw:W0 [Res.blk b6 22 [aJ lim],Res.blk b4 102 [aG rb],Res.blk b5 3 [aH 0],Res.blk b7 161 [dC W wn wc],aj rb g,ah g,r] w) (hY:YOK Tryz.prog l9 (fun x:Int=>aH x) B9 (dd lim ws l 0 true)) (hB0:B9 [] r) (h:g.Rep 1 (l.map aC)) (B4:Rd w [Res.blk b6 22 [aJ lim],Res.blk b4 102 [aG rb],Res.blk b5 3 [aH 0],Res.blk b7 161 [dC W wn wc],aj rb g,ah g,r] W wn 1 (ws.map aD)) (hokw:okU ws) (T1:0<=lim/\lim<=18446744073709551615) (hln:l.length<=1000000):Ret Tryz.prog 282 [.func (.yield l9) #[] #[],aG b6,aG b4,aG b5,aG b7] w (fun _ w2=>∃r2,B9 (dd lim ws l 0 true) r2/\WOK (fps [Res.blk b6 22 [aJ lim],Res.blk b4 102 [aG rb],Res.blk b5 3 [aH 0],Res.blk b7 161 [dC W wn wc],aj rb g,ah g,r]) w [Res.blk b6 22 [aJ lim],Res.blk b4 102 [aG rb],Res.blk b5 3 [aI ((dd lim ws l 0 true).length)],Res.blk b7 161 [dC W wn wc],aj rb g,ah g,r2] w2):=by
 refine am Tryz.func282 38 hw ?_;refine rn [1,5] ?_;refine aa (zJ [] rfl (fun w1 a6 a8=>by have h7:=oh (lim) w1;exact h7) rfl ?_);rintro⟨Y5,fb10,Z2⟩ _;refine ii (rn [3,0,14] ?_);refine dP [0,2,3,4,6] (fun(x:Nat × Int × Bool × Res)=>[]) (fun(x:Nat × Int × Bool × Res)=>[Res.blk Y5 22 [aJ (x.2.1)],Res.blk fb10 4 [Value.bool (x.2.2.1)],Res.blk Z2 22 [aJ lim],Res.blk b6 22 [aJ lim],Res.blk b4 102 [aG rb],Res.blk b5 3 [aI x.1],Res.blk b7 161 [dC W wn wc],aj rb g,ah g,x.2.2.2]) (fun(x:Nat × Int × Bool × Res)=>x.1<=l.length/\B9 (l.take x.1) x.2.2.2/\(dd lim ws l 0 true)=l.take x.1++dd lim ws (l.drop x.1) x.2.1 x.2.2.1/\(0<=x.2.1/\x.2.1<=18446744073709551615)) (fun(x:Nat × Int × Bool × Res)=>l.length-x.1) (0,0,true,r) (by(try dsimp only);exact⟨aK,(by simpa using hB0),rfl,aK⟩) ?_;rintro⟨k,s,f,r1⟩ ⟨hk,hB,C8,o5⟩;replace hk:k<=l.length:=hk;replace hB:B9 (l.take k) r1:=hB;replace C8:(dd lim ws l 0 true)=l.take k++dd lim ws (l.drop k) s f:=C8;replace o5:0<=s/\s<=18446744073709551615:=o5;refine yB (L' := [Res.blk Y5 22 [aJ (s)],Res.blk fb10 4 [Value.bool (f)],Res.blk Z2 22 [aJ lim],Res.blk b6 22 [aJ lim],Res.blk b4 102 [aG rb],Res.blk b5 3 [aI k],Res.blk b7 161 [dC W wn wc],aj rb g,ah g,r1]) rfl (rn [14,1,5,5] ?_);refine aa (zN _ rfl (fun w1 a6 a8=>by exact iU rb g l _ w1 a8 h) rfl ?_);refine Sc ?_;refine zS 19 rfl (fun h1=>?_) (fun h1=>?_)
 ·have hke:k=l.length:=by have h9:=h1;rw[uV] at h9;simp at h9;omega
  have J0:dd lim ws (l.drop k) s f=[]:=by rw[hke,List.drop_length];rfl
  refine rn [21,21,21,21,21,21,21,21,21,41,2,21,21,21,21,41,0,19,11] ?_;refine zD (zL (zD (zL ?_)));have hR:(dd lim ws l 0 true)=l.take k:=by rw[C8,J0,cZ]
  have hlk:(l.take k).length=k:=by simp;omega
  exact dF rfl fun w' a5=>⟨r1,by rw[hR];exact hB,by have h9:=zG (L' := [Res.blk b6 22 [aJ lim],Res.blk b4 102 [aG rb],Res.blk b5 3 [aI k],Res.blk b7 161 [dC W wn wc],aj rb g,ah g,r1]) w' a5;rw[hR,hlk];exact h9⟩
 have w5:k<l.length:=by have h9:=h1;rw[uV] at h9;simp at h9;omega
 have hpk:pk l ((k:Nat):Int)=some l[k]:=by rw[uV,List.getElem?_eq_getElem w5]
 have hwU:=qk hokw l[k];refine ae 7 (v' := aH l[k]) rfl (by rw[hpk];rfl) (rn [22,2,22,5,22,2] ?_);refine ff rfl rfl (bg rfl rfl rfl rfl rfl fun m0=>?_);refine zF (b:=m0) ((([l[k]]:List Int).map aC).flatten) rfl ?_;refine ff rfl rfl (zH rfl (fun w1 a6=>gr W (some ⟨m0,0,none⟩) (wn) (wc) (1) (1) (ws) (([l[k]]:List Int)) w1 (Rdb.toOld B4.rdb a6) (Rdb.toOld (InL.rdb (b:=m0) (els:=(([l[k]]:List Int)).map aC) rfl aM rfl) a6) hokw bB) rfl (rn [22,40] ?_));refine ae 25 (v' := aJ (ofW ws l[k])) rfl (by rw[cV,List.map_nil,(sW hwU).1]) (rn [22,40] ?_);refine ae 26 (v' := .bool true) rfl (by rw[cV,List.map_nil,(sW hwU).2]) ?_;refine ff rfl rfl (xV [Res.blk Y5 22 [aJ (s)],Res.blk fb10 4 [Value.bool (f)],Res.blk Z2 22 [aJ lim]] rfl rfl (fun w1 a6 a8=>by have h7:=nO Y5 fb10 Z2 (s) (lim) ((ofW ws l[k])) (f) (true) w1 a8 o5 hwU;exact h7) rfl ?_);rintro⟨⟩ _;refine ii (rn [22,48,42,2] ?_);refine zS 30 rfl (fun h2=>?_) (fun h2=>?_)
 ·have F8:fT lim s f (ofW ws l[k]) true=false:=by simpa using h2
  have J0:=nP (lim:=lim) (ws:=ws) w5 F8;refine rn [21,21,21,21,41,0,19,11] ?_;refine zD (zL (zD (zL ?_)));have hR:(dd lim ws l 0 true)=l.take k:=by rw[C8,J0,cZ]
  have hlk:(l.take k).length=k:=by simp;omega
  exact dF rfl fun w' a5=>⟨r1,by rw[hR];exact hB,by have h9:=zG (L' := [Res.blk b6 22 [aJ lim],Res.blk b4 102 [aG rb],Res.blk b5 3 [aI k],Res.blk b7 161 [dC W wn wc],aj rb g,ah g,r1]) w' a5;rw[hR,hlk];exact h9⟩
 have F8:fT lim s f (ofW ws l[k]) true=true:=by simpa using h2
 have hbat2:(dd lim ws l 0 true)=l.take (k+1)++dd lim ws (l.drop (k+1)) (fQ lim s f (ofW ws l[k]) true) (fg lim s f (ofW ws l[k]) true):=by rw[C8,Az w5 F8,←cB w5,cJ];rfl
 have B6:l.take k++[l[k]] <+: (dd lim ws l 0 true):=⟨_,by rw[hbat2,←cB w5]⟩
 refine rn [22,2,22,2] ?_;refine ff rfl rfl (qr hY B6 hB rfl rfl rfl fun r9 hB9=>?_);refine⟨_,inferInstance,?_⟩;refine rn [22,48] ?_;refine zV 34 (b:=false) rfl (rfl) (rn [42,0,20,12,7,10,5,43] ?_);refine aa (zI rfl rfl rfl rfl rfl rfl rfl ?_);refine zF (b:=b5) [aI (k+1)] rfl (rn [9,15] ?_);exact xX ((k+1),(fQ lim s f (ofW ws l[k]) true),(fg lim s f (ofW ws l[k]) true),r9) (by(try dsimp only);exact⟨aK,(by rw[←cB w5];exact hB9),hbat2,(DE o5 hwU)⟩) bK (by repeat(first|exact trivial|refine⟨rfl,?_⟩)) zG
theorem sT (lim:Int) (ws:List Int):∀(l:List Int) (s:Int) (f:Bool),(dd lim ws l s f).length<=l.length
 | [],_,_=>by simp[dd]
 | i :: l,s,f=>by
  unfold dd;split
  ·have:=sT lim ws l (fQ lim s f (ofW ws i) true) (fg lim s f (ofW ws i) true);simp only[cT];omega
  simp
theorem na (rb:Nat) (g:Rg) (lim:Int) (W:bU) (wn wc:Nat) (ws l:List Int) (w:World) (hw:W0 [aj rb g,ah g] w) (h:g.Rep 1 (l.map aC)) (B4:Rd w [aj rb g,ah g] W wn 1 (ws.map aD)) (hokw:okU ws) (T1:0<=lim/\lim<=18446744073709551615) (hln:l.length<=1000000):au (ι:=(bU × Nat × Rg)) Tryz.prog 152 [aG rb,aJ lim,.slice W wn wc] w [aj rb g,ah g] (fun x=>x.2.2.Rep 1 ((l.drop (dd lim ws l 0 true).length).map aC)/\x.2.2.size=g.size) (fun x=>.slice x.1 (dd lim ws l 0 true).length x.2.1) (fun x=>[Res.row x.1 (dd lim ws l 0 true).length x.2.1 3 1 ((dd lim ws l 0 true).map aC)]) (fun x=>[aj rb x.2.2,ah x.2.2]):=by
 refine tX Tryz.func152 rfl 26 rfl aM (fps [aj rb g,ah g]) [aj rb g,ah g] hw _ rfl (rn [1,3,0,1] ?_);refine aa (zK rfl fun b7=>?_);refine zF (b:=b7) [dC none ([]:List Int).length 0] rfl ?_;refine zY none 3 1 (([]:List Int).map aC) rfl (rn [0,8,1,2,2,2] ?_);refine aa (zJ [] rfl (fun w1 a6 a8=>by have h7:=uk (some ⟨rb,0,none⟩) (lim) W (wn) (wc) w1;exact h7) rfl ?_);rintro⟨M3,M2,M4,L9⟩ _;refine ii (rn [0,14] ?_);refine ms (fst:=[]) (cap:=[aG M3,aG M2,aG M4,aG L9]) (enc:=(fun x:Int=>aH x)) (all:=(dd lim ws l 0 true)) rfl rfl [Res.blk M3 22 [aJ lim],Res.blk M2 102 [aG rb],Res.blk M4 3 [aH 0],Res.blk L9 161 [dC W wn wc],aj rb g,ah g] [Res.blk M3 22 [aJ lim],Res.blk M2 102 [aG rb],Res.blk M4 3 [aI ((dd lim ws l 0 true).length)],Res.blk L9 161 [dC W wn wc],aj rb g,ah g] [] (fun(y9:bU × Nat × List Int)=>[Res.blk b7 38 [dC y9.1 y9.2.2.length y9.2.1],Res.row y9.1 y9.2.2.length y9.2.1 3 1 (y9.2.2.map aC)]) (fun pre (y9:bU × Nat × List Int)=>y9.2.2=pre) (none,0,[]) (rfl) (fun w1 a6=>by have h9:=zG (L' := [Res.blk M3 22 [aJ lim],Res.blk M2 102 [aG rb],Res.blk M4 3 [aH 0],Res.blk L9 161 [dC W wn wc],aj rb g,ah g,Res.blk b7 38 [dC none ([]:List Int).length 0],Res.row none ([]:List Int).length 0 3 1 (([]:List Int).map aC)]) w1 a6;exact h9) (fun w1 a6=>by intro l9 B9 r9 hY9 hB9 p4 T0;have H8:WOK _ _ [Res.blk M3 22 [aJ lim],Res.blk M2 102 [aG rb],Res.blk M4 3 [aH 0],Res.blk L9 161 [dC W wn wc],aj rb g,ah g,r9] w1:=p4;exact om l9 B9 r9 M3 M2 M4 L9 rb g lim W wn wc ws l w1 T0 hY9 hB9 h (Rd.ofRd H8 B4 aK) hokw T1 hln) (fun x9=>[(8,aH x9),(7,aG b7)]) ?_ ?_ ?_
 ·rintro l9 pre x9 ⟨A9,c9,o9⟩ w9 B6 z7;refine rn [10,3,9] ?_;exact GH (by repeat(first|exact trivial|refine⟨rfl,?_⟩)) zG
 ·rintro l9 pre x9 ⟨A9,c9,o9⟩ w9 B6 z7;replace z7:o9=pre:=z7;have H9:=B6.length_le;have U0:=sT lim ws l 0 true;simp only[cQ,cT,List.length_nil] at H9;have hbl3:o9.length<=1000000:=by rw[z7];omega
  refine yB (L' := [Res.blk b7 38 [dC A9 o9.length c9],Res.row A9 o9.length c9 3 1 (o9.map aC)]) rfl (rn [14,10,5,2] ?_);refine aa (bg rfl rfl rfl rfl rfl fun I2=>?_);refine zF (b:=I2) ((([x9]:List Int).map aC).flatten) rfl ?_;refine aa (zW (A:=A9) (els:=(o9).map aC) (news:=(([x9]:List Int).map aC)) rfl rfl (InL.rdb (b:=I2) rfl aM rfl) (zZ (c:=aC) (by intro x;simp[Value.oneCell']) _) aK rfl fun A17 y5=>⟨_,inferInstance,?_⟩);refine zC (A:=A17) (((o9++[x9])).map aC) (by first|rfl|exact cA.symm|(simp;done)) ?_;refine aa (zI rfl rfl rfl rfl rfl rfl rfl (rn [9,15] ?_));refine zR (A:=A17) ((o9++[x9]):List Int).length aM ?_;refine zF (b:=b7) [dC A17 ((o9++[x9]):List Int).length y5] (by simp[ay]) ?_;exact qu (fun w2 u2=>⟨(A17,y5,(o9++[x9]:List Int)),by show o9++[x9]=pre++[x9];rw[z7],by have h9:=zG (L' := [Res.blk b7 38 [dC A17 (o9++[x9]:List Int).length y5],Res.row A17 (o9++[x9]:List Int).length y5 3 1 ((o9++[x9]:List Int).map aC)]) w2 u2;exact h9⟩)
 rintro⟨A9,c9,o9⟩ z7 m9;refine yB (L' := [Res.obj m9 (.deferred (some [])),Res.blk M3 22 [aJ lim],Res.blk M2 102 [aG rb],Res.blk M4 3 [aI ((dd lim ws l 0 true).length)],Res.blk L9 161 [dC W wn wc],aj rb g,ah g,Res.blk b7 38 [dC A9 o9.length c9],Res.row A9 o9.length c9 3 1 (o9.map aC)]) rfl ?_;replace z7:o9=(dd lim ws l 0 true):=z7;have U0:=sT lim ws l 0 true;have hbl3:o9.length<=l.length:=by rw[z7];exact U0
 refine rn [15,7,8,1,5,47,2,0,14] ?_;refine dP [0,6,7,19] (fun(x:Nat × Rg)=>[(20,aI x.1)]) (fun(x:Nat × Rg)=>[Res.obj m9 (.deferred (some [])),Res.blk b7 38 [dC A9 o9.length c9],Res.row A9 o9.length c9 3 1 (o9.map aC),aj rb x.2,ah x.2]) (fun(x:Nat × Rg)=>x.1<=o9.length/\(x.2).Rep 1 ((l.drop x.1).map aC)/\(x.2).size=g.size) (fun(x:Nat × Rg)=>o9.length-x.1) (0,g) (by(try dsimp only);exact⟨cN _,(by simpa using h),rfl⟩) ?_;rintro⟨i,g1⟩ ⟨y1,hr,hz⟩;replace y1:i<=o9.length:=y1;replace hr:(g1).Rep 1 ((l.drop i).map aC):=hr;replace hz:(g1).size=g.size:=hz;refine yB (L' := [Res.obj m9 (.deferred (some [])),Res.blk b7 38 [dC A9 o9.length c9],Res.row A9 o9.length c9 3 1 (o9.map aC),aj rb g1,ah g1]) rfl ?_;refine ae 20 (v' := aI i) rfl rfl (Rj ?_);refine zB rfl (fun h1=>?_) (fun h1=>?_)
 ·have H5:i<o9.length:=by have h9:=bW h1;omega
  refine rn [12,7,8,14,10,2] ?_;refine aa (zJ _ rfl (fun w1 a6 a8=>by have h7:=yq rb g1 (l.drop i) w1 a8 hr;exact h7) rfl ?_);rintro g23 ⟨r23,s23⟩;refine ii (RS ?_);exact cr ((i+1),g23) (by(try dsimp only);exact⟨aN,(by have h9:=r23;simpa using h9),aK⟩)
 have F6:i=o9.length:=by have h9:=bX h1;omega
 refine Ru ?_;refine zE (zE (zQ (rn [7,1,5,3,0,11] ?_)));subst z7;rw[F6] at hr;exact nB rfl (.tmp rfl) (fun w' a5 => ⟨(A9,c9,g1),(by first|exact⟨hr,hz⟩|(dsimp only;exact⟨hr,hz⟩)),rfl,by have h9:=zG (L' := [Res.row ((A9,c9,g1)).1 (dd lim ws l 0 true).length ((A9,c9,g1)).2.1 3 1 ((dd lim ws l 0 true).map aC),aj rb ((A9,c9,g1)).2.2,ah ((A9,c9,g1)).2.2]) w' a5;exact h9⟩) _ (.inl rfl)
end Go.Proofs.YtdddiilocbbkkaaGreat
