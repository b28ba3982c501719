/- TopModel, part 6. No condition. -/
import Derived.Test.YtdddiilocbbkkaaGreatTN5
set_option linter.unusedVariables false
set_option linter.unusedSimpArgs false
namespace Go.Proofs.YtdddiilocbbkkaaGreat
open Go.RowKit Go.Eg
set_option maxHeartbeats 4000000
set_option synthInstance.maxSize 3000
set_option maxRecDepth 100000
structure M.ok (m:M):Prop where
 g:0≤m.g∧m.g≤18446744073709551615
 t:0≤m.t∧m.t≤18446744073709551615
 d:0≤m.d∧m.d≤18446744073709551615
 bf:0≤m.bf∧m.bf≤18446744073709551615
def R.of (m:M):R:=⟨m.bal,m.spent,m.g,m.t,m.d⟩
theorem kM (n:Int):UU n=n%18446744073709551616:=cF n
theorem Gd:M0.ok:=⟨aO,aO,aO,aO⟩
theorem R.ext {a b:R} (h1:a.b=b.b) (h2:a.s=b.s) (h3:a.g=b.g) (h4:a.t=b.t) (h5:a.d=b.d):a=b:=by
 cases a;cases b;simp_all
theorem zb {m:M} (h:m.ok) {x:Int} (hx:0≤x):(R.of m).grant x=R.of (m.grant x):=by
 obtain⟨h1,h2,h3,h4⟩:=h;apply R.ext<;>simp only[R.of,R.grant,M.grant,M.bal,M.spent,kM]<;>omega
theorem CK {m:M} (h:m.ok) {x:Int} (hx:0≤x):(R.of m).take x=R.of (m.take x):=by
 obtain⟨h1,h2,h3,h4⟩:=h;unfold R.take M.take;by_cases hb:m.bal<x
 ·rw[bZ hb,bZ (show(R.of m).b<x from hb)]
 rw[bY hb,bY (show¬(R.of m).b<x from hb)];apply R.ext<;>simp only[R.of,M.bal,M.spent,kM] at * <;> omega
theorem CL {m:M} (h:m.ok):(R.of m).drop=R.of m.drop:=by
 obtain⟨h1,h2,h3,h4⟩:=h;apply R.ext<;>simp only[R.of,R.drop,M.drop,M.bal,M.spent,kM]<;>omega
theorem AO {m:M} (h:m.ok) (x:Int):(m.grant x).ok:=by
 obtain⟨h1,h2,h3,h4⟩:=h;constructor<;>simp only[M.grant,kM]<;>omega
theorem Bb {m:M} (h:m.ok) (x:Int):(m.take x).ok:=by
 unfold M.take;split
 ·exact h
 obtain⟨h1,h2,h3,h4⟩:=h;constructor<;>simp only[kM]<;>omega
theorem Cv {m:M} (h:m.ok):m.drop.ok:=by
 obtain⟨h1,h2,h3,h4⟩:=h;constructor<;>simp only[M.drop,kM]<;>omega
def dw (W:List Int) (e:Int):Nat→LL→M→List As→List As × LL × M
 | 0,q,m,out=>(out,q,m)
 | n+1,q,m,out=>if dQ q=false then(out,q,m.drop) else if m.bal<ofW W (cd q) then(out,q,m) else dw W e n (de q) (m.take (ofW W (cd q))) (out++[⟨cd q,dL q,e+1⟩])
def Ξ (W:List Int) (e lim:Int) (q:LL) (m:M):List As × LL × M:=dw W e (fI q+1) q (m.grant lim) []
theorem hQ {W:List Int} {e:Int} {n:Nat} {q:LL} {m:M} {out:List As} (h:dQ q=false):dw W e (n+1) q m out=(out,q,m.drop):=by rw[dw,bZ h]
theorem pN {W:List Int} {e:Int} {n:Nat} {q:LL} {m:M} {out:List As} (h:dQ q=true) (h2:m.bal<ofW W (cd q)):dw W e (n+1) q m out=(out,q,m):=by rw[dw,bY (by simp[h]),bZ h2]
theorem ja {W:List Int} {e:Int} {n:Nat} {q:LL} {m:M} {out:List As} (h:dQ q=true) (h2:¬m.bal<ofW W (cd q)):dw W e (n+1) q m out=dw W e n (de q) (m.take (ofW W (cd q))) (out++[⟨cd q,dL q,e+1⟩]):=by rw[dw,bY (by simp[h]),bY h2]
theorem EY {W:List Int} (h:∀x∈W,0≤x) (i:Int):0≤ofW W i:=by
 unfold ofW;split
 ·omega
 rename_i hi;have hj:i.toNat<W.length:=by omega
 rw[List.getElem?_eq_getElem hj];exact h _ (cC hj)
theorem jZ {W:List Int} {e:Int} (hW:∀x∈W,0≤x):∀{n:Nat} {q:LL} {m:M} {out:List As},m.ok→fe W e n q (R.of m) out=((dw W e n q m out).1,(dw W e n q m out).2.1,R.of (dw W e n q m out).2.2)∧(dw W e n q m out).2.2.ok
 | 0,q,m,out,h=>⟨rfl,h⟩
 | n+1,q,m,out,h=>by
  unfold fe dw;split
  ·exact⟨by rw[CL h],Cv h⟩
  rw[show(R.of m).b=m.bal from rfl];split
  ·exact⟨rfl,h⟩
  rw[CK h (EY hW _)];exact jZ hW (Bb h _)
theorem ld {W:List Int} {e lim:Int} {q:LL} {m:M} (hW:∀x∈W,0≤x) (hl:0≤lim) (h:m.ok):eg W e lim q (R.of m)=((Ξ W e lim q m).1,(Ξ W e lim q m).2.1,R.of (Ξ W e lim q m).2.2)∧(Ξ W e lim q m).2.2.ok:=by
 unfold eg Ξ;rw[zb h hl];exact jZ hW (AO h lim)
theorem hO {W:List Int} {e:Int}:∀{n:Nat} {q:LL} {m:M} {out:List As},(dw W e n q m out).2.1.f.length≤q.f.length∧(dw W e n q m out).2.1.v.length≤q.v.length∧(dw W e n q m out).1.length≤out.length+n
 | 0,_,_,_=>by simp[dw]
 | n+1,q,m,out=>by
  unfold dw;split
  ·simp
  split
  ·simp
  have h1:=hO (W:=W) (e:=e) (n:=n) (q:=de q) (m:=m.take (ofW W (cd q))) (out:=out++[⟨cd q,dL q,e+1⟩]);have h2:=iR q;simp only[cQ,cT,List.length_nil] at h1;omega
theorem qQ {W:List Int} {e lim:Int} {q:LL} {m:M} {sz:Nat} (h:q.f.length≤sz∧q.v.length≤sz):(Ξ W e lim q m).2.1.f.length≤sz∧(Ξ W e lim q m).2.1.v.length≤sz:=by
 have:=hO (W:=W) (e:=e) (n:=fI q+1) (q:=q) (m:=m.grant lim) (out:=[]);unfold Ξ;omega
theorem tT (mb:Nat) (m:M) (w:World) (hw:W0 [Res.blk mb 186 (M.c m)] w) : du Tryz.prog 99 [aG mb] w [Res.blk mb 186 (M.c m)] (aJ m.bal):=by
 refine Γ Tryz.func99 20 hw ?_;refine SZ ?_;refine bn [] an rfl (rn [23,0,2,23,1,6,23,2,4,23,3,4,23,4,5,23,5,2,23,6,6,23,7,4,23,8,4,23,9,5,23,10,57,23,11,2,23,12,6,23,13,4,23,14,4,23,15,5,23,16,57,23,17,3,27,7,11] ?_);exact dD rfl rfl fun w' a5=>⟨(),trivial,by first|rfl|(simp_all;done),zA w' a5⟩
theorem tm (mb:Nat) (m:M) (w:World) (hw:W0 [Res.blk mb 186 (M.c m)] w) : du Tryz.prog 315 [aG mb] w [Res.blk mb 186 (M.c m)] (aJ (UU (18446744073709551615-m.bal))):=by
 refine Γ Tryz.func315 6 hw ?_;refine Sq ?_;refine aa (zN _ rfl (fun w1 a6 a8=>by exact tT mb m w1 a8) rfl ?_);refine rn [57,3,0,11] ?_;exact dD rfl rfl fun w' a5=>⟨(),trivial,by first|rfl|(simp_all;done),zA w' a5⟩
theorem AN (a b:Int) (w:World) : Pur Tryz.prog 316 [aJ a,aJ b] w (.tuple [aJ (if a<b then 0 else UU (a-b)),.bool (!decide (a<b))].toArray):=by
 refine Γ Tryz.func316 12 (WOK.start [] _) ?_;refine rn [1,3,3,0,8,1,2,2,55,0] ?_;refine zB rfl (fun h1=>?_) (fun h1=>?_)
 ·refine RL ?_;exact dE rfl rfl rfl fun w' a5=>⟨by simp at h1;rw[bZ aK,cX aK];rfl,a5.upd⟩
 refine rn [12,7,1,2,2,57,3,3,0,11] ?_;exact dE rfl rfl rfl fun w' a5=>⟨by simp at h1;rw[bY aK,cY aK];rfl,a5.upd⟩
theorem oJ (mb:Nat) (m:M) (y:Int) (w:World) (hw:W0 [Res.blk mb 186 (M.c m)] w) : au (ι:=Unit) Tryz.prog 276 [aG mb,aJ y] w [Res.blk mb 186 (M.c m)] (fun x=>True) (fun x=>.int .u64 (m.grant y).bal) (fun x=>[]) (fun x=>[Res.blk mb 186 (M.c (m.grant y))]):=by
 refine Γ Tryz.func276 37 hw ?_;refine RT ?_;refine bn [17] an rfl (rn [23,0,2,23,1,6,23,2,4,23,3,4,23,4,4,23,5,5,23,6,2,23,7,2,23,8,6,23,9,4] ?_);refine dop 10 rfl (zN _ rfl (fun w1 a6 a8=>by exact tm mb m w1 a8) rfl ?_);refine rn [23,11,58,23,12,54,24,13,6,24,14,4,24,15,4,23,16,4] ?_;refine dop 17 rfl (zI (c' := M.c ⟨UU (m.g+min y (UU (18446744073709551615-m.bal))),m.t,m.d,m.bf⟩) rfl rfl rfl rfl rfl rfl rfl (rn [28,7,1,2,2,6,4,4,4,5,6,4] ?_));refine aa (zI (c' := M.c (m.grant y)) rfl rfl rfl rfl rfl rfl rfl (rn [0,1,2,6,4] ?_));refine aa (zN _ rfl (fun w1 a6 a8=>by exact tT mb (m.grant y) w1 a8) rfl ?_);refine Rb ?_;exact dD rfl rfl fun w' a5=>⟨(),aQ,rfl,zA w' a5⟩
theorem tl (mb:Nat) (m:M) (y:Int) (w:World) (hw:W0 [Res.blk mb 186 (M.c m)] w) : au (ι:=Unit) Tryz.prog 277 [aG mb,aJ y] w [Res.blk mb 186 (M.c m)] (fun x=>True) (fun x=>.bool (!decide (m.bal<y))) (fun x=>[]) (fun x=>[Res.blk mb 186 (M.c (m.take y))]):=by
 refine Γ Tryz.func277 32 hw ?_;refine rn [1,3,0,8,1,2,50,0,20,12,7,8,1,2,6,4] ?_;refine aa (zN _ rfl (fun w1 a6 a8=>by exact tT mb m w1 a8) rfl ?_);refine SD ?_;refine aa (zH rfl (fun w1 a6=>AN ((M.bal m)) (y) w1) rfl (rn [2,40,40,3,3,0,1,2,48,0] ?_));refine zB rfl (fun h1=>?_) (fun h1=>?_)
 ·refine Re ?_;have e7:m.take y=m:=bZ (by simp at h1;omega);exact dD rfl rfl fun w' a5=>⟨(),aQ,by simp at h1;simp;omega,by rw[e7];exact zA w' a5⟩
 refine rn [12,7,1,2,6,4,4,4,5,2,54,6,4,4,4] ?_;refine aa (zI (c' := M.c ⟨m.g,UU (m.t+y),m.d,m.bf⟩) rfl rfl rfl rfl rfl rfl rfl (RA ?_));have e7:m.take y=⟨m.g,UU (m.t+y),m.d,m.bf⟩:=bY (by simp at h1;omega);exact dD rfl rfl fun w' a5=>⟨(),aQ,by simp at h1;simp;omega,by rw[e7];exact zA w' a5⟩
theorem tn (mb:Nat) (m:M) (w:World) (hw:W0 [Res.blk mb 186 (M.c m)] w) : au (ι:=Unit) Tryz.prog 280 [aG mb] w [Res.blk mb 186 (M.c m)] (fun x=>True) (fun x=>.int .u64 m.bal) (fun x=>[]) (fun x=>[Res.blk mb 186 (M.c m.drop)]):=by
 refine Γ Tryz.func280 23 hw ?_;refine Sj ?_;refine aa (zN _ rfl (fun w1 a6 a8=>by exact tT mb m w1 a8) rfl ?_);refine rn [3,0,1,2,6,4,4,4,5,2,54,6,4,4,4] ?_;refine aa (zI (c' := M.c m.drop) rfl rfl rfl rfl rfl rfl rfl (SJ ?_));exact dD rfl rfl fun w' a5=>⟨(),aQ,rfl,zA w' a5⟩
theorem kn (mb:Nat) (m:M) (w:World) (hw:W0 [Res.blk mb 186 (M.c m)] w) : du Tryz.prog 54 [aG mb] w [Res.blk mb 186 (M.c m)] (aJ m.bal):=by
 refine Γ Tryz.func54 9 hw ?_;refine Sj ?_;refine aa (zN _ rfl (fun w1 a6 a8=>by exact tT mb m w1 a8) rfl ?_);refine Rb ?_;exact dD rfl rfl fun w' a5=>⟨(),trivial,by first|rfl|(simp_all;done),zA w' a5⟩
theorem zo (w:World) : au (ι:=Nat) Tryz.prog 38 [] w [] (fun x=>True) (fun x=>.pointer (some ⟨x,0,none⟩)) (fun x=>[Res.blk x 186 (M.c M0)]) (fun x=>[]):=by
 refine Γ Tryz.func38 3 (WOK.start (fps []) _) ?_;refine rn [1,3,0,1] ?_;refine s_q (yF (c:=M.c M0) rfl rfl) rfl ?_;refine aa (aq (c:=M.c M0) rfl rfl rfl fun b2=>Rb ?_);exact dD rfl rfl fun w' a5=>⟨b2,aQ,rfl,zA w' a5⟩
theorem ux (A:bU) (n cap:Nat) (l:List Int) (i:Int) (w:World) (ha:Old w A n 1 (l.map aD)):Pur Tryz.prog 245 [.slice A n cap,aH i] w (aJ (ofW l i)):=by
 refine Γ Tryz.func245 17 (WOK.start [] _) ?_;refine rn [1,3,0,8,1,2,46,2] ?_;refine zS 7 rfl (fun h1=>?_) (fun h1=>?_)
 ·refine Sp ?_;exact dD rfl rfl fun w' a5=>⟨by rw[kk (by first|exact .inl (bW h1)|(have h8:=ha.len;simp only[cU] at h8;simp_all;omega))],a5.upd⟩
 refine RU ?_;refine zB rfl (fun h2=>?_) (fun h2=>?_)
 ·refine Re ?_;exact dD rfl rfl fun w' a5=>⟨by rw[kk (.inr (by have h8:=ha.len;simp only[cU] at h8;have h7:=bW h2;omega))],a5.upd⟩
 have hn:n=l.length:=by simpa using ha.len
 have h9:¬i<0∧¬(l.length:Int)≤i:=⟨bX h1,by have h7:=bX h2;omega⟩
 obtain⟨j,rfl⟩:∃j:Nat,i=j:=⟨i.toNat,aK⟩
 have hj:j<l.length:=by omega
 refine SQ ?_;refine s_q (zM (i:=j) rfl rfl rfl (ha.rdb rfl) aS) rfl ?_;refine s_q (zX (i:=j) (o:=0) rfl (ha.rdb rfl) (zP aN) rfl rfl) rfl (Rb ?_);exact dD rfl rfl fun w' a5=>⟨by rw[zd hj],a5.upd⟩
theorem um (e lim:Int) (bl b0 b1 mb:Nat) (g0 g1:Rg) (q:LL) (sz:Nat) (m:M) (W:bU) (wn wc:Nat) (l:List Int) (w:World) (hw:W0 [bL_ bl b0 b1,aj b0 g0,ah g0,aj b1 g1,ah g1,Res.blk mb 186 (M.c m)] w) (h0:g0.Rep 1 ((q).f.map aC)) (hh1:g1.Rep 1 ((q).v.map aC)) (s0:Rg.size g0=sz) (s1:Rg.size g1=sz) (j4:sz≤4096) (hq:q.f.length≤sz∧q.v.length≤sz) (B4:Rd w [bL_ bl b0 b1,aj b0 g0,ah g0,aj b1 g1,ah g1,Res.blk mb 186 (M.c m)] W wn 1 (l.map aD)) (he9:-1000000≤e∧e≤1000000000000000):au (ι:=(bU × Nat × Rg × Rg)) Tryz.prog 229 [aH e,aG bl,aG mb,aJ lim,.slice W wn wc] w [bL_ bl b0 b1,aj b0 g0,ah g0,aj b1 g1,ah g1,Res.blk mb 186 (M.c m)] (fun x=>x.2.2.1.Rep 1 ((Ξ l e lim q m).2.1.f.map aC)∧x.2.2.2.Rep 1 ((Ξ l e lim q m).2.1.v.map aC)∧x.2.2.1.size=sz∧x.2.2.2.size=sz) (fun x=>.slice x.1 (Ξ l e lim q m).1.length x.2.1) (fun x=>[Res.row x.1 ((Ξ l e lim q m).1).length x.2.1 55 3 (((Ξ l e lim q m).1).map As.cs)]) (fun x=>[bL_ bl b0 b1,aj b0 x.2.2.1,ah x.2.2.1,aj b1 x.2.2.2,ah x.2.2.2,Res.blk mb 186 (M.c (Ξ l e lim q m).2.2)]):=by
 refine Γ Tryz.func229 62 hw ?_;refine rn [1,3,0,8,1,2,50,2,22,2,22,50,42,0,20,12,7,1,2,2] ?_;refine aa (zJ _ rfl (fun w1 a6 a8=>by have h7:=oJ mb m (lim) w1 a8;exact h7) rfl ?_);rintro⟨⟩ _;refine ii (rn [0,1,2,52,3,0,1,3] ?_);refine xA 12 55 3 rfl fun Az1 capz1 hcz1=>?_;refine zC (A:=Az1) (([]:List As).map As.cs) rfl (rn [0,1,2] ?_);refine aa (zN _ rfl (fun w1 a6 a8=>by exact mn bl b0 b1 g0 g1 q sz w1 a8 h0 hh1 s0 s1 aK) rfl ?_);refine rn [2,40,40,40,3,3,3,0,8,14] ?_;refine dP [0,1,2,4,10,11] (fun(x:bU × Nat × List As × LL × M × Rg × Rg)=>[(12,.slice x.1 x.2.2.1.length x.2.1),(13,aH (cd x.2.2.2.1)),(14,aH (dL x.2.2.2.1)),(15,.bool (dQ x.2.2.2.1))]) (fun(x:bU × Nat × List As × LL × M × Rg × Rg)=>[Res.row x.1 (x.2.2.1).length x.2.1 55 3 ((x.2.2.1).map As.cs),bL_ bl b0 b1,aj b0 x.2.2.2.2.2.1,ah x.2.2.2.2.2.1,aj b1 x.2.2.2.2.2.2,ah x.2.2.2.2.2.2,Res.blk mb 186 (M.c x.2.2.2.2.1)]) (fun(x:bU × Nat × List As × LL × M × Rg × Rg)=>(Ξ l e lim q m)=dw l e (fI x.2.2.2.1+1) x.2.2.2.1 x.2.2.2.2.1 x.2.2.1∧(x.2.2.2.2.2.1).Rep 1 ((x.2.2.2.1).f.map aC)∧(x.2.2.2.2.2.2).Rep 1 ((x.2.2.2.1).v.map aC)∧(x.2.2.2.2.2.1).size=sz∧(x.2.2.2.2.2.2).size=sz∧(x.2.2.1).length+fI x.2.2.2.1=fI q∧((x.2.2.2.1).f.length≤sz∧(x.2.2.2.1).v.length≤sz)) (fun(x:bU × Nat × List As × LL × M × Rg × Rg)=>fI x.2.2.2.1) (Az1,capz1,[],q,(M.grant m lim),g0,g1) (by(try dsimp only);exact⟨rfl,h0,hh1,s0,s1,aM,hq⟩) ?_;rintro⟨A,cap,out,p,m1,p0,p1⟩ ⟨hs,r0,r1,z0,z1,hl,hp⟩;replace hs:(Ξ l e lim q m)=dw l e (fI p+1) p m1 out:=hs;replace r0:(p0).Rep 1 ((p).f.map aC):=r0;replace r1:(p1).Rep 1 ((p).v.map aC):=r1;replace z0:(p0).size=sz:=z0;replace z1:(p1).size=sz:=z1;replace hl:(out).length+fI p=fI q:=hl;replace hp:(p).f.length≤sz∧(p).v.length≤sz:=hp;refine yB (L' := [Res.row A (out).length cap 55 3 ((out).map As.cs),bL_ bl b0 b1,aj b0 p0,ah p0,aj b1 p1,ah p1,Res.blk mb 186 (M.c m1)]) rfl ?_;refine ae 12 (v' := .slice A out.length cap) rfl rfl ?_;refine ae 13 (v' := aH (cd p)) rfl rfl ?_;refine ae 14 (v' := aH (dL p)) rfl rfl ?_;refine ae 15 (v' := .bool (dQ p)) rfl rfl ?_;have hlq:fI q≤8192:=by unfold fI;omega
 refine rn [8,1,2,2] ?_;refine zS 34 rfl (fun h1=>?_) (fun h1=>?_)
 ·have hB:dQ p=true:=by simpa using h1
  refine rn [22,2,22,2,22,2] ?_;refine ff rfl rfl (zH rfl (fun w1 a6=>ux W (wn) (wc) (l) ((cd p)) w1 (Rdb.toOld B4.rdb a6)) rfl ?_);refine ff rfl rfl (xV [Res.blk mb 186 (M.c m1)] rfl rfl (fun w1 a6 a8=>by have h7:=tl mb m1 ((ofW l ((cd p)))) w1 a8;exact h7) rfl ?_);rintro⟨⟩ _;refine ii (rn [41,0] ?_);refine zB rfl (fun h2=>?_) (fun h2=>?_)
  ·have hT:¬m1.bal<ofW l (cd p):=by simpa using h2
   refine rn [12,7,14,1,2] ?_;refine aa (zJ _ rfl (fun w1 a6 a8=>by have h7:=CC bl b0 b1 p0 p1 p sz w1 a8 r0 r1 z0 z1 aK;exact h7) rfl ?_);rintro⟨g42,gg42⟩ ⟨r42,rr42,s42,ss42⟩;refine ii ?_;simp only at r42 rr42 s42 ss42;refine rn [0,1,2,2,2,2] ?_;refine s_q (yI (z:=e+1) rfl rfl (dY aK aK)) rfl (rn [49] ?_);refine aa (bg rfl rfl rfl rfl rfl fun b49=>?_);refine zF (b:=b49) ((([(As.mk (cd p) (dL p) (e+1))]:List As).map As.cs).flatten) rfl ?_;refine aa (zW (A:=A) (els:=(out).map As.cs) (news:=(([(As.mk (cd p) (dL p) (e+1))]:List As).map As.cs)) rfl rfl (InL.rdb (b:=b49) rfl (by simp[As.cs]) rfl) (zZ (c:=As.cs) (by intro x;simp[As.cs,Value.oneCell']) _) aR rfl fun A50 cap50=>⟨_,inferInstance,?_⟩);refine zC (A:=A50) (((out++[(As.mk (cd p) (dL p) (e+1))])).map As.cs) (by first|rfl|exact cA.symm|(simp;done)) (rn [3,0,10,2] ?_);refine aa (zN _ rfl (fun w1 a6 a8=>by exact mn bl b0 b1 g42 gg42 (de p) sz w1 a8 r42 rr42 s42 ss42 aK) rfl ?_);refine rn [2,40,40,40,3,3,3,9,15] ?_;refine zR (A:=A50) ((out++[(As.mk (cd p) (dL p) (e+1))])).length aM ?_;refine ae 12 (v' := .slice A50 ((out++[(As.mk (cd p) (dL p) (e+1))])).length cap50) rfl aM ?_;exact xX (A50,cap50,(out++[(As.mk (cd p) (dL p) (e+1))]),(de p),(M.take m1 ((ofW l ((cd p))))),g42,gg42) (by(try dsimp only);exact⟨(by rw[←ja hB hT,sH hB];exact hs),r42,rr42,s42,ss42,(by have h9:=sH hB;simp only[cQ,cT,List.length_nil];omega),(by have h9:=iR p;omega)⟩) (by have h9:=sH hB;dsimp only;omega) (by repeat(first|exact trivial|refine⟨rfl,?_⟩)) zG
  have hT:m1.bal<ofW l (cd p):=by simpa using h2
  have hR:(Ξ l e lim q m)=(out,p,m1.take (ofW l (cd p))):=by rw[hs,pN hB hT,show m1.take (ofW l (cd p))=m1 from bZ hT]
  refine Ru ?_;refine zE (zE (zQ (rn [7,8,1,2] ?_)));refine zV 57 (b:=true) rfl (hB) (rn [48,0,20,12,7,1,2,3,0,11] ?_);exact dD rfl rfl fun w' a5=>⟨(A,cap,p0,p1),(by(rw[hR];exact⟨r0,r1,z0,z1⟩)),by rw[hR],by rw[hR];exact zA w' a5⟩
 have hB:dQ p=false:=by simpa using h1
 have hR:(Ξ l e lim q m)=(out,p,m1.drop):=by rw[hs,hQ hB]
 refine rn [21,21,21,21,21,42,0,20,16] ?_;refine zE (zE (zQ (rn [7,8,1,2] ?_)));refine zV 57 (b:=false) rfl (hB) (rn [48,0,19,10,2] ?_);refine aa (zJ _ rfl (fun w1 a6 a8=>by have h7:=tn mb m1 w1 a8;exact h7) rfl ?_);rintro⟨⟩ _;refine ii (SJ ?_);exact dD rfl rfl fun w' a5=>⟨(A,cap,p0,p1),(by(rw[hR];exact⟨r0,r1,z0,z1⟩)),by rw[hR],by rw[hR];exact zA w' a5⟩
theorem qk {l:List Int} (h:okU l) (i:Int):0≤ofW l i∧ofW l i≤18446744073709551615:=by
 unfold ofW;split
 ·omega
 rename_i hi;have hj:i.toNat<l.length:=by omega
 rw[List.getElem?_eq_getElem hj];exact h _ (cC hj)
theorem ki {l is:List Int} (h:okU l):okU (is.map (ofW l)):=by
 intro x hx;obtain⟨i,_,rfl⟩:=cG.1 hx;exact qk h i
theorem gr (A B9:bU) (n1 c1 n2 c2:Nat) (l is:List Int) (w:World) (ha:Old w A n1 1 (l.map aD)) (hb:Old w B9 n2 1 (is.map aC)) (hl:okU l) (I8:n2≤100000):Pur Tryz.prog 167 [.slice A n1 c1,.slice B9 n2 c2] w (.tuple [aJ (df (is.map (ofW l))),.bool (eI (is.map (ofW l)))].toArray):=by
 refine Γ Tryz.func167 26 (WOK.start [] _) ?_;have e1:n1=l.length:=by simpa using ha.len
 have e2:n2=is.length:=by simpa using hb.len
 refine rn [1,3,3,0,1,3] ?_;refine xA 6 22 1 rfl fun Az1 capz1 hcz1=>?_;refine zC (A:=Az1) (([]:List Int).map aD) rfl (rn [0,8,1,2,47,2,0,14] ?_);refine dP [0,4,5,9,10] (fun(x:Nat × bU × Nat × List Int)=>[(6,.slice x.2.1 x.2.2.2.length x.2.2.1),(11,aI x.1)]) (fun(x:Nat × bU × Nat × List Int)=>[Res.row x.2.1 (x.2.2.2).length x.2.2.1 22 1 ((x.2.2.2).map aD)]) (fun(x:Nat × bU × Nat × List Int)=>x.1≤n2∧x.2.2.2=(is.take x.1).map (ofW l)) (fun(x:Nat × bU × Nat × List Int)=>n2-x.1) (0,Az1,capz1,[]) (by(try dsimp only);exact⟨cN _,aM⟩) ?_;rintro⟨k,B,bc,o⟩ ⟨f6,ho⟩;replace f6:k≤n2:=f6;replace ho:o=(is.take k).map (ofW l):=ho;refine yB (L' := [Res.row B (o).length bc 22 1 ((o).map aD)]) rfl ?_;refine ae 6 (v' := .slice B o.length bc) rfl rfl ?_;refine ae 11 (v' := aI k) rfl rfl ?_;have hol:o.length=min k n2:=by rw[ho];simp[e2]
 refine Rj ?_;refine zB rfl (fun h1=>?_) (fun h1=>?_)
 ·have f8:k<n2:=by have h9:=bW h1;omega
  refine Ry ?_;refine s_q (zM (i:=k) rfl rfl rfl (hb.rdb rfl) aN) rfl ?_;refine s_q (zX (i:=k) (o:=0) rfl (hb.rdb rfl) (zP aX) rfl rfl) rfl (rn [3,0,10,2,2,2] ?_);refine aa (zH rfl (fun w1 a6=>ux A (n1) (c1) (l) _ w1 (Rdb.toOld (ha.rdb rfl) a6)) rfl ?_);refine aa (bg rfl rfl rfl rfl rfl fun j2=>?_);refine zF (b:=j2) ((([(ofW l (is[k]))]:List Int).map aD).flatten) rfl ?_;refine aa (zW (A:=B) (els:=(o).map aD) (news:=(([(ofW l (is[k]))]:List Int).map aD)) rfl rfl (InL.rdb (b:=j2) rfl aM rfl) (zZ (c:=aD) (by intro x;simp[Value.oneCell']) _) aR rfl fun A20 cap20=>⟨_,inferInstance,?_⟩);refine zC (A:=A20) (((o++[(ofW l (is[k]))])).map aD) (by first|rfl|exact cA.symm|(simp;done)) (Rx ?_);refine zR (A:=A20) ((o++[(ofW l (is[k]))])).length aM ?_;refine ae 6 (v' := .slice A20 ((o++[(ofW l (is[k]))])).length cap20) rfl aM ?_;exact cr ((k+1),A20,cap20,(o++[(ofW l (is[k]))])) (by(try dsimp only);exact⟨aN,(by rw[←cB (show k<is.length by omega),cA,ho];rfl)⟩)
 have f9:k=n2:=by have h9:=bX h1;omega
 refine Ru ?_;refine zE (zE (zQ (rn [7,1,2] ?_)));refine aa (zH rfl (fun w1 a6=>vZ B (o.length) (bc) (o) w1 (Rdb.toOld (ird (A:=B)) a6) (by rw[ho];exact ki hl) bB) rfl ?_);refine rn [40,40,3,3,0,11] ?_;exact dE rfl rfl rfl fun w' a5=>⟨by have e8:o=is.map (ofW l):=(by rw[ho,f9,e2,cI]);rw[e8],a5.upd⟩
theorem pP (A B9:bU) (n1 c1 n2 c2:Nat) (l is:List Int) (w:World) (ha:Old w A n1 1 (l.map aD)) (hb:Old w B9 n2 1 (is.map aC)) (hl:okU l) (I8:n2≤100000):Pur Tryz.prog 257 [.slice A n1 c1,.slice B9 n2 c2] w (.tuple [aJ (df (is.map (ofW l))),.bool (eI (is.map (ofW l)))].toArray):=by
 refine Γ Tryz.func257 27 (WOK.start [] _) ?_;have e1:n1=l.length:=by simpa using ha.len
 have e2:n2=is.length:=by simpa using hb.len
 refine rn [1,3,3,0,1,3] ?_;refine xA 6 22 1 rfl fun Az1 capz1 hcz1=>?_;refine zC (A:=Az1) (([]:List Int).map aD) rfl (rn [0,8,1,3,0,14] ?_);refine dP [0,1,4,5] (fun(x:Nat × bU × Nat × List Int)=>[(6,.slice x.2.1 x.2.2.2.length x.2.2.1),(7,aI x.1)]) (fun(x:Nat × bU × Nat × List Int)=>[Res.row x.2.1 (x.2.2.2).length x.2.2.1 22 1 ((x.2.2.2).map aD)]) (fun(x:Nat × bU × Nat × List Int)=>x.1≤n2∧x.2.2.2=(is.take x.1).map (ofW l)) (fun(x:Nat × bU × Nat × List Int)=>n2-x.1) (0,Az1,capz1,[]) (by(try dsimp only);exact⟨cN _,aM⟩) ?_;rintro⟨k,B,bc,o⟩ ⟨f6,ho⟩;replace f6:k≤n2:=f6;replace ho:o=(is.take k).map (ofW l):=ho;refine yB (L' := [Res.row B (o).length bc 22 1 ((o).map aD)]) rfl ?_;refine ae 6 (v' := .slice B o.length bc) rfl rfl ?_;refine ae 7 (v' := aI k) rfl rfl ?_;have hol:o.length=min k n2:=by rw[ho];simp[e2]
 refine Rw ?_;refine zB rfl (fun h1=>?_) (fun h1=>?_)
 ·have f8:k<n2:=by have h9:=bW h1;omega
  have f8:k<n2:=by have h9:=bW h1;omega
  refine rn [12,7,8,14,10,2,2,2,2] ?_;refine s_q (zM (i:=k) rfl rfl rfl (hb.rdb rfl) aN) rfl ?_;refine s_q (zX (i:=k) (o:=0) rfl (hb.rdb rfl) (zP aX) rfl rfl) rfl ?_;refine aa (zH rfl (fun w1 a6=>mX A (n1) (c1) (l) _ w1 (Rdb.toOld (ha.rdb rfl) a6)) rfl ?_);refine aa (bg rfl rfl rfl rfl rfl fun v7=>?_);refine zF (b:=v7) ((([(ofW l (is[k]))]:List Int).map aD).flatten) rfl ?_;refine aa (zW (A:=B) (els:=(o).map aD) (news:=(([(ofW l (is[k]))]:List Int).map aD)) rfl rfl (InL.rdb (b:=v7) rfl aM rfl) (zZ (c:=aD) (by intro x;simp[Value.oneCell']) _) aR rfl fun A22 cap22=>⟨_,inferInstance,?_⟩);refine zC (A:=A22) (((o++[(ofW l (is[k]))])).map aD) (by first|rfl|exact cA.symm|(simp;done)) (Rt ?_);refine zR (A:=A22) ((o++[(ofW l (is[k]))])).length aM ?_;refine ae 6 (v' := .slice A22 ((o++[(ofW l (is[k]))])).length cap22) rfl aM ?_;exact cr ((k+1),A22,cap22,(o++[(ofW l (is[k]))])) (by(try dsimp only);exact⟨aN,(by rw[←cB (show k<is.length by omega),cA,ho];rfl)⟩)
 have f9:k=n2:=by have h9:=bX h1;omega
 have f9:k=n2:=by have h9:=bX h1;omega
 refine Ru ?_;refine zE (zE (zQ (rn [7,1,2] ?_)));refine aa (zH rfl (fun w1 a6=>tI B (o.length) (bc) (o) w1 (Rdb.toOld (ird (A:=B)) a6) (by rw[ho];exact ki hl) bB) rfl ?_);refine rn [40,40,3,3,0,11] ?_;exact dE rfl rfl rfl fun w' a5=>⟨by have e8:o=is.map (ofW l):=(by rw[ho,f9,e2,cI]);rw[e8],a5.upd⟩
def fT (lim s:Int) (f:Bool) (w:Int) (ok:Bool):Bool:=f || (ok && eI [s,w] && decide (df [s,w]≤lim))
def fQ (lim s:Int) (f:Bool) (w:Int) (ok:Bool):Int:=if fT lim s f w ok then df [s,w] else s
def fg (lim s:Int) (f:Bool) (w:Int) (ok:Bool):Bool:=if fT lim s f w ok then false else f
theorem nO (sb fb lb:Nat) (s lim w9:Int) (f ok:Bool) (w:World) (hw:W0 [Res.blk sb 22 [aJ (s)],Res.blk fb 4 [Value.bool (f)],Res.blk lb 22 [aJ lim]] w) (hs:0≤s∧s≤18446744073709551615) (B4:0≤w9∧w9≤18446744073709551615):au (ι:=Unit) Tryz.prog 318 [aJ w9,.bool ok,aG sb,aG fb,aG lb] w [Res.blk sb 22 [aJ (s)],Res.blk fb 4 [Value.bool (f)],Res.blk lb 22 [aJ lim]] (fun x=>True) (fun x=>.bool (fT lim s f w9 ok)) (fun x=>[]) (fun x=>[Res.blk sb 22 [aJ (fQ lim s f w9 ok)],Res.blk fb 4 [Value.bool (fg lim s f w9 ok)],Res.blk lb 22 [aJ lim]]):=by
 refine Γ Tryz.func318 33 hw ?_;refine rn [1,3,0,1,5,2] ?_;refine aa (bg rfl rfl rfl rfl rfl fun j3=>?_);refine zF (b:=j3) ((([s,w9]:List Int).map aD).flatten) rfl ?_;refine aa (zH rfl (fun w1 a6=>vZ (some ⟨j3,0,none⟩) (2) (2) (([s,w9]:List Int)) w1 (Rdb.toOld (InL.rdb (b:=j3) (els:=(([s,w9]:List Int)).map aD) rfl aM rfl) a6) (by intro x hx;simp at hx;rcases hx with rfl|rfl<;>omega) bB) rfl ?_);refine rn [2,40,40,3,3,0,8,1,5,48,2] ?_;refine zS 19 rfl (fun h1=>?_) (fun h1=>?_)
 ·refine rn [22,2,22,48,22,2] ?_;refine zS 22 rfl (fun h2=>?_) (fun h2=>?_)
  ·refine rn [21,21,22,41,22,2,21,21,21,22,41,41,0,19,1,3,0,11,13] ?_;have hb:fT lim s f w9 ok=false:=by simp only[fT];simp_all;try omega
   exact dD rfl rfl fun w' a5=>⟨(),aQ,by rw[hb],by have h9:=zG (L' := [Res.blk sb 22 [aJ (s)],Res.blk fb 4 [Value.bool (f)],Res.blk lb 22 [aJ lim]]) w' a5;show WOK _ _ [Res.blk sb 22 [aJ (fQ lim s f w9 ok)],Res.blk fb 4 [Value.bool (fg lim s f w9 ok)],Res.blk lb 22 [aJ lim]] _;simp only[fQ,fg,hb];exact h9⟩
  refine rn [22,2,22,48,22,42,22,2] ?_;refine zS 26 rfl (fun h3=>?_) (fun h3=>?_)
  ·refine rn [21,21,21,22,41,41,0,19,1,3,0,11,13] ?_;have hb:fT lim s f w9 ok=false:=by simp only[fT];simp_all;try omega
   exact dD rfl rfl fun w' a5=>⟨(),aQ,by rw[hb],by have h9:=zG (L' := [Res.blk sb 22 [aJ (s)],Res.blk fb 4 [Value.bool (f)],Res.blk lb 22 [aJ lim]]) w' a5;show WOK _ _ [Res.blk sb 22 [aJ (fQ lim s f w9 ok)],Res.blk fb 4 [Value.bool (fg lim s f w9 ok)],Res.blk lb 22 [aJ lim]] _;simp only[fQ,fg,hb];exact h9⟩
  refine rn [22,2,22,5,22,55,22,42,41,0] ?_;refine zB rfl (fun h4=>?_) (fun h4=>?_)
  ·refine Re ?_;have hb:fT lim s f w9 ok=false:=by simp only[fT];simp_all;try omega
   exact dD rfl rfl fun w' a5=>⟨(),aQ,by rw[hb],by have h9:=zG (L' := [Res.blk sb 22 [aJ (s)],Res.blk fb 4 [Value.bool (f)],Res.blk lb 22 [aJ lim]]) w' a5;show WOK _ _ [Res.blk sb 22 [aJ (fQ lim s f w9 ok)],Res.blk fb 4 [Value.bool (fg lim s f w9 ok)],Res.blk lb 22 [aJ lim]] _;simp only[fQ,fg,hb];exact h9⟩
  refine Sx ?_;refine aa (zI rfl rfl rfl rfl rfl rfl rfl ?_);refine zF (b:=sb) [aJ (df [s,w9])] rfl ?_;refine aa (zI rfl rfl rfl rfl rfl rfl rfl ?_);refine zF (b:=fb) [Value.bool false] rfl (RA ?_);have hb:fT lim s f w9 ok=true:=by simp only[fT];simp_all;try omega
  exact dD rfl rfl fun w' a5=>⟨(),aQ,by rw[hb],by have h9:=zG (L' := [Res.blk sb 22 [aJ (df [s,w9])],Res.blk fb 4 [Value.bool (false)],Res.blk lb 22 [aJ lim]]) w' a5;show WOK _ _ [Res.blk sb 22 [aJ (fQ lim s f w9 ok)],Res.blk fb 4 [Value.bool (fg lim s f w9 ok)],Res.blk lb 22 [aJ lim]] _;simp only[fQ,fg,hb];exact h9⟩
 refine rn [21,21,21] ?_;refine il rfl rfl rfl ?_;refine il rfl rfl rfl (rn [21,21] ?_);refine il rfl rfl rfl ?_;refine il rfl rfl rfl ?_;refine il rfl rfl rfl (rn [21,42,0,20,12,7,1,2] ?_);refine aa (zI rfl rfl rfl rfl rfl rfl rfl ?_);refine zF (b:=sb) [aJ (df [s,w9])] rfl ?_;refine aa (zI rfl rfl rfl rfl rfl rfl rfl ?_);refine zF (b:=fb) [Value.bool false] rfl (RA ?_);have hb:fT lim s f w9 ok=true:=by simp only[fT];simp_all;try omega
 exact dD rfl rfl fun w' a5=>⟨(),aQ,by rw[hb],by have h9:=zG (L' := [Res.blk sb 22 [aJ (df [s,w9])],Res.blk fb 4 [Value.bool (false)],Res.blk lb 22 [aJ lim]]) w' a5;show WOK _ _ [Res.blk sb 22 [aJ (fQ lim s f w9 ok)],Res.blk fb 4 [Value.bool (fg lim s f w9 ok)],Res.blk lb 22 [aJ lim]] _;simp only[fQ,fg,hb];exact h9⟩
theorem oh (lim:Int) (w:World) : au (ι:=(Nat × Nat × Nat)) Tryz.prog 283 [aJ lim] w [] (fun x=>True) (fun x=>.func (.func 318) #[] [aG x.1,aG x.2.1,aG x.2.2].toArray) (fun x=>[Res.blk x.1 22 [aJ (0)],Res.blk x.2.1 4 [Value.bool (true)],Res.blk x.2.2 22 [aJ lim]]) (fun x=>[]):=by
 refine Γ Tryz.func283 6 (WOK.start (fps []) _) ?_;refine Ri ?_;refine aa (aq (c:=[aJ lim]) rfl rfl rfl fun b1=>rn [3,0,1] ?_);refine aa (zK rfl fun b3=>?_);refine aa (zK rfl fun b4=>?_);refine aa (zI rfl rfl rfl rfl rfl rfl rfl ?_);refine zF (b:=b3) [aJ 0] rfl ?_;refine aa (zI rfl rfl rfl rfl rfl rfl rfl ?_);refine zF (b:=b4) [Value.bool true] rfl (rn [0,1,52,3,0,11] ?_);exact dD rfl rfl fun w' a5=>⟨(b3,b4,b1),aQ,rfl,zA w' a5⟩
theorem uk (rb:bU) (lim:Int) (W:bU) (wn wc:Nat) (w:World) : au (ι:=(Nat × Nat × Nat × Nat)) Tryz.prog 231 [.pointer rb,aH 0,aJ lim,.slice W wn wc] w [] (fun x=>True) (fun x=>.func (.func 282) #[] [aG x.1,aG x.2.1,aG x.2.2.1,aG x.2.2.2].toArray) (fun x=>[Res.blk x.1 22 [aJ lim],Res.blk x.2.1 102 [Value.pointer rb],Res.blk x.2.2.1 3 [aH 0],Res.blk x.2.2.2 161 [dC W wn wc]]) (fun x=>[]):=by
 refine Γ Tryz.func231 10 (WOK.start (fps []) _) ?_;refine Ri ?_;refine aa (aq (c:=[Value.pointer rb]) rfl rfl rfl fun b4=>?_);refine aa (aq (c:=[aH 0]) rfl rfl rfl fun b5=>?_);refine aa (aq (c:=[aJ lim]) rfl rfl rfl fun b6=>?_);refine aa (aq (c:=[dC W wn wc]) rfl rfl rfl fun b7=>SA ?_);exact dD rfl rfl fun w' a5=>⟨(b6,b4,b5,b7),aQ,rfl,zA w' a5⟩
def dd (lim:Int) (ws:List Int):List Int→Int→Bool→List Int
 | [],_,_=>[]
 | i :: r,s,f=>if fT lim s f (ofW ws i) true then i :: dd lim ws r (fQ lim s f (ofW ws i) true) (fg lim s f (ofW ws i) true) else []
theorem Az {lim:Int} {ws l:List Int} {k:Nat} (hk:k<l.length) {s:Int} {f:Bool} (h:fT lim s f (ofW ws l[k]) true=true):dd lim ws (l.drop k) s f=l[k] :: dd lim ws (l.drop (k+1)) (fQ lim s f (ofW ws l[k]) true) (fg lim s f (ofW ws l[k]) true):=by
 rw[List.drop_eq_getElem_cons hk,dd,bZ h]
theorem nP {lim:Int} {ws l:List Int} {k:Nat} (hk:k<l.length) {s:Int} {f:Bool} (h:fT lim s f (ofW ws l[k]) true=false):dd lim ws (l.drop k) s f=[]:=by
 rw[List.drop_eq_getElem_cons hk,dd,bY (by simp[h])]
theorem sW {x:Int} (h:0≤x∧x≤18446744073709551615):df [x]=x∧eI [x]=true:=by
 have hs:([x]:List Int).sum≤18446744073709551615:=by simp;omega
 obtain⟨h1,h2⟩:=qM hs;exact⟨by rw[h2];simp,h1⟩
theorem DE {lim s w:Int} {f ok:Bool} (hs:0≤s∧s≤18446744073709551615) (hw:0≤w∧w≤18446744073709551615):0≤fQ lim s f w ok∧fQ lim s f w ok≤18446744073709551615:=by
 unfold fQ df;split
 ·split
  ·simp only[dB,List.sum_nil] at *;omega
  omega
 exact hs
theorem om (l9:Nat) (B9:List Int→Res→Prop) (r:Res) (b6 b4 b5 b7 rb:Nat) (g:Rg) (lim:Int) (W:bU) (wn wc:Nat) (ws l:List Int) (w:World) (hw:W0 [Res.blk b6 22 [aJ lim],Res.blk b4 102 [aG rb],Res.blk b5 3 [aH 0],Res.blk b7 161 [dC W wn wc],aj rb g,ah g,r] w) (hY:YOK Tryz.prog l9 (fun x:Int=>aH x) B9 (dd lim ws l 0 true)) (hB0:B9 [] r) (h:g.Rep 1 (l.map aC)) (B4:Rd w [Res.blk b6 22 [aJ lim],Res.blk b4 102 [aG rb],Res.blk b5 3 [aH 0],Res.blk b7 161 [dC W wn wc],aj rb g,ah g,r] W wn 1 (ws.map aD)) (hokw:okU ws) (T1:0≤lim∧lim≤18446744073709551615) (hln:l.length≤1000000):Ret Tryz.prog 282 [.func (.yield l9) #[] #[],aG b6,aG b4,aG b5,aG b7] w (fun _ w2=>∃r2,B9 (dd lim ws l 0 true) r2∧WOK (fps [Res.blk b6 22 [aJ lim],Res.blk b4 102 [aG rb],Res.blk b5 3 [aH 0],Res.blk b7 161 [dC W wn wc],aj rb g,ah g,r]) w [Res.blk b6 22 [aJ lim],Res.blk b4 102 [aG rb],Res.blk b5 3 [aI ((dd lim ws l 0 true).length)],Res.blk b7 161 [dC W wn wc],aj rb g,ah g,r2] w2):=by
 refine Γ Tryz.func282 38 hw ?_;refine rn [1,5] ?_;refine aa (zJ [] rfl (fun w1 a6 a8=>by have h7:=oh (lim) w1;exact h7) rfl ?_);rintro⟨Y5,fb10,Z2⟩ _;refine ii (rn [3,0,14] ?_);refine dP [0,2,3,4,6] (fun(x:Nat × Int × Bool × Res)=>[]) (fun(x:Nat × Int × Bool × Res)=>[Res.blk Y5 22 [aJ (x.2.1)],Res.blk fb10 4 [Value.bool (x.2.2.1)],Res.blk Z2 22 [aJ lim],Res.blk b6 22 [aJ lim],Res.blk b4 102 [aG rb],Res.blk b5 3 [aI x.1],Res.blk b7 161 [dC W wn wc],aj rb g,ah g,x.2.2.2]) (fun(x:Nat × Int × Bool × Res)=>x.1≤l.length∧B9 (l.take x.1) x.2.2.2∧(dd lim ws l 0 true)=l.take x.1++dd lim ws (l.drop x.1) x.2.1 x.2.2.1∧(0≤x.2.1∧x.2.1≤18446744073709551615)) (fun(x:Nat × Int × Bool × Res)=>l.length-x.1) (0,0,true,r) (by(try dsimp only);exact⟨aK,(by simpa using hB0),rfl,aK⟩) ?_;rintro⟨k,s,f,r1⟩ ⟨hk,hB,C8,o5⟩;replace hk:k≤l.length:=hk;replace hB:B9 (l.take k) r1:=hB;replace C8:(dd lim ws l 0 true)=l.take k++dd lim ws (l.drop k) s f:=C8;replace o5:0≤s∧s≤18446744073709551615:=o5;refine yB (L' := [Res.blk Y5 22 [aJ (s)],Res.blk fb10 4 [Value.bool (f)],Res.blk Z2 22 [aJ lim],Res.blk b6 22 [aJ lim],Res.blk b4 102 [aG rb],Res.blk b5 3 [aI k],Res.blk b7 161 [dC W wn wc],aj rb g,ah g,r1]) rfl (rn [14,1,5,5] ?_);refine aa (zN _ rfl (fun w1 a6 a8=>by exact iU rb g l _ w1 a8 h) rfl ?_);refine Sc ?_;refine zS 19 rfl (fun h1=>?_) (fun h1=>?_)
 ·have hke:k=l.length:=by have h9:=h1;rw[uV] at h9;simp at h9;omega
  have J0:dd lim ws (l.drop k) s f=[]:=by rw[hke,List.drop_length];rfl
  refine rn [21,21,21,21,21,21,21,21,21,41,2,21,21,21,21,41,0,19,11] ?_;refine zD (zL (zD (zL ?_)));have hR:(dd lim ws l 0 true)=l.take k:=by rw[C8,J0,cZ]
  have hlk:(l.take k).length=k:=by simp;omega
  exact dF rfl fun w' a5=>⟨r1,by rw[hR];exact hB,by have h9:=zG (L' := [Res.blk b6 22 [aJ lim],Res.blk b4 102 [aG rb],Res.blk b5 3 [aI k],Res.blk b7 161 [dC W wn wc],aj rb g,ah g,r1]) w' a5;rw[hR,hlk];exact h9⟩
 have w5:k<l.length:=by have h9:=h1;rw[uV] at h9;simp at h9;omega
 have hpk:pk l ((k:Nat):Int)=some l[k]:=by rw[uV,List.getElem?_eq_getElem w5]
 have hwU:=qk hokw l[k];refine ae 7 (v' := aH l[k]) rfl (by rw[hpk];rfl) (rn [22,2,22,5,22,2] ?_);refine ff rfl rfl (bg rfl rfl rfl rfl rfl fun m0=>?_);refine zF (b:=m0) ((([l[k]]:List Int).map aC).flatten) rfl ?_;refine ff rfl rfl (zH rfl (fun w1 a6=>gr W (some ⟨m0,0,none⟩) (wn) (wc) (1) (1) (ws) (([l[k]]:List Int)) w1 (Rdb.toOld B4.rdb a6) (Rdb.toOld (InL.rdb (b:=m0) (els:=(([l[k]]:List Int)).map aC) rfl aM rfl) a6) hokw bB) rfl (rn [22,40] ?_));refine ae 25 (v' := aJ (ofW ws l[k])) rfl (by rw[cV,List.map_nil,(sW hwU).1]) (rn [22,40] ?_);refine ae 26 (v' := .bool true) rfl (by rw[cV,List.map_nil,(sW hwU).2]) ?_;refine ff rfl rfl (xV [Res.blk Y5 22 [aJ (s)],Res.blk fb10 4 [Value.bool (f)],Res.blk Z2 22 [aJ lim]] rfl rfl (fun w1 a6 a8=>by have h7:=nO Y5 fb10 Z2 (s) (lim) ((ofW ws l[k])) (f) (true) w1 a8 o5 hwU;exact h7) rfl ?_);rintro⟨⟩ _;refine ii (rn [22,48,42,2] ?_);refine zS 30 rfl (fun h2=>?_) (fun h2=>?_)
 ·have F8:fT lim s f (ofW ws l[k]) true=false:=by simpa using h2
  have J0:=nP (lim:=lim) (ws:=ws) w5 F8;refine rn [21,21,21,21,41,0,19,11] ?_;refine zD (zL (zD (zL ?_)));have hR:(dd lim ws l 0 true)=l.take k:=by rw[C8,J0,cZ]
  have hlk:(l.take k).length=k:=by simp;omega
  exact dF rfl fun w' a5=>⟨r1,by rw[hR];exact hB,by have h9:=zG (L' := [Res.blk b6 22 [aJ lim],Res.blk b4 102 [aG rb],Res.blk b5 3 [aI k],Res.blk b7 161 [dC W wn wc],aj rb g,ah g,r1]) w' a5;rw[hR,hlk];exact h9⟩
 have F8:fT lim s f (ofW ws l[k]) true=true:=by simpa using h2
 have hbat2:(dd lim ws l 0 true)=l.take (k+1)++dd lim ws (l.drop (k+1)) (fQ lim s f (ofW ws l[k]) true) (fg lim s f (ofW ws l[k]) true):=by rw[C8,Az w5 F8,←cB w5,cJ];rfl
 have B6:l.take k++[l[k]] <+: (dd lim ws l 0 true):=⟨_,by rw[hbat2,←cB w5]⟩
 refine rn [22,2,22,2] ?_;refine ff rfl rfl (qr hY B6 hB rfl rfl rfl fun r9 hB9=>?_);refine⟨_,inferInstance,?_⟩;refine rn [22,48] ?_;refine zV 34 (b:=false) rfl (rfl) (rn [42,0,20,12,7,10,5,43] ?_);refine aa (zI rfl rfl rfl rfl rfl rfl rfl ?_);refine zF (b:=b5) [aI (k+1)] rfl (rn [9,15] ?_);exact xX ((k+1),(fQ lim s f (ofW ws l[k]) true),(fg lim s f (ofW ws l[k]) true),r9) (by(try dsimp only);exact⟨aK,(by rw[←cB w5];exact hB9),hbat2,(DE o5 hwU)⟩) bK (by repeat(first|exact trivial|refine⟨rfl,?_⟩)) zG
theorem sT (lim:Int) (ws:List Int):∀(l:List Int) (s:Int) (f:Bool),(dd lim ws l s f).length≤l.length
 | [],_,_=>by simp[dd]
 | i :: l,s,f=>by
  unfold dd;split
  ·have:=sT lim ws l (fQ lim s f (ofW ws i) true) (fg lim s f (ofW ws i) true);simp only[cT];omega
  simp
theorem na (rb:Nat) (g:Rg) (lim:Int) (W:bU) (wn wc:Nat) (ws l:List Int) (w:World) (hw:W0 [aj rb g,ah g] w) (h:g.Rep 1 (l.map aC)) (B4:Rd w [aj rb g,ah g] W wn 1 (ws.map aD)) (hokw:okU ws) (T1:0≤lim∧lim≤18446744073709551615) (hln:l.length≤1000000):au (ι:=(bU × Nat × Rg)) Tryz.prog 152 [aG rb,aJ lim,.slice W wn wc] w [aj rb g,ah g] (fun x=>x.2.2.Rep 1 ((l.drop (dd lim ws l 0 true).length).map aC)∧x.2.2.size=g.size) (fun x=>.slice x.1 (dd lim ws l 0 true).length x.2.1) (fun x=>[Res.row x.1 (dd lim ws l 0 true).length x.2.1 3 1 ((dd lim ws l 0 true).map aC)]) (fun x=>[aj rb x.2.2,ah x.2.2]):=by
 refine tX Tryz.func152 rfl 26 rfl aM (fps [aj rb g,ah g]) [aj rb g,ah g] hw _ rfl (rn [1,3,0,1] ?_);refine aa (zK rfl fun b7=>?_);refine zF (b:=b7) [dC none ([]:List Int).length 0] rfl ?_;refine zY none 3 1 (([]:List Int).map aC) rfl (rn [0,8,1,2,2,2] ?_);refine aa (zJ [] rfl (fun w1 a6 a8=>by have h7:=uk (some ⟨rb,0,none⟩) (lim) W (wn) (wc) w1;exact h7) rfl ?_);rintro⟨M3,M2,M4,L9⟩ _;refine ii (rn [0,14] ?_);refine msx (fst:=[]) (cap:=[aG M3,aG M2,aG M4,aG L9]) (enc:=(fun x:Int=>aH x)) (all:=(dd lim ws l 0 true)) rfl rfl [Res.blk M3 22 [aJ lim],Res.blk M2 102 [aG rb],Res.blk M4 3 [aH 0],Res.blk L9 161 [dC W wn wc],aj rb g,ah g] [Res.blk M3 22 [aJ lim],Res.blk M2 102 [aG rb],Res.blk M4 3 [aI ((dd lim ws l 0 true).length)],Res.blk L9 161 [dC W wn wc],aj rb g,ah g] [] (fun(y9:bU × Nat × List Int)=>[Res.blk b7 38 [dC y9.1 y9.2.2.length y9.2.1],Res.row y9.1 y9.2.2.length y9.2.1 3 1 (y9.2.2.map aC)]) (fun pre (y9:bU × Nat × List Int)=>y9.2.2=pre) (none,0,[]) (rfl) (fun w1 a6=>by have h9:=zG (L' := [Res.blk M3 22 [aJ lim],Res.blk M2 102 [aG rb],Res.blk M4 3 [aH 0],Res.blk L9 161 [dC W wn wc],aj rb g,ah g,Res.blk b7 38 [dC none ([]:List Int).length 0],Res.row none ([]:List Int).length 0 3 1 (([]:List Int).map aC)]) w1 a6;exact h9) (fun w1 a6=>by intro l9 B9 r9 hY9 hB9 p4 T0;have H8:WOK _ _ [Res.blk M3 22 [aJ lim],Res.blk M2 102 [aG rb],Res.blk M4 3 [aH 0],Res.blk L9 161 [dC W wn wc],aj rb g,ah g,r9] w1:=p4;exact om l9 B9 r9 M3 M2 M4 L9 rb g lim W wn wc ws l w1 T0 hY9 hB9 h (Rd.ofRd H8 B4 aK) hokw T1 hln) (fun x9=>[(8,aH x9),(7,aG b7)]) ?_ ?_ ?_
 ·rintro l9 pre x9 ⟨A9,c9,o9⟩ w9 B6 z7;refine rn [10,3,9] ?_;exact GH (by repeat(first|exact trivial|refine⟨rfl,?_⟩)) zG
 ·rintro l9 pre x9 ⟨A9,c9,o9⟩ w9 B6 z7;replace z7:o9=pre:=z7;have H9:=B6.length_le;have U0:=sT lim ws l 0 true;simp only[cQ,cT,List.length_nil] at H9;have hbl3:o9.length≤1000000:=by rw[z7];omega
  refine yB (L' := [Res.blk b7 38 [dC A9 o9.length c9],Res.row A9 o9.length c9 3 1 (o9.map aC)]) rfl (rn [14,10,5,2] ?_);refine aa (bg rfl rfl rfl rfl rfl fun I2=>?_);refine zF (b:=I2) ((([x9]:List Int).map aC).flatten) rfl ?_;refine aa (zW (A:=A9) (els:=(o9).map aC) (news:=(([x9]:List Int).map aC)) rfl rfl (InL.rdb (b:=I2) rfl aM rfl) (zZ (c:=aC) (by intro x;simp[Value.oneCell']) _) aK rfl fun A17 y5=>⟨_,inferInstance,?_⟩);refine zC (A:=A17) (((o9++[x9])).map aC) (by first|rfl|exact cA.symm|(simp;done)) ?_;refine aa (zI rfl rfl rfl rfl rfl rfl rfl (rn [9,15] ?_));refine zR (A:=A17) ((o9++[x9]):List Int).length aM ?_;refine zF (b:=b7) [dC A17 ((o9++[x9]):List Int).length y5] (by simp[ay]) ?_;exact qu (fun w2 u2=>⟨(A17,y5,(o9++[x9]:List Int)),by show o9++[x9]=pre++[x9];rw[z7],by have h9:=zG (L' := [Res.blk b7 38 [dC A17 (o9++[x9]:List Int).length y5],Res.row A17 (o9++[x9]:List Int).length y5 3 1 ((o9++[x9]:List Int).map aC)]) w2 u2;exact h9⟩)
 rintro⟨A9,c9,o9⟩ z7 m9;refine yB (L' := [Res.obj m9 (.deferred (some [])),Res.blk M3 22 [aJ lim],Res.blk M2 102 [aG rb],Res.blk M4 3 [aI ((dd lim ws l 0 true).length)],Res.blk L9 161 [dC W wn wc],aj rb g,ah g,Res.blk b7 38 [dC A9 o9.length c9],Res.row A9 o9.length c9 3 1 (o9.map aC)]) rfl ?_;replace z7:o9=(dd lim ws l 0 true):=z7;have U0:=sT lim ws l 0 true;have hbl3:o9.length≤l.length:=by rw[z7];exact U0
 refine rn [15,7,8,1,5,47,2,0,14] ?_;refine dP [0,6,7,19] (fun(x:Nat × Rg)=>[(20,aI x.1)]) (fun(x:Nat × Rg)=>[Res.obj m9 (.deferred (some [])),Res.blk b7 38 [dC A9 o9.length c9],Res.row A9 o9.length c9 3 1 (o9.map aC),aj rb x.2,ah x.2]) (fun(x:Nat × Rg)=>x.1≤o9.length∧(x.2).Rep 1 ((l.drop x.1).map aC)∧(x.2).size=g.size) (fun(x:Nat × Rg)=>o9.length-x.1) (0,g) (by(try dsimp only);exact⟨cN _,(by simpa using h),rfl⟩) ?_;rintro⟨i,g1⟩ ⟨y1,hr,hz⟩;replace y1:i≤o9.length:=y1;replace hr:(g1).Rep 1 ((l.drop i).map aC):=hr;replace hz:(g1).size=g.size:=hz;refine yB (L' := [Res.obj m9 (.deferred (some [])),Res.blk b7 38 [dC A9 o9.length c9],Res.row A9 o9.length c9 3 1 (o9.map aC),aj rb g1,ah g1]) rfl ?_;refine ae 20 (v' := aI i) rfl rfl (Rj ?_);refine zB rfl (fun h1=>?_) (fun h1=>?_)
 ·have H5:i<o9.length:=by have h9:=bW h1;omega
  refine rn [12,7,8,14,10,2] ?_;refine aa (zJ _ rfl (fun w1 a6 a8=>by have h7:=yq rb g1 (l.drop i) w1 a8 hr;exact h7) rfl ?_);rintro g23 ⟨r23,s23⟩;refine ii (RS ?_);exact cr ((i+1),g23) (by(try dsimp only);exact⟨aN,(by have h9:=r23;simpa using h9),aK⟩)
 have F6:i=o9.length:=by have h9:=bX h1;omega
 refine Ru ?_;refine zE (zE (zQ (rn [7,1,5,3,0,11] ?_)));subst z7;rw[F6] at hr;exact nB rfl (.tmp rfl) (fun w' a5 => ⟨(A9,c9,g1),(by first|exact⟨hr,hz⟩|(dsimp only;exact⟨hr,hz⟩)),rfl,by have h9:=zG (L' := [Res.row ((A9,c9,g1)).1 (dd lim ws l 0 true).length ((A9,c9,g1)).2.1 3 1 ((dd lim ws l 0 true).map aC),aj rb ((A9,c9,g1)).2.2,ah ((A9,c9,g1)).2.2]) w' a5;exact h9⟩) _ (.inl rfl)
def fd (ws l:List Int) (k:Nat):Int:=((l.take k).map (ofW ws)).sum
theorem so {ws l:List Int} {k:Nat} (hk:k<l.length):fd ws l (k+1)=fd ws l k+ofW ws l[k]:=by
 unfold fd;rw[←cB hk,cA,List.sum_append];simp
theorem Fg {lim:Int} {ws l:List Int} {k:Nat} (h:okU ws) (hk:k<l.length):fT lim (fd ws l k) (decide (k=0)) (ofW ws l[k]) true=(decide (k=0) || (eI ((l.take (k+1)).map (ofW ws)) && decide (df ((l.take (k+1)).map (ofW ws))≤lim)))∧df [fd ws l k,ofW ws l[k]]=df ((l.take (k+1)).map (ofW ws))∧eI [fd ws l k,ofW ws l[k]]=eI ((l.take (k+1)).map (ofW ws)):=by
 have e:([fd ws l k,ofW ws l[k]]:List Int).sum=((l.take (k+1)).map (ofW ws)).sum:=by
  have:=so (ws:=ws) hk;unfold fd at *;simp only[dB,List.sum_nil];omega
 have e1:df [fd ws l k,ofW ws l[k]]=df ((l.take (k+1)).map (ofW ws)):=by unfold df;rw[e]
 have e2:eI [fd ws l k,ofW ws l[k]]=eI ((l.take (k+1)).map (ofW ws)):=by unfold eI;rw[e]
 refine⟨?_,e1,e2⟩;unfold fT;rw[e1,e2,Bool.true_and]
theorem lu {lim:Int} {ws l:List Int} {k:Nat} (h:okU ws) (hk:k<l.length) (hb:k=0∨(eI ((l.take (k+1)).map (ofW ws))=true∧df ((l.take (k+1)).map (ofW ws))≤lim)) :
  dd lim ws (l.drop k) (fd ws l k) (decide (k=0))=l[k] :: dd lim ws (l.drop (k+1)) (fd ws l (k+1)) (decide (k+1=0)):=by
 obtain⟨b1,b2,b3⟩:=Fg (lim:=lim) h hk;have hB:fT lim (fd ws l k) (decide (k=0)) (ofW ws l[k]) true=true:=by
  rw[b1];rcases hb with hb|hb
  ·simp[hb]
  rw[hb.1,cX hb.2];simp
 have hf:eI ((l.take (k+1)).map (ofW ws))=true:=by
  rcases hb with rfl|hb
  ·have e0:fd ws l 0=0:=rfl;have:=qk h l[0];rw[←b3,e0];unfold eI;simp;omega
  exact hb.1
 rw[Az hk hB];have hs:fQ lim (fd ws l k) (decide (k=0)) (ofW ws l[k]) true=fd ws l (k+1):=by
  unfold fQ;rw[bZ hB,b2];unfold df;rw[bZ (by simpa[eI] using hf)];rfl
 have hF:fg lim (fd ws l k) (decide (k=0)) (ofW ws l[k]) true=decide (k+1=0):=by
  unfold fg;rw[bZ hB];simp
 rw[hs,hF]
theorem iE {lim:Int} {ws l:List Int} {k:Nat} (h:okU ws) (hk:k<l.length) (h0:k≠0) (hb:¬(eI ((l.take (k+1)).map (ofW ws))=true∧df ((l.take (k+1)).map (ofW ws))≤lim)) :
  dd lim ws (l.drop k) (fd ws l k) (decide (k=0))=[]:=by
 obtain⟨b1,_,_⟩:=Fg (lim:=lim) h hk;refine nP hk ?_;rw[b1];simp only[cY h0,Bool.false_or,Bool.and_eq_false_iff,decide_eq_false_iff_not];by_cases hx:eI ((l.take (k+1)).map (ofW ws))=true
 ·exact .inr fun hc=>hb ⟨hx,hc⟩
 exact .inl (by simpa using hx)
theorem nv {κ:Cx} {L:List Res} {A:bU} {cap:Nat} {l:List Int} {h:Nat} (hr:Rdb κ L A l.length 1 (l.map fun v:Int=>[aH v])) (hh:h≤l.length) (hc:l.length≤cap):Rdb κ L (cz A cap 0 1) h 1 ((l.take h).map fun v:Int=>[aH v]):=by
 have h8:=Rdb.sub hr (cap:=cap) (l:=0) (h:=h) (cN _) hh hc;rw[Nat.sub_zero,List.drop_zero,←List.map_take] at h8;exact h8
theorem ly (A:bU) (cap:Nat) (l:List Int) (lim:Int) (W:bU) (wn wc:Nat) (ws:List Int) (w:World) (j8:Old w A l.length 1 (l.map aC)) (hcl:l.length≤cap) (B4:Old w W wn 1 (ws.map aD)) (hokw:okU ws) (T1:0≤lim∧lim≤18446744073709551615) (hln:l.length≤900):Pur Tryz.prog 267 [.slice A l.length cap,aJ lim,.slice W wn wc] w (aI ((dd lim ws l 0 true).length)):=by
 refine Γ Tryz.func267 38 (WOK.start [] _) ?_;refine rn [1,3,0,1,3,0,8,14] ?_;refine dP [0,1,2,6] (fun(x:Nat)=>[(7,aI x)]) (fun(x:Nat)=>[]) (fun(x:Nat)=>x≤l.length∧(dd lim ws l 0 true)=l.take x++dd lim ws (l.drop x) (fd ws l x) (decide (x=0))) (fun(x:Nat)=>l.length-x) 0 (by(try dsimp only);exact⟨aK,rfl⟩) ?_;rintro k ⟨hk,C8⟩;replace hk:k≤l.length:=hk;replace C8:(dd lim ws l 0 true)=l.take k++dd lim ws (l.drop k) (fd ws l k) (decide (k=0)):=C8;refine Rw ?_;refine zB rfl (fun h1=>?_) (fun h1=>?_)
 ·have w5:k<l.length:=by have h9:=bW h1;omega
  refine rn [12,7,14,1,2,2,2,43] ?_;refine s_q (xC (h:=k+1) rfl rfl rfl aK) rfl ?_;refine aa (zH rfl (fun w1 a6=>pP W (cz A cap 0 1) (wn) (wc) ((k+1)) (cap) (ws) ((l.take (k+1))) w1 (Rdb.toOld (B4.rdb rfl) a6) (Rdb.toOld (nv (l:=l) (j8.rdb rfl) aK aK) a6) hokw bB) rfl (rn [2,40,40,3,3,0,8,1,2,55,2] ?_));refine zS 25 rfl (fun h2=>?_) (fun h2=>?_)
  ·have s8:k≠0:=by have h9:=bW h2;omega
   refine rn [22,2,22,48,22,2] ?_;refine zS 28 rfl (fun h3=>?_) (fun h3=>?_)
   ·have S6:=iE (lim:=lim) hokw w5 s8 (fun hc=>by have h9:=h3;rw[hc.1] at h9;exact absurd h9 aO);refine rn [21,21,21,22,41,41,0,19,1,2,3,0,11] ?_;refine zD (zL (zD (zL (zD ?_))));exact dD rfl rfl fun w' a5=>⟨by rw[C8,S6];simp;omega,a5.upd⟩
   have hfit:eI ((l.take (k+1)).map (ofW ws))=true:=by simpa using h3
   refine rn [22,2,22,2,22,55,22,42,41,0] ?_;refine zB rfl (fun h4=>?_) (fun h4=>?_)
   ·have S6:=iE (lim:=lim) hokw w5 s8 (fun hc=>by have h9:=bW h4;omega);refine rn [1,2,3,0,11] ?_;refine zD (zL (zD (zL (zD ?_))));exact dD rfl rfl fun w' a5=>⟨by rw[C8,S6];simp;omega,a5.upd⟩
   have I9:k=0∨(eI ((l.take (k+1)).map (ofW ws))=true∧df ((l.take (k+1)).map (ofW ws))≤lim):=.inr ⟨hfit,by have h9:=bX h4;omega⟩;refine rn [12,7,10,2,43,3,9,15] ?_;exact xX (k+1) (by(try dsimp only);exact⟨aK,(by rw[C8,lu hokw w5 I9,←cB w5,cJ];rfl)⟩) aK (by repeat(first|exact trivial|refine⟨rfl,?_⟩)) zG
  have I9:k=0∨(eI ((l.take (k+1)).map (ofW ws))=true∧df ((l.take (k+1)).map (ofW ws))≤lim):=.inl (by have h9:=bX h2;omega);refine rn [21,21,21] ?_;refine il rfl rfl rfl ?_;refine il rfl rfl rfl ?_;refine il rfl rfl rfl (rn [21,42,0,20,12,7,10,2,43,3,9,15] ?_);exact xX (k+1) (by(try dsimp only);exact⟨aK,(by rw[C8,lu hokw w5 I9,←cB w5,cJ];rfl)⟩) aK (by repeat(first|exact trivial|refine⟨rfl,?_⟩)) zG
 have Y0:k=l.length:=by have h9:=bX h1;omega
 refine Ru ?_;refine zE (zE (zQ (Rl ?_)));exact dD rfl rfl fun w' a5=>⟨by rw[C8,Y0,List.drop_length];simp[dd],a5.upd⟩
theorem sa (lim:Int) (ws:List Int):∀(l:List Int) (s:Int) (f:Bool),dd lim ws l s f=l.take (dd lim ws l s f).length
 | [],_,_=>by simp[dd]
 | i :: l,s,f=>by
  have ih:=sa lim ws l (fQ lim s f (ofW ws i) true) (fg lim s f (ofW ws i) true);by_cases h:fT lim s f (ofW ws i) true=true
  ·have e:dd lim ws (i :: l) s f=i :: dd lim ws l (fQ lim s f (ofW ws i) true) (fg lim s f (ofW ws i) true):=by rw[dd,bZ h]
   rw[e,cT,List.take_succ_cons,←ih]
  have e:dd lim ws (i :: l) s f=[]:=by rw[dd,bY h]
  rw[e];rfl
def vi:List (Nat × Int × Int × Int):=[(2,1,1,2),(4,2,2,3),(6,3,3,4),(8,4,4,5),(10,5,5,6),(12,2,6,7),(14,2,7,3),(16,3,7,3),(18,4,7,4),(20,5,7,4)]
def gD (j:Nat):Int × Int × Int:=(vi.lookup j).getD (1,1,2)
def gF (j:Nat):Value × Value:=(.agg [aH (gD j).1,aH (gD j).2.1].toArray,aH (gD j).2.2)
theorem Fa (j:Nat):gD j∈(1,1,2) :: vi.map (·.2):=by
 unfold gD;cases h:vi.lookup j with
 | none=>simp
 | some x =>
  have:=List.lookup_eq_some_iff.1 h;obtain⟨l1,l2,he,_⟩:=this;rw[he];simp
theorem Ei:∀r∈(1,1,2) :: vi.map (·.2),(keyOf Tryz.prog 374 (.agg [aH r.1,aH r.2.1].toArray)).isSome=true:=by
 intro r hr;simp only[vi,cV,List.map_nil,cH,cE,or_false] at hr;rcases hr with rfl|rfl|rfl|rfl|rfl|rfl|rfl|rfl|rfl|rfl|rfl<;>kernel_rfl
theorem kU (j:Nat):Key Tryz.prog 374 (gF j).1:=Option.isSome_iff_exists.1 (Ei _ (Fa j))
theorem FZ:∀i∈[2,4,6,8,10,12,14,16,18,20],∀j∈[2,4,6,8,10,12,14,16,18,20],i≠j→((gD i).1,(gD i).2.1)≠((gD j).1,(gD j).2.1):=by decide
theorem vj:∀i∈[2,4,6,8,10,12,14,16,18,20],∀j∈[2,4,6,8,10,12,14,16,18,20],i≠j→(gF i).1≠(gF j).1:=fun i hi j hj B7 h=>FZ i hi j hj B7 (by
 simp only[gF,Value.agg.injEq] at h;have h2:=congrArg Array.toList h;simp at h2;rw[h2.1,h2.2])
theorem jW (w:World) : au (ι:=Nat) Tryz.prog 273 [] w [] (fun x=>True) (fun x=>.map (some x)) (fun x=>[Res.mp x ([2,4,6,8,10,12,14,16,18,20].map gF)]) (fun x=>[]):=by
 refine Γ Tryz.func273 13 (WOK.start (fps []) _) ?_;refine SZ ?_;refine dR (L0:=[]) [] an rfl zG (rn [24,1,49,24,3,49,24,5,49,24,7,49,24,9,49,24,11,49,24,13,49,24,15,49,24,17,49,24,19,49] ?_);refine dop 0 rfl (sM rfl fun b1=>?_);refine ua (fuel:=2) (b:=b1) (mt:=371) [2,4,6,8,10,12,14,16,18,20] aO rfl aO gF (by
   intro j hj;simp only[cH,cE,or_false] at hj;rcases hj with rfl|rfl|rfl|rfl|rfl|rfl|rfl|rfl|rfl|rfl<;>exact⟨_,_,_,_,_,_,rfl,rfl,rfl,rfl⟩) (fun j _=>kU j) vj aL aL (fun D=>zG) ?_
 refine dls 23 2097151 (rn [24,21,2,24,22,3,27,7,11] ?_);exact dD rfl rfl fun w' a5=>⟨b1,aQ,by first|rfl|(simp_all;done),zA w' a5⟩
theorem EZ (w:World) : Pur Tryz.prog 227 [aH 2,aH 6] w (.tuple [aH 7,.bool true].toArray):=by
 refine Γ Tryz.func227 18 (WOK.start [] _) ?_;refine rn [1,3,3,0,1] ?_;refine aa (zJ [] rfl (fun w1 a6 a8=>by have h7:=jW w1;exact h7) rfl ?_);rintro b9 _;refine ii (rn [2,2,49] ?_);refine s_q (wI (b:=b9) (D:=[2,4,6,8,10,12,14,16,18,20].map gF) (v:=aH 7) rfl rfl (kU 12) (fun p hp=>by obtain⟨j,_,rfl⟩:=cG.1 hp;exact kU j) (cG.2 ⟨12,aO,rfl⟩) (fun p hp he=>by
   obtain⟨j,hj,rfl⟩:=cG.1 hp;rcases Classical.em (j=12) with h|h
   · subst h;rfl
   · exact absurd he (vj j hj 12 aO h))) rfl ?_
 refine Rv ?_;exact dE rfl rfl rfl fun w' a5=>⟨aP,a5.upd⟩
theorem oe (w:World) : au (ι:=Nat) Tryz.prog 251 [] w [] (fun x=>True) (fun x=>.slice (some ⟨x,0,none⟩) 3 3) (fun x=>[Res.blk x 354 [Value.func (.func 293) #[] #[],aH 8,.func (.func 294) #[] #[],aH 9,.func (.func 295) #[] #[],aH 3]]) (fun x=>[]):=by
 refine Γ Tryz.func251 5 (WOK.start (fps []) _) ?_;refine rn [1,3,0,1,49,49,49] ?_;refine aa (bg rfl rfl rfl rfl rfl fun b4=>?_);refine zF (b:=b4) [Value.func (.func 293) #[] #[],aH 8,.func (.func 294) #[] #[],aH 9,.func (.func 295) #[] #[],aH 3] rfl (Rb ?_);exact dD rfl rfl fun w' a5=>⟨b4,aQ,by first|rfl|(simp_all;done),zA w' a5⟩
def V0:V:=⟨0,0,false,0,0,0,0⟩
def tst (s d:V) (c:C):Nat→Bool
 | 0=>decide (s.st=2∧d.st=2)
 | 1 => !s.sl && !d.sl
 | _=>eI [s.bal,d.bal] && decide (df [s.bal,d.bal]≤c.maxb)
def dn (s d:V) (c:C):Int:=if tst s d c 0=false then 8 else if tst s d c 1=false then 9 else if tst s d c 2=false then 3 else 0
theorem Gh (s d:V) (c:C) (w:World) (hs:0≤s.bal∧s.bal≤18446744073709551615) (hd:0≤d.bal∧d.bal≤18446744073709551615):Pur Tryz.prog 293 [s.v,d.v,c.v] w (.bool (tst s d c 0)):=by
 refine Γ Tryz.func293 14 (WOK.start [] _) ?_;refine Ri ?_;refine aa (aq rfl rfl rfl fun b3=>?_);refine aa (aq rfl rfl rfl fun b4=>?_);refine aa (aq rfl rfl rfl fun b5=>rn [3,0,1,4,5,4,5,49,49] ?_);refine s_q (Fj rfl rfl rfl) rfl (Rb ?_);exact dD rfl rfl fun w' a5=>⟨by first|rfl|(simp[tst];done)|(simp_all[tst];done),a5.upd⟩
theorem Gg (s d:V) (c:C) (w:World) (hs:0≤s.bal∧s.bal≤18446744073709551615) (hd:0≤d.bal∧d.bal≤18446744073709551615):Pur Tryz.prog 294 [s.v,d.v,c.v] w (.bool (tst s d c 1)):=by
 refine Γ Tryz.func294 15 (WOK.start [] _) ?_;refine Ri ?_;refine aa (aq rfl rfl rfl fun b3=>?_);refine aa (aq rfl rfl rfl fun b4=>?_);refine aa (aq rfl rfl rfl fun b5=>rn [3,0,1,4,5,48,2] ?_);refine zS 10 rfl (fun h1=>?_) (fun h1=>?_)
 ·refine rn [22,4,22,5,22,48,41,3,0,11] ?_;exact dD rfl rfl fun w' a5=>⟨by first|rfl|(simp[tst];done)|(simp_all[tst];done),a5.upd⟩
 refine Sh ?_;exact dD rfl rfl fun w' a5=>⟨by first|rfl|(simp[tst];done)|(simp_all[tst];done),a5.upd⟩
theorem Gf (s d:V) (c:C) (w:World) (hs:0≤s.bal∧s.bal≤18446744073709551615) (hd:0≤d.bal∧d.bal≤18446744073709551615):Pur Tryz.prog 295 [s.v,d.v,c.v] w (.bool (tst s d c 2)):=by
 refine Γ Tryz.func295 25 (WOK.start [] _) ?_;refine Ri ?_;refine aa (aq rfl rfl rfl fun b3=>?_);refine aa (aq rfl rfl rfl fun b4=>?_);refine aa (aq rfl rfl rfl fun b5=>rn [3,0,1,4,5,4,5] ?_);refine aa (bg rfl rfl rfl rfl rfl fun G4=>?_);refine zF (b:=G4) ((([(s).bal,(d).bal]:List Int).map aD).flatten) rfl ?_;refine aa (zH rfl (fun w1 a6=>vZ (some ⟨G4,0,none⟩) (2) (2) (([(s).bal,(d).bal]:List Int)) w1 (Rdb.toOld (InL.rdb (b:=G4) (els:=(([(s).bal,(d).bal]:List Int)).map aD) rfl aM rfl) a6) (by first|assumption|(intro x hx;simp at hx;first|(rcases hx with rfl|rfl<;>omega)|(rcases hx with rfl|rfl|rfl<;>omega)|(subst hx;omega))) bB) rfl ?_);refine rn [2,40,40,3,3,0,1,2,2] ?_;refine zS 19 rfl (fun h1=>?_) (fun h1=>?_)
 ·refine rn [22,2,22,4,22,5,22,56,41,3,0,11] ?_;exact dD rfl rfl fun w' a5=>⟨by first|rfl|(simp[tst];done)|(simp_all[tst];done),a5.upd⟩
 refine rn [21,21,21,21,42,3,0,11] ?_;exact dD rfl rfl fun w' a5=>⟨by first|rfl|(simp[tst];done)|(simp_all[tst];done),a5.upd⟩
theorem kK (s d:V) (c:C) (w:World) (hs:0≤s.bal∧s.bal≤18446744073709551615) (hd:0≤d.bal∧d.bal≤18446744073709551615):Pur Tryz.prog 180 [s.v,d.v,c.v] w (aH (dn s d c)):=by
 refine Γ Tryz.func180 25 (WOK.start [] _) ?_;refine Ri ?_;refine aa (aq rfl rfl rfl fun b3=>?_);refine aa (aq rfl rfl rfl fun b4=>?_);refine aa (aq rfl rfl rfl fun b5=>rn [3,0,8,1] ?_);refine aa (zJ [] rfl (fun w1 a6 a8=>by have h7:=oe w1;exact h7) rfl ?_);rintro b9 _;refine ii (SK ?_);refine dP [3,4,5,6,9,10] (fun(x:Nat)=>[(11,aI x)]) (fun(x:Nat)=>[Res.blk b3 52 s.c,Res.blk b4 52 d.c,Res.blk b5 24 c.c,Res.blk b9 354 [Value.func (.func 293) #[] #[],aH 8,.func (.func 294) #[] #[],aH 9,.func (.func 295) #[] #[],aH 3]]) (fun(x:Nat)=>x≤3∧(∀j<x,tst s d c j=true)) (fun(x:Nat)=>3-x) 0 (by(try dsimp only);exact⟨aK,aM⟩) ?_;rintro k ⟨f6,pre⟩;replace f6:k≤3:=f6;replace pre:∀j<k,tst s d c j=true:=pre;refine Rj ?_;refine zB rfl (fun D5=>?_) (fun D5=>?_)
 ·have f8:k<3:=by have h9:=bW D5;omega
  refine Sg ?_;rcases(show k=0∨k=1∨k=2 by omega) with rfl|rfl|rfl
  ·refine rn [10] ?_;refine s_q (zM (i:=0) rfl rfl rfl (InL.rdb (b:=b9) (els:=[[Value.func (.func 293) #[] #[],aH 8],[.func (.func 294) #[] #[],aH 9],[.func (.func 295) #[] #[],aH 3]]) rfl aM rfl) aS) rfl ?_;refine s_q (zU (i:=0) rfl (InL.rdb (b:=b9) (els:=[[Value.func (.func 293) #[] #[],aH 8],[.func (.func 294) #[] #[],aH 9],[.func (.func 295) #[] #[],aH 3]]) rfl aM rfl) rfl rfl) rfl ?_;refine aa (zK rfl fun b8=>rn [33,0,1,4,5,45,45,45] ?_);refine aa (uY rfl rfl (fun w1 a6=>Gh s d c w1 hs hd) rfl (rn [48,0] ?_));refine zB rfl (fun Z4=>?_) (fun Z4=>?_)
   ·refine rn [1,4,5,3,0,11] ?_;refine zL (zD (zD (zL (zD ?_))));exact dD rfl rfl fun w' a5=>⟨by simp_all[dn],a5.upd⟩
   refine RK ?_;exact cr (0+1) (by(try dsimp only);exact⟨aK,(by intro j hj;rcases(show j=0 by omega) with rfl;all_goals first|assumption|(simpa using Z4))⟩)
  ·have p0:=pre 0 aK;refine rn [10] ?_;refine s_q (zM (i:=1) rfl rfl rfl (InL.rdb (b:=b9) (els:=[[Value.func (.func 293) #[] #[],aH 8],[.func (.func 294) #[] #[],aH 9],[.func (.func 295) #[] #[],aH 3]]) rfl aM rfl) aS) rfl ?_;refine s_q (zU (i:=1) rfl (InL.rdb (b:=b9) (els:=[[Value.func (.func 293) #[] #[],aH 8],[.func (.func 294) #[] #[],aH 9],[.func (.func 295) #[] #[],aH 3]]) rfl aM rfl) rfl rfl) rfl ?_;refine aa (zK rfl fun b8=>rn [33,0,1,4,5,45,45,45] ?_);refine aa (uY rfl rfl (fun w1 a6=>Gg s d c w1 hs hd) rfl (rn [48,0] ?_));refine zB rfl (fun hx3=>?_) (fun hx3=>?_)
   ·refine rn [1,4,5,3,0,11] ?_;refine zL (zD (zD (zL (zD ?_))));exact dD rfl rfl fun w' a5=>⟨by simp_all[dn],a5.upd⟩
   refine RK ?_;exact cr (1+1) (by(try dsimp only);exact⟨aK,(by intro j hj;rcases(show j=0∨j=1 by omega) with rfl|rfl;all_goals first|assumption|(simpa using hx3))⟩)
  have p0:=pre 0 aK;have p1:=pre 1 aK;refine rn [10] ?_;refine s_q (zM (i:=2) rfl rfl rfl (InL.rdb (b:=b9) (els:=[[Value.func (.func 293) #[] #[],aH 8],[.func (.func 294) #[] #[],aH 9],[.func (.func 295) #[] #[],aH 3]]) rfl aM rfl) aS) rfl ?_;refine s_q (zU (i:=2) rfl (InL.rdb (b:=b9) (els:=[[Value.func (.func 293) #[] #[],aH 8],[.func (.func 294) #[] #[],aH 9],[.func (.func 295) #[] #[],aH 3]]) rfl aM rfl) rfl rfl) rfl ?_;refine aa (zK rfl fun b8=>rn [33,0,1,4,5,45,45,45] ?_);refine aa (uY rfl rfl (fun w1 a6=>Gf s d c w1 hs hd) rfl (rn [48,0] ?_));refine zB rfl (fun hx4=>?_) (fun hx4=>?_)
  ·refine rn [1,4,5,3,0,11] ?_;refine zL (zD (zD (zL (zD ?_))));exact dD rfl rfl fun w' a5=>⟨by simp_all[dn],a5.upd⟩
  refine RK ?_;exact cr (2+1) (by(try dsimp only);exact⟨aK,(by intro j hj;rcases(show j=0∨j=1∨j=2 by omega) with rfl|rfl|rfl;all_goals first|assumption|(simpa using hx4))⟩)
 obtain rfl:k=3:=by have h9:=bX D5;omega
 have p0:=pre 0 aK;have p1:=pre 1 aK;have p2:=pre 2 aK;refine Ru ?_;refine zE (zE (zQ (So ?_)));exact dD rfl rfl fun w' a5=>⟨by simp_all[dn],a5.upd⟩
theorem ny (s d:V) (c:C) (w:World) (hs:0≤s.bal∧s.bal≤18446744073709551615) (hd:0≤d.bal∧d.bal≤18446744073709551615):Pur Tryz.prog 262 [s.v,d.v,c.v] w (aH (dn s d c)):=by
 refine Γ Tryz.func262 40 (WOK.start [] _) ?_;refine Ri ?_;refine aa (aq rfl rfl rfl fun b3=>?_);refine aa (aq rfl rfl rfl fun b4=>?_);refine aa (aq rfl rfl rfl fun b5=>rn [3,0,8,1,4,5,51,2] ?_);refine zS 12 rfl (fun h1=>?_) (fun h1=>?_)
 ·refine rn [21,21,21,41,0,19,1,3,0,11,13] ?_;exact dD rfl rfl fun w' a5=>⟨by first|(simp_all[dn,tst];done)|(simp_all[dn,tst];omega),a5.upd⟩
 refine rn [22,4,22,5,22,51,42,0] ?_;refine zB rfl (fun h2=>?_) (fun h2=>?_)
 ·refine Re ?_;exact dD rfl rfl fun w' a5=>⟨by first|(simp_all[dn,tst];done)|(simp_all[dn,tst];omega),a5.upd⟩
 refine rn [12,7,8,1,4,5,2] ?_;refine zS 19 rfl (fun h3=>?_) (fun h3=>?_)
 ·refine Sk ?_;exact dD rfl rfl fun w' a5=>⟨by first|(simp_all[dn,tst];done)|(simp_all[dn,tst];omega),a5.upd⟩
 refine rn [22,4,22,5,42,0] ?_;refine zB rfl (fun h4=>?_) (fun h4=>?_)
 ·refine Re ?_;exact dD rfl rfl fun w' a5=>⟨by first|(simp_all[dn,tst];done)|(simp_all[dn,tst];omega),a5.upd⟩
 refine rn [12,7,1,4,5,4,5] ?_;refine aa (bg rfl rfl rfl rfl rfl fun P0=>?_);refine zF (b:=P0) ((([(s).bal,(d).bal]:List Int).map aD).flatten) rfl ?_;refine aa (zH rfl (fun w1 a6=>tI (some ⟨P0,0,none⟩) (2) (2) (([(s).bal,(d).bal]:List Int)) w1 (Rdb.toOld (InL.rdb (b:=P0) (els:=(([(s).bal,(d).bal]:List Int)).map aD) rfl aM rfl) a6) (by first|assumption|(intro x hx;simp at hx;first|(rcases hx with rfl|rfl<;>omega)|(rcases hx with rfl|rfl|rfl<;>omega)|(subst hx;omega))) bB) rfl ?_);refine Sc ?_;refine zS 34 rfl (fun h5=>?_) (fun h5=>?_)
 ·refine Sp ?_;exact dD rfl rfl fun w' a5=>⟨by first|(simp_all[dn,tst];done)|(simp_all[dn,tst];omega),a5.upd⟩
 refine rn [22,2,22,4,22,5,22,55,42,0] ?_;refine zB rfl (fun h6=>?_) (fun h6=>?_)
 ·refine Re ?_;exact dD rfl rfl fun w' a5=>⟨by first|(simp_all[dn,tst];done)|(simp_all[dn,tst];omega),a5.upd⟩
 refine rn [12,7,1,3,0,11] ?_;exact dD rfl rfl fun w' a5=>⟨by first|(simp_all[dn,tst];done)|(simp_all[dn,tst];omega),a5.upd⟩
def apS (s d:V) (c:C):V:=if dn s d c=0 then { s with bal:=0,st:=7 } else V0
def apD (s d:V) (c:C):V:=if dn s d c=0 then { d with bal:=IntKind.u64.wrap (d.bal+s.bal) } else V0
theorem nN {s d:V} {c:C} (h:dn s d c=0):s.st=2∧d.st=2∧s.sl=false∧d.sl=false∧s.bal+d.bal≤18446744073709551615∧s.bal+d.bal≤c.maxb:=by
 unfold dn at h;split at h
 ·omega
 split at h
 ·omega
 split at h
 ·omega
 rename_i h1 h2 h3;simp only[tst,eI,df,dB,List.sum_nil,Int.add_zero,Bool.and_eq_false_iff,Bool.not_eq_false',decide_eq_false_iff_not,not_or,Decidable.not_not] at h1 h2 h3;obtain⟨h4,h5⟩:=h3;rw[bZ h4] at h5;refine⟨h1.1,h1.2,by simpa using h2.1,by simpa using h2.2,h4,h5⟩
theorem wG (s d:V) (c:C) (w:World) (hs:0≤s.bal∧s.bal≤18446744073709551615) (hd:0≤d.bal∧d.bal≤18446744073709551615):Pur Tryz.prog 233 [s.v,d.v,c.v] w (.tuple [V.v (apS s d c),V.v (apD s d c),aH (dn s d c)].toArray):=by
 refine Γ Tryz.func233 35 (WOK.start [] _) ?_;refine Ri ?_;refine aa (aq rfl rfl rfl fun b3=>?_);refine aa (aq rfl rfl rfl fun b4=>?_);refine aa (aq rfl rfl rfl fun b5=>?_);refine aa (zK rfl fun b6=>?_);refine aa (zK rfl fun b7=>rn [3,0,8,1,45,45,45] ?_);refine aa (zH rfl (fun w1 a6=>kK _ _ c w1 aN aN) rfl (rn [3,0,1,2,51,0] ?_));refine zB rfl (fun h1=>?_) (fun h1=>?_)
 ·refine Ri ?_;refine s_q (yF (c:=V0.c) rfl rfl) rfl ?_;refine s_q (yF (c:=V0.c) rfl rfl) rfl (rn [2,33,33,3,0,11,13] ?_);exact dI rfl (.cellw rfl rfl) (.cellw rfl rfl) (.tmp rfl) fun w' a5=>⟨by have h0:¬dn s d c=0:=(by simpa using h1);simp[apS,apD,bY h0,V.v],a5.upd⟩
 have h0:dn s d c=0:=by simpa using h1
 have hcs:=nN h0;refine rn [12,7,1,4,5,4,5,54,4] ?_;refine aa (zI rfl rfl rfl rfl rfl rfl rfl (rn [0,1,4] ?_));refine aa (zI rfl rfl rfl rfl rfl rfl rfl (rn [0,1,4,5] ?_));refine ae 28 (v' := aH 2) rfl (by rw[hcs.1]) ?_;refine aa (zH rfl (fun w1 a6=>EZ w1) rfl (rn [2,40,40,4] ?_));refine aa (zI rfl rfl rfl rfl rfl rfl rfl (Sw ?_));refine bn [0,1,2,3] an rfl ?_;refine yJ [0,1] aL aM zG ⟨bu rfl (G.quiet (xT rfl rfl) rfl ?_),bu rfl (G.quiet (xT rfl rfl) rfl ?_),trivial⟩
 ·refine yJ [1,2] aL aM zG ⟨bu rfl (G.quiet (xT rfl rfl) rfl ?_),bu rfl (zT rfl rfl rfl rfl rfl ?_),trivial⟩
  ·refine fJ 2 rfl (zT rfl rfl rfl rfl rfl ?_);refine fJ 3 rfl (zT rfl rfl rfl rfl rfl (rn [24,4,3,28,7,11] ?_));exact dI rfl (.cellw rfl rfl) (.cellw rfl rfl) (.tmp rfl) fun w' a5=>⟨by simp[apS,apD,bZ h0,h0,V.v,V.c,ay],a5.upd⟩
  refine fJ 1 rfl (G.quiet (xT rfl rfl) rfl ?_);refine fJ 3 rfl (zT rfl rfl rfl rfl rfl (rn [24,4,3,28,7,11] ?_));exact dI rfl (.cellw rfl rfl) (.cellw rfl rfl) (.tmp rfl) fun w' a5=>⟨by simp[apS,apD,bZ h0,h0,V.v,V.c,ay],a5.upd⟩
 refine fJ 0 rfl (G.quiet (xT rfl rfl) rfl ?_);refine fJ 2 rfl (zT rfl rfl rfl rfl rfl ?_);refine fJ 3 rfl (zT rfl rfl rfl rfl rfl (rn [24,4,3,28,7,11] ?_));exact dI rfl (.cellw rfl rfl) (.cellw rfl rfl) (.tmp rfl) fun w' a5=>⟨by simp[apS,apD,bZ h0,h0,V.v,V.c,ay],a5.upd⟩
def atV (l:List V) (i:Int):V:=(l[i.toNat]?).getD V0
theorem sU {l:List V} {k:Nat} {i:Int} (hi:i=(k:Int)) (h:k<l.length):atV l i=l[k]:=by
 subst hi;unfold atV;rw[Int.toNat_natCast,List.getElem?_eq_getElem h];rfl
def dN (l:List V) (i j:Int) (c:C):Int:=if i<0∨(l.length:Int)≤i∨j<0∨(l.length:Int)≤j then 7 else if i=j then 12 else dn (atV l i) (atV l j) c
def okV (l:List V):Prop:=∀x∈l,0≤x.bal∧x.bal≤18446744073709551615
theorem py (A:bU) (n cap:Nat) (l:List V) (i j:Int) (c:C) (w:World) (hl:Old w A n 7 (l.map V.c)) (i6:okV l) (hb:n≤1000000):Pur Tryz.prog 117 [.slice A n cap,aH i,aH j,c.v] w (aH (dN l i j c)):=by
 refine Γ Tryz.func117 39 (WOK.start [] _) ?_;have hn:n=l.length:=by simpa using hl.len
 refine Ri ?_;refine aa (aq rfl rfl rfl fun b7=>rn [3,0,8,1,2,2,49,2,0,14] ?_);refine dP [0,1,2,7,8,13] (fun(x:Nat)=>[(14,aI x)]) (fun(x:Nat)=>[Res.blk b7 24 c.c]) (fun(x:Nat)=>x≤2∧(0<x→0≤i∧i<(l.length:Int))∧(1<x→0≤j∧j<(l.length:Int))) (fun(x:Nat)=>2-x) 0 (by(try dsimp only);exact⟨aK,aK,aK⟩) ?_;rintro k ⟨f6,p0,p1⟩;replace f6:k≤2:=f6;replace p0:0<k→0≤i∧i<(l.length:Int):=p0;replace p1:1<k→0≤j∧j<(l.length:Int):=p1;refine Rj ?_;refine zB rfl (fun D5=>?_) (fun D5=>?_)
 ·have f8:k<2:=by have h9:=bW D5;omega
  refine Sg ?_;rcases(show k=0∨k=1 by omega) with rfl|rfl
  ·refine rn [10] ?_;refine s_q (rW (i:=0) (v:=aH i) rfl rfl rfl aO rfl) rfl (rn [3,0,1,2,46,2] ?_);refine zS 19 rfl (fun Z4=>?_) (fun Z4=>?_)
   ·refine rn [21,21,21,21,41,0,19,1,3,0,11] ?_;refine zL (zD (zD (zL (zD ?_))));exact dD rfl rfl fun w' a5=>⟨by first|(simp_all[dN];done)|(simp_all[dN];omega)|(unfold dN;rw[bZ bE])|(unfold dN;rw[bY aK,bZ bJ])|(unfold dN;rw[bY aK,bY bC,ei,ej]),a5.upd⟩
   refine RU ?_;refine zB rfl (fun hx3=>?_) (fun hx3=>?_)
   ·refine RN ?_;refine zL (zD (zD (zL (zD ?_))));exact dD rfl rfl fun w' a5=>⟨by first|(simp_all[dN];done)|(simp_all[dN];omega)|(unfold dN;rw[bZ bE])|(unfold dN;rw[bY aK,bZ bJ])|(unfold dN;rw[bY aK,bY bC,ei,ej]),a5.upd⟩
   refine RK ?_;exact cr (0+1) (by(try dsimp only);exact⟨aK,(by simp at Z4 hx3;omega),(by simp at Z4 hx3;omega)⟩)
  have q0:=p0 aK;refine rn [10] ?_;refine s_q (rW (i:=1) (v:=aH j) rfl rfl rfl aO rfl) rfl (rn [3,0,1,2,46,2] ?_);refine zS 19 rfl (fun hx4=>?_) (fun hx4=>?_)
  ·refine rn [21,21,21,21,41,0,19,1,3,0,11] ?_;refine zL (zD (zD (zL (zD ?_))));exact dD rfl rfl fun w' a5=>⟨by first|(simp_all[dN];done)|(simp_all[dN];omega)|(unfold dN;rw[bZ bE])|(unfold dN;rw[bY aK,bZ bJ])|(unfold dN;rw[bY aK,bY bC,ei,ej]),a5.upd⟩
  refine RU ?_;refine zB rfl (fun hx5=>?_) (fun hx5=>?_)
  ·refine RN ?_;refine zL (zD (zD (zL (zD ?_))));exact dD rfl rfl fun w' a5=>⟨by first|(simp_all[dN];done)|(simp_all[dN];omega)|(unfold dN;rw[bZ bE])|(unfold dN;rw[bY aK,bZ bJ])|(unfold dN;rw[bY aK,bY bC,ei,ej]),a5.upd⟩
  refine RK ?_;exact cr (1+1) (by(try dsimp only);exact⟨aK,(by simp at hx4 hx5;omega),(by simp at hx4 hx5;omega)⟩)
 obtain rfl:k=2:=by have h9:=bX D5;omega
 have q0:=p0 aK;have q1:=p1 aK;obtain⟨ni,z8⟩:∃k:Nat,i=k:=⟨i.toNat,aK⟩
 obtain⟨nj,O0⟩:∃k:Nat,j=k:=⟨j.toNat,aK⟩
 have hi:ni<l.length:=by omega
 have hj:nj<l.length:=by omega
 have ei:=sU z8 hi;have ej:=sU O0 hj;have bi:=i6 _ (cC hi);have bj:=i6 _ (cC hj);refine Ru ?_;refine zE (zE (zQ (rn [7,8,1,2,2,44,0] ?_)));refine zB rfl (fun hx6=>?_) (fun hx6=>?_)
 ·refine Re ?_;exact dD rfl rfl fun w' a5=>⟨by first|(simp_all[dN];done)|(simp_all[dN];omega)|(unfold dN;rw[bZ bE])|(unfold dN;rw[bY aK,bZ bJ])|(unfold dN;rw[bY aK,bY bC,ei,ej]),a5.upd⟩
 refine RM ?_;refine bn [] an rfl (RV ?_);refine ae 30 (v' := aI ni) rfl (by rw[z8]) ?_;refine dq 2 rfl (zM (i:=ni) rfl rfl rfl (hl.rdb rfl) aS) ?_;refine dq 3 rfl (zU (i:=ni) rfl (hl.rdb rfl) (zP bD) rfl) (SU ?_);refine ae 34 (v' := aI nj) rfl (by rw[O0]) ?_;refine dq 6 rfl (zM (i:=nj) rfl rfl rfl (hl.rdb rfl) aS) ?_;refine dq 7 rfl (zU (i:=nj) rfl (hl.rdb rfl) (zP bD) rfl) (rn [23,8,45] ?_);refine dop 9 rfl (zH rfl (fun w1 a6=>kK _ _ c w1 bi bj) rfl (rn [23,10,3,27,7,11] ?_));exact dD rfl rfl fun w' a5=>⟨by first|(simp_all[dN];done)|(simp_all[dN];omega)|(unfold dN;rw[bZ bE])|(unfold dN;rw[bY aK,bZ bJ])|(unfold dN;rw[bY aK,bY bC,ei,ej]),a5.upd⟩
theorem lz (A:bU) (n cap:Nat) (l:List V) (i j:Int) (c:C) (w:World) (hl:Old w A n 7 (l.map V.c)) (i6:okV l) (hb:n≤1000000):Pur Tryz.prog 197 [.slice A n cap,aH i,aH j,c.v] w (aH (dN l i j c)):=by
 refine Γ Tryz.func197 40 (WOK.start [] _) ?_;have hn:n=l.length:=by simpa using hl.len
 refine Ri ?_;refine aa (aq rfl rfl rfl fun b7=>rn [3,0,8,1,2,46,2] ?_);refine zS 11 rfl (fun h1=>?_) (fun h1=>?_)
 ·refine rn [21,21,41,2,21,21,21,21,41,2,21,21,21,21,41,0,19,1,3,0,11,13] ?_;exact dD rfl rfl fun w' a5=>⟨by first|(simp_all[dN];done)|(unfold dN;rw[bZ bE])|(unfold dN;rw[bY aK,bY (bX h5),ei,ej])|(unfold dN;rw[bY aK,bZ (bW h5)]),a5.upd⟩
 refine rn [22,2,22,46,42,2] ?_;refine zS 15 rfl (fun h2=>?_) (fun h2=>?_)
 ·refine rn [21,21,21,21,41,2,21,21,21,21,41,0,19,1,3,0,11,13] ?_;exact dD rfl rfl fun w' a5=>⟨by first|(simp_all[dN];done)|(unfold dN;rw[bZ bE])|(unfold dN;rw[bY aK,bY (bX h5),ei,ej])|(unfold dN;rw[bY aK,bZ (bW h5)]),a5.upd⟩
 refine rn [22,2,22,2,22,47,22,53,42,2] ?_;refine zS 21 rfl (fun h3=>?_) (fun h3=>?_)
 ·refine Sp ?_;exact dD rfl rfl fun w' a5=>⟨by first|(simp_all[dN];done)|(unfold dN;rw[bZ bE])|(unfold dN;rw[bY aK,bY (bX h5),ei,ej])|(unfold dN;rw[bY aK,bZ (bW h5)]),a5.upd⟩
 refine RU ?_;refine zB rfl (fun h4=>?_) (fun h4=>?_)
 ·refine Re ?_;exact dD rfl rfl fun w' a5=>⟨by first|(simp_all[dN];done)|(unfold dN;rw[bZ bE])|(unfold dN;rw[bY aK,bY (bX h5),ei,ej])|(unfold dN;rw[bY aK,bZ (bW h5)]),a5.upd⟩
 refine rn [12,7,8,1,2,2,44,0] ?_;refine zB rfl (fun h5=>?_) (fun h5=>?_)
 ·refine Re ?_;exact dD rfl rfl fun w' a5=>⟨by first|(simp_all[dN];done)|(unfold dN;rw[bZ bE])|(unfold dN;rw[bY aK,bY (bX h5),ei,ej])|(unfold dN;rw[bY aK,bZ (bW h5)]),a5.upd⟩
 simp at h1 h2 h3 h4;obtain⟨ni,z8⟩:∃k:Nat,i=k:=⟨i.toNat,aK⟩
 obtain⟨nj,O0⟩:∃k:Nat,j=k:=⟨j.toNat,aK⟩
 have hi:ni<l.length:=by omega
 have hj:nj<l.length:=by omega
 have ei:=sU z8 hi;have ej:=sU O0 hj;have bi:=i6 _ (cC hi);have bj:=i6 _ (cC hj);refine RM ?_;refine bn [] an rfl (RV ?_);refine ae 31 (v' := aI ni) rfl (by rw[z8]) ?_;refine dq 2 rfl (zM (i:=ni) rfl rfl rfl (hl.rdb rfl) aS) ?_;refine dq 3 rfl (zU (i:=ni) rfl (hl.rdb rfl) (zP bD) rfl) (SU ?_);refine ae 35 (v' := aI nj) rfl (by rw[O0]) ?_;refine dq 6 rfl (zM (i:=nj) rfl rfl rfl (hl.rdb rfl) aS) ?_;refine dq 7 rfl (zU (i:=nj) rfl (hl.rdb rfl) (zP bD) rfl) (rn [23,8,45] ?_);refine dop 9 rfl (zH rfl (fun w1 a6=>ny _ _ c w1 bi bj) rfl (rn [23,10,3,27,7,11] ?_));exact dD rfl rfl fun w' a5=>⟨by first|(simp_all[dN];done)|(unfold dN;rw[bZ bE])|(unfold dN;rw[bY aK,bY (bX h5),ei,ej])|(unfold dN;rw[bY aK,bZ (bW h5)]),a5.upd⟩
theorem lK (A:bU) (n cap:Nat) (l:List V) (w:World) (hrd:Rd w [] A n 7 (l.map V.c)) (j5:n≤1000000):au (ι:=(bU × Nat)) Tryz.prog 91 [.slice A n cap] w [] (fun x=>True) (fun x=>.slice x.1 l.length x.2) (fun x=>[Res.row x.1 l.length x.2 52 7 (l.map V.c)]) (fun x=>[]):=by
 refine Γ Tryz.func91 8 (WOK.start (fps []) _) ?_;have hn:n=l.length:=by have:=hrd.old.len;simpa using this
 refine rn [1,3,0,8,1,2] ?_;refine s_q (EI rfl rfl) rfl (rn [0] ?_);refine zB rfl (fun h1=>?_) (fun h1=>?_)
 ·refine Re ?_;have h0:A=none:=by simpa using h1
  have hl:l=[]:=by
    rcases Nat.eq_zero_or_pos n with h2|h2
    · exact List.eq_nil_of_length_eq_zero (by have:=hrd.old.len;simp at this;omega)
    · have:=(hrd.old.at_ h2).1;rw[h0] at this;simp at this
  subst hl;refine zY none 52 7 (([]:List V).map V.c) rfl ?_;exact dD rfl rfl fun w' a5=>⟨((none:bU),(0:Nat)),aQ,rfl,by have h9:=zG (L' := [Res.row none 0 0 52 7 (([]:List V).map V.c)]) w' a5;exact h9⟩
 refine rn [12,7,1] ?_;refine aa (bg rfl rfl rfl rfl rfl fun b5=>?_);refine xL (t:=5) (T:=52) (k:=7) rfl fun A5 cap5 hc5=>?_;refine zC (A:=A5) (([]:List V).map V.c) rfl (SD ?_);refine aa (zW (A:=A5) (els:=(([]:List V)).map V.c) (news:=((l).map V.c)) rfl rfl hrd.rdb (zZ (c:=V.c) (by intro x;simp[V.c,Value.oneCell']) _) aR rfl fun A7 t9=>⟨_,inferInstance,?_⟩);refine zC (A:=A7) ((l).map V.c) (by first|rfl|exact cA.symm|(simp;done)) ?_;refine zR (A:=A7) (n) aM ?_;refine ae 7 (v' := .slice A7 (n) t9) rfl aM (Rb ?_);exact dD rfl rfl fun w' a5=>⟨(A7,t9),aQ,by rw[←hn],by rw[←hn];exact zA w' a5⟩
theorem Fk (A:bU) (n cap:Nat) (l:List V) (i:Nat) (y:V) (w:World) (hrd:Rd w [] A n 7 (l.map V.c)) (j5:n≤1000000) (hi:i<l.length):au (ι:=(bU × Nat)) Tryz.prog 192 [.slice A n cap,aI i,y.v] w [] (fun x=>True) (fun x=>.slice x.1 (l.set i y).length x.2) (fun x=>[Res.row x.1 (l.set i y).length x.2 52 7 ((l.set i y).map V.c)]) (fun x=>[]):=by
 refine Γ Tryz.func192 16 (WOK.start (fps []) _) ?_;have hn:n=l.length:=by have:=hrd.old.len;simpa using this
 refine Ri ?_;refine aa (aq (c:=V.c y) rfl rfl rfl fun b5=>rn [3,0,1] ?_);refine aa (bg rfl rfl rfl rfl rfl fun b8=>?_);refine xL (t:=8) (T:=52) (k:=7) rfl fun A8 D7 H8=>?_;refine zC (A:=A8) (([]:List V).map V.c) rfl (SD ?_);refine aa (zW (A:=A8) (els:=(([]:List V)).map V.c) (news:=((l).map V.c)) rfl rfl hrd.rdb (zZ (c:=V.c) (by intro x;simp[V.c,Value.oneCell']) _) aR rfl fun A10 C1=>⟨_,inferInstance,?_⟩);refine zC (A:=A10) ((l).map V.c) (by first|rfl|exact cA.symm|(simp;done)) ?_;refine zR (A:=A10) (n) aM ?_;refine ae 10 (v' := .slice A10 (n) C1) rfl aM (rn [3,0,1,2,2,45] ?_);refine s_q (zM (i:=i) rfl rfl rfl (ird (A:=A10)) aS) rfl ?_;refine aa (yD (A:=A10) (i:=i) (o:=0) (cs' := V.c (y)) rfl rfl rfl rfl rfl (zP aT) aY rfl (yH rfl) ?_);refine zC (A:=A10) ((l.set i y).map V.c) (by simp only[dA]) (SJ ?_);exact dD rfl rfl fun w' a5=>⟨(A10,C1),aQ,by simp[hn],by rw[List.length_set,←hn];exact zA w' a5⟩
def atN (l:List V) (i:Nat):V:=(l[i]?).getD V0
theorem sV {l:List V} {i:Nat} (h:i<l.length):atN l i=l[i]:=by unfold atN;rw[List.getElem?_eq_getElem h];rfl
def mvN (l:List V) (i j:Nat):List V:=(l.set i { atN l i with bal:=0,st:=7 }).set j { atN l j with bal:=IntKind.u64.wrap ((atN l j).bal+(atN l i).bal) }
theorem ql (l:List V) (i j:Nat):(mvN l i j).length=l.length:=by simp[mvN]
def iX (l:List V) (p:PP) (c:C):Bool:=decide (dN l p.a p.b c=0)
def dy (c:C) (s:List V × List Bool) (p:PP):List V × List Bool:=(if iX s.1 p c then mvN s.1 p.a.toNat p.b.toNat else s.1,s.2++[iX s.1 p c])
def runM (c:C) (l:List V) (q:List PP):List V × List Bool:=q.foldl (dy c) (l,[])
theorem wF {c:C} {l:List V} {q:List PP} {k:Nat} (h:k<q.length):runM c l (q.take (k+1))=dy c (runM c l (q.take k)) q[k]:=by
 unfold runM;rw[←cB h,List.foldl_append];rfl
theorem kF (c:C):∀(q:List PP) (s:List V × List Bool),(q.foldl (dy c) s).1.length=s.1.length∧(q.foldl (dy c) s).2.length=s.2.length+q.length
 | [],_=>by simp
 | p :: q,s=>by
  rw[cR];obtain⟨h1,h2⟩:=kF c q (dy c s p);rw[h1,h2];refine⟨?_,by simp[dy];omega⟩;unfold dy;dsimp only;split
  ·exact ql _ _ _
  rfl
theorem yG (c:C) (l:List V) (q:List PP):(runM c l q).1.length=l.length∧(runM c l q).2.length=q.length:=by
 have:=kF c q (l,[]);simpa[runM] using this
theorem nr {l:List V} {i j:Int} {c:C} (h:dN l i j c=0):0≤i∧i<(l.length:Int)∧0≤j∧j<(l.length:Int)∧i≠j∧dn (atV l i) (atV l j) c=0:=by
 unfold dN at h;split at h
 ·omega
 split at h
 ·omega
 exact⟨aK,aK,aK,aK,by assumption,h⟩
theorem EX {l:List V} (h:okV l) {i j:Nat}:okV (mvN l i j):=by
 intro x hx;unfold mvN at hx;rcases List.mem_or_eq_of_mem_set hx with hx|hx
 ·rcases List.mem_or_eq_of_mem_set hx with hx|hx
  ·exact h x hx
  subst hx;simp
 subst hx;show 0≤IntKind.u64.wrap _∧IntKind.u64.wrap _≤_;rw[cF];omega
theorem mV (c:C):∀(q:List PP) (s:List V × List Bool),okV s.1→okV (q.foldl (dy c) s).1
 | [],_,h=>h
 | p :: q,s,h=>by
  rw[cR];refine mV c q _ ?_;unfold dy;dsimp only;split
  ·exact EX h
  exact h
theorem qj {c:C} {l:List V} (q:List PP) (h:okV l):okV (runM c l q).1:=mV c q (l,[]) h
theorem Bd {c:C} {s:List V} {p:PP} {ni nj:Nat} (ha:p.a=(ni:Int)) (hb:p.b=(nj:Int)) (hi:ni<s.length) (hj:nj<s.length) (h0:dn s[ni] s[nj] c=0):(s.set ni (apS s[ni] s[nj] c)).set nj (apD s[ni] s[nj] c)=mvN s p.a.toNat p.b.toNat:=by
 rw[ha,hb];simp only[Int.toNat_natCast,mvN,sV hi,sV hj,apS,apD,h0,if_true]
theorem zn (A:bU) (n cap:Nat) (l:List V) (i j:Nat) (w:World) (hl:Rd w [] A n 7 (l.map V.c)) (hb:n≤1000000) (hi:i<l.length) (hj:j<l.length):au (ι:=(bU × Nat)) Tryz.prog 307 [.slice A n cap,aI i,aI j] w [] (fun x=>True) (fun x=>.slice x.1 (mvN l i j).length x.2) (fun x=>[Res.row x.1 (mvN l i j).length x.2 52 7 ((mvN l i j).map V.c)]) (fun x=>[]):=by
 refine Γ Tryz.func307 32 (WOK.start (fps []) _) ?_;have hn:n=l.length:=by have:=hl.old.len;simpa using this
 refine Sf ?_;refine s_q (zM (i:=i) rfl rfl rfl hl.rdb aS) rfl ?_;refine s_q (zU (i:=i) rfl hl.rdb (zP bD) rfl) rfl ?_;refine aa (zK rfl fun b7=>rn [33,0,1,2,2] ?_);refine s_q (zM (i:=j) rfl rfl rfl hl.rdb aS) rfl ?_;refine s_q (zU (i:=j) rfl hl.rdb (zP bD) rfl) rfl ?_;refine aa (zK rfl fun b8=>rn [33,0,1,4,5,4,5,54,4] ?_);refine aa (zI rfl rfl rfl rfl rfl rfl rfl ?_);refine zF (b:=b8) (V.c { l[j] with bal:=IntKind.u64.wrap ((l[j]).bal+(l[i]).bal) }) (by simp[V.c,ay]) (rn [0,1,4] ?_);refine aa (zI rfl rfl rfl rfl rfl rfl rfl (rn [0,1,4] ?_));refine aa (zI rfl rfl rfl rfl rfl rfl rfl ?_);refine zF (b:=b7) (V.c { l[i] with bal:=0,st:=7 }) (by simp[V.c,ay]) (Sw ?_);refine bn [] an rfl (rn [23,0,2,23,1,2,23,2,45,23,4,2,23,5,45] ?_);refine dop 3 rfl (zJ [] rfl (fun w1 a6 a8=>by have h7:=Fk A (n) (cap) (l) (i) ({ l[i] with bal:=0,st:=7 }) w1 (Rd.ofRd a6 hl aK) aZ bI;exact h7) rfl ?_);rintro⟨A28,cap28⟩ _;refine ii ?_;refine dop 6 rfl (zJ [] rfl (fun w1 a6 a8=>by have h7:=Fk A28 (((l).set i ({ l[i] with bal:=0,st:=7 })).length) (cap28) (((l).set i ({ l[i] with bal:=0,st:=7 }))) (j) ({ l[j] with bal:=IntKind.u64.wrap ((l[j]).bal+(l[i]).bal) }) w1 (Rd.ofRow (A:=A28) a6) aZ bI;exact h7) rfl ?_);rintro⟨A31,cap31⟩ _;refine ii (rn [23,7,3,27,7,11] ?_);have em:(l.set i { l[i] with bal:=0,st:=7 }).set j { l[j] with bal:=IntKind.u64.wrap ((l[j]).bal+(l[i]).bal) }=mvN l i j:=by simp only[mvN,sV hi,sV hj]
 rw[em];exact dD rfl rfl fun w' a5=>⟨(A31,cap31),aQ,by first|rfl|(simp_all;done),zA w' a5⟩
theorem nZ (A B:bU) (n cap capq P:Nat) (l:List V) (q:List PP) (c:C) (w:World) (hl:Rd w [] A n 7 (l.map V.c)) (hq:Rd w [] B q.length 2 (q.map PP.c)) (hcq:q.length≤capq) (hb:n≤1000000) (hbq:q.length≤1000000) (hP:c.merg=((P:Nat):Int)) (i6:okV l):au (ι:=(bU × Nat × bU × Nat)) Tryz.prog 154 [.slice A n cap,.slice B q.length capq,c.v] w [] (fun x=>True) (fun x=>.tuple [.slice x.1 l.length x.2.1,.slice x.2.2.1 (runM c l (q.take (min q.length P))).2.length x.2.2.2].toArray) (fun x=>[Res.row x.1 l.length x.2.1 52 7 ((runM c l (q.take (min q.length P))).1.map V.c),Res.row x.2.2.1 (runM c l (q.take (min q.length P))).2.length x.2.2.2 4 1 ((runM c l (q.take (min q.length P))).2.map aF)]) (fun x=>[]):=by
 refine Γ Tryz.func154 67 (WOK.start (fps []) _) ?_;have hn:n=l.length:=by have:=hl.old.len;simpa using this
 refine Ri ?_;refine aa (aq rfl rfl rfl fun b5=>rn [3,3,0,1,2] ?_);refine aa (zJ [] rfl (fun w1 a6 a8=>by have h7:=lK A (n) (cap) (l) w1 (Rd.ofRd a6 hl aK) aZ;exact h7) rfl ?_);rintro⟨A14,v6⟩ _;refine ii (rn [3,0,1,3] ?_);refine xA 9 4 1 rfl fun Az1 capz1 hcz1=>?_;refine zC (A:=Az1) (([]:List Bool).map aF) rfl (rn [0,8,1,2,2,47,4,5,58] ?_);refine ae 20 (v' := aI (min q.length P)) rfl (by rw[hP];congr 1;omega) ?_;refine s_q (xC (h:=(min q.length P)) rfl rfl rfl aK) rfl (SK ?_);refine zC (A:=A14) ((runM c l (q.take 0)).1.map V.c) (by simp[runM]) ?_;refine zC (A:=Az1) ((runM c l (q.take 0)).2.map aF) (by simp[runM]) ?_;refine zR (A:=Az1) (runM c l (q.take 0)).2.length (by simp[runM]) ?_;refine ae 9 (v' := .slice Az1 (runM c l (q.take 0)).2.length capz1) rfl (by simp[runM]) ?_;refine dP [5,6,7,8,21,22] (fun(x:Nat × bU × Nat)=>[(9,.slice x.2.1 (runM c l (q.take x.1)).2.length x.2.2),(23,aI x.1)]) (fun(x:Nat × bU × Nat)=>[Res.blk b5 24 c.c,Res.row A14 (l).length v6 52 7 ((runM c l (q.take x.1)).1.map V.c),Res.row x.2.1 (runM c l (q.take x.1)).2.length x.2.2 4 1 ((runM c l (q.take x.1)).2.map aF)]) (fun(x:Nat × bU × Nat)=>x.1≤(min q.length P)) (fun(x:Nat × bU × Nat)=>(min q.length P)-x.1) (0,Az1,capz1) aW ?_;rintro⟨k,B1,y3⟩ f6;replace f6:k≤(min q.length P):=f6;refine yB (L' := [Res.blk b5 24 c.c,Res.row A14 (l).length v6 52 7 ((runM c l (q.take k)).1.map V.c),Res.row B1 (runM c l (q.take k)).2.length y3 4 1 ((runM c l (q.take k)).2.map aF)]) rfl ?_;refine ae 9 (v' := .slice B1 (runM c l (q.take k)).2.length y3) rfl rfl ?_;refine ae 23 (v' := aI k) rfl rfl ?_;have hr4:=(yG c l (q.take k)).1;have hr5:=(yG c l (q.take k)).2;have hr6:(q.take k).length≤k:=List.length_take_le _ _;have K7:=qj (c:=c) (q.take k) i6;refine Rj ?_;refine zB rfl (fun h1=>?_) (fun h1=>?_)
 ·have f8:k<(min q.length P):=by have h9:=bW h1;omega
  have v8:k<q.length:=by omega
  refine Ry ?_;refine s_q (zM (i:=k) rfl rfl rfl (hq.rdb.h (cap:=capq) aK hcq) aN) rfl ?_;refine s_q (zU (i:=k) rfl (hq.rdb.h (cap:=capq) aK hcq) (uG (l:=q) (m:=(min q.length P)) bR aK) rfl) rfl ?_;refine aa (zK rfl fun p5=>rn [33,0,1,2] ?_);refine s_q (yO (i:=0) rfl rfl rfl aO) rfl (rn [5] ?_);refine s_q (yO (i:=1) rfl rfl rfl aO) rfl (rn [5,45] ?_);refine aa (zH rfl (fun w1 a6=>py A14 (l.length) (v6) ((runM c l (q.take k)).1) (_) (_) _ w1 (Rdb.toOld (InRow.rdb (A:=A14) (els:=((runM c l (q.take k)).1).map V.c) (by simp[yG]) (yA (c:=V.c) (fun _=>rfl) _)) a6) K7 aZ) rfl ?_);refine rn [44,3,0,8,1,2,0] ?_;refine zB rfl (fun h2=>?_) (fun h2=>?_)
  ·have hreq:=bW h2;obtain⟨g1,g2,g3,g4,g5,g6⟩:=nr hreq;obtain⟨ni,z8⟩:∃t:Nat,(q[k]).a=t:=⟨(q[k]).a.toNat,aK⟩
   obtain⟨nj,O0⟩:∃t:Nat,(q[k]).b=t:=⟨(q[k]).b.toNat,aK⟩
   have hi:ni<(runM c l (q.take k)).1.length:=by omega
   have hj:nj<(runM c l (q.take k)).1.length:=by omega
   have hi2:ni<l.length:=by omega
   have D6:nj<l.length:=by omega
   rw[sU z8 hi,sU O0 hj] at g6;have bi:=K7 _ (cC hi);have bj:=K7 _ (cC hj);refine dR (L0:=[Res.blk p5 106 (PP.c (q[k])),Res.blk b5 24 c.c]) [] an rfl zG (rn [23,0,2] ?_);refine dq 1 rfl (yO (i:=0) rfl rfl rfl aO) (rn [23,2,5] ?_);refine ae 39 (v' := aI ni) rfl (by rw[z8]) (rn [23,3,2] ?_);refine dq 4 rfl (yO (i:=1) rfl rfl rfl aO) (rn [23,5,5] ?_);refine ae 42 (v' := aI nj) rfl (by rw[O0]) (rn [23,6,2] ?_);refine dq 7 rfl (yO (i:=0) rfl rfl rfl aO) (rn [23,8,5] ?_);refine ae 45 (v' := aI ni) rfl (by rw[z8]) (rn [23,11,2] ?_);refine dq 12 rfl (yO (i:=1) rfl rfl rfl aO) (rn [23,13,5] ?_);refine ae 50 (v' := aI nj) rfl (by rw[O0]) (rn [23,16,45] ?_);refine dj [5,6,7,8,9,12,21,22,23] (fun(x:Unit)=>[]) (fun(x:Unit)=>[Res.blk b5 24 c.c,Res.row A14 (l).length v6 52 7 ((((runM c l (q.take k)).1.set ni (apS ((runM c l (q.take k)).1[ni]) ((runM c l (q.take k)).1[nj]) c)).set nj (apD ((runM c l (q.take k)).1[ni]) ((runM c l (q.take k)).1[nj]) c)).map V.c),Res.row B1 (runM c l (q.take k)).2.length y3 4 1 ((runM c l (q.take k)).2.map aF)]) ?_ ?_
   ·refine yJ [9,14] aL aM zG ⟨bu rfl (G.quiet (zM (i:=ni) rfl rfl rfl (InRow.rdb (A:=A14) (els:=((runM c l (q.take k)).1).map V.c) (by simp[yG]) (yA (c:=V.c) (fun _=>rfl) _)) aS) rfl ?_),bu rfl (G.quiet (zM (i:=nj) rfl rfl rfl (InRow.rdb (A:=A14) (els:=((runM c l (q.take k)).1).map V.c) (by simp[yG]) (yA (c:=V.c) (fun _=>rfl) _)) aS) rfl ?_),trivial⟩
    ·refine yJ [10,14] aL aM zG ⟨bu rfl (G.quiet (zU (i:=ni) rfl (InRow.rdb (A:=A14) (els:=((runM c l (q.take k)).1).map V.c) (by simp[yG]) (yA (c:=V.c) (fun _=>rfl) _)) (zP aT) rfl) rfl ?_),bu rfl (G.quiet (zM (i:=nj) rfl rfl rfl (InRow.rdb (A:=A14) (els:=((runM c l (q.take k)).1).map V.c) (by simp[yG]) (yA (c:=V.c) (fun _=>rfl) _)) aS) rfl ?_),trivial⟩
     ·refine dop 14 rfl (G.quiet (zM (i:=nj) rfl rfl rfl (InRow.rdb (A:=A14) (els:=((runM c l (q.take k)).1).map V.c) (by simp[yG]) (yA (c:=V.c) (fun _=>rfl) _)) aS) rfl ?_);refine dop 15 rfl (G.quiet (zU (i:=nj) rfl (InRow.rdb (A:=A14) (els:=((runM c l (q.take k)).1).map V.c) (by simp[yG]) (yA (c:=V.c) (fun _=>rfl) _)) (zP aT) rfl) rfl ?_);refine dop 17 rfl (zH rfl (fun w1 a6=>wG _ _ c w1 bi bj) rfl (RO ?_));refine dop 22 rfl (G.quiet (zM (i:=ni) rfl rfl rfl (InRow.rdb (A:=A14) (els:=((runM c l (q.take k)).1).map V.c) (by simp[yG]) (yA (c:=V.c) (fun _=>rfl) _)) aS) rfl ?_);refine dop 23 rfl (yD (A:=A14) (i:=ni) (o:=0) (cs' := V.c ((apS ((runM c l (q.take k)).1[ni]) ((runM c l (q.take k)).1[nj]) c))) rfl rfl rfl rfl rfl (zP aT) aY rfl (yH rfl) ?_);refine zC (A:=A14) (((runM c l (q.take k)).1.set ni (apS ((runM c l (q.take k)).1[ni]) ((runM c l (q.take k)).1[nj]) c)).map V.c) (by simp only[dA]) ?_;refine dop 24 rfl (G.quiet (zM (i:=nj) rfl rfl rfl (ird (A:=A14)) aS) rfl ?_);refine dop 25 rfl (yD (A:=A14) (i:=nj) (o:=0) (cs' := V.c ((apD ((runM c l (q.take k)).1[ni]) ((runM c l (q.take k)).1[nj]) c))) rfl rfl rfl rfl rfl (zP aT) aY rfl (yH rfl) ?_);refine zC (A:=A14) ((((runM c l (q.take k)).1.set ni (apS ((runM c l (q.take k)).1[ni]) ((runM c l (q.take k)).1[nj]) c)).set nj (apD ((runM c l (q.take k)).1[ni]) ((runM c l (q.take k)).1[nj]) c)).map V.c) (by simp only[dA]) (rn [27] ?_);exact eL ()
     refine yJ [10,15] aL aM zG ⟨bu rfl (G.quiet (zU (i:=ni) rfl (InRow.rdb (A:=A14) (els:=((runM c l (q.take k)).1).map V.c) (by simp[yG]) (yA (c:=V.c) (fun _=>rfl) _)) (zP aT) rfl) rfl ?_),bu rfl (G.quiet (zU (i:=nj) rfl (InRow.rdb (A:=A14) (els:=((runM c l (q.take k)).1).map V.c) (by simp[yG]) (yA (c:=V.c) (fun _=>rfl) _)) (zP aT) rfl) rfl ?_),trivial⟩
     ·refine dop 15 rfl (G.quiet (zU (i:=nj) rfl (InRow.rdb (A:=A14) (els:=((runM c l (q.take k)).1).map V.c) (by simp[yG]) (yA (c:=V.c) (fun _=>rfl) _)) (zP aT) rfl) rfl ?_);refine dop 17 rfl (zH rfl (fun w1 a6=>wG _ _ c w1 bi bj) rfl (RO ?_));refine dop 22 rfl (G.quiet (zM (i:=ni) rfl rfl rfl (InRow.rdb (A:=A14) (els:=((runM c l (q.take k)).1).map V.c) (by simp[yG]) (yA (c:=V.c) (fun _=>rfl) _)) aS) rfl ?_);refine dop 23 rfl (yD (A:=A14) (i:=ni) (o:=0) (cs' := V.c ((apS ((runM c l (q.take k)).1[ni]) ((runM c l (q.take k)).1[nj]) c))) rfl rfl rfl rfl rfl (zP aT) aY rfl (yH rfl) ?_);refine zC (A:=A14) (((runM c l (q.take k)).1.set ni (apS ((runM c l (q.take k)).1[ni]) ((runM c l (q.take k)).1[nj]) c)).map V.c) (by simp only[dA]) ?_;refine dop 24 rfl (G.quiet (zM (i:=nj) rfl rfl rfl (ird (A:=A14)) aS) rfl ?_);refine dop 25 rfl (yD (A:=A14) (i:=nj) (o:=0) (cs' := V.c ((apD ((runM c l (q.take k)).1[ni]) ((runM c l (q.take k)).1[nj]) c))) rfl rfl rfl rfl rfl (zP aT) aY rfl (yH rfl) ?_);refine zC (A:=A14) ((((runM c l (q.take k)).1.set ni (apS ((runM c l (q.take k)).1[ni]) ((runM c l (q.take k)).1[nj]) c)).set nj (apD ((runM c l (q.take k)).1[ni]) ((runM c l (q.take k)).1[nj]) c)).map V.c) (by simp only[dA]) (rn [27] ?_);exact eL ()
     refine dop 10 rfl (G.quiet (zU (i:=ni) rfl (InRow.rdb (A:=A14) (els:=((runM c l (q.take k)).1).map V.c) (by simp[yG]) (yA (c:=V.c) (fun _=>rfl) _)) (zP aT) rfl) rfl ?_);refine dop 17 rfl (zH rfl (fun w1 a6=>wG _ _ c w1 bi bj) rfl (RO ?_));refine dop 22 rfl (G.quiet (zM (i:=ni) rfl rfl rfl (InRow.rdb (A:=A14) (els:=((runM c l (q.take k)).1).map V.c) (by simp[yG]) (yA (c:=V.c) (fun _=>rfl) _)) aS) rfl ?_);refine dop 23 rfl (yD (A:=A14) (i:=ni) (o:=0) (cs' := V.c ((apS ((runM c l (q.take k)).1[ni]) ((runM c l (q.take k)).1[nj]) c))) rfl rfl rfl rfl rfl (zP aT) aY rfl (yH rfl) ?_);refine zC (A:=A14) (((runM c l (q.take k)).1.set ni (apS ((runM c l (q.take k)).1[ni]) ((runM c l (q.take k)).1[nj]) c)).map V.c) (by simp only[dA]) ?_;refine dop 24 rfl (G.quiet (zM (i:=nj) rfl rfl rfl (ird (A:=A14)) aS) rfl ?_);refine dop 25 rfl (yD (A:=A14) (i:=nj) (o:=0) (cs' := V.c ((apD ((runM c l (q.take k)).1[ni]) ((runM c l (q.take k)).1[nj]) c))) rfl rfl rfl rfl rfl (zP aT) aY rfl (yH rfl) ?_);refine zC (A:=A14) ((((runM c l (q.take k)).1.set ni (apS ((runM c l (q.take k)).1[ni]) ((runM c l (q.take k)).1[nj]) c)).set nj (apD ((runM c l (q.take k)).1[ni]) ((runM c l (q.take k)).1[nj]) c)).map V.c) (by simp only[dA]) (rn [27] ?_);exact eL ()
    refine yJ [9,15] aL aM zG ⟨bu rfl (G.quiet (zM (i:=ni) rfl rfl rfl (InRow.rdb (A:=A14) (els:=((runM c l (q.take k)).1).map V.c) (by simp[yG]) (yA (c:=V.c) (fun _=>rfl) _)) aS) rfl ?_),bu rfl (G.quiet (zU (i:=nj) rfl (InRow.rdb (A:=A14) (els:=((runM c l (q.take k)).1).map V.c) (by simp[yG]) (yA (c:=V.c) (fun _=>rfl) _)) (zP aT) rfl) rfl ?_),trivial⟩
    ·refine yJ [10,15] aL aM zG ⟨bu rfl (G.quiet (zU (i:=ni) rfl (InRow.rdb (A:=A14) (els:=((runM c l (q.take k)).1).map V.c) (by simp[yG]) (yA (c:=V.c) (fun _=>rfl) _)) (zP aT) rfl) rfl ?_),bu rfl (G.quiet (zU (i:=nj) rfl (InRow.rdb (A:=A14) (els:=((runM c l (q.take k)).1).map V.c) (by simp[yG]) (yA (c:=V.c) (fun _=>rfl) _)) (zP aT) rfl) rfl ?_),trivial⟩
     ·refine dop 15 rfl (G.quiet (zU (i:=nj) rfl (InRow.rdb (A:=A14) (els:=((runM c l (q.take k)).1).map V.c) (by simp[yG]) (yA (c:=V.c) (fun _=>rfl) _)) (zP aT) rfl) rfl ?_);refine dop 17 rfl (zH rfl (fun w1 a6=>wG _ _ c w1 bi bj) rfl (RO ?_));refine dop 22 rfl (G.quiet (zM (i:=ni) rfl rfl rfl (InRow.rdb (A:=A14) (els:=((runM c l (q.take k)).1).map V.c) (by simp[yG]) (yA (c:=V.c) (fun _=>rfl) _)) aS) rfl ?_);refine dop 23 rfl (yD (A:=A14) (i:=ni) (o:=0) (cs' := V.c ((apS ((runM c l (q.take k)).1[ni]) ((runM c l (q.take k)).1[nj]) c))) rfl rfl rfl rfl rfl (zP aT) aY rfl (yH rfl) ?_);refine zC (A:=A14) (((runM c l (q.take k)).1.set ni (apS ((runM c l (q.take k)).1[ni]) ((runM c l (q.take k)).1[nj]) c)).map V.c) (by simp only[dA]) ?_;refine dop 24 rfl (G.quiet (zM (i:=nj) rfl rfl rfl (ird (A:=A14)) aS) rfl ?_);refine dop 25 rfl (yD (A:=A14) (i:=nj) (o:=0) (cs' := V.c ((apD ((runM c l (q.take k)).1[ni]) ((runM c l (q.take k)).1[nj]) c))) rfl rfl rfl rfl rfl (zP aT) aY rfl (yH rfl) ?_);refine zC (A:=A14) ((((runM c l (q.take k)).1.set ni (apS ((runM c l (q.take k)).1[ni]) ((runM c l (q.take k)).1[nj]) c)).set nj (apD ((runM c l (q.take k)).1[ni]) ((runM c l (q.take k)).1[nj]) c)).map V.c) (by simp only[dA]) (rn [27] ?_);exact eL ()
     refine dop 10 rfl (G.quiet (zU (i:=ni) rfl (InRow.rdb (A:=A14) (els:=((runM c l (q.take k)).1).map V.c) (by simp[yG]) (yA (c:=V.c) (fun _=>rfl) _)) (zP aT) rfl) rfl ?_);refine dop 17 rfl (zH rfl (fun w1 a6=>wG _ _ c w1 bi bj) rfl (RO ?_));refine dop 22 rfl (G.quiet (zM (i:=ni) rfl rfl rfl (InRow.rdb (A:=A14) (els:=((runM c l (q.take k)).1).map V.c) (by simp[yG]) (yA (c:=V.c) (fun _=>rfl) _)) aS) rfl ?_);refine dop 23 rfl (yD (A:=A14) (i:=ni) (o:=0) (cs' := V.c ((apS ((runM c l (q.take k)).1[ni]) ((runM c l (q.take k)).1[nj]) c))) rfl rfl rfl rfl rfl (zP aT) aY rfl (yH rfl) ?_);refine zC (A:=A14) (((runM c l (q.take k)).1.set ni (apS ((runM c l (q.take k)).1[ni]) ((runM c l (q.take k)).1[nj]) c)).map V.c) (by simp only[dA]) ?_;refine dop 24 rfl (G.quiet (zM (i:=nj) rfl rfl rfl (ird (A:=A14)) aS) rfl ?_);refine dop 25 rfl (yD (A:=A14) (i:=nj) (o:=0) (cs' := V.c ((apD ((runM c l (q.take k)).1[ni]) ((runM c l (q.take k)).1[nj]) c))) rfl rfl rfl rfl rfl (zP aT) aY rfl (yH rfl) ?_);refine zC (A:=A14) ((((runM c l (q.take k)).1.set ni (apS ((runM c l (q.take k)).1[ni]) ((runM c l (q.take k)).1[nj]) c)).set nj (apD ((runM c l (q.take k)).1[ni]) ((runM c l (q.take k)).1[nj]) c)).map V.c) (by simp only[dA]) (rn [27] ?_);exact eL ()
    refine dop 9 rfl (G.quiet (zM (i:=ni) rfl rfl rfl (InRow.rdb (A:=A14) (els:=((runM c l (q.take k)).1).map V.c) (by simp[yG]) (yA (c:=V.c) (fun _=>rfl) _)) aS) rfl ?_);refine dop 10 rfl (G.quiet (zU (i:=ni) rfl (InRow.rdb (A:=A14) (els:=((runM c l (q.take k)).1).map V.c) (by simp[yG]) (yA (c:=V.c) (fun _=>rfl) _)) (zP aT) rfl) rfl ?_);refine dop 17 rfl (zH rfl (fun w1 a6=>wG _ _ c w1 bi bj) rfl (RO ?_));refine dop 22 rfl (G.quiet (zM (i:=ni) rfl rfl rfl (InRow.rdb (A:=A14) (els:=((runM c l (q.take k)).1).map V.c) (by simp[yG]) (yA (c:=V.c) (fun _=>rfl) _)) aS) rfl ?_);refine dop 23 rfl (yD (A:=A14) (i:=ni) (o:=0) (cs' := V.c ((apS ((runM c l (q.take k)).1[ni]) ((runM c l (q.take k)).1[nj]) c))) rfl rfl rfl rfl rfl (zP aT) aY rfl (yH rfl) ?_);refine zC (A:=A14) (((runM c l (q.take k)).1.set ni (apS ((runM c l (q.take k)).1[ni]) ((runM c l (q.take k)).1[nj]) c)).map V.c) (by simp only[dA]) ?_;refine dop 24 rfl (G.quiet (zM (i:=nj) rfl rfl rfl (ird (A:=A14)) aS) rfl ?_);refine dop 25 rfl (yD (A:=A14) (i:=nj) (o:=0) (cs' := V.c ((apD ((runM c l (q.take k)).1[ni]) ((runM c l (q.take k)).1[nj]) c))) rfl rfl rfl rfl rfl (zP aT) aY rfl (yH rfl) ?_);refine zC (A:=A14) ((((runM c l (q.take k)).1.set ni (apS ((runM c l (q.take k)).1[ni]) ((runM c l (q.take k)).1[nj]) c)).set nj (apD ((runM c l (q.take k)).1[ni]) ((runM c l (q.take k)).1[nj]) c)).map V.c) (by simp only[dA]) (rn [27] ?_);exact eL ()
   rintro _;refine rn [7,10,2,2] ?_;refine aa (bg rfl rfl rfl rfl rfl fun b62=>?_);refine zF (b:=b62) ((([(decide (dN (runM c l (q.take k)).1 (q[k]).a (q[k]).b c=0))]:List Bool).map aF).flatten) rfl ?_;refine aa (zW (A:=B1) (els:=((runM c l (q.take k)).2).map aF) (news:=(([(decide (dN (runM c l (q.take k)).1 (q[k]).a (q[k]).b c=0))]:List Bool).map aF)) rfl rfl (InL.rdb (b:=b62) rfl aM rfl) (zZ (c:=aF) (by intro x;simp[Value.oneCell']) _) aR rfl fun A63 cap63=>⟨_,inferInstance,?_⟩);refine zC (A:=A63) ((((runM c l (q.take k)).2++[(decide (dN (runM c l (q.take k)).1 (q[k]).a (q[k]).b c=0))])).map aF) (by first|rfl|exact cA.symm|(simp;done)) (Rx ?_);have e2:(runM c l (q.take k)).2++[decide (dN (runM c l (q.take k)).1 (q[k]).a (q[k]).b c=0)]=(runM c l (q.take (k+1))).2:=by rw[wF v8];rfl
   have e3:(runM c l (q.take k)).2.length+1=(runM c l (q.take (k+1))).2.length:=by rw[←e2];simp
   have e1:((runM c l (q.take k)).1.set ni (apS (runM c l (q.take k)).1[ni] (runM c l (q.take k)).1[nj] c)).set nj (apD (runM c l (q.take k)).1[ni] (runM c l (q.take k)).1[nj] c)=(runM c l (q.take (k+1))).1:=by rw[wF v8,Bd z8 O0 hi hj g6];unfold dy;dsimp only;rw[bZ (show iX (runM c l (q.take k)).1 (q[k]) c=true from h2)]
   rw[e3,e2,e1];exact cr ((k+1),A63,cap63) aU
  refine rn [12,7,10,2,2] ?_;refine aa (bg rfl rfl rfl rfl rfl fun b62=>?_);refine zF (b:=b62) ((([(decide (dN (runM c l (q.take k)).1 (q[k]).a (q[k]).b c=0))]:List Bool).map aF).flatten) rfl ?_;refine aa (zW (A:=B1) (els:=((runM c l (q.take k)).2).map aF) (news:=(([(decide (dN (runM c l (q.take k)).1 (q[k]).a (q[k]).b c=0))]:List Bool).map aF)) rfl rfl (InL.rdb (b:=b62) rfl aM rfl) (zZ (c:=aF) (by intro x;simp[Value.oneCell']) _) aR rfl fun A63 cap63=>⟨_,inferInstance,?_⟩);refine zC (A:=A63) ((((runM c l (q.take k)).2++[(decide (dN (runM c l (q.take k)).1 (q[k]).a (q[k]).b c=0))])).map aF) (by first|rfl|exact cA.symm|(simp;done)) (Rx ?_);have e2:(runM c l (q.take k)).2++[decide (dN (runM c l (q.take k)).1 (q[k]).a (q[k]).b c=0)]=(runM c l (q.take (k+1))).2:=by rw[wF v8];rfl
  have e3:(runM c l (q.take k)).2.length+1=(runM c l (q.take (k+1))).2.length:=by rw[←e2];simp
  have e1:(runM c l (q.take k)).1=(runM c l (q.take (k+1))).1:=by rw[wF v8];unfold dy;dsimp only;rw[bY (by rw[show iX (runM c l (q.take k)).1 (q[k]) c=false from h2];simp)]
  rw[e3,e2,e1];exact cr ((k+1),A63,cap63) aU
 have f9:k=(min q.length P):=by have h9:=bX h1;omega
 refine Ru ?_;refine zE (zE (zQ (rn [7,1,2,2,3,3,0,11] ?_)));exact dE rfl rfl rfl fun w' a5=>⟨(A14,v6,B1,y3),aQ,by rw[←f9],by rw[←f9];exact zA w' a5⟩
theorem lx (A B:bU) (n cap capq P:Nat) (l:List V) (q:List PP) (c:C) (w:World) (hl:Rd w [] A n 7 (l.map V.c)) (hq:Rd w [] B q.length 2 (q.map PP.c)) (hcq:q.length≤capq) (hb:n≤1000000) (hbq:q.length≤1000000) (hP:c.merg=((P:Nat):Int)) (i6:okV l):au (ι:=(bU × Nat × bU × Nat)) Tryz.prog 268 [.slice A n cap,.slice B q.length capq,c.v] w [] (fun x=>True) (fun x=>.tuple [.slice x.1 l.length x.2.1,.slice x.2.2.1 (runM c l (q.take (min q.length P))).2.length x.2.2.2].toArray) (fun x=>[Res.row x.1 l.length x.2.1 52 7 ((runM c l (q.take (min q.length P))).1.map V.c),Res.row x.2.2.1 (runM c l (q.take (min q.length P))).2.length x.2.2.2 4 1 ((runM c l (q.take (min q.length P))).2.map aF)]) (fun x=>[]):=by
 refine Γ Tryz.func268 60 (WOK.start (fps []) _) ?_;have hn:n=l.length:=by have:=hl.old.len;simpa using this
 refine Ri ?_;refine aa (aq rfl rfl rfl fun b5=>rn [3,3,0,1] ?_);refine aa (bg rfl rfl rfl rfl rfl fun w7=>?_);refine xL (t:=12) (T:=52) (k:=7) rfl fun A12 D1 hc12=>?_;refine zC (A:=A12) (([]:List V).map V.c) rfl (SD ?_);refine aa (zW (A:=A12) (els:=(([]:List V)).map V.c) (news:=((l).map V.c)) rfl rfl hl.rdb (zZ (c:=V.c) (by intro x;simp[V.c,Value.oneCell']) _) aR rfl fun A14 v6=>⟨_,inferInstance,?_⟩);refine zC (A:=A14) ((l).map V.c) (by first|rfl|exact cA.symm|(simp;done)) ?_;refine zR (A:=A14) (n) aM ?_;refine ae 14 (v' := .slice A14 (n) v6) rfl aM (rn [3,0,1,3] ?_);refine xA 9 4 1 rfl fun Az1 capz1 hcz1=>?_;refine zC (A:=Az1) (([]:List Bool).map aF) rfl (rn [0,8,1,3,0,14] ?_);refine zC (A:=A14) ((runM c l (q.take 0)).1.map V.c) (by simp[runM]) ?_;refine zR (A:=A14) l.length (by first|rfl|omega|(simp;omega)) ?_;refine ae 8 (v' := .slice A14 l.length v6) rfl (by first|rfl|rw[hn]|(simp;omega)) ?_;refine zC (A:=Az1) ((runM c l (q.take 0)).2.map aF) (by simp[runM]) ?_;refine zR (A:=Az1) (runM c l (q.take 0)).2.length (by simp[runM]) ?_;refine ae 9 (v' := .slice Az1 (runM c l (q.take 0)).2.length capz1) rfl (by simp[runM]) ?_;refine dP [1,5,6,7] (fun(x:Nat × bU × Nat × bU × Nat)=>[(8,.slice x.2.1 l.length x.2.2.1),(9,.slice x.2.2.2.1 (runM c l (q.take x.1)).2.length x.2.2.2.2),(10,aI x.1)]) (fun(x:Nat × bU × Nat × bU × Nat)=>[Res.blk b5 24 c.c,Res.row x.2.1 l.length x.2.2.1 52 7 ((runM c l (q.take x.1)).1.map V.c),Res.row x.2.2.2.1 (runM c l (q.take x.1)).2.length x.2.2.2.2 4 1 ((runM c l (q.take x.1)).2.map aF)]) (fun(x:Nat × bU × Nat × bU × Nat)=>x.1≤(min q.length P)) (fun(x:Nat × bU × Nat × bU × Nat)=>(min q.length P)-x.1) (0,A14,v6,Az1,capz1) bF ?_;rintro⟨k,A1,j6,B1,y3⟩ f6;replace f6:k≤(min q.length P):=f6;refine yB (L' := [Res.blk b5 24 c.c,Res.row A1 l.length j6 52 7 ((runM c l (q.take k)).1.map V.c),Res.row B1 (runM c l (q.take k)).2.length y3 4 1 ((runM c l (q.take k)).2.map aF)]) rfl ?_;refine ae 8 (v' := .slice A1 l.length j6) rfl rfl ?_;refine ae 9 (v' := .slice B1 (runM c l (q.take k)).2.length y3) rfl rfl ?_;refine ae 10 (v' := aI k) rfl rfl ?_;have hr4:=(yG c l (q.take k)).1;have hr5:=(yG c l (q.take k)).2;have hr6:(q.take k).length≤k:=List.length_take_le _ _;have K7:=qj (c:=c) (q.take k) i6;refine rn [8,1,2,2,47,46,2] ?_;refine zS 19 rfl (fun h1=>?_) (fun h1=>?_)
 ·refine rn [22,2,22,4,22,5,22,46,41,0] ?_;refine zB rfl (fun h2=>?_) (fun h2=>?_)
  ·have v8:k<q.length:=by simp at h1;omega
   have lt_M:k<(min q.length P):=by simp[hP] at h2;omega
   refine Sg ?_;refine bn [] an rfl (rn [23,0,2,23,1,2,23,2,2] ?_);refine dq 3 rfl (zM (i:=k) rfl rfl rfl hq.rdb aS) ?_;refine dq 4 rfl (yO (i:=0) rfl rfl rfl aO) ?_;refine dq 5 rfl (zX (i:=k) (o:=0) rfl hq.rdb (zP bD) rfl rfl) (rn [23,6,2,23,7,2] ?_);refine dq 8 rfl (zM (i:=k) rfl rfl rfl hq.rdb aS) ?_;refine dq 9 rfl (yO (i:=1) rfl rfl rfl aO) ?_;refine dq 10 rfl (zX (i:=k) (o:=1) rfl hq.rdb (zP bD) rfl rfl) (rn [23,11,45] ?_);refine dop 12 rfl (zH rfl (fun w1 a6=>lz A1 (l.length) (j6) ((runM c l (q.take k)).1) (_) (_) _ w1 (Rdb.toOld (InRow.rdb (A:=A1) (els:=((runM c l (q.take k)).1).map V.c) (by simp[yG]) (yA (c:=V.c) (fun _=>rfl) _)) a6) K7 aZ) rfl ?_);refine rn [23,13,44,23,14,3,27,7,8,1,2,0] ?_;refine zB rfl (fun h3=>?_) (fun h3=>?_)
   ·have hreq:=bW h3;obtain⟨g1,g2,g3,g4,g5,g6⟩:=nr hreq;obtain⟨ni,z8⟩:∃t:Nat,(q[k]).a=t:=⟨(q[k]).a.toNat,aK⟩
    obtain⟨nj,O0⟩:∃t:Nat,(q[k]).b=t:=⟨(q[k]).b.toNat,aK⟩
    have hi:ni<(runM c l (q.take k)).1.length:=by omega
    have hj:nj<(runM c l (q.take k)).1.length:=by omega
    have hi2:ni<l.length:=by omega
    have D6:nj<l.length:=by omega
    have bi:=K7 _ (cC hi);have bj:=K7 _ (cC hj);refine bn [] an rfl (rn [23,0,2,23,1,2,23,2,2] ?_);refine dq 3 rfl (zM (i:=k) rfl rfl rfl hq.rdb aS) ?_;refine dq 4 rfl (yO (i:=0) rfl rfl rfl aO) ?_;refine dq 5 rfl (zX (i:=k) (o:=0) rfl hq.rdb (zP bD) rfl rfl) ?_;refine ae 47 (v' := aI ni) rfl (by rw[z8]) (rn [23,6,2,23,7,2] ?_);refine dq 8 rfl (zM (i:=k) rfl rfl rfl hq.rdb aS) ?_;refine dq 9 rfl (yO (i:=1) rfl rfl rfl aO) ?_;refine dq 10 rfl (zX (i:=k) (o:=1) rfl hq.rdb (zP bD) rfl rfl) ?_;refine ae 52 (v' := aI nj) rfl (by rw[O0]) ?_;refine dop 11 rfl (zJ [] rfl (fun w1 a6 a8=>by have h7:=zn A1 (l.length) (j6) ((runM c l (q.take k)).1) ni nj w1 (Rd.ofRow (A:=A1) a6) bB bS bS;exact h7) rfl ?_);rintro⟨A53,cap53⟩ _;refine ii (rn [23,12,3,27,7,10,2,2] ?_);refine aa (bg rfl rfl rfl rfl rfl fun b56=>?_);refine zF (b:=b56) ((([(decide (dN (runM c l (q.take k)).1 (q[k]).a (q[k]).b c=0))]:List Bool).map aF).flatten) rfl ?_;refine aa (zW (A:=B1) (els:=((runM c l (q.take k)).2).map aF) (news:=(([(decide (dN (runM c l (q.take k)).1 (q[k]).a (q[k]).b c=0))]:List Bool).map aF)) rfl rfl (InL.rdb (b:=b56) rfl aM rfl) (zZ (c:=aF) (by intro x;simp[Value.oneCell']) _) aR rfl fun A57 cap57=>⟨_,inferInstance,?_⟩);refine zC (A:=A57) ((((runM c l (q.take k)).2++[(decide (dN (runM c l (q.take k)).1 (q[k]).a (q[k]).b c=0))])).map aF) (by first|rfl|exact cA.symm|(simp;done)) (Rt ?_);have e2:(runM c l (q.take k)).2++[decide (dN (runM c l (q.take k)).1 (q[k]).a (q[k]).b c=0)]=(runM c l (q.take (k+1))).2:=by rw[wF v8];rfl
    have e3:(runM c l (q.take k)).2.length+1=(runM c l (q.take (k+1))).2.length:=by rw[←e2];simp
    have e1:mvN (runM c l (q.take k)).1 ni nj=(runM c l (q.take (k+1))).1:=by rw[wF v8];unfold dy;dsimp only;rw[bZ (show iX (runM c l (q.take k)).1 (q[k]) c=true from h3),z8,O0];rfl
    have e4:(mvN (runM c l (q.take k)).1 ni nj).length=l.length:=by rw[ql];omega
    rw[e4,e3,e2,e1];exact cr ((k+1),A53,cap53,A57,cap57) bF
   refine rn [12,7,10,2,2] ?_;refine aa (bg rfl rfl rfl rfl rfl fun b56=>?_);refine zF (b:=b56) ((([(decide (dN (runM c l (q.take k)).1 (q[k]).a (q[k]).b c=0))]:List Bool).map aF).flatten) rfl ?_;refine aa (zW (A:=B1) (els:=((runM c l (q.take k)).2).map aF) (news:=(([(decide (dN (runM c l (q.take k)).1 (q[k]).a (q[k]).b c=0))]:List Bool).map aF)) rfl rfl (InL.rdb (b:=b56) rfl aM rfl) (zZ (c:=aF) (by intro x;simp[Value.oneCell']) _) aR rfl fun A57 cap57=>⟨_,inferInstance,?_⟩);refine zC (A:=A57) ((((runM c l (q.take k)).2++[(decide (dN (runM c l (q.take k)).1 (q[k]).a (q[k]).b c=0))])).map aF) (by first|rfl|exact cA.symm|(simp;done)) (Rt ?_);have e2:(runM c l (q.take k)).2++[decide (dN (runM c l (q.take k)).1 (q[k]).a (q[k]).b c=0)]=(runM c l (q.take (k+1))).2:=by rw[wF v8];rfl
   have e3:(runM c l (q.take k)).2.length+1=(runM c l (q.take (k+1))).2.length:=by rw[←e2];simp
   have e1:(runM c l (q.take k)).1=(runM c l (q.take (k+1))).1:=by rw[wF v8];unfold dy;dsimp only;rw[bY (by rw[show iX (runM c l (q.take k)).1 (q[k]) c=false from h3];simp)]
   rw[e3,e2,e1];exact cr ((k+1),A1,j6,A57,cap57) bF
  have f9:k=(min q.length P):=by simp[hP] at h2;simp at h1;omega
  refine Ru ?_;refine zE (zE (zQ (rn [7,1,2,2,3,3,0,11] ?_)));exact dE rfl rfl rfl fun w' a5=>⟨(A1,j6,B1,y3),aQ,by rw[←f9],by rw[←f9];exact zA w' a5⟩
 have f9:k=(min q.length P):=by simp at h1;omega
 refine rn [21,21,21,21,42,0,20,16] ?_;refine zE (zE (zQ (rn [7,1,2,2,3,3,0,11] ?_)));exact dE rfl rfl rfl fun w' a5=>⟨(A1,j6,B1,y3),aQ,by rw[←f9],by rw[←f9];exact zA w' a5⟩
theorem tE (A:bU) (n cap:Nat) (l:List V) (w:World) (hl:Rd w [] A n 7 (l.map V.c)) (hb:n≤1000000):au (ι:=(bU × Nat)) Tryz.prog 82 [.slice A n cap] w [] (fun x=>True) (fun x=>.slice x.1 l.length x.2) (fun x=>[Res.row x.1 l.length x.2 22 1 ((l.map V.bal).map aD)]) (fun x=>[]):=by
 refine Γ Tryz.func82 20 (WOK.start (fps []) _) ?_;have hn:n=l.length:=by have:=hl.old.len;simpa using this
 refine rn [1,3,0,1,3] ?_;refine xA 3 22 1 rfl fun Az1 capz1 hcz1=>?_;refine zC (A:=Az1) (([]:List Int).map aD) rfl (rn [0,8,1,3,0,14] ?_);refine zC (A:=Az1) (((l.take 0).map V.bal).map aD) aM ?_;refine dP [0,2] (fun(x:Nat × bU × Nat)=>[(3,.slice x.2.1 x.1 x.2.2),(4,aI x.1)]) (fun(x:Nat × bU × Nat)=>[Res.row x.2.1 x.1 x.2.2 22 1 (((l.take x.1).map V.bal).map aD)]) (fun(x:Nat × bU × Nat)=>x.1≤l.length) (fun(x:Nat × bU × Nat)=>l.length-x.1) (0,Az1,capz1) aW ?_;rintro⟨k,A1,j6⟩ f6;replace f6:k≤l.length:=f6;refine yB (L' := [Res.row A1 k j6 22 1 (((l.take k).map V.bal).map aD)]) rfl ?_;refine ae 3 (v' := .slice A1 k j6) rfl rfl ?_;refine ae 4 (v' := aI k) rfl rfl (Rw ?_);refine zB rfl (fun h1=>?_) (fun h1=>?_)
 ·have f8:k<l.length:=by have h9:=bW h1;omega
  refine rn [12,7,8,14,10,2,2,2] ?_;refine s_q (zM (i:=k) rfl rfl rfl hl.rdb aN) rfl (Nd ?_);refine s_q (zX (i:=k) (o:=0) rfl hl.rdb (zP aX) rfl rfl) rfl ?_;refine aa (bg rfl rfl rfl rfl rfl fun M5=>?_);refine zF (b:=M5) ((([(l[k]).bal]:List Int).map aD).flatten) rfl ?_;refine aa (zW (A:=A1) (els:=(((l.take k).map V.bal)).map aD) (news:=(([(l[k]).bal]:List Int).map aD)) rfl rfl (InL.rdb (b:=M5) rfl aM rfl) (zZ (c:=aD) (by intro x;simp[Value.oneCell']) _) aR rfl fun A18 cap18=>⟨_,inferInstance,?_⟩);refine zC (A:=A18) (((((l.take k).map V.bal)++[(l[k]).bal])).map aD) (by first|rfl|exact cA.symm|(simp;done)) (Rt ?_);refine zC (A:=A18) (((l.take (k+1)).map V.bal).map aD) (by rw[←cB f8];simp only[cA,cV,List.map_nil]) ?_;exact cr ((k+1),A18,cap18) aU
 have f9:k=l.length:=by have h9:=bX h1;omega
 subst f9;refine Ru ?_;refine zE (zE (zQ (Rl ?_)));refine zC (A:=A1) ((l.map V.bal).map aD) aM ?_;exact dD rfl rfl fun w' a5=>⟨(A1,j6),aQ,rfl,by have h9:=zG (L' := [Res.row A1 l.length j6 22 1 ((l.map V.bal).map aD)]) w' a5;exact h9⟩
theorem kj {l:List V} (h:okV l):okU (l.map V.bal):=fun x hx=>by
 obtain⟨y,hy,rfl⟩:=cG.1 hx;exact h y hy
def eX (x:V):Bool:=decide (x.st=2∨x.st=3)
def dZ:List V→Int
 | []=>0
 | x :: l=>(if eX x then x.bal else 0)+dZ l
theorem uQ:∀(l m:List V),dZ (l++m)=dZ l+dZ m
 | [],m=>by simp[dZ]
 | x :: l,m=>by simp only[List.cons_append,dZ,uQ l m];omega
theorem zz (s:Int) (w:World) : Pur Tryz.prog 133 [aH s] w (.bool (decide (s=2∨s=3))):=by
 refine Γ Tryz.func133 9 (WOK.start [] _) ?_;refine rn [1,3,0,1,2,44,2] ?_;refine zS 5 rfl (fun h1=>?_) (fun h1=>?_)
 ·refine rn [21,21,41,3,0,11] ?_;exact dD rfl rfl fun w' a5=>⟨by first|rfl|(simp_all;done)|(simp_all;omega),a5.upd⟩
 refine rn [22,2,22,44,42,3,0,11] ?_;exact dD rfl rfl fun w' a5=>⟨by first|rfl|(simp_all;done)|(simp_all;omega),a5.upd⟩
theorem pa (A:bU) (n cap:Nat) (l:List V) (w:World) (hl:Old w A n 7 (l.map V.c)) (hb:n≤1000000):Pur Tryz.prog 74 [.slice A n cap] w (aJ (IntKind.u64.wrap (dZ l))):=by
 refine Γ Tryz.func74 25 (WOK.start [] _) ?_;have hn:n=l.length:=by simpa using hl.len
 refine Sy ?_;refine dP [0,2] (fun(x:Nat)=>[(3,aJ (IntKind.u64.wrap (dZ (l.take x)))),(4,aI x)]) (fun(x:Nat)=>[]) (fun(x:Nat)=>x≤l.length) (fun(x:Nat)=>l.length-x) 0 aW ?_;rintro k f6;replace f6:k≤l.length:=f6;refine Rw ?_;refine zB rfl (fun h1=>?_) (fun h1=>?_)
 ·have f8:k<l.length:=by have h9:=bW h1;omega
  refine SV ?_;refine s_q (zM (i:=k) rfl rfl rfl (hl.rdb rfl) aN) rfl (Nd ?_);refine s_q (zX (i:=k) (o:=1) rfl (hl.rdb rfl) (zP aX) rfl rfl) rfl ?_;refine aa (zH rfl (fun w1 a6=>zz _ w1) rfl (rn [0] ?_));refine zB rfl (fun h2=>?_) (fun h2=>?_)
  ·refine rn [10,2,2,2] ?_;refine s_q (zM (i:=k) rfl rfl rfl (hl.rdb rfl) aN) rfl (Nd ?_);refine s_q (zX (i:=k) (o:=0) rfl (hl.rdb rfl) (zP aX) rfl rfl) rfl (rn [54,3,9,15,7,10,2,43,3,9] ?_);have es:dZ (l.take (k+1))=dZ (l.take k)+(if eX l[k] then(l[k]).bal else 0):=by rw[←cB f8,uQ];simp[dZ]
   refine ae 3 (v' := aJ (IntKind.u64.wrap (dZ (l.take (k+1))))) rfl (by rw[es];first|(rw[bZ (show eX l[k]=true from h2)];simp only[cF];congr 1;omega)|(rw[bY (by rw[show eX l[k]=false from h2];simp)];simp)) ?_;exact cr (k+1) aU
  refine RP ?_;have es:dZ (l.take (k+1))=dZ (l.take k)+(if eX l[k] then(l[k]).bal else 0):=by rw[←cB f8,uQ];simp[dZ]
  refine ae 3 (v' := aJ (IntKind.u64.wrap (dZ (l.take (k+1))))) rfl (by rw[es];first|(rw[bZ (show eX l[k]=true from h2)];simp only[cF];congr 1;omega)|(rw[bY (by rw[show eX l[k]=false from h2];simp)];simp)) ?_;exact cr (k+1) aU
 have f9:k=l.length:=by have h9:=bX h1;omega
 refine Ru ?_;refine zE (zE (zQ (Rl ?_)));exact dD rfl rfl fun w' a5=>⟨by rw[f9,cI],a5.upd⟩
structure Y where
 i:Int
 a:Int
 f:Bool
 deriving DecidableEq
def Y.c (x:Y):List Value:=[aH x.i,aJ x.a,.bool x.f]
def dm (x:V) (c:C):Int:=if x.st≠2∨x.sl=true then 0 else if x.bal<c.minb then 0 else IntKind.u64.wrap (x.bal-c.minb)
def eK (x:V) (c:C):Int:=if x.st≠2∨x.sl=true∨x.bal≤c.minb then 0 else IntKind.u64.wrap (x.bal-c.minb)
theorem qL (x:V) (c:C):dm x c=eK x c:=by
 unfold dm eK;simp only[cF];by_cases h1:x.st≠2∨x.sl=true
 ·rw[bZ h1,bZ (by rcases h1 with h|h<;>simp[h])]
 rw[bY h1];by_cases h2:x.bal≤c.minb
 ·rw[bZ (show x.st≠2∨x.sl=true∨x.bal≤c.minb from .inr (.inr h2))];split<;>omega
 rw[bY aK,bY (by intro h;rcases h with h|h|h;exact h1 (.inl h);exact h1 (.inr h);exact h2 h)]
theorem Bc (a b:Int) (w:World):Pur Tryz.prog 316 [aJ a,aJ b] w (.tuple [aJ (if a<b then 0 else IntKind.u64.wrap (a-b)),.bool (!decide (a<b))].toArray):=by
 refine Γ Tryz.func316 12 (WOK.start [] _) ?_;refine rn [1,3,3,0,8,1,2,2,55,0] ?_;refine zB rfl (fun h1=>?_) (fun h1=>?_)
 ·refine RL ?_;exact AW rfl (.tmp rfl) (.tmp rfl) (fun w' hw=>⟨by first|rfl|(simp_all;done)|(simp_all;omega)|(simp_all <;> intros<;>omega),hw.upd⟩) _ (.inl rfl)
 refine rn [12,7,1,2,2,57,3,3,0,11] ?_;exact AW rfl (.tmp rfl) (.tmp rfl) (fun w' hw=>⟨by first|rfl|(simp_all;done)|(simp_all;omega)|(simp_all <;> intros<;>omega),hw.upd⟩) _ (.inl rfl)
theorem ulx (x:V) (c:C) (w:World):Pur Tryz.prog 284 [x.v,c.v] w (aJ (dm x c)):=by
 refine Γ Tryz.func284 23 (WOK.start [] _) ?_;refine Ri ?_;refine aa (aq rfl rfl rfl fun b2=>?_);refine aa (aq rfl rfl rfl fun b3=>rn [3,0,8,1,4,5,51,2] ?_);refine zS 10 rfl (fun h1=>?_) (fun h1=>?_)
 ·refine Sk ?_;exact eO rfl (.tmp rfl) (fun w' hw=>⟨by first|rfl|(simp_all[dm];done)|(simp_all[dm];omega)|(simp_all[dm]<;>intros<;>omega),hw.upd⟩) _ (.inl rfl)
 refine rn [22,4,22,5,42,0] ?_;refine zB rfl (fun h2=>?_) (fun h2=>?_)
 ·refine Re ?_;exact eO rfl (.tmp rfl) (fun w' hw=>⟨by first|rfl|(simp_all[dm];done)|(simp_all[dm];omega)|(simp_all[dm]<;>intros<;>omega),hw.upd⟩) _ (.inl rfl)
 refine rn [12,7,1,4,5,4,5] ?_;refine aa (zH rfl (fun w hw=>Bc _ _ w) rfl (rn [2,40,40,3,3,0,1,2,3,0,11] ?_));exact eO rfl (.tmp rfl) (fun w' hw=>⟨by first|rfl|(simp_all[dm];done)|(simp_all[dm];omega)|(simp_all[dm]<;>intros<;>omega),hw.upd⟩) _ (.inl rfl)
theorem oB (x:V) (c:C) (w:World):Pur Tryz.prog 269 [x.v,c.v] w (aJ (eK x c)):=by
 refine Γ Tryz.func269 24 (WOK.start [] _) ?_;refine Ri ?_;refine aa (aq rfl rfl rfl fun b2=>?_);refine aa (aq rfl rfl rfl fun b3=>rn [3,0,8,1,4,5,51,2] ?_);refine zS 8 rfl (fun h1=>?_) (fun h1=>?_)
 ·refine rn [21,21,41,2,21,21,21,21,21,41,0,19,1,3,0,11,13] ?_;exact eO rfl (.tmp rfl) (fun w' hw=>⟨by first|rfl|(simp_all[eK];done)|(simp_all[eK];omega)|(simp_all[eK]<;>intros<;>omega),hw.upd⟩) _ (.inl rfl)
 refine rn [22,4,22,5,42,2] ?_;refine zS 12 rfl (fun h2=>?_) (fun h2=>?_)
 ·refine rn [21,21,21,21,21,41,0,19,1,3,0,11,13] ?_;exact eO rfl (.tmp rfl) (fun w' hw=>⟨by first|rfl|(simp_all[eK];done)|(simp_all[eK];omega)|(simp_all[eK]<;>intros<;>omega),hw.upd⟩) _ (.inl rfl)
 refine rn [22,4,22,5,22,4,22,5,22,56,42,0] ?_;refine zB rfl (fun h3=>?_) (fun h3=>?_)
 ·refine Re ?_;exact eO rfl (.tmp rfl) (fun w' hw=>⟨by first|rfl|(simp_all[eK];done)|(simp_all[eK];omega)|(simp_all[eK]<;>intros<;>omega),hw.upd⟩) _ (.inl rfl)
 refine rn [12,7,1,4,5,4,5,57,3,0,11] ?_;exact eO rfl (.tmp rfl) (fun w' hw=>⟨by first|rfl|(simp_all[eK];done)|(simp_all[eK];omega)|(simp_all[eK]<;>intros<;>omega),hw.upd⟩) _ (.inl rfl)
theorem gM (x:V) (m:Int) (c:C) (w:World):Pur Tryz.prog 236 [x.v,aJ m,c.v] w (.tuple [V.v { x with bal:=IntKind.u64.wrap (x.bal-min m (dm x c)) },aJ (min m (dm x c))].toArray):=by
 refine Γ Tryz.func236 21 (WOK.start [] _) ?_;refine Ri ?_;refine aa (aq rfl rfl rfl fun b3=>?_);refine aa (aq rfl rfl rfl fun b5=>?_);refine aa (zK rfl fun b6=>rn [3,0,1,2,45,45] ?_);refine aa (zH rfl (fun w hw=>ulx _ _ w) rfl (rn [58,3,0,1,4,5,2,57,4] ?_));refine aa (zI rfl rfl rfl rfl rfl rfl rfl (rn [0,1,45,2,33,3,0,11] ?_));exact AW rfl (.cellw rfl rfl) (.tmp rfl) (fun w' hw=>⟨aP,hw.upd⟩) _ (.inl rfl)
end Go.Proofs.YtdddiilocbbkkaaGreat
