/- Part 17 of the proof of TopModel. No condition. -/
import Derived.Test.YtdddiilocbbkkaaGreatTM16
set_option linter.unusedVariables false
set_option linter.unusedSimpArgs false
namespace Go.Proofs.YtdddiilocbbkkaaGreat
open Go.RowKit Go.Eg
set_option maxHeartbeats 4000000
set_option synthInstance.maxSize 3000
set_option maxRecDepth 100000
theorem Ag (ub b2 b3 n k:Nat) (w:World) (hw:W0 [Res.blk b2 96 [aG ub],Res.blk b3 3 [aI n],Res.blk ub 180 [aI k]] w) (hk:k<1000000) (hn:0<n/\n<=1000000):au (ι:=Unit) Tryz.prog 287 [aG b2,aG b3] w [Res.blk b2 96 [aG ub],Res.blk b3 3 [aI n],Res.blk ub 180 [aI k]] (fun x=>True) (fun x=>.int .i64 ((k%n:Nat):Int)) (fun x=>[]) (fun x=>[Res.blk b2 96 [aG ub],Res.blk b3 3 [aI n],Res.blk ub 180 [aI ((k%n+1)%n)]]):=by
 refine am Tryz.func287 18 hw ?_;have hm:=cW k hn.1;refine SZ ?_;refine bn [] an rfl (rn [23,0,5,23,1,6,23,2,4,23,3,5,23,4,5] ?_);refine dq 5 rfl (wA (a:=k) (b:=n) rfl rfl aR) (rn [23,6,3,27,7,8] ?_);refine bn [7] an rfl (rn [23,0,5,23,1,2,23,2,43,23,3,5] ?_);refine dq 4 rfl (wA (a:=((k%n)+1)) (b:=n) rfl rfl aR) (rn [24,5,6,23,6,4] ?_);refine dop 7 rfl (zI rfl rfl rfl rfl rfl rfl rfl ?_);refine zF (b:=ub) [aI ((k%n+1)%n)] (by simp[ay]) (rn [28,7,1,2,3,0,11] ?_);exact dD rfl rfl fun w' a5=>⟨(),aQ,rfl,zA w' a5⟩
theorem uc (ub n:Nat) (w:World) : au (ι:=(Nat × Nat)) Tryz.prog 239 [aG ub,aI n] w [] (fun x=>True) (fun x=>.func (.func 287) #[] [aG x.1,aG x.2].toArray) (fun x=>[Res.blk x.1 96 [aG ub],Res.blk x.2 3 [aI n]]) (fun x=>[]):=by
 refine am Tryz.func239 6 (WOK.start (fps []) _) ?_;refine Ri ?_;refine aa (aq rfl rfl rfl fun b2=>?_);refine aa (aq rfl rfl rfl fun b3=>SA ?_);exact dD rfl rfl fun w' a5=>⟨(b2,b3),aQ,rfl,zA w' a5⟩
theorem lW {rd:List Bool} {n pays k at_ made:Nat} {paid:List Int} (h:paid.length=pays):swp rd n pays k at_ paid made=(at_,paid,made):=by
 cases k with
 | zero=>rfl
 | succ k=>rw[swp,bZ h]
theorem qP {rd:List Bool} {n pays K at_ made:Nat} {paid:List Int} (h:¬paid.length=pays) (hk:made<K):swp rd n pays (K-made) at_ paid made=swp rd n pays (K-(made+1)) ((at_%n+1)%n) (if rd[at_%n]?=some true then paid++[((at_%n:Nat):Int)] else paid) (made+1):=by
 obtain⟨k,hk⟩:∃k,K-made=k+1:=⟨K-made-1,aK⟩
 rw[hk,swp,bY h,show K-(made+1)=k by omega]
theorem sk (ub k:Nat) (A:bU) (n cap:Nat) (rd:List Bool) (vis pays:Int) (w:World) (hw:W0 [Res.blk ub 180 [aI k]] w) (hk:k<=4096) (hrd:Rd w [Res.blk ub 180 [aI k]] A n 1 (rd.map aF)) (hb:n<=4096):au (ι:=(bU × Nat)) Tryz.prog 159 [aG ub,.slice A n cap,aH vis,aH pays] w [Res.blk ub 180 [aI k]] (fun x=>True) (fun x=>.tuple [.slice x.1 (dJ k rd vis pays).2.1.length x.2,aI ((dJ k rd vis pays).2.2)].toArray) (fun x=>[Res.row x.1 ((dJ k rd vis pays).2.1).length x.2 3 1 (((dJ k rd vis pays).2.1).map aC)]) (fun x=>[Res.blk ub 180 [aI ((dJ k rd vis pays).1)]]):=by
 refine am Tryz.func159 53 hw ?_;have hn:n=rd.length:=by have:=hrd.old.len;simpa using this
 refine rn [1,3,3,0] ?_;refine qt (rn [1,2,47,3,0,8,1,2,50,2,22,2,22,44,42,2] ?_);refine zS 23 rfl (fun h1=>?_) (fun h1=>?_)
 ·have hn1:n=0:=by have h9:=bW h1;omega
  have hR:(dJ k rd vis pays)=(k,[],0):=by unfold dJ;rw[bZ (.inl aK)]
  refine rn [21,21,41,0,19,1,3,3,0,11] ?_;refine zD (vQ ?_);refine zY none 3 1 (([]:List Int).map aC) rfl ?_;exact dE rfl rfl rfl fun w' a5=>⟨((none:bU),0),aQ,by rw[hR];rfl,by rw[hR];exact zA w' a5⟩
 have hn0:0<n:=by have h9:=bX h1;omega
 refine rn [22,2,22,46,42,0] ?_;refine zB rfl (fun h2=>?_) (fun h2=>?_)
 ·have hR:(dJ k rd vis pays)=(k,[],0):=by unfold dJ;rw[bZ (.inr (bW h2))]
  refine rn [1,3,3,0,11] ?_;refine zD (vQ ?_);refine zY none 3 1 (([]:List Int).map aC) rfl ?_;exact dE rfl rfl rfl fun w' a5=>⟨((none:bU),0),aQ,by rw[hR];rfl,by rw[hR];exact zA w' a5⟩
 have hp0:1<=pays:=by have h9:=bX h2;omega
 obtain⟨P,hP⟩:∃q:Nat,pays=q:=⟨pays.toNat,aK⟩
 refine ae 3 (v' := aI P) rfl (by rw[hP]) ?_;obtain⟨K,hK⟩:∃q:Nat,(min vis (rd.length:Int)).toNat=q:=⟨_,rfl⟩
 have hR0:(dJ k rd vis pays)=swp rd n P (K-0) k [] 0:=by unfold dJ;rw[bY aK,hK,hn,show pays.toNat=P by omega];rfl
 have hKn:K<=n:=by omega
 have hm0:=cW k hn0;refine SQ ?_;refine aa (zJ [] rfl (fun w1 a6 a8=>by have h7:=uc ub n w1;exact h7) rfl ?_);rintro⟨b2,b3⟩ _;refine ii (rn [3,0,1,3] ?_);refine xA 12 3 1 rfl fun Az1 capz1 hcz1=>?_;refine zC (A:=Az1) (([]:List Int).map aC) rfl (rn [0,1,3,0,8] ?_);refine qv (rn [7,8,14] ?_);refine dP [1,2,3,8,9,10,11] (fun(x:Nat × List Int × Nat × bU × Nat)=>[(12,.slice x.2.2.2.1 (x.2.1).length x.2.2.2.2),(13,aI x.2.2.1)]) (fun(x:Nat × List Int × Nat × bU × Nat)=>[Res.row x.2.2.2.1 (x.2.1).length x.2.2.2.2 3 1 ((x.2.1).map aC),Res.blk b2 96 [aG ub],Res.blk b3 3 [aI n],Res.blk ub 180 [aI x.1]]) (fun(x:Nat × List Int × Nat × bU × Nat)=>x.1<=4096/\(x.2.1).length<=x.2.2.1/\x.2.2.1<=K/\(dJ k rd vis pays)=swp rd n P (K-x.2.2.1) x.1 x.2.1 x.2.2.1) (fun(x:Nat × List Int × Nat × bU × Nat)=>K-x.2.2.1) (k,([]:List Int),0,Az1,capz1) (by(try dsimp only);exact⟨hk,aM,aK,hR0⟩) ?_;rintro⟨k1,p1,m1,A1,j6⟩ ⟨w5,Z8,hmK,hs⟩;replace w5:k1<=4096:=w5;replace Z8:(p1).length<=m1:=Z8;replace hmK:m1<=K:=hmK;replace hs:(dJ k rd vis pays)=swp rd n P (K-m1) k1 p1 m1:=hs;refine yB (L' := [Res.row A1 (p1).length j6 3 1 ((p1).map aC),Res.blk b2 96 [aG ub],Res.blk b3 3 [aI n],Res.blk ub 180 [aI k1]]) rfl ?_;refine ae 12 (v' := .slice A1 (p1).length j6) rfl rfl ?_;refine ae 13 (v' := aI m1) rfl rfl (rn [8,1,2,2,2,58,46,0] ?_);refine zB rfl (fun h3=>?_) (fun h3=>?_)
 ·have N7:m1<K:=by have h9:=bW h3;omega
  have hm1:=cW k1 hn0;have hm2:=cW (k1%n+1) hn0;refine rn [12,7,8,14,8,1,2,47,2,44,0] ?_;refine zB rfl (fun h4=>?_) (fun h4=>?_)
  ·have hR:(dJ k rd vis pays)=(k1,p1,m1):=by rw[hs];exact lW (by have h9:=bW h4;omega)
   refine Ru ?_;refine zE (rK rfl (zE (zE (zQ (rn [7,1,2,2,3,3,0,11] ?_)))));refine vQ ?_;exact dE rfl rfl rfl fun w' a5=>⟨(A1,j6),aQ,by rw[hR],by rw[hR];exact zA w' a5⟩
  have B7:¬p1.length=P:=by have h9:=bX h4;omega
  refine Sx ?_;refine aa (xV [Res.blk b2 96 [aG ub],Res.blk b3 3 [aI n],Res.blk ub 180 [aI k1]] rfl rfl (fun w1 a6 a8=>by have h7:=Ag ub b2 b3 n k1 w1 a8 aK ⟨hn0,aK⟩;exact h7) rfl ?_);rintro⟨⟩ _;refine ii (Sr ?_);refine s_q (zM (i:=(k1%n)) rfl rfl rfl hrd.rdb aS) rfl ?_;refine s_q (zX (i:=(k1%n)) (o:=0) rfl hrd.rdb (zP aK) rfl rfl) rfl (rn [0] ?_);refine zB rfl (fun h5=>?_) (fun h5=>?_)
  ·have hrx:rd[k1%n]?=some true:=by rw[List.getElem?_eq_getElem aK];simpa using h5
   refine rn [10,2,2] ?_;refine aa (bg rfl rfl rfl rfl rfl fun b49=>?_);refine zF (b:=b49) ((([(((k1%n):Nat):Int)]:List Int).map aC).flatten) rfl ?_;refine aa (zW (A:=A1) (els:=(p1).map aC) (news:=(([(((k1%n):Nat):Int)]:List Int).map aC)) rfl rfl (InL.rdb (b:=b49) rfl aM rfl) (zZ (c:=aC) (by intro x;simp[Value.oneCell']) _) aK rfl fun A50 cap50=>⟨_,inferInstance,?_⟩);refine zC (A:=A50) (((p1++[(((k1%n):Nat):Int)])).map aC) (by first|rfl|exact cA.symm|(simp;done)) ?_;refine zR (A:=A50) (p1++[((k1%n:Nat):Int)]).length aM ?_;refine ae 50 (v' := .slice A50 (p1++[((k1%n:Nat):Int)]).length cap50) rfl aM (Rt ?_);exact cr (((k1%n+1)%n),(p1++[((k1%n:Nat):Int)]),(m1+1),A50,cap50) (by(try dsimp only);exact⟨aK,aV,aK,(by rw[qP B7 N7,bZ hrx] at hs;exact hs)⟩)
  have hrx:¬rd[k1%n]?=some true:=by rw[List.getElem?_eq_getElem aK];simpa using h5
  refine RP ?_;exact cr (((k1%n+1)%n),p1,(m1+1),A1,j6) (by(try dsimp only);exact⟨aK,aK,aK,(by rw[qP B7 N7,bY hrx] at hs;exact hs)⟩)
 have L5:m1=K:=by have h9:=bX h3;omega
 have hR:(dJ k rd vis pays)=(k1,p1,m1):=by rw[hs,L5,Nat.sub_self];rfl
 refine Ru ?_;refine zE (zE (zQ (rn [7,1,2,2,3,3,0,11] ?_)));refine vQ ?_;exact dE rfl rfl rfl fun w' a5=>⟨(A1,j6),aQ,by rw[hR],by rw[hR];exact zA w' a5⟩
theorem xj (rb:Nat) (g:RG) (v:V) (w:World) (hw:W0 [RgB rb g,RgW g,Res.im g.m] w) (hg:g.Rep) (hv:v.ok) (hlt:g.l.length<g.cp) (hb:(g.l.map V.bal).sum+v.bal<=18446744073709551615):au (ι:=RG) Tryz.prog 106 [aG rb,.agg v.c.toArray] w [RgB rb g,RgW g,Res.im g.m] (fun x=>x.Rep/\x.l=g.l++[v]/\x.cp=g.cp) (fun x=>.tuple [aI (g.l.length),aH 0].toArray) (fun x=>[]) (fun x=>[RgB rb x,RgW x,Res.im x.m]):=by
 refine tX Tryz.func106 rfl 51 rfl aM (fps [RgB rb g,RgW g,Res.im g.m]) [RgB rb g,RgW g,Res.im g.m] hw _ rfl ?_;have q7:=hg.cp;have hvb:=hv.bal;have ht0:0<=RG.t g:=by rw[hg.t];exact xH fun x hx=>by obtain⟨y,hy,rfl⟩:=cG.1 hx;exact(hg.ok y hy).bal.1
 refine Ri ?_;refine aa (aq rfl rfl rfl fun b3=>rn [3,3,0,8,1,2,50,0,20,12,7,8,8] ?_);refine bn [] an rfl (rn [23,0,2,23,1,6,23,2,4,23,3,5,23,4,47,23,5,2,23,6,6,23,7,4,23,8,5,23,9,44] ?_);refine zV 19 (b:=false) rfl aV (rn [27,7,20,12,7,8,8] ?_);refine bn [] an rfl (Rk ?_);refine dop 6 rfl (bg rfl rfl rfl rfl rfl fun b27=>?_);refine zF (b:=b27) ((([g.t,v.bal]:List Int).map aD).flatten) rfl ?_;refine dop 7 rfl (zH rfl (fun w1 a6=>vZ (some ⟨b27,0,none⟩) (2) (2) (([g.t,v.bal]:List Int)) w1 (Rdb.toOld (InL.rdb (b:=b27) (els:=(([g.t,v.bal]:List Int)).map aD) rfl aM rfl) a6) (by intro x hx;simp at hx;have:=hg.t;have:=hg.mx;rcases hx with rfl|rfl<;>omega) bB) rfl ?_);refine rn [23,8,2,23,9,40,23,10,40,23,11,3,23,12,3,27,7,1,2,48,0] ?_;refine zB rfl (fun h1=>?_) (fun h1=>?_)
 ·exfalso;have h9:=h1;have h8:eI [RG.t g,v.bal]=true:=(qM (by have h7:=hg.t;simp;omega)).1;rw[h8] at h9;simp at h9
 refine rn [12,7,1,2,45] ?_;refine aa (ky (fst:=[]) (cap:=[]) rfl rfl (Sw ?_));refine dR (L0:=[Res.blk rb 167 [aI g.cp,.slice g.A g.l.length g.k,aJ g.a,aJ g.t,.map (some g.m)],Res.blk b3 52 v.c]) [10] an rfl zG (rn [23,0,2,23,1,2,23,2,6,23,3,4,23,4,5,23,5,45] ?_);refine dop 6 rfl (bg rfl rfl rfl rfl rfl fun b41=>?_);refine zF (b:=b41) ((([v]:List V).map V.c).flatten) rfl ?_;refine dop 7 rfl (zW (A:=g.A) (els:=(g.l).map V.c) (news:=(([v]:List V).map V.c)) rfl rfl (InL.rdb (b:=b41) rfl (by simp[V.c]) rfl) (zZ (c:=V.c) (by intro x;simp[V.c,Value.oneCell']) _) (by have:=hg.cp;omega) rfl fun A42 cap42=>⟨_,inferInstance,?_⟩);refine zC (A:=A42) (((g.l++[v])).map V.c) (by first|rfl|exact cA.symm|(simp;done)) ?_;refine zR (A:=A42) (g.l++[v]).length aM ?_;refine ae 42 (v' := .slice A42 (g.l++[v]).length cap42) rfl aM (rn [24,8,6,23,9,4] ?_);refine dop 10 rfl (zI rfl rfl rfl rfl rfl rfl rfl ?_);refine zF (b:=rb) [aI g.cp,.slice A42 (g.l++[v]).length cap42,aJ g.a,aJ g.t,.map (some g.m)] (by simp[ay]) (rn [28,7,1,2,6,4,5,47] ?_);refine s_q (yN (z:=((g.l.length:Nat):Int)) rfl rfl (by simp;rw[dY aK aK])) rfl (rn [3,3,0,11] ?_);refine GI [RgB rb (RG.mk g.cp A42 cap42 (g.l++[v]) g.a g.t g.m),RgW (RG.mk g.cp A42 cap42 (g.l++[v]) g.a g.t g.m),Res.im (RG.m (RG.mk g.cp A42 cap42 (g.l++[v]) g.a g.t g.m))] (fun w1 a6 a8=>by have h7:=jA rb (RG.mk g.cp A42 cap42 (g.l++[v]) g.a g.t g.m) v true w1 a8 hv;exact h7) ?_ _ (.inl rfl);rintro⟨⟩ _;refine⟨_,_,inferInstance,inferInstance,?_⟩;exact De rfl (.tmp rfl) (.tmp rfl) (fun w' a5 => ⟨(RG.cnt (RG.mk g.cp A42 cap42 (g.l++[v]) g.a g.t g.m) (sgn v true) v),⟨RG.add_rep hg hlt hv hb,rfl,rfl⟩,rfl,by have h9:=zG (L' := [RgB rb (RG.cnt (RG.mk g.cp A42 cap42 (g.l++[v]) g.a g.t g.m) (sgn v true) v),RgW (RG.cnt (RG.mk g.cp A42 cap42 (g.l++[v]) g.a g.t g.m) (sgn v true) v),Res.im (RG.m (RG.cnt (RG.mk g.cp A42 cap42 (g.l++[v]) g.a g.t g.m) (sgn v true) v))]) w' a5;exact h9⟩)
theorem xI (rb:Nat) (g:RG) (i:Int) (v:V) (w:World) (hw:W0 [RgB rb g,RgW g,Res.im g.m] w) (hg:g.Rep) (hv:v.ok) (hb:∀n:Nat,i=n->(h:n<g.l.length)->(g.l.map V.bal).sum-(g.l[n]).bal+v.bal<=18446744073709551615):au (ι:=RG) Tryz.prog 113 [.agg #[aG rb],aH i,.agg v.c.toArray] w [RgB rb g,RgW g,Res.im g.m] (fun x=>x.Rep/\x.l=dT g.l i v/\x.cp=g.cp) (fun x=>.tuple #[]) (fun x=>[]) (fun x=>[RgB rb x,RgW x,Res.im x.m]):=by
 refine am Tryz.func113 11 hw ?_;refine Ri ?_;refine aa (aq (c:=[aG rb]) rfl rfl rfl fun b3=>?_);refine aa (aq rfl rfl rfl fun b5=>rn [0,10,4,5,2,45] ?_);refine aa (zJ _ rfl (fun w1 a6 a8=>by have h7:=wp rb g (i) (v) w1 a8 hg hv hb;exact h7) rfl ?_);rintro g10 ⟨r10,l10,c10⟩;refine ii (rn [9] ?_);exact dF rfl fun w' a5=>⟨g10,(by exact⟨r10,by rw[l10];rfl,c10⟩),rfl,zA w' a5⟩
theorem Ft {v:V} {z:Int} (h:v.ok) (hz:0<=z/\z<=7):({ v with st:=z }:V).ok:=⟨h.bal,by simp only;omega,h.rq,h.ex,h.wd,h.dl⟩
theorem vm {l:List V} {n:Nat} (h:n<l.length) (hm:(l.map V.bal).sum<=18446744073709551615) {v:V} (hv:v.bal=(l[n]).bal):(l.map V.bal).sum-(l[n]).bal+v.bal<=18446744073709551615:=by rw[hv];omega
theorem pG (rb:Nat) (g:RG) (i:Int) (e:Nat) (w:World) (hw:W0 [RgB rb g,RgW g,Res.im g.m] w) (hg:g.Rep) (he:e<8) (D8:∀v∈RG.l g,0<=v.st/\v.st<=7):au (ι:=RG) Tryz.prog 148 [.agg #[aG rb],aH i,aH (e:Int)] w [RgB rb g,RgW g,Res.im g.m] (fun x=>x.Rep/\x.l=evV g.l i (e:Int)/\x.cp=g.cp) (fun x=>.bool (ax g.l i && decide ((nxt (ab g.l i).st (e:Int))≠0))) (fun x=>[]) (fun x=>[RgB rb x,RgW x,Res.im x.m]):=by
 refine am Tryz.func148 37 hw ?_;refine Ri ?_;refine aa (aq (c:=[aG rb]) rfl rfl rfl fun b3=>rn [3,0,1,4,5,2] ?_);refine aa (zN _ rfl (fun w1 a6 a8=>by exact wB rb g (i) w1 a8) rfl ?_);refine Sn ?_;refine aa (zK rfl fun b7=>rn [33,3,0,1] ?_);have hst1:0<=(ab g.l i).st/\(ab g.l i).st<=7:=by
   rcases Bool.eq_false_or_eq_true (ax g.l i) with h|h
   · exact D8 _ (by have h9:=bW h;obtain⟨q,rfl⟩:∃q:Nat,i=q:=⟨i.toNat,aK⟩;rw[yK aK];exact cC _)
   · rw[wW h];decide
 refine rn [4,5,2] ?_;refine aa (zH rfl (fun w1 a6=>by have h7:=ma ((ab g.l i).st).toNat ((e:Int)).toNat w1 aK aK;rw[Int.toNat_of_nonneg (show 0<=(ab g.l i).st by omega),Int.toNat_of_nonneg (show 0<=(e:Int) by omega)] at h7;exact h7) rfl ?_);refine Sc ?_;refine zS 27 rfl (fun h1=>?_) (fun h1=>?_)
 ·have hh:ax g.l i=false:=by simpa using h1
  refine Sk ?_;exact dD rfl rfl fun w' a5=>⟨g,(by(try dsimp only);exact⟨hg,by unfold evV;rw[bY (by first|(rw[hh];simp;done)|(rw[hn];simp;done)|simp_all)],rfl⟩),by first|(rw[hh];rfl)|(rw[hn];simp),zA w' a5⟩
 have hh:ax g.l i=true:=by simpa using h1
 refine rn [22,2,22,48,42,0] ?_;refine zB rfl (fun h2=>?_) (fun h2=>?_)
 ·have hn:(nxt (ab g.l i).st (e:Int))=0:=by simpa using h2
  refine Re ?_;exact dD rfl rfl fun w' a5=>⟨g,(by(try dsimp only);exact⟨hg,by unfold evV;rw[bY (by first|(rw[hh];simp;done)|(rw[hn];simp;done)|simp_all)],rfl⟩),by first|(rw[hh];rfl)|(rw[hn];simp),zA w' a5⟩
 have hn:¬(nxt (ab g.l i).st (e:Int))=0:=by simpa using h2
 refine rn [12,7,1,2,4] ?_;refine aa (zI rfl rfl rfl rfl rfl rfl rfl ?_);refine zF (b:=b7) (V.c { ab g.l i with st:=nxt (ab g.l i).st (e:Int) }) (by simp[ay,V.c]) ?_;obtain⟨q9,hqi⟩:∃q:Nat,i=q:=⟨i.toNat,by have h9:=bW hh;omega⟩
 have hq9:q9<g.l.length:=by have h9:=bW hh;omega
 have I9:ab g.l i=g.l[q9]:=by rw[hqi];exact yK hq9
 refine rn [0,1,45,2,45] ?_;refine aa (zJ _ rfl (fun w1 a6 a8=>by have h7:=xI rb g (i) ({ ab g.l i with st:=nxt (ab g.l i).st (e:Int) }) w1 a8 hg (by rw[I9];exact Ft (hg.ok _ (cC hq9)) (kl _ _)) (fun n hn2 h=>vm h hg.mx (by obtain rfl:q9=n:=aK;simp only[I9]));exact h7) rfl ?_);rintro g36 ⟨r36,l36,c36⟩;refine ii (RA ?_);exact dD rfl rfl fun w' a5=>⟨g36,(by exact⟨r36,by rw[l36];unfold evV dT;rw[bZ hh,bZ ⟨hh,hn⟩],c36⟩),by rw[hh,cX hn];rfl,zA w' a5⟩
theorem tD (rb:Nat) (g:RG) (w:World) (hw:W0 [RgB rb g,RgW g,Res.im g.m] w) (hg:g.Rep):au (ι:=(bU × Nat)) Tryz.prog 153 [.agg #[aG rb]] w [RgB rb g,RgW g,Res.im g.m] (fun x=>True) (fun x=>.slice x.1 (g.l.map V.bal).length x.2) (fun x=>[Res.row x.1 (g.l.map V.bal).length x.2 22 1 ((g.l.map V.bal).map aD)]) (fun x=>[RgB rb g,RgW g,Res.im g.m]):=by
 refine am Tryz.func153 21 hw ?_;have q1:=hg.le;have q2:=hg.cp;refine Ri ?_;refine aa (aq (c:=[aG rb]) rfl rfl rfl fun b1=>rn [3,0,1,3] ?_);refine xA 3 22 1 rfl fun Az1 capz1 hcz1=>?_;refine zC (A:=Az1) (([]:List Int).map aD) rfl (rn [0,8,1,4,5] ?_);refine aa (zJ _ rfl (fun w1 a6 a8=>by have h7:=uI rb g w1 a8 hg;exact h7) rfl ?_);rintro⟨A8,D7⟩ _;refine ii (SK ?_);refine zC (A:=Az1) (((g.l.map V.bal).take 0).map aD) aM ?_;refine dP [2,8,9] (fun(x:Nat × bU × Nat)=>[(3,.slice x.2.1 x.1 x.2.2),(10,aI x.1)]) (fun(x:Nat × bU × Nat)=>[Res.row x.2.1 x.1 x.2.2 22 1 (((g.l.map V.bal).take x.1).map aD),Res.row A8 g.l.length D7 52 7 (g.l.map V.c),RgB rb g,RgW g,Res.im g.m]) (fun(x:Nat × bU × Nat)=>x.1<=g.l.length) (fun(x:Nat × bU × Nat)=>g.l.length-x.1) (0,Az1,capz1) aW ?_;rintro⟨k,A1,j6⟩ f6;replace f6:k<=g.l.length:=f6;refine yB (L' := [Res.row A1 k j6 22 1 (((g.l.map V.bal).take k).map aD),Res.row A8 g.l.length D7 52 7 (g.l.map V.c),RgB rb g,RgW g,Res.im g.m]) rfl ?_;refine ae 3 (v' := .slice A1 k j6) rfl rfl ?_;refine ae 10 (v' := aI k) rfl rfl (Rj ?_);refine zB rfl (fun h1=>?_) (fun h1=>?_)
 ·have f8:k<g.l.length:=by have h9:=bW h1;omega
  refine Ry ?_;refine s_q (zM (i:=k) rfl rfl rfl (ird (A:=A8)) aN) rfl ?_;refine s_q (zU (i:=k) rfl (ird (A:=A8)) (zP aT) rfl) rfl ?_;refine aa (zK rfl fun b5=>rn [33,0,10,2,4,5] ?_);refine aa (bg rfl rfl rfl rfl rfl fun M5=>?_);refine zF (b:=M5) ((([g.l[k].bal]:List Int).map aD).flatten) rfl ?_;refine aa (zW (A:=A1) (els:=(((g.l.map V.bal).take k)).map aD) (news:=(([g.l[k].bal]:List Int).map aD)) rfl rfl (InL.rdb (b:=M5) rfl aM rfl) (zZ (c:=aD) (by intro x;simp[Value.oneCell']) _) aK rfl fun A18 cap18=>⟨_,inferInstance,?_⟩);refine zC (A:=A18) (((((g.l.map V.bal).take k)++[g.l[k].bal])).map aD) (by first|rfl|exact cA.symm|(simp;done)) ?_;refine zC (A:=A18) (((g.l.map V.bal).take (k+1)).map aD) (by rw[←cB (show k<(g.l.map V.bal).length by simpa using f8)];simp) (Rx ?_);exact cr ((k+1),A18,cap18) aU
 have f9:k=g.l.length:=by have h9:=bX h1;omega
 subst f9;refine Ru ?_;refine zE (zE (zQ (Rl ?_)));refine zC (A:=A1) ((g.l.map V.bal).map aD) (by rw[cP aM]) ?_;refine zR (A:=A1) (g.l.map V.bal).length aM ?_;exact dD rfl rfl fun w' a5=>⟨(A1,j6),aQ,aM,zA w' a5⟩
theorem oE (A:bU) (n cap:Nat) (l:List V) (r:Rq) (w:World) (hl:Old w A n 7 (l.map V.c)) (hb:n<=1000000):Pur Tryz.prog 119 [.slice A n cap,.agg r.c.toArray] w (aH (fS l r.i r.m)):=by
 refine am Tryz.func119 30 (WOK.start [] _) ?_;have hn:n=l.length:=by simpa using hl.len
 refine Ri ?_;refine aa (aq (c:=Rq.c r) rfl rfl rfl fun b3=>rn [3,0,8,14,1,4,5,46,2] ?_);refine zS 9 rfl (fun h1=>?_) (fun h1=>?_)
 ·have hh:ax l r.i=false:=cY (by have h9:=bW h1;omega);refine rn [21,21,21,21,21,41,3,0,19,1,3,0,11] ?_;refine zL (zD ?_);exact dD rfl rfl fun w' a5=>⟨by unfold fS;first|(rw[bZ hh];done)|(rw[bY (by rw[hh];simp),bZ h0];done)|(rw[bY (by rw[hh];simp),bY h0,z8,yK hil];simp_all),a5.upd⟩
 refine rn [22,4,22,5,22,2,22,47,22,53,42,3,0] ?_;refine zB rfl (fun h2=>?_) (fun h2=>?_)
 ·have hh:ax l r.i=false:=cY (by have h9:=bW h2;omega);refine RN ?_;refine zL (zD ?_);exact dD rfl rfl fun w' a5=>⟨by unfold fS;first|(rw[bZ hh];done)|(rw[bY (by rw[hh];simp),bZ h0];done)|(rw[bY (by rw[hh];simp),bY h0,z8,yK hil];simp_all),a5.upd⟩
 have hh:ax l r.i=true:=cX (by have h8:=bX h1;have h9:=bX h2;omega);obtain⟨ni,z8⟩:∃q:Nat,r.i=q:=⟨r.i.toNat,by have h9:=bW hh;omega⟩
 have hil:ni<l.length:=by have h9:=bW hh;omega
 refine rn [1,45,4,5,49] ?_;refine s_q (pz rfl rfl rfl) rfl (rn [3,0] ?_);refine zB rfl (fun h3=>?_) (fun h3=>?_)
 ·have h0:r.m=0:=by simpa using h3
  refine RN ?_;refine zL (zD ?_);exact dD rfl rfl fun w' a5=>⟨by unfold fS;first|(rw[bZ hh];done)|(rw[bY (by rw[hh];simp),bZ h0];done)|(rw[bY (by rw[hh];simp),bY h0,z8,yK hil];simp_all),a5.upd⟩
 have h0:¬r.m=0:=by simpa using h3
 refine rn [1,2,4,5] ?_;refine s_q (zM (i:=ni) rfl rfl z8 (hl.rdb rfl) aK) rfl (Nd ?_);refine s_q (zX (i:=ni) (o:=1) rfl (hl.rdb rfl) (zP hil) rfl rfl) rfl (rn [51,3,0] ?_);refine zB rfl (fun h4=>?_) (fun h4=>?_)
 ·refine RN ?_;refine zL (zD ?_);exact dD rfl rfl fun w' a5=>⟨by unfold fS;first|(rw[bZ hh];done)|(rw[bY (by rw[hh];simp),bZ h0];done)|(rw[bY (by rw[hh];simp),bY h0,z8,yK hil];simp_all),a5.upd⟩
 refine SS ?_;exact dD rfl rfl fun w' a5=>⟨by unfold fS;first|(rw[bZ hh];done)|(rw[bY (by rw[hh];simp),bZ h0];done)|(rw[bY (by rw[hh];simp),bY h0,z8,yK hil];simp_all),a5.upd⟩
theorem uR (W:List Int) (e:Int):∀(n:Nat) (q:LL) (m:M) (out:List As),∃a b:Nat,(dw W e n q m out).1=out++((q.f.take a).map (fun i=>As.mk i 0 (e+1))++(q.v.take b).map (fun i=>As.mk i 1 (e+1)))
  /\ a<=q.f.length/\b<=q.v.length/\(0<b->a=q.f.length)/\(dw W e n q m out).2.1=⟨q.f.drop a,q.v.drop b⟩
 | 0,q,m,out=>⟨0,0,by simp[dw],aK,aK,aK,by simp[dw]⟩
 | n+1,q,m,out=>by
  by_cases hB:dQ q=false
  ·refine⟨0,0,?_,aK,aK,aK,?_⟩<;>rw[hQ hB]<;>simp
  replace hB:dQ q=true:=by simpa using hB
  by_cases hT:m.bal<ofW W (cd q)
  ·refine⟨0,0,?_,aK,aK,aK,?_⟩<;>rw[pN hB hT]<;>simp
  rw[ja hB hT];obtain⟨f,v⟩:=q;cases f with
  | cons x f =>
   obtain⟨a,b,h1,h2,h3,h4,h5⟩:=uR W e n (de ⟨x :: f,v⟩) (m.take (ofW W (cd ⟨x :: f,v⟩))) (out++[⟨cd ⟨x :: f,v⟩,dL ⟨x :: f,v⟩,e+1⟩]);simp only[de] at h1 h2 h3 h4 h5;refine⟨a+1,b,?_,by simp;omega,h3,fun hb=>by simp;exact h4 hb,?_⟩
   ·simp only[de];rw[h1];simp[cd,dL]
   simp only[de];rw[h5];simp
  | nil =>
   cases v with
   | nil=>simp[dQ] at hB
   | cons y v =>
    obtain⟨a,b,h1,h2,h3,h4,h5⟩:=uR W e n (de ⟨[],y :: v⟩) (m.take (ofW W (cd ⟨[],y :: v⟩))) (out++[⟨cd ⟨[],y :: v⟩,dL ⟨[],y :: v⟩,e+1⟩]);simp only[de,List.tail_cons] at h1 h2 h3 h4 h5;refine⟨a,b+1,?_,h2,by simp;omega,fun _=>by simp at h2 ⊢;omega,?_⟩
    ·simp only[de,List.tail_cons];rw[h1];simp[cd,dL]
    simp only[de,List.tail_cons];rw[h5];simp
theorem vl {rd:List Bool} {n pays:Nat} (hn:0<n) (a0:Nat):∀(k at_:Nat) (paid:List Int) (made:Nat),at_%n=(a0+made)%n->made+k<=n->(∀x∈paid,∃j,j<made/\x=(((a0+j)%n:Nat):Int)/\rd[(a0+j)%n]?=some true)->paid.Nodup ->
  (∀x∈(swp rd n pays k at_ paid made).2.1,∃j:Nat,x=j/\rd[j]?=some true)/\(swp rd n pays k at_ paid made).2.1.Nodup
 | 0,at_,paid,made,_,_,hp,hd=>⟨fun x hx=>by obtain⟨j,_,h1,h2⟩:=hp x hx;exact⟨_,h1,h2⟩,hd⟩
 | k+1,at_,paid,made,ha,hk,hp,hd=>by
  unfold swp;split
  ·exact⟨fun x hx=>by obtain⟨j,_,h1,h2⟩:=hp x hx;exact⟨_,h1,h2⟩,hd⟩
  have B7:∀j,j<made->(a0+j)%n≠(a0+made)%n:=fun j hj hc=>by
   have h1:=Nat.sub_mod_eq_zero_of_mod_eq hc.symm;rw[show a0+made-(a0+j)=made-j by omega,Nat.mod_eq_of_lt aK] at h1;omega
  refine vl hn a0 k _ _ _ ?_ aK ?_ ?_
  ·rw[Nat.mod_mod,ha,Nat.mod_add_mod,Nat.add_assoc]
  ·intro x hx;split at hx
   ·rename_i hr;rcases cK.1 hx with hx|hx
    ·obtain⟨j,h1,h2,h3⟩:=hp x hx;exact⟨j,aK,h2,h3⟩
    simp only[cH,cE,or_false] at hx;exact⟨made,aK,by rw[hx,ha],by rw[←ha];exact hr⟩
   obtain⟨j,h1,h2,h3⟩:=hp x hx;exact⟨j,aK,h2,h3⟩
  split
  ·refine List.nodup_append.2 ⟨hd,aM,fun x hx y hy=>?_⟩;simp only[cH,cE,or_false] at hy;obtain⟨j,h1,h2,_⟩:=hp x hx;rw[hy,h2,ha];exact fun hc=>B7 j h1 (by exact_mod_cast hc)
  exact hd
theorem rR (at_:Nat) (rd:List Bool) (visits pays:Int):(∀x∈(dJ at_ rd visits pays).2.1,∃j:Nat,x=j/\rd[j]?=some true)/\(dJ at_ rd visits pays).2.1.Nodup:=by
 unfold dJ;split
 ·simp
 exact vl aK at_ _ _ _ _ aM aK aM aM
theorem xF {l:List V} {i:Int} (h:ax l i=true):∃k:Nat,i=k/\k<l.length:=by
 have h:=bW h;exact⟨i.toNat,aK,aK⟩
theorem gZ {l:List V} {k:Nat} (h:k<l.length):ax l (k:Int)=true:=cX aK
theorem AM (l:List V) (k:Nat) (v:V) (j:Int):ax (l.set k v) j=ax l j:=by simp[ax]
theorem Ci {l:List V} {k:Nat} (h:k<l.length) (v:V) (j:Int):ab (l.set k v) j=if j=k then v else ab l j:=by
 unfold ab;by_cases hj:0<=j
 ·rw[bZ hj,bZ hj,List.getElem?_set];by_cases e:k=j.toNat
  ·rw[bZ e,bZ h,bZ aK];rfl
  rw[bY e,bY aK]
 rw[bY hj,bY hj,bY aK]
theorem wK (l:List V) (i:Int) (v:V):(dT l i v).length=l.length:=by unfold dT;split<;>simp
theorem ij (l:List V) (i:Int) (v:V) (j:Int):ax (dT l i v) j=ax l j:=by unfold dT;split<;>simp[ax]
theorem yZ (l:List V) (i:Int) (v:V) (j:Int):ab (dT l i v) j=if ax l i=true/\j=i then v else ab l j:=by
 unfold dT;by_cases h:ax l i=true
 ·obtain⟨k,rfl,hk⟩:=xF h;rw[bZ h,Int.toNat_natCast,Ci hk];by_cases e:j=k
  ·rw[bZ e,bZ ⟨h,e⟩]
  rw[bY e,bY (fun hc=>e hc.2)]
 rw[bY h,bY (fun hc=>h hc.1)]
theorem ir (l:List V) (i e:Int):evV l i e=if nxt (ab l i).st e≠0 then dT l i { ab l i with st:=nxt (ab l i).st e } else l:=by
 unfold evV dT;by_cases h:ax l i=true<;>by_cases h2:nxt (ab l i).st e≠0<;>simp[h,h2]
theorem oO (l:List V) (i e:Int):(evV l i e).length=l.length:=by
 rw[ir];split
 ·exact wK _ _ _
 rfl
theorem AL (l:List V) (i e j:Int):ax (evV l i e) j=ax l j:=by unfold ax;rw[oO]
theorem iY {e:Int} (he:1<=e/\e<=5) (s:Int):nxt s e=if s=e then e+1 else 0:=by
 unfold nxt;rw[bY aK,bY aK];by_cases h:s=e
 ·rw[bZ ⟨he.1,he.2,h⟩,bZ h,h]
 rw[bY aK,bY h]
theorem oR {e:Int} (he:1<=e/\e<=5) (l:List V) (i j:Int):ab (evV l i e) j=if j=i/\ax l j=true/\(ab l j).st=e then { ab l j with st:=e+1 } else ab l j:=by
 rw[ir,iY he];by_cases h:(ab l i).st=e
 ·rw[bZ h,bZ aK,yZ];by_cases h2:ax l i=true/\j=i
  ·obtain⟨h2,rfl⟩:=h2;rw[bZ ⟨h2,rfl⟩,bZ ⟨rfl,h2,h⟩]
  rw[bY h2,bY (show¬(j=i/\ax l j=true/\(ab l j).st=e) from fun hc=>h2 ⟨hc.1 ▸ hc.2.1,hc.1⟩)]
 rw[bY h,bY aK,bY (show¬(j=i/\ax l j=true/\(ab l j).st=e) from fun hc=>h (hc.1 ▸ hc.2.2))]
theorem vX {e:Int} (he:1<=e/\e<=5):∀(is:List Int) (l:List V),(is.foldl (fun l i=>evV l i e) l).length=l.length /\
  ∀j,ab (is.foldl (fun l i=>evV l i e) l) j=if j∈is/\ax l j=true/\(ab l j).st=e then { ab l j with st:=e+1 } else ab l j
 | [],l=>⟨rfl,fun j=>by simp⟩
 | i :: is,l=>by
  obtain⟨h1,h2⟩:=vX he is (evV l i e);refine⟨by rw[cR,h1,oO],fun j=>?_⟩;rw[cR,h2 j,AL];have hg:=oR he l i j;by_cases hj:j=i/\ax l j=true/\(ab l j).st=e
  ·rw[bZ hj] at hg;rw[hg,bY (by rintro⟨_,_,h⟩;simp only at h;omega),bZ ⟨by simp[hj.1],hj.2⟩]
  rw[bY hj] at hg;rw[hg];by_cases hm:j∈is/\ax l j=true/\(ab l j).st=e
  ·rw[bZ hm,bZ ⟨by simp[hm.1],hm.2⟩]
  rw[bY hm,bY];rintro⟨h1,h2⟩;rcases cH.1 h1 with h|h
  ·exact hj ⟨h,h2⟩
  exact hm ⟨h,h2⟩
theorem ke {bo:List En} {e i:Int} (h:0<=e/\e<=1099511627776):fP bo e i=bo++[⟨e,i⟩]:=bZ (cX h)
theorem vb {e:Int} (he:1<=e/\e<=5) (l:List V) (i j:Int):(ab (evV l i e) j).wd=(ab l j).wd:=by
 rw[oR he];split<;>rfl
theorem EC {e:Int} {l:List V} {bo:List En} {i:Int} (h:e<(ab l i).wd):fi e (l,bo) i=(l,fP bo (ab l i).wd i):=bZ h
theorem EB {e:Int} {l:List V} {bo:List En} {i:Int} (h:¬e<(ab l i).wd):fi e (l,bo) i=(evV l i 4,bo):=bY h
theorem iI {e:Int} (he:0<=e):∀(is:List Int) (l:List V) (bo:List En),(∀j,(ab l j).wd<=1099511627776) ->
  (is.foldl (fi e) (l,bo)).1.length=l.length /\
  (∀j,ab (is.foldl (fi e) (l,bo)).1 j=if j∈is/\ax l j=true/\(ab l j).wd<=e/\(ab l j).st=4 then { ab l j with st:=5 } else ab l j) /\
  (is.foldl (fi e) (l,bo)).2=bo++(is.filter fun i=>decide (e<(ab l i).wd)).map fun i=>⟨(ab l i).wd,i⟩
 | [],l,bo,_=>⟨rfl,fun j=>by simp,aM⟩
 | i :: is,l,bo,hw=>by
  rw[cR];by_cases hi:e<(ab l i).wd
  ·obtain⟨h1,h2,h3⟩:=iI he is l (fP bo (ab l i).wd i) hw;rw[EC hi];refine⟨h1,fun j=>?_,?_⟩
   ·rw[h2 j];by_cases hj:j=i
    ·subst hj;rw[bY aK,bY aK]
    simp[hj]
   rw[h3,ke ⟨aK,hw i⟩,List.filter_cons,bZ (cX hi),cV,cJ,List.singleton_append]
  have a5 : ∀j,(ab (evV l i 4) j).wd<=1099511627776:=fun j=>by rw[vb aK];exact hw j
  obtain⟨h1,h2,h3⟩:=iI he is (evV l i 4) bo a5;rw[EB hi];refine⟨by rw[h1,oO],fun j=>?_,?_⟩
  ·rw[h2 j,AL,vb aK];have hg:=oR (e:=4) aK l i j;by_cases hj:j=i/\ax l j=true/\(ab l j).st=4
   ·rw[bZ hj] at hg;rw[hg,bY (by rintro⟨_,_,_,h⟩;simp at h),bZ ⟨by simp[hj.1],hj.2.1,by rw[hj.1];omega,hj.2.2⟩];rfl
   rw[bY hj] at hg;rw[hg];by_cases hm:j∈is/\ax l j=true/\(ab l j).wd<=e/\(ab l j).st=4
   ·rw[bZ hm,bZ ⟨by simp[hm.1],hm.2⟩]
   rw[bY hm,bY];rintro⟨h1,h2,h3,h4⟩;rcases cH.1 h1 with h|h
   ·exact hj ⟨h,h2,h4⟩
   exact hm ⟨h,h2,h3,h4⟩
  rw[h3,List.filter_cons,bY (by simpa using hi)];simp only[vb (show(1:Int)<=4/\(4:Int)<=5 by omega)]
theorem vV {l:List V} {i:Int} (h:ax l i=true):ab l i∈l:=by
 obtain⟨k,rfl,hk⟩:=xF h;rw[yK hk];exact cC hk
theorem wJ {l:List V} {v:V} (h:v∈l):∃i,ax l i=true/\ab l i=v:=by
 obtain⟨k,hk,rfl⟩:=List.getElem_of_mem h;exact⟨k,gZ hk,yK hk⟩
theorem DN {p:V->Prop} {l:List V}:(∀v∈l,p v)↔∀i,ax l i=true->p (ab l i) :=
 ⟨fun h i hi=>h _ (vV hi),fun h v hv=>by obtain⟨i,hi,rfl⟩:=wJ hv;exact h i hi⟩
theorem oQ {l:List V} {i:Int} (h:ax l i=false):(ab l i).st=0:=by rw[wW h];rfl
theorem yL {l:List V} {i:Int} (h:(ab l i).st≠0):ax l i=true:=by
 rcases Bool.eq_false_or_eq_true (ax l i) with h1|h1
 ·exact h1
 exact absurd (oQ h1) h
theorem xJ {l l' : List V} (h:l'.length=l.length) (i:Int):ax l' i=ax l i:=by unfold ax;rw[h]
structure VO (v:V):Prop where
 b:0<=v.bal
 s:1<=v.st/\v.st<=7
 r:-1<=v.rq/\v.rq<=1099511627776
 x:-1<=v.ex/\v.ex<=1099511627776
 w:-1<=v.wd/\v.wd<=1099511627776
 d:-1<=v.dl/\v.dl<=1099511627776
structure Sm (l l' : List V):Prop where
 st:∀i,3<=(ab l' i).st->(ab l' i).st<=5->ab l i=ab l' i
 ts:∀i,(ab l i).st=3\/(ab l i).st=4->ab l' i=ab l i
 nx:∀i,(ab l' i).st=1\/(ab l' i).st=2->(ab l' i).ex=-1\/((ab l i).st=1\/(ab l i).st=2)/\(ab l' i).ex=(ab l i).ex
structure et (ep:Int) (l:List V) (q:LL) (bo:List En) (lv:List Int):Prop where
 lnd:(q.f++q.v).Nodup
 lan:∀i,i∈q.f++q.v↔(ab l i).st=3/\(ab l i).ex=-1
 vnd:lv.Nodup
 lvs:∀i,i∈lv↔(ab l i).st=3/\(ab l i).ex≠-1
 lex:∀i∈lv,(ab l i).ex=ep+1
 bnd:(bo.map En.i).Nodup
 bon:∀i,i∈bo.map En.i↔(ab l i).st=4\/(ab l i).st=3/\(ab l i).ex≠-1
 bep:∀x∈bo,ep+1<=x.e/\x.e<=(ab l x.i).wd/\((ab l x.i).st=3->ep+2<=x.e)
 nex:∀i,(ab l i).st=1\/(ab l i).st=2->(ab l i).ex=-1
 rdy:∀i,(ab l i).st=5->(ab l i).wd<=ep
theorem Sm.iff {l l' : List V} (h:Sm l l') (p:V->Prop) (i:Int) (n:Int) (hn:n=3\/n=4):((ab l' i).st=n/\p (ab l' i))↔((ab l i).st=n/\p (ab l i)):=by
 constructor
 ·rintro⟨h1,h2⟩;rw[h.st i aK aK];exact⟨h1,h2⟩
 rintro⟨h1,h2⟩;rw[h.ts i aK];exact⟨h1,h2⟩
theorem Sm.iff1 {l l' : List V} (h:Sm l l') (i:Int) (n:Int) (hn:n=3\/n=4):(ab l' i).st=n↔(ab l i).st=n:=by
 have:=h.iff (fun _=>True) i n hn;simpa using this
theorem et.sm {ep:Int} {l l' : List V} {q:LL} {bo:List En} {lv:List Int} (h:et ep l q bo lv) (hs:Sm l l'):et ep l' q bo lv:=by
 have h3:∀i,(ab l i).st=3\/(ab l i).st=4->ab l' i=ab l i:=hs.ts;refine⟨h.lnd,fun i=>?_,h.vnd,fun i=>?_,fun i hi=>?_,h.bnd,fun i=>?_,fun x hx=>?_,fun i hi=>?_,fun i hi=>?_⟩
 ·rw[h.lan i,hs.iff (fun v=>v.ex=-1) i 3 (.inl rfl)]
 ·rw[h.lvs i,hs.iff (fun v=>v.ex≠-1) i 3 (.inl rfl)]
 ·rw[h3 i (.inl ((h.lvs i).1 hi).1)];exact h.lex i hi
 ·rw[h.bon i,hs.iff (fun v=>v.ex≠-1) i 3 (.inl rfl),hs.iff1 i 4 (.inr rfl)]
 ·have h4:=(h.bon x.i).1 (cG.2 ⟨x,hx,rfl⟩);rw[h3 x.i (by rcases h4 with h4|h4;exact .inr h4;exact .inl h4.1)];exact h.bep x hx
 ·rcases hs.nx i hi with h4|⟨h4,h5⟩
  ·exact h4
  rw[h5];exact h.nex i h4
 rw[←hs.st i aK aK];exact h.rdy i (by rw[hs.st i aK aK];exact hi)
theorem Sm.of {l l' : List V} (h:∀j,ab l' j=ab l j\/((ab l j).st≠3/\(ab l j).st≠4/\(ab l' j).st≠3/\(ab l' j).st≠4/\(ab l' j).st≠5/\((ab l' j).st=1\/(ab l' j).st=2->(ab l' j).ex=-1\/((ab l j).st=1\/(ab l j).st=2)/\(ab l' j).ex=(ab l j).ex))):Sm l l' := by
 refine⟨fun i h1 h2=>?_,fun i h1=>?_,fun i h1=>?_⟩
 ·rcases h i with h3|h3
  ·exact h3.symm
  omega
 ·rcases h i with h3|h3
  ·exact h3
  omega
 rcases h i with h3|h3
 ·exact .inr ⟨by rw[←h3];exact h1,by rw[h3]⟩
 exact h3.2.2.2.2.2 h1
theorem ku (l:List V) (v:V) (j:Int):ab (l++[v]) j=if j=(l.length:Int) then v else ab l j:=by
 unfold ab;by_cases hj:0<=j
 ·rw[bZ hj,bZ hj];obtain⟨k,rfl⟩:∃k:Nat,j=k:=⟨j.toNat,aK⟩
  simp only[Int.toNat_natCast];by_cases hk:k<l.length
  ·rw[List.getElem?_append_left hk,bY aK]
  rw[List.getElem?_append_right aK];by_cases Y0:k=l.length
  ·subst Y0;simp
  rw[bY aK,List.getElem?_eq_none aV,List.getElem?_eq_none aK]
 rw[bY hj,bY hj,bY aK]
theorem Sm.app {l:List V} {v:V} (h:v.st=1) (hx:v.ex=-1):Sm l (l++[v]):=Sm.of fun j=>by
 rw[ku];split
 ·rename_i e;have h0:(ab l j).st=0:=oQ (by rw[e];exact cY aK)
  right
  refine⟨aK,aK,aK,aK,aK,fun _=>.inl hx⟩
 exact .inl rfl
theorem pI {l:List V} {i:Int} {v:V} (h:v.bal=(ab l i).bal):bx (dT l i v)=bx l:=by
 unfold dT;split
 ·rename_i hh;obtain⟨k,rfl,hk⟩:=xF hh;rw[yK hk] at h;simp only[Int.toNat_natCast,bx,dA,h];apply List.ext_getElem?;intro j;rw[List.getElem?_set];split
  ·rename_i hj;subst hj;simp[hk]
  rfl
 rfl
theorem vK (l:List V) (i:Int) (v:V) (h:ax l i=true):(bx (dT l i v)).sum=(bx l).sum-(ab l i).bal+v.bal:=by
 obtain⟨k,rfl,hk⟩:=xF h;unfold dT;rw[bZ h,yK hk];exact po hk v
theorem sc (l:List V) (i e:Int):bx (evV l i e)=bx l:=by
 rw[ir];split
 ·exact pI rfl
 rfl
theorem xR (e:Int):∀(is:List Int) (l:List V),bx (is.foldl (fun l i=>evV l i e) l)=bx l
 | [],_=>rfl
 | i :: is,l=>by rw[cR,xR e is,sc]
theorem qK (e:Int):∀(is:List Int) (s:List V × List En),bx (is.foldl (fi e) s).1=bx s.1
 | [],_=>rfl
 | i :: is,s=>by
  rw[cR,qK e is];unfold fi;split
  ·rfl
  exact sc _ _ _
structure Mid (e d:Int) (l:List V) (q:LL) (bo:List En):Prop where
 lnd:(q.f++q.v).Nodup
 lan:∀i,i∈q.f++q.v↔(ab l i).st=3
 lax:∀i,(ab l i).st=3->(ab l i).ex=-1
 bnd:(bo.map En.i).Nodup
 bon:∀i,i∈bo.map En.i↔(ab l i).st=4
 bep:∀x∈bo,d<=x.e/\x.e<=(ab l x.i).wd
 nex:∀i,(ab l i).st=1\/(ab l i).st=2->(ab l i).ex=-1
 rdy:∀i,(ab l i).st=5->(ab l i).wd<=e
theorem vS {e:Int} (he:1<=e/\e<=5) (is:List Int) (l:List V) (j:Int) :
  ab (is.foldl (fun l i=>evV l i e) l) j=if j∈is/\(ab l j).st=e then { ab l j with st:=e+1 } else ab l j:=by
 rw[(vX he is l).2 j];by_cases h:(ab l j).st=e
 ·have hh:ax l j=true:=yL aK;simp[hh]
 simp[h]
theorem et.mid {e:Int} {l:List V} {q:LL} {bo:List En} {lv:List Int} (h:et (e-1) l q bo lv):Mid e e (lv.foldl (fun l i=>evV l i 3) l) q bo:=by
 have g:=vS (e:=3) aK lv l;have g3:∀j,(ab l j).st=3->(ab l j).ex≠-1->ab (lv.foldl (fun l i=>evV l i 3) l) j={ ab l j with st:=4 }:=fun j h1 h2=>by rw[g j,bZ ⟨(h.lvs j).2 ⟨h1,h2⟩,h1⟩];rfl
 have g0:∀j,¬((ab l j).st=3/\(ab l j).ex≠-1)->ab (lv.foldl (fun l i=>evV l i 3) l) j=ab l j:=fun j h1=>by rw[g j,bY (fun hc=>h1 ((h.lvs j).1 hc.1))]
 refine⟨h.lnd,fun i=>?_,fun i hi=>?_,h.bnd,fun i=>?_,fun x hx=>?_,fun i hi=>?_,fun i hi=>?_⟩
 ·rw[h.lan i];by_cases hc:(ab l i).st=3/\(ab l i).ex≠-1
  ·rw[g3 i hc.1 hc.2];simp[hc]
  rw[g0 i hc];constructor
  ·exact fun h1=>h1.1
  exact fun h1=>⟨h1,Classical.byContradiction fun h2=>hc ⟨h1,h2⟩⟩
 ·by_cases hc:(ab l i).st=3/\(ab l i).ex≠-1
  ·rw[g3 i hc.1 hc.2] at hi;simp at hi
  rw[g0 i hc] at hi ⊢;exact Classical.byContradiction fun h2=>hc ⟨hi,h2⟩
 ·rw[h.bon i];by_cases hc:(ab l i).st=3/\(ab l i).ex≠-1
  ·rw[g3 i hc.1 hc.2];simp[hc]
  rw[g0 i hc];constructor
  ·rintro(h1|h1)
   ·exact h1
   exact absurd h1 hc
  exact .inl
 ·obtain⟨h1,h2,h3⟩:=h.bep x hx;by_cases hc:(ab l x.i).st=3/\(ab l x.i).ex≠-1
  ·rw[g3 x.i hc.1 hc.2];exact⟨by have:=h3 hc.1;omega,h2⟩
  rw[g0 x.i hc];exact⟨aK,h2⟩
 ·by_cases hc:(ab l i).st=3/\(ab l i).ex≠-1
  ·rw[g3 i hc.1 hc.2] at hi;simp at hi
  rw[g0 i hc] at hi ⊢;exact h.nex i hi
 by_cases hc:(ab l i).st=3/\(ab l i).ex≠-1
 ·rw[g3 i hc.1 hc.2] at hi;simp at hi
 rw[g0 i hc] at hi ⊢;have:=h.rdy i hi;omega
theorem fy {e:Int} {bo:List En} {j:Int}:j∈cv e bo↔∃x∈bo,x.e=e/\x.i=j:=by
 simp only[cv,cG,List.mem_filter,decide_eq_true_eq];constructor
 ·rintro⟨x,⟨h1,h2⟩,h3⟩;exact⟨x,h1,h2,h3⟩
 rintro⟨x,h1,h2,h3⟩;exact⟨x,⟨h1,h2⟩,h3⟩
theorem fv {e:Int} {bo:List En} {x:En}:x∈cu e bo↔x∈bo/\x.e≠e:=by simp[cu]
structure Rip (e:Int) (l l' : List V) (bo:List En):Prop where
 len:l'.length=l.length
 got:∀j,ab l' j=if j∈cv e bo/\(ab l j).wd<=e/\(ab l j).st=4 then { ab l j with st:=5 } else ab l j
theorem Mid.rip {e:Int} (he:0<=e) {l:List V} {q:LL} {bo:List En} (h:Mid e e l q bo) (hw:∀j,(ab l j).wd<=1099511627776) :
  Rip e l (eQ e (l,bo)).1 bo/\Mid e (e+1) (eQ e (l,bo)).1 q (eQ e (l,bo)).2:=by
 obtain⟨h1,h2,h3⟩:=iI he (cv e bo) l (cu e bo) hw;have g:∀j,ab (eQ e (l,bo)).1 j=if j∈cv e bo/\(ab l j).wd<=e/\(ab l j).st=4 then { ab l j with st:=5 } else ab l j:=fun j=>by
  show ab ((cv e bo).foldl (fi e) (l,cu e bo)).1 j=_;rw[h2 j];by_cases h4:(ab l j).st=4
  ·have hh:ax l j=true:=yL aK;simp[hh,h4]
  simp[h4]
 have hb:(eQ e (l,bo)).2=cu e bo++((cv e bo).filter fun i=>decide (e<(ab l i).wd)).map fun i=>⟨(ab l i).wd,i⟩:=h3;have hmap:((eQ e (l,bo)).2).map En.i=(cu e bo).map En.i++(cv e bo).filter fun i=>decide (e<(ab l i).wd):=by
  rw[hb,cA,List.map_map]
  congr 1
  have:(En.i ∘ fun i=>(⟨(ab l i).wd,i⟩:En))=id:=rfl;rw[this,List.map_id]
 have gst:∀j,(ab (eQ e (l,bo)).1 j).st≠4->(ab (eQ e (l,bo)).1 j).st≠5->ab (eQ e (l,bo)).1 j=ab l j:=fun j h4 h5=>by
  rw[g j] at h4 h5 ⊢;split at h4<;>simp_all
 have ge4:∀j,(ab l j).st≠4->ab (eQ e (l,bo)).1 j=ab l j:=fun j h4=>by
  rw[g j,bY (fun hc=>h4 hc.2.2)]
 have uniq:∀x∈bo,∀y∈bo,x.i=y.i->x=y:=fun x hx y hy hxy=>by
  obtain⟨a,ha,rfl⟩:=List.getElem_of_mem hx;obtain⟨b,hb,rfl⟩:=List.getElem_of_mem hy;have hn:=List.pairwise_iff_getElem.1 h.bnd;rcases Nat.lt_trichotomy a b with hlt|J8|hlt
  ·exact absurd (by rw[List.getElem_map,List.getElem_map];exact hxy) (hn a b (by simpa using ha) (by simpa using hb) hlt)
  ·subst J8;rfl
  exact absurd (by rw[List.getElem_map,List.getElem_map];exact hxy.symm) (hn b a (by simpa using hb) (by simpa using ha) hlt)
 have mem4:∀i,i∈(eQ e (l,bo)).2.map En.i↔(ab (eQ e (l,bo)).1 i).st=4:=fun i=>by
  rw[hmap,cK];constructor
  ·rintro(h4|h4)
   ·obtain⟨x,hx,rfl⟩:=cG.1 h4;obtain⟨D5,Z4⟩:=fv.1 hx;have h5:(ab l x.i).st=4:=(h.bon x.i).1 (cG.2 ⟨x,D5,rfl⟩);rw[g x.i,bY]
    ·exact h5
    rintro⟨hc,_,_⟩;obtain⟨y,hy,hye,hyi⟩:=fy.1 hc;have:=uniq y hy x D5 hyi;subst this;exact Z4 hye
   obtain⟨h5,h6⟩:=List.mem_filter.1 h4;have h6:=bW h6;obtain⟨y,hy,hye,rfl⟩:=fy.1 h5;have h7:(ab l y.i).st=4:=(h.bon y.i).1 (cG.2 ⟨y,hy,rfl⟩);rw[g y.i,bY aK];exact h7
  intro h4;have h5:(ab l i).st=4:=by
   rw[g i] at h4;split at h4
   ·simp at h4
   exact h4
  obtain⟨x,hx,rfl⟩:=cG.1 ((h.bon i).2 h5);by_cases hxe:x.e=e
  ·right
   refine List.mem_filter.2 ⟨fy.2 ⟨x,hx,hxe,rfl⟩,cX ?_⟩;refine Classical.byContradiction fun hc=>?_;rw[g x.i,bZ ⟨fy.2 ⟨x,hx,hxe,rfl⟩,aK,h5⟩] at h4;simp at h4
  exact .inl (cG.2 ⟨x,fv.2 ⟨hx,hxe⟩,rfl⟩)
 refine⟨⟨h1,g⟩,h.lnd,fun i=>?_,fun i hi=>?_,?_,mem4,fun x hx=>?_,fun i hi=>?_,fun i hi=>?_⟩
 ·rw[h.lan i];constructor
  ·intro h4;rw[ge4 i aK];exact h4
  intro h4;rw[gst i aK aK] at h4;exact h4
 ·have hg:=gst i aK aK;rw[hg] at hi ⊢;exact h.lax i hi
 ·rw[hmap];have hd:(cv e bo).Nodup:=by
   unfold cv;exact(List.filter_sublist.map En.i).nodup h.bnd
  have hk:((cu e bo).map En.i).Nodup:=(List.filter_sublist.map En.i).nodup h.bnd;refine List.nodup_append.2 ⟨hk,List.filter_sublist.nodup hd,fun a ha b hb hab=>?_⟩;obtain⟨x,hx,rfl⟩:=cG.1 ha;obtain⟨y,hy,hye,hyi⟩:=fy.1 (List.mem_filter.1 hb).1;have:=uniq x (fv.1 hx).1 y hy (hab.trans hyi.symm);subst this;exact(fv.1 hx).2 hye
 ·have h4:=(mem4 x.i).1 (cG.2 ⟨x,hx,rfl⟩);have h5:ab (eQ e (l,bo)).1 x.i=ab l x.i:=by
   rw[g x.i] at h4 ⊢;split at h4
   ·simp at h4
   rename_i hc;rw[bY hc]
  rw[h5];rw[hb] at hx;rcases cK.1 hx with hx|hx
  ·obtain⟨D5,Z4⟩:=fv.1 hx;have:=h.bep x D5;omega
  obtain⟨i,hi,rfl⟩:=cG.1 hx;have:=bW (List.mem_filter.1 hi).2;exact⟨by show e+1<=(ab l i).wd;omega,Int.le_refl _⟩
 ·have hg:=gst i aK aK;rw[hg] at hi ⊢;exact h.nex i hi
 rw[g i] at hi ⊢;split
 ·rename_i hc;exact hc.2.1
 rename_i hc;rw[bY hc] at hi;exact h.rdy i hi
end Go.Proofs.YtdddiilocbbkkaaGreat
