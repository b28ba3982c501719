/- Part 21 of the proof of TopModel. No condition. -/
import Derived.Test.YtdddiilocbbkkaaGreatTM20
set_option linter.unusedVariables false
set_option linter.unusedSimpArgs false
namespace Go.Proofs.YtdddiilocbbkkaaGreat
open Go.RowKit Go.Eg
set_option maxHeartbeats 4000000
set_option synthInstance.maxSize 3000
set_option maxRecDepth 100000
theorem Ba (b:Nat) (g:Rg) (l:List PP) (n:Nat) (w:World) (hw:W0 [cn b g,cm g] w) (h:g.Rep 2 (l.map PP.c)) (hl:l.length<=100000):au (ι:=(bU × Nat × Rg)) Tryz.prog 155 [aG b,aH (n:Int)] w [cn b g,cm g] (fun x=>x.2.2.Rep 2 ((l.drop (l.take n).length).map PP.c)/\x.2.2.size=g.size) (fun x=>.slice x.1 (l.take n).length x.2.1) (fun x=>[Res.row x.1 (l.take n).length x.2.1 106 2 ((l.take n).map PP.c)]) (fun x=>[cn b x.2.2,cm x.2.2]):=by
 refine am Tryz.func155 22 hw ?_;refine Sq ?_;refine aa (zJ _ rfl (fun w1 a6 a8=>by have h7:=BJ b g l w1 a8 h;exact h7) rfl ?_);rintro⟨A7,t9⟩ _;refine ii (rn [3,0,1,2,2,2,47] ?_);refine s_q (qW (a:=n) (b:=(l).length) rfl rfl) rfl ?_;refine wQ A7 fun hle9 hcm9 _=>?_;refine s_q (xC (h:=(min n l.length)) rfl rfl rfl aK) rfl ?_;refine sL (A:=A7) (min n l.length) (l.take n).length ((l.take n).map PP.c) aK aM (by rw[←List.map_take,←List.take_eq_take_min]) ?_;refine ae 13 (v' := .slice (cz A7 t9 0 2) (l.take n).length t9) rfl aM (Su ?_);refine dP [0,4,5,15] (fun(x:Nat × Rg)=>[(16,aI x.1)]) (fun(x:Nat × Rg)=>[Res.row (cz A7 t9 0 2) (l.take n).length t9 106 2 ((l.take n).map PP.c),cn b x.2,cm x.2]) (fun(x:Nat × Rg)=>x.1<=(l.take n).length/\Rg.Rep x.2 2 ((l.drop x.1).map PP.c)/\Rg.size x.2=Rg.size g) (fun(x:Nat × Rg)=>(l.take n).length-x.1) (0,g) (by(try dsimp only);exact⟨cN _,(by simpa using h),rfl⟩) ?_;rintro⟨k,g9⟩ ⟨f6,j7,o5⟩;replace f6:k<=(l.take n).length:=f6;replace j7:Rg.Rep g9 2 ((l.drop k).map PP.c):=j7;replace o5:Rg.size g9=Rg.size g:=o5;refine yB (L' := [Res.row (cz A7 t9 0 2) (l.take n).length t9 106 2 ((l.take n).map PP.c),cn b g9,cm g9]) rfl ?_;refine ae 16 (v' := aI k) rfl rfl ?_;have htl:(l.take n).length<=1000000:=by simp;omega
 refine Rj ?_;refine zB rfl (fun h1=>?_) (fun h1=>?_)
 ·have f8:k<(l.take n).length:=by have h9:=bW h1;omega
  refine rn [12,7,8,14,10,2] ?_;refine aa (zJ _ rfl (fun w1 a6 a8=>by have h7:=ES b g9 (l.drop k) w1 a8 j7;exact h7) rfl ?_);rintro V7 ⟨N5,Y6⟩;refine ii (RS ?_);exact cr ((k+1),V7) (by(try dsimp only);exact⟨aN,(by rw[←List.tail_drop];exact N5),(by rw[Y6];exact o5)⟩)
 have f9:k=(l.take n).length:=by have h9:=bX h1;omega
 refine Ru ?_;refine zE (zE (zQ (Rl ?_)))
 skip
 exact dD rfl rfl fun w' a5=>⟨((cz A7 t9 0 2),t9,g9),(by(rw[←f9];exact⟨j7,o5⟩)),rfl,zA w' a5⟩
theorem BZ (b:Nat) (g:Rg) (l:List Rq) (n:Nat) (w:World) (hw:W0 [cq b g,co g] w) (h:g.Rep 2 (l.map Rq.c)) (hl:l.length<=100000):au (ι:=(bU × Nat × Rg)) Tryz.prog 158 [aG b,aH (n:Int)] w [cq b g,co g] (fun x=>x.2.2.Rep 2 ((l.drop (l.take n).length).map Rq.c)/\x.2.2.size=g.size) (fun x=>.slice x.1 (l.take n).length x.2.1) (fun x=>[Res.row x.1 (l.take n).length x.2.1 110 2 ((l.take n).map Rq.c)]) (fun x=>[cq b x.2.2,co x.2.2]):=by
 refine am Tryz.func158 22 hw ?_;refine Sq ?_;refine aa (zJ _ rfl (fun w1 a6 a8=>by have h7:=BI b g l w1 a8 h;exact h7) rfl ?_);rintro⟨A7,t9⟩ _;refine ii (rn [3,0,1,2,2,2,47] ?_);refine s_q (qW (a:=n) (b:=(l).length) rfl rfl) rfl ?_;refine wQ A7 fun hle9 hcm9 _=>?_;refine s_q (xC (h:=(min n l.length)) rfl rfl rfl aK) rfl ?_;refine sL (A:=A7) (min n l.length) (l.take n).length ((l.take n).map Rq.c) aK aM (by rw[←List.map_take,←List.take_eq_take_min]) ?_;refine ae 13 (v' := .slice (cz A7 t9 0 2) (l.take n).length t9) rfl aM (Su ?_);refine dP [0,4,5,15] (fun(x:Nat × Rg)=>[(16,aI x.1)]) (fun(x:Nat × Rg)=>[Res.row (cz A7 t9 0 2) (l.take n).length t9 110 2 ((l.take n).map Rq.c),cq b x.2,co x.2]) (fun(x:Nat × Rg)=>x.1<=(l.take n).length/\Rg.Rep x.2 2 ((l.drop x.1).map Rq.c)/\Rg.size x.2=Rg.size g) (fun(x:Nat × Rg)=>(l.take n).length-x.1) (0,g) (by(try dsimp only);exact⟨cN _,(by simpa using h),rfl⟩) ?_;rintro⟨k,g9⟩ ⟨f6,j7,o5⟩;replace f6:k<=(l.take n).length:=f6;replace j7:Rg.Rep g9 2 ((l.drop k).map Rq.c):=j7;replace o5:Rg.size g9=Rg.size g:=o5;refine yB (L' := [Res.row (cz A7 t9 0 2) (l.take n).length t9 110 2 ((l.take n).map Rq.c),cq b g9,co g9]) rfl ?_;refine ae 16 (v' := aI k) rfl rfl ?_;have htl:(l.take n).length<=1000000:=by simp;omega
 refine Rj ?_;refine zB rfl (fun h1=>?_) (fun h1=>?_)
 ·have f8:k<(l.take n).length:=by have h9:=bW h1;omega
  refine rn [12,7,8,14,10,2] ?_;refine aa (zJ _ rfl (fun w1 a6 a8=>by have h7:=ER b g9 (l.drop k) w1 a8 j7;exact h7) rfl ?_);rintro V7 ⟨N5,Y6⟩;refine ii (RS ?_);exact cr ((k+1),V7) (by(try dsimp only);exact⟨aN,(by rw[←List.tail_drop];exact N5),(by rw[Y6];exact o5)⟩)
 have f9:k=(l.take n).length:=by have h9:=bX h1;omega
 refine Ru ?_;refine zE (zE (zQ (Rl ?_)))
 skip
 exact dD rfl rfl fun w' a5=>⟨((cz A7 t9 0 2),t9,g9),(by(rw[←f9];exact⟨j7,o5⟩)),rfl,zA w' a5⟩
def loV (a b:V):V:=if a.bal<b.bal then a else b
def stW (l L:List V):Nat->List V
 | 0=>l
 | 1=>List.zipWith loV l L
 | _=>L
def stp (X Y:List V) (k:Nat):List V:=Y.take k++X.drop k
theorem lY (X Y:List V):stp X Y 0=X:=by simp[stp]
theorem pu {X Y:List V} (h:X.length=Y.length):stp X Y Y.length=Y:=by simp[stp,h]
theorem sB {X Y:List V} (h:X.length=Y.length) {k:Nat} (hk:k<=X.length):(stp X Y k).length=X.length:=by simp[stp];omega
theorem hH {X Y:List V} (h:X.length=Y.length) {k j:Nat} (hk:k<=X.length) (hj:j<X.length):(stp X Y k)[j]?=some (if j<k then Y[j] else X[j]):=by
 unfold stp;by_cases G8:j<k
 ·rw[bZ G8,List.getElem?_append_left aV,List.getElem?_take_of_lt G8,List.getElem?_eq_getElem aK]
 rw[bY G8,List.getElem?_append_right aV,List.getElem?_drop,List.length_take,show k+(j-min k Y.length)=j by omega,List.getElem?_eq_getElem hj]
theorem kV {X Y:List V} (h:X.length=Y.length) {k:Nat} (hk:k<X.length):ab (stp X Y k) k=X[k]:=by
 have h1:=hH h (Nat.le_of_lt hk) hk;rw[bY (Nat.lt_irrefl k)] at h1;unfold ab;rw[bZ aK,Int.toNat_natCast,h1];rfl
theorem gT {X Y:List V} (h:X.length=Y.length) {k:Nat} (hk:k<X.length) {v:V} (hv:Y[k]=v):dT (stp X Y k) k v=stp X Y (k+1):=by
 have hl:=sB h (Nat.le_of_lt hk);unfold dT ax;rw[bZ (cX aK),Int.toNat_natCast];apply List.ext_getElem?;intro j;rw[List.getElem?_set];by_cases hj:j<X.length
 ·rw[hH h (Nat.le_of_lt hk) hj,hH h (k:=k+1) aK hj];by_cases e:k=j
  ·subst e;rw[bZ rfl,bZ aK,bZ aK,hv]
  rw[bY e];congr 1;by_cases h2:j<k
  ·rw[bZ h2,bZ aK]
  rw[bY h2,bY aK]
 rw[bY aK,List.getElem?_eq_none aK,List.getElem?_eq_none (by rw[sB h hk];omega)]
theorem lZ {X Y:List V} (h:X.length=Y.length) {k:Nat} (hk:k<X.length) (hv:Y[k]=X[k]):stp X Y (k+1)=stp X Y k:=by
 have h1:=kV h hk;rw[←gT h hk hv,←h1];have hl:=sB h (Nat.le_of_lt hk);rw[yK aK];unfold dT;split
 ·rw[Int.toNat_natCast,List.set_getElem_self]
 rfl
theorem gS:∀{A B:List V},A.length=B.length->(∀(i:Nat) (a b:V),A[i]?=some a->B[i]?=some b->a.bal<=b.bal)->(bx A).sum<=(bx B).sum
 | [],[],_,_=>Int.le_refl _
 | a :: A,b :: B,h,hi=>by
  have h1:=gS (A:=A) (B:=B) (by simpa using h) fun i=>hi (i+1);have h2:=hi 0 a b rfl rfl;simp only[bx,cV,dB] at h1 ⊢;omega
 | [],_ :: _,h,_=>by simp at h
 | _ :: _,[],h,_=>by simp at h
theorem Dp {X Y:List V} (h:X.length=Y.length) (hb:∀(i:Nat) (a b:V),X[i]?=some a->Y[i]?=some b->b.bal<=a.bal) {k:Nat} (hk:k<=X.length):(bx (stp X Y k)).sum<=(bx X).sum :=
 gS (sB h hk) fun i a b ha H0 => by
  have hi:i<X.length:=(List.getElem?_eq_some_iff.1 H0).1;rw[hH h hk hi] at ha;split at ha
  ·injection ha with ha;exact hb i b a H0 (by rw[List.getElem?_eq_getElem aK,ha])
  injection ha with ha;rw[List.getElem?_eq_getElem hi] at H0;injection H0 with H0;rw[←ha,←H0];exact Int.le_refl _
theorem Do {X Y:List V} (h:X.length=Y.length) (hb:∀(i:Nat) (a b:V),X[i]?=some a->Y[i]?=some b->a.bal<=b.bal) {k:Nat} (hk:k<=X.length):(bx (stp X Y k)).sum<=(bx Y).sum :=
 gS ((sB h hk).trans h) fun i a b ha H0 => by
  have hi:i<Y.length:=(List.getElem?_eq_some_iff.1 H0).1;rw[hH h hk aK] at ha;split at ha
  ·injection ha with ha;rw[List.getElem?_eq_getElem hi] at H0;injection H0 with H0;rw[←ha,←H0];exact Int.le_refl _
  injection ha with ha;exact hb i a b (by rw[List.getElem?_eq_getElem aK,ha]) H0
theorem ph {l L:List V} (h:L.length=l.length):(stW l L 1).length=l.length:=by simp[stW];omega
theorem nV {l L:List V} (h:L.length=l.length) {i:Nat} (hi:i<l.length):(stW l L 1)[i]?=some (loV l[i] L[i]):=by
 simp only[stW];rw[List.getElem?_zipWith,List.getElem?_eq_getElem hi,List.getElem?_eq_getElem aK]
theorem kN {l L:List V} (h:L.length=l.length) {i:Nat} (hi:i<l.length) (h2:i<(stW l L 1).length):(stW l L 1)[i]=loV l[i] L[i]:=by
 have:=nV h hi;rw[List.getElem?_eq_getElem h2] at this;injection this
theorem pg {l L:List V} {v:V} (hv:v∈stW l L 1):v∈l\/v∈L:=by
 simp only[stW] at hv;obtain⟨i,hi,rfl⟩:=List.mem_iff_getElem.1 hv;simp only[List.length_zipWith] at hi;rw[List.getElem_zipWith];unfold loV;split
 ·exact .inl (cC _)
 exact .inr (cC _)
theorem DZ (a b:V):(loV a b).bal<=a.bal/\(loV a b).bal<=b.bal:=by unfold loV;split<;>omega
theorem CR {X Y:List V} {k:Nat} {v:V} (h:v∈stp X Y k):v∈X\/v∈Y:=by
 rcases cK.1 h with h|h
 ·exact .inr (cD h)
 exact .inl (cL h)
theorem pr {X Y:List V} {k:Nat} {v:V} (h:X.length=Y.length) (hk:k<X.length) (hv:Y[k]=v) (hX:∀x∈X,VO x) (hY:∀x∈Y,VO x) (hs:(bx (stp X Y (k+1))).sum<=18446744073709551615) {l:List V} (hl:l=stp X Y k) :
  v.ok/\∀n:Nat,(k:Int)=n->(h:n<l.length)->(l.map V.bal).sum-(l[n]).bal+v.bal<=18446744073709551615:=by
 subst hl;have hh:ax (stp X Y k) (k:Int)=true:=by unfold ax;exact cX (by rw[sB h (Nat.le_of_lt hk)];omega)
 have e:(stp X Y k).set (k:Int).toNat v=stp X Y (k+1):=by rw[xU hh];exact gT h hk hv
 exact pH (by rw[e];exact DN.1 fun x hx=>(CR hx).elim (hX x) (hY x)) (by rw[e];exact hs) hh
theorem jY (eb rb cb lb bb ub mb xb b0 b1 pb gb tb:Nat) (c:C) (blk:Nat) (g:RG) (dep paid burn:Int) (bo:List En) (lv:List Int) (cur:Nat) (m:M) (q:LL) (pend:List Int) (mg:List PP) (pt:List Rq) (br:BR) (lA:bU) (lc:Nat) (g0 g1 gp gg gt:Rg) (lA_:bU) (lC_:Nat) (L:List V) (w:World) (hw:W0 [Res.blk eb 112 (av rb cb lb bb ub mb xb pb gb tb c lA (lv.length) lc),RgB rb g,RgW g,Res.im g.m] w) (hg:g.Rep) (q7:(g.cp:Int)=c.capa) (hLr:Rd w [Res.blk eb 112 (av rb cb lb bb ub mb xb pb gb tb c lA (lv.length) lc),RgB rb g,RgW g,Res.im g.m] lA_ L.length 7 (L.map V.c)) (hL:L.length=g.l.length) (s7:∀v∈RG.l g,VO v) (hvL:∀v∈L,VO v) (hsL:(bx L).sum<=18446744073709551615):au (ι:=RG) Tryz.prog 156 [aG eb,.slice lA_ L.length lC_] w [Res.blk eb 112 (av rb cb lb bb ub mb xb pb gb tb c lA (lv.length) lc),RgB rb g,RgW g,Res.im g.m] (fun x=>x.Rep/\x.l=L/\x.cp=g.cp) (fun x=>.tuple #[]) (fun x=>[]) (fun x=>[Res.blk eb 112 (av rb cb lb bb ub mb xb pb gb tb c lA (lv.length) lc),RgB rb x,RgW x,Res.im x.m]):=by
 refine am Tryz.func156 47 hw ?_;have hLb:L.length<=4096:=by have:=hg.le;have:=hg.cp;omega
 refine rn [1,49,2,0,14] ?_;refine dP [0,1,10] (fun(x:Nat × RG)=>[(11,aI x.1)]) (fun(x:Nat × RG)=>[Res.blk eb 112 (av rb cb lb bb ub mb xb pb gb tb c lA (lv.length) lc),RgB rb x.2,RgW x.2,Res.im (RG.m x.2)]) (fun(x:Nat × RG)=>x.1<=2/\RG.Rep x.2/\RG.l x.2=stW g.l L x.1/\RG.cp x.2=RG.cp g) (fun(x:Nat × RG)=>2-x.1) (0,g) (by(try dsimp only);exact⟨aK,hg,rfl,rfl⟩) ?_;rintro⟨j,g8⟩ ⟨le_j,Z6,hl8,H8⟩;replace le_j:j<=2:=le_j;replace Z6:RG.Rep g8:=Z6;replace hl8:RG.l g8=stW g.l L j:=hl8;replace H8:RG.cp g8=RG.cp g:=H8;refine yB (L' := [Res.blk eb 112 (av rb cb lb bb ub mb xb pb gb tb c lA (lv.length) lc),RgB rb g8,RgW g8,Res.im g8.m]) rfl ?_;refine ae 11 (v' := aI j) rfl rfl (Rj ?_);refine zB rfl (fun h1=>?_) (fun h1=>?_)
 ·have B5:j<2:=by have h9:=bW h1;omega
  refine Sg ?_;rcases(show j=0\/j=1 by omega) with rfl|rfl
  ·have H1:(stW g.l L 0).length=(stW g.l L 1).length:=(ph hL).symm;have hX:∀x∈stW g.l L 0,VO x:=s7;have hY:∀x∈stW g.l L 1,VO x:=fun x hx=>(pg hx).elim (s7 x) (hvL x);have hXl:(stW g.l L 0).length=L.length:=hL.symm;have hSm:∀k,k<=L.length->(bx (stp (stW g.l L 0) (stW g.l L 1) k)).sum<=18446744073709551615:=fun k hk=>Int.le_trans (Dp H1 (fun i a b ha hb=>by
     have hi:=(List.getElem?_eq_some_iff.1 ha).1;have hi:i<g.l.length:=hi;rw[nV hL hi] at hb;injection hb with hb;rw[show(stW g.l L 0)=RG.l g from rfl,List.getElem?_eq_getElem hi] at ha;injection ha with ha;rw[←ha,←hb];exact(DZ _ _).1) aK) hg.mx
   refine rn [10] ?_;refine s_q (rW (i:=0) (v:=.bool false) rfl rfl rfl aO rfl) rfl (rn [3,0,1,2,47,2,0,14] ?_);refine dP [0,1,5,10,11,14,15] (fun(x:Nat × RG)=>[(16,aI x.1)]) (fun(x:Nat × RG)=>[Res.blk eb 112 (av rb cb lb bb ub mb xb pb gb tb c lA (lv.length) lc),RgB rb x.2,RgW x.2,Res.im (RG.m x.2)]) (fun(x:Nat × RG)=>x.1<=L.length/\RG.Rep x.2/\RG.l x.2=stp (stW g.l L 0) (stW g.l L 1) x.1/\RG.cp x.2=RG.cp g) (fun(x:Nat × RG)=>L.length-x.1) (0,g8) (by(try dsimp only);exact⟨cN _,Z6,(by rw[lY];exact hl8),H8⟩) ?_;rintro⟨k,g9⟩ ⟨f6,j7,j8,p4⟩;replace f6:k<=L.length:=f6;replace j7:RG.Rep g9:=j7;replace j8:RG.l g9=stp (stW g.l L 0) (stW g.l L 1) k:=j8;replace p4:RG.cp g9=RG.cp g:=p4;refine yB (L' := [Res.blk eb 112 (av rb cb lb bb ub mb xb pb gb tb c lA (lv.length) lc),RgB rb g9,RgW g9,Res.im g9.m]) rfl ?_;refine ae 16 (v' := aI k) rfl rfl (Rj ?_);refine zB rfl (fun h2=>?_) (fun h2=>?_)
   ·have f8:k<L.length:=by have h9:=bW h2;omega
    have A2:k<_:=hXl.symm ▸ f8;have I9:(ab g9.l (k:Int))=_:=(congrArg (fun z=>ab z (k:Int)) j8).trans (kV H1 A2);refine rn [12,7,8,14,1,2] ?_;refine s_q (zM (i:=k) rfl rfl rfl hLr.rdb aN) rfl ?_;refine s_q (zU (i:=k) rfl hLr.rdb (zP aX) rfl) rfl ?_;refine aa (zK rfl fun b7=>rn [3,33,0,1,2,6,4,4,5,2] ?_);refine aa (zN _ rfl (fun w1 a6 a8=>by exact wB rb g9 (((k:Nat):Int)) w1 a8) rfl ?_);refine Sn ?_;refine aa (zK rfl fun b8=>rn [33,3,0,1,4,5,4,5,55,2] ?_);refine s_q (iP aL rfl rfl) rfl (rn [0] ?_);refine zB rfl (fun h3=>?_) (fun h3=>?_)
    ·have X7:¬g.l[k].bal<L[k].bal:=by have h9:=h3;rw[I9] at h9;simp at h9;exact Int.not_lt.2 h9
     have D8:(stW g.l L 1)[k]'(H1 ▸ A2)=L[k]:=by rw[kN hL A2];unfold loV;rw[bY X7]
     have p6:=pr H1 A2 D8 hX hY (hSm (k+1) aK) j8;refine dR (L0:=[Res.blk eb 112 (av rb cb lb bb ub mb xb pb gb tb c lA (lv.length) lc),Res.blk b7 52 (V.c L[k])]) [] an rfl zG (RH ?_);refine dq 3 rfl (yP (c' := [aG rb]) rfl rfl rfl) (rn [23,4,2,23,5,45] ?_);refine dop 6 rfl (zJ _ rfl (fun w1 a6 a8=>by have h7:=xI rb g9 (((k:Nat):Int)) (L[k]) w1 a8 j7 p6.1 p6.2;exact h7) rfl ?_);rintro g44 ⟨r44,l44,c44⟩;refine ii (rn [27,15,7,10,43,2,9] ?_);exact cr ((k+1),g44) (by(try dsimp only);exact⟨aN,r44,(by rw[l44,j8];exact gT H1 A2 D8),(by rw[c44];exact p4)⟩)
    have X7:g.l[k].bal<L[k].bal:=by have h9:=h3;rw[I9] at h9;simp at h9;exact h9
    have hkp:(stW g.l L 1)[k]'(H1 ▸ A2)=(stW g.l L 0)[k]:=by rw[kN hL A2];unfold loV;rw[bZ X7];rfl
    refine RK ?_;exact cr ((k+1),g9) (by(try dsimp only);exact⟨aN,j7,(by rw[lZ H1 A2 hkp];exact j8),p4⟩)
   have f9:k=L.length:=by have h9:=bX h2;omega
   refine Ru ?_;refine zE (zE (zQ (rn [15,7,10,43,2,9] ?_)));exact cr ((0+1),g9) (by(try dsimp only);exact⟨aK,j7,(by rw[j8,f9,show L.length=(stW g.l L (0+1)).length from hXl.symm.trans H1];exact pu H1),p4⟩)
  have H1:(stW g.l L 1).length=(stW g.l L 2).length:=(ph hL).trans hL.symm;have hX:∀x∈stW g.l L 1,VO x:=fun x hx=>(pg hx).elim (s7 x) (hvL x);have hY:∀x∈stW g.l L 2,VO x:=hvL;have hXl:(stW g.l L 1).length=L.length:=H1;have hSm:∀k,k<=L.length->(bx (stp (stW g.l L 1) (stW g.l L 2) k)).sum<=18446744073709551615:=fun k hk=>Int.le_trans (Do H1 (fun i a b ha hb=>by
    have hi:i<L.length:=(List.getElem?_eq_some_iff.1 hb).1;rw[nV hL aK] at ha;injection ha with ha;rw[show(stW g.l L 2)=L from rfl,List.getElem?_eq_getElem hi] at hb;injection hb with hb;rw[←ha,←hb];exact(DZ _ _).2) aK) hsL
  refine rn [10] ?_;refine s_q (rW (i:=1) (v:=.bool true) rfl rfl rfl aO rfl) rfl (rn [3,0,1,2,47,2,0,14] ?_);refine dP [0,1,5,10,11,14,15] (fun(x:Nat × RG)=>[(16,aI x.1)]) (fun(x:Nat × RG)=>[Res.blk eb 112 (av rb cb lb bb ub mb xb pb gb tb c lA (lv.length) lc),RgB rb x.2,RgW x.2,Res.im (RG.m x.2)]) (fun(x:Nat × RG)=>x.1<=L.length/\RG.Rep x.2/\RG.l x.2=stp (stW g.l L 1) (stW g.l L 2) x.1/\RG.cp x.2=RG.cp g) (fun(x:Nat × RG)=>L.length-x.1) (0,g8) (by(try dsimp only);exact⟨cN _,Z6,(by rw[lY];exact hl8),H8⟩) ?_;rintro⟨k,g9⟩ ⟨f6,j7,j8,p4⟩;replace f6:k<=L.length:=f6;replace j7:RG.Rep g9:=j7;replace j8:RG.l g9=stp (stW g.l L 1) (stW g.l L 2) k:=j8;replace p4:RG.cp g9=RG.cp g:=p4;refine yB (L' := [Res.blk eb 112 (av rb cb lb bb ub mb xb pb gb tb c lA (lv.length) lc),RgB rb g9,RgW g9,Res.im g9.m]) rfl ?_;refine ae 16 (v' := aI k) rfl rfl (Rj ?_);refine zB rfl (fun h4=>?_) (fun h4=>?_)
  ·have f8:k<L.length:=by have h9:=bW h4;omega
   have A2:k<_:=hXl.symm ▸ f8;have I9:(ab g9.l (k:Int))=_:=(congrArg (fun z=>ab z (k:Int)) j8).trans (kV H1 A2);refine rn [12,7,8,14,1,2] ?_;refine s_q (zM (i:=k) rfl rfl rfl hLr.rdb aN) rfl ?_;refine s_q (zU (i:=k) rfl hLr.rdb (zP aX) rfl) rfl ?_;refine aa (zK rfl fun b7=>rn [3,33,0,1,2,6,4,4,5,2] ?_);refine aa (zN _ rfl (fun w1 a6 a8=>by exact wB rb g9 (((k:Nat):Int)) w1 a8) rfl ?_);refine Sn ?_;refine aa (zK rfl fun b8=>rn [33,3,0,1,4,5,4,5,55,2] ?_);refine s_q (iP aL rfl rfl) rfl (rn [0] ?_);refine zB rfl (fun h5=>?_) (fun h5=>?_)
   ·have D8:(stW g.l L 2)[k]'(H1 ▸ A2)=L[k]:=rfl;have p6:=pr H1 A2 D8 hX hY (hSm (k+1) aK) j8;refine dR (L0:=[Res.blk eb 112 (av rb cb lb bb ub mb xb pb gb tb c lA (lv.length) lc),Res.blk b7 52 (V.c L[k])]) [] an rfl zG (RH ?_);refine dq 3 rfl (yP (c' := [aG rb]) rfl rfl rfl) (rn [23,4,2,23,5,45] ?_);refine dop 6 rfl (zJ _ rfl (fun w1 a6 a8=>by have h7:=xI rb g9 (((k:Nat):Int)) (L[k]) w1 a8 j7 p6.1 p6.2;exact h7) rfl ?_);rintro g44 ⟨r44,l44,c44⟩;refine ii (rn [27,15,7,10,43,2,9] ?_);exact cr ((k+1),g44) (by(try dsimp only);exact⟨aN,r44,(by rw[l44,j8];exact gT H1 A2 D8),(by rw[c44];exact p4)⟩)
   have X7:¬((stW g.l L 1)[k]).bal<L[k].bal:=by have h9:=h5;rw[I9] at h9;simpa using h9
   have hkp:(stW g.l L 2)[k]'(H1 ▸ A2)=(stW g.l L 1)[k]:=by
     have X9:k<g.l.length:=by omega
     rw[kN hL X9] at X7 ⊢;unfold loV at X7 ⊢;by_cases hc:g.l[k].bal<L[k].bal
     · rw[bZ hc] at X7;exact absurd hc X7
     · rw[bY hc];rfl
   refine RK ?_;exact cr ((k+1),g9) (by(try dsimp only);exact⟨aN,j7,(by rw[lZ H1 A2 hkp];exact j8),p4⟩)
  have f9:k=L.length:=by have h9:=bX h4;omega
  refine Ru ?_;refine zE (zE (zQ (rn [15,7,10,43,2,9] ?_)));exact cr ((1+1),g9) (by(try dsimp only);exact⟨aK,j7,(by rw[j8,f9,show L.length=(stW g.l L (1+1)).length from hXl.symm.trans H1];exact pu H1),p4⟩)
 have W1:j=2:=by have h9:=bX h1;omega
 refine Ru ?_;refine zE (zE (zQ ?_));exact dF rfl fun w' a5=>⟨g8,(by exact⟨Z6,by rw[hl8,W1];rfl,H8⟩),rfl,zA w' a5⟩
structure BX where
 g:RG
 br:BR
 lA:bU
 lc:Nat
 g0:Rg
 g1:Rg
 gp:Rg
 gg:Rg
 O:bU
 oc:Nat
def evK (e:Int) (l:List V) (is:List Int) (k:Nat):List V:=(is.take k).foldl (fun l i=>evV l i e) l
theorem rh (e:Int) (l:List V) (is:List Int):evK e l is is.length=is.foldl (fun l i=>evV l i e) l:=by unfold evK;rw[cI]
theorem nC {e:Int} {l:List V} {is:List Int} {k:Nat} (h:k<is.length):evK e l is (k+1)=evV (evK e l is k) is[k] e:=wT _ _ h
theorem pv {e:Int} {l:List V} (h:stR l) (is:List Int) (k:Nat):stR (evK e l is k):=by
 have key:∀(is:List Int) (l:List V),stR l->stR (is.foldl (fun l i=>evV l i e) l):=fun is=>by
  induction is with
  | nil=>exact fun _ h=>h
  | cons i is ih=>exact fun l h=>ih _ (vu h i e)
 exact key _ _ h
theorem nc {l:List V} (h:∀i,ax l i=true->VO (ab l i)):stR l:=fun v hv=>by
 obtain⟨i,hi,rfl⟩:=wJ hv;have:=(h i hi).s;omega
theorem kS {l:List V} (h:∀i,ax l i=true->VO (ab l i)):∀v∈l,VO v:=fun v hv=>by
 obtain⟨i,hi,rfl⟩:=wJ hv;exact h i hi
theorem EA {e:Int} {l l' : List V} {bo:List En} (f:Rip e l l' bo) (h:∀i,ax l i=true->VO (ab l i)):∀i,ax l' i=true->VO (ab l' i):=fun i hi=>by
 rw[xJ f.len] at hi;have:=h i hi;rw[f.got];split
 ·exact⟨this.b,aM,this.r,this.x,this.w,this.d⟩
 exact this
theorem FN {e:Int} {c:C} (he:0<=e) (hu:1<=c.unb) (hb:e+1+c.unb<=1099511627776) {l l' : List V} {ag:List As} (f:Asg e c l l' ag) (h:∀i,ax l i=true->VO (ab l i)):∀i,ax l' i=true->VO (ab l' i):=fun i hi=>by
 rw[xJ f.len] at hi;rw[f.got];split
 ·exact(h i hi).asV aK hu hb
 exact h i hi
theorem rQ {α:Type} (l:List α) (P:Nat):(l.take P).take (min (l.take P).length P)=l.take P:=by
 rw[cP aM]
theorem RG.Rep.okB {g:RG} (h:g.Rep):okU (g.l.map V.bal):=fun y hy=>by
 obtain⟨z,hz,rfl⟩:=cG.1 hy;exact(h.ok z hz).bal
theorem RG.Rep.aB {g:RG} (h:g.Rep):0<=RG.a g/\RG.a g<=18446744073709551615:=by
 have h1:=qN (l:=RG.l g) fun v hv=>(h.ok v hv).bal.1;have h2:=h.mx;rw[h.a];unfold bx at h1;omega
theorem DI (eb rb cb lb bb ub mb xb b0 b1 pb gb tb:Nat) (c:C) (blk:Nat) (g:RG) (dep paid burn:Int) (bo:List En) (lv:List Int) (cur:Nat) (m:M) (q:LL) (pend:List Int) (mg:List PP) (pt:List Rq) (br:BR) (lA:bU) (lc:Nat) (g0 g1 gp gg gt:Rg) (w:World) (hw:W0 [Res.blk eb 112 (av rb cb lb bb ub mb xb pb gb tb c lA (lv.length) lc),RgB rb g,RgW g,Res.im g.m,CkB cb ((blk+1)) (c.elen.toNat),bB_ bb br,bW_ br,bK_ br,Res.row lA (lv).length lc 3 1 ((lv).map aC),Res.blk mb 186 (M.c m),bL_ xb b0 b1,aj b0 g0,ah g0,aj b1 g1,ah g1,aj pb gp,ah gp,cn gb gg,cm gg] w) (hi:Inv (Eg.mk c blk g.l dep paid burn bo lv cur m q pend mg pt)) (hg:g.Rep) (q7:(g.cp:Int)=c.capa) (hbr:br.Rep bo) (h0:g0.Rep 1 (q.f.map aC)) (o7:g1.Rep 1 (q.v.map aC)) (s0:Rg.size g0=c.qsize.toNat) (s1:Rg.size g1=c.qsize.toNat) (hgp:gp.Rep 1 (pend.map aC)) (sgp:Rg.size gp=c.qsize.toNat) (hgg:gg.Rep 2 (mg.map PP.c)) (sgg:Rg.size gg=c.qsize.toNat) (F8:(blk+1)%c.elen.toNat=0) (hb9:blk<1000000000):au (ι:=BX) Tryz.prog 101 [aG eb] w [Res.blk eb 112 (av rb cb lb bb ub mb xb pb gb tb c lA (lv.length) lc),RgB rb g,RgW g,Res.im g.m,CkB cb ((blk+1)) (c.elen.toNat),bB_ bb br,bW_ br,bK_ br,Res.row lA (lv).length lc 3 1 ((lv).map aC),Res.blk mb 186 (M.c m),bL_ xb b0 b1,aj b0 g0,ah g0,aj b1 g1,ah g1,aj pb gp,ah gp,cn gb gg,cm gg] (fun x=>x.g.Rep/\x.g.l=(dO (Eg.mk c (blk+1) g.l dep paid burn bo lv cur m q pend mg pt)).1.l/\x.g.cp=g.cp/\x.br.Rep (dO (Eg.mk c (blk+1) g.l dep paid burn bo lv cur m q pend mg pt)).1.bo/\x.g0.Rep 1 ((dO (Eg.mk c (blk+1) g.l dep paid burn bo lv cur m q pend mg pt)).1.q.f.map aC)/\x.g1.Rep 1 ((dO (Eg.mk c (blk+1) g.l dep paid burn bo lv cur m q pend mg pt)).1.q.v.map aC)/\x.g0.size=c.qsize.toNat/\x.g1.size=c.qsize.toNat/\x.gp.Rep 1 ((dO (Eg.mk c (blk+1) g.l dep paid burn bo lv cur m q pend mg pt)).1.pend.map aC)/\x.gp.size=c.qsize.toNat/\x.gg.Rep 2 ((dO (Eg.mk c (blk+1) g.l dep paid burn bo lv cur m q pend mg pt)).1.mg.map PP.c)/\x.gg.size=c.qsize.toNat) (fun x=>.slice x.O (dO (Eg.mk c (blk+1) g.l dep paid burn bo lv cur m q pend mg pt)).2.length x.oc) (fun x=>[Res.row x.O (dO (Eg.mk c (blk+1) g.l dep paid burn bo lv cur m q pend mg pt)).2.length x.oc 55 3 ((dO (Eg.mk c (blk+1) g.l dep paid burn bo lv cur m q pend mg pt)).2.map As.cs)]) (fun x=>[Res.blk eb 112 (av rb cb lb bb ub mb xb pb gb tb c x.lA ((dO (Eg.mk c (blk+1) g.l dep paid burn bo lv cur m q pend mg pt)).1.lv.length) x.lc),RgB rb x.g,RgW x.g,Res.im (RG.m x.g),CkB cb ((blk+1)) (c.elen.toNat),bB_ bb x.br,bW_ x.br,bK_ x.br,Res.row x.lA ((dO (Eg.mk c (blk+1) g.l dep paid burn bo lv cur m q pend mg pt)).1.lv).length x.lc 3 1 (((dO (Eg.mk c (blk+1) g.l dep paid burn bo lv cur m q pend mg pt)).1.lv).map aC),Res.blk mb 186 (M.c (dO (Eg.mk c (blk+1) g.l dep paid burn bo lv cur m q pend mg pt)).1.m),bL_ xb b0 b1,aj b0 x.g0,ah x.g0,aj b1 x.g1,ah x.g1,aj pb x.gp,ah x.gp,cn gb x.gg,cm x.gg]):=by
 refine am Tryz.func101 111 hw ?_;have i6:Cok c:=hi.cok;have o6:Cmo c:=yM hi.cc;have u6:blk<=1000000000:=hi.blk;have hk:blk<4611686018427387904:=by omega
 have k8:1<=c.elen.toNat/\c.elen.toNat<=4611686018427387904:=by have:=i6.elen;omega
 have y2:LOk c.supc dep paid burn:=hi.led;have y8:q.f.length<=c.qsize.toNat/\q.v.length<=c.qsize.toNat:=hi.qf;have t6:(bx g.l).sum=dep-paid-burn:=hi.sum;have s7:∀i,ax g.l i=true->VO (ab g.l i):=hi.vo;have F9:=o6.qsize;have hE:et ((((blk+1)/c.elen.toNat:Nat):Int)-1) g.l q bo lv:=by
   have h9:=hi.e;have h8:=gR (s:=(Eg.mk c blk g.l dep paid burn bo lv cur m q pend mg pt)) i6.elen.1;rw[bZ F8] at h8;exact h9.ep_eq (by unfold Eg.ep at h8 ⊢;simp only at h8 ⊢;omega)
 have G1:0<=(((blk+1)/c.elen.toNat:Nat):Int)/\(((blk+1)/c.elen.toNat:Nat):Int)<=1000000000:=⟨Int.natCast_nonneg _,by have h9:=Nat.div_le_self (blk+1) c.elen.toNat;generalize (blk+1)/c.elen.toNat=z at h9 ⊢;omega⟩
 obtain⟨P,hP⟩:∃P:Nat,c.merg=P:=⟨c.merg.toNat,by have h9:=o6.merg;omega⟩
 have hgl0:=hg.le;have hgc0:=hg.cp;have hlvl:lv.length<=g.l.length:=hi.e.lvl;have hbol:bo.length<=g.l.length:=hi.e.bol;refine rn [1,3,0,1,2,6,4,5] ?_;refine aa (zN _ rfl (fun w1 a6 a8=>by exact yE cb (blk+1) c.elen.toNat w1 a8 aK k8) rfl ?_);refine rn [3,0,8,1,2,6,4,5,47,2,0,14] ?_;refine dP [0,2,3,20,21] (fun(x:Nat × RG)=>[(22,aI x.1)]) (fun(x:Nat × RG)=>[Res.blk eb 112 (av rb cb lb bb ub mb xb pb gb tb c lA (lv.length) lc),RgB rb x.2,RgW x.2,Res.im (RG.m x.2),CkB cb ((blk+1)) (c.elen.toNat),bB_ bb br,bW_ br,bK_ br,Res.row lA (lv).length lc 3 1 ((lv).map aC),Res.blk mb 186 (M.c m),bL_ xb b0 b1,aj b0 g0,ah g0,aj b1 g1,ah g1,aj pb gp,ah gp,cn gb gg,cm gg]) (fun(x:Nat × RG)=>x.1<=lv.length/\RG.Rep x.2/\RG.l x.2=evK 3 g.l lv x.1/\RG.cp x.2=RG.cp g) (fun(x:Nat × RG)=>lv.length-x.1) (0,g) (by(try dsimp only);exact⟨cN _,hg,rfl,rfl⟩) ?_;rintro⟨k,g9⟩ ⟨f6,j7,j8,p4⟩;replace f6:k<=lv.length:=f6;replace j7:RG.Rep g9:=j7;replace j8:RG.l g9=evK 3 g.l lv k:=j8;replace p4:RG.cp g9=RG.cp g:=p4;refine yB (L' := [Res.blk eb 112 (av rb cb lb bb ub mb xb pb gb tb c lA (lv.length) lc),RgB rb g9,RgW g9,Res.im g9.m,CkB cb ((blk+1)) (c.elen.toNat),bB_ bb br,bW_ br,bK_ br,Res.row lA (lv).length lc 3 1 ((lv).map aC),Res.blk mb 186 (M.c m),bL_ xb b0 b1,aj b0 g0,ah g0,aj b1 g1,ah g1,aj pb gp,ah gp,cn gb gg,cm gg]) rfl ?_;refine ae 22 (v' := aI k) rfl rfl ?_;have S7:stR g9.l:=by rw[j8];exact pv (nc s7) lv k
 refine Rj ?_;refine zB rfl (fun h1=>?_) (fun h1=>?_)
 ·have f8:k<lv.length:=by have h9:=bW h1;omega
  refine Ry ?_;refine s_q (zM (i:=k) rfl rfl rfl (ird (A:=lA)) aN) rfl ?_;refine s_q (zX (i:=k) (o:=0) rfl (ird (A:=lA)) (zP aT) rfl rfl) rfl (rn [3,0,10,2,6,4] ?_);refine s_q (yP (c' := [aG rb]) rfl rfl rfl) rfl (SD ?_);refine aa (zJ _ rfl (fun w1 a6 a8=>by have h7:=pG rb g9 ((lv)[k]) 3 w1 a8 j7 aO S7;exact h7) rfl ?_);rintro g31 ⟨r31,l31,c31⟩;refine ii (RS ?_);exact cr ((k+1),g31) (by(try dsimp only);exact⟨aN,r31,(by rw[l31,j8];exact(nC f8).symm),(by rw[c31];exact p4)⟩)
 have f9:k=lv.length:=by have h9:=bX h1;omega
 refine Ru ?_;refine zE (zE (zQ (rn [7,1,2,6,4] ?_)));refine aa (zI rfl rfl rfl rfl rfl rfl rfl ?_);refine zF (b:=eb) (av rb cb lb bb ub mb xb pb gb tb c none (([]:List Int).length) 0) aP ?_;refine zY none 3 1 (([]:List Int).map aC) aP ?_;rw[f9,rh] at j8;have d1:Mid (((blk+1)/c.elen.toNat:Nat):Int) (((blk+1)/c.elen.toNat:Nat):Int) g9.l q bo:=by rw[j8];exact hE.mid
 have v1:∀i,ax g9.l i=true->VO (ab g9.l i):=by rw[j8];exact lV aK lv s7
 have b1_:bx g9.l=bx g.l:=by rw[j8];exact xR 3 _ _
 refine SE ?_;refine aa (zJ _ rfl (fun w1 a6 a8=>by have h7:=sx eb rb cb lb bb ub mb xb b0 b1 pb gb tb c (blk+1) g9 dep paid burn bo ([]:List Int) cur m q pend mg pt br none 0 g0 g1 gp gg gt (((((blk+1)/c.elen.toNat):Nat):Int)) w1 a8 j7 aK hbr (nc v1) aK;exact h7) rfl ?_);rintro⟨i7,br38⟩ ⟨r38,l38,c38,rb38⟩;refine ii ?_;simp only at r38 l38 c38 rb38;obtain⟨f2,d2⟩:=d1.rip G1.1 (VO.z_wd _ v1);have b2:bx i7.l=bx g9.l:=by rw[l38];exact qK _ _ _
 have v2:=EA f2 v1;rw[←l38] at f2 d2 v2;have U0:(eQ (((blk+1)/c.elen.toNat:Nat):Int) (RG.l g9,bo)).2.length<=100000:=by have h9:=mE (e:=(((blk+1)/c.elen.toNat:Nat):Int)) (s:=(RG.l g9,bo)) (cv (((blk+1)/c.elen.toNat:Nat):Int) bo).length;rw[mF] at h9;simp only at h9;omega
 have haB:=r38.aB;have hch:0<=(dK i7.a c.minch c.quot)/\(dK i7.a c.minch c.quot)<=18446744073709551615:=by
   have h9:=hi.ck.minch;have h8:=hi.ck.quot;simp only at h9 h8;refine⟨jC haB.1 h9.1,?_⟩;unfold dK;split
   · exact h9.2
   · have h7:=Int.ediv_le_self c.quot haB.1;omega
 refine Sw ?_;refine dR (L0:=[Res.blk eb 112 (av rb cb lb bb ub mb xb pb gb tb c none (([]:List Int).length) 0)]) [] an rfl zG (rn [23,0,2,23,1,6,23,2,4,23,3,4,23,4,5,23,6,2,23,7,6,23,8,4,23,9,4,23,10,5,23,11,2,23,12,6,23,13,4,23,14,4,23,15,5] ?_);refine dop 5 rfl (zN _ rfl (fun w1 a6 a8=>by exact mH rb i7 w1 a8) rfl ?_);refine dop 16 rfl (zH rfl (fun w1 a6=>by exact uh (i7.a) (c.minch) (c.quot) w1 haB hi.ck.minch hi.ck.quot) rfl ?_);refine rn [23,17,3,27,7,1,2,2,2] ?_;refine aa (zJ _ rfl (fun w1 a6 a8=>by have h7:=oq eb rb cb lb bb ub mb xb b0 b1 pb gb tb c (blk+1) i7 dep paid burn (eQ ((((blk+1)/c.elen.toNat):Nat):Int) (RG.l g9,bo)).2 ([]:List Int) cur m q pend mg pt br38 none 0 g0 g1 gp gg gt (((((blk+1)/c.elen.toNat):Nat):Int)) ((dK i7.a c.minch c.quot)) w1 a8 r38 aK rb38 h0 o7 s0 s1 y8 F9 G1 i6.unb d2 v2 U0 aM;exact h7) rfl ?_);rintro⟨g59,C2,D3,D2,G3,G2,O59,R6⟩ ⟨r59,l59,c59,rb59,ra59,rbb59,sa59,sb59⟩;refine ii ?_;simp only at r59 l59 c59 rb59 ra59 rbb59 sa59 sb59;refine rn [3,0,8,8] ?_;refine dR (L0:=[Res.blk eb 112 (av rb cb lb bb ub mb xb pb gb tb c D3 (((ce (i7.l.map V.bal) (((blk+1)/c.elen.toNat:Nat):Int) (dK i7.a c.minch c.quot) q m).1.foldl (eJ c) (RG.l i7,(eQ (((blk+1)/c.elen.toNat:Nat):Int) (RG.l g9,bo)).2,([]:List Int))).2.2.length) D2)]) [] an rfl zG (rn [23,0,2,23,1,6,23,2,4,23,3,5,23,4,2,23,5,2,23,6,6,23,7,4] ?_);refine dq 8 rfl (yP (c' := [aG rb]) rfl rfl rfl) (rn [23,12,2] ?_);refine dop 9 rfl (zJ _ rfl (fun w1 a6 a8=>by have h7:=tD rb g59 w1 a8 r59;exact h7) rfl ?_);rintro⟨A69,cap69⟩ _;refine ii ?_;refine dop 10 rfl (zJ _ rfl (fun w1 a6 a8=>by have h7:=na pb gp ((dK i7.a c.minch c.quot)) A69 ((g59.l.map V.bal).length) (cap69) (g59.l.map V.bal) pend w1 a8 hgp (Rd.ofRow (A:=A69) a6) r59.okB hch (by have h9:=hi.pe;simp only at h9;omega);exact h7) rfl ?_);rintro⟨A70,cap70,C4⟩ ⟨P3,s70⟩;refine ii ?_;simp only at P3 s70;refine rn [23,11,47,27,7,14] ?_;obtain⟨f3,e3⟩:=d2.asg G1.1 i6.unb.1 (by have h9:=i6.unb;omega) (VO.z_wd _ v2) (i7.l.map V.bal) (dK i7.a c.minch c.quot) m;have v3:=FN G1.1 i6.unb.1 (by have h9:=i6.unb;omega) f3 v2;have b3:bx g59.l=bx i7.l:=by rw[l59];exact f3.bal
 rw[←l59] at v3;have hacl:(dd (dK i7.a c.minch c.quot) (g59.l.map V.bal) pend 0 true).length<=4096:=by have h9:=sT (dK i7.a c.minch c.quot) (g59.l.map V.bal) pend 0 true;have h8:=hi.pe;simp only at h8;omega
 refine dP [0,2,7,70,71] (fun(x:Nat × RG)=>[(72,aI x.1)]) (fun(x:Nat × RG)=>[Res.row A70 (dd (dK i7.a c.minch c.quot) (g59.l.map V.bal) pend 0 true).length cap70 3 1 ((dd (dK i7.a c.minch c.quot) (g59.l.map V.bal) pend 0 true).map aC),Res.row O59 (ce (i7.l.map V.bal) (((blk+1)/c.elen.toNat:Nat):Int) (dK i7.a c.minch c.quot) q m).1.length R6 55 3 ((ce (i7.l.map V.bal) (((blk+1)/c.elen.toNat:Nat):Int) (dK i7.a c.minch c.quot) q m).1.map As.cs),Res.blk eb 112 (av rb cb lb bb ub mb xb pb gb tb c D3 (((ce (i7.l.map V.bal) (((blk+1)/c.elen.toNat:Nat):Int) (dK i7.a c.minch c.quot) q m).1.foldl (eJ c) (RG.l i7,(eQ (((blk+1)/c.elen.toNat:Nat):Int) (RG.l g9,bo)).2,([]:List Int))).2.2.length) D2),RgB rb x.2,RgW x.2,Res.im (RG.m x.2),CkB cb ((blk+1)) (c.elen.toNat),bB_ bb C2,bW_ C2,bK_ C2,Res.row D3 (((ce (i7.l.map V.bal) (((blk+1)/c.elen.toNat:Nat):Int) (dK i7.a c.minch c.quot) q m).1.foldl (eJ c) (RG.l i7,(eQ (((blk+1)/c.elen.toNat:Nat):Int) (RG.l g9,bo)).2,([]:List Int))).2.2).length D2 3 1 ((((ce (i7.l.map V.bal) (((blk+1)/c.elen.toNat:Nat):Int) (dK i7.a c.minch c.quot) q m).1.foldl (eJ c) (RG.l i7,(eQ (((blk+1)/c.elen.toNat:Nat):Int) (RG.l g9,bo)).2,([]:List Int))).2.2).map aC),Res.blk mb 186 (M.c (ce (i7.l.map V.bal) (((blk+1)/c.elen.toNat:Nat):Int) (dK i7.a c.minch c.quot) q m).2.2),bL_ xb b0 b1,aj b0 G3,ah G3,aj b1 G2,ah G2,aj pb C4,ah C4,cn gb gg,cm gg]) (fun(x:Nat × RG)=>x.1<=(dd (dK i7.a c.minch c.quot) (g59.l.map V.bal) pend 0 true).length/\RG.Rep x.2/\RG.l x.2=evK 1 g59.l (dd (dK i7.a c.minch c.quot) (g59.l.map V.bal) pend 0 true) x.1/\RG.cp x.2=RG.cp g59) (fun(x:Nat × RG)=>(dd (dK i7.a c.minch c.quot) (g59.l.map V.bal) pend 0 true).length-x.1) (0,g59) (by(try dsimp only);exact⟨cN _,r59,rfl,rfl⟩) ?_;rintro⟨k,gz9⟩ ⟨f6,hrz,hlz,hcz⟩;replace f6:k<=(dd (dK i7.a c.minch c.quot) (g59.l.map V.bal) pend 0 true).length:=f6;replace hrz:RG.Rep gz9:=hrz;replace hlz:RG.l gz9=evK 1 g59.l (dd (dK i7.a c.minch c.quot) (g59.l.map V.bal) pend 0 true) k:=hlz;replace hcz:RG.cp gz9=RG.cp g59:=hcz;refine yB (L' := [Res.row A70 (dd (dK i7.a c.minch c.quot) (g59.l.map V.bal) pend 0 true).length cap70 3 1 ((dd (dK i7.a c.minch c.quot) (g59.l.map V.bal) pend 0 true).map aC),Res.row O59 (ce (i7.l.map V.bal) (((blk+1)/c.elen.toNat:Nat):Int) (dK i7.a c.minch c.quot) q m).1.length R6 55 3 ((ce (i7.l.map V.bal) (((blk+1)/c.elen.toNat:Nat):Int) (dK i7.a c.minch c.quot) q m).1.map As.cs),Res.blk eb 112 (av rb cb lb bb ub mb xb pb gb tb c D3 (((ce (i7.l.map V.bal) (((blk+1)/c.elen.toNat:Nat):Int) (dK i7.a c.minch c.quot) q m).1.foldl (eJ c) (RG.l i7,(eQ (((blk+1)/c.elen.toNat:Nat):Int) (RG.l g9,bo)).2,([]:List Int))).2.2.length) D2),RgB rb gz9,RgW gz9,Res.im gz9.m,CkB cb ((blk+1)) (c.elen.toNat),bB_ bb C2,bW_ C2,bK_ C2,Res.row D3 (((ce (i7.l.map V.bal) (((blk+1)/c.elen.toNat:Nat):Int) (dK i7.a c.minch c.quot) q m).1.foldl (eJ c) (RG.l i7,(eQ (((blk+1)/c.elen.toNat:Nat):Int) (RG.l g9,bo)).2,([]:List Int))).2.2).length D2 3 1 ((((ce (i7.l.map V.bal) (((blk+1)/c.elen.toNat:Nat):Int) (dK i7.a c.minch c.quot) q m).1.foldl (eJ c) (RG.l i7,(eQ (((blk+1)/c.elen.toNat:Nat):Int) (RG.l g9,bo)).2,([]:List Int))).2.2).map aC),Res.blk mb 186 (M.c (ce (i7.l.map V.bal) (((blk+1)/c.elen.toNat:Nat):Int) (dK i7.a c.minch c.quot) q m).2.2),bL_ xb b0 b1,aj b0 G3,ah G3,aj b1 G2,ah G2,aj pb C4,ah C4,cn gb gg,cm gg]) rfl ?_;refine ae 72 (v' := aI k) rfl rfl ?_;have S7:stR gz9.l:=by rw[hlz];exact pv (nc v3) _ k
 refine Rj ?_;refine zB rfl (fun h2=>?_) (fun h2=>?_)
 ·have f8:k<(dd (dK i7.a c.minch c.quot) (g59.l.map V.bal) pend 0 true).length:=by have h9:=bW h2;omega
  refine Ry ?_;refine s_q (zM (i:=k) rfl rfl rfl (ird (A:=A70)) aN) rfl ?_;refine s_q (zX (i:=k) (o:=0) rfl (ird (A:=A70)) (zP aT) rfl rfl) rfl (rn [3,0,10,2,6,4] ?_);refine s_q (yP (c' := [aG rb]) rfl rfl rfl) rfl (SD ?_);refine aa (zJ _ rfl (fun w1 a6 a8=>by have h7:=pG rb gz9 (((dd (dK i7.a c.minch c.quot) (g59.l.map V.bal) pend 0 true))[k]) 1 w1 a8 hrz aO S7;exact h7) rfl ?_);rintro g81 ⟨r81,l81,c81⟩;refine ii (RS ?_);exact cr ((k+1),g81) (by(try dsimp only);exact⟨aN,r81,(by rw[l81,hlz];exact(nC f8).symm),(by rw[c81];exact hcz)⟩)
 have f9:k=(dd (dK i7.a c.minch c.quot) (g59.l.map V.bal) pend 0 true).length:=by have h9:=bX h2;omega
 refine Ru ?_;refine zE (zE (zQ (rn [7,8] ?_)));refine dR (L0:=[Res.blk eb 112 (av rb cb lb bb ub mb xb pb gb tb c D3 (((ce (i7.l.map V.bal) (((blk+1)/c.elen.toNat:Nat):Int) (dK i7.a c.minch c.quot) q m).1.foldl (eJ c) (RG.l i7,(eQ (((blk+1)/c.elen.toNat:Nat):Int) (RG.l g9,bo)).2,([]:List Int))).2.2.length) D2)]) [] an rfl zG ?_;rw[f9,rh] at hlz;have v4:∀i,ax gz9.l i=true->VO (ab gz9.l i):=by rw[hlz];exact lV aK _ v3
 have b4:bx gz9.l=bx g59.l:=by rw[hlz];exact xR 1 _ _
 obtain⟨f5,s5⟩:=K2.runM (c:=c) (mg.take P) v4;have k_l:∀z∈RG.l gz9,z.ok:=hrz.ok;have hgl:=hrz.le;have hgc:=hrz.cp;have F2:mg.length<=4096:=by have h9:=hi.mg;simp only at h9;omega
 have hmtl:(mg.take P).length<=4096:=by simp;omega
 refine RQ ?_;refine ae 98 (v' := aI P) rfl (by rw[hP]) (rn [23,16,2,23,17,6,23,18,4] ?_);refine dq 19 rfl (yP (c' := C.c c) rfl rfl rfl) ?_;refine dop 5 rfl (zJ _ rfl (fun w1 a6 a8=>by have h7:=uI rb gz9 w1 a8 hrz;exact h7) rfl ?_);rintro⟨A89,cap89⟩ _;refine ii ?_;refine dop 15 rfl (zJ _ rfl (fun w1 a6 a8=>by have h7:=Ba gb gg mg P w1 a8 hgg aK;exact h7) rfl ?_);rintro⟨A99,cap99,g99⟩ ⟨r99,s99⟩;refine ii ?_;simp only at r99 s99;refine dop 20 rfl (zJ [] rfl (fun w1 a6 a8=>by have h7:=nZ A89 A99 (gz9.l.length) (cap89) (cap99) P (gz9.l) ((mg.take P)) c w1 (Rd.ofRow (A:=A89) a6) (Rd.ofRow (A:=A99) a6) (iH (A:=A99) a6) aK aK hP (fun x hx=>(k_l x hx).bal);exact h7) rfl ?_);rintro⟨A104,X1,AA104,capd104⟩ _;refine ii ?_;obtain⟨V9,G9⟩:∃x,x=(runM c gz9.l ((mg.take P).take (min (mg.take P).length P))).1:=⟨_,rfl⟩
 obtain⟨d104,hd104⟩:∃x,x=(runM c gz9.l ((mg.take P).take (min (mg.take P).length P))).2:=⟨_,rfl⟩
 rw[←G9,←hd104];have hgl104:V9.length=gz9.l.length:=by rw[G9];exact(yG _ _ _).1
 have hdl104:d104.length=min (mg.take P).length P:=by rw[hd104,(yG _ _ _).2];simp
 refine rn [23,21,2,23,22,40,23,23,40,23,24,3,23,25,3,27,7,1] ?_;refine zR (A:=A104) V9.length aK ?_;refine ae 10 (v' := .slice A104 V9.length X1) rfl (by rw[hgl104]) (rn [2,2] ?_);refine aa (zJ _ rfl (fun w1 a6 a8=>by have h7:=jY eb rb cb lb bb ub mb xb b0 b1 pb gb tb c (blk+1) gz9 dep paid burn ((ce (i7.l.map V.bal) ((((blk+1)/c.elen.toNat):Nat):Int) (dK i7.a c.minch c.quot) q m).1.foldl (eJ c) (RG.l i7,(eQ ((((blk+1)/c.elen.toNat):Nat):Int) (RG.l g9,bo)).2,([]:List Int))).2.1 ((ce (i7.l.map V.bal) ((((blk+1)/c.elen.toNat):Nat):Int) (dK i7.a c.minch c.quot) q m).1.foldl (eJ c) (RG.l i7,(eQ ((((blk+1)/c.elen.toNat):Nat):Int) (RG.l g9,bo)).2,([]:List Int))).2.2 cur (ce (i7.l.map V.bal) ((((blk+1)/c.elen.toNat):Nat):Int) (dK i7.a c.minch c.quot) q m).2.2 (ce (i7.l.map V.bal) ((((blk+1)/c.elen.toNat):Nat):Int) (dK i7.a c.minch c.quot) q m).2.1 (pend.drop (dd (dK i7.a c.minch c.quot) (g59.l.map V.bal) pend 0 true).length) (mg.drop (mg.take P).length) pt C2 D3 D2 G3 G2 C4 g99 gt A104 X1 V9 w1 a8 hrz aK (Rd.ofRow (A:=A104) a6) aK (kS v4) (kS (by rw[G9,rQ];exact f5.vo v4)) (by rw[G9,rQ,s5,b4,b3,b2,b1_];exact hg.mx);exact h7) rfl ?_);rintro L4 ⟨r109,l109,c109⟩;refine ii (SJ ?_);have hB:(dO (Eg.mk c (blk+1) g.l dep paid burn bo lv cur m q pend mg pt))=((Eg.mk c (blk+1) V9 dep paid burn ((ce (i7.l.map V.bal) (((blk+1)/c.elen.toNat:Nat):Int) (dK i7.a c.minch c.quot) q m).1.foldl (eJ c) (RG.l i7,(eQ (((blk+1)/c.elen.toNat:Nat):Int) (RG.l g9,bo)).2,([]:List Int))).2.1 ((ce (i7.l.map V.bal) (((blk+1)/c.elen.toNat:Nat):Int) (dK i7.a c.minch c.quot) q m).1.foldl (eJ c) (RG.l i7,(eQ (((blk+1)/c.elen.toNat:Nat):Int) (RG.l g9,bo)).2,([]:List Int))).2.2 cur (ce (i7.l.map V.bal) (((blk+1)/c.elen.toNat:Nat):Int) (dK i7.a c.minch c.quot) q m).2.2 (ce (i7.l.map V.bal) (((blk+1)/c.elen.toNat:Nat):Int) (dK i7.a c.minch c.quot) q m).2.1 (pend.drop (dd (dK i7.a c.minch c.quot) (g59.l.map V.bal) pend 0 true).length) (mg.drop (mg.take P).length) pt),(ce (i7.l.map V.bal) (((blk+1)/c.elen.toNat:Nat):Int) (dK i7.a c.minch c.quot) q m).1):=by
   have hPn:c.merg.toNat=P:=by omega
   rw[rQ] at G9;unfold dO ee Eg.ep;dsimp only;unfold bx;rw[←j8,←l38,←r38.a,←l59,←hlz,hPn,←G9]
 exact dD rfl rfl fun w' a5=>⟨(⟨L4,C2,D3,D2,G3,G2,C4,g99,O59,R6⟩:BX),(by(try dsimp only);(rw[hB];exact⟨r109,l109,by rw[c109,hcz,c59,c38,p4],rb59,ra59,rbb59,sa59,sb59,P3,by rw[s70];exact sgp,r99,by rw[s99];exact sgg⟩)),by rw[hB],by have h9:=zG (L' := [Res.row O59 (ce (i7.l.map V.bal) (((blk+1)/c.elen.toNat:Nat):Int) (dK i7.a c.minch c.quot) q m).1.length R6 55 3 ((ce (i7.l.map V.bal) (((blk+1)/c.elen.toNat:Nat):Int) (dK i7.a c.minch c.quot) q m).1.map As.cs),Res.blk eb 112 (av rb cb lb bb ub mb xb pb gb tb c D3 (((ce (i7.l.map V.bal) (((blk+1)/c.elen.toNat:Nat):Int) (dK i7.a c.minch c.quot) q m).1.foldl (eJ c) (RG.l i7,(eQ (((blk+1)/c.elen.toNat:Nat):Int) (RG.l g9,bo)).2,([]:List Int))).2.2.length) D2),RgB rb L4,RgW L4,Res.im L4.m,CkB cb ((blk+1)) (c.elen.toNat),bB_ bb C2,bW_ C2,bK_ C2,Res.row D3 (((ce (i7.l.map V.bal) (((blk+1)/c.elen.toNat:Nat):Int) (dK i7.a c.minch c.quot) q m).1.foldl (eJ c) (RG.l i7,(eQ (((blk+1)/c.elen.toNat:Nat):Int) (RG.l g9,bo)).2,([]:List Int))).2.2).length D2 3 1 ((((ce (i7.l.map V.bal) (((blk+1)/c.elen.toNat:Nat):Int) (dK i7.a c.minch c.quot) q m).1.foldl (eJ c) (RG.l i7,(eQ (((blk+1)/c.elen.toNat:Nat):Int) (RG.l g9,bo)).2,([]:List Int))).2.2).map aC),Res.blk mb 186 (M.c (ce (i7.l.map V.bal) (((blk+1)/c.elen.toNat:Nat):Int) (dK i7.a c.minch c.quot) q m).2.2),bL_ xb b0 b1,aj b0 G3,ah G3,aj b1 G2,ah G2,aj pb C4,ah C4,cn gb g99,cm g99]) w' a5;show WOK _ _ [Res.row O59 (dO (Eg.mk c (blk+1) g.l dep paid burn bo lv cur m q pend mg pt)).2.length R6 55 3 ((dO (Eg.mk c (blk+1) g.l dep paid burn bo lv cur m q pend mg pt)).2.map As.cs),Res.blk eb 112 (av rb cb lb bb ub mb xb pb gb tb c D3 ((dO (Eg.mk c (blk+1) g.l dep paid burn bo lv cur m q pend mg pt)).1.lv.length) D2),RgB rb L4,RgW L4,Res.im L4.m,CkB cb ((blk+1)) (c.elen.toNat),bB_ bb C2,bW_ C2,bK_ C2,Res.row D3 ((dO (Eg.mk c (blk+1) g.l dep paid burn bo lv cur m q pend mg pt)).1.lv).length D2 3 1 (((dO (Eg.mk c (blk+1) g.l dep paid burn bo lv cur m q pend mg pt)).1.lv).map aC),Res.blk mb 186 (M.c (dO (Eg.mk c (blk+1) g.l dep paid burn bo lv cur m q pend mg pt)).1.m),bL_ xb b0 b1,aj b0 G3,ah G3,aj b1 G2,ah G2,aj pb C4,ah C4,cn gb g99,cm g99] _;rw[hB];exact h9⟩
end Go.Proofs.YtdddiilocbbkkaaGreat
