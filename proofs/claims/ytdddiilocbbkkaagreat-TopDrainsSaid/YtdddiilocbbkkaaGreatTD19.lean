/- TopDrains: for every configuration and all operations the law returns true. No condition. Part 19 of 28. -/
import Derived.Test.YtdddiilocbbkkaaGreatTD18
set_option linter.unusedVariables false
set_option linter.unusedSimpArgs false
namespace Go.Proofs.YtdddiilocbbkkaaGreat
open Go.RowKit Go.Eg
set_option maxHeartbeats 4000000
set_option synthInstance.maxSize 3000
set_option maxRecDepth 100000
theorem take_pp (b:Nat) (g:Rg) (l:List PP) (n:Nat) (w:World) (hw:W0 [rB_pp b g,rW_pp g] w) (h:g.Rep 2 (l.map PP.c)) (hl:l.length≤100000):Own2 (ι:=(Option Addr × Nat × Rg)) Tryz.prog 155 [.pointer (some ⟨b,0,none⟩),.int .i64 (n:Int)] w [rB_pp b g,rW_pp g] (fun x=>x.2.2.Rep 2 ((l.drop (l.take n).length).map PP.c)∧x.2.2.size=g.size) (fun x=>.slice x.1 (l.take n).length x.2.1) (fun x=>[Res.row x.1 (l.take n).length x.2.1 106 2 ((l.take n).map PP.c)]) (fun x=>[rB_pp b x.2.2,rW_pp x.2.2]):=by
 refine g_st Tryz.func155 22 hw ?_
 refine rn [1,3,0,1,2] ?_
 refine g_op (zG _ rfl (fun w1 hw1 ho1=>by have h7:=all_pp b g l w1 ho1 h;exact h7) rfl ?_)
 rintro⟨A7,cap7⟩ _
 refine ii ?_
 refine rn [3,0,1,2,2,2,47] ?_
 refine s_q (rQ (a:=n) (b:=(l).length) rfl rfl) rfl ?_
 refine g_rowfact A7 fun hle9 hcm9 _=>?_
 refine s_q (yW (h:=(min n l.length)) rfl rfl rfl (by omega)) rfl ?_
 refine tY (A:=A7) (min n l.length) (l.take n).length ((l.take n).map PP.c) (by omega) (by simp) (by rw[←List.map_take,←List.take_eq_take_min]) ?_
 refine g_val 13 (v' := .slice (subA A7 cap7 0 2) (l.take n).length cap7) rfl (by simp) ?_
 refine rn [3,0,8,1,2,47,2,0,14] ?_
 refine g_lk [0,4,5,15] (fun(x:Nat × Rg)=>[(16,.int .i64 ((x.1:Nat):Int))]) (fun(x:Nat × Rg)=>[Res.row (subA A7 cap7 0 2) (l.take n).length cap7 106 2 ((l.take n).map PP.c),rB_pp b x.2,rW_pp x.2]) (fun(x:Nat × Rg)=>x.1≤(l.take n).length∧Rg.Rep x.2 2 ((l.drop x.1).map PP.c)∧Rg.size x.2=Rg.size g) (fun(x:Nat × Rg)=>(l.take n).length-x.1) (0,g) (by(try dsimp only);exact⟨Nat.zero_le _,(by simpa using h),rfl⟩) ?_
 rintro⟨k,g9⟩ ⟨le_k,hr9,hs9⟩
 replace le_k:k≤(l.take n).length:=le_k
 replace hr9:Rg.Rep g9 2 ((l.drop k).map PP.c):=hr9
 replace hs9:Rg.size g9=Rg.size g:=hs9
 refine zV (L' := [Res.row (subA A7 cap7 0 2) (l.take n).length cap7 106 2 ((l.take n).map PP.c),rB_pp b g9,rW_pp g9]) rfl ?_
 refine g_val 16 (v' := .int .i64 ((k:Nat):Int)) rfl rfl ?_
 have htl:(l.take n).length≤1000000:=by simp;omega
 refine rn [1,46,0,8] ?_
 refine zC rfl (fun h1=>?_) (fun h1=>?_)
 ·have lt_k:k<(l.take n).length:=by have h9:=of_decide_eq_true h1;omega
  refine rn [12,7,8,14,10,2] ?_
  refine g_op (zG _ rfl (fun w1 hw1 ho1=>by have h7:=pop_pp b g9 (l.drop k) w1 ho1 hr9;exact h7) rfl ?_)
  rintro g19 ⟨r19,s19⟩
  refine ii ?_
  refine rn [9,15,7,10,43,2,9] ?_
  exact g_ag ((k+1),g19) (by(try dsimp only);exact⟨(by first|exact lt_k|omega),(by rw[←List.tail_drop];exact r19),(by rw[s19];exact hs9)⟩)
 ·have eq_k:k=(l.take n).length:=by have h9:=of_decide_eq_false h1;omega
  refine rn [16] ?_
  refine zD (zD (zN ?_))
  refine rn [7,1,2,3,0,11] ?_
  skip
  exact fin1 rfl (.tmp rfl) (fun w' hw' => ⟨((subA A7 cap7 0 2),cap7,g9),(by(rw[←eq_k];exact⟨hr9,hs9⟩)),rfl,zA w' hw'⟩) _ (.inl rfl)
theorem take_rq (b:Nat) (g:Rg) (l:List Rq) (n:Nat) (w:World) (hw:W0 [rB_rq b g,rW_rq g] w) (h:g.Rep 2 (l.map Rq.c)) (hl:l.length≤100000):Own2 (ι:=(Option Addr × Nat × Rg)) Tryz.prog 158 [.pointer (some ⟨b,0,none⟩),.int .i64 (n:Int)] w [rB_rq b g,rW_rq g] (fun x=>x.2.2.Rep 2 ((l.drop (l.take n).length).map Rq.c)∧x.2.2.size=g.size) (fun x=>.slice x.1 (l.take n).length x.2.1) (fun x=>[Res.row x.1 (l.take n).length x.2.1 110 2 ((l.take n).map Rq.c)]) (fun x=>[rB_rq b x.2.2,rW_rq x.2.2]):=by
 refine g_st Tryz.func158 22 hw ?_
 refine rn [1,3,0,1,2] ?_
 refine g_op (zG _ rfl (fun w1 hw1 ho1=>by have h7:=all_rq b g l w1 ho1 h;exact h7) rfl ?_)
 rintro⟨A7,cap7⟩ _
 refine ii ?_
 refine rn [3,0,1,2,2,2,47] ?_
 refine s_q (rQ (a:=n) (b:=(l).length) rfl rfl) rfl ?_
 refine g_rowfact A7 fun hle9 hcm9 _=>?_
 refine s_q (yW (h:=(min n l.length)) rfl rfl rfl (by omega)) rfl ?_
 refine tY (A:=A7) (min n l.length) (l.take n).length ((l.take n).map Rq.c) (by omega) (by simp) (by rw[←List.map_take,←List.take_eq_take_min]) ?_
 refine g_val 13 (v' := .slice (subA A7 cap7 0 2) (l.take n).length cap7) rfl (by simp) ?_
 refine rn [3,0,8,1,2,47,2,0,14] ?_
 refine g_lk [0,4,5,15] (fun(x:Nat × Rg)=>[(16,.int .i64 ((x.1:Nat):Int))]) (fun(x:Nat × Rg)=>[Res.row (subA A7 cap7 0 2) (l.take n).length cap7 110 2 ((l.take n).map Rq.c),rB_rq b x.2,rW_rq x.2]) (fun(x:Nat × Rg)=>x.1≤(l.take n).length∧Rg.Rep x.2 2 ((l.drop x.1).map Rq.c)∧Rg.size x.2=Rg.size g) (fun(x:Nat × Rg)=>(l.take n).length-x.1) (0,g) (by(try dsimp only);exact⟨Nat.zero_le _,(by simpa using h),rfl⟩) ?_
 rintro⟨k,g9⟩ ⟨le_k,hr9,hs9⟩
 replace le_k:k≤(l.take n).length:=le_k
 replace hr9:Rg.Rep g9 2 ((l.drop k).map Rq.c):=hr9
 replace hs9:Rg.size g9=Rg.size g:=hs9
 refine zV (L' := [Res.row (subA A7 cap7 0 2) (l.take n).length cap7 110 2 ((l.take n).map Rq.c),rB_rq b g9,rW_rq g9]) rfl ?_
 refine g_val 16 (v' := .int .i64 ((k:Nat):Int)) rfl rfl ?_
 have htl:(l.take n).length≤1000000:=by simp;omega
 refine rn [1,46,0,8] ?_
 refine zC rfl (fun h1=>?_) (fun h1=>?_)
 ·have lt_k:k<(l.take n).length:=by have h9:=of_decide_eq_true h1;omega
  refine rn [12,7,8,14,10,2] ?_
  refine g_op (zG _ rfl (fun w1 hw1 ho1=>by have h7:=pop_rq b g9 (l.drop k) w1 ho1 hr9;exact h7) rfl ?_)
  rintro g19 ⟨r19,s19⟩
  refine ii ?_
  refine rn [9,15,7,10,43,2,9] ?_
  exact g_ag ((k+1),g19) (by(try dsimp only);exact⟨(by first|exact lt_k|omega),(by rw[←List.tail_drop];exact r19),(by rw[s19];exact hs9)⟩)
 ·have eq_k:k=(l.take n).length:=by have h9:=of_decide_eq_false h1;omega
  refine rn [16] ?_
  refine zD (zD (zN ?_))
  refine rn [7,1,2,3,0,11] ?_
  skip
  exact fin1 rfl (.tmp rfl) (fun w' hw' => ⟨((subA A7 cap7 0 2),cap7,g9),(by(rw[←eq_k];exact⟨hr9,hs9⟩)),rfl,zA w' hw'⟩) _ (.inl rfl)
def loV (a b:V):V:=if a.bal<b.bal then a else b
def stW (l L:List V):Nat→List V
 | 0=>l
 | 1=>List.zipWith loV l L
 | _=>L
def stp (X Y:List V) (k:Nat):List V:=Y.take k++X.drop k
theorem stp_zero (X Y:List V):stp X Y 0=X:=by simp[stp]
theorem stp_all {X Y:List V} (h:X.length=Y.length):stp X Y Y.length=Y:=by simp[stp,h]
theorem tP {X Y:List V} (h:X.length=Y.length) {k:Nat} (hk:k≤X.length):(stp X Y k).length=X.length:=by simp[stp];omega
theorem pL {X Y:List V} (h:X.length=Y.length) {k j:Nat} (hk:k≤X.length) (hj:j<X.length):(stp X Y k)[j]?=some (if j<k then Y[j] else X[j]):=by
 unfold stp
 by_cases hjk:j<k
 ·rw[if_pos hjk,List.getElem?_append_left (by simp;omega),List.getElem?_take_of_lt hjk,List.getElem?_eq_getElem (by omega)]
 ·rw[if_neg hjk,List.getElem?_append_right (by simp;omega),List.getElem?_drop,List.length_take,show k+(j-min k Y.length)=j by omega,List.getElem?_eq_getElem hj]
theorem stp_get {X Y:List V} (h:X.length=Y.length) {k:Nat} (hk:k<X.length):gotV (stp X Y k) k=X[k]:=by
 have h1:=pL h (Nat.le_of_lt hk) hk
 rw[if_neg (Nat.lt_irrefl k)] at h1
 unfold gotV;rw[if_pos (by omega),Int.toNat_natCast,h1];rfl
theorem qO {X Y:List V} (h:X.length=Y.length) {k:Nat} (hk:k<X.length) {v:V} (hv:Y[k]=v):setV (stp X Y k) k v=stp X Y (k+1):=by
 have hl:=tP h (Nat.le_of_lt hk)
 unfold setV hasV
 rw[if_pos (decide_eq_true (by omega)),Int.toNat_natCast]
 apply List.ext_getElem?
 intro j
 rw[List.getElem?_set]
 by_cases hj:j<X.length
 ·rw[pL h (Nat.le_of_lt hk) hj,pL h (k:=k+1) (by omega) hj]
  by_cases e:k=j
  ·subst e;rw[if_pos rfl,if_pos (by omega),if_pos (by omega),hv]
  ·rw[if_neg e];congr 1
   by_cases h2:j<k
   ·rw[if_pos h2,if_pos (by omega)]
   ·rw[if_neg h2,if_neg (by omega)]
 ·rw[if_neg (by omega),List.getElem?_eq_none (by omega),List.getElem?_eq_none (by rw[tP h hk];omega)]
theorem stp_keep {X Y:List V} (h:X.length=Y.length) {k:Nat} (hk:k<X.length) (hv:Y[k]=X[k]):stp X Y (k+1)=stp X Y k:=by
 have h1:=stp_get h hk
 rw[←qO h hk hv,←h1]
 have hl:=tP h (Nat.le_of_lt hk)
 rw[yT (by omega)]
 unfold setV
 split
 ·rw[Int.toNat_natCast,List.set_getElem_self]
 ·rfl
theorem qN:∀{A B:List V},A.length=B.length→(∀(i:Nat) (a b:V),A[i]?=some a→B[i]?=some b→a.bal≤b.bal)→(bals A).sum≤(bals B).sum
 | [],[],_,_=>Int.le_refl _
 | a :: A,b :: B,h,hi=>by
  have h1:=qN (A:=A) (B:=B) (by simpa using h) fun i=>hi (i+1)
  have h2:=hi 0 a b rfl rfl
  simp only[bals,List.map_cons,List.sum_cons] at h1 ⊢
  omega
 | [],_ :: _,h,_=>by simp at h
 | _ :: _,[],h,_=>by simp at h
theorem stp_dn {X Y:List V} (h:X.length=Y.length) (hb:∀(i:Nat) (a b:V),X[i]?=some a→Y[i]?=some b→b.bal≤a.bal) {k:Nat} (hk:k≤X.length):(bals (stp X Y k)).sum≤(bals X).sum :=
 qN (tP h hk) fun i a b ha hb' => by
  have hi:i<X.length:=(List.getElem?_eq_some_iff.1 hb').1
  rw[pL h hk hi] at ha
  split at ha
  ·injection ha with ha;exact hb i b a hb' (by rw[List.getElem?_eq_getElem (by omega),ha])
  ·injection ha with ha;rw[List.getElem?_eq_getElem hi] at hb';injection hb' with hb';rw[←ha,←hb'];exact Int.le_refl _
theorem stp_up {X Y:List V} (h:X.length=Y.length) (hb:∀(i:Nat) (a b:V),X[i]?=some a→Y[i]?=some b→a.bal≤b.bal) {k:Nat} (hk:k≤X.length):(bals (stp X Y k)).sum≤(bals Y).sum :=
 qN ((tP h hk).trans h) fun i a b ha hb' => by
  have hi:i<Y.length:=(List.getElem?_eq_some_iff.1 hb').1
  rw[pL h hk (by omega)] at ha
  split at ha
  ·injection ha with ha;rw[List.getElem?_eq_getElem hi] at hb';injection hb' with hb';rw[←ha,←hb'];exact Int.le_refl _
  ·injection ha with ha;exact hb i a b (by rw[List.getElem?_eq_getElem (by omega),ha]) hb'
theorem zip_len {l L:List V} (h:L.length=l.length):(stW l L 1).length=l.length:=by simp[stW];omega
theorem zip_at {l L:List V} (h:L.length=l.length) {i:Nat} (hi:i<l.length):(stW l L 1)[i]?=some (loV l[i] L[i]):=by
 simp only[stW]
 rw[List.getElem?_zipWith,List.getElem?_eq_getElem hi,List.getElem?_eq_getElem (by omega)]
theorem zip_get {l L:List V} (h:L.length=l.length) {i:Nat} (hi:i<l.length) (h2:i<(stW l L 1).length):(stW l L 1)[i]=loV l[i] L[i]:=by
 have:=zip_at h hi
 rw[List.getElem?_eq_getElem h2] at this
 injection this
theorem zip_mem {l L:List V} {v:V} (hv:v∈stW l L 1):v∈l∨v∈L:=by
 simp only[stW] at hv
 obtain⟨i,hi,rfl⟩:=List.mem_iff_getElem.1 hv
 simp only[List.length_zipWith] at hi
 rw[List.getElem_zipWith]
 unfold loV
 split
 ·exact .inl (List.getElem_mem _)
 ·exact .inr (List.getElem_mem _)
theorem lo_le (a b:V):(loV a b).bal≤a.bal∧(loV a b).bal≤b.bal:=by unfold loV;split<;>omega
theorem mem_stp {X Y:List V} {k:Nat} {v:V} (h:v∈stp X Y k):v∈X∨v∈Y:=by
 rcases List.mem_append.1 h with h|h
 ·exact .inr (List.mem_of_mem_take h)
 ·exact .inl (List.mem_of_mem_drop h)
theorem stp_chg {X Y:List V} {k:Nat} {v:V} (h:X.length=Y.length) (hk:k<X.length) (hv:Y[k]=v) (hX:∀x∈X,VO x) (hY:∀x∈Y,VO x) (hs:(bals (stp X Y (k+1))).sum≤18446744073709551615) {l:List V} (hl:l=stp X Y k) :
  v.ok∧∀n:Nat,(k:Int)=n→(h:n<l.length)→(l.map V.bal).sum-(l[n]).bal+v.bal≤18446744073709551615:=by
 subst hl
 have hh:hasV (stp X Y k) (k:Int)=true:=by unfold hasV;exact decide_eq_true (by rw[tP h (Nat.le_of_lt hk)];omega)
 have e:(stp X Y k).set (k:Int).toNat v=stp X Y (k+1):=by rw[xI hh];exact qO h hk hv
 exact rY (by rw[e];exact all_got.1 fun x hx=>(mem_stp hx).elim (hX x) (hY x)) (by rw[e];exact hs) hh
theorem store_eng (eb rb cb lb bb ub mb xb b0 b1 pb gb tb:Nat) (c:C) (blk:Nat) (g:RG) (dep paid burn:Int) (bo:List En) (lv:List Int) (cur:Nat) (m:M) (q:LL) (pend:List Int) (mg:List PP) (pt:List Rq) (br:BR) (lA:Option Addr) (lc:Nat) (g0 g1 gp gg gt:Rg) (lA_:Option Addr) (lC_:Nat) (L:List V) (w:World) (hw:W0 [Res.blk eb 112 (ECell rb cb lb bb ub mb xb pb gb tb c lA (lv.length) lc),RgB rb g,RgW g,Res.im (RG.m g)] w) (hg:g.Rep) (hcp:(g.cp:Int)=c.capa) (hLr:Rd w [Res.blk eb 112 (ECell rb cb lb bb ub mb xb pb gb tb c lA (lv.length) lc),RgB rb g,RgW g,Res.im (RG.m g)] lA_ L.length 7 (L.map V.c)) (hL:L.length=(RG.l g).length) (hvo:∀v∈RG.l g,VO v) (hvL:∀v∈L,VO v) (hsL:(bals L).sum≤18446744073709551615):Own2 (ι:=RG) Tryz.prog 156 [.pointer (some ⟨eb,0,none⟩),.slice lA_ L.length lC_] w [Res.blk eb 112 (ECell rb cb lb bb ub mb xb pb gb tb c lA (lv.length) lc),RgB rb g,RgW g,Res.im (RG.m g)] (fun x=>x.Rep∧x.l=L∧x.cp=g.cp) (fun x=>.tuple #[]) (fun x=>[]) (fun x=>[Res.blk eb 112 (ECell rb cb lb bb ub mb xb pb gb tb c lA (lv.length) lc),RgB rb x,RgW x,Res.im (RG.m x)]):=by
 refine g_st Tryz.func156 47 hw ?_
 have hLb:L.length≤4096:=by have:=hg.le;have:=hg.cp;omega
 refine rn [1,49,2,0,14] ?_
 refine g_lk [0,1,10] (fun(x:Nat × RG)=>[(11,.int .i64 ((x.1:Nat):Int))]) (fun(x:Nat × RG)=>[Res.blk eb 112 (ECell rb cb lb bb ub mb xb pb gb tb c lA (lv.length) lc),RgB rb x.2,RgW x.2,Res.im (RG.m x.2)]) (fun(x:Nat × RG)=>x.1≤2∧RG.Rep x.2∧RG.l x.2=stW (RG.l g) L x.1∧RG.cp x.2=RG.cp g) (fun(x:Nat × RG)=>2-x.1) (0,g) (by(try dsimp only);exact⟨(by omega),hg,rfl,rfl⟩) ?_
 rintro⟨j,g8⟩ ⟨le_j,hr8,hl8,hc8⟩
 replace le_j:j≤2:=le_j
 replace hr8:RG.Rep g8:=hr8
 replace hl8:RG.l g8=stW (RG.l g) L j:=hl8
 replace hc8:RG.cp g8=RG.cp g:=hc8
 refine zV (L' := [Res.blk eb 112 (ECell rb cb lb bb ub mb xb pb gb tb c lA (lv.length) lc),RgB rb g8,RgW g8,Res.im (RG.m g8)]) rfl ?_
 refine g_val 11 (v' := .int .i64 ((j:Nat):Int)) rfl rfl ?_
 refine rn [1,46,0,8] ?_
 refine zC rfl (fun h1=>?_) (fun h1=>?_)
 ·have lt_j:j<2:=by have h9:=of_decide_eq_true h1;omega
  refine rn [12,7,8,14,8] ?_
  rcases(show j=0∨j=1 by omega) with rfl|rfl
  ·have hXY:(stW (RG.l g) L 0).length=(stW (RG.l g) L 1).length:=(zip_len hL).symm
   have hX:∀x∈stW (RG.l g) L 0,VO x:=hvo
   have hY:∀x∈stW (RG.l g) L 1,VO x:=fun x hx=>(zip_mem hx).elim (hvo x) (hvL x)
   have hXl:(stW (RG.l g) L 0).length=L.length:=hL.symm
   have hSm:∀k,k≤L.length→(bals (stp (stW (RG.l g) L 0) (stW (RG.l g) L 1) k)).sum≤18446744073709551615:=fun k hk=>Int.le_trans (stp_dn hXY (fun i a b ha hb=>by
     have hi:=(List.getElem?_eq_some_iff.1 ha).1
     have hi:i<(RG.l g).length:=hi
     rw[zip_at hL hi] at hb;injection hb with hb;rw[show(stW (RG.l g) L 0)=RG.l g from rfl,List.getElem?_eq_getElem hi] at ha;injection ha with ha;rw[←ha,←hb];exact(lo_le _ _).1) (by omega)) hg.mx
   refine rn [10] ?_
   refine s_q (sY (i:=0) (v:=.bool false) rfl rfl rfl (by decide) rfl) rfl ?_
   refine rn [3,0,1,2,47,2,0,14] ?_
   refine g_lk [0,1,5,10,11,14,15] (fun(x:Nat × RG)=>[(16,.int .i64 ((x.1:Nat):Int))]) (fun(x:Nat × RG)=>[Res.blk eb 112 (ECell rb cb lb bb ub mb xb pb gb tb c lA (lv.length) lc),RgB rb x.2,RgW x.2,Res.im (RG.m x.2)]) (fun(x:Nat × RG)=>x.1≤L.length∧RG.Rep x.2∧RG.l x.2=stp (stW (RG.l g) L 0) (stW (RG.l g) L 1) x.1∧RG.cp x.2=RG.cp g) (fun(x:Nat × RG)=>L.length-x.1) (0,g8) (by(try dsimp only);exact⟨Nat.zero_le _,hr8,(by rw[stp_zero];exact hl8),hc8⟩) ?_
   rintro⟨k,g9⟩ ⟨le_k,hr9,hl9,hc9⟩
   replace le_k:k≤L.length:=le_k
   replace hr9:RG.Rep g9:=hr9
   replace hl9:RG.l g9=stp (stW (RG.l g) L 0) (stW (RG.l g) L 1) k:=hl9
   replace hc9:RG.cp g9=RG.cp g:=hc9
   refine zV (L' := [Res.blk eb 112 (ECell rb cb lb bb ub mb xb pb gb tb c lA (lv.length) lc),RgB rb g9,RgW g9,Res.im (RG.m g9)]) rfl ?_
   refine g_val 16 (v' := .int .i64 ((k:Nat):Int)) rfl rfl ?_
   refine rn [1,46,0,8] ?_
   refine zC rfl (fun h2=>?_) (fun h2=>?_)
   ·have lt_k:k<L.length:=by have h9:=of_decide_eq_true h2;omega
    have lt_X:k<_:=hXl.symm ▸ lt_k
    have hgo:(gotV (RG.l g9) (k:Int))=_:=(congrArg (fun z=>gotV z (k:Int)) hl9).trans (stp_get hXY lt_X)
    refine rn [12,7,8,14,1,2] ?_
    refine s_q (zP (i:=k) rfl rfl rfl hLr.rdb (by first|exact lt_k|omega)) rfl ?_
    refine s_q (zS (i:=k) rfl hLr.rdb (zR (by first|exact(by first|exact lt_k|omega)|omega|(simp_all;done)|(simp_all;omega))) rfl) rfl ?_
    refine g_op (zK rfl fun b7=>?_)
    refine rn [3,33,0,1,2,6,4,4,5,2] ?_
    refine g_op (zL _ rfl (fun w1 hw1 ho1=>by exact xX rb g9 (((k:Nat):Int)) w1 ho1) rfl ?_)
    refine rn [2,40,40] ?_
    refine g_op (zK rfl fun b8=>?_)
    refine rn [33,3,0,1,4,5,4,5,55,2] ?_
    refine s_q (pW (by kernel_rfl) rfl rfl) rfl ?_
    refine rn [0] ?_
    refine zC rfl (fun h3=>?_) (fun h3=>?_)
    ·have hnl:¬(RG.l g)[k].bal<L[k].bal:=by have h9:=h3;rw[hgo] at h9;simp at h9;exact Int.not_lt.2 h9
     have hst:(stW (RG.l g) L 1)[k]'(hXY ▸ lt_X)=L[k]:=by rw[zip_get hL lt_X];unfold loV;rw[if_neg hnl]
     have hchg:=stp_chg hXY lt_X hst hX hY (hSm (k+1) (by omega)) hl9
     refine dregL (L0:=[Res.blk eb 112 (ECell rb cb lb bb ub mb xb pb gb tb c lA (lv.length) lc),Res.blk b7 52 (V.c L[k])]) [] mixed rfl zB ?_
     refine rn [23,0,2,23,1,6,23,2,4] ?_
     refine dq 3 rfl (yQ (c' := [Value.pointer (some ⟨rb,0,none⟩)]) rfl rfl rfl) ?_
     refine rn [23,4,2,23,5,45] ?_
     refine dop 6 rfl (zG _ rfl (fun w1 hw1 ho1=>by have h7:=xD rb g9 (((k:Nat):Int)) (L[k]) w1 ho1 hr9 hchg.1 hchg.2;exact h7) rfl ?_)
     rintro g44 ⟨r44,l44,c44⟩
     refine ii ?_
     refine rn [27,15,7,10,43,2,9] ?_
     exact g_ag ((k+1),g44) (by(try dsimp only);exact⟨(by first|exact lt_k|omega),r44,(by rw[l44,hl9];exact qO hXY lt_X hst),(by rw[c44];exact hc9)⟩)
    ·have hnl:(RG.l g)[k].bal<L[k].bal:=by have h9:=h3;rw[hgo] at h9;simp at h9;exact h9
     have hkp:(stW (RG.l g) L 1)[k]'(hXY ▸ lt_X)=(stW (RG.l g) L 0)[k]:=by rw[zip_get hL lt_X];unfold loV;rw[if_pos hnl];rfl
     refine rn [12,15,7,10,43,2,9] ?_
     exact g_ag ((k+1),g9) (by(try dsimp only);exact⟨(by first|exact lt_k|omega),hr9,(by rw[stp_keep hXY lt_X hkp];exact hl9),hc9⟩)
   ·have eq_k:k=L.length:=by have h9:=of_decide_eq_false h2;omega
    refine rn [16] ?_
    refine zD (zD (zN ?_))
    refine rn [15,7,10,43,2,9] ?_
    exact g_ag ((0+1),g9) (by(try dsimp only);exact⟨(by omega),hr9,(by rw[hl9,eq_k,show L.length=(stW (RG.l g) L (0+1)).length from hXl.symm.trans hXY];exact stp_all hXY),hc9⟩)
  ·have hXY:(stW (RG.l g) L 1).length=(stW (RG.l g) L 2).length:=(zip_len hL).trans hL.symm
   have hX:∀x∈stW (RG.l g) L 1,VO x:=fun x hx=>(zip_mem hx).elim (hvo x) (hvL x)
   have hY:∀x∈stW (RG.l g) L 2,VO x:=hvL
   have hXl:(stW (RG.l g) L 1).length=L.length:=hXY
   have hSm:∀k,k≤L.length→(bals (stp (stW (RG.l g) L 1) (stW (RG.l g) L 2) k)).sum≤18446744073709551615:=fun k hk=>Int.le_trans (stp_up hXY (fun i a b ha hb=>by
     have hi:i<L.length:=(List.getElem?_eq_some_iff.1 hb).1
     rw[zip_at hL (by omega)] at ha;injection ha with ha;rw[show(stW (RG.l g) L 2)=L from rfl,List.getElem?_eq_getElem hi] at hb;injection hb with hb;rw[←ha,←hb];exact(lo_le _ _).2) (by omega)) hsL
   refine rn [10] ?_
   refine s_q (sY (i:=1) (v:=.bool true) rfl rfl rfl (by decide) rfl) rfl ?_
   refine rn [3,0,1,2,47,2,0,14] ?_
   refine g_lk [0,1,5,10,11,14,15] (fun(x:Nat × RG)=>[(16,.int .i64 ((x.1:Nat):Int))]) (fun(x:Nat × RG)=>[Res.blk eb 112 (ECell rb cb lb bb ub mb xb pb gb tb c lA (lv.length) lc),RgB rb x.2,RgW x.2,Res.im (RG.m x.2)]) (fun(x:Nat × RG)=>x.1≤L.length∧RG.Rep x.2∧RG.l x.2=stp (stW (RG.l g) L 1) (stW (RG.l g) L 2) x.1∧RG.cp x.2=RG.cp g) (fun(x:Nat × RG)=>L.length-x.1) (0,g8) (by(try dsimp only);exact⟨Nat.zero_le _,hr8,(by rw[stp_zero];exact hl8),hc8⟩) ?_
   rintro⟨k,g9⟩ ⟨le_k,hr9,hl9,hc9⟩
   replace le_k:k≤L.length:=le_k
   replace hr9:RG.Rep g9:=hr9
   replace hl9:RG.l g9=stp (stW (RG.l g) L 1) (stW (RG.l g) L 2) k:=hl9
   replace hc9:RG.cp g9=RG.cp g:=hc9
   refine zV (L' := [Res.blk eb 112 (ECell rb cb lb bb ub mb xb pb gb tb c lA (lv.length) lc),RgB rb g9,RgW g9,Res.im (RG.m g9)]) rfl ?_
   refine g_val 16 (v' := .int .i64 ((k:Nat):Int)) rfl rfl ?_
   refine rn [1,46,0,8] ?_
   refine zC rfl (fun h4=>?_) (fun h4=>?_)
   ·have lt_k:k<L.length:=by have h9:=of_decide_eq_true h4;omega
    have lt_X:k<_:=hXl.symm ▸ lt_k
    have hgo:(gotV (RG.l g9) (k:Int))=_:=(congrArg (fun z=>gotV z (k:Int)) hl9).trans (stp_get hXY lt_X)
    refine rn [12,7,8,14,1,2] ?_
    refine s_q (zP (i:=k) rfl rfl rfl hLr.rdb (by first|exact lt_k|omega)) rfl ?_
    refine s_q (zS (i:=k) rfl hLr.rdb (zR (by first|exact(by first|exact lt_k|omega)|omega|(simp_all;done)|(simp_all;omega))) rfl) rfl ?_
    refine g_op (zK rfl fun b7=>?_)
    refine rn [3,33,0,1,2,6,4,4,5,2] ?_
    refine g_op (zL _ rfl (fun w1 hw1 ho1=>by exact xX rb g9 (((k:Nat):Int)) w1 ho1) rfl ?_)
    refine rn [2,40,40] ?_
    refine g_op (zK rfl fun b8=>?_)
    refine rn [33,3,0,1,4,5,4,5,55,2] ?_
    refine s_q (pW (by kernel_rfl) rfl rfl) rfl ?_
    refine rn [0] ?_
    refine zC rfl (fun h5=>?_) (fun h5=>?_)
    ·have hst:(stW (RG.l g) L 2)[k]'(hXY ▸ lt_X)=L[k]:=rfl
     have hchg:=stp_chg hXY lt_X hst hX hY (hSm (k+1) (by omega)) hl9
     refine dregL (L0:=[Res.blk eb 112 (ECell rb cb lb bb ub mb xb pb gb tb c lA (lv.length) lc),Res.blk b7 52 (V.c L[k])]) [] mixed rfl zB ?_
     refine rn [23,0,2,23,1,6,23,2,4] ?_
     refine dq 3 rfl (yQ (c' := [Value.pointer (some ⟨rb,0,none⟩)]) rfl rfl rfl) ?_
     refine rn [23,4,2,23,5,45] ?_
     refine dop 6 rfl (zG _ rfl (fun w1 hw1 ho1=>by have h7:=xD rb g9 (((k:Nat):Int)) (L[k]) w1 ho1 hr9 hchg.1 hchg.2;exact h7) rfl ?_)
     rintro g44 ⟨r44,l44,c44⟩
     refine ii ?_
     refine rn [27,15,7,10,43,2,9] ?_
     exact g_ag ((k+1),g44) (by(try dsimp only);exact⟨(by first|exact lt_k|omega),r44,(by rw[l44,hl9];exact qO hXY lt_X hst),(by rw[c44];exact hc9)⟩)
    ·have hnl:¬((stW (RG.l g) L 1)[k]).bal<L[k].bal:=by have h9:=h5;rw[hgo] at h9;simpa using h9
     have hkp:(stW (RG.l g) L 2)[k]'(hXY ▸ lt_X)=(stW (RG.l g) L 1)[k]:=by
       have hkl:k<(RG.l g).length:=by omega
       rw[zip_get hL hkl] at hnl ⊢;unfold loV at hnl ⊢;by_cases hc:(RG.l g)[k].bal<L[k].bal
       · rw[if_pos hc] at hnl;exact absurd hc hnl
       · rw[if_neg hc];rfl
     refine rn [12,15,7,10,43,2,9] ?_
     exact g_ag ((k+1),g9) (by(try dsimp only);exact⟨(by first|exact lt_k|omega),hr9,(by rw[stp_keep hXY lt_X hkp];exact hl9),hc9⟩)
   ·have eq_k:k=L.length:=by have h9:=of_decide_eq_false h4;omega
    refine rn [16] ?_
    refine zD (zD (zN ?_))
    refine rn [15,7,10,43,2,9] ?_
    exact g_ag ((1+1),g9) (by(try dsimp only);exact⟨(by omega),hr9,(by rw[hl9,eq_k,show L.length=(stW (RG.l g) L (1+1)).length from hXl.symm.trans hXY];exact stp_all hXY),hc9⟩)
 ·have eq_j:j=2:=by have h9:=of_decide_eq_false h1;omega
  refine rn [16] ?_
  refine zD (zD (zN ?_))
  exact fin0 rfl (fun w' hw' => ⟨g8,(by exact⟨hr8,by rw[hl8,eq_j];rfl,hc8⟩),rfl,zA w' hw'⟩) _ (.inr rfl)
structure BX where
 g:RG
 br:BR
 lA:Option Addr
 lc:Nat
 g0:Rg
 g1:Rg
 gp:Rg
 gg:Rg
 O:Option Addr
 oc:Nat
def evK (e:Int) (l:List V) (is:List Int) (k:Nat):List V:=(is.take k).foldl (fun l i=>evV l i e) l
theorem evK_end (e:Int) (l:List V) (is:List Int):evK e l is is.length=is.foldl (fun l i=>evV l i e) l:=by unfold evK;rw[List.take_length]
theorem evK_succ {e:Int} {l:List V} {is:List Int} {k:Nat} (h:k<is.length):evK e l is (k+1)=evV (evK e l is k) is[k] e:=wJ _ _ h
theorem stR_evK {e:Int} {l:List V} (h:stR l) (is:List Int) (k:Nat):stR (evK e l is k):=by
 have key:∀(is:List Int) (l:List V),stR l→stR (is.foldl (fun l i=>evV l i e) l):=fun is=>by
  induction is with
  | nil=>exact fun _ h=>h
  | cons i is ih=>exact fun l h=>ih _ (stR_ev h i e)
 exact key _ _ h
theorem stR_vo {l:List V} (h:∀i,hasV l i=true→VO (gotV l i)):stR l:=fun v hv=>by
 obtain⟨i,hi,rfl⟩:=wN hv
 have:=(h i hi).s;omega
theorem vo_mem {l:List V} (h:∀i,hasV l i=true→VO (gotV l i)):∀v∈l,VO v:=fun v hv=>by
 obtain⟨i,hi,rfl⟩:=wN hv
 exact h i hi
theorem rip_vo {e:Int} {l l' : List V} {bo:List En} (f:Rip e l l' bo) (h:∀i,hasV l i=true→VO (gotV l i)):∀i,hasV l' i=true→VO (gotV l' i):=fun i hi=>by
 rw[xK f.len] at hi
 have:=h i hi
 rw[f.got]
 split
 ·exact⟨this.b,by simp,this.r,this.x,this.w,this.d⟩
 ·exact this
theorem asg_vo {e:Int} {c:C} (he:0≤e) (hu:1≤c.unb) (hb:e+1+c.unb≤1099511627776) {l l' : List V} {ag:List As} (f:Asg e c l l' ag) (h:∀i,hasV l i=true→VO (gotV l i)):∀i,hasV l' i=true→VO (gotV l' i):=fun i hi=>by
 rw[xK f.len] at hi
 rw[f.got]
 split
 ·exact(h i hi).asV (by omega) hu hb
 ·exact h i hi
theorem sT {α:Type} (l:List α) (P:Nat):(l.take P).take (min (l.take P).length P)=l.take P:=by
 rw[List.take_of_length_le (by simp)]
theorem RG.Rep.okB {g:RG} (h:g.Rep):okU ((RG.l g).map V.bal):=fun y hy=>by
 obtain⟨z,hz,rfl⟩:=List.mem_map.1 hy
 exact(h.ok z hz).bal
theorem RG.Rep.aB {g:RG} (h:g.Rep):0≤RG.a g∧RG.a g≤18446744073709551615:=by
 have h1:=actS_nn (l:=RG.l g) fun v hv=>(h.ok v hv).bal.1
 have h2:=h.mx
 rw[h.a];unfold bals at h1;omega
theorem bdy_eng (eb rb cb lb bb ub mb xb b0 b1 pb gb tb:Nat) (c:C) (blk:Nat) (g:RG) (dep paid burn:Int) (bo:List En) (lv:List Int) (cur:Nat) (m:M) (q:LL) (pend:List Int) (mg:List PP) (pt:List Rq) (br:BR) (lA:Option Addr) (lc:Nat) (g0 g1 gp gg gt:Rg) (w:World) (hw:W0 [Res.blk eb 112 (ECell rb cb lb bb ub mb xb pb gb tb c lA (lv.length) lc),RgB rb g,RgW g,Res.im (RG.m g),CkB cb ((blk+1)) (c.elen.toNat),bB_ bb br,bW_ br,bK_ br,Res.row lA (lv).length lc 3 1 ((lv).map (fun v:Int=>[Value.int .i64 v])),Res.blk mb 186 (M.c m),bL_ xb b0 b1,rB_i b0 g0,rW_i g0,rB_i b1 g1,rW_i g1,rB_i pb gp,rW_i gp,rB_pp gb gg,rW_pp gg] w) (hi:Inv (Eg.mk c blk (RG.l g) dep paid burn bo lv cur m q pend mg pt)) (hg:g.Rep) (hcp:(g.cp:Int)=c.capa) (hbr:br.Rep bo) (h0:g0.Rep 1 (q.f.map (fun v:Int=>[Value.int .i64 v]))) (h1_:g1.Rep 1 (q.v.map (fun v:Int=>[Value.int .i64 v]))) (s0:Rg.size g0=c.qsize.toNat) (s1:Rg.size g1=c.qsize.toNat) (hgp:gp.Rep 1 (pend.map (fun v:Int=>[Value.int .i64 v]))) (sgp:Rg.size gp=c.qsize.toNat) (hgg:gg.Rep 2 (mg.map PP.c)) (sgg:Rg.size gg=c.qsize.toNat) (hbd:(blk+1)%c.elen.toNat=0) (hb9:blk<1000000000):Own2 (ι:=BX) Tryz.prog 101 [.pointer (some ⟨eb,0,none⟩)] w [Res.blk eb 112 (ECell rb cb lb bb ub mb xb pb gb tb c lA (lv.length) lc),RgB rb g,RgW g,Res.im (RG.m g),CkB cb ((blk+1)) (c.elen.toNat),bB_ bb br,bW_ br,bK_ br,Res.row lA (lv).length lc 3 1 ((lv).map (fun v:Int=>[Value.int .i64 v])),Res.blk mb 186 (M.c m),bL_ xb b0 b1,rB_i b0 g0,rW_i g0,rB_i b1 g1,rW_i g1,rB_i pb gp,rW_i gp,rB_pp gb gg,rW_pp gg] (fun x=>x.g.Rep∧x.g.l=(bdyE (Eg.mk c (blk+1) (RG.l g) dep paid burn bo lv cur m q pend mg pt)).1.l∧x.g.cp=g.cp∧x.br.Rep (bdyE (Eg.mk c (blk+1) (RG.l g) dep paid burn bo lv cur m q pend mg pt)).1.bo∧x.g0.Rep 1 ((bdyE (Eg.mk c (blk+1) (RG.l g) dep paid burn bo lv cur m q pend mg pt)).1.q.f.map (fun v:Int=>[Value.int .i64 v]))∧x.g1.Rep 1 ((bdyE (Eg.mk c (blk+1) (RG.l g) dep paid burn bo lv cur m q pend mg pt)).1.q.v.map (fun v:Int=>[Value.int .i64 v]))∧x.g0.size=c.qsize.toNat∧x.g1.size=c.qsize.toNat∧x.gp.Rep 1 ((bdyE (Eg.mk c (blk+1) (RG.l g) dep paid burn bo lv cur m q pend mg pt)).1.pend.map (fun v:Int=>[Value.int .i64 v]))∧x.gp.size=c.qsize.toNat∧x.gg.Rep 2 ((bdyE (Eg.mk c (blk+1) (RG.l g) dep paid burn bo lv cur m q pend mg pt)).1.mg.map PP.c)∧x.gg.size=c.qsize.toNat) (fun x=>.slice x.O (bdyE (Eg.mk c (blk+1) (RG.l g) dep paid burn bo lv cur m q pend mg pt)).2.length x.oc) (fun x=>[Res.row x.O (bdyE (Eg.mk c (blk+1) (RG.l g) dep paid burn bo lv cur m q pend mg pt)).2.length x.oc 55 3 ((bdyE (Eg.mk c (blk+1) (RG.l g) dep paid burn bo lv cur m q pend mg pt)).2.map As.cs)]) (fun x=>[Res.blk eb 112 (ECell rb cb lb bb ub mb xb pb gb tb c x.lA ((bdyE (Eg.mk c (blk+1) (RG.l g) dep paid burn bo lv cur m q pend mg pt)).1.lv.length) x.lc),RgB rb x.g,RgW x.g,Res.im (RG.m x.g),CkB cb ((blk+1)) (c.elen.toNat),bB_ bb x.br,bW_ x.br,bK_ x.br,Res.row x.lA ((bdyE (Eg.mk c (blk+1) (RG.l g) dep paid burn bo lv cur m q pend mg pt)).1.lv).length x.lc 3 1 (((bdyE (Eg.mk c (blk+1) (RG.l g) dep paid burn bo lv cur m q pend mg pt)).1.lv).map (fun v:Int=>[Value.int .i64 v])),Res.blk mb 186 (M.c (bdyE (Eg.mk c (blk+1) (RG.l g) dep paid burn bo lv cur m q pend mg pt)).1.m),bL_ xb b0 b1,rB_i b0 x.g0,rW_i x.g0,rB_i b1 x.g1,rW_i x.g1,rB_i pb x.gp,rW_i x.gp,rB_pp gb x.gg,rW_pp x.gg]):=by
 refine g_st Tryz.func101 111 hw ?_
 have hok:Cok c:=hi.cok
 have hmo:Cmo c:=yU hi.cc
 have hblk:blk≤1000000000:=hi.blk
 have hk:blk<4611686018427387904:=by omega
 have hel:1≤c.elen.toNat∧c.elen.toNat≤4611686018427387904:=by have:=hok.elen;omega
 have hled:LOk c.supc dep paid burn:=hi.led
 have hqf:q.f.length≤c.qsize.toNat∧q.v.length≤c.qsize.toNat:=hi.qf
 have hsum:(bals (RG.l g)).sum=dep-paid-burn:=hi.sum
 have hvo:∀i,hasV (RG.l g) i=true→VO (gotV (RG.l g) i):=hi.vo
 have hqs:=hmo.qsize
 have hE:InvE ((((blk+1)/c.elen.toNat:Nat):Int)-1) (RG.l g) q bo lv:=by
   have h9:=hi.e;have h8:=tO (s:=(Eg.mk c blk (RG.l g) dep paid burn bo lv cur m q pend mg pt)) hok.elen.1
   rw[if_pos hbd] at h8;exact h9.ep_eq (by unfold Eg.ep at h8 ⊢;simp only at h8 ⊢;omega)
 have hepb:0≤(((blk+1)/c.elen.toNat:Nat):Int)∧(((blk+1)/c.elen.toNat:Nat):Int)≤1000000000:=⟨Int.natCast_nonneg _,by have h9:=Nat.div_le_self (blk+1) c.elen.toNat;generalize (blk+1)/c.elen.toNat=z at h9 ⊢;omega⟩
 obtain⟨P,hP⟩:∃P:Nat,c.merg=P:=⟨c.merg.toNat,by have h9:=hmo.merg;omega⟩
 have hgl0:=hg.le;have hgc0:=hg.cp
 have hlvl:lv.length≤(RG.l g).length:=hi.e.lvl
 have hbol:bo.length≤(RG.l g).length:=hi.e.bol
 refine rn [1,3,0,1,2,6,4,5] ?_
 refine g_op (zL _ rfl (fun w1 hw1 ho1=>by exact zY cb (blk+1) c.elen.toNat w1 ho1 (by omega) hel) rfl ?_)
 refine rn [3,0,8,1,2,6,4,5,47,2,0,14] ?_
 refine g_lk [0,2,3,20,21] (fun(x:Nat × RG)=>[(22,.int .i64 ((x.1:Nat):Int))]) (fun(x:Nat × RG)=>[Res.blk eb 112 (ECell rb cb lb bb ub mb xb pb gb tb c lA (lv.length) lc),RgB rb x.2,RgW x.2,Res.im (RG.m x.2),CkB cb ((blk+1)) (c.elen.toNat),bB_ bb br,bW_ br,bK_ br,Res.row lA (lv).length lc 3 1 ((lv).map (fun v:Int=>[Value.int .i64 v])),Res.blk mb 186 (M.c m),bL_ xb b0 b1,rB_i b0 g0,rW_i g0,rB_i b1 g1,rW_i g1,rB_i pb gp,rW_i gp,rB_pp gb gg,rW_pp gg]) (fun(x:Nat × RG)=>x.1≤lv.length∧RG.Rep x.2∧RG.l x.2=evK 3 (RG.l g) lv x.1∧RG.cp x.2=RG.cp g) (fun(x:Nat × RG)=>lv.length-x.1) (0,g) (by(try dsimp only);exact⟨Nat.zero_le _,hg,rfl,rfl⟩) ?_
 rintro⟨k,g9⟩ ⟨le_k,hr9,hl9,hc9⟩
 replace le_k:k≤lv.length:=le_k
 replace hr9:RG.Rep g9:=hr9
 replace hl9:RG.l g9=evK 3 (RG.l g) lv k:=hl9
 replace hc9:RG.cp g9=RG.cp g:=hc9
 refine zV (L' := [Res.blk eb 112 (ECell rb cb lb bb ub mb xb pb gb tb c lA (lv.length) lc),RgB rb g9,RgW g9,Res.im (RG.m g9),CkB cb ((blk+1)) (c.elen.toNat),bB_ bb br,bW_ br,bK_ br,Res.row lA (lv).length lc 3 1 ((lv).map (fun v:Int=>[Value.int .i64 v])),Res.blk mb 186 (M.c m),bL_ xb b0 b1,rB_i b0 g0,rW_i g0,rB_i b1 g1,rW_i g1,rB_i pb gp,rW_i gp,rB_pp gb gg,rW_pp gg]) rfl ?_
 refine g_val 22 (v' := .int .i64 ((k:Nat):Int)) rfl rfl ?_
 have hst9:stR (RG.l g9):=by rw[hl9];exact stR_evK (stR_vo hvo) lv k
 refine rn [1,46,0,8] ?_
 refine zC rfl (fun h1=>?_) (fun h1=>?_)
 ·have lt_k:k<lv.length:=by have h9:=of_decide_eq_true h1;omega
  refine rn [12,7,8,14,1] ?_
  refine s_q (zP (i:=k) rfl rfl rfl (ird (A:=lA)) (by first|exact lt_k|omega)) rfl ?_
  refine s_q (yI (i:=k) (o:=0) rfl (ird (A:=lA)) (zR (by first|assumption|omega|(simp_all;done)|(simp_all;omega))) rfl rfl) rfl ?_
  refine rn [3,0,10,2,6,4] ?_
  refine s_q (yQ (c' := [Value.pointer (some ⟨rb,0,none⟩)]) rfl rfl rfl) rfl ?_
  refine rn [2] ?_
  refine g_op (zG _ rfl (fun w1 hw1 ho1=>by have h7:=rX rb g9 ((lv)[k]) 3 w1 ho1 hr9 (by decide) hst9;exact h7) rfl ?_)
  rintro g31 ⟨r31,l31,c31⟩
  refine ii ?_
  refine rn [9,15,7,10,43,2,9] ?_
  exact g_ag ((k+1),g31) (by(try dsimp only);exact⟨(by first|exact lt_k|omega),r31,(by rw[l31,hl9];exact(evK_succ lt_k).symm),(by rw[c31];exact hc9)⟩)
 ·have eq_k:k=lv.length:=by have h9:=of_decide_eq_false h1;omega
  refine rn [16] ?_
  refine zD (zD (zN ?_))
  refine rn [7,1,2,6,4] ?_
  refine g_op (zJ rfl rfl rfl rfl rfl rfl rfl ?_)
  refine zF (b:=eb) (ECell rb cb lb bb ub mb xb pb gb tb c none (([]:List Int).length) 0) (by rfl) ?_
  refine zX none 3 1 (([]:List Int).map (fun v:Int=>[Value.int .i64 v])) (by rfl) ?_
  rw[eq_k,evK_end] at hl9
  have d1:Mid (((blk+1)/c.elen.toNat:Nat):Int) (((blk+1)/c.elen.toNat:Nat):Int) (RG.l g9) q bo:=by rw[hl9];exact hE.mid
  have v1:∀i,hasV (RG.l g9) i=true→VO (gotV (RG.l g9) i):=by rw[hl9];exact vo_ev (by omega) lv hvo
  have b1_:bals (RG.l g9)=bals (RG.l g):=by rw[hl9];exact xU 3 _ _
  refine rn [0,1,2,2] ?_
  refine g_op (zG _ rfl (fun w1 hw1 ho1=>by have h7:=ripen_any eb rb cb lb bb ub mb xb b0 b1 pb gb tb c (blk+1) g9 dep paid burn bo ([]:List Int) cur m q pend mg pt br none 0 g0 g1 gp gg gt (((((blk+1)/c.elen.toNat):Nat):Int)) w1 ho1 hr9 (by omega) hbr (stR_vo v1) (by omega);exact h7) rfl ?_)
  rintro⟨g38,br38⟩ ⟨r38,l38,c38,rb38⟩
  refine ii ?_
  simp only at r38 l38 c38 rb38
  obtain⟨f2,d2⟩:=d1.rip hepb.1 (VO.z_wd _ v1)
  have b2:bals (RG.l g38)=bals (RG.l g9):=by rw[l38];exact rI _ _ _
  have v2:=rip_vo f2 v1
  rw[←l38] at f2 d2 v2
  have hbl2:(ripE (((blk+1)/c.elen.toNat:Nat):Int) (RG.l g9,bo)).2.length≤100000:=by have h9:=ripK_len (e:=(((blk+1)/c.elen.toNat:Nat):Int)) (s:=(RG.l g9,bo)) (dueO (((blk+1)/c.elen.toNat:Nat):Int) bo).length;rw[ripK_end] at h9;simp only at h9;omega
  have haB:=r38.aB
  have hch:0≤(churn (RG.a g38) c.minch c.quot)∧(churn (RG.a g38) c.minch c.quot)≤18446744073709551615:=by
    have h9:=hi.ck.minch;have h8:=hi.ck.quot;simp only at h9 h8
    refine⟨churn_nn haB.1 h9.1,?_⟩
    unfold churn;split
    · exact h9.2
    · have h7:=Int.ediv_le_self c.quot haB.1;omega
  refine rn [0,8] ?_
  refine dregL (L0:=[Res.blk eb 112 (ECell rb cb lb bb ub mb xb pb gb tb c none (([]:List Int).length) 0)]) [] mixed rfl zB ?_
  refine rn [23,0,2,23,1,6,23,2,4,23,3,4,23,4,5,23,6,2,23,7,6,23,8,4,23,9,4,23,10,5,23,11,2,23,12,6,23,13,4,23,14,4,23,15,5] ?_
  refine dop 5 rfl (zL _ rfl (fun w1 hw1 ho1=>by exact ract_any rb g38 w1 ho1) rfl ?_)
  refine dop 16 rfl (zI rfl (fun w1 hw1=>by exact churn_any ((RG.a g38)) (c.minch) (c.quot) w1 haB hi.ck.minch hi.ck.quot) rfl ?_)
  refine rn [23,17,3,27,7,1,2,2,2] ?_
  refine g_op (zG _ rfl (fun w1 hw1 ho1=>by have h7:=assign_eng eb rb cb lb bb ub mb xb b0 b1 pb gb tb c (blk+1) g38 dep paid burn (ripE ((((blk+1)/c.elen.toNat):Nat):Int) (RG.l g9,bo)).2 ([]:List Int) cur m q pend mg pt br38 none 0 g0 g1 gp gg gt (((((blk+1)/c.elen.toNat):Nat):Int)) ((churn (RG.a g38) c.minch c.quot)) w1 ho1 r38 (by omega) rb38 h0 h1_ s0 s1 hqf hqs hepb hok.unb d2 v2 hbl2 (by simp);exact h7) rfl ?_)
  rintro⟨g59,br59,lA59,lc59,ga59,gb59,O59,oc59⟩ ⟨r59,l59,c59,rb59,ra59,rbb59,sa59,sb59⟩
  refine ii ?_
  simp only at r59 l59 c59 rb59 ra59 rbb59 sa59 sb59
  refine rn [3,0,8,8] ?_
  refine dregL (L0:=[Res.blk eb 112 (ECell rb cb lb bb ub mb xb pb gb tb c lA59 (((stepM ((RG.l g38).map V.bal) (((blk+1)/c.elen.toNat:Nat):Int) (churn (RG.a g38) c.minch c.quot) q m).1.foldl (asgS c) (RG.l g38,(ripE (((blk+1)/c.elen.toNat:Nat):Int) (RG.l g9,bo)).2,([]:List Int))).2.2.length) lc59)]) [] mixed rfl zB ?_
  refine rn [23,0,2,23,1,6,23,2,4,23,3,5,23,4,2,23,5,2,23,6,6,23,7,4] ?_
  refine dq 8 rfl (yQ (c' := [Value.pointer (some ⟨rb,0,none⟩)]) rfl rfl rfl) ?_
  refine rn [23,12,2] ?_
  refine dop 9 rfl (zG _ rfl (fun w1 hw1 ho1=>by have h7:=uS rb g59 w1 ho1 r59;exact h7) rfl ?_)
  rintro⟨A69,cap69⟩ _
  refine ii ?_
  refine dop 10 rfl (zG _ rfl (fun w1 hw1 ho1=>by have h7:=step14_any pb gp ((churn (RG.a g38) c.minch c.quot)) A69 (((RG.l g59).map V.bal).length) (cap69) ((RG.l g59).map V.bal) pend w1 ho1 hgp (Rd.ofRow (A:=A69) hw1) r59.okB hch (by have h9:=hi.pe;simp only at h9;omega);exact h7) rfl ?_)
  rintro⟨A70,cap70,g70⟩ ⟨r70,s70⟩
  refine ii ?_
  simp only at r70 s70
  refine rn [23,11,47,27,7,14] ?_
  obtain⟨f3,e3⟩:=d2.asg hepb.1 hok.unb.1 (by have h9:=hok.unb;omega) (VO.z_wd _ v2) ((RG.l g38).map V.bal) (churn (RG.a g38) c.minch c.quot) m
  have v3:=asg_vo hepb.1 hok.unb.1 (by have h9:=hok.unb;omega) f3 v2
  have b3:bals (RG.l g59)=bals (RG.l g38):=by rw[l59];exact f3.bal
  rw[←l59] at v3
  have hacl:(batF (churn (RG.a g38) c.minch c.quot) ((RG.l g59).map V.bal) pend 0 true).length≤4096:=by have h9:=rH (churn (RG.a g38) c.minch c.quot) ((RG.l g59).map V.bal) pend 0 true;have h8:=hi.pe;simp only at h8;omega
  refine g_lk [0,2,7,70,71] (fun(x:Nat × RG)=>[(72,.int .i64 ((x.1:Nat):Int))]) (fun(x:Nat × RG)=>[Res.row A70 (batF (churn (RG.a g38) c.minch c.quot) ((RG.l g59).map V.bal) pend 0 true).length cap70 3 1 ((batF (churn (RG.a g38) c.minch c.quot) ((RG.l g59).map V.bal) pend 0 true).map (fun v:Int=>[Value.int .i64 v])),Res.row O59 (stepM ((RG.l g38).map V.bal) (((blk+1)/c.elen.toNat:Nat):Int) (churn (RG.a g38) c.minch c.quot) q m).1.length oc59 55 3 ((stepM ((RG.l g38).map V.bal) (((blk+1)/c.elen.toNat:Nat):Int) (churn (RG.a g38) c.minch c.quot) q m).1.map As.cs),Res.blk eb 112 (ECell rb cb lb bb ub mb xb pb gb tb c lA59 (((stepM ((RG.l g38).map V.bal) (((blk+1)/c.elen.toNat:Nat):Int) (churn (RG.a g38) c.minch c.quot) q m).1.foldl (asgS c) (RG.l g38,(ripE (((blk+1)/c.elen.toNat:Nat):Int) (RG.l g9,bo)).2,([]:List Int))).2.2.length) lc59),RgB rb x.2,RgW x.2,Res.im (RG.m x.2),CkB cb ((blk+1)) (c.elen.toNat),bB_ bb br59,bW_ br59,bK_ br59,Res.row lA59 (((stepM ((RG.l g38).map V.bal) (((blk+1)/c.elen.toNat:Nat):Int) (churn (RG.a g38) c.minch c.quot) q m).1.foldl (asgS c) (RG.l g38,(ripE (((blk+1)/c.elen.toNat:Nat):Int) (RG.l g9,bo)).2,([]:List Int))).2.2).length lc59 3 1 ((((stepM ((RG.l g38).map V.bal) (((blk+1)/c.elen.toNat:Nat):Int) (churn (RG.a g38) c.minch c.quot) q m).1.foldl (asgS c) (RG.l g38,(ripE (((blk+1)/c.elen.toNat:Nat):Int) (RG.l g9,bo)).2,([]:List Int))).2.2).map (fun v:Int=>[Value.int .i64 v])),Res.blk mb 186 (M.c (stepM ((RG.l g38).map V.bal) (((blk+1)/c.elen.toNat:Nat):Int) (churn (RG.a g38) c.minch c.quot) q m).2.2),bL_ xb b0 b1,rB_i b0 ga59,rW_i ga59,rB_i b1 gb59,rW_i gb59,rB_i pb g70,rW_i g70,rB_pp gb gg,rW_pp gg]) (fun(x:Nat × RG)=>x.1≤(batF (churn (RG.a g38) c.minch c.quot) ((RG.l g59).map V.bal) pend 0 true).length∧RG.Rep x.2∧RG.l x.2=evK 1 (RG.l g59) (batF (churn (RG.a g38) c.minch c.quot) ((RG.l g59).map V.bal) pend 0 true) x.1∧RG.cp x.2=RG.cp g59) (fun(x:Nat × RG)=>(batF (churn (RG.a g38) c.minch c.quot) ((RG.l g59).map V.bal) pend 0 true).length-x.1) (0,g59) (by(try dsimp only);exact⟨Nat.zero_le _,r59,rfl,rfl⟩) ?_
  rintro⟨k,gz9⟩ ⟨le_k,hrz,hlz,hcz⟩
  replace le_k:k≤(batF (churn (RG.a g38) c.minch c.quot) ((RG.l g59).map V.bal) pend 0 true).length:=le_k
  replace hrz:RG.Rep gz9:=hrz
  replace hlz:RG.l gz9=evK 1 (RG.l g59) (batF (churn (RG.a g38) c.minch c.quot) ((RG.l g59).map V.bal) pend 0 true) k:=hlz
  replace hcz:RG.cp gz9=RG.cp g59:=hcz
  refine zV (L' := [Res.row A70 (batF (churn (RG.a g38) c.minch c.quot) ((RG.l g59).map V.bal) pend 0 true).length cap70 3 1 ((batF (churn (RG.a g38) c.minch c.quot) ((RG.l g59).map V.bal) pend 0 true).map (fun v:Int=>[Value.int .i64 v])),Res.row O59 (stepM ((RG.l g38).map V.bal) (((blk+1)/c.elen.toNat:Nat):Int) (churn (RG.a g38) c.minch c.quot) q m).1.length oc59 55 3 ((stepM ((RG.l g38).map V.bal) (((blk+1)/c.elen.toNat:Nat):Int) (churn (RG.a g38) c.minch c.quot) q m).1.map As.cs),Res.blk eb 112 (ECell rb cb lb bb ub mb xb pb gb tb c lA59 (((stepM ((RG.l g38).map V.bal) (((blk+1)/c.elen.toNat:Nat):Int) (churn (RG.a g38) c.minch c.quot) q m).1.foldl (asgS c) (RG.l g38,(ripE (((blk+1)/c.elen.toNat:Nat):Int) (RG.l g9,bo)).2,([]:List Int))).2.2.length) lc59),RgB rb gz9,RgW gz9,Res.im (RG.m gz9),CkB cb ((blk+1)) (c.elen.toNat),bB_ bb br59,bW_ br59,bK_ br59,Res.row lA59 (((stepM ((RG.l g38).map V.bal) (((blk+1)/c.elen.toNat:Nat):Int) (churn (RG.a g38) c.minch c.quot) q m).1.foldl (asgS c) (RG.l g38,(ripE (((blk+1)/c.elen.toNat:Nat):Int) (RG.l g9,bo)).2,([]:List Int))).2.2).length lc59 3 1 ((((stepM ((RG.l g38).map V.bal) (((blk+1)/c.elen.toNat:Nat):Int) (churn (RG.a g38) c.minch c.quot) q m).1.foldl (asgS c) (RG.l g38,(ripE (((blk+1)/c.elen.toNat:Nat):Int) (RG.l g9,bo)).2,([]:List Int))).2.2).map (fun v:Int=>[Value.int .i64 v])),Res.blk mb 186 (M.c (stepM ((RG.l g38).map V.bal) (((blk+1)/c.elen.toNat:Nat):Int) (churn (RG.a g38) c.minch c.quot) q m).2.2),bL_ xb b0 b1,rB_i b0 ga59,rW_i ga59,rB_i b1 gb59,rW_i gb59,rB_i pb g70,rW_i g70,rB_pp gb gg,rW_pp gg]) rfl ?_
  refine g_val 72 (v' := .int .i64 ((k:Nat):Int)) rfl rfl ?_
  have hst9:stR (RG.l gz9):=by rw[hlz];exact stR_evK (stR_vo v3) _ k
  refine rn [1,46,0,8] ?_
  refine zC rfl (fun h2=>?_) (fun h2=>?_)
  ·have lt_k:k<(batF (churn (RG.a g38) c.minch c.quot) ((RG.l g59).map V.bal) pend 0 true).length:=by have h9:=of_decide_eq_true h2;omega
   refine rn [12,7,8,14,1] ?_
   refine s_q (zP (i:=k) rfl rfl rfl (ird (A:=A70)) (by first|exact lt_k|omega)) rfl ?_
   refine s_q (yI (i:=k) (o:=0) rfl (ird (A:=A70)) (zR (by first|assumption|omega|(simp_all;done)|(simp_all;omega))) rfl rfl) rfl ?_
   refine rn [3,0,10,2,6,4] ?_
   refine s_q (yQ (c' := [Value.pointer (some ⟨rb,0,none⟩)]) rfl rfl rfl) rfl ?_
   refine rn [2] ?_
   refine g_op (zG _ rfl (fun w1 hw1 ho1=>by have h7:=rX rb gz9 (((batF (churn (RG.a g38) c.minch c.quot) ((RG.l g59).map V.bal) pend 0 true))[k]) 1 w1 ho1 hrz (by decide) hst9;exact h7) rfl ?_)
   rintro g81 ⟨r81,l81,c81⟩
   refine ii ?_
   refine rn [9,15,7,10,43,2,9] ?_
   exact g_ag ((k+1),g81) (by(try dsimp only);exact⟨(by first|exact lt_k|omega),r81,(by rw[l81,hlz];exact(evK_succ lt_k).symm),(by rw[c81];exact hcz)⟩)
  ·have eq_k:k=(batF (churn (RG.a g38) c.minch c.quot) ((RG.l g59).map V.bal) pend 0 true).length:=by have h9:=of_decide_eq_false h2;omega
   refine rn [16] ?_
   refine zD (zD (zN ?_))
   refine rn [7,8] ?_
   refine dregL (L0:=[Res.blk eb 112 (ECell rb cb lb bb ub mb xb pb gb tb c lA59 (((stepM ((RG.l g38).map V.bal) (((blk+1)/c.elen.toNat:Nat):Int) (churn (RG.a g38) c.minch c.quot) q m).1.foldl (asgS c) (RG.l g38,(ripE (((blk+1)/c.elen.toNat:Nat):Int) (RG.l g9,bo)).2,([]:List Int))).2.2.length) lc59)]) [] mixed rfl zB ?_
   rw[eq_k,evK_end] at hlz
   have v4:∀i,hasV (RG.l gz9) i=true→VO (gotV (RG.l gz9) i):=by rw[hlz];exact vo_ev (by omega) _ v3
   have b4:bals (RG.l gz9)=bals (RG.l g59):=by rw[hlz];exact xU 1 _ _
   obtain⟨f5,s5⟩:=K2.runM (c:=c) (mg.take P) v4
   have k_l:∀z∈RG.l gz9,z.ok:=hrz.ok
   have hgl:=hrz.le;have hgc:=hrz.cp
   have hmgl:mg.length≤4096:=by have h9:=hi.mg;simp only at h9;omega
   have hmtl:(mg.take P).length≤4096:=by simp;omega
   refine rn [23,0,2,23,1,6,23,2,4,23,3,4,23,4,5,23,6,2,23,7,6,23,8,4,23,9,5,23,10,2,23,11,6,23,12,4,23,13,4,23,14,5] ?_
   refine g_val 98 (v' := .int .i64 ((P:Nat):Int)) rfl (by rw[hP]) ?_
   refine rn [23,16,2,23,17,6,23,18,4] ?_
   refine dq 19 rfl (yQ (c' := C.c c) rfl rfl rfl) ?_
   refine dop 5 rfl (zG _ rfl (fun w1 hw1 ho1=>by have h7:=vW rb gz9 w1 ho1 hrz;exact h7) rfl ?_)
   rintro⟨A89,cap89⟩ _
   refine ii ?_
   refine dop 15 rfl (zG _ rfl (fun w1 hw1 ho1=>by have h7:=take_pp gb gg mg P w1 ho1 hgg (by omega);exact h7) rfl ?_)
   rintro⟨A99,cap99,g99⟩ ⟨r99,s99⟩
   refine ii ?_
   simp only at r99 s99
   refine dop 20 rfl (zG [] rfl (fun w1 hw1 ho1=>by have h7:=step16_any A89 A99 ((RG.l gz9).length) (cap89) (cap99) P ((RG.l gz9)) ((mg.take P)) c w1 (Rd.ofRow (A:=A89) hw1) (Rd.ofRow (A:=A99) hw1) (pQ (A:=A99) hw1) (by omega) (by omega) hP (fun x hx=>(k_l x hx).bal);exact h7) rfl ?_)
   rintro⟨A104,cap104,AA104,capd104⟩ _
   refine ii ?_
   obtain⟨g104,hg104⟩:∃x,x=(runM c (RG.l gz9) ((mg.take P).take (min (mg.take P).length P))).1:=⟨_,rfl⟩
   obtain⟨d104,hd104⟩:∃x,x=(runM c (RG.l gz9) ((mg.take P).take (min (mg.take P).length P))).2:=⟨_,rfl⟩
   rw[←hg104,←hd104]
   have hgl104:g104.length=(RG.l gz9).length:=by rw[hg104];exact(yE _ _ _).1
   have hdl104:d104.length=min (mg.take P).length P:=by rw[hd104,(yE _ _ _).2];simp
   refine rn [23,21,2,23,22,40,23,23,40,23,24,3,23,25,3,27,7,1] ?_
   refine yB (A:=A104) g104.length (by omega) ?_
   refine g_val 10 (v' := .slice A104 g104.length cap104) rfl (by rw[hgl104]) ?_
   refine rn [2,2] ?_
   refine g_op (zG _ rfl (fun w1 hw1 ho1=>by have h7:=store_eng eb rb cb lb bb ub mb xb b0 b1 pb gb tb c (blk+1) gz9 dep paid burn ((stepM ((RG.l g38).map V.bal) ((((blk+1)/c.elen.toNat):Nat):Int) (churn (RG.a g38) c.minch c.quot) q m).1.foldl (asgS c) (RG.l g38,(ripE ((((blk+1)/c.elen.toNat):Nat):Int) (RG.l g9,bo)).2,([]:List Int))).2.1 ((stepM ((RG.l g38).map V.bal) ((((blk+1)/c.elen.toNat):Nat):Int) (churn (RG.a g38) c.minch c.quot) q m).1.foldl (asgS c) (RG.l g38,(ripE ((((blk+1)/c.elen.toNat):Nat):Int) (RG.l g9,bo)).2,([]:List Int))).2.2 cur (stepM ((RG.l g38).map V.bal) ((((blk+1)/c.elen.toNat):Nat):Int) (churn (RG.a g38) c.minch c.quot) q m).2.2 (stepM ((RG.l g38).map V.bal) ((((blk+1)/c.elen.toNat):Nat):Int) (churn (RG.a g38) c.minch c.quot) q m).2.1 (pend.drop (batF (churn (RG.a g38) c.minch c.quot) ((RG.l g59).map V.bal) pend 0 true).length) (mg.drop (mg.take P).length) pt br59 lA59 lc59 ga59 gb59 g70 g99 gt A104 cap104 g104 w1 ho1 hrz (by omega) (Rd.ofRow (A:=A104) hw1) (by omega) (vo_mem v4) (vo_mem (by rw[hg104,sT];exact f5.vo v4)) (by rw[hg104,sT,s5,b4,b3,b2,b1_];exact hg.mx);exact h7) rfl ?_)
   rintro g109 ⟨r109,l109,c109⟩
   refine ii ?_
   refine rn [0,1,2,3,0,11] ?_
   have hB:(bdyE (Eg.mk c (blk+1) (RG.l g) dep paid burn bo lv cur m q pend mg pt))=((Eg.mk c (blk+1) g104 dep paid burn ((stepM ((RG.l g38).map V.bal) (((blk+1)/c.elen.toNat:Nat):Int) (churn (RG.a g38) c.minch c.quot) q m).1.foldl (asgS c) (RG.l g38,(ripE (((blk+1)/c.elen.toNat:Nat):Int) (RG.l g9,bo)).2,([]:List Int))).2.1 ((stepM ((RG.l g38).map V.bal) (((blk+1)/c.elen.toNat:Nat):Int) (churn (RG.a g38) c.minch c.quot) q m).1.foldl (asgS c) (RG.l g38,(ripE (((blk+1)/c.elen.toNat:Nat):Int) (RG.l g9,bo)).2,([]:List Int))).2.2 cur (stepM ((RG.l g38).map V.bal) (((blk+1)/c.elen.toNat:Nat):Int) (churn (RG.a g38) c.minch c.quot) q m).2.2 (stepM ((RG.l g38).map V.bal) (((blk+1)/c.elen.toNat:Nat):Int) (churn (RG.a g38) c.minch c.quot) q m).2.1 (pend.drop (batF (churn (RG.a g38) c.minch c.quot) ((RG.l g59).map V.bal) pend 0 true).length) (mg.drop (mg.take P).length) pt),(stepM ((RG.l g38).map V.bal) (((blk+1)/c.elen.toNat:Nat):Int) (churn (RG.a g38) c.minch c.quot) q m).1):=by
     have hPn:c.merg.toNat=P:=by omega
     rw[sT] at hg104
     unfold bdyE churnE Eg.ep;dsimp only
     unfold bals
     rw[←hl9,←l38,←r38.a,←l59,←hlz,hPn,←hg104]
   exact fin1 rfl (.tmp rfl) (fun w' hw' => ⟨(⟨g109,br59,lA59,lc59,ga59,gb59,g70,g99,O59,oc59⟩:BX),(by(try dsimp only);(rw[hB];exact⟨r109,l109,by rw[c109,hcz,c59,c38,hc9],rb59,ra59,rbb59,sa59,sb59,r70,by rw[s70];exact sgp,r99,by rw[s99];exact sgg⟩)),by rw[hB],by have h9:=zB (L' := [Res.row O59 (stepM ((RG.l g38).map V.bal) (((blk+1)/c.elen.toNat:Nat):Int) (churn (RG.a g38) c.minch c.quot) q m).1.length oc59 55 3 ((stepM ((RG.l g38).map V.bal) (((blk+1)/c.elen.toNat:Nat):Int) (churn (RG.a g38) c.minch c.quot) q m).1.map As.cs),Res.blk eb 112 (ECell rb cb lb bb ub mb xb pb gb tb c lA59 (((stepM ((RG.l g38).map V.bal) (((blk+1)/c.elen.toNat:Nat):Int) (churn (RG.a g38) c.minch c.quot) q m).1.foldl (asgS c) (RG.l g38,(ripE (((blk+1)/c.elen.toNat:Nat):Int) (RG.l g9,bo)).2,([]:List Int))).2.2.length) lc59),RgB rb g109,RgW g109,Res.im (RG.m g109),CkB cb ((blk+1)) (c.elen.toNat),bB_ bb br59,bW_ br59,bK_ br59,Res.row lA59 (((stepM ((RG.l g38).map V.bal) (((blk+1)/c.elen.toNat:Nat):Int) (churn (RG.a g38) c.minch c.quot) q m).1.foldl (asgS c) (RG.l g38,(ripE (((blk+1)/c.elen.toNat:Nat):Int) (RG.l g9,bo)).2,([]:List Int))).2.2).length lc59 3 1 ((((stepM ((RG.l g38).map V.bal) (((blk+1)/c.elen.toNat:Nat):Int) (churn (RG.a g38) c.minch c.quot) q m).1.foldl (asgS c) (RG.l g38,(ripE (((blk+1)/c.elen.toNat:Nat):Int) (RG.l g9,bo)).2,([]:List Int))).2.2).map (fun v:Int=>[Value.int .i64 v])),Res.blk mb 186 (M.c (stepM ((RG.l g38).map V.bal) (((blk+1)/c.elen.toNat:Nat):Int) (churn (RG.a g38) c.minch c.quot) q m).2.2),bL_ xb b0 b1,rB_i b0 ga59,rW_i ga59,rB_i b1 gb59,rW_i gb59,rB_i pb g70,rW_i g70,rB_pp gb g99,rW_pp g99]) w' hw';show WOK _ _ [Res.row O59 (bdyE (Eg.mk c (blk+1) (RG.l g) dep paid burn bo lv cur m q pend mg pt)).2.length oc59 55 3 ((bdyE (Eg.mk c (blk+1) (RG.l g) dep paid burn bo lv cur m q pend mg pt)).2.map As.cs),Res.blk eb 112 (ECell rb cb lb bb ub mb xb pb gb tb c lA59 ((bdyE (Eg.mk c (blk+1) (RG.l g) dep paid burn bo lv cur m q pend mg pt)).1.lv.length) lc59),RgB rb g109,RgW g109,Res.im (RG.m g109),CkB cb ((blk+1)) (c.elen.toNat),bB_ bb br59,bW_ br59,bK_ br59,Res.row lA59 ((bdyE (Eg.mk c (blk+1) (RG.l g) dep paid burn bo lv cur m q pend mg pt)).1.lv).length lc59 3 1 (((bdyE (Eg.mk c (blk+1) (RG.l g) dep paid burn bo lv cur m q pend mg pt)).1.lv).map (fun v:Int=>[Value.int .i64 v])),Res.blk mb 186 (M.c (bdyE (Eg.mk c (blk+1) (RG.l g) dep paid burn bo lv cur m q pend mg pt)).1.m),bL_ xb b0 b1,rB_i b0 ga59,rW_i ga59,rB_i b1 gb59,rW_i gb59,rB_i pb g70,rW_i g70,rB_pp gb g99,rW_pp g99] _;rw[hB];exact h9⟩) _ (.inl rfl)
end Go.Proofs.YtdddiilocbbkkaaGreat
