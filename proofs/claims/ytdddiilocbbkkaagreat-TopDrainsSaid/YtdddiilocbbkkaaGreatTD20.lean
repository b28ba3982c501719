/- TopDrains: for every configuration and all operations the law returns true. No condition. Part 20 of 28. -/
import Derived.Test.YtdddiilocbbkkaaGreatTD19
set_option linter.unusedVariables false
set_option linter.unusedSimpArgs false
namespace Go.Proofs.YtdddiilocbbkkaaGreat
open Go.RowKit Go.Eg
set_option maxHeartbeats 4000000
set_option synthInstance.maxSize 3000
set_option maxRecDepth 100000
theorem run_pl (c:C) (l:List V) (q:List Rq):(run c l q).2.length≤q.length:=by
 have key:∀(q:List Rq) (s:List V × List Y),(q.foldl (stepQ c) s).2.length≤s.2.length+q.length:=fun q=>by
  induction q with
  | nil=>exact fun _=>Nat.le_refl _
  | cons r q ih =>
   intro s
   have h1:=ih (stepQ c s r)
   have h2:(stepQ c s r).2.length≤s.2.length+1:=by
    show(payP c s.1 s.2 r).length≤_
    rw[qR];split<;>simp
   simp only[List.foldl_cons,List.length_cons];omega
 have:=key q (l,[])
 simpa[run] using this
def rdyK (l:List V) (k:Nat):List Bool:=(l.take k).map (fun v=>decide (v.st=5))++List.replicate (l.length-k) false
theorem rdyK_len {l:List V} {k:Nat} (h:k≤l.length):(rdyK l k).length=l.length:=by simp[rdyK];omega
theorem rdyK_zero (l:List V):rdyK l 0=List.replicate l.length false:=by simp[rdyK]
theorem rdyK_end (l:List V):rdyK l l.length=l.map fun v=>decide (v.st=5):=by simp[rdyK]
theorem rdyK_set {l:List V} {k:Nat} (h:k<l.length):(rdyK l k).set k (decide (l[k].st=5))=rdyK l (k+1):=by
 unfold rdyK
 have h1:((l.take k).map fun v=>decide (v.st=5)).length=k:=by simp;omega
 have h2:l.length-k=(l.length-(k+1))+1:=by omega
 rw[List.set_append_right _ _ (by omega),h1,Nat.sub_self,h2,List.replicate_succ,List.set_cons_zero,←List.take_append_getElem h,List.map_append,List.append_assoc]
 rfl
theorem swp_made {rd:List Bool} {n pays:Nat}:∀(k at_:Nat) (paid:List Int) (made:Nat),(swp rd n pays k at_ paid made).2.2≤made+k
 | 0,_,_,_=>Nat.le_refl _
 | k+1,at_,paid,made=>by
  unfold swp
  split
  ·exact Nat.le_add_right _ _
  ·have:=swp_made (rd:=rd) (n:=n) (pays:=pays) k ((at_%n+1)%n) (if rd[at_%n]?=some true then paid++[((at_%n:Nat):Int)] else paid) (made+1)
   omega
theorem sweep_made (at_:Nat) (rd:List Bool) (visits pays:Int):(sweepS at_ rd visits pays).2.2≤rd.length:=by
 unfold sweepS
 split
 ·exact Nat.zero_le _
 ·have:=swp_made (rd:=rd) (n:=rd.length) (pays:=pays.toNat) (min visits (rd.length:Int)).toNat at_ [] 0
  omega
def fullK (l0:List V) (e:Int) (s:List V × List Y) (is:List Int) (k:Nat):List V × List Y:=(is.take k).foldl (fullS l0 e) s
theorem fullK_end (l0:List V) (e:Int) (s:List V × List Y) (is:List Int):fullK l0 e s is is.length=is.foldl (fullS l0 e) s:=by unfold fullK;rw[List.take_length]
theorem fullK_succ {l0:List V} {e:Int} {s:List V × List Y} {is:List Int} {k:Nat} (h:k<is.length):fullK l0 e s is (k+1)=fullS l0 e (fullK l0 e s is k) is[k]:=wJ _ _ h
theorem fullK_ok {l0:List V} {e:Int} {is:List Int} {ps:List Y} (hn:is.Nodup) (h:∀i∈is,(gotV l0 i).st=5∧(gotV l0 i).wd≤e) (hvo:∀j,hasV l0 j=true→VO (gotV l0 j)) (k:Nat) :
  (∀j,hasV (fullK l0 e (l0,ps) is k).1 j=true→VO (gotV (fullK l0 e (l0,ps) is k).1 j))∧(bals (fullK l0 e (l0,ps) is k).1).sum≤(bals l0).sum∧(fullK l0 e (l0,ps) is k).2.length≤ps.length+k∧(∀j,hasV (fullK l0 e (l0,ps) is k).1 j=hasV l0 j):=by
 obtain⟨g1,g2,g3,g4⟩:=uC (l0:=l0) (e:=e) (is.take k) l0 ps (pG hn k) (fun i hi=>⟨(h i (List.mem_of_mem_take hi)).1,(h i (List.mem_of_mem_take hi)).2,rfl⟩)
 unfold fullK
 refine⟨fun j hj=>?_,?_,by rw[g3];simp;omega,xK g1⟩
 ·rw[xK g1] at hj
  have:=hvo j hj
  rw[g2 j]
  split
  ·exact⟨by simp,by simp,this.r,this.x,this.w,this.d⟩
  ·exact this
 ·refine qN g1 fun i a b ha hb=>?_
  obtain⟨hi,rfl⟩:=List.getElem?_eq_some_iff.1 ha
  obtain⟨hi2,rfl⟩:=List.getElem?_eq_some_iff.1 hb
  have h1:=g2 (i:Int)
  rw[yT hi,yT hi2] at h1
  have h2:=hvo (i:Int) (decide_eq_true (by omega))
  rw[yT hi2] at h2
  rw[h1]
  split
  ·exact h2.b
  ·exact Int.le_refl _
theorem mem_sumA:∀{ps:List Y},(∀y∈ps,0≤y.a)→∀y∈ps,y.a≤sumA ps
 | [],_,_,h=>by simp at h
 | z :: ps,hp,y,hy=>by
  have h0:0≤sumA ps:=xF fun x hx=>by obtain⟨w,hw,rfl⟩:=List.mem_map.1 hx;exact hp w (by simp[hw])
  have h1:=hp z (by simp)
  have e:sumA (z :: ps)=z.a+sumA ps:=by simp[sumA]
  rw[e]
  rcases List.mem_cons.1 hy with rfl|hy
  ·omega
  ·have:=mem_sumA (fun w hw=>hp w (by simp[hw])) y hy;omega
def ledK (d u p:Int) (ps:List Y) (k:Nat):Int:=(ps.take k).foldl (ledS d u) p
theorem ledK_succ {d u p:Int} {ps:List Y} {k:Nat} (h:k<ps.length):ledK d u p ps (k+1)=ledS d u (ledK d u p ps k) ps[k]:=wJ _ _ h
theorem ledK_end (d u p:Int) (ps:List Y):ledK d u p ps ps.length=ps.foldl (ledS d u) p:=by unfold ledK;rw[List.take_length]
theorem ledS_ok {cap d p u:Int} (h:LOk cap d p u) {y:Y} (hy:0≤y.a):LOk cap d (ledS d u p y) u:=by
 unfold ledS
 split
 ·rename_i hb
  unfold bookC at hb
  split at hb
  ·omega
  ·have:=h.hp;have:=h.hu;have:=h.hd;have:=h.hm;have:=h.hc;have:=h.hcm
   exact⟨by omega,by omega,by omega,by omega,by omega,by omega⟩
 ·exact h
theorem ledK_ok {cap d p u:Int} (h:LOk cap d p u) {ps:List Y} (hp:∀y∈ps,0≤y.a) (k:Nat):LOk cap d (ledK d u p ps k) u:=by
 have key:∀(qs:List Y) (p:Int),LOk cap d p u→(∀y∈qs,0≤y.a)→LOk cap d (qs.foldl (ledS d u) p) u:=fun qs=>by
  induction qs with
  | nil=>exact fun _ h _=>h
  | cons y qs ih=>exact fun p h hq=>ih _ (ledS_ok h (hq y (by simp))) fun z hz=>hq z (by simp[hz])
 exact key _ _ h fun y hy=>hp y (List.mem_of_mem_take hy)
theorem pay_eng (eb rb cb lb bb ub mb xb b0 b1 pb gb tb:Nat) (c:C) (blk:Nat) (g:RG) (dep paid burn:Int) (bo:List En) (lv:List Int) (cur:Nat) (m:M) (q:LL) (pend:List Int) (mg:List PP) (pt:List Rq) (br:BR) (lA:Option Addr) (lc:Nat) (g0 g1 gp gg gt:Rg) (w:World) (hw:W0 [Res.blk eb 112 (ECell rb cb lb bb ub mb xb pb gb tb c lA (lv.length) lc),RgB rb g,RgW g,Res.im (RG.m g),CkB cb (blk) (c.elen.toNat),LgB lb (dep) (paid) (burn) (c.supc),CuB ub (cur),rB_rq tb gt,rW_rq gt] w) (hi:Inv (Eg.mk c blk (RG.l g) dep paid burn bo lv cur m q pend mg pt)) (hg:g.Rep) (hcp:(g.cp:Int)=c.capa) (hgt:gt.Rep 2 (pt.map Rq.c)) (sgt:Rg.size gt=c.qsize.toNat):Own2 (ι:=(RG × Option Addr × Nat × Rg)) Tryz.prog 102 [.pointer (some ⟨eb,0,none⟩)] w [Res.blk eb 112 (ECell rb cb lb bb ub mb xb pb gb tb c lA (lv.length) lc),RgB rb g,RgW g,Res.im (RG.m g),CkB cb (blk) (c.elen.toNat),LgB lb (dep) (paid) (burn) (c.supc),CuB ub (cur),rB_rq tb gt,rW_rq gt] (fun x=>x.1.Rep∧x.1.l=(paysE (Eg.mk c blk (RG.l g) dep paid burn bo lv cur m q pend mg pt)).1.l∧x.1.cp=g.cp∧x.2.2.2.Rep 2 ((paysE (Eg.mk c blk (RG.l g) dep paid burn bo lv cur m q pend mg pt)).1.pt.map Rq.c)∧x.2.2.2.size=c.qsize.toNat) (fun x=>.tuple [.slice x.2.1 (paysE (Eg.mk c blk (RG.l g) dep paid burn bo lv cur m q pend mg pt)).2.1.length x.2.2.1,.int .i64 (((paysE (Eg.mk c blk (RG.l g) dep paid burn bo lv cur m q pend mg pt)).2.2:Nat):Int)].toArray) (fun x=>[Res.row x.2.1 (paysE (Eg.mk c blk (RG.l g) dep paid burn bo lv cur m q pend mg pt)).2.1.length x.2.2.1 50 3 ((paysE (Eg.mk c blk (RG.l g) dep paid burn bo lv cur m q pend mg pt)).2.1.map Y.c)]) (fun x=>[Res.blk eb 112 (ECell rb cb lb bb ub mb xb pb gb tb c lA (lv.length) lc),RgB rb x.1,RgW x.1,Res.im (RG.m x.1),CkB cb (blk) (c.elen.toNat),LgB lb (dep) ((paysE (Eg.mk c blk (RG.l g) dep paid burn bo lv cur m q pend mg pt)).1.paid) (burn) (c.supc),CuB ub ((paysE (Eg.mk c blk (RG.l g) dep paid burn bo lv cur m q pend mg pt)).1.cur),rB_rq tb x.2.2.2,rW_rq x.2.2.2]):=by
 refine g_st Tryz.func102 140 hw ?_
 have hok:Cok c:=hi.cok
 have hmo:Cmo c:=yU hi.cc
 have hblk:blk≤1000000000:=hi.blk
 have hk:blk<4611686018427387904:=by omega
 have hel:1≤c.elen.toNat∧c.elen.toNat≤4611686018427387904:=by have:=hok.elen;omega
 have hled:LOk c.supc dep paid burn:=hi.led
 have hqf:q.f.length≤c.qsize.toNat∧q.v.length≤c.qsize.toNat:=hi.qf
 have hsum:(bals (RG.l g)).sum=dep-paid-burn:=hi.sum
 have hvo:∀i,hasV (RG.l g) i=true→VO (gotV (RG.l g) i):=hi.vo
 have hqs:=hmo.qsize
 obtain⟨P,hP⟩:∃P:Nat,c.parts=P:=⟨c.parts.toNat,by have h9:=hok.parts;omega⟩
 have hcur:cur≤4096:=hi.cur
 have hgl0:=hg.le;have hgc0:=hg.cp
 have hptl:pt.length≤4096:=by have h9:=hi.pt;simp only at h9;omega
 have hptt:(pt.take P).length≤4096:=by simp;omega
 refine rn [1,3,3,0,8] ?_
 refine dregL (L0:=[Res.blk eb 112 (ECell rb cb lb bb ub mb xb pb gb tb c lA (lv.length) lc)]) [] mixed rfl zB ?_
 refine rn [23,0,2,23,1,6,23,2,4,23,3,4,23,4,5,23,6,2,23,7,6,23,8,4,23,9,5,23,10,2,23,11,6,23,12,4,23,13,4,23,14,5] ?_
 refine g_val 34 (v' := .int .i64 ((P:Nat):Int)) rfl (by rw[hP]) ?_
 refine rn [23,16,2,23,17,6,23,18,4] ?_
 refine dq 19 rfl (yQ (c' := C.c c) rfl rfl rfl) ?_
 refine dop 5 rfl (zG _ rfl (fun w1 hw1 ho1=>by have h7:=vW rb g w1 ho1 hg;exact h7) rfl ?_)
 rintro⟨A25,cap25⟩ _
 refine ii ?_
 refine dop 15 rfl (zG _ rfl (fun w1 hw1 ho1=>by have h7:=take_rq tb gt pt P w1 ho1 hgt (by omega);exact h7) rfl ?_)
 rintro⟨A35,cap35,g35⟩ ⟨r35,s35⟩
 refine ii ?_
 simp only at r35 s35
 refine dop 20 rfl (zG [] rfl (fun w1 hw1 ho1=>by have h7:=step17_any A25 A35 ((RG.l g).length) (cap25) (cap35) P ((RG.l g)) ((pt.take P)) c w1 (Rd.ofRow (A:=A25) hw1) (Rd.ofRow (A:=A35) hw1) (pQ (A:=A35) hw1) (by omega) (by omega) hP;exact h7) rfl ?_)
 rintro⟨A40,cap40,AA40,capp40⟩ _
 refine ii ?_
 obtain⟨g40,hg40⟩:∃x,x=(run c (RG.l g) ((pt.take P).take (min (pt.take P).length P))).1:=⟨_,rfl⟩
 obtain⟨p40,hp40⟩:∃x,x=pos (run c (RG.l g) ((pt.take P).take (min (pt.take P).length P))).2:=⟨_,rfl⟩
 rw[←hg40,←hp40]
 have hgl:g40.length=(RG.l g).length:=by rw[hg40];exact run_len _ _ _
 refine rn [23,21,2,23,22,40,23,23,40,23,24,40,23,25,3,23,26,3,23,27,3,27,7,1] ?_
 rw[sT] at hg40 hp40
 obtain⟨f1,s1_,p1⟩:=K2.run (c:=c) hi.ck.minb.1 (pt.take P) (fun r hr=>hi.pm r (List.mem_of_mem_take hr)) hvo hg.mx
 rw[←hg40] at f1 s1_
 have v1:=f1.vo hvo
 have hsA:0≤sumA (run c (RG.l g) (pt.take P)).2:=xF fun z hz=>by obtain⟨y9,hy9,rfl⟩:=List.mem_map.1 hz;exact(p1 y9 hy9).1
 have hs40:(bals g40).sum≤18446744073709551615:=by have h9:=hg.mx;unfold bals at s1_ ⊢;omega
 refine yB (A:=A40) g40.length (by omega) ?_
 refine g_val 4 (v' := .slice A40 g40.length cap40) rfl (by rw[hgl]) ?_
 have hg40l:g40.length≤4096:=by omega
 have hp40l:p40.length≤4096:=by
   have h9:(pos (run c (RG.l g) (pt.take P)).2).length≤(pt.take P).length:=Nat.le_trans (List.length_filter_le _ _) (run_pl _ _ _)
   rw[hp40];simp at h9;omega
 refine rn [2,2] ?_
 refine g_op (zG _ rfl (fun w1 hw1 ho1=>by have h7:=store_eng eb rb cb lb bb ub mb xb b0 b1 pb gb tb c blk g dep paid burn bo lv cur m q pend mg (pt.drop (pt.take P).length) br lA lc g0 g1 gp gg g35 A40 cap40 g40 w1 ho1 hg hcp (Rd.ofRow (A:=A40) hw1) (by omega) (vo_mem hvo) (vo_mem v1) hs40;exact h7) rfl ?_)
 rintro g46 ⟨r46,l46,c46⟩
 refine ii ?_
 refine rn [0,1,2,47] ?_
 refine g_op (rV (n:=g40.length) rfl rfl rfl rfl (by omega) rfl fun g49=>?_)
 refine zH (A:=some ⟨g49,0,none⟩) ((rdyK g40 0).map (fun v:Bool=>[Value.bool v])) (by rw[rdyK_zero];simp) ?_
 refine rn [3,0,8,1,2,47,2,0,14] ?_
 refine g_lk [0,2,3,4,5,6,7,50,51] (fun(x:Nat)=>[(52,.int .i64 ((x:Nat):Int))]) (fun(x:Nat)=>[Res.row (some ⟨g49,0,none⟩) g40.length g40.length 4 1 ((rdyK g40 x).map (fun v:Bool=>[Value.bool v])),Res.row A40 g40.length cap40 52 7 (g40.map V.c),Res.row AA40 p40.length capp40 50 3 (p40.map Y.c),Res.blk eb 112 (ECell rb cb lb bb ub mb xb pb gb tb c lA (lv.length) lc),RgB rb g46,RgW g46,Res.im (RG.m g46),CkB cb (blk) (c.elen.toNat),LgB lb (dep) (paid) (burn) (c.supc),CuB ub (cur),rB_rq tb g35,rW_rq g35]) (fun(x:Nat)=>x≤g40.length) (fun(x:Nat)=>g40.length-x) 0 (by(try dsimp only);exact Nat.zero_le _) ?_
 rintro k le_k
 replace le_k:k≤g40.length:=le_k
 refine rn [1,46,0,8] ?_
 refine zC rfl (fun h1=>?_) (fun h1=>?_)
 ·have lt_k:k<g40.length:=by have h9:=of_decide_eq_true h1;omega
  refine rn [12,7,8,14,1,2] ?_
  refine s_q (zP (i:=k) rfl rfl rfl (InRow.rdb (A:=A40) (els:=(g40).map V.c) (by first|(rw[List.length_map];done)|(rw[List.length_map];exact hgl.symm)) (zW (c:=V.c) (fun _=>rfl) _)) (by first|exact lt_k|omega)) rfl ?_
  refine s_q (zS (i:=k) rfl (InRow.rdb (A:=A40) (els:=(g40).map V.c) (by first|(rw[List.length_map];done)|(rw[List.length_map];exact hgl.symm)) (zW (c:=V.c) (fun _=>rfl) _)) (zR (by first|assumption|omega|(simp_all;done)|(simp_all;omega))) rfl) rfl ?_
  refine g_op (zK rfl fun b9=>?_)
  refine rn [3,33,0,10,2,2,4,5,44] ?_
  refine s_q (zP (i:=k) rfl rfl rfl (InRow.rdb (A:=(some ⟨g49,0,none⟩)) (els:=(rdyK g40 k).map (fun v:Bool=>[Value.bool v])) (by simp[rdyK];omega) (zW (c:=(fun v:Bool=>[Value.bool v])) (fun _=>rfl) _)) (by first|exact lt_k|omega)) rfl ?_
  refine g_op (yA (A:=(some ⟨g49,0,none⟩)) (i:=k) (o:=0) (cs' := (fun v:Bool=>[Value.bool v]) ((decide (g40[k].st=5)))) rfl rfl rfl rfl rfl (zR (by rw[rdyK_len (Nat.le_of_lt lt_k)];exact lt_k)) (by first|(simp;done)|exact Nat.le_refl _) rfl rfl ?_)
  refine zH (A:=(some ⟨g49,0,none⟩)) (((rdyK g40 k).set k (decide (g40[k].st=5))).map (fun v:Bool=>[Value.bool v])) (by simp only[List.map_set]) ?_
  refine rn [9,15,7,10,43,2,9] ?_
  refine zH (A:=some ⟨g49,0,none⟩) ((rdyK g40 (k+1)).map (fun v:Bool=>[Value.bool v])) (by rw[rdyK_set lt_k]) ?_
  exact g_ag (k+1) (by(try dsimp only);exact(by first|exact lt_k|omega))
 ·have eq_k:k=g40.length:=by have h9:=of_decide_eq_false h1;omega
  subst eq_k
  refine zH (A:=some ⟨g49,0,none⟩) ((g40.map fun v:V=>decide (v.st=5)).map (fun v:Bool=>[Value.bool v])) (by rw[rdyK_end]) ?_
  obtain⟨w1_,w2_⟩:=sU cur (g40.map fun v:V=>decide (v.st=5)) (c.vis-((pt.take P).length:Nat)) (c.pays-(p40.length:Nat))
  have w3_:=sweep_cur (at_:=cur) (rd:=(g40.map fun v:V=>decide (v.st=5))) (visits:=c.vis-((pt.take P).length:Nat)) (pays:=c.pays-(p40.length:Nat)) (by simpa using hg40l) hcur
  have hEa:=hi.e.sm f1.sm
  have i5:∀i∈(sweepS cur (g40.map fun v:V=>decide (v.st=5)) (c.vis-((pt.take P).length:Nat)) (c.pays-(p40.length:Nat))).2.1,(gotV g40 i).st=5∧(gotV g40 i).wd≤((blk/c.elen.toNat:Nat):Int):=fun i hi9=>by
    obtain⟨j,rfl,hj⟩:=w1_ i hi9
    have h8:=qP hj
    exact⟨h8,hEa.rdy _ h8⟩
  refine rn [16] ?_
  refine zD (zD (zN ?_))
  refine rn [7,8] ?_
  refine dregL (L0:=[Res.blk eb 112 (ECell rb cb lb bb ub mb xb pb gb tb c lA (lv.length) lc),Res.row AA40 p40.length capp40 50 3 (p40.map Y.c),Res.row A40 g40.length cap40 52 7 (g40.map V.c)]) [] mixed rfl zB ?_
  refine rn [23,0,2,23,1,6,23,2,4,23,3,5,23,4,2,23,5,2,23,6,6,23,7,4,23,8,4,23,9,5,23,10,2] ?_
  refine dq 11 rfl (yZ (z:=c.vis-((pt.take P).length:Nat)) rfl rfl (by have h8:=hok.vis;rw[wi64 (by omega) (by omega)];simp)) ?_
  refine rn [23,12,2,23,13,6,23,14,4,23,15,4,23,16,5,23,17,2,23,18,47] ?_
  refine dq 19 rfl (yZ (z:=c.pays-(p40.length:Nat)) rfl rfl (by have h8:=hok.pays;rw[wi64 (by omega) (by omega)])) ?_
  refine dop 20 rfl (zG _ rfl (fun w1 hw1 ho1=>by have h7:=sweep_any ub (cur) (some ⟨g49,0,none⟩) (g40.length) (g40.length) (g40.map fun v:V=>decide (v.st=5)) ((c.vis-((pt.take P).length:Nat))) ((c.pays-(p40.length:Nat))) w1 ho1 hcur (Rd.ofRow (A:=(some ⟨g49,0,none⟩)) (els:=((g40.map fun v:V=>decide (v.st=5))).map (fun v:Bool=>[Value.bool v])) hw1) (by omega);exact h7) rfl ?_)
  rintro⟨A85,cap85⟩ _
  refine ii ?_
  refine rn [23,21,2,23,22,40,23,23,40,23,24,3,23,25,3,27,7,8,1,2,47,2,0,14] ?_
  refine zH (A:=AA40) ((fullK g40 ((blk/c.elen.toNat:Nat):Int) (g40,p40) (sweepS cur (g40.map fun v:V=>decide (v.st=5)) (c.vis-((pt.take P).length:Nat)) (c.pays-(p40.length:Nat))).2.1 0).2.map Y.c) (by rfl) ?_
  refine yB (A:=AA40) (fullK g40 ((blk/c.elen.toNat:Nat):Int) (g40,p40) (sweepS cur (g40.map fun v:V=>decide (v.st=5)) (c.vis-((pt.take P).length:Nat)) (c.pays-(p40.length:Nat))).2.1 0).2.length (by rfl) ?_
  refine g_val 5 (v' := .slice AA40 (fullK g40 ((blk/c.elen.toNat:Nat):Int) (g40,p40) (sweepS cur (g40.map fun v:V=>decide (v.st=5)) (c.vis-((pt.take P).length:Nat)) (c.pays-(p40.length:Nat))).2.1 0).2.length capp40) rfl (by rfl) ?_
  refine g_lk [0,2,3,4,6,11,88,89] (fun(x:Nat × RG × Option Addr × Nat)=>[(5,.slice x.2.2.1 (fullK g40 ((blk/c.elen.toNat:Nat):Int) (g40,p40) (sweepS cur (g40.map fun v:V=>decide (v.st=5)) (c.vis-((pt.take P).length:Nat)) (c.pays-(p40.length:Nat))).2.1 x.1).2.length x.2.2.2),(90,.int .i64 ((x.1:Nat):Int))]) (fun(x:Nat × RG × Option Addr × Nat)=>[Res.row A85 (sweepS cur (g40.map fun v:V=>decide (v.st=5)) (c.vis-((pt.take P).length:Nat)) (c.pays-(p40.length:Nat))).2.1.length cap85 3 1 ((sweepS cur (g40.map fun v:V=>decide (v.st=5)) (c.vis-((pt.take P).length:Nat)) (c.pays-(p40.length:Nat))).2.1.map (fun v:Int=>[Value.int .i64 v])),Res.row A40 g40.length cap40 52 7 (g40.map V.c),Res.row x.2.2.1 (fullK g40 ((blk/c.elen.toNat:Nat):Int) (g40,p40) (sweepS cur (g40.map fun v:V=>decide (v.st=5)) (c.vis-((pt.take P).length:Nat)) (c.pays-(p40.length:Nat))).2.1 x.1).2.length x.2.2.2 50 3 ((fullK g40 ((blk/c.elen.toNat:Nat):Int) (g40,p40) (sweepS cur (g40.map fun v:V=>decide (v.st=5)) (c.vis-((pt.take P).length:Nat)) (c.pays-(p40.length:Nat))).2.1 x.1).2.map Y.c),Res.blk eb 112 (ECell rb cb lb bb ub mb xb pb gb tb c lA (lv.length) lc),RgB rb x.2.1,RgW x.2.1,Res.im (RG.m x.2.1),CkB cb (blk) (c.elen.toNat),LgB lb (dep) (paid) (burn) (c.supc),CuB ub ((sweepS cur (g40.map fun v:V=>decide (v.st=5)) (c.vis-((pt.take P).length:Nat)) (c.pays-(p40.length:Nat))).1),rB_rq tb g35,rW_rq g35]) (fun(x:Nat × RG × Option Addr × Nat)=>x.1≤(sweepS cur (g40.map fun v:V=>decide (v.st=5)) (c.vis-((pt.take P).length:Nat)) (c.pays-(p40.length:Nat))).2.1.length∧RG.Rep x.2.1∧RG.l x.2.1=(fullK g40 ((blk/c.elen.toNat:Nat):Int) (g40,p40) (sweepS cur (g40.map fun v:V=>decide (v.st=5)) (c.vis-((pt.take P).length:Nat)) (c.pays-(p40.length:Nat))).2.1 x.1).1∧RG.cp x.2.1=RG.cp g46) (fun(x:Nat × RG × Option Addr × Nat)=>(sweepS cur (g40.map fun v:V=>decide (v.st=5)) (c.vis-((pt.take P).length:Nat)) (c.pays-(p40.length:Nat))).2.1.length-x.1) (0,g46,AA40,capp40) (by(try dsimp only);exact⟨Nat.zero_le _,r46,(by rw[l46];rfl),rfl⟩) ?_
  rintro⟨k,g9,pA,pc⟩ ⟨le_k,hr9,hl9,hc9⟩
  replace le_k:k≤(sweepS cur (g40.map fun v:V=>decide (v.st=5)) (c.vis-((pt.take P).length:Nat)) (c.pays-(p40.length:Nat))).2.1.length:=le_k
  replace hr9:RG.Rep g9:=hr9
  replace hl9:RG.l g9=(fullK g40 ((blk/c.elen.toNat:Nat):Int) (g40,p40) (sweepS cur (g40.map fun v:V=>decide (v.st=5)) (c.vis-((pt.take P).length:Nat)) (c.pays-(p40.length:Nat))).2.1 k).1:=hl9
  replace hc9:RG.cp g9=RG.cp g46:=hc9
  refine zV (L' := [Res.row A85 (sweepS cur (g40.map fun v:V=>decide (v.st=5)) (c.vis-((pt.take P).length:Nat)) (c.pays-(p40.length:Nat))).2.1.length cap85 3 1 ((sweepS cur (g40.map fun v:V=>decide (v.st=5)) (c.vis-((pt.take P).length:Nat)) (c.pays-(p40.length:Nat))).2.1.map (fun v:Int=>[Value.int .i64 v])),Res.row A40 g40.length cap40 52 7 (g40.map V.c),Res.row pA (fullK g40 ((blk/c.elen.toNat:Nat):Int) (g40,p40) (sweepS cur (g40.map fun v:V=>decide (v.st=5)) (c.vis-((pt.take P).length:Nat)) (c.pays-(p40.length:Nat))).2.1 k).2.length pc 50 3 ((fullK g40 ((blk/c.elen.toNat:Nat):Int) (g40,p40) (sweepS cur (g40.map fun v:V=>decide (v.st=5)) (c.vis-((pt.take P).length:Nat)) (c.pays-(p40.length:Nat))).2.1 k).2.map Y.c),Res.blk eb 112 (ECell rb cb lb bb ub mb xb pb gb tb c lA (lv.length) lc),RgB rb g9,RgW g9,Res.im (RG.m g9),CkB cb (blk) (c.elen.toNat),LgB lb (dep) (paid) (burn) (c.supc),CuB ub ((sweepS cur (g40.map fun v:V=>decide (v.st=5)) (c.vis-((pt.take P).length:Nat)) (c.pays-(p40.length:Nat))).1),rB_rq tb g35,rW_rq g35]) rfl ?_
  refine g_val 5 (v' := .slice pA (fullK g40 ((blk/c.elen.toNat:Nat):Int) (g40,p40) (sweepS cur (g40.map fun v:V=>decide (v.st=5)) (c.vis-((pt.take P).length:Nat)) (c.pays-(p40.length:Nat))).2.1 k).2.length pc) rfl rfl ?_
  refine g_val 90 (v' := .int .i64 ((k:Nat):Int)) rfl rfl ?_
  obtain⟨ho9,hbs9,hpl9,hhs9⟩:=fullK_ok (ps:=p40) w2_ i5 v1 k
  have hsl9:(sweepS cur (g40.map fun v:V=>decide (v.st=5)) (c.vis-((pt.take P).length:Nat)) (c.pays-(p40.length:Nat))).2.1.length≤g40.length:=vE w2_ fun i hi9=>yM (by have h9:=(i5 i hi9).1;omega)
  simp only[←hl9] at ho9 hbs9 hhs9
  refine rn [1,46,0,8] ?_
  refine zC rfl (fun h2=>?_) (fun h2=>?_)
  ·have lt_k:k<(sweepS cur (g40.map fun v:V=>decide (v.st=5)) (c.vis-((pt.take P).length:Nat)) (c.pays-(p40.length:Nat))).2.1.length:=by have h9:=of_decide_eq_true h2;omega
   obtain⟨j9,hj9,hjr⟩:=w1_ _ (List.getElem_mem lt_k)
   have hj9l:j9<g40.length:=by have h9:=(List.getElem?_eq_some_iff.1 hjr).1;simpa using h9
   obtain⟨h59,hw59⟩:=i5 _ (List.getElem_mem lt_k)
   rw[hj9,yT hj9l] at h59 hw59
   have hv9:VO (gotV g40 (j9:Int)):=v1 _ (decide_eq_true (by omega))
   rw[yT hj9l] at hv9
   have hs9:(fullK g40 ((blk/c.elen.toNat:Nat):Int) (g40,p40) (sweepS cur (g40.map fun v:V=>decide (v.st=5)) (c.vis-((pt.take P).length:Nat)) (c.pays-(p40.length:Nat))).2.1 (k+1))=(setV (fullK g40 ((blk/c.elen.toNat:Nat):Int) (g40,p40) (sweepS cur (g40.map fun v:V=>decide (v.st=5)) (c.vis-((pt.take P).length:Nat)) (c.pays-(p40.length:Nat))).2.1 k).1 (j9:Int) (payV g40[j9] ((blk/c.elen.toNat:Nat):Int)).1,(fullK g40 ((blk/c.elen.toNat:Nat):Int) (g40,p40) (sweepS cur (g40.map fun v:V=>decide (v.st=5)) (c.vis-((pt.take P).length:Nat)) (c.pays-(p40.length:Nat))).2.1 k).2++[(Y.mk (j9:Int) (payV g40[j9] ((blk/c.elen.toNat:Nat):Int)).2.1 true)]):=by rw[fullK_succ lt_k,hj9];unfold fullS;rw[yT hj9l]
   have hh9:hasV (RG.l g9) (j9:Int)=true:=by rw[hhs9];exact decide_eq_true (by omega)
   obtain⟨hoN,hbsN,_,_⟩:=fullK_ok (ps:=p40) w2_ i5 v1 (k+1)
   rw[hs9] at hoN hbsN
   have hchg:=rY (l:=RG.l g9) (i:=(j9:Int)) (v:=(payV g40[j9] ((blk/c.elen.toNat:Nat):Int)).1) (by rw[xI hh9,hl9];exact hoN) (by rw[xI hh9,hl9];exact Int.le_trans hbsN hs40) hh9
   have hbl9:=uU v1 (decide_eq_true (show 0≤(j9:Int)∧(j9:Int)<(g40.length:Int) by omega))
   rw[yT hj9l] at hbl9
   refine rn [12,7,8,14,1] ?_
   refine s_q (zP (i:=k) rfl rfl rfl (ird (A:=A85)) (by first|exact lt_k|omega)) rfl ?_
   refine s_q (yI (i:=k) (o:=0) rfl (ird (A:=A85)) (zR (by first|assumption|omega|(simp_all;done)|(simp_all;omega))) rfl rfl) rfl ?_
   refine g_val 93 (v' := .int .i64 ((j9:Nat):Int)) rfl (by rw[hj9]) ?_
   refine rn [3,0,8] ?_
   refine dreg [15] mixed rfl ?_
   refine rn [23,0,2,23,1,2] ?_
   refine dq 2 rfl (zP (i:=j9) rfl rfl rfl (InRow.rdb (A:=A40) (els:=(g40).map V.c) (by first|(rw[List.length_map];done)|(rw[List.length_map];exact hgl.symm)) (zW (c:=V.c) (fun _=>rfl) _)) (by first|omega|(simp;done)|(simp;omega))) ?_
   refine dq 3 rfl (zS (i:=j9) rfl (InRow.rdb (A:=A40) (els:=(g40).map V.c) (by first|(rw[List.length_map];done)|(rw[List.length_map];exact hgl.symm)) (zW (c:=V.c) (fun _=>rfl) _)) (zR (by first|assumption|omega|(simp_all;done)|(simp_all;omega))) rfl) ?_
   refine rn [23,4,2,23,5,6,23,6,4,23,7,5] ?_
   refine yG [8,14] (by kernel_rfl) (by simp) zB ⟨dpick rfl (zL _ rfl (fun w1 hw1 ho1=>by exact zY cb blk c.elen.toNat w1 ho1 (by omega) hel) rfl ?_),dpick rfl (zK rfl fun b14=>?_),trivial⟩
   ·refine yG [9,14] (by kernel_rfl) (by simp) zB ⟨dpick rfl (zI rfl (fun w1 hw1=>pay_any9 _ ((((blk/c.elen.toNat):Nat):Int)) w1 (hv9.i64 (by omega))) rfl ?_),dpick rfl (zK rfl fun b14=>?_),trivial⟩
    ·refine rn [23,10,2,23,11,40,24,12,40,24,13,40] ?_
     refine dop 14 rfl (zK rfl fun b14=>?_)
     refine dop 15 rfl (zQ rfl rfl rfl rfl rfl ?_)
     refine rn [24,16,3,24,17,3,28,7,8] ?_
     refine dregL (L0:=[Res.blk eb 112 (ECell rb cb lb bb ub mb xb pb gb tb c lA (lv.length) lc),Res.blk b14 52 (V.c (payV g40[j9] ((blk/c.elen.toNat:Nat):Int)).1)]) [] mixed rfl zB ?_
     refine rn [23,0,2,23,1,6,23,2,4] ?_
     refine dq 3 rfl (yQ (c' := [Value.pointer (some ⟨rb,0,none⟩)]) rfl rfl rfl) ?_
     refine rn [23,4,2,23,5,45] ?_
     refine dop 6 rfl (zG _ rfl (fun w1 hw1 ho1=>by have h7:=xD rb g9 (((j9:Nat):Int)) ((payV (g40)[j9] (((blk/c.elen.toNat):Nat):Int)).1) w1 ho1 hr9 hchg.1 hchg.2;exact h7) rfl ?_)
     rintro g114 ⟨r114,l114,c114⟩
     refine ii ?_
     refine rn [27,7,10,2,2,2,49] ?_
     refine g_op (g_lit rfl rfl rfl rfl rfl fun b119=>?_)
     refine zF (b:=b119) ((([(Y.mk (j9:Int) (payV g40[j9] ((blk/c.elen.toNat:Nat):Int)).2.1 true)]:List Y).map Y.c).flatten) rfl ?_
     refine g_op (zZ (A:=pA) (els:=((fullK g40 ((blk/c.elen.toNat:Nat):Int) (g40,p40) (sweepS cur (g40.map fun v:V=>decide (v.st=5)) (c.vis-((pt.take P).length:Nat)) (c.pays-(p40.length:Nat))).2.1 k).2).map Y.c) (news:=(([(Y.mk (j9:Int) (payV g40[j9] ((blk/c.elen.toNat:Nat):Int)).2.1 true)]:List Y).map Y.c)) rfl rfl (InL.rdb (b:=b119) rfl (by simp[Y.c]) rfl) (yF (c:=Y.c) (by intro x;simp[Y.c,Value.oneCell']) _) (by first|omega|(simp;omega)|(simp_all;omega)) rfl fun A120 cap120=>⟨_,inferInstance,?_⟩)
     refine zH (A:=A120) ((((fullK g40 ((blk/c.elen.toNat:Nat):Int) (g40,p40) (sweepS cur (g40.map fun v:V=>decide (v.st=5)) (c.vis-((pt.take P).length:Nat)) (c.pays-(p40.length:Nat))).2.1 k).2++[(Y.mk (j9:Int) (payV g40[j9] ((blk/c.elen.toNat:Nat):Int)).2.1 true)])).map Y.c) (by first|rfl|exact List.map_append.symm|(simp;done)) ?_
     refine rn [3,9,15,7,10,43,2,9] ?_
     refine zH (A:=A120) ((fullK g40 ((blk/c.elen.toNat:Nat):Int) (g40,p40) (sweepS cur (g40.map fun v:V=>decide (v.st=5)) (c.vis-((pt.take P).length:Nat)) (c.pays-(p40.length:Nat))).2.1 (k+1)).2.map Y.c) (by rw[hs9]) ?_
     refine yB (A:=A120) (fullK g40 ((blk/c.elen.toNat:Nat):Int) (g40,p40) (sweepS cur (g40.map fun v:V=>decide (v.st=5)) (c.vis-((pt.take P).length:Nat)) (c.pays-(p40.length:Nat))).2.1 (k+1)).2.length (by rw[hs9];simp) ?_
     refine g_val 5 (v' := .slice A120 (fullK g40 ((blk/c.elen.toNat:Nat):Int) (g40,p40) (sweepS cur (g40.map fun v:V=>decide (v.st=5)) (c.vis-((pt.take P).length:Nat)) (c.pays-(p40.length:Nat))).2.1 (k+1)).2.length cap120) rfl (by rw[hs9];simp) ?_
     exact g_ag ((k+1),g114,A120,cap120) (by(try dsimp only);exact⟨(by first|exact lt_k|omega),r114,(by rw[hs9];show _=setV _ _ _;rw[l114,hl9]),(by rw[c114];exact hc9)⟩)
    ·refine dop 9 rfl (zI rfl (fun w1 hw1=>pay_any9 _ ((((blk/c.elen.toNat):Nat):Int)) w1 (hv9.i64 (by omega))) rfl ?_)
     refine rn [23,10,2,23,11,40,24,12,40,24,13,40] ?_
     refine dop 15 rfl (zQ rfl rfl rfl rfl rfl ?_)
     refine rn [24,16,3,24,17,3,28,7,8] ?_
     refine dregL (L0:=[Res.blk eb 112 (ECell rb cb lb bb ub mb xb pb gb tb c lA (lv.length) lc),Res.blk b14 52 (V.c (payV g40[j9] ((blk/c.elen.toNat:Nat):Int)).1)]) [] mixed rfl zB ?_
     refine rn [23,0,2,23,1,6,23,2,4] ?_
     refine dq 3 rfl (yQ (c' := [Value.pointer (some ⟨rb,0,none⟩)]) rfl rfl rfl) ?_
     refine rn [23,4,2,23,5,45] ?_
     refine dop 6 rfl (zG _ rfl (fun w1 hw1 ho1=>by have h7:=xD rb g9 (((j9:Nat):Int)) ((payV (g40)[j9] (((blk/c.elen.toNat):Nat):Int)).1) w1 ho1 hr9 hchg.1 hchg.2;exact h7) rfl ?_)
     rintro g114 ⟨r114,l114,c114⟩
     refine ii ?_
     refine rn [27,7,10,2,2,2,49] ?_
     refine g_op (g_lit rfl rfl rfl rfl rfl fun b119=>?_)
     refine zF (b:=b119) ((([(Y.mk (j9:Int) (payV g40[j9] ((blk/c.elen.toNat:Nat):Int)).2.1 true)]:List Y).map Y.c).flatten) rfl ?_
     refine g_op (zZ (A:=pA) (els:=((fullK g40 ((blk/c.elen.toNat:Nat):Int) (g40,p40) (sweepS cur (g40.map fun v:V=>decide (v.st=5)) (c.vis-((pt.take P).length:Nat)) (c.pays-(p40.length:Nat))).2.1 k).2).map Y.c) (news:=(([(Y.mk (j9:Int) (payV g40[j9] ((blk/c.elen.toNat:Nat):Int)).2.1 true)]:List Y).map Y.c)) rfl rfl (InL.rdb (b:=b119) rfl (by simp[Y.c]) rfl) (yF (c:=Y.c) (by intro x;simp[Y.c,Value.oneCell']) _) (by first|omega|(simp;omega)|(simp_all;omega)) rfl fun A120 cap120=>⟨_,inferInstance,?_⟩)
     refine zH (A:=A120) ((((fullK g40 ((blk/c.elen.toNat:Nat):Int) (g40,p40) (sweepS cur (g40.map fun v:V=>decide (v.st=5)) (c.vis-((pt.take P).length:Nat)) (c.pays-(p40.length:Nat))).2.1 k).2++[(Y.mk (j9:Int) (payV g40[j9] ((blk/c.elen.toNat:Nat):Int)).2.1 true)])).map Y.c) (by first|rfl|exact List.map_append.symm|(simp;done)) ?_
     refine rn [3,9,15,7,10,43,2,9] ?_
     refine zH (A:=A120) ((fullK g40 ((blk/c.elen.toNat:Nat):Int) (g40,p40) (sweepS cur (g40.map fun v:V=>decide (v.st=5)) (c.vis-((pt.take P).length:Nat)) (c.pays-(p40.length:Nat))).2.1 (k+1)).2.map Y.c) (by rw[hs9]) ?_
     refine yB (A:=A120) (fullK g40 ((blk/c.elen.toNat:Nat):Int) (g40,p40) (sweepS cur (g40.map fun v:V=>decide (v.st=5)) (c.vis-((pt.take P).length:Nat)) (c.pays-(p40.length:Nat))).2.1 (k+1)).2.length (by rw[hs9];simp) ?_
     refine g_val 5 (v' := .slice A120 (fullK g40 ((blk/c.elen.toNat:Nat):Int) (g40,p40) (sweepS cur (g40.map fun v:V=>decide (v.st=5)) (c.vis-((pt.take P).length:Nat)) (c.pays-(p40.length:Nat))).2.1 (k+1)).2.length cap120) rfl (by rw[hs9];simp) ?_
     exact g_ag ((k+1),g114,A120,cap120) (by(try dsimp only);exact⟨(by first|exact lt_k|omega),r114,(by rw[hs9];show _=setV _ _ _;rw[l114,hl9]),(by rw[c114];exact hc9)⟩)
   ·refine dop 8 rfl (zL _ rfl (fun w1 hw1 ho1=>by exact zY cb blk c.elen.toNat w1 ho1 (by omega) hel) rfl ?_)
    refine dop 9 rfl (zI rfl (fun w1 hw1=>pay_any9 _ ((((blk/c.elen.toNat):Nat):Int)) w1 (hv9.i64 (by omega))) rfl ?_)
    refine rn [23,10,2,23,11,40,24,12,40,24,13,40] ?_
    refine dop 15 rfl (zQ rfl rfl rfl rfl rfl ?_)
    refine rn [24,16,3,24,17,3,28,7,8] ?_
    refine dregL (L0:=[Res.blk eb 112 (ECell rb cb lb bb ub mb xb pb gb tb c lA (lv.length) lc),Res.blk b14 52 (V.c (payV g40[j9] ((blk/c.elen.toNat:Nat):Int)).1)]) [] mixed rfl zB ?_
    refine rn [23,0,2,23,1,6,23,2,4] ?_
    refine dq 3 rfl (yQ (c' := [Value.pointer (some ⟨rb,0,none⟩)]) rfl rfl rfl) ?_
    refine rn [23,4,2,23,5,45] ?_
    refine dop 6 rfl (zG _ rfl (fun w1 hw1 ho1=>by have h7:=xD rb g9 (((j9:Nat):Int)) ((payV (g40)[j9] (((blk/c.elen.toNat):Nat):Int)).1) w1 ho1 hr9 hchg.1 hchg.2;exact h7) rfl ?_)
    rintro g114 ⟨r114,l114,c114⟩
    refine ii ?_
    refine rn [27,7,10,2,2,2,49] ?_
    refine g_op (g_lit rfl rfl rfl rfl rfl fun b119=>?_)
    refine zF (b:=b119) ((([(Y.mk (j9:Int) (payV g40[j9] ((blk/c.elen.toNat:Nat):Int)).2.1 true)]:List Y).map Y.c).flatten) rfl ?_
    refine g_op (zZ (A:=pA) (els:=((fullK g40 ((blk/c.elen.toNat:Nat):Int) (g40,p40) (sweepS cur (g40.map fun v:V=>decide (v.st=5)) (c.vis-((pt.take P).length:Nat)) (c.pays-(p40.length:Nat))).2.1 k).2).map Y.c) (news:=(([(Y.mk (j9:Int) (payV g40[j9] ((blk/c.elen.toNat:Nat):Int)).2.1 true)]:List Y).map Y.c)) rfl rfl (InL.rdb (b:=b119) rfl (by simp[Y.c]) rfl) (yF (c:=Y.c) (by intro x;simp[Y.c,Value.oneCell']) _) (by first|omega|(simp;omega)|(simp_all;omega)) rfl fun A120 cap120=>⟨_,inferInstance,?_⟩)
    refine zH (A:=A120) ((((fullK g40 ((blk/c.elen.toNat:Nat):Int) (g40,p40) (sweepS cur (g40.map fun v:V=>decide (v.st=5)) (c.vis-((pt.take P).length:Nat)) (c.pays-(p40.length:Nat))).2.1 k).2++[(Y.mk (j9:Int) (payV g40[j9] ((blk/c.elen.toNat:Nat):Int)).2.1 true)])).map Y.c) (by first|rfl|exact List.map_append.symm|(simp;done)) ?_
    refine rn [3,9,15,7,10,43,2,9] ?_
    refine zH (A:=A120) ((fullK g40 ((blk/c.elen.toNat:Nat):Int) (g40,p40) (sweepS cur (g40.map fun v:V=>decide (v.st=5)) (c.vis-((pt.take P).length:Nat)) (c.pays-(p40.length:Nat))).2.1 (k+1)).2.map Y.c) (by rw[hs9]) ?_
    refine yB (A:=A120) (fullK g40 ((blk/c.elen.toNat:Nat):Int) (g40,p40) (sweepS cur (g40.map fun v:V=>decide (v.st=5)) (c.vis-((pt.take P).length:Nat)) (c.pays-(p40.length:Nat))).2.1 (k+1)).2.length (by rw[hs9];simp) ?_
    refine g_val 5 (v' := .slice A120 (fullK g40 ((blk/c.elen.toNat:Nat):Int) (g40,p40) (sweepS cur (g40.map fun v:V=>decide (v.st=5)) (c.vis-((pt.take P).length:Nat)) (c.pays-(p40.length:Nat))).2.1 (k+1)).2.length cap120) rfl (by rw[hs9];simp) ?_
    exact g_ag ((k+1),g114,A120,cap120) (by(try dsimp only);exact⟨(by first|exact lt_k|omega),r114,(by rw[hs9];show _=setV _ _ _;rw[l114,hl9]),(by rw[c114];exact hc9)⟩)
  ·have eq_k:k=(sweepS cur (g40.map fun v:V=>decide (v.st=5)) (c.vis-((pt.take P).length:Nat)) (c.pays-(p40.length:Nat))).2.1.length:=by have h9:=of_decide_eq_false h2;omega
   subst eq_k
   have hmd:(sweepS cur (g40.map fun v:V=>decide (v.st=5)) (c.vis-((pt.take P).length:Nat)) (c.pays-(p40.length:Nat))).2.2≤4096:=by have h9:=sweep_made cur (g40.map fun v:V=>decide (v.st=5)) (c.vis-((pt.take P).length:Nat)) (c.pays-(p40.length:Nat));simp only[List.length_map] at h9;omega
   refine rn [16] ?_
   refine zD (zD (zN ?_))
   refine rn [7,8,1,2,47,2,0,14] ?_
   have hledz:(ledK dep burn paid (fullK g40 ((blk/c.elen.toNat:Nat):Int) (g40,p40) (sweepS cur (g40.map fun v:V=>decide (v.st=5)) (c.vis-((pt.take P).length:Nat)) (c.pays-(p40.length:Nat))).2.1 (sweepS cur (g40.map fun v:V=>decide (v.st=5)) (c.vis-((pt.take P).length:Nat)) (c.pays-(p40.length:Nat))).2.1.length).2 0)=paid:=rfl
   refine zF (b:=lb) [Value.int .u64 dep,Value.int .u64 (ledK dep burn paid (fullK g40 ((blk/c.elen.toNat:Nat):Int) (g40,p40) (sweepS cur (g40.map fun v:V=>decide (v.st=5)) (c.vis-((pt.take P).length:Nat)) (c.pays-(p40.length:Nat))).2.1 (sweepS cur (g40.map fun v:V=>decide (v.st=5)) (c.vis-((pt.take P).length:Nat)) (c.pays-(p40.length:Nat))).2.1.length).2 0),Value.int .u64 burn,Value.int .u64 c.supc] (by rfl) ?_
   obtain⟨z1,z2,z3,z4⟩:=uC (l0:=g40) (e:=((blk/c.elen.toNat:Nat):Int)) (sweepS cur (g40.map fun v:V=>decide (v.st=5)) (c.vis-((pt.take P).length:Nat)) (c.pays-(p40.length:Nat))).2.1 g40 p40 w2_ (fun i hi9=>⟨(i5 i hi9).1,(i5 i hi9).2,rfl⟩)
   rw[←fullK_end] at z1 z2 z3 z4
   have hp40A:sumA p40=sumA (run c (RG.l g) (pt.take P)).2:=by rw[hp40];exact sumA_pos _
   have pnn:∀y9∈(fullK g40 ((blk/c.elen.toNat:Nat):Int) (g40,p40) (sweepS cur (g40.map fun v:V=>decide (v.st=5)) (c.vis-((pt.take P).length:Nat)) (c.pays-(p40.length:Nat))).2.1 (sweepS cur (g40.map fun v:V=>decide (v.st=5)) (c.vis-((pt.take P).length:Nat)) (c.pays-(p40.length:Nat))).2.1.length).2,0≤y9.a:=fun y9 hy9=>by
     rw[z3] at hy9
     rcases List.mem_append.1 hy9 with hy9|hy9
     · rw[hp40] at hy9;exact(p1 y9 (List.mem_filter.1 hy9).1).1
     · obtain⟨i9,hi9,rfl⟩:=List.mem_map.1 hy9
       exact(v1 i9 (yM (by have h9:=(i5 i9 hi9).1;omega))).b
   have hlf:0≤(bals (fullK g40 ((blk/c.elen.toNat:Nat):Int) (g40,p40) (sweepS cur (g40.map fun v:V=>decide (v.st=5)) (c.vis-((pt.take P).length:Nat)) (c.pays-(p40.length:Nat))).2.1 (sweepS cur (g40.map fun v:V=>decide (v.st=5)) (c.vis-((pt.take P).length:Nat)) (c.pays-(p40.length:Nat))).2.1.length).1).sum:=xF fun z hz=>by
     obtain⟨v9,hv9,rfl⟩:=List.mem_map.1 hz
     rw[←hl9] at hv9;exact(hr9.ok v9 hv9).bal.1
   have hpm:∀y9∈(fullK g40 ((blk/c.elen.toNat:Nat):Int) (g40,p40) (sweepS cur (g40.map fun v:V=>decide (v.st=5)) (c.vis-((pt.take P).length:Nat)) (c.pays-(p40.length:Nat))).2.1 (sweepS cur (g40.map fun v:V=>decide (v.st=5)) (c.vis-((pt.take P).length:Nat)) (c.pays-(p40.length:Nat))).2.1.length).2,y9.a≤18446744073709551615:=fun y9 hy9=>by
     have h9:=mem_sumA pnn y9 hy9;have h8:=hg.mx;unfold bals at s1_ z4 hlf;omega
   have hfl:(fullK g40 ((blk/c.elen.toNat:Nat):Int) (g40,p40) (sweepS cur (g40.map fun v:V=>decide (v.st=5)) (c.vis-((pt.take P).length:Nat)) (c.pays-(p40.length:Nat))).2.1 (sweepS cur (g40.map fun v:V=>decide (v.st=5)) (c.vis-((pt.take P).length:Nat)) (c.pays-(p40.length:Nat))).2.1.length).2.length≤10000:=by rw[z3];simp only[List.length_append,List.length_map];have h9:(sweepS cur (g40.map fun v:V=>decide (v.st=5)) (c.vis-((pt.take P).length:Nat)) (c.pays-(p40.length:Nat))).2.1.length≤g40.length:=vE w2_ (fun i hi9=>yM (by have h9:=(i5 i hi9).1;omega));omega
   refine g_lk [0,2,3,5,6,11,122,123] (fun(x:Nat)=>[(124,.int .i64 ((x:Nat):Int))]) (fun(x:Nat)=>[Res.row pA (fullK g40 ((blk/c.elen.toNat:Nat):Int) (g40,p40) (sweepS cur (g40.map fun v:V=>decide (v.st=5)) (c.vis-((pt.take P).length:Nat)) (c.pays-(p40.length:Nat))).2.1 (sweepS cur (g40.map fun v:V=>decide (v.st=5)) (c.vis-((pt.take P).length:Nat)) (c.pays-(p40.length:Nat))).2.1.length).2.length pc 50 3 ((fullK g40 ((blk/c.elen.toNat:Nat):Int) (g40,p40) (sweepS cur (g40.map fun v:V=>decide (v.st=5)) (c.vis-((pt.take P).length:Nat)) (c.pays-(p40.length:Nat))).2.1 (sweepS cur (g40.map fun v:V=>decide (v.st=5)) (c.vis-((pt.take P).length:Nat)) (c.pays-(p40.length:Nat))).2.1.length).2.map Y.c),Res.blk eb 112 (ECell rb cb lb bb ub mb xb pb gb tb c lA (lv.length) lc),RgB rb g9,RgW g9,Res.im (RG.m g9),CkB cb (blk) (c.elen.toNat),LgB lb (dep) ((ledK dep burn paid (fullK g40 ((blk/c.elen.toNat:Nat):Int) (g40,p40) (sweepS cur (g40.map fun v:V=>decide (v.st=5)) (c.vis-((pt.take P).length:Nat)) (c.pays-(p40.length:Nat))).2.1 (sweepS cur (g40.map fun v:V=>decide (v.st=5)) (c.vis-((pt.take P).length:Nat)) (c.pays-(p40.length:Nat))).2.1.length).2 x)) (burn) (c.supc),CuB ub ((sweepS cur (g40.map fun v:V=>decide (v.st=5)) (c.vis-((pt.take P).length:Nat)) (c.pays-(p40.length:Nat))).1),rB_rq tb g35,rW_rq g35]) (fun(x:Nat)=>x≤(fullK g40 ((blk/c.elen.toNat:Nat):Int) (g40,p40) (sweepS cur (g40.map fun v:V=>decide (v.st=5)) (c.vis-((pt.take P).length:Nat)) (c.pays-(p40.length:Nat))).2.1 (sweepS cur (g40.map fun v:V=>decide (v.st=5)) (c.vis-((pt.take P).length:Nat)) (c.pays-(p40.length:Nat))).2.1.length).2.length) (fun(x:Nat)=>(fullK g40 ((blk/c.elen.toNat:Nat):Int) (g40,p40) (sweepS cur (g40.map fun v:V=>decide (v.st=5)) (c.vis-((pt.take P).length:Nat)) (c.pays-(p40.length:Nat))).2.1 (sweepS cur (g40.map fun v:V=>decide (v.st=5)) (c.vis-((pt.take P).length:Nat)) (c.pays-(p40.length:Nat))).2.1.length).2.length-x) 0 (by(try dsimp only);exact Nat.zero_le _) ?_
   rintro k le_k
   replace le_k:k≤(fullK g40 ((blk/c.elen.toNat:Nat):Int) (g40,p40) (sweepS cur (g40.map fun v:V=>decide (v.st=5)) (c.vis-((pt.take P).length:Nat)) (c.pays-(p40.length:Nat))).2.1 (sweepS cur (g40.map fun v:V=>decide (v.st=5)) (c.vis-((pt.take P).length:Nat)) (c.pays-(p40.length:Nat))).2.1.length).2.length:=le_k
   have hlk9:LOk c.supc dep (ledK dep burn paid (fullK g40 ((blk/c.elen.toNat:Nat):Int) (g40,p40) (sweepS cur (g40.map fun v:V=>decide (v.st=5)) (c.vis-((pt.take P).length:Nat)) (c.pays-(p40.length:Nat))).2.1 (sweepS cur (g40.map fun v:V=>decide (v.st=5)) (c.vis-((pt.take P).length:Nat)) (c.pays-(p40.length:Nat))).2.1.length).2 k) burn:=ledK_ok hled pnn k
   refine rn [1,46,0,8] ?_
   refine zC rfl (fun h3=>?_) (fun h3=>?_)
   ·have lt_k:k<(fullK g40 ((blk/c.elen.toNat:Nat):Int) (g40,p40) (sweepS cur (g40.map fun v:V=>decide (v.st=5)) (c.vis-((pt.take P).length:Nat)) (c.pays-(p40.length:Nat))).2.1 (sweepS cur (g40.map fun v:V=>decide (v.st=5)) (c.vis-((pt.take P).length:Nat)) (c.pays-(p40.length:Nat))).2.1.length).2.length:=by have h9:=of_decide_eq_true h3;omega
    refine rn [12,7,8,14,1] ?_
    refine s_q (zP (i:=k) rfl rfl rfl (ird (A:=pA)) (by first|exact lt_k|omega)) rfl ?_
    refine s_q (zS (i:=k) rfl (ird (A:=pA)) (zR (by first|assumption|omega|(simp_all;done)|(simp_all;omega))) rfl) rfl ?_
    refine g_op (zK rfl fun b18=>?_)
    refine rn [33,0] ?_
    refine dregL (L0:=[Res.blk eb 112 (ECell rb cb lb bb ub mb xb pb gb tb c lA (lv.length) lc),Res.blk b18 50 (Y.c (fullK g40 ((blk/c.elen.toNat:Nat):Int) (g40,p40) (sweepS cur (g40.map fun v:V=>decide (v.st=5)) (c.vis-((pt.take P).length:Nat)) (c.pays-(p40.length:Nat))).2.1 (sweepS cur (g40.map fun v:V=>decide (v.st=5)) (c.vis-((pt.take P).length:Nat)) (c.pays-(p40.length:Nat))).2.1.length).2[k])]) [] mixed rfl zB ?_
    refine rn [23,0,2,23,1,6,23,2,4,23,3,5,23,4,4,23,5,5] ?_
    refine dop 6 rfl (zG _ rfl (fun w1 hw1 ho1=>by have h7:=lpaid_any lb dep (ledK dep burn paid (fullK g40 ((blk/c.elen.toNat:Nat):Int) (g40,p40) (sweepS cur (g40.map fun v:V=>decide (v.st=5)) (c.vis-((pt.take P).length:Nat)) (c.pays-(p40.length:Nat))).2.1 (sweepS cur (g40.map fun v:V=>decide (v.st=5)) (c.vis-((pt.take P).length:Nat)) (c.pays-(p40.length:Nat))).2.1.length).2 k) burn c.supc ((((fullK g40 ((blk/c.elen.toNat:Nat):Int) (g40,p40) (sweepS cur (g40.map fun v:V=>decide (v.st=5)) (c.vis-((pt.take P).length:Nat)) (c.pays-(p40.length:Nat))).2.1 (sweepS cur (g40.map fun v:V=>decide (v.st=5)) (c.vis-((pt.take P).length:Nat)) (c.pays-(p40.length:Nat))).2.1.length).2)[k]).a) w1 ho1 hlk9 ⟨pnn _ (List.getElem_mem lt_k),hpm _ (List.getElem_mem lt_k)⟩;exact h7) rfl ?_)
    rintro⟨⟩ _
    refine ii ?_
    refine rn [27,15,7,10,43,2,9] ?_
    refine zF (b:=lb) [Value.int .u64 dep,Value.int .u64 (ledK dep burn paid (fullK g40 ((blk/c.elen.toNat:Nat):Int) (g40,p40) (sweepS cur (g40.map fun v:V=>decide (v.st=5)) (c.vis-((pt.take P).length:Nat)) (c.pays-(p40.length:Nat))).2.1 (sweepS cur (g40.map fun v:V=>decide (v.st=5)) (c.vis-((pt.take P).length:Nat)) (c.pays-(p40.length:Nat))).2.1.length).2 (k+1)),Value.int .u64 burn,Value.int .u64 c.supc] (by rw[ledK_succ lt_k];rfl) ?_
    exact g_ag (k+1) (by(try dsimp only);exact(by first|exact lt_k|omega))
   ·have eq_k:k=(fullK g40 ((blk/c.elen.toNat:Nat):Int) (g40,p40) (sweepS cur (g40.map fun v:V=>decide (v.st=5)) (c.vis-((pt.take P).length:Nat)) (c.pays-(p40.length:Nat))).2.1 (sweepS cur (g40.map fun v:V=>decide (v.st=5)) (c.vis-((pt.take P).length:Nat)) (c.pays-(p40.length:Nat))).2.1.length).2.length:=by have h9:=of_decide_eq_false h3;omega
    refine rn [16] ?_
    refine zD (zD (zN ?_))
    refine rn [7,1,2,2,2] ?_
    refine s_q (vQ (a:=(min (pt.take P).length P)) (b:=(sweepS cur (g40.map fun v:V=>decide (v.st=5)) ((c.vis-((pt.take P).length:Nat))) ((c.pays-(p40.length:Nat)))).2.2) rfl rfl (by first|omega|(simp;omega)|(simp_all;omega))) rfl ?_
    refine rn [3,3,0,11] ?_
    subst eq_k
    have hB:(paysE (Eg.mk c blk (RG.l g) dep paid burn bo lv cur m q pend mg pt))=((Eg.mk c blk (fullK g40 ((blk/c.elen.toNat:Nat):Int) (g40,p40) (sweepS cur (g40.map fun v:V=>decide (v.st=5)) (c.vis-((pt.take P).length:Nat)) (c.pays-(p40.length:Nat))).2.1 (sweepS cur (g40.map fun v:V=>decide (v.st=5)) (c.vis-((pt.take P).length:Nat)) (c.pays-(p40.length:Nat))).2.1.length).1 dep (ledK dep burn paid (fullK g40 ((blk/c.elen.toNat:Nat):Int) (g40,p40) (sweepS cur (g40.map fun v:V=>decide (v.st=5)) (c.vis-((pt.take P).length:Nat)) (c.pays-(p40.length:Nat))).2.1 (sweepS cur (g40.map fun v:V=>decide (v.st=5)) (c.vis-((pt.take P).length:Nat)) (c.pays-(p40.length:Nat))).2.1.length).2 (fullK g40 ((blk/c.elen.toNat:Nat):Int) (g40,p40) (sweepS cur (g40.map fun v:V=>decide (v.st=5)) (c.vis-((pt.take P).length:Nat)) (c.pays-(p40.length:Nat))).2.1 (sweepS cur (g40.map fun v:V=>decide (v.st=5)) (c.vis-((pt.take P).length:Nat)) (c.pays-(p40.length:Nat))).2.1.length).2.length) burn bo lv (sweepS cur (g40.map fun v:V=>decide (v.st=5)) (c.vis-((pt.take P).length:Nat)) (c.pays-(p40.length:Nat))).1 m q pend mg (pt.drop (pt.take P).length)),(fullK g40 ((blk/c.elen.toNat:Nat):Int) (g40,p40) (sweepS cur (g40.map fun v:V=>decide (v.st=5)) (c.vis-((pt.take P).length:Nat)) (c.pays-(p40.length:Nat))).2.1 (sweepS cur (g40.map fun v:V=>decide (v.st=5)) (c.vis-((pt.take P).length:Nat)) (c.pays-(p40.length:Nat))).2.1.length).2,(pt.take P).length+(sweepS cur (g40.map fun v:V=>decide (v.st=5)) (c.vis-((pt.take P).length:Nat)) (c.pays-(p40.length:Nat))).2.2):=by
      have hPn:c.parts.toNat=P:=by omega
      unfold paysE Eg.ep;dsimp only;rw[hPn,←hg40,←hp40,fullK_end,ledK_end]
    exact fin2 rfl (.tmp rfl) (.tmp rfl) (fun w' hw' => ⟨(g9,pA,pc,g35),(by(rw[hB];exact⟨hr9,hl9,by rw[hc9,c46],r35,by rw[s35];exact sgt⟩)),by rw[hB];simp,by have h9:=zB (L' := [Res.row pA (fullK g40 ((blk/c.elen.toNat:Nat):Int) (g40,p40) (sweepS cur (g40.map fun v:V=>decide (v.st=5)) (c.vis-((pt.take P).length:Nat)) (c.pays-(p40.length:Nat))).2.1 (sweepS cur (g40.map fun v:V=>decide (v.st=5)) (c.vis-((pt.take P).length:Nat)) (c.pays-(p40.length:Nat))).2.1.length).2.length pc 50 3 ((fullK g40 ((blk/c.elen.toNat:Nat):Int) (g40,p40) (sweepS cur (g40.map fun v:V=>decide (v.st=5)) (c.vis-((pt.take P).length:Nat)) (c.pays-(p40.length:Nat))).2.1 (sweepS cur (g40.map fun v:V=>decide (v.st=5)) (c.vis-((pt.take P).length:Nat)) (c.pays-(p40.length:Nat))).2.1.length).2.map Y.c),Res.blk eb 112 (ECell rb cb lb bb ub mb xb pb gb tb c lA (lv.length) lc),RgB rb g9,RgW g9,Res.im (RG.m g9),CkB cb (blk) (c.elen.toNat),LgB lb (dep) ((ledK dep burn paid (fullK g40 ((blk/c.elen.toNat:Nat):Int) (g40,p40) (sweepS cur (g40.map fun v:V=>decide (v.st=5)) (c.vis-((pt.take P).length:Nat)) (c.pays-(p40.length:Nat))).2.1 (sweepS cur (g40.map fun v:V=>decide (v.st=5)) (c.vis-((pt.take P).length:Nat)) (c.pays-(p40.length:Nat))).2.1.length).2 (fullK g40 ((blk/c.elen.toNat:Nat):Int) (g40,p40) (sweepS cur (g40.map fun v:V=>decide (v.st=5)) (c.vis-((pt.take P).length:Nat)) (c.pays-(p40.length:Nat))).2.1 (sweepS cur (g40.map fun v:V=>decide (v.st=5)) (c.vis-((pt.take P).length:Nat)) (c.pays-(p40.length:Nat))).2.1.length).2.length)) (burn) (c.supc),CuB ub ((sweepS cur (g40.map fun v:V=>decide (v.st=5)) (c.vis-((pt.take P).length:Nat)) (c.pays-(p40.length:Nat))).1),rB_rq tb g35,rW_rq g35]) w' hw';rw[hB];exact h9⟩) _ (.inl rfl)
end Go.Proofs.YtdddiilocbbkkaaGreat
