/- TopDrains: for every configuration and all operations the law returns true. No condition. Part 16 of 28. -/
import Derived.Test.YtdddiilocbbkkaaGreatTD15
set_option linter.unusedVariables false
set_option linter.unusedSimpArgs false
namespace Go.Proofs.YtdddiilocbbkkaaGreat
open Go.RowKit Go.Eg
set_option maxHeartbeats 4000000
set_option synthInstance.maxSize 3000
set_option maxRecDepth 100000
def asV (e:Int) (c:C) (v:V):V:={ v with ex:=e,wd:=max v.wd (e+c.unb) }
theorem asn_eq {v:V} {e:Int} {c:C} (h3:v.st=3) (hx:v.ex=-1) (he:0≤e) (hu:0≤c.unb) (hb:e+c.unb≤1099511627776):asnV v e c=(asV e c v,0):=by
 have hl:latB [e,c.unb]=true:=by
  unfold latB
  refine decide_eq_true ⟨fun x hx=>?_,by simpa using hb⟩
  simp at hx;rcases hx with rfl|rfl<;>assumption
 have hv:latV [e,c.unb]=e+c.unb:=by unfold latV;rw[if_pos hl];simp
 unfold asnV asV
 rw[if_neg (by omega),if_neg (by rw[hl];simp),hv]
theorem asg_fold {e:Int} {c:C} (he:0≤e) (hu:0≤c.unb) (hb:e+c.unb≤1099511627776):∀(ag:List As) (l:List V) (bo:List En) (lv:List Int),(∀a∈ag,a.e=e∧(gotV l a.i).st=3∧(gotV l a.i).ex=-1)→(ag.map As.i).Nodup→(∀j,(gotV l j).wd≤1099511627776) →
  (ag.foldl (asgS c) (l,bo,lv)).1.length=l.length∧(∀j,gotV (ag.foldl (asgS c) (l,bo,lv)).1 j=if j∈ag.map As.i then asV e c (gotV l j) else gotV l j) ∧
  (ag.foldl (asgS c) (l,bo,lv)).2.1=bo++ag.map (fun a=>⟨(asV e c (gotV l a.i)).wd,a.i⟩)∧(ag.foldl (asgS c) (l,bo,lv)).2.2=lv++ag.map As.i∧bals (ag.foldl (asgS c) (l,bo,lv)).1=bals l
 | [],l,bo,lv,_,_,_=>⟨rfl,fun j=>by simp,by simp,by simp,rfl⟩
 | a :: ag,l,bo,lv,ha,hn,hw=>by
  obtain⟨h1,h2,h3⟩:=ha a (by simp)
  simp only[List.map_cons,List.nodup_cons] at hn
  have hh:hasV l a.i=true:=yM (by omega)
  have e1:asgS c (l,bo,lv) a=(setV l a.i (asV e c (gotV l a.i)),bo++[⟨(asV e c (gotV l a.i)).wd,a.i⟩],lv++[a.i]):=by
   have hq:=asn_eq (c:=c) h2 h3 he hu hb
   unfold asgS
   simp only[h1,hq]
   rw[putE_in (by have:=hw a.i;simp only[asV];omega)]
  have hne:∀b∈ag,gotV (setV l a.i (asV e c (gotV l a.i))) b.i=gotV l b.i:=fun b hb' => by
   rw[yO,if_neg]
   rintro⟨_,hc⟩
   exact hn.1 (by rw[←hc];exact List.mem_map.2 ⟨b,hb',rfl⟩)
  obtain⟨g1,g2,g3,g4,g5⟩:=asg_fold he hu hb ag (setV l a.i (asV e c (gotV l a.i))) (bo++[⟨(asV e c (gotV l a.i)).wd,a.i⟩]) (lv++[a.i]) (fun b hb' => by rw[hne b hb'];exact ha b (by simp[hb'])) hn.2 (fun j=>by
   rw[yO]
   split
   ·have:=hw a.i;simp only[asV];omega
   ·exact hw j)
  rw[List.foldl_cons,e1]
  refine⟨by rw[g1,vD],fun j=>?_,?_,?_,?_⟩
  ·rw[g2 j,yO]
   by_cases hj:j=a.i
   ·subst hj
    rw[if_neg hn.1,if_pos ⟨hh,rfl⟩,if_pos (by simp)]
   ·rw[if_neg (show¬(hasV l a.i=true∧j=a.i) from fun hc=>hj hc.2)]
    simp[hj]
  ·rw[g3,List.map_cons,List.append_assoc,List.singleton_append]
   congr 2
   exact List.map_congr_left fun b hb' => by rw[hne b hb']
  ·rw[g4];simp
  ·rw[g5];exact rZ rfl
theorem wS (W:List Int) (e lim:Int) (q:LL) (m:M):∃a b:Nat,(stepM W e lim q m).1=(q.f.take a).map (fun i=>As.mk i 0 (e+1))++(q.v.take b).map (fun i=>As.mk i 1 (e+1))
  ∧ a≤q.f.length∧b≤q.v.length∧(0<b→a=q.f.length)∧(stepM W e lim q m).2.1=⟨q.f.drop a,q.v.drop b⟩:=by
 obtain⟨a,b,h⟩:=uF W e (lenL q+1) q (m.grant lim) []
 exact⟨a,b,by simpa[stepM] using h.1,h.2⟩
theorem mapI (xs:List Int) (c e:Int):(xs.map (fun i=>As.mk i c e)).map As.i=xs:=by
 rw[List.map_map]
 have:(As.i ∘ fun i=>As.mk i c e)=id:=rfl
 rw[this,List.map_id]
theorem qG {f v:List Int} (a b:Nat) (h:(f++v).Nodup):(f.take a++v.take b).Nodup∧(f.drop a++v.drop b).Nodup∧(∀i,i∈f++v↔i∈f.take a++v.take b∨i∈f.drop a++v.drop b)∧∀i∈f.take a++v.take b,i∉f.drop a++v.drop b:=by
 have hp:(f++v).Perm ((f.take a++v.take b)++(f.drop a++v.drop b)):=by
  conv=>lhs;rw[←List.take_append_drop a f,←List.take_append_drop b v]
  rw[List.append_assoc,List.append_assoc]
  refine List.Perm.append_left _ ?_
  rw[←List.append_assoc,←List.append_assoc]
  exact List.Perm.append_right _ List.perm_append_comm
 have hn:=hp.nodup_iff.1 h
 obtain⟨h1,h2,h3⟩:=List.nodup_append.1 hn
 exact⟨h1,h2,fun i=>by rw[hp.mem_iff,List.mem_append],fun i hi hc=>h3 i hi i hc rfl⟩
structure Asg (e:Int) (c:C) (l l' : List V) (ag:List As):Prop where
 len:l'.length=l.length
 got:∀j,gotV l' j=if j∈ag.map As.i then asV (e+1) c (gotV l j) else gotV l j
 as3:∀j∈ag.map As.i,(gotV l j).st=3∧(gotV l j).ex=-1
 bal:bals l' = bals l
theorem Mid.asg {e:Int} (he:0≤e) {c:C} (hu:1≤c.unb) (hb:e+1+c.unb≤1099511627776) {l:List V} {q:LL} {bo:List En} (h:Mid e (e+1) l q bo) (hw:∀j,(gotV l j).wd≤1099511627776) (W:List Int) (lim:Int) (m:M) :
  Asg e c l ((stepM W e lim q m).1.foldl (asgS c) (l,bo,[])).1 (stepM W e lim q m).1 ∧
  InvE e ((stepM W e lim q m).1.foldl (asgS c) (l,bo,[])).1 (stepM W e lim q m).2.1 ((stepM W e lim q m).1.foldl (asgS c) (l,bo,[])).2.1 ((stepM W e lim q m).1.foldl (asgS c) (l,bo,[])).2.2:=by
 obtain⟨a,b,h1,h2,h3,h4,h5⟩:=wS W e lim q m
 generalize (stepM W e lim q m).1=ag at h1 ⊢
 generalize (stepM W e lim q m).2.1=q' at h5 ⊢
 have hI:ag.map As.i=q.f.take a++q.v.take b:=by rw[h1,List.map_append,mapI,mapI]
 have hE:∀x∈ag,x.e=e+1:=fun x hx=>by
  rw[h1] at hx
  rcases List.mem_append.1 hx with hx|hx<;>(obtain⟨i,_,rfl⟩:=List.mem_map.1 hx;rfl)
 obtain⟨n1,n2,n3,n4⟩:=qG a b h.lnd
 have h3' : ∀j∈ag.map As.i,(gotV l j).st=3∧(gotV l j).ex=-1:=fun j hj=>by
  have:(gotV l j).st=3:=(h.lan j).1 ((n3 j).2 (.inl (hI ▸ hj)))
  exact⟨this,h.lax j this⟩
 obtain⟨g1,g2,g3,g4,g5⟩:=asg_fold (e:=e+1) (c:=c) (by omega) (by omega) hb ag l bo [] (fun x hx=>⟨hE x hx,h3' x.i (List.mem_map.2 ⟨x,hx,rfl⟩)⟩) (hI ▸ n1) hw
 refine⟨⟨g1,g2,h3',g5⟩,?_⟩
 have gn:∀j,j∉ag.map As.i→gotV (ag.foldl (asgS c) (l,bo,[])).1 j=gotV l j:=fun j hj=>by rw[g2 j,if_neg hj]
 have gy:∀j,j∈ag.map As.i→gotV (ag.foldl (asgS c) (l,bo,[])).1 j=asV (e+1) c (gotV l j):=fun j hj=>by rw[g2 j,if_pos hj]
 have not3:∀j,(gotV l j).st≠3→j∉ag.map As.i:=fun j hj hc=>hj (h3' j hc).1
 have hbm:(ag.foldl (asgS c) (l,bo,[])).2.1.map En.i=bo.map En.i++ag.map As.i:=by
  rw[g3,List.map_append,List.map_map];rfl
 have st4:∀i,(gotV (ag.foldl (asgS c) (l,bo,[])).1 i).st=(gotV l i).st:=fun i=>by
  rw[g2 i];split<;>rfl
 rw[show(ag.foldl (asgS c) (l,bo,[])).2.2=ag.map As.i by rw[g4];rfl]
 refine⟨?_,fun i=>?_,hI ▸ n1,fun i=>?_,fun i hi=>?_,?_,fun i=>?_,fun x hx=>?_,fun i hi=>?_,fun i hi=>?_⟩
 ·rw[h5];exact n2
 ·rw[h5,st4]
  constructor
  ·intro hi
   have h3:(gotV l i).st=3:=(h.lan i).1 ((n3 i).2 (.inr hi))
   refine⟨h3,?_⟩
   rw[gn i (fun hc=>n4 i (hI ▸ hc) hi)]
   exact h.lax i h3
  ·rintro⟨hs,hx⟩
   rcases(n3 i).1 ((h.lan i).2 hs) with hi|hi
   ·rw[gy i (hI ▸ hi)] at hx
    simp only[asV] at hx;omega
   ·exact hi
 ·rw[st4]
  constructor
  ·intro hi
   exact⟨(h3' i hi).1,by rw[gy i hi];simp only[asV];omega⟩
  ·rintro⟨hs,hx⟩
   refine Classical.byContradiction fun hc=>hx ?_
   rw[gn i hc];exact h.lax i hs
 ·rw[gy i hi];rfl
 ·rw[hbm]
  refine List.nodup_append.2 ⟨h.bnd,hI ▸ n1,fun x hx y hy hxy=>?_⟩
  have:=(h.bon x).1 hx
  have:=(h3' y hy).1
  subst hxy;omega
 ·rw[hbm,List.mem_append,st4]
  constructor
  ·rintro(hi|hi)
   ·exact .inl ((h.bon i).1 hi)
   ·exact .inr ⟨(h3' i hi).1,by rw[gy i hi];simp only[asV];omega⟩
  ·rintro(hi|⟨hs,hx⟩)
   ·exact .inl ((h.bon i).2 hi)
   ·refine .inr (Classical.byContradiction fun hc=>hx ?_)
    rw[gn i hc];exact h.lax i hs
 ·rw[g3] at hx
  rcases List.mem_append.1 hx with hx|hx
  ·have h6:(gotV l x.i).st=4:=(h.bon x.i).1 (List.mem_map.2 ⟨x,hx,rfl⟩)
   rw[gn x.i (not3 x.i (by omega))]
   have:=h.bep x hx
   exact⟨this.1,this.2,fun hc=>by omega⟩
  ·obtain⟨y,hy,rfl⟩:=List.mem_map.1 hx
   rw[gy y.i (List.mem_map.2 ⟨y,hy,rfl⟩)]
   simp only[asV]
   exact⟨by omega,by omega,fun _=>by omega⟩
 ·rw[st4] at hi
  rw[gn i (not3 i (by omega))];exact h.nex i hi
 ·rw[st4] at hi
  rw[gn i (not3 i (by omega))];exact h.rdy i hi
theorem Sm.act (is:List Int) (l:List V):Sm l (is.foldl (fun l i=>evV l i 1) l):=Sm.of fun j=>by
 rw[vI (e:=1) (by omega)]
 split
 ·rename_i h
  right
  refine⟨by omega,by omega,?_⟩
  simp only
  exact⟨by omega,by omega,by omega,fun _=>.inr ⟨.inl h.2,trivial⟩⟩
 ·exact .inl rfl
theorem atV_got {l:List V} {i:Int} (h:hasV l i=true):atV l i=gotV l i:=by
 obtain⟨k,rfl,hk⟩:=xY h
 rw[yT hk];simp[atV,hk]
structure K2 (l l' : List V):Prop where
 len:l'.length=l.length
 got:∀j,gotV l' j=gotV l j∨((gotV l j).st=2∧∃b s,gotV l' j={ gotV l j with bal:=b,st:=s }∧0≤b∧(s=2∨s=7))
theorem K2.refl (l:List V):K2 l l:=⟨rfl,fun _=>.inl rfl⟩
theorem K2.ne {l l' : List V} (h:K2 l l') {j:Int} (hj:(gotV l j).st≠2):gotV l' j=gotV l j:=(h.got j).resolve_right fun hc=>hj hc.1
theorem K2.trans {a b c:List V} (h:K2 a b) (h' : K2 b c):K2 a c:=⟨h'.len.trans h.len,fun j=>by
 rcases h.got j with h1|⟨h1,x,s,h2,h3,h4⟩
 ·rcases h'.got j with h5|⟨h5,y,t,h6,h7,h8⟩
  ·exact .inl (h5.trans h1)
  ·rw[h1] at h5 h6
   exact .inr ⟨h5,y,t,h6,h7,h8⟩
 ·rcases h'.got j with h5|⟨h5,y,t,h6,h7,h8⟩
  ·exact .inr ⟨h1,x,s,h5.trans h2,h3,h4⟩
  ·rw[h2] at h6
   exact .inr ⟨h1,y,t,h6,h7,h8⟩⟩
theorem K2.sm {l l' : List V} (h:K2 l l'):Sm l l' := Sm.of fun j=>by
 rcases h.got j with h1|⟨h1,x,s,h2,h3,h4⟩
 ·exact .inl h1
 ·right
  rw[h2]
  simp only
  refine⟨by omega,by omega,by omega,by omega,by omega,fun _=>.inr ⟨.inr h1,trivial⟩⟩
theorem K2.set {l:List V} {i:Int} {v:V} {b s:Int} (h:(gotV l i).st=2) (hv:v={ gotV l i with bal:=b,st:=s }) (hb:0≤b) (hs:s=2∨s=7):K2 l (setV l i v):=⟨vD _ _ _,fun j=>by
 rw[yO]
 split
 ·rename_i e
  rw[e.2]
  exact .inr ⟨h,b,s,hv,hb,hs⟩
 ·exact .inl rfl⟩
theorem K2.vo {l l' : List V} (h:K2 l l') (hv:∀i,hasV l i=true→VO (gotV l i)):∀i,hasV l' i=true→VO (gotV l' i):=fun i hi=>by
 rw[xK h.len] at hi
 have:=hv i hi
 rcases h.got i with h1|⟨h1,x,s,h2,h3,h4⟩
 ·rw[h1];exact this
 ·rw[h2];exact⟨h3,by simp only;omega,this.r,this.x,this.w,this.d⟩
theorem mv_setV {l:List V} {i j:Int} (hi:hasV l i=true) (hj:hasV l j=true):mvN l i.toNat j.toNat=setV (setV l i { gotV l i with bal:=0,st:=7 }) j { gotV l j with bal:=IntKind.u64.wrap ((gotV l j).bal+(gotV l i).bal) }:=by
 have h1:=hi;have h2:=hj
 obtain⟨a,rfl,ha⟩:=xY hi
 obtain⟨b,rfl,hb⟩:=xY hj
 unfold setV
 rw[if_pos h1,if_pos (by rw[hasV_set];exact h2),yT ha,yT hb]
 simp only[mvN,Int.toNat_natCast,qZ ha,qZ hb]
theorem has_req {l:List V} {i j:Int} {c:C} (h:reqV l i j c=0):hasV l i=true∧hasV l j=true∧i≠j∧(gotV l i).st=2∧(gotV l j).st=2∧(gotV l i).bal+(gotV l j).bal≤18446744073709551615:=by
 obtain⟨h1,h2,h3,h4,h5,h6⟩:=req_ok h
 have hi:hasV l i=true:=decide_eq_true ⟨h1,h2⟩
 have hj:hasV l j=true:=decide_eq_true ⟨h3,h4⟩
 rw[atV_got hi,atV_got hj] at h6
 have h7:=check_st h6
 exact⟨hi,hj,h5,h7.1,h7.2.1,h7.2.2.2.2.1⟩
theorem K2.step {c:C} {s:List V × List Bool} {p:PP} (hv:∀i,hasV s.1 i=true→VO (gotV s.1 i)):K2 s.1 (stepM16 c s p).1∧(bals (stepM16 c s p).1).sum=(bals s.1).sum:=by
 unfold stepM16
 simp only
 by_cases h:okReq s.1 p c=true
 ·rw[if_pos h]
  obtain⟨h1,h2,h3,h4,h5,h6⟩:=has_req (of_decide_eq_true h)
  have hw:IntKind.u64.wrap ((gotV s.1 p.b).bal+(gotV s.1 p.a).bal)=(gotV s.1 p.b).bal+(gotV s.1 p.a).bal:=by
   have:=(hv _ h1).b;have:=(hv _ h2).b
   rw[IntKind.wrap_u64];omega
  rw[mv_setV h1 h2,hw]
  have hne:gotV (setV s.1 p.a { gotV s.1 p.a with bal:=0,st:=7 }) p.b=gotV s.1 p.b:=by rw[yO,if_neg (fun hc=>h3 hc.2.symm)]
  have hb2:hasV (setV s.1 p.a { gotV s.1 p.a with bal:=0,st:=7 }) p.b=true:=by rw[has_setV];exact h2
  constructor
  ·refine(K2.set (b:=0) (s:=7) h4 rfl (by omega) (.inr rfl)).trans (K2.set (b:=(gotV s.1 p.b).bal+(gotV s.1 p.a).bal) (s:=2) (by rw[hne];exact h5) ?_ (by have:=(hv _ h1).b;have:=(hv _ h2).b;omega) (.inl rfl))
   rw[hne]
   generalize gotV s.1 p.b=x at h5 ⊢
   cases x;simp only at h5 ⊢;rw[h5]
  ·rw[vC _ _ _ hb2,hne,vC _ _ _ h1]
   simp only
   omega
 ·rw[if_neg h];exact⟨K2.refl _,rfl⟩
theorem K2.fold {c:C}:∀(q:List PP) (s:List V × List Bool),(∀i,hasV s.1 i=true→VO (gotV s.1 i))→K2 s.1 (q.foldl (stepM16 c) s).1∧(bals (q.foldl (stepM16 c) s).1).sum=(bals s.1).sum
 | [],s,_=>⟨K2.refl _,rfl⟩
 | p :: q,s,hv=>by
  obtain⟨h1,h2⟩:=K2.step (c:=c) (p:=p) hv
  obtain⟨h3,h4⟩:=K2.fold (c:=c) q (stepM16 c s p) (h1.vo hv)
  rw[List.foldl_cons]
  exact⟨h1.trans h3,h4.trans h2⟩
theorem K2.runM {c:C} {l:List V} (q:List PP) (hv:∀i,hasV l i=true→VO (gotV l i)):K2 l (runM c l q).1∧(bals (runM c l q).1).sum=(bals l).sum:=K2.fold q (l,[]) hv
theorem inB_has {l:List V} {r:Rq}:inB l r↔hasV l r.i=true:=by unfold inB hasV;rw[decide_eq_true_iff]
theorem payO_eq (c:C) (l:List V) (r:Rq):payO c l r=setV l r.i (apV (gotV l r.i) r.m c):=by
 by_cases h:inB l r
 ·have hh:=inB_has.1 h
  obtain⟨k,hk,hl⟩:=xY hh
  unfold setV
  rw[payO_in hk hl,if_pos hh,hk,yT hl];rfl
 ·rw[payO_out h];unfold setV;rw[if_neg (fun hc=>h (inB_has.2 hc))]
theorem qR (c:C) (l:List V) (paid:List Y) (r:Rq):payP c l paid r=if hasV l r.i=true then paid++[⟨r.i,min r.m (avail (gotV l r.i) c),false⟩] else paid:=by
 by_cases h:inB l r
 ·have hh:=inB_has.1 h
  obtain⟨k,hk,hl⟩:=xY hh
  rw[payP_in hk hl,if_pos hh,hk,yT hl]
 ·rw[payP_out h,if_neg (fun hc=>h (inB_has.2 hc))]
theorem avail_bd {v:V} {c:C} (h:VO v) (hm:v.bal≤18446744073709551615) (hc:0≤c.minb):0≤avail v c∧avail v c≤v.bal∧(v.st≠2→avail v c=0):=by
 have:=h.b
 unfold avail
 split
 ·exact⟨by omega,by omega,fun _=>rfl⟩
 ·rename_i h1
  split
  ·exact⟨by omega,by omega,fun _=>rfl⟩
  ·rw[IntKind.wrap_u64]
   refine⟨by omega,by omega,fun hc=>absurd (.inl hc) h1⟩
def sumA (ps:List Y):Int:=(ps.map Y.a).sum
theorem pK (a b:List Y):sumA (a++b)=sumA a+sumA b:=by simp[sumA]
theorem sumA_pos (ps:List Y):sumA (pos ps)=sumA ps:=by
 induction ps with
 | nil=>rfl
 | cons y ps ih =>
  unfold pos at ih ⊢
  rw[List.filter_cons]
  split
  ·simp only[sumA,List.map_cons,List.sum_cons] at ih ⊢;omega
  ·rename_i h
   have h0:y.a=0:=by simpa using h
   simp only[sumA,List.map_cons,List.sum_cons] at ih ⊢;omega
theorem mem_le_sum:∀{l:List Int},(∀x∈l,0≤x)→∀x∈l,x≤l.sum
 | [],_,x,hx=>by simp at hx
 | a :: l,h,x,hx=>by
  have h0:=xF (l:=l) fun y hy=>h y (by simp[hy])
  have h1:=h a (by simp)
  rw[List.sum_cons]
  rcases List.mem_cons.1 hx with rfl|hx
  ·omega
  ·have:=mem_le_sum (l:=l) (fun y hy=>h y (by simp[hy])) x hx;omega
theorem uU {l:List V} (hv:∀i,hasV l i=true→VO (gotV l i)) {i:Int} (hi:hasV l i=true):(gotV l i).bal≤(bals l).sum:=by
 refine mem_le_sum (fun x hx=>?_) _ (List.mem_map.2 ⟨_,got_has hi,rfl⟩)
 obtain⟨v,hv',rfl⟩:=List.mem_map.1 hx
 obtain⟨j,hj,rfl⟩:=wN hv'
 exact(hv j hj).b
theorem K2.pstep {c:C} {s:List V × List Y} {r:Rq} (hv:∀i,hasV s.1 i=true→VO (gotV s.1 i)) (hm:(bals s.1).sum≤18446744073709551615) (hc:0≤c.minb) (hr:0≤r.m) :
  K2 s.1 (stepQ c s r).1∧(bals (stepQ c s r).1).sum+sumA (stepQ c s r).2=(bals s.1).sum+sumA s.2∧((∀y∈s.2,0≤y.a∧y.f=false∧hasV s.1 y.i=true)→∀y∈(stepQ c s r).2,0≤y.a∧y.f=false∧hasV s.1 y.i=true):=by
 unfold stepQ
 simp only
 rw[payO_eq,qR]
 by_cases hh:hasV s.1 r.i=true
 ·have h1:=hv _ hh
  have h2:=uU hv hh
  obtain⟨a1,a2,a3⟩:=avail_bd h1 (by omega) hc
  have hp:0≤min r.m (avail (gotV s.1 r.i) c)∧min r.m (avail (gotV s.1 r.i) c)≤(gotV s.1 r.i).bal:=by omega
  have hw:IntKind.u64.wrap ((gotV s.1 r.i).bal-min r.m (avail (gotV s.1 r.i) c))=(gotV s.1 r.i).bal-min r.m (avail (gotV s.1 r.i) c):=by rw[IntKind.wrap_u64];omega
  have hap:apV (gotV s.1 r.i) r.m c={ gotV s.1 r.i with bal:=(gotV s.1 r.i).bal-min r.m (avail (gotV s.1 r.i) c) }:=by unfold apV;rw[hw]
  rw[if_pos hh]
  refine⟨?_,?_,fun h y hy=>?_⟩
  ·by_cases h2:(gotV s.1 r.i).st=2
   ·refine K2.set (b:=(gotV s.1 r.i).bal-min r.m (avail (gotV s.1 r.i) c)) (s:=2) h2 ?_ (by omega) (.inl rfl)
    rw[hap]
    generalize gotV s.1 r.i=x at h2 ⊢
    cases x;simp only at h2 ⊢;rw[h2]
   ·refine⟨vD _ _ _,fun j=>.inl ?_⟩
    rw[yO]
    split
    ·rename_i e
     rw[hap,e.2]
     have h0:=a3 h2
     have h5:(gotV s.1 r.i).bal-min r.m (avail (gotV s.1 r.i) c)=(gotV s.1 r.i).bal:=by omega
     rw[h5]
    ·rfl
  ·rw[vC _ _ _ hh,hap,pK]
   simp only[sumA,List.map_cons,List.map_nil,List.sum_cons,List.sum_nil]
   omega
  ·rcases List.mem_append.1 hy with hy|hy
   ·exact h y hy
   ·simp only[List.mem_cons,List.not_mem_nil,or_false] at hy
    subst hy;exact⟨hp.1,rfl,hh⟩
 ·rw[if_neg hh]
  have:setV s.1 r.i (apV (gotV s.1 r.i) r.m c)=s.1:=by unfold setV;rw[if_neg hh]
  rw[this]
  exact⟨K2.refl _,rfl,fun h=>h⟩
theorem K2.pfold {c:C} (hc:0≤c.minb):∀(q:List Rq) (s:List V × List Y),(∀r∈q,0≤r.m)→(∀i,hasV s.1 i=true→VO (gotV s.1 i))→(bals s.1).sum≤18446744073709551615→(∀y∈s.2,0≤y.a) →
  K2 s.1 (q.foldl (stepQ c) s).1∧(bals (q.foldl (stepQ c) s).1).sum+sumA (q.foldl (stepQ c) s).2=(bals s.1).sum+sumA s.2∧((∀y∈s.2,0≤y.a∧y.f=false∧hasV s.1 y.i=true)→∀y∈(q.foldl (stepQ c) s).2,0≤y.a∧y.f=false∧hasV s.1 y.i=true)
 | [],s,_,_,_,_=>⟨K2.refl _,rfl,fun h=>h⟩
 | r :: q,s,hq,hv,hm,hs=>by
  obtain⟨h1,h2,h3⟩:=K2.pstep (s:=s) (r:=r) hv hm hc (hq r (by simp))
  have h0:∀y∈(stepQ c s r).2,0≤y.a:=fun y hy=>by
   unfold stepQ at hy
   simp only at hy
   rw[qR] at hy
   split at hy
   ·rename_i hh
    rcases List.mem_append.1 hy with hy|hy
    ·exact hs y hy
    ·simp only[List.mem_cons,List.not_mem_nil,or_false] at hy
     subst hy
     obtain⟨a1,_,_⟩:=avail_bd (hv _ hh) (by have:=uU hv hh;omega) hc
     have:=hq r (by simp)
     simp only;omega
   ·exact hs y hy
  have hs2:sumA s.2≤sumA (stepQ c s r).2:=by
   unfold stepQ
   simp only
   rw[qR]
   split
   ·rename_i hh
    obtain⟨a1,_,_⟩:=avail_bd (hv _ hh) (by have:=uU hv hh;omega) hc
    have:=hq r (by simp)
    rw[pK]
    simp only[sumA,List.map_cons,List.map_nil,List.sum_cons,List.sum_nil];omega
   ·exact Int.le_refl _
  obtain⟨g1,g2,g3⟩:=K2.pfold hc q (stepQ c s r) (fun x hx=>hq x (by simp[hx])) (h1.vo hv) (by omega) h0
  rw[List.foldl_cons]
  refine⟨h1.trans g1,by omega,fun h y hy=>?_⟩
  have:=g3 (fun z hz=>by
   have:=h3 h z hz
   exact⟨this.1,this.2.1,by rw[xK h1.len];exact this.2.2⟩) y hy
  exact⟨this.1,this.2.1,by rw[←xK h1.len];exact this.2.2⟩
theorem K2.run {c:C} (hc:0≤c.minb) {l:List V} (q:List Rq) (hq:∀r∈q,0≤r.m) (hv:∀i,hasV l i=true→VO (gotV l i)) (hm:(bals l).sum≤18446744073709551615) :
  K2 l (run c l q).1∧(bals (run c l q).1).sum+sumA (run c l q).2=(bals l).sum∧∀y∈(run c l q).2,0≤y.a∧y.f=false∧hasV l y.i=true:=by
 obtain⟨h1,h2,h3⟩:=K2.pfold hc q (l,[]) hq hv hm (by simp)
 exact⟨h1,by simpa[sumA,Go.Proofs.YtdddiilocbbkkaaGreat.run] using h2,h3 (by simp)⟩
theorem pay_eq {v:V} {e:Int} (h:v.st=5) (hw:v.wd≤e):payV v e=({ v with st:=6,bal:=0 },v.bal,0):=by
 unfold payV
 have:nxt v.st 5=6:=by rw[nxt_self (by omega),if_pos h];rfl
 rw[this,if_neg (by omega),if_neg (by omega)]
theorem uC {l0:List V} {e:Int}:∀(is:List Int) (l:List V) (ps:List Y),is.Nodup→(∀i∈is,(gotV l0 i).st=5∧(gotV l0 i).wd≤e∧gotV l i=gotV l0 i) →
  (is.foldl (fullS l0 e) (l,ps)).1.length=l.length∧(∀j,gotV (is.foldl (fullS l0 e) (l,ps)).1 j=if j∈is then { gotV l0 j with st:=6,bal:=0 } else gotV l j) ∧
  (is.foldl (fullS l0 e) (l,ps)).2=ps++is.map (fun i=>⟨i,(gotV l0 i).bal,true⟩)∧(bals (is.foldl (fullS l0 e) (l,ps)).1).sum+sumA (is.foldl (fullS l0 e) (l,ps)).2=(bals l).sum+sumA ps
 | [],l,ps,_,_=>⟨rfl,fun j=>by simp,by simp,rfl⟩
 | i :: is,l,ps,hn,h=>by
  obtain⟨h1,h2,h3⟩:=h i (by simp)
  rw[List.nodup_cons] at hn
  have hh:hasV l i=true:=yM (by rw[h3];omega)
  have e1:fullS l0 e (l,ps) i=(setV l i { gotV l0 i with st:=6,bal:=0 },ps++[⟨i,(gotV l0 i).bal,true⟩]):=by
   unfold fullS;rw[pay_eq h1 h2]
  have hne:∀j∈is,gotV (setV l i { gotV l0 i with st:=6,bal:=0 }) j=gotV l j:=fun j hj=>by
   rw[yO,if_neg]
   rintro⟨_,rfl⟩;exact hn.1 hj
  obtain⟨g1,g2,g3,g4⟩:=uC (l0:=l0) (e:=e) is (setV l i { gotV l0 i with st:=6,bal:=0 }) (ps++[⟨i,(gotV l0 i).bal,true⟩]) hn.2 (fun j hj=>by
   obtain⟨k1,k2,k3⟩:=h j (by simp[hj])
   exact⟨k1,k2,by rw[hne j hj,k3]⟩)
  rw[List.foldl_cons,e1]
  refine⟨by rw[g1,vD],fun j=>?_,?_,?_⟩
  ·rw[g2 j,yO]
   by_cases hj:j=i
   ·subst hj
    rw[if_neg hn.1,if_pos ⟨hh,rfl⟩,if_pos (by simp)]
   ·rw[if_neg (show¬(hasV l i=true∧j=i) from fun hc=>hj hc.2)]
    simp[hj]
  ·rw[g3];simp
  ·rw[g4,vC _ _ _ hh,pK,h3]
   simp only[sumA,List.map_cons,List.map_nil,List.sum_cons,List.sum_nil];omega
structure Cmo (c:C):Prop where
 qsize:1≤c.qsize∧c.qsize≤4096
 mind:1≤c.mind∧c.mind≤c.maxd
 maxd:c.maxd≤c.supc∧c.supc≤1152921504606846976
 minb:1≤c.minb∧c.minb≤c.mind
 maxb:c.maxd≤c.maxb∧c.maxb≤c.supc
 quot:1≤c.quot
 rlen:1≤c.rlen∧c.rlen≤4096
 merg:0≤c.merg∧c.merg≤4096
 pnum:c.pnum≤c.pden
 pden:1≤c.pden∧c.pden≤4294967296
theorem yU {c:C} (h:chk c=0):Cmo c:=by
 have h2:=zT h 2 (by omega) (by omega)
 have h3:=zT h 3 (by omega) (by omega)
 have h4:=zT h 4 (by omega) (by omega)
 have h5:=zT h 5 (by omega) (by omega)
 have h6:=zT h 6 (by omega) (by omega)
 have h7:=zT h 7 (by omega) (by omega)
 have h9:=zT h 9 (by omega) (by omega)
 have h13:=zT h 13 (by omega) (by omega)
 have h18:=zT h 18 (by omega) (by omega)
 have h19:=zT h 19 (by omega) (by omega)
 have h20:=zT h 20 (by omega) (by omega)
 simp[rightB,btw] at h2 h3 h4 h5 h6 h7 h9 h13 h18 h19 h20
 exact⟨h2,⟨h3,h4⟩,h5,h6,h7,h9,h13,h18,h19,h20⟩
structure Inv (s:Eg):Prop where
 cc:chk s.c=0
 ck:s.c.ok
 blk:s.blk≤1000000000
 cap:(s.l.length:Int)≤s.c.capa
 vo:∀i,hasV s.l i=true→VO (gotV s.l i)
 sum:(bals s.l).sum=s.dep-s.paid-s.burn
 led:LOk s.c.supc s.dep s.paid s.burn
 qf:s.q.f.length≤s.c.qsize.toNat∧s.q.v.length≤s.c.qsize.toNat
 pe:s.pend.length≤s.c.qsize.toNat
 mg:s.mg.length≤s.c.qsize.toNat
 pt:s.pt.length≤s.c.qsize.toNat
 pm:∀r∈s.pt,0≤r.m
 cur:s.cur≤4096
 m:s.m.ok
 e:InvE s.ep s.l s.q s.bo s.lv
theorem Inv.cok {s:Eg} (h:Inv s):Cok s.c:=sO h.cc h.ck
theorem ep_nn (s:Eg):0≤s.ep:=Int.natCast_nonneg _
theorem ep_le (s:Eg):s.ep≤s.blk:=by
 have h:=Nat.div_le_self s.blk s.c.elen.toNat
 unfold Eg.ep
 generalize s.blk/s.c.elen.toNat=q at h ⊢
 omega
theorem Inv.epb {s:Eg} (h:Inv s):0≤s.ep∧s.ep≤1000000000:=by have:=ep_nn s;have:=ep_le s;have:=h.blk;omega
theorem lat1 {e:Int} (h:0≤e∧e≤1000000000):latB [e]=true:=by
 unfold latB;refine decide_eq_true ⟨fun x hx=>?_,by simp;omega⟩
 simp at hx;omega
theorem lat2 {e d:Int} (h:0≤e∧e≤1000000000) (hd:0≤d∧d≤1048576):latB [e,d]=true∧latV [e,d]=e+d:=by
 have hb:latB [e,d]=true:=by
  unfold latB;refine decide_eq_true ⟨fun x hx=>?_,by simp;omega⟩
  simp at hx;omega
 exact⟨hb,by unfold latV;rw[if_pos hb];simp⟩
theorem latV_bd (l:List Int):0≤latV l∧latV l≤1099511627776:=by
 unfold latV
 split
 ·rename_i h
  have h:=of_decide_eq_true h
  exact⟨xF h.1,h.2⟩
 ·omega
theorem bds_rng (e a b:Int) (c:C) (l:List Int):0≤bdsV e a b c l∧bdsV e a b c l≤1099511627776:=by
 unfold bdsV
 split
 ·exact latV_bd _
 ·omega
theorem VO.z_wd (l:List V) (hv:∀i,hasV l i=true→VO (gotV l i)) (j:Int):(gotV l j).wd≤1099511627776:=by
 rcases Bool.eq_false_or_eq_true (hasV l j) with h|h
 ·exact(hv j h).w.2
 ·rw[vK h];simp[V.z]
theorem vo_setV {l:List V} {i:Int} {v:V} (hv:∀i,hasV l i=true→VO (gotV l i)) (h:VO v):∀j,hasV (setV l i v) j=true→VO (gotV (setV l i v) j):=fun j hj=>by
 rw[has_setV] at hj
 rw[yO]
 split
 ·exact h
 ·exact hv j hj
theorem xI {l:List V} {i:Int} (h:hasV l i=true) (v:V):l.set i.toNat v=setV l i v:=by unfold setV;rw[if_pos h]
theorem nodup_push {f v:List Int} {i:Int} (h:(f++v).Nodup) (hi:i∉f++v):(f++[i]++v).Nodup∧(f++(v++[i])).Nodup:=by
 have h1:(i :: (f++v)).Nodup:=List.nodup_cons.2 ⟨hi,h⟩
 constructor
 ·refine List.Perm.nodup_iff ?_ |>.1 h1
  rw[List.append_assoc]
  exact List.perm_middle.symm
 ·refine List.Perm.nodup_iff ?_ |>.1 h1
  rw[←List.append_assoc]
  exact(List.perm_append_comm (l₁:=[i]) (l₂:=f++v))
theorem push_cls {sz:Nat} {cl i:Int} {q:LL} (hc:cl=0∨cl=1) (hf:freeL sz cl q≠0):pushL sz cl i q=if cl=0 then⟨q.f++[i],q.v⟩ else⟨q.f,q.v++[i]⟩:=by
 unfold pushL;unfold freeL at hf
 rcases hc with rfl|rfl
 ·simp only[if_true] at hf ⊢
  rw[if_pos (by omega)]
 ·simp only[show¬((1:Int)=0) from by decide,if_false,if_true] at hf ⊢
  rw[if_pos (by omega)]
theorem InvE.push {ep:Int} {l:List V} {q:LL} {bo:List En} {lv:List Int} (h:InvE ep l q bo lv) {i:Int} {v:V} (hi:(gotV l i).st=2) (hv:v.st=3) (hx:v.ex=(gotV l i).ex) {sz:Nat} {cl:Int} (hc:cl=0∨cl=1) (hf:freeL sz cl q≠0) :
  InvE ep (setV l i v) (pushL sz cl i q) bo lv:=by
 have hh:hasV l i=true:=yM (by omega)
 have hx1:v.ex=-1:=hx.trans (h.nex i (.inr hi))
 have g:∀j,gotV (setV l i v) j=if j=i then v else gotV l j:=fun j=>by rw[yO];simp[hh]
 have gn:∀j,j≠i→gotV (setV l i v) j=gotV l j:=fun j hj=>by rw[g j,if_neg hj]
 have gi:gotV (setV l i v) i=v:=by rw[g i,if_pos rfl]
 have hnq:i∉q.f++q.v:=fun hc=>by have:=((h.lan i).1 hc).1;omega
 have hmem:∀j,j∈(pushL sz cl i q).f++(pushL sz cl i q).v↔j=i∨j∈q.f++q.v:=fun j=>by
  rw[push_cls hc hf]
  split<;>simp[List.mem_append]<;>(constructor<;>intro hq<;>rcases hq with hq|hq|hq<;>simp[hq])
 refine⟨?_,fun j=>?_,h.vnd,fun j=>?_,fun j hj=>?_,h.bnd,fun j=>?_,fun x hx=>?_,fun j hj=>?_,fun j hj=>?_⟩
 ·rw[push_cls hc hf]
  split
  ·exact(nodup_push h.lnd hnq).1
  ·exact(nodup_push h.lnd hnq).2
 ·rw[hmem j]
  by_cases hj:j=i
  ·subst hj;rw[gi];simp[hv,hx1]
  ·rw[gn j hj,←h.lan j];simp[hj]
 ·by_cases hj:j=i
  ·subst hj;rw[gi]
   constructor
   ·intro hc;have:=((h.lvs j).1 hc).1;omega
   ·intro hc;exact absurd hx1 hc.2
  ·rw[gn j hj];exact h.lvs j
 ·rw[gn j (fun hc=>by subst hc;have:=((h.lvs j).1 hj).1;omega)];exact h.lex j hj
 ·by_cases hj:j=i
  ·subst hj;rw[gi]
   constructor
   ·intro hc;have:=(h.bon j).1 hc;omega
   ·intro hc;rcases hc with hc|hc
    ·omega
    ·exact absurd hx1 hc.2
  ·rw[gn j hj];exact h.bon j
 ·rw[gn x.i (fun hc=>by have:=(h.bon x.i).1 (List.mem_map.2 ⟨x,hx,rfl⟩);rw[hc] at this;omega)];exact h.bep x hx
 ·by_cases hj2:j=i
  ·subst hj2;rw[gi] at hj;omega
  ·rw[gn j hj2] at hj ⊢;exact h.nex j hj
 ·by_cases hj2:j=i
  ·subst hj2;rw[gi] at hj;omega
  ·rw[gn j hj2] at hj ⊢;exact h.rdy j hj
theorem InvE.sl34 {ep:Int} {l:List V} {q:LL} {bo:List En} {lv:List Int} (h:InvE ep l q bo lv) {i:Int} {v:V} (hi:(gotV l i).st=3∨(gotV l i).st=4) (hv:v.st=(gotV l i).st) (hx:v.ex=(gotV l i).ex) (hw:(gotV l i).wd≤v.wd) :
  InvE ep (setV l i v) q bo lv:=by
 have hh:hasV l i=true:=yM (by omega)
 have g:∀j,(gotV (setV l i v) j).st=(gotV l j).st∧(gotV (setV l i v) j).ex=(gotV l j).ex∧(gotV l j).wd≤(gotV (setV l i v) j).wd:=fun j=>by
  rw[yO]
  split
  ·rename_i e;rw[e.2];exact⟨hv,hx,hw⟩
  ·exact⟨rfl,rfl,Int.le_refl _⟩
 have gn:∀j,(gotV l j).st≠3→(gotV l j).st≠4→gotV (setV l i v) j=gotV l j:=fun j h1 h2=>by
  rw[yO,if_neg]
  rintro⟨_,rfl⟩;omega
 refine⟨h.lnd,fun j=>?_,h.vnd,fun j=>?_,fun j hj=>?_,h.bnd,fun j=>?_,fun x hx=>?_,fun j hj=>?_,fun j hj=>?_⟩
 ·rw[(g j).1,(g j).2.1];exact h.lan j
 ·rw[(g j).1,(g j).2.1];exact h.lvs j
 ·rw[(g j).2.1];exact h.lex j hj
 ·rw[(g j).1,(g j).2.1];exact h.bon j
 ·have:=h.bep x hx;have:=(g x.i).2.2
  rw[(g x.i).1]
  exact⟨by omega,by omega,by omega⟩
 ·rw[(g j).1] at hj;rw[(g j).2.1];exact h.nex j hj
 ·rw[(g j).1] at hj;rw[gn j (by omega) (by omega)];exact h.rdy j hj
theorem InvE.sl5 {ep:Int} {l:List V} {q:LL} {bo:List En} {lv:List Int} (h:InvE ep l q bo lv) {i:Int} {v:V} (hi:(gotV l i).st=5) (hv:v.st=4) (hw:ep+1≤v.wd) :
  InvE ep (setV l i v) q (bo++[⟨v.wd,i⟩]) lv:=by
 have hh:hasV l i=true:=yM (by omega)
 have g:∀j,gotV (setV l i v) j=if j=i then v else gotV l j:=fun j=>by rw[yO];simp[hh]
 have gn:∀j,j≠i→gotV (setV l i v) j=gotV l j:=fun j hj=>by rw[g j,if_neg hj]
 have gi:gotV (setV l i v) i=v:=by rw[g i,if_pos rfl]
 have nb:i∉bo.map En.i:=fun hc=>by have:=(h.bon i).1 hc;omega
 refine⟨h.lnd,fun j=>?_,h.vnd,fun j=>?_,fun j hj=>?_,?_,fun j=>?_,fun x hx=>?_,fun j hj=>?_,fun j hj=>?_⟩
 ·by_cases hj:j=i
  ·subst hj;rw[gi,h.lan j];omega
  ·rw[gn j hj];exact h.lan j
 ·by_cases hj:j=i
  ·subst hj;rw[gi,h.lvs j];omega
  ·rw[gn j hj];exact h.lvs j
 ·rw[gn j (fun hc=>by subst hc;have:=((h.lvs j).1 hj).1;omega)];exact h.lex j hj
 ·rw[List.map_append]
  refine List.nodup_append.2 ⟨h.bnd,by simp,fun a ha b hb hab=>?_⟩
  simp at hb;subst hb;subst hab;exact nb ha
 ·rw[List.map_append,List.mem_append,h.bon j]
  by_cases hj:j=i
  ·subst hj;rw[gi];simp[hv]
  ·rw[gn j hj];simp[hj]
 ·rcases List.mem_append.1 hx with hx|hx
  ·have h1:x.i≠i:=fun hc=>nb (by rw[←hc];exact List.mem_map.2 ⟨x,hx,rfl⟩)
   rw[gn x.i h1];exact h.bep x hx
  ·simp only[List.mem_cons,List.not_mem_nil,or_false] at hx
   subst hx
   simp only[gi]
   exact⟨hw,Int.le_refl _,fun hc=>by omega⟩
 ·by_cases hj2:j=i
  ·subst hj2;rw[gi] at hj;omega
  ·rw[gn j hj2] at hj ⊢;exact h.nex j hj
 ·by_cases hj2:j=i
  ·subst hj2;rw[gi] at hj;omega
  ·rw[gn j hj2] at hj ⊢;exact h.rdy j hj
theorem InvE.ep_eq {ep ep' : Int} {l:List V} {q:LL} {bo:List En} {lv:List Int} (h:InvE ep l q bo lv) (e:ep=ep'):InvE ep' l q bo lv:=e ▸ h
theorem bals_app (l:List V) (v:V):(bals (l++[v])).sum=(bals l).sum+v.bal:=by simp[bals]
theorem depE_inv {s:Eg} (h:Inv s) {o:Op} (ho:0≤o.a∧o.a≤18446744073709551615):Inv (depE s o).1:=by
 unfold depE
 split
 ·exact h
 split
 ·exact h
 split
 ·exact h
 split
 ·exact h
 rename_i h1 h2 h3 h4
 have hl:ledC s.c.supc s.dep s.paid s.burn o.a=0:=Classical.byContradiction h4
 unfold ledC at hl
 have hled:=h.led
 obtain⟨l1,l2,l3,l4,l5,l6⟩:=hled
 split at hl
 ·omega
 split at hl
 ·omega
 rename_i h5 h6
 refine⟨h.cc,h.ck,h.blk,?_,fun i hi=>?_,?_,⟨l1,l2,by show s.paid+s.burn≤s.dep+o.a;omega,by show s.dep+o.a≤_;omega,by show s.dep+o.a-s.paid-s.burn≤s.c.supc;omega,l6⟩,h.qf,?_,h.mg,h.pt,h.pm,h.cur,h.m,h.e.sm (Sm.app rfl rfl)⟩
 ·show(((s.l++_).length:Nat):Int)≤_
  simp only[List.length_append,List.length_singleton];omega
 ·show VO (gotV (s.l++_) i)
  rw[qT]
  split
  ·exact⟨ho.1,by simp,by simp,by simp,by simp,by simp⟩
  ·rename_i hne
   refine h.vo i ?_
   have hi:hasV (s.l++[_]) i=true:=hi
   unfold hasV at hi ⊢
   have hi:=of_decide_eq_true hi
   simp at hi
   exact decide_eq_true (by omega)
 ·show(bals (s.l++[_])).sum=s.dep+o.a-s.paid-s.burn
  rw[bals_app,h.sum];simp only;omega
 ·show(s.pend++[_]).length≤_
  simp only[List.length_append,List.length_singleton];omega
theorem acc_eq {v:V} {e:Int} (he:0≤e∧e≤1000000000):accV v e=if nxt v.st 2=0 then(V.z,8) else({ v with rq:=e,st:=nxt v.st 2 },0):=by
 unfold accV;rw[if_neg (by rw[lat1 he];simp)]
theorem nxt2 {s:Int} (h:nxt s 2≠0):s=2∧nxt s 2=3:=by
 rw[nxt_self (by omega)] at h ⊢
 by_cases hs:s=2
 ·rw[if_pos hs];exact⟨hs,rfl⟩
 ·rw[if_neg hs] at h;exact absurd rfl h
theorem sL {s:Eg} (h:Inv s) {cl i:Int} (hc:cl=0∨cl=1):Inv (leaveE s cl i).1:=by
 unfold leaveE
 split
 ·exact h
 split
 ·exact h
 split
 ·exact h
 split
 ·exact h
 rename_i h1 h2 h3 h4
 have hh:hasV s.l i=true:=by simpa using h1
 have he:=h.epb
 have ha:(accV (gotV s.l i) s.ep).2=0:=Classical.byContradiction h2
 rw[acc_eq he] at ha
 have hn:nxt (gotV s.l i).st 2≠0:=fun hc=>by rw[if_pos hc] at ha;simp at ha
 obtain⟨h5,h6⟩:=nxt2 hn
 have hv:(accV (gotV s.l i) s.ep).1={ gotV s.l i with rq:=s.ep,st:=3 }:=by rw[acc_eq he,if_neg hn,h6]
 have hb:=bds_rng s.ep (addV (wgts s.l (aheadL cl s.q))) (accV (gotV s.l i) s.ep).1.bal s.c [s.c.unb,sweepV s.c]
 have hvo:=h.vo i hh
 simp only[xI hh]
 generalize bdsV s.ep (addV (wgts s.l (aheadL cl s.q))) (accV (gotV s.l i) s.ep).1.bal s.c [s.c.unb,sweepV s.c]=d at hb ⊢
 rw[hv]
 have hq:=pushL_len (sz:=s.c.qsize.toNat) cl i h.qf
 refine⟨h.cc,h.ck,h.blk,by show((setV _ _ _).length:Int)≤_;rw[vD];exact h.cap,vo_setV h.vo ⟨hvo.b,by simp,by simp only;omega,hvo.x,hvo.w,by simp only;omega⟩,?_,h.led,hq,h.pe,h.mg,h.pt,h.pm,h.cur,h.m,?_⟩
 ·show(bals (setV _ _ _)).sum=_
  exact(congrArg List.sum (rZ (by rfl))).trans h.sum
 ·exact h.e.push h5 (by rfl) (by rfl) hc h3
theorem burn_bd {b:Int} {c:C} (h0:0≤b) (hn:0≤c.pnum) (hd:1≤c.pden):0≤burnV b c∧burnV b c≤b:=by
 unfold burnV
 split
 ·omega
 ·rename_i h
  constructor
  ·exact Int.ediv_nonneg (Int.mul_nonneg h0 hn) (by omega)
  ·have:b*c.pnum≤b*c.pden:=Int.mul_le_mul_of_nonneg_left (by omega) h0
   have h9:=Int.ediv_le_ediv (a:=b*c.pnum) (b:=b*c.pden) (c:=c.pden) (by omega) this
   rwa [Int.mul_ediv_cancel _ (by omega)] at h9
theorem nxt7 {s:Int} (h:nxt s 7≠0):(s=2∨s=3∨s=4∨s=5)∧nxt s 7=if s=2∨s=3 then 3 else 4:=by
 unfold nxt at h ⊢
 rw[if_pos rfl] at h ⊢
 by_cases h1:s=2∨s=3
 ·rw[if_pos h1,if_pos h1];exact⟨by omega,rfl⟩
 ·rw[if_neg h1] at h ⊢
  rw[if_neg h1]
  by_cases h2:s=4∨s=5
  ·rw[if_pos h2];exact⟨by omega,rfl⟩
  ·rw[if_neg h2] at h;exact absurd rfl h
theorem sla_eq {v:V} {e:Int} {c:C} (he:0≤e∧e≤1000000000) (hc:0≤c.sld∧c.sld≤1048576) (h0:0≤v.bal) (hm:v.bal≤18446744073709551615) (hn:0≤c.pnum) (hd:1≤c.pden) :
  slaV v e c=if v.sl=true then(V.z,0,9) else if nxt v.st 7=0 then(V.z,0,8) else({ v with bal:=v.bal-burnV v.bal c,st:=nxt v.st 7,sl:=true,rq:=if v.st=2 then e else v.rq,wd:=max v.wd (e+c.sld),dl:=-1 },burnV v.bal c,0):=by
 obtain⟨h1,h2⟩:=lat2 he hc
 have hb:=burn_bd h0 hn hd
 unfold slaV
 rw[h2,if_neg (show¬(latB [e,c.sld]=false) by rw[h1];simp),IntKind.wrap_u64,Int.emod_eq_of_lt (by omega) (by omega)]
theorem sI {s:Eg} (h:Inv s) {i:Int}:Inv (slashE s i).1:=by
 have hk:=h.cok
 have he:=h.epb
 have hck:=h.ck
 unfold slashE
 split
 ·exact h
 rename_i h1
 have hh:hasV s.l i=true:=by simpa using h1
 have hvo:=h.vo i hh
 have hbl:=uU h.vo hh
 have hsum:=h.sum
 obtain⟨l1,l2,l3,l4,l5,l6⟩:=h.led
 have hpn:0≤s.c.pnum:=hck.pnum.1
 have hpd:1≤s.c.pden:=(yU h.cc).pden.1
 have hsl:0≤s.c.sld∧s.c.sld≤1048576:=by have:=hk.sld;have:=hk.unb;omega
 have heq:=sla_eq (v:=gotV s.l i) (c:=s.c) he hsl hvo.b (by omega) hpn hpd
 have hbd:=burn_bd (c:=s.c) hvo.b hpn hpd
 simp only
 split
 ·exact h
 split
 ·exact h
 split
 ·exact h
 rename_i h2 h3 h4
 have h4:(slaV (gotV s.l i) s.ep s.c).2.2=0:=Classical.byContradiction h4
 rw[heq] at h4
 have hs:¬(gotV s.l i).sl=true:=fun hc=>by rw[if_pos hc] at h4;simp at h4
 rw[if_neg hs] at h4 heq
 have hn:nxt (gotV s.l i).st 7≠0:=fun hc=>by rw[if_pos hc] at h4;simp at h4
 rw[if_neg hn] at heq
 obtain⟨h5,h6⟩:=nxt7 hn
 have hbk:bookC s.dep s.paid s.burn (burnV (gotV s.l i).bal s.c)=0:=by unfold bookC;rw[if_neg (by omega)]
 rw[heq]
 simp only
 rw[hbk,if_pos rfl,xI hh]
 have hvo' : VO { gotV s.l i with bal:=(gotV s.l i).bal-burnV (gotV s.l i).bal s.c,st:=nxt (gotV s.l i).st 7,sl:=true,rq:=if(gotV s.l i).st=2 then s.ep else(gotV s.l i).rq,wd:=max (gotV s.l i).wd (s.ep+s.c.sld),dl:=-1 }:=by
  have:=hvo.w;have:=hvo.r
  refine⟨by simp only;omega,by simp only;rw[h6];split<;>omega,by simp only;split<;>omega,hvo.x,by simp only;omega,by simp⟩
 generalize hw:({ gotV s.l i with bal:=(gotV s.l i).bal-burnV (gotV s.l i).bal s.c,st:=nxt (gotV s.l i).st 7,sl:=true,rq:=if(gotV s.l i).st=2 then s.ep else(gotV s.l i).rq,wd:=max (gotV s.l i).wd (s.ep+s.c.sld),dl:=-1 }:V)=w at hvo'
 have w1:w.bal=(gotV s.l i).bal-burnV (gotV s.l i).bal s.c:=by rw[←hw]
 have w2:w.st=if(gotV s.l i).st=2∨(gotV s.l i).st=3 then 3 else 4:=by rw[←hw];exact h6
 have w3:w.wd=max (gotV s.l i).wd (s.ep+s.c.sld):=by rw[←hw]
 have w4:w.ex=(gotV s.l i).ex:=by rw[←hw]
 have base:∀q bo,(q.f.length≤s.c.qsize.toNat∧q.v.length≤s.c.qsize.toNat)→InvE s.ep (setV s.l i w) q bo s.lv→Inv { s with l:=setV s.l i w,burn:=s.burn+burnV (gotV s.l i).bal s.c,q:=q,bo:=bo }:=fun q bo hq hE =>
  ⟨h.cc,h.ck,h.blk,by show((setV _ _ _).length:Int)≤_;rw[vD];exact h.cap,vo_setV h.vo hvo',by show(bals (setV _ _ _)).sum=s.dep-s.paid-(s.burn+_);rw[vC _ _ _ hh,w1];omega,
   ⟨l1,by show 0≤s.burn+_;omega,by show s.paid+(s.burn+burnV (gotV s.l i).bal s.c)≤s.dep;omega,l4,by show s.dep-s.paid-(s.burn+burnV (gotV s.l i).bal s.c)≤s.c.supc;omega,l6⟩,hq,h.pe,h.mg,h.pt,h.pm,h.cur,h.m,hE⟩
 by_cases c2:(gotV s.l i).st=2
 ·rw[if_pos c2,if_neg (show¬(gotV s.l i).st=5 by omega)]
  have hf:freeL s.c.qsize.toNat 0 s.q≠0:=fun hc=>h3 ⟨c2,hc⟩
  exact base _ _ (pushL_len _ _ h.qf) (h.e.push c2 (by rw[w2,if_pos (.inl c2)]) w4 (.inl rfl) hf)
 ·rw[if_neg c2]
  by_cases c5:(gotV s.l i).st=5
  ·rw[if_pos c5,←w3,putE_in (by have:=hvo'.w;omega)]
   exact base _ _ h.qf (h.e.sl5 c5 (by rw[w2,if_neg (by omega)]) (by have:=hk.sld;have:=hk.unb;omega))
  ·rw[if_neg c5]
   refine base _ _ h.qf (h.e.sl34 (by omega) ?_ w4 (by omega))
   rw[w2];split<;>omega
theorem consE_inv {s:Eg} (h:Inv s) {i t:Int}:Inv (consE s i t).1:=by
 unfold consE
 split
 ·exact h
 split
 ·exact h
 exact⟨h.cc,h.ck,h.blk,h.cap,h.vo,h.sum,h.led,h.qf,h.pe,by show(s.mg++[_]).length≤_;simp only[List.length_append,List.length_singleton];omega,h.pt,h.pm,h.cur,h.m,h.e⟩
theorem partE_inv {s:Eg} (h:Inv s) {i a:Int} (ha:0≤a):Inv (partE s i a).1:=by
 unfold partE
 split
 ·exact h
 split
 ·exact h
 refine⟨h.cc,h.ck,h.blk,h.cap,h.vo,h.sum,h.led,h.qf,h.pe,h.mg,by show(s.pt++[_]).length≤_;simp only[List.length_append,List.length_singleton];omega,fun r hr=>?_,h.cur,h.m,h.e⟩
 rcases List.mem_append.1 hr with hr|hr
 ·exact h.pm r hr
 ·simp only[List.mem_cons,List.not_mem_nil,or_false] at hr;subst hr;exact ha
theorem vo_ev {e:Int} (he:1≤e∧e≤5) (is:List Int) {l:List V} (hv:∀i,hasV l i=true→VO (gotV l i)):∀i,hasV (is.foldl (fun l i=>evV l i e) l) i=true→VO (gotV (is.foldl (fun l i=>evV l i e) l) i):=fun i hi=>by
 rw[xK (uN he is l).1] at hi
 rw[vI he]
 have:=hv i hi
 split
 ·exact⟨this.b,by simp only;omega,this.r,this.x,this.w,this.d⟩
 ·exact this
theorem stepM_ok {W:List Int} {e lim:Int} {q:LL} {m:M} (hW:∀x∈W,0≤x) (hl:0≤lim) (h:m.ok):(stepM W e lim q m).2.2.ok:=(stepM_of hW hl h).2
theorem actS_nn:∀{l:List V},(∀v∈l,0≤v.bal)→0≤actS l∧actS l≤(bals l).sum
 | [],_=>⟨Int.le_refl _,Int.le_refl _⟩
 | v :: l,h=>by
  have ih:=actS_nn (l:=l) fun x hx=>h x (by simp[hx])
  have h0:=h v (by simp)
  simp only[actS,bals,List.map_cons,List.sum_cons] at ih ⊢
  split<;>omega
theorem churn_nn {a m q:Int} (ha:0≤a) (hm:0≤m):0≤churn a m q:=by
 unfold churn
 split
 ·exact hm
 ·omega
structure Bdy (s:Eg) where
 l1:List V
 l2:List V
 b2:List En
 ag:List As
 l3:List V
 l4:List V
 l5:List V
 f1:l1=s.lv.foldl (fun l i=>evV l i 3) s.l
 f2:Rip s.ep l1 l2 s.bo
 f3:Asg s.ep s.c l2 l3 ag
 f4:∃is:List Int,l4=is.foldl (fun l i=>evV l i 1) l3
 f5:K2 l4 l5
 d1:Mid s.ep s.ep l1 s.q s.bo
 d2:Mid s.ep (s.ep+1) l2 s.q b2
 hl:(bdyE s).1.l=l5
 ha:(bdyE s).2=ag
 hs:∃a b:Nat,ag=(s.q.f.take a).map (fun i=>As.mk i 0 (s.ep+1))++(s.q.v.take b).map (fun i=>As.mk i 1 (s.ep+1))∧a≤s.q.f.length∧b≤s.q.v.length∧(0<b→a=s.q.f.length)
theorem bdyE_all {s:Eg} (hcc:chk s.c=0) (hck:s.c.ok) (hblk:s.blk≤1000000000) (hcap:(s.l.length:Int)≤s.c.capa) (hvo:∀i,hasV s.l i=true→VO (gotV s.l i)) (hsum:(bals s.l).sum=s.dep-s.paid-s.burn) (hled:LOk s.c.supc s.dep s.paid s.burn)
  (hqf:s.q.f.length≤s.c.qsize.toNat∧s.q.v.length≤s.c.qsize.toNat) (hpe:s.pend.length≤s.c.qsize.toNat) (hmg:s.mg.length≤s.c.qsize.toNat) (hpt:s.pt.length≤s.c.qsize.toNat) (hpm:∀r∈s.pt,0≤r.m) (hcur:s.cur≤4096) (hm:s.m.ok) (hE:InvE (s.ep-1) s.l s.q s.bo s.lv) :
  Nonempty (Bdy s)∧Inv (bdyE s).1:=by
 have hk:=sO hcc hck
 have hep:0≤s.ep∧s.ep≤1000000000:=by have:=ep_nn s;have:=ep_le s;omega
 have d1:Mid s.ep s.ep (s.lv.foldl (fun l i=>evV l i 3) s.l) s.q s.bo:=hE.mid
 have v1:=vo_ev (e:=3) (by omega) s.lv hvo
 have n1:(s.lv.foldl (fun l i=>evV l i 3) s.l).length=s.l.length:=(uN (by omega) _ _).1
 have s1:bals (s.lv.foldl (fun l i=>evV l i 3) s.l)=bals s.l:=xU 3 _ _
 unfold bdyE
 simp only
 generalize hl1:s.lv.foldl (fun l i=>evV l i 3) s.l=l1 at d1 v1 n1 s1 ⊢
 obtain⟨f2,d2⟩:=d1.rip hep.1 (VO.z_wd l1 v1)
 have s2:bals (ripE s.ep (l1,s.bo)).1=bals l1:=rI s.ep _ _
 generalize hr:ripE s.ep (l1,s.bo)=r at f2 d2 s2 ⊢
 obtain⟨l2,b2⟩:=r
 simp only at f2 d2 s2 ⊢
 have n2:=f2.len
 have v2:∀i,hasV l2 i=true→VO (gotV l2 i):=fun i hi=>by
  rw[xK f2.len] at hi
  have:=v1 i hi
  rw[f2.got]
  split
  ·exact⟨this.b,by simp,this.r,this.x,this.w,this.d⟩
  ·exact this
 have hWn:∀x∈bals l2,0≤x:=fun x hx=>by
  obtain⟨v,hv,rfl⟩:=List.mem_map.1 hx
  obtain⟨j,hj,rfl⟩:=wN hv
  exact(v2 j hj).b
 have hlim:0≤churnE s.c l2:=churn_nn (actS_nn fun v hv=>hWn _ (List.mem_map.2 ⟨v,hv,rfl⟩)).1 hck.minch.1
 obtain⟨f3,e3⟩:=d2.asg (e:=s.ep) hep.1 (c:=s.c) hk.unb.1 (by have:=hk.unb;omega) (VO.z_wd l2 v2) (bals l2) (churnE s.c l2) s.m
 have hsh:=wS (bals l2) s.ep (churnE s.c l2) s.q s.m
 have hlen:=stepM_len (W:=bals l2) (e:=s.ep) (lim:=churnE s.c l2) (m:=s.m) hqf
 have hmo:=stepM_ok (W:=bals l2) (e:=s.ep) (lim:=churnE s.c l2) (q:=s.q) hWn hlim hm
 generalize hst:stepM (bals l2) s.ep (churnE s.c l2) s.q s.m=st at f3 e3 hsh hlen hmo ⊢
 generalize hfa:st.1.foldl (asgS s.c) (l2,b2,[])=A at f3 e3 ⊢
 obtain⟨l3,b3,v3⟩:=A
 simp only at f3 e3 ⊢
 have v3' : ∀i,hasV l3 i=true→VO (gotV l3 i):=fun i hi=>by
  rw[xK f3.len] at hi
  have h1:=v2 i hi
  have hu:=hk.unb
  rw[f3.got]
  split
  ·exact⟨h1.b,h1.s,h1.r,by simp only[asV];omega,by have:=h1.w;simp only[asV];omega,h1.d⟩
  ·exact h1
 generalize hac:batF (churnE s.c l2) (bals l3) s.pend 0 true=ac
 have acl:ac.length≤s.pend.length:=by rw[←hac];exact rH _ _ _ _ _
 have v4:=vo_ev (e:=1) (by omega) ac v3'
 have n4:(ac.foldl (fun l i=>evV l i 1) l3).length=l3.length:=(uN (by omega) _ _).1
 have s4:bals (ac.foldl (fun l i=>evV l i 1) l3)=bals l3:=xU 1 _ _
 have m4:=Sm.act ac l3
 generalize hl4:ac.foldl (fun l i=>evV l i 1) l3=l4 at v4 n4 s4 m4 ⊢
 obtain⟨f5,s5⟩:=K2.runM (c:=s.c) (s.mg.take s.c.merg.toNat) v4
 have hE5:=(e3.sm m4).sm f5.sm
 generalize hl5:(runM s.c l4 (s.mg.take s.c.merg.toNat)).1=l5 at f5 s5 hE5 ⊢
 obtain⟨a,b,g1,g2,g3,g4,g5⟩:=hsh
 refine⟨⟨⟨l1,l2,b2,st.1,l3,l4,l5,hl1.symm,f2,f3,⟨ac,hl4.symm⟩,f5,d1,d2,?_,?_,⟨a,b,g1,g2,g3,g4⟩⟩⟩,?_⟩
 ·unfold bdyE;simp only[hl1,hr,hst,hfa,hac,hl4,hl5]
 ·unfold bdyE;simp only[hl1,hr,hst]
 ·refine⟨hcc,hck,hblk,by show(l5.length:Int)≤_;rw[f5.len,n4,f3.len,n2,n1];exact hcap,f5.vo v4,by show(bals l5).sum=_;rw[s5,s4,f3.bal,s2,s1];exact hsum,hled,hlen,by show(s.pend.drop _).length≤_;simp only[List.length_drop];omega,by show(s.mg.drop _).length≤_;simp only[List.length_drop];omega,hpt,hpm,hcur,hmo,hE5⟩
theorem tO {s:Eg} (hc:1≤s.c.elen):({ s with blk:=s.blk+1 }:Eg).ep=if(s.blk+1)%s.c.elen.toNat=0 then s.ep+1 else s.ep:=by
 unfold Eg.ep
 simp only
 have hp:0<s.c.elen.toNat:=by omega
 generalize s.c.elen.toNat=k at hp ⊢
 rw[Nat.succ_div]
 by_cases h:k∣s.blk+1
 ·rw[if_pos h,if_pos (Nat.mod_eq_zero_of_dvd h)];omega
 ·rw[if_neg h,if_neg (fun hc=>h (Nat.dvd_of_mod_eq_zero hc))];omega
def midE (s:Eg):Eg × List As:=if(s.blk+1)%s.c.elen.toNat=0 then bdyE { s with blk:=s.blk+1 } else({ s with blk:=s.blk+1 },[])
theorem wD (s:Eg):tickE s=((paysE (midE s).1).1,⟨7,0,-1,(paysE (midE s).1).1.blk,(paysE (midE s).1).1.ep,-1,(midE s).2,(paysE (midE s).1).2.1,(paysE (midE s).1).2.2⟩):=rfl
theorem wM {s:Eg} (h:Inv s) (hb:s.blk<1000000000):Inv (midE s).1∧((s.blk+1)%s.c.elen.toNat=0→Nonempty (Bdy { s with blk:=s.blk+1 })):=by
 have hep:=tO (s:=s) h.cok.elen.1
 unfold midE
 by_cases hc:(s.blk+1)%s.c.elen.toNat=0
 ·rw[if_pos hc] at hep ⊢
  have:=bdyE_all (s:={ s with blk:=s.blk+1 }) h.cc h.ck (by show s.blk+1≤_;omega) h.cap h.vo h.sum h.led h.qf h.pe h.mg h.pt h.pm h.cur h.m (by rw[hep];exact h.e.ep_eq (by omega))
  exact⟨this.2,fun _=>this.1⟩
 ·rw[if_neg hc] at hep ⊢
  exact⟨⟨h.cc,h.ck,by show s.blk+1≤_;omega,h.cap,h.vo,h.sum,h.led,h.qf,h.pe,h.mg,h.pt,h.pm,h.cur,h.m,by rw[hep];exact h.e⟩,fun h=>absurd h hc⟩
theorem led_fold {d u:Int}:∀(ps:List Y) (p:Int),(∀y∈ps,0≤y.a)→sumA ps≤d-p-u→ps.foldl (ledS d u) p=p+sumA ps
 | [],p,_,_=>by simp[sumA]
 | y :: ps,p,h,hs=>by
  have h0:=h y (by simp)
  have h1:0≤sumA ps:=xF fun x hx=>by
   obtain⟨z,hz,rfl⟩:=List.mem_map.1 hx;exact h z (by simp[hz])
  have e1:sumA (y :: ps)=y.a+sumA ps:=by simp[sumA]
  rw[e1] at hs ⊢
  have hb:ledS d u p y=p+y.a:=by
   unfold ledS bookC
   rw[if_neg (show¬d-p-u<y.a by omega),if_pos rfl]
  rw[List.foldl_cons,hb,led_fold ps (p+y.a) (fun z hz=>h z (by simp[hz])) (by omega)]
  omega
theorem swp_cur {rd:List Bool} {n pays:Nat} (hn:0<n) (hm:n≤4096):∀(k at_:Nat) (paid:List Int) (made:Nat),at_≤4096→(swp rd n pays k at_ paid made).1≤4096
 | 0,_,_,_,h=>h
 | k+1,at_,paid,made,h=>by
  unfold swp
  split
  ·exact h
  ·exact swp_cur hn hm k _ _ _ (by have:=Nat.mod_lt (at_%n+1) hn;omega)
theorem sweep_cur {at_:Nat} {rd:List Bool} {visits pays:Int} (hm:rd.length≤4096) (h:at_≤4096):(sweepS at_ rd visits pays).1≤4096:=by
 unfold sweepS
 split
 ·exact h
 ·exact swp_cur (by omega) hm _ _ _ _ h
theorem qP {l:List V} {j:Nat} (h:(l.map fun v=>decide (v.st=5))[j]?=some true):(gotV l j).st=5:=by
 rw[List.getElem?_map] at h
 obtain⟨v,hv,h1⟩:=Option.map_eq_some_iff.1 h
 obtain⟨hj,rfl⟩:=List.getElem?_eq_some_iff.1 hv
 rw[yT hj];exact of_decide_eq_true h1
structure Pay (s:Eg) where
 l1:List V
 ps:List Y
 is:List Int
 f1:K2 s.l l1
 fp:∀y∈ps,0≤y.a∧y.f=false∧hasV s.l y.i=true
 nd:is.Nodup
 i5:∀i∈is,(gotV l1 i).st=5
 len:(paysE s).1.l.length=s.l.length
 got:∀j,gotV (paysE s).1.l j=if j∈is then { gotV l1 j with st:=6,bal:=0 } else gotV l1 j
 pay:(paysE s).2.1=ps++is.map (fun i=>⟨i,(gotV l1 i).bal,true⟩)
theorem wW {s:Eg} (h:Inv s):Nonempty (Pay s)∧Inv (paysE s).1∧(paysE s).1.ep=s.ep∧(paysE s).1.blk=s.blk∧(paysE s).1.q=s.q∧(paysE s).1.c=s.c:=by
 have hck:=h.ck
 have hk:=h.cok
 obtain⟨l1,l2,l3,l4,l5,l6⟩:=h.led
 have hsum:=h.sum
 obtain⟨f1,s1,p1⟩:=K2.run (c:=s.c) hck.minb.1 (s.pt.take s.c.parts.toNat) (fun r hr=>h.pm r (List.mem_of_mem_take hr)) h.vo (by omega)
 unfold paysE
 simp only
 generalize hr:run s.c s.l (s.pt.take s.c.parts.toNat)=r at f1 s1 p1 ⊢
 obtain⟨la,ra⟩:=r
 simp only at f1 s1 p1 ⊢
 have v1:=f1.vo h.vo
 have hlen:la.length≤4096:=by have:=f1.len;have:=h.cap;have:=hk.capa;omega
 obtain⟨w1,w2⟩:=sU s.cur (la.map fun v=>decide (v.st=5)) (s.c.vis-((s.pt.take s.c.parts.toNat).length:Nat)) (s.c.pays-((pos ra).length:Nat))
 have w3:=sweep_cur (at_:=s.cur) (rd:=la.map fun v=>decide (v.st=5)) (visits:=s.c.vis-((s.pt.take s.c.parts.toNat).length:Nat)) (pays:=s.c.pays-((pos ra).length:Nat)) (by simpa using hlen) h.cur
 generalize hw:sweepS s.cur (la.map fun v=>decide (v.st=5)) (s.c.vis-((s.pt.take s.c.parts.toNat).length:Nat)) (s.c.pays-((pos ra).length:Nat))=w at w1 w2 w3 ⊢
 have i5:∀i∈w.2.1,(gotV la i).st=5:=fun i hi=>by
  obtain⟨j,rfl,hj⟩:=w1 i hi;exact qP hj
 have hEa:=h.e.sm f1.sm
 obtain⟨g1,g2,g3,g4⟩:=uC (l0:=la) (e:=s.ep) w.2.1 la (pos ra) w2 (fun i hi=>⟨i5 i hi,hEa.rdy i (i5 i hi),rfl⟩)
 generalize hf:w.2.1.foldl (fullS la s.ep) (la,pos ra)=f at g1 g2 g3 g4 ⊢
 obtain⟨lf,pf⟩:=f
 simp only at g1 g2 g3 g4 ⊢
 rw[sumA_pos] at g4
 have vf:∀i,hasV lf i=true→VO (gotV lf i):=fun i hi=>by
  rw[xK g1] at hi
  have:=v1 i hi
  rw[g2 i]
  split
  ·exact⟨by simp,by simp,this.r,this.x,this.w,this.d⟩
  ·exact this
 have pnn:∀y∈pf,0≤y.a:=fun y hy=>by
  rw[g3] at hy
  rcases List.mem_append.1 hy with hy|hy
  ·exact(p1 y (List.mem_filter.1 hy).1).1
  ·obtain⟨i,hi,rfl⟩:=List.mem_map.1 hy
   exact(v1 i (yM (by have:=i5 i hi;omega))).b
 have hnn:0≤(bals lf).sum:=xF fun x hx=>by
  obtain⟨v,hv,rfl⟩:=List.mem_map.1 hx
  obtain⟨j,hj,rfl⟩:=wN hv
  exact(vf j hj).b
 have hps:0≤sumA pf:=xF fun x hx=>by obtain⟨z,hz,rfl⟩:=List.mem_map.1 hx;exact pnn z hz
 have hpaid:=led_fold (d:=s.dep) (u:=s.burn) pf s.paid pnn (by omega)
 have smf:Sm la lf:=Sm.of fun j=>by
  rw[g2 j]
  split
  ·rename_i hj
   have:=i5 j hj
   right;simp only;omega
  ·exact .inl rfl
 have hEf:=hEa.sm smf
 refine⟨⟨⟨la,pos ra,w.2.1,f1,fun y hy=>p1 y (List.mem_filter.1 hy).1,w2,i5,?_,?_,?_⟩⟩,?_,by first|rfl|trivial,by first|rfl|trivial,by first|rfl|trivial,by first|rfl|trivial⟩
 ·unfold paysE;simp only[hr,hw,hf];rw[g1,f1.len]
 ·unfold paysE;simp only[hr,hw,hf];exact g2
 ·unfold paysE;simp only[hr,hw,hf];exact g3
 ·rw[hpaid]
  exact⟨h.cc,h.ck,h.blk,by show(lf.length:Int)≤_;rw[g1,f1.len];exact h.cap,vf,by show(bals lf).sum=s.dep-(s.paid+sumA pf)-s.burn;omega,⟨by show 0≤s.paid+sumA pf;omega,l2,by show s.paid+sumA pf+s.burn≤s.dep;omega,l4,by show s.dep-(s.paid+sumA pf)-s.burn≤s.c.supc;omega,l6⟩,h.qf,h.pe,h.mg,
   by show(s.pt.drop _).length≤_;have:=h.pt;simp only[List.length_drop];omega,fun r hr=>h.pm r (List.mem_of_mem_drop hr),w3,h.m,hEf⟩
theorem tickE_inv {s:Eg} (h:Inv s) (hb:s.blk<1000000000):Inv (tickE s).1:=by
 rw[wD];exact(wW (wM h hb).1).2.1
structure OpR (o:Op):Prop where
 a:0≤o.a∧o.a≤18446744073709551615
theorem actE_inv {s:Eg} (h:Inv s) {o:Op} (ho:OpR o):Inv (actE s o).1:=by
 unfold actE
 split
 ·exact depE_inv h ho.a
 split
 ·exact sL h (.inr rfl)
 split
 ·exact sL h (.inl rfl)
 split
 ·exact sI h
 split
 ·exact consE_inv h
 split
 ·exact partE_inv h ho.a.1
 ·exact h
theorem applyE_inv {s:Eg} (h:Inv s) (hb:s.blk<1000000000) {o:Op} (ho:OpR o):Inv (applyE s o).1:=by
 unfold applyE
 split
 ·exact tickE_inv h hb
 ·exact actE_inv h ho
theorem tE {c:C} (hc:chk c=0) (hk:c.ok):Inv (newE c):=by
 have hn:∀i:Int,(gotV [] i).st=0:=fun i=>got_no (decide_eq_false (by simp))
 have hm:=yU hc
 have he:(newE c).ep=0:=by unfold Eg.ep newE;simp
 refine⟨hc,hk,by simp[newE],by have:=(sO hc hk).capa;simp[newE];omega,fun i hi=>?_,by simp[newE,bals],⟨by simp[newE],by simp[newE],by simp[newE],by simp[newE],by have:=hm.maxd;have:=hm.mind;simp[newE];omega,by have:=hm.maxd;simp[newE];omega⟩,by simp[newE],by simp[newE],by simp[newE],by simp[newE],by simp[newE],by simp[newE],M0_ok,?_⟩
 ·have:=of_decide_eq_true hi;simp[newE] at this;omega
 ·rw[he]
  refine⟨by simp[newE],fun i=>?_,by simp[newE],fun i=>?_,by simp[newE],by simp[newE],fun i=>?_,by simp[newE],fun i hi=>?_,fun i hi=>?_⟩
  ·have:=hn i;simp[newE,this]
  ·have:=hn i;simp[newE,this]
  ·have:=hn i;simp[newE,this]
  ·have:=hn i;simp only[newE] at hi;omega
  ·have:=hn i;simp only[newE] at hi;omega
end Go.Proofs.YtdddiilocbbkkaaGreat
