/- Part 18 of the proof of TopModel. No condition. -/
import Derived.Test.YtdddiilocbbkkaaGreatTM17
set_option linter.unusedVariables false
set_option linter.unusedSimpArgs false
namespace Go.Proofs.YtdddiilocbbkkaaGreat
open Go.RowKit Go.Eg
set_option maxHeartbeats 4000000
set_option synthInstance.maxSize 3000
set_option maxRecDepth 100000
def asV (e:Int) (c:C) (v:V):V:={ v with ex:=e,wd:=max v.wd (e+c.unb) }
theorem FM {v:V} {e:Int} {c:C} (h3:v.st=3) (hx:v.ex=-1) (he:0<=e) (hu:0<=c.unb) (hb:e+c.unb<=1099511627776):eS v e c=(asV e c v,0):=by
 have hl:eN [e,c.unb]=true:=by
  unfold eN;refine cX ⟨fun x hx=>?_,by simpa using hb⟩;simp at hx;rcases hx with rfl|rfl<;>assumption
 have hv:eh [e,c.unb]=e+c.unb:=by unfold eh;rw[bZ hl];simp
 unfold eS asV;rw[bY aK,bY (by rw[hl];simp),hv]
theorem jJ {e:Int} {c:C} (he:0<=e) (hu:0<=c.unb) (hb:e+c.unb<=1099511627776):∀(ag:List As) (l:List V) (bo:List En) (lv:List Int),(∀a∈ag,a.e=e/\(ab l a.i).st=3/\(ab l a.i).ex=-1)->(ag.map As.i).Nodup->(∀j,(ab l j).wd<=1099511627776) ->
  (ag.foldl (eJ c) (l,bo,lv)).1.length=l.length/\(∀j,ab (ag.foldl (eJ c) (l,bo,lv)).1 j=if j∈ag.map As.i then asV e c (ab l j) else ab l j) /\
  (ag.foldl (eJ c) (l,bo,lv)).2.1=bo++ag.map (fun a=>⟨(asV e c (ab l a.i)).wd,a.i⟩)/\(ag.foldl (eJ c) (l,bo,lv)).2.2=lv++ag.map As.i/\bx (ag.foldl (eJ c) (l,bo,lv)).1=bx l
 | [],l,bo,lv,_,_,_=>⟨rfl,fun j=>by simp,aM,aM,rfl⟩
 | a :: ag,l,bo,lv,ha,hn,hw=>by
  obtain⟨h1,h2,h3⟩:=ha a aM;simp only[cV,List.nodup_cons] at hn;have hh:ax l a.i=true:=yL aK;have e1:eJ c (l,bo,lv) a=(dT l a.i (asV e c (ab l a.i)),bo++[⟨(asV e c (ab l a.i)).wd,a.i⟩],lv++[a.i]):=by
   have hq:=FM (c:=c) h2 h3 he hu hb;unfold eJ;simp only[h1,hq];rw[ke (by have:=hw a.i;simp only[asV];omega)]
  have B7:∀b∈ag,ab (dT l a.i (asV e c (ab l a.i))) b.i=ab l b.i:=fun b H0 => by
   rw[yZ,bY];rintro⟨_,hc⟩;exact hn.1 (by rw[←hc];exact cG.2 ⟨b,H0,rfl⟩)
  obtain⟨g1,g2,g3,g4,g5⟩:=jJ he hu hb ag (dT l a.i (asV e c (ab l a.i))) (bo++[⟨(asV e c (ab l a.i)).wd,a.i⟩]) (lv++[a.i]) (fun b H0 => by rw[B7 b H0];exact ha b (by simp[H0])) hn.2 (fun j=>by
   rw[yZ];split
   ·have:=hw a.i;simp only[asV];omega
   exact hw j)
  rw[cR,e1];refine⟨by rw[g1,wK],fun j=>?_,?_,?_,?_⟩
  ·rw[g2 j,yZ];by_cases hj:j=a.i
   ·subst hj;rw[bY hn.1,bZ ⟨hh,rfl⟩,bZ aM]
   rw[bY (show¬(ax l a.i=true/\j=a.i) from fun hc=>hj hc.2)];simp[hj]
  ·rw[g3,cV,cJ,List.singleton_append]
   congr 2
   exact List.map_congr_left fun b H0 => by rw[B7 b H0]
  ·rw[g4];simp
  rw[g5];exact pI rfl
theorem wY (W:List Int) (e lim:Int) (q:LL) (m:M):∃a b:Nat,(ce W e lim q m).1=(q.f.take a).map (fun i=>As.mk i 0 (e+1))++(q.v.take b).map (fun i=>As.mk i 1 (e+1))
  /\ a<=q.f.length/\b<=q.v.length/\(0<b->a=q.f.length)/\(ce W e lim q m).2.1=⟨q.f.drop a,q.v.drop b⟩:=by
 obtain⟨a,b,h⟩:=uR W e (fI q+1) q (m.grant lim) [];exact⟨a,b,by simpa[ce] using h.1,h.2⟩
theorem CT (xs:List Int) (c e:Int):(xs.map (fun i=>As.mk i c e)).map As.i=xs:=by
 rw[List.map_map];have:(As.i ∘ fun i=>As.mk i c e)=id:=rfl;rw[this,List.map_id]
theorem pV {f v:List Int} (a b:Nat) (h:(f++v).Nodup):(f.take a++v.take b).Nodup/\(f.drop a++v.drop b).Nodup/\(∀i,i∈f++v↔i∈f.take a++v.take b\/i∈f.drop a++v.drop b)/\∀i∈f.take a++v.take b,i∉f.drop a++v.drop b:=by
 have hp:(f++v).Perm ((f.take a++v.take b)++(f.drop a++v.drop b)):=by
  conv=>lhs;rw[←List.take_append_drop a f,←List.take_append_drop b v]
  rw[cJ,cJ];refine List.Perm.append_left _ ?_;rw[←cJ,←cJ];exact List.Perm.append_right _ List.perm_append_comm
 have hn:=hp.nodup_iff.1 h;obtain⟨h1,h2,h3⟩:=List.nodup_append.1 hn;exact⟨h1,h2,fun i=>by rw[hp.mem_iff,cK],fun i hi hc=>h3 i hi i hc rfl⟩
structure Asg (e:Int) (c:C) (l l' : List V) (ag:List As):Prop where
 len:l'.length=l.length
 got:∀j,ab l' j=if j∈ag.map As.i then asV (e+1) c (ab l j) else ab l j
 as3:∀j∈ag.map As.i,(ab l j).st=3/\(ab l j).ex=-1
 bal:bx l' = bx l
theorem Mid.asg {e:Int} (he:0<=e) {c:C} (hu:1<=c.unb) (hb:e+1+c.unb<=1099511627776) {l:List V} {q:LL} {bo:List En} (h:Mid e (e+1) l q bo) (hw:∀j,(ab l j).wd<=1099511627776) (W:List Int) (lim:Int) (m:M) :
  Asg e c l ((ce W e lim q m).1.foldl (eJ c) (l,bo,[])).1 (ce W e lim q m).1 /\
  et e ((ce W e lim q m).1.foldl (eJ c) (l,bo,[])).1 (ce W e lim q m).2.1 ((ce W e lim q m).1.foldl (eJ c) (l,bo,[])).2.1 ((ce W e lim q m).1.foldl (eJ c) (l,bo,[])).2.2:=by
 obtain⟨a,b,h1,h2,h3,h4,h5⟩:=wY W e lim q m;generalize (ce W e lim q m).1=ag at h1 ⊢;generalize (ce W e lim q m).2.1=q' at h5 ⊢;have hI:ag.map As.i=q.f.take a++q.v.take b:=by rw[h1,cA,CT,CT]
 have hE:∀x∈ag,x.e=e+1:=fun x hx=>by
  rw[h1] at hx;rcases cK.1 hx with hx|hx<;>(obtain⟨i,_,rfl⟩:=cG.1 hx;rfl)
 obtain⟨n1,n2,n3,n4⟩:=pV a b h.lnd;have h3' : ∀j∈ag.map As.i,(ab l j).st=3/\(ab l j).ex=-1:=fun j hj=>by
  have:(ab l j).st=3:=(h.lan j).1 ((n3 j).2 (.inl (hI ▸ hj)));exact⟨this,h.lax j this⟩
 obtain⟨g1,g2,g3,g4,g5⟩:=jJ (e:=e+1) (c:=c) aK aK hb ag l bo [] (fun x hx=>⟨hE x hx,h3' x.i (cG.2 ⟨x,hx,rfl⟩)⟩) (hI ▸ n1) hw;refine⟨⟨g1,g2,h3',g5⟩,?_⟩;have gn:∀j,j∉ag.map As.i->ab (ag.foldl (eJ c) (l,bo,[])).1 j=ab l j:=fun j hj=>by rw[g2 j,bY hj]
 have gy:∀j,j∈ag.map As.i->ab (ag.foldl (eJ c) (l,bo,[])).1 j=asV (e+1) c (ab l j):=fun j hj=>by rw[g2 j,bZ hj]
 have not3:∀j,(ab l j).st≠3->j∉ag.map As.i:=fun j hj hc=>hj (h3' j hc).1;have hbm:(ag.foldl (eJ c) (l,bo,[])).2.1.map En.i=bo.map En.i++ag.map As.i:=by
  rw[g3,cA,List.map_map];rfl
 have st4:∀i,(ab (ag.foldl (eJ c) (l,bo,[])).1 i).st=(ab l i).st:=fun i=>by
  rw[g2 i];split<;>rfl
 rw[show(ag.foldl (eJ c) (l,bo,[])).2.2=ag.map As.i by rw[g4];rfl];refine⟨?_,fun i=>?_,hI ▸ n1,fun i=>?_,fun i hi=>?_,?_,fun i=>?_,fun x hx=>?_,fun i hi=>?_,fun i hi=>?_⟩
 ·rw[h5];exact n2
 ·rw[h5,st4];constructor
  ·intro hi;have h3:(ab l i).st=3:=(h.lan i).1 ((n3 i).2 (.inr hi));refine⟨h3,?_⟩;rw[gn i (fun hc=>n4 i (hI ▸ hc) hi)];exact h.lax i h3
  rintro⟨hs,hx⟩;rcases(n3 i).1 ((h.lan i).2 hs) with hi|hi
  ·rw[gy i (hI ▸ hi)] at hx;simp only[asV] at hx;omega
  exact hi
 ·rw[st4];constructor
  ·intro hi;exact⟨(h3' i hi).1,by rw[gy i hi];simp only[asV];omega⟩
  rintro⟨hs,hx⟩;refine Classical.byContradiction fun hc=>hx ?_;rw[gn i hc];exact h.lax i hs
 ·rw[gy i hi];rfl
 ·rw[hbm];refine List.nodup_append.2 ⟨h.bnd,hI ▸ n1,fun x hx y hy hxy=>?_⟩;have:=(h.bon x).1 hx;have:=(h3' y hy).1;subst hxy;omega
 ·rw[hbm,cK,st4];constructor
  ·rintro(hi|hi)
   ·exact .inl ((h.bon i).1 hi)
   exact .inr ⟨(h3' i hi).1,by rw[gy i hi];simp only[asV];omega⟩
  rintro(hi|⟨hs,hx⟩)
  ·exact .inl ((h.bon i).2 hi)
  refine .inr (Classical.byContradiction fun hc=>hx ?_);rw[gn i hc];exact h.lax i hs
 ·rw[g3] at hx;rcases cK.1 hx with hx|hx
  ·have h6:(ab l x.i).st=4:=(h.bon x.i).1 (cG.2 ⟨x,hx,rfl⟩);rw[gn x.i (not3 x.i aK)];have:=h.bep x hx;exact⟨this.1,this.2,fun hc=>by omega⟩
  obtain⟨y,hy,rfl⟩:=cG.1 hx;rw[gy y.i (cG.2 ⟨y,hy,rfl⟩)];simp only[asV];exact⟨aK,aK,fun _=>by omega⟩
 ·rw[st4] at hi;rw[gn i (not3 i aK)];exact h.nex i hi
 rw[st4] at hi;rw[gn i (not3 i aK)];exact h.rdy i hi
theorem Sm.act (is:List Int) (l:List V):Sm l (is.foldl (fun l i=>evV l i 1) l):=Sm.of fun j=>by
 rw[vS (e:=1) aK];split
 ·rename_i h
  right
  refine⟨aK,aK,?_⟩;simp only;exact⟨aK,aK,aK,fun _=>.inr ⟨.inl h.2,trivial⟩⟩
 exact .inl rfl
theorem sd {l:List V} {i:Int} (h:ax l i=true):atV l i=ab l i:=by
 obtain⟨k,rfl,hk⟩:=xF h;rw[yK hk];simp[atV,hk]
structure K2 (l l' : List V):Prop where
 len:l'.length=l.length
 got:∀j,ab l' j=ab l j\/((ab l j).st=2/\∃b s,ab l' j={ ab l j with bal:=b,st:=s }/\0<=b/\(s=2\/s=7))
theorem K2.refl (l:List V):K2 l l:=⟨rfl,fun _=>.inl rfl⟩
theorem K2.ne {l l' : List V} (h:K2 l l') {j:Int} (hj:(ab l j).st≠2):ab l' j=ab l j:=(h.got j).resolve_right fun hc=>hj hc.1
theorem K2.trans {a b c:List V} (h:K2 a b) (h' : K2 b c):K2 a c:=⟨h'.len.trans h.len,fun j=>by
 rcases h.got j with h1|⟨h1,x,s,h2,h3,h4⟩
 ·rcases h'.got j with h5|⟨h5,y,t,h6,h7,h8⟩
  ·exact .inl (h5.trans h1)
  rw[h1] at h5 h6;exact .inr ⟨h5,y,t,h6,h7,h8⟩
 rcases h'.got j with h5|⟨h5,y,t,h6,h7,h8⟩
 ·exact .inr ⟨h1,x,s,h5.trans h2,h3,h4⟩
 rw[h2] at h6;exact .inr ⟨h1,y,t,h6,h7,h8⟩⟩
theorem K2.sm {l l' : List V} (h:K2 l l'):Sm l l' := Sm.of fun j=>by
 rcases h.got j with h1|⟨h1,x,s,h2,h3,h4⟩
 ·exact .inl h1
 right
 rw[h2];simp only;refine⟨aK,aK,aK,aK,aK,fun _=>.inr ⟨.inr h1,trivial⟩⟩
theorem K2.set {l:List V} {i:Int} {v:V} {b s:Int} (h:(ab l i).st=2) (hv:v={ ab l i with bal:=b,st:=s }) (hb:0<=b) (hs:s=2\/s=7):K2 l (dT l i v):=⟨wK _ _ _,fun j=>by
 rw[yZ];split
 ·rename_i e;rw[e.2];exact .inr ⟨h,b,s,hv,hb,hs⟩
 exact .inl rfl⟩
theorem K2.vo {l l' : List V} (h:K2 l l') (hv:∀i,ax l i=true->VO (ab l i)):∀i,ax l' i=true->VO (ab l' i):=fun i hi=>by
 rw[xJ h.len] at hi;have:=hv i hi;rcases h.got i with h1|⟨h1,x,s,h2,h3,h4⟩
 ·rw[h1];exact this
 rw[h2];exact⟨h3,by simp only;omega,this.r,this.x,this.w,this.d⟩
theorem CN {l:List V} {i j:Int} (hi:ax l i=true) (hj:ax l j=true):mvN l i.toNat j.toNat=dT (dT l i { ab l i with bal:=0,st:=7 }) j { ab l j with bal:=IntKind.u64.wrap ((ab l j).bal+(ab l i).bal) }:=by
 have h1:=hi;have h2:=hj;obtain⟨a,rfl,ha⟩:=xF hi;obtain⟨b,rfl,hb⟩:=xF hj;unfold dT;rw[bZ h1,bZ (by rw[AM];exact h2),yK ha,yK hb];simp only[mvN,Int.toNat_natCast,sV ha,sV hb]
theorem Cf {l:List V} {i j:Int} {c:C} (h:dN l i j c=0):ax l i=true/\ax l j=true/\i≠j/\(ab l i).st=2/\(ab l j).st=2/\(ab l i).bal+(ab l j).bal<=18446744073709551615:=by
 obtain⟨h1,h2,h3,h4,h5,h6⟩:=nr h;have hi:ax l i=true:=cX ⟨h1,h2⟩;have hj:ax l j=true:=cX ⟨h3,h4⟩;rw[sd hi,sd hj] at h6;have h7:=nN h6;exact⟨hi,hj,h5,h7.1,h7.2.1,h7.2.2.2.2.1⟩
theorem K2.step {c:C} {s:List V × List Bool} {p:PP} (hv:∀i,ax s.1 i=true->VO (ab s.1 i)):K2 s.1 (dy c s p).1/\(bx (dy c s p).1).sum=(bx s.1).sum:=by
 unfold dy;simp only;by_cases h:iX s.1 p c=true
 ·rw[bZ h];obtain⟨h1,h2,h3,h4,h5,h6⟩:=Cf (bW h);have hw:IntKind.u64.wrap ((ab s.1 p.b).bal+(ab s.1 p.a).bal)=(ab s.1 p.b).bal+(ab s.1 p.a).bal:=by
   have:=(hv _ h1).b;have:=(hv _ h2).b;rw[cF];omega
  rw[CN h1 h2,hw];have B7:ab (dT s.1 p.a { ab s.1 p.a with bal:=0,st:=7 }) p.b=ab s.1 p.b:=by rw[yZ,bY (fun hc=>h3 hc.2.symm)]
  have hb2:ax (dT s.1 p.a { ab s.1 p.a with bal:=0,st:=7 }) p.b=true:=by rw[ij];exact h2
  constructor
  ·refine(K2.set (b:=0) (s:=7) h4 rfl aK (.inr rfl)).trans (K2.set (b:=(ab s.1 p.b).bal+(ab s.1 p.a).bal) (s:=2) (by rw[B7];exact h5) ?_ (by have:=(hv _ h1).b;have:=(hv _ h2).b;omega) (.inl rfl));rw[B7];generalize ab s.1 p.b=x at h5 ⊢;cases x;simp only at h5 ⊢;rw[h5]
  rw[vK _ _ _ hb2,B7,vK _ _ _ h1];simp only;omega
 rw[bY h];exact⟨K2.refl _,rfl⟩
theorem K2.fold {c:C}:∀(q:List PP) (s:List V × List Bool),(∀i,ax s.1 i=true->VO (ab s.1 i))->K2 s.1 (q.foldl (dy c) s).1/\(bx (q.foldl (dy c) s).1).sum=(bx s.1).sum
 | [],s,_=>⟨K2.refl _,rfl⟩
 | p :: q,s,hv=>by
  obtain⟨h1,h2⟩:=K2.step (c:=c) (p:=p) hv;obtain⟨h3,h4⟩:=K2.fold (c:=c) q (dy c s p) (h1.vo hv);rw[cR];exact⟨h1.trans h3,h4.trans h2⟩
theorem K2.runM {c:C} {l:List V} (q:List PP) (hv:∀i,ax l i=true->VO (ab l i)):K2 l (runM c l q).1/\(bx (runM c l q).1).sum=(bx l).sum:=K2.fold q (l,[]) hv
theorem gY {l:List V} {r:Rq}:inB l r↔ax l r.i=true:=by unfold inB ax;rw[decide_eq_true_iff]
theorem CH (c:C) (l:List V) (r:Rq):jP c l r=dT l r.i (apV (ab l r.i) r.m c):=by
 by_cases h:inB l r
 ·have hh:=gY.1 h;obtain⟨k,hk,hl⟩:=xF hh;unfold dT;rw[qB hk hl,bZ hh,hk,yK hl];rfl
 rw[tQ h];unfold dT;rw[bY (fun hc=>h (gY.2 hc))]
theorem gW (c:C) (l:List V) (paid:List Y) (r:Rq):gJ c l paid r=if ax l r.i=true then paid++[⟨r.i,min r.m (dm (ab l r.i) c),false⟩] else paid:=by
 by_cases h:inB l r
 ·have hh:=gY.1 h;obtain⟨k,hk,hl⟩:=xF hh;rw[qA hk hl,bZ hh,hk,yK hl]
 rw[tP h,bY (fun hc=>h (gY.2 hc))]
theorem jH {v:V} {c:C} (h:VO v) (hm:v.bal<=18446744073709551615) (hc:0<=c.minb):0<=dm v c/\dm v c<=v.bal/\(v.st≠2->dm v c=0):=by
 have:=h.b;unfold dm;split
 ·exact⟨aK,aK,fun _=>rfl⟩
 rename_i h1;split
 ·exact⟨aK,aK,fun _=>rfl⟩
 rw[cF];refine⟨aK,aK,fun hc=>absurd (.inl hc) h1⟩
def eG (ps:List Y):Int:=(ps.map Y.a).sum
theorem hG (a b:List Y):eG (a++b)=eG a+eG b:=by simp[eG]
theorem lX (ps:List Y):eG (pos ps)=eG ps:=by
 induction ps with
 | nil=>rfl
 | cons y ps ih =>
  unfold pos at ih ⊢;rw[List.filter_cons];split
  ·simp only[eG,cV,dB] at ih ⊢;omega
  rename_i h;have h0:y.a=0:=by simpa using h
  simp only[eG,cV,dB] at ih ⊢;omega
theorem ic:∀{l:List Int},(∀x∈l,0<=x)->∀x∈l,x<=l.sum
 | [],_,x,hx=>by simp at hx
 | a :: l,h,x,hx=>by
  have h0:=xH (l:=l) fun y hy=>h y (by simp[hy]);have h1:=h a aM;rw[dB];rcases cH.1 hx with rfl|hx
  ·omega
  have:=ic (l:=l) (fun y hy=>h y (by simp[hy])) x hx;omega
theorem tF {l:List V} (hv:∀i,ax l i=true->VO (ab l i)) {i:Int} (hi:ax l i=true):(ab l i).bal<=(bx l).sum:=by
 refine ic (fun x hx=>?_) _ (cG.2 ⟨_,vV hi,rfl⟩);obtain⟨v,hv',rfl⟩:=cG.1 hx;obtain⟨j,hj,rfl⟩:=wJ hv';exact(hv j hj).b
theorem K2.pstep {c:C} {s:List V × List Y} {r:Rq} (hv:∀i,ax s.1 i=true->VO (ab s.1 i)) (hm:(bx s.1).sum<=18446744073709551615) (hc:0<=c.minb) (hr:0<=r.m) :
  K2 s.1 (eY c s r).1/\(bx (eY c s r).1).sum+eG (eY c s r).2=(bx s.1).sum+eG s.2/\((∀y∈s.2,0<=y.a/\y.f=false/\ax s.1 y.i=true)->∀y∈(eY c s r).2,0<=y.a/\y.f=false/\ax s.1 y.i=true):=by
 unfold eY;simp only;rw[CH,gW];by_cases hh:ax s.1 r.i=true
 ·have h1:=hv _ hh;have h2:=tF hv hh;obtain⟨a1,a2,a3⟩:=jH h1 aK hc;have hp:0<=min r.m (dm (ab s.1 r.i) c)/\min r.m (dm (ab s.1 r.i) c)<=(ab s.1 r.i).bal:=by omega
  have hw:IntKind.u64.wrap ((ab s.1 r.i).bal-min r.m (dm (ab s.1 r.i) c))=(ab s.1 r.i).bal-min r.m (dm (ab s.1 r.i) c):=by rw[cF];omega
  have hap:apV (ab s.1 r.i) r.m c={ ab s.1 r.i with bal:=(ab s.1 r.i).bal-min r.m (dm (ab s.1 r.i) c) }:=by unfold apV;rw[hw]
  rw[bZ hh];refine⟨?_,?_,fun h y hy=>?_⟩
  ·by_cases h2:(ab s.1 r.i).st=2
   ·refine K2.set (b:=(ab s.1 r.i).bal-min r.m (dm (ab s.1 r.i) c)) (s:=2) h2 ?_ aK (.inl rfl);rw[hap];generalize ab s.1 r.i=x at h2 ⊢;cases x;simp only at h2 ⊢;rw[h2]
   refine⟨wK _ _ _,fun j=>.inl ?_⟩;rw[yZ];split
   ·rename_i e;rw[hap,e.2];have h0:=a3 h2;have h5:(ab s.1 r.i).bal-min r.m (dm (ab s.1 r.i) c)=(ab s.1 r.i).bal:=by omega
    rw[h5]
   rfl
  ·rw[vK _ _ _ hh,hap,hG];simp only[eG,cV,List.map_nil,dB,List.sum_nil];omega
  rcases cK.1 hy with hy|hy
  ·exact h y hy
  simp only[cH,cE,or_false] at hy;subst hy;exact⟨hp.1,rfl,hh⟩
 rw[bY hh];have:dT s.1 r.i (apV (ab s.1 r.i) r.m c)=s.1:=by unfold dT;rw[bY hh]
 rw[this];exact⟨K2.refl _,rfl,fun h=>h⟩
theorem K2.pfold {c:C} (hc:0<=c.minb):∀(q:List Rq) (s:List V × List Y),(∀r∈q,0<=r.m)->(∀i,ax s.1 i=true->VO (ab s.1 i))->(bx s.1).sum<=18446744073709551615->(∀y∈s.2,0<=y.a) ->
  K2 s.1 (q.foldl (eY c) s).1/\(bx (q.foldl (eY c) s).1).sum+eG (q.foldl (eY c) s).2=(bx s.1).sum+eG s.2/\((∀y∈s.2,0<=y.a/\y.f=false/\ax s.1 y.i=true)->∀y∈(q.foldl (eY c) s).2,0<=y.a/\y.f=false/\ax s.1 y.i=true)
 | [],s,_,_,_,_=>⟨K2.refl _,rfl,fun h=>h⟩
 | r :: q,s,hq,hv,hm,hs=>by
  obtain⟨h1,h2,h3⟩:=K2.pstep (s:=s) (r:=r) hv hm hc (hq r aM);have h0:∀y∈(eY c s r).2,0<=y.a:=fun y hy=>by
   unfold eY at hy;simp only at hy;rw[gW] at hy;split at hy
   ·rename_i hh;rcases cK.1 hy with hy|hy
    ·exact hs y hy
    simp only[cH,cE,or_false] at hy;subst hy;obtain⟨a1,_,_⟩:=jH (hv _ hh) (by have:=tF hv hh;omega) hc;have:=hq r aM;simp only;omega
   exact hs y hy
  have hs2:eG s.2<=eG (eY c s r).2:=by
   unfold eY;simp only;rw[gW];split
   ·rename_i hh;obtain⟨a1,_,_⟩:=jH (hv _ hh) (by have:=tF hv hh;omega) hc;have:=hq r aM;rw[hG];simp only[eG,cV,List.map_nil,dB,List.sum_nil];omega
   exact Int.le_refl _
  obtain⟨g1,g2,g3⟩:=K2.pfold hc q (eY c s r) (fun x hx=>hq x (by simp[hx])) (h1.vo hv) aK h0;rw[cR];refine⟨h1.trans g1,aK,fun h y hy=>?_⟩;have:=g3 (fun z hz=>by
   have:=h3 h z hz;exact⟨this.1,this.2.1,by rw[xJ h1.len];exact this.2.2⟩) y hy
  exact⟨this.1,this.2.1,by rw[←xJ h1.len];exact this.2.2⟩
theorem K2.run {c:C} (hc:0<=c.minb) {l:List V} (q:List Rq) (hq:∀r∈q,0<=r.m) (hv:∀i,ax l i=true->VO (ab l i)) (hm:(bx l).sum<=18446744073709551615) :
  K2 l (run c l q).1/\(bx (run c l q).1).sum+eG (run c l q).2=(bx l).sum/\∀y∈(run c l q).2,0<=y.a/\y.f=false/\ax l y.i=true:=by
 obtain⟨h1,h2,h3⟩:=K2.pfold hc q (l,[]) hq hv hm aM;exact⟨h1,by simpa[eG,Go.Proofs.YtdddiilocbbkkaaGreat.run] using h2,h3 aM⟩
theorem EU {v:V} {e:Int} (h:v.st=5) (hw:v.wd<=e):db v e=({ v with st:=6,bal:=0 },v.bal,0):=by
 unfold db;have:nxt v.st 5=6:=by rw[iY aK,bZ h];rfl
 rw[this,bY aK,bY aK]
theorem wR {l0:List V} {e:Int}:∀(is:List Int) (l:List V) (ps:List Y),is.Nodup->(∀i∈is,(ab l0 i).st=5/\(ab l0 i).wd<=e/\ab l i=ab l0 i) ->
  (is.foldl (cx l0 e) (l,ps)).1.length=l.length/\(∀j,ab (is.foldl (cx l0 e) (l,ps)).1 j=if j∈is then { ab l0 j with st:=6,bal:=0 } else ab l j) /\
  (is.foldl (cx l0 e) (l,ps)).2=ps++is.map (fun i=>⟨i,(ab l0 i).bal,true⟩)/\(bx (is.foldl (cx l0 e) (l,ps)).1).sum+eG (is.foldl (cx l0 e) (l,ps)).2=(bx l).sum+eG ps
 | [],l,ps,_,_=>⟨rfl,fun j=>by simp,aM,rfl⟩
 | i :: is,l,ps,hn,h=>by
  obtain⟨h1,h2,h3⟩:=h i aM;rw[List.nodup_cons] at hn;have hh:ax l i=true:=yL (by rw[h3];omega);have e1:cx l0 e (l,ps) i=(dT l i { ab l0 i with st:=6,bal:=0 },ps++[⟨i,(ab l0 i).bal,true⟩]):=by
   unfold cx;rw[EU h1 h2]
  have B7:∀j∈is,ab (dT l i { ab l0 i with st:=6,bal:=0 }) j=ab l j:=fun j hj=>by
   rw[yZ,bY];rintro⟨_,rfl⟩;exact hn.1 hj
  obtain⟨g1,g2,g3,g4⟩:=wR (l0:=l0) (e:=e) is (dT l i { ab l0 i with st:=6,bal:=0 }) (ps++[⟨i,(ab l0 i).bal,true⟩]) hn.2 (fun j hj=>by
   obtain⟨k1,k2,k3⟩:=h j (by simp[hj]);exact⟨k1,k2,by rw[B7 j hj,k3]⟩)
  rw[cR,e1];refine⟨by rw[g1,wK],fun j=>?_,?_,?_⟩
  ·rw[g2 j,yZ];by_cases hj:j=i
   ·subst hj;rw[bY hn.1,bZ ⟨hh,rfl⟩,bZ aM]
   rw[bY (show¬(ax l i=true/\j=i) from fun hc=>hj hc.2)];simp[hj]
  ·rw[g3];simp
  rw[g4,vK _ _ _ hh,hG,h3];simp only[eG,cV,List.map_nil,dB,List.sum_nil];omega
structure Cmo (c:C):Prop where
 qsize:1<=c.qsize/\c.qsize<=4096
 mind:1<=c.mind/\c.mind<=c.maxd
 maxd:c.maxd<=c.supc/\c.supc<=1152921504606846976
 minb:1<=c.minb/\c.minb<=c.mind
 maxb:c.maxd<=c.maxb/\c.maxb<=c.supc
 quot:1<=c.quot
 rlen:1<=c.rlen/\c.rlen<=4096
 merg:0<=c.merg/\c.merg<=4096
 pnum:c.pnum<=c.pden
 pden:1<=c.pden/\c.pden<=4294967296
theorem yM {c:C} (h:chk c=0):Cmo c:=by
 have h2:=yC h 2 aK aK;have h3:=yC h 3 aK aK;have h4:=yC h 4 aK aK;have h5:=yC h 5 aK aK;have h6:=yC h 6 aK aK;have h7:=yC h 7 aK aK;have h9:=yC h 9 aK aK;have P7:=yC h 13 aK aK;have h18:=yC h 18 aK aK;have h19:=yC h 19 aK aK;have h20:=yC h 20 aK aK;simp[ar,btw] at h2 h3 h4 h5 h6 h7 h9 P7 h18 h19 h20;exact⟨h2,⟨h3,h4⟩,h5,h6,h7,h9,P7,h18,h19,h20⟩
structure Inv (s:Eg):Prop where
 cc:chk s.c=0
 ck:s.c.ok
 blk:s.blk<=1000000000
 cap:(s.l.length:Int)<=s.c.capa
 vo:∀i,ax s.l i=true->VO (ab s.l i)
 sum:(bx s.l).sum=s.dep-s.paid-s.burn
 led:LOk s.c.supc s.dep s.paid s.burn
 qf:s.q.f.length<=s.c.qsize.toNat/\s.q.v.length<=s.c.qsize.toNat
 pe:s.pend.length<=s.c.qsize.toNat
 mg:s.mg.length<=s.c.qsize.toNat
 pt:s.pt.length<=s.c.qsize.toNat
 pm:∀r∈s.pt,0<=r.m
 cur:s.cur<=4096
 m:s.m.ok
 e:et s.ep s.l s.q s.bo s.lv
theorem Inv.cok {s:Eg} (h:Inv s):Cok s.c:=lL h.cc h.ck
theorem AZ (s:Eg):0<=s.ep:=Int.natCast_nonneg _
theorem Aa (s:Eg):s.ep<=s.blk:=by
 have h:=Nat.div_le_self s.blk s.c.elen.toNat
 unfold Eg.ep;generalize s.blk/s.c.elen.toNat=q at h ⊢;omega
theorem Inv.epb {s:Eg} (h:Inv s):0<=s.ep/\s.ep<=1000000000:=by have:=AZ s;have:=Aa s;have:=h.blk;omega
theorem HN {e:Int} (h:0<=e/\e<=1000000000):eN [e]=true:=by
 unfold eN;refine cX ⟨fun x hx=>?_,by simp;omega⟩;simp at hx;omega
theorem GB {e d:Int} (h:0<=e/\e<=1000000000) (hd:0<=d/\d<=1048576):eN [e,d]=true/\eh [e,d]=e+d:=by
 have hb:eN [e,d]=true:=by
  unfold eN;refine cX ⟨fun x hx=>?_,by simp;omega⟩;simp at hx;omega
 exact⟨hb,by unfold eh;rw[bZ hb];simp⟩
theorem Cc (l:List Int):0<=eh l/\eh l<=1099511627776:=by
 unfold eh;split
 ·rename_i h;have h:=bW h;exact⟨xH h.1,h.2⟩
 omega
theorem DL (e a b:Int) (c:C) (l:List Int):0<=ez e a b c l/\ez e a b c l<=1099511627776:=by
 unfold ez;split
 ·exact Cc _
 omega
theorem VO.z_wd (l:List V) (hv:∀i,ax l i=true->VO (ab l i)) (j:Int):(ab l j).wd<=1099511627776:=by
 rcases Bool.eq_false_or_eq_true (ax l j) with h|h
 ·exact(hv j h).w.2
 rw[wW h];simp[V.z]
theorem pi {l:List V} {i:Int} {v:V} (hv:∀i,ax l i=true->VO (ab l i)) (h:VO v):∀j,ax (dT l i v) j=true->VO (ab (dT l i v) j):=fun j hj=>by
 rw[ij] at hj;rw[yZ];split
 ·exact h
 exact hv j hj
theorem xU {l:List V} {i:Int} (h:ax l i=true) (v:V):l.set i.toNat v=dT l i v:=by unfold dT;rw[bZ h]
theorem iZ {f v:List Int} {i:Int} (h:(f++v).Nodup) (hi:i∉f++v):(f++[i]++v).Nodup/\(f++(v++[i])).Nodup:=by
 have h1:(i :: (f++v)).Nodup:=List.nodup_cons.2 ⟨hi,h⟩;constructor
 ·refine List.Perm.nodup_iff ?_ |>.1 h1
  rw[cJ];exact List.perm_middle.symm
 refine List.Perm.nodup_iff ?_ |>.1 h1
 rw[←cJ];exact(List.perm_append_comm (l₁:=[i]) (l₂:=f++v))
theorem mS {sz:Nat} {cl i:Int} {q:LL} (hc:cl=0\/cl=1) (hf:eW sz cl q≠0):cg sz cl i q=if cl=0 then⟨q.f++[i],q.v⟩ else⟨q.f,q.v++[i]⟩:=by
 unfold cg;unfold eW at hf;rcases hc with rfl|rfl
 ·simp only[if_true] at hf ⊢;rw[bZ aK]
 simp only[show¬((1:Int)=0) from by decide,if_false,if_true] at hf ⊢;rw[bZ aK]
theorem et.push {ep:Int} {l:List V} {q:LL} {bo:List En} {lv:List Int} (h:et ep l q bo lv) {i:Int} {v:V} (hi:(ab l i).st=2) (hv:v.st=3) (hx:v.ex=(ab l i).ex) {sz:Nat} {cl:Int} (hc:cl=0\/cl=1) (hf:eW sz cl q≠0) :
  et ep (dT l i v) (cg sz cl i q) bo lv:=by
 have hh:ax l i=true:=yL aK;have D5:v.ex=-1:=hx.trans (h.nex i (.inr hi));have g:∀j,ab (dT l i v) j=if j=i then v else ab l j:=fun j=>by rw[yZ];simp[hh]
 have gn:∀j,j≠i->ab (dT l i v) j=ab l j:=fun j hj=>by rw[g j,bY hj]
 have gi:ab (dT l i v) i=v:=by rw[g i,bZ rfl]
 have hnq:i∉q.f++q.v:=fun hc=>by have:=((h.lan i).1 hc).1;omega
 have hmem:∀j,j∈(cg sz cl i q).f++(cg sz cl i q).v↔j=i\/j∈q.f++q.v:=fun j=>by
  rw[mS hc hf];split<;>simp[cK]<;>(constructor<;>intro hq<;>rcases hq with hq|hq|hq<;>simp[hq])
 refine⟨?_,fun j=>?_,h.vnd,fun j=>?_,fun j hj=>?_,h.bnd,fun j=>?_,fun x hx=>?_,fun j hj=>?_,fun j hj=>?_⟩
 ·rw[mS hc hf];split
  ·exact(iZ h.lnd hnq).1
  exact(iZ h.lnd hnq).2
 ·rw[hmem j];by_cases hj:j=i
  ·subst hj;rw[gi];simp[hv,D5]
  rw[gn j hj,←h.lan j];simp[hj]
 ·by_cases hj:j=i
  ·subst hj;rw[gi];constructor
   ·intro hc;have:=((h.lvs j).1 hc).1;omega
   intro hc;exact absurd D5 hc.2
  rw[gn j hj];exact h.lvs j
 ·rw[gn j (fun hc=>by subst hc;have:=((h.lvs j).1 hj).1;omega)];exact h.lex j hj
 ·by_cases hj:j=i
  ·subst hj;rw[gi];constructor
   ·intro hc;have:=(h.bon j).1 hc;omega
   intro hc;rcases hc with hc|hc
   ·omega
   exact absurd D5 hc.2
  rw[gn j hj];exact h.bon j
 ·rw[gn x.i (fun hc=>by have:=(h.bon x.i).1 (cG.2 ⟨x,hx,rfl⟩);rw[hc] at this;omega)];exact h.bep x hx
 ·by_cases D6:j=i
  ·subst D6;rw[gi] at hj;omega
  rw[gn j D6] at hj ⊢;exact h.nex j hj
 by_cases D6:j=i
 ·subst D6;rw[gi] at hj;omega
 rw[gn j D6] at hj ⊢;exact h.rdy j hj
theorem et.sl34 {ep:Int} {l:List V} {q:LL} {bo:List En} {lv:List Int} (h:et ep l q bo lv) {i:Int} {v:V} (hi:(ab l i).st=3\/(ab l i).st=4) (hv:v.st=(ab l i).st) (hx:v.ex=(ab l i).ex) (hw:(ab l i).wd<=v.wd) :
  et ep (dT l i v) q bo lv:=by
 have hh:ax l i=true:=yL aK;have g:∀j,(ab (dT l i v) j).st=(ab l j).st/\(ab (dT l i v) j).ex=(ab l j).ex/\(ab l j).wd<=(ab (dT l i v) j).wd:=fun j=>by
  rw[yZ];split
  ·rename_i e;rw[e.2];exact⟨hv,hx,hw⟩
  exact⟨rfl,rfl,Int.le_refl _⟩
 have gn:∀j,(ab l j).st≠3->(ab l j).st≠4->ab (dT l i v) j=ab l j:=fun j h1 h2=>by
  rw[yZ,bY];rintro⟨_,rfl⟩;omega
 refine⟨h.lnd,fun j=>?_,h.vnd,fun j=>?_,fun j hj=>?_,h.bnd,fun j=>?_,fun x hx=>?_,fun j hj=>?_,fun j hj=>?_⟩
 ·rw[(g j).1,(g j).2.1];exact h.lan j
 ·rw[(g j).1,(g j).2.1];exact h.lvs j
 ·rw[(g j).2.1];exact h.lex j hj
 ·rw[(g j).1,(g j).2.1];exact h.bon j
 ·have:=h.bep x hx;have:=(g x.i).2.2;rw[(g x.i).1];exact⟨aK,aK,aK⟩
 ·rw[(g j).1] at hj;rw[(g j).2.1];exact h.nex j hj
 rw[(g j).1] at hj;rw[gn j aK aK];exact h.rdy j hj
theorem et.sl5 {ep:Int} {l:List V} {q:LL} {bo:List En} {lv:List Int} (h:et ep l q bo lv) {i:Int} {v:V} (hi:(ab l i).st=5) (hv:v.st=4) (hw:ep+1<=v.wd) :
  et ep (dT l i v) q (bo++[⟨v.wd,i⟩]) lv:=by
 have hh:ax l i=true:=yL aK;have g:∀j,ab (dT l i v) j=if j=i then v else ab l j:=fun j=>by rw[yZ];simp[hh]
 have gn:∀j,j≠i->ab (dT l i v) j=ab l j:=fun j hj=>by rw[g j,bY hj]
 have gi:ab (dT l i v) i=v:=by rw[g i,bZ rfl]
 have nb:i∉bo.map En.i:=fun hc=>by have:=(h.bon i).1 hc;omega
 refine⟨h.lnd,fun j=>?_,h.vnd,fun j=>?_,fun j hj=>?_,?_,fun j=>?_,fun x hx=>?_,fun j hj=>?_,fun j hj=>?_⟩
 ·by_cases hj:j=i
  ·subst hj;rw[gi,h.lan j];omega
  rw[gn j hj];exact h.lan j
 ·by_cases hj:j=i
  ·subst hj;rw[gi,h.lvs j];omega
  rw[gn j hj];exact h.lvs j
 ·rw[gn j (fun hc=>by subst hc;have:=((h.lvs j).1 hj).1;omega)];exact h.lex j hj
 ·rw[cA];refine List.nodup_append.2 ⟨h.bnd,aM,fun a ha b hb hab=>?_⟩;simp at hb;subst hb;subst hab;exact nb ha
 ·rw[cA,cK,h.bon j];by_cases hj:j=i
  ·subst hj;rw[gi];simp[hv]
  rw[gn j hj];simp[hj]
 ·rcases cK.1 hx with hx|hx
  ·have h1:x.i≠i:=fun hc=>nb (by rw[←hc];exact cG.2 ⟨x,hx,rfl⟩);rw[gn x.i h1];exact h.bep x hx
  simp only[cH,cE,or_false] at hx;subst hx;simp only[gi];exact⟨hw,Int.le_refl _,fun hc=>by omega⟩
 ·by_cases D6:j=i
  ·subst D6;rw[gi] at hj;omega
  rw[gn j D6] at hj ⊢;exact h.nex j hj
 by_cases D6:j=i
 ·subst D6;rw[gi] at hj;omega
 rw[gn j D6] at hj ⊢;exact h.rdy j hj
theorem et.ep_eq {ep ep' : Int} {l:List V} {q:LL} {bo:List En} {lv:List Int} (h:et ep l q bo lv) (e:ep=ep'):et ep' l q bo lv:=e ▸ h
theorem BA (l:List V) (v:V):(bx (l++[v])).sum=(bx l).sum+v.bal:=by simp[bx]
theorem Ae {s:Eg} (h:Inv s) {o:Op} (ho:0<=o.a/\o.a<=18446744073709551615):Inv (dz s o).1:=by
 unfold dz;split
 ·exact h
 split
 ·exact h
 split
 ·exact h
 split
 ·exact h
 rename_i h1 h2 h3 h4;have hl:eR s.c.supc s.dep s.paid s.burn o.a=0:=Classical.byContradiction h4;unfold eR at hl;have y2:=h.led;obtain⟨l1,l2,l3,l4,l5,l6⟩:=y2;split at hl
 ·omega
 split at hl
 ·omega
 rename_i h5 h6;refine⟨h.cc,h.ck,h.blk,?_,fun i hi=>?_,?_,⟨l1,l2,by show s.paid+s.burn<=s.dep+o.a;omega,by show s.dep+o.a<=_;omega,by show s.dep+o.a-s.paid-s.burn<=s.c.supc;omega,l6⟩,h.qf,?_,h.mg,h.pt,h.pm,h.cur,h.m,h.e.sm (Sm.app rfl rfl)⟩
 ·show(((s.l++_).length:Nat):Int)<=_;simp only[cQ,List.length_singleton];omega
 ·show VO (ab (s.l++_) i);rw[ku];split
  ·exact⟨ho.1,aM,aM,aM,aM,aM⟩
  rename_i B7;refine h.vo i ?_;have hi:ax (s.l++[_]) i=true:=hi;unfold ax at hi ⊢;have hi:=bW hi;simp at hi;exact cX aK
 ·show(bx (s.l++[_])).sum=s.dep+o.a-s.paid-s.burn;rw[BA,h.sum];simp only;omega
 show(s.pend++[_]).length<=_;simp only[cQ,List.length_singleton];omega
theorem pd {v:V} {e:Int} (he:0<=e/\e<=1000000000):cy v e=if nxt v.st 2=0 then(V.z,8) else({ v with rq:=e,st:=nxt v.st 2 },0):=by
 unfold cy;rw[bY (by rw[HN he];simp)]
theorem HM {s:Int} (h:nxt s 2≠0):s=2/\nxt s 2=3:=by
 rw[iY aK] at h ⊢;by_cases hs:s=2
 ·rw[bZ hs];exact⟨hs,rfl⟩
 rw[bY hs] at h;exact absurd rfl h
theorem rI {s:Eg} (h:Inv s) {cl i:Int} (hc:cl=0\/cl=1):Inv (bv s cl i).1:=by
 unfold bv;split
 ·exact h
 split
 ·exact h
 split
 ·exact h
 split
 ·exact h
 rename_i h1 h2 h3 h4;have hh:ax s.l i=true:=by simpa using h1
 have he:=h.epb;have ha:(cy (ab s.l i) s.ep).2=0:=Classical.byContradiction h2;rw[pd he] at ha;have hn:nxt (ab s.l i).st 2≠0:=fun hc=>by rw[bZ hc] at ha;simp at ha
 obtain⟨h5,h6⟩:=HM hn;have hv:(cy (ab s.l i) s.ep).1={ ab s.l i with rq:=s.ep,st:=3 }:=by rw[pd he,bY hn,h6]
 have hb:=DL s.ep (df (fh s.l (bq cl s.q))) (cy (ab s.l i) s.ep).1.bal s.c [s.c.unb,dU s.c];have s7:=h.vo i hh;simp only[xU hh];generalize ez s.ep (df (fh s.l (bq cl s.q))) (cy (ab s.l i) s.ep).1.bal s.c [s.c.unb,dU s.c]=d at hb ⊢;rw[hv];have hq:=sG (sz:=s.c.qsize.toNat) cl i h.qf;refine⟨h.cc,h.ck,h.blk,by show((dT _ _ _).length:Int)<=_;rw[wK];exact h.cap,pi h.vo ⟨s7.b,aM,by simp only;omega,s7.x,s7.w,by simp only;omega⟩,?_,h.led,hq,h.pe,h.mg,h.pt,h.pm,h.cur,h.m,?_⟩
 ·show(bx (dT _ _ _)).sum=_;exact(congrArg List.sum (pI aP)).trans h.sum
 exact h.e.push h5 aP aP hc h3
theorem gh {b:Int} {c:C} (h0:0<=b) (hn:0<=c.pnum) (hd:1<=c.pden):0<=eM b c/\eM b c<=b:=by
 unfold eM;split
 ·omega
 rename_i h;constructor
 ·exact Int.ediv_nonneg (Int.mul_nonneg h0 hn) aK
 have:b*c.pnum<=b*c.pden:=Int.mul_le_mul_of_nonneg_left aK h0;have h9:=Int.ediv_le_ediv (a:=b*c.pnum) (b:=b*c.pden) (c:=c.pden) aK this;rwa [Int.mul_ediv_cancel _ aK] at h9
theorem HL {s:Int} (h:nxt s 7≠0):(s=2\/s=3\/s=4\/s=5)/\nxt s 7=if s=2\/s=3 then 3 else 4:=by
 unfold nxt at h ⊢;rw[bZ rfl] at h ⊢;by_cases h1:s=2\/s=3
 ·rw[bZ h1,bZ h1];exact⟨aK,rfl⟩
 rw[bY h1] at h ⊢;rw[bY h1];by_cases h2:s=4\/s=5
 ·rw[bZ h2];exact⟨aK,rfl⟩
 rw[bY h2] at h;exact absurd rfl h
theorem vx {v:V} {e:Int} {c:C} (he:0<=e/\e<=1000000000) (hc:0<=c.sld/\c.sld<=1048576) (h0:0<=v.bal) (hm:v.bal<=18446744073709551615) (hn:0<=c.pnum) (hd:1<=c.pden) :
  bh v e c=if v.sl=true then(V.z,0,9) else if nxt v.st 7=0 then(V.z,0,8) else({ v with bal:=v.bal-eM v.bal c,st:=nxt v.st 7,sl:=true,rq:=if v.st=2 then e else v.rq,wd:=max v.wd (e+c.sld),dl:=-1 },eM v.bal c,0):=by
 obtain⟨h1,h2⟩:=GB he hc;have hb:=gh h0 hn hd;unfold bh;rw[h2,bY (show¬(eN [e,c.sld]=false) by rw[h1];simp),cF,Int.emod_eq_of_lt aK aK]
theorem rB {s:Eg} (h:Inv s) {i:Int}:Inv (ci s i).1:=by
 have hk:=h.cok;have he:=h.epb;have hck:=h.ck;unfold ci;split
 ·exact h
 rename_i h1;have hh:ax s.l i=true:=by simpa using h1
 have s7:=h.vo i hh;have H9:=tF h.vo hh;have t6:=h.sum;obtain⟨l1,l2,l3,l4,l5,l6⟩:=h.led;have J5:0<=s.c.pnum:=hck.pnum.1;have S9:1<=s.c.pden:=(yM h.cc).pden.1;have hsl:0<=s.c.sld/\s.c.sld<=1048576:=by have:=hk.sld;have:=hk.unb;omega
 have J8:=vx (v:=ab s.l i) (c:=s.c) he hsl s7.b aK J5 S9;have F8:=gh (c:=s.c) s7.b J5 S9;simp only;split
 ·exact h
 split
 ·exact h
 split
 ·exact h
 rename_i h2 h3 h4;have h4:(bh (ab s.l i) s.ep s.c).2.2=0:=Classical.byContradiction h4;rw[J8] at h4;have hs:¬(ab s.l i).sl=true:=fun hc=>by rw[bZ hc] at h4;simp at h4
 rw[bY hs] at h4 J8;have hn:nxt (ab s.l i).st 7≠0:=fun hc=>by rw[bZ hc] at h4;simp at h4
 rw[bY hn] at J8;obtain⟨h5,h6⟩:=HL hn;have hbk:dW s.dep s.paid s.burn (eM (ab s.l i).bal s.c)=0:=by unfold dW;rw[bY aK]
 rw[J8];simp only;rw[hbk,bZ rfl,xU hh];have hvo' : VO { ab s.l i with bal:=(ab s.l i).bal-eM (ab s.l i).bal s.c,st:=nxt (ab s.l i).st 7,sl:=true,rq:=if(ab s.l i).st=2 then s.ep else(ab s.l i).rq,wd:=max (ab s.l i).wd (s.ep+s.c.sld),dl:=-1 }:=by
  have:=s7.w;have:=s7.r;refine⟨by simp only;omega,by simp only;rw[h6];split<;>omega,by simp only;split<;>omega,s7.x,by simp only;omega,aM⟩
 generalize hw:({ ab s.l i with bal:=(ab s.l i).bal-eM (ab s.l i).bal s.c,st:=nxt (ab s.l i).st 7,sl:=true,rq:=if(ab s.l i).st=2 then s.ep else(ab s.l i).rq,wd:=max (ab s.l i).wd (s.ep+s.c.sld),dl:=-1 }:V)=w at hvo';have w1:w.bal=(ab s.l i).bal-eM (ab s.l i).bal s.c:=by rw[←hw]
 have w2:w.st=if(ab s.l i).st=2\/(ab s.l i).st=3 then 3 else 4:=by rw[←hw];exact h6
 have w3:w.wd=max (ab s.l i).wd (s.ep+s.c.sld):=by rw[←hw]
 have w4:w.ex=(ab s.l i).ex:=by rw[←hw]
 have X4:∀q bo,(q.f.length<=s.c.qsize.toNat/\q.v.length<=s.c.qsize.toNat)->et s.ep (dT s.l i w) q bo s.lv->Inv { s with l:=dT s.l i w,burn:=s.burn+eM (ab s.l i).bal s.c,q:=q,bo:=bo }:=fun q bo hq hE =>
  ⟨h.cc,h.ck,h.blk,by show((dT _ _ _).length:Int)<=_;rw[wK];exact h.cap,pi h.vo hvo',by show(bx (dT _ _ _)).sum=s.dep-s.paid-(s.burn+_);rw[vK _ _ _ hh,w1];omega,
   ⟨l1,by show 0<=s.burn+_;omega,by show s.paid+(s.burn+eM (ab s.l i).bal s.c)<=s.dep;omega,l4,by show s.dep-s.paid-(s.burn+eM (ab s.l i).bal s.c)<=s.c.supc;omega,l6⟩,hq,h.pe,h.mg,h.pt,h.pm,h.cur,h.m,hE⟩
 by_cases c2:(ab s.l i).st=2
 ·rw[bZ c2,bY (show¬(ab s.l i).st=5 by omega)];have hf:eW s.c.qsize.toNat 0 s.q≠0:=fun hc=>h3 ⟨c2,hc⟩;exact X4 _ _ (sG _ _ h.qf) (h.e.push c2 (by rw[w2,bZ (.inl c2)]) w4 (.inl rfl) hf)
 rw[bY c2];by_cases c5:(ab s.l i).st=5
 ·rw[bZ c5,←w3,ke (by have:=hvo'.w;omega)];exact X4 _ _ h.qf (h.e.sl5 c5 (by rw[w2,bY aK]) (by have:=hk.sld;have:=hk.unb;omega))
 rw[bY c5];refine X4 _ _ h.qf (h.e.sl34 aK ?_ w4 aK);rw[w2];split<;>omega
theorem ue {s:Eg} (h:Inv s) {i t:Int}:Inv (dk s i t).1:=by
 unfold dk;split
 ·exact h
 split
 ·exact h
 exact⟨h.cc,h.ck,h.blk,h.cap,h.vo,h.sum,h.led,h.qf,h.pe,by show(s.mg++[_]).length<=_;simp only[cQ,List.length_singleton];omega,h.pt,h.pm,h.cur,h.m,h.e⟩
theorem ti {s:Eg} (h:Inv s) {i a:Int} (ha:0<=a):Inv (dh s i a).1:=by
 unfold dh;split
 ·exact h
 split
 ·exact h
 refine⟨h.cc,h.ck,h.blk,h.cap,h.vo,h.sum,h.led,h.qf,h.pe,h.mg,by show(s.pt++[_]).length<=_;simp only[cQ,List.length_singleton];omega,fun r hr=>?_,h.cur,h.m,h.e⟩;rcases cK.1 hr with hr|hr
 ·exact h.pm r hr
 simp only[cH,cE,or_false] at hr;subst hr;exact ha
theorem lV {e:Int} (he:1<=e/\e<=5) (is:List Int) {l:List V} (hv:∀i,ax l i=true->VO (ab l i)):∀i,ax (is.foldl (fun l i=>evV l i e) l) i=true->VO (ab (is.foldl (fun l i=>evV l i e) l) i):=fun i hi=>by
 rw[xJ (vX he is l).1] at hi;rw[vS he];have:=hv i hi;split
 ·exact⟨this.b,by simp only;omega,this.r,this.x,this.w,this.d⟩
 exact this
theorem vr {W:List Int} {e lim:Int} {q:LL} {m:M} (hW:∀x∈W,0<=x) (hl:0<=lim) (h:m.ok):(ce W e lim q m).2.2.ok:=(ld hW hl h).2
theorem qN:∀{l:List V},(∀v∈l,0<=v.bal)->0<=dZ l/\dZ l<=(bx l).sum
 | [],_=>⟨Int.le_refl _,Int.le_refl _⟩
 | v :: l,h=>by
  have ih:=qN (l:=l) fun x hx=>h x (by simp[hx]);have h0:=h v aM;simp only[dZ,bx,cV,dB] at ih ⊢;split<;>omega
theorem jC {a m q:Int} (ha:0<=a) (hm:0<=m):0<=dK a m q:=by
 unfold dK;split
 ·exact hm
 omega
structure Bdy (s:Eg) where
 l1:List V
 l2:List V
 b2:List En
 ag:List As
 l3:List V
 l4:List V
 l5:List V
 f1:l1=s.lv.foldl (fun l i=>evV l i 3) s.l
 f2:Rip s.ep l1 l2 s.bo
 f3:Asg s.ep s.c l2 l3 ag
 f4:∃is:List Int,l4=is.foldl (fun l i=>evV l i 1) l3
 f5:K2 l4 l5
 d1:Mid s.ep s.ep l1 s.q s.bo
 d2:Mid s.ep (s.ep+1) l2 s.q b2
 hl:(dO s).1.l=l5
 ha:(dO s).2=ag
 hs:∃a b:Nat,ag=(s.q.f.take a).map (fun i=>As.mk i 0 (s.ep+1))++(s.q.v.take b).map (fun i=>As.mk i 1 (s.ep+1))/\a<=s.q.f.length/\b<=s.q.v.length/\(0<b->a=s.q.f.length)
theorem Aw {s:Eg} (hcc:chk s.c=0) (hck:s.c.ok) (u6:s.blk<=1000000000) (j5:(s.l.length:Int)<=s.c.capa) (s7:∀i,ax s.l i=true->VO (ab s.l i)) (t6:(bx s.l).sum=s.dep-s.paid-s.burn) (y2:LOk s.c.supc s.dep s.paid s.burn)
  (y8:s.q.f.length<=s.c.qsize.toNat/\s.q.v.length<=s.c.qsize.toNat) (X6:s.pend.length<=s.c.qsize.toNat) (hmg:s.mg.length<=s.c.qsize.toNat) (hpt:s.pt.length<=s.c.qsize.toNat) (hpm:∀r∈s.pt,0<=r.m) (hcur:s.cur<=4096) (hm:s.m.ok) (hE:et (s.ep-1) s.l s.q s.bo s.lv) :
  Nonempty (Bdy s)/\Inv (dO s).1:=by
 have hk:=lL hcc hck;have J9:0<=s.ep/\s.ep<=1000000000:=by have:=AZ s;have:=Aa s;omega
 have d1:Mid s.ep s.ep (s.lv.foldl (fun l i=>evV l i 3) s.l) s.q s.bo:=hE.mid;have v1:=lV (e:=3) aK s.lv s7;have n1:(s.lv.foldl (fun l i=>evV l i 3) s.l).length=s.l.length:=(vX aK _ _).1;have s1:bx (s.lv.foldl (fun l i=>evV l i 3) s.l)=bx s.l:=xR 3 _ _;unfold dO;simp only;generalize hl1:s.lv.foldl (fun l i=>evV l i 3) s.l=l1 at d1 v1 n1 s1 ⊢;obtain⟨f2,d2⟩:=d1.rip J9.1 (VO.z_wd l1 v1);have s2:bx (eQ s.ep (l1,s.bo)).1=bx l1:=qK s.ep _ _;generalize hr:eQ s.ep (l1,s.bo)=r at f2 d2 s2 ⊢;obtain⟨l2,b2⟩:=r;simp only at f2 d2 s2 ⊢;have n2:=f2.len;have v2:∀i,ax l2 i=true->VO (ab l2 i):=fun i hi=>by
  rw[xJ f2.len] at hi;have:=v1 i hi;rw[f2.got];split
  ·exact⟨this.b,aM,this.r,this.x,this.w,this.d⟩
  exact this
 have hWn:∀x∈bx l2,0<=x:=fun x hx=>by
  obtain⟨v,hv,rfl⟩:=cG.1 hx;obtain⟨j,hj,rfl⟩:=wJ hv;exact(v2 j hj).b
 have T1:0<=ee s.c l2:=jC (qN fun v hv=>hWn _ (cG.2 ⟨v,hv,rfl⟩)).1 hck.minch.1;obtain⟨f3,e3⟩:=d2.asg (e:=s.ep) J9.1 (c:=s.c) hk.unb.1 (by have:=hk.unb;omega) (VO.z_wd l2 v2) (bx l2) (ee s.c l2) s.m;have hsh:=wY (bx l2) s.ep (ee s.c l2) s.q s.m;have O3:=qQ (W:=bx l2) (e:=s.ep) (lim:=ee s.c l2) (m:=s.m) y8;have o6:=vr (W:=bx l2) (e:=s.ep) (lim:=ee s.c l2) (q:=s.q) hWn T1 hm;generalize D8:ce (bx l2) s.ep (ee s.c l2) s.q s.m=st at f3 e3 hsh O3 o6 ⊢;generalize hfa:st.1.foldl (eJ s.c) (l2,b2,[])=A at f3 e3 ⊢;obtain⟨l3,b3,v3⟩:=A;simp only at f3 e3 ⊢;have v3' : ∀i,ax l3 i=true->VO (ab l3 i):=fun i hi=>by
  rw[xJ f3.len] at hi;have h1:=v2 i hi;have hu:=hk.unb;rw[f3.got];split
  ·exact⟨h1.b,h1.s,h1.r,by simp only[asV];omega,by have:=h1.w;simp only[asV];omega,h1.d⟩
  exact h1
 generalize hac:dd (ee s.c l2) (bx l3) s.pend 0 true=ac;have acl:ac.length<=s.pend.length:=by rw[←hac];exact sT _ _ _ _ _
 have v4:=lV (e:=1) aK ac v3';have n4:(ac.foldl (fun l i=>evV l i 1) l3).length=l3.length:=(vX aK _ _).1;have s4:bx (ac.foldl (fun l i=>evV l i 1) l3)=bx l3:=xR 1 _ _;have m4:=Sm.act ac l3;generalize hl4:ac.foldl (fun l i=>evV l i 1) l3=l4 at v4 n4 s4 m4 ⊢;obtain⟨f5,s5⟩:=K2.runM (c:=s.c) (s.mg.take s.c.merg.toNat) v4;have hE5:=(e3.sm m4).sm f5.sm;generalize hl5:(runM s.c l4 (s.mg.take s.c.merg.toNat)).1=l5 at f5 s5 hE5 ⊢;obtain⟨a,b,g1,g2,g3,g4,g5⟩:=hsh;refine⟨⟨⟨l1,l2,b2,st.1,l3,l4,l5,hl1.symm,f2,f3,⟨ac,hl4.symm⟩,f5,d1,d2,?_,?_,⟨a,b,g1,g2,g3,g4⟩⟩⟩,?_⟩
 ·unfold dO;simp only[hl1,hr,D8,hfa,hac,hl4,hl5]
 ·unfold dO;simp only[hl1,hr,D8]
 refine⟨hcc,hck,u6,by show(l5.length:Int)<=_;rw[f5.len,n4,f3.len,n2,n1];exact j5,f5.vo v4,by show(bx l5).sum=_;rw[s5,s4,f3.bal,s2,s1];exact t6,y2,O3,by show(s.pend.drop _).length<=_;simp only[cS];omega,by show(s.mg.drop _).length<=_;simp only[cS];omega,hpt,hpm,hcur,o6,hE5⟩
theorem gR {s:Eg} (hc:1<=s.c.elen):({ s with blk:=s.blk+1 }:Eg).ep=if(s.blk+1)%s.c.elen.toNat=0 then s.ep+1 else s.ep:=by
 unfold Eg.ep;simp only;have hp:0<s.c.elen.toNat:=by omega
 generalize s.c.elen.toNat=k at hp ⊢;rw[Nat.succ_div];by_cases h:k∣s.blk+1
 ·rw[bZ h,bZ (Nat.mod_eq_zero_of_dvd h)];omega
 rw[bY h,bY (fun hc=>h (Nat.dvd_of_mod_eq_zero hc))];omega
def fC (s:Eg):Eg × List As:=if(s.blk+1)%s.c.elen.toNat=0 then dO { s with blk:=s.blk+1 } else({ s with blk:=s.blk+1 },[])
theorem wH (s:Eg):dg s=((dV (fC s).1).1,⟨7,0,-1,(dV (fC s).1).1.blk,(dV (fC s).1).1.ep,-1,(fC s).2,(dV (fC s).1).2.1,(dV (fC s).1).2.2⟩):=rfl
theorem uX {s:Eg} (h:Inv s) (hb:s.blk<1000000000):Inv (fC s).1/\((s.blk+1)%s.c.elen.toNat=0->Nonempty (Bdy { s with blk:=s.blk+1 })):=by
 have J9:=gR (s:=s) h.cok.elen.1;unfold fC;by_cases hc:(s.blk+1)%s.c.elen.toNat=0
 ·rw[bZ hc] at J9 ⊢;have:=Aw (s:={ s with blk:=s.blk+1 }) h.cc h.ck (by show s.blk+1<=_;omega) h.cap h.vo h.sum h.led h.qf h.pe h.mg h.pt h.pm h.cur h.m (by rw[J9];exact h.e.ep_eq aK);exact⟨this.2,fun _=>this.1⟩
 rw[bY hc] at J9 ⊢;exact⟨⟨h.cc,h.ck,by show s.blk+1<=_;omega,h.cap,h.vo,h.sum,h.led,h.qf,h.pe,h.mg,h.pt,h.pm,h.cur,h.m,by rw[J9];exact h.e⟩,fun h=>absurd h hc⟩
theorem mh {d u:Int}:∀(ps:List Y) (p:Int),(∀y∈ps,0<=y.a)->eG ps<=d-p-u->ps.foldl (fD d u) p=p+eG ps
 | [],p,_,_=>by simp[eG]
 | y :: ps,p,h,hs=>by
  have h0:=h y aM;have h1:0<=eG ps:=xH fun x hx=>by
   obtain⟨z,hz,rfl⟩:=cG.1 hx;exact h z (by simp[hz])
  have e1:eG (y :: ps)=y.a+eG ps:=by simp[eG]
  rw[e1] at hs ⊢;have hb:fD d u p y=p+y.a:=by
   unfold fD dW;rw[bY (show¬d-p-u<y.a by omega),bZ rfl]
  rw[cR,hb,mh ps (p+y.a) (fun z hz=>h z (by simp[hz])) aK];omega
theorem pn {rd:List Bool} {n pays:Nat} (hn:0<n) (hm:n<=4096):∀(k at_:Nat) (paid:List Int) (made:Nat),at_<=4096->(swp rd n pays k at_ paid made).1<=4096
 | 0,_,_,_,h=>h
 | k+1,at_,paid,made,h=>by
  unfold swp;split
  ·exact h
  exact pn hn hm k _ _ _ (by have:=cW (at_%n+1) hn;omega)
theorem jX {at_:Nat} {rd:List Bool} {visits pays:Int} (hm:rd.length<=4096) (h:at_<=4096):(dJ at_ rd visits pays).1<=4096:=by
 unfold dJ;split
 ·exact h
 exact pn aK hm _ _ _ _ h
theorem gU {l:List V} {j:Nat} (h:(l.map fun v=>decide (v.st=5))[j]?=some true):(ab l j).st=5:=by
 rw[List.getElem?_map] at h;obtain⟨v,hv,h1⟩:=cO.1 h;obtain⟨hj,rfl⟩:=List.getElem?_eq_some_iff.1 hv;rw[yK hj];exact bW h1
structure Pay (s:Eg) where
 l1:List V
 ps:List Y
 is:List Int
 f1:K2 s.l l1
 fp:∀y∈ps,0<=y.a/\y.f=false/\ax s.l y.i=true
 nd:is.Nodup
 i5:∀i∈is,(ab l1 i).st=5
 len:(dV s).1.l.length=s.l.length
 got:∀j,ab (dV s).1.l j=if j∈is then { ab l1 j with st:=6,bal:=0 } else ab l1 j
 pay:(dV s).2.1=ps++is.map (fun i=>⟨i,(ab l1 i).bal,true⟩)
theorem qY {s:Eg} (h:Inv s):Nonempty (Pay s)/\Inv (dV s).1/\(dV s).1.ep=s.ep/\(dV s).1.blk=s.blk/\(dV s).1.q=s.q/\(dV s).1.c=s.c:=by
 have hck:=h.ck;have hk:=h.cok;obtain⟨l1,l2,l3,l4,l5,l6⟩:=h.led;have t6:=h.sum;obtain⟨f1,s1,p1⟩:=K2.run (c:=s.c) hck.minb.1 (s.pt.take s.c.parts.toNat) (fun r hr=>h.pm r (cD hr)) h.vo aK;unfold dV;simp only;generalize hr:run s.c s.l (s.pt.take s.c.parts.toNat)=r at f1 s1 p1 ⊢;obtain⟨la,ra⟩:=r;simp only at f1 s1 p1 ⊢;have v1:=f1.vo h.vo;have O3:la.length<=4096:=by have:=f1.len;have:=h.cap;have:=hk.capa;omega
 obtain⟨w1,w2⟩:=rR s.cur (la.map fun v=>decide (v.st=5)) (s.c.vis-((s.pt.take s.c.parts.toNat).length:Nat)) (s.c.pays-((pos ra).length:Nat));have w3:=jX (at_:=s.cur) (rd:=la.map fun v=>decide (v.st=5)) (visits:=s.c.vis-((s.pt.take s.c.parts.toNat).length:Nat)) (pays:=s.c.pays-((pos ra).length:Nat)) (by simpa using O3) h.cur;generalize hw:dJ s.cur (la.map fun v=>decide (v.st=5)) (s.c.vis-((s.pt.take s.c.parts.toNat).length:Nat)) (s.c.pays-((pos ra).length:Nat))=w at w1 w2 w3 ⊢;have i5:∀i∈w.2.1,(ab la i).st=5:=fun i hi=>by
  obtain⟨j,rfl,hj⟩:=w1 i hi;exact gU hj
 have hEa:=h.e.sm f1.sm;obtain⟨g1,g2,g3,g4⟩:=wR (l0:=la) (e:=s.ep) w.2.1 la (pos ra) w2 (fun i hi=>⟨i5 i hi,hEa.rdy i (i5 i hi),rfl⟩);generalize hf:w.2.1.foldl (cx la s.ep) (la,pos ra)=f at g1 g2 g3 g4 ⊢;obtain⟨lf,pf⟩:=f;simp only at g1 g2 g3 g4 ⊢;rw[lX] at g4;have vf:∀i,ax lf i=true->VO (ab lf i):=fun i hi=>by
  rw[xJ g1] at hi;have:=v1 i hi;rw[g2 i];split
  ·exact⟨aM,aM,this.r,this.x,this.w,this.d⟩
  exact this
 have pnn:∀y∈pf,0<=y.a:=fun y hy=>by
  rw[g3] at hy;rcases cK.1 hy with hy|hy
  ·exact(p1 y (List.mem_filter.1 hy).1).1
  obtain⟨i,hi,rfl⟩:=cG.1 hy;exact(v1 i (yL (by have:=i5 i hi;omega))).b
 have hnn:0<=(bx lf).sum:=xH fun x hx=>by
  obtain⟨v,hv,rfl⟩:=cG.1 hx;obtain⟨j,hj,rfl⟩:=wJ hv;exact(vf j hj).b
 have hps:0<=eG pf:=xH fun x hx=>by obtain⟨z,hz,rfl⟩:=cG.1 hx;exact pnn z hz
 have hpaid:=mh (d:=s.dep) (u:=s.burn) pf s.paid pnn aK;have smf:Sm la lf:=Sm.of fun j=>by
  rw[g2 j];split
  ·rename_i hj;have:=i5 j hj
   right;simp only;omega
  exact .inl rfl
 have hEf:=hEa.sm smf;refine⟨⟨⟨la,pos ra,w.2.1,f1,fun y hy=>p1 y (List.mem_filter.1 hy).1,w2,i5,?_,?_,?_⟩⟩,?_,by first|rfl|trivial,by first|rfl|trivial,by first|rfl|trivial,by first|rfl|trivial⟩
 ·unfold dV;simp only[hr,hw,hf];rw[g1,f1.len]
 ·unfold dV;simp only[hr,hw,hf];exact g2
 ·unfold dV;simp only[hr,hw,hf];exact g3
 rw[hpaid];exact⟨h.cc,h.ck,h.blk,by show(lf.length:Int)<=_;rw[g1,f1.len];exact h.cap,vf,by show(bx lf).sum=s.dep-(s.paid+eG pf)-s.burn;omega,⟨by show 0<=s.paid+eG pf;omega,l2,by show s.paid+eG pf+s.burn<=s.dep;omega,l4,by show s.dep-(s.paid+eG pf)-s.burn<=s.c.supc;omega,l6⟩,h.qf,h.pe,h.mg,
  by show(s.pt.drop _).length<=_;have:=h.pt;simp only[cS];omega,fun r hr=>h.pm r (cL hr),w3,h.m,hEf⟩
theorem si {s:Eg} (h:Inv s) (hb:s.blk<1000000000):Inv (dg s).1:=by
 rw[wH];exact(qY (uX h hb).1).2.1
structure OpR (o:Op):Prop where
 a:0<=o.a/\o.a<=18446744073709551615
theorem BO {s:Eg} (h:Inv s) {o:Op} (ho:OpR o):Inv (fF s o).1:=by
 unfold fF;split
 ·exact Ae h ho.a
 split
 ·exact rI h (.inr rfl)
 split
 ·exact rI h (.inl rfl)
 split
 ·exact rB h
 split
 ·exact ue h
 split
 ·exact ti h ho.a.1
 exact h
theorem ou {s:Eg} (h:Inv s) (hb:s.blk<1000000000) {o:Op} (ho:OpR o):Inv (ao s o).1:=by
 unfold ao;split
 ·exact si h hb
 exact BO h ho
theorem tS {c:C} (hc:chk c=0) (hk:c.ok):Inv (ap c):=by
 have hn:∀i:Int,(ab [] i).st=0:=fun i=>oQ (cY aM);have hm:=yM hc;have he:(ap c).ep=0:=by unfold Eg.ep ap;simp
 refine⟨hc,hk,by simp[ap],by have:=(lL hc hk).capa;simp[ap];omega,fun i hi=>?_,by simp[ap,bx],⟨by simp[ap],by simp[ap],by simp[ap],by simp[ap],by have:=hm.maxd;have:=hm.mind;simp[ap];omega,by have:=hm.maxd;simp[ap];omega⟩,by simp[ap],by simp[ap],by simp[ap],by simp[ap],by simp[ap],by simp[ap],Gd,?_⟩
 ·have:=bW hi;simp[ap] at this;omega
 rw[he];refine⟨by simp[ap],fun i=>?_,by simp[ap],fun i=>?_,by simp[ap],by simp[ap],fun i=>?_,by simp[ap],fun i hi=>?_,fun i hi=>?_⟩
 ·have:=hn i;simp[ap,this]
 ·have:=hn i;simp[ap,this]
 ·have:=hn i;simp[ap,this]
 ·have:=hn i;simp only[ap] at hi;omega
 have:=hn i;simp only[ap] at hi;omega
end Go.Proofs.YtdddiilocbbkkaaGreat
