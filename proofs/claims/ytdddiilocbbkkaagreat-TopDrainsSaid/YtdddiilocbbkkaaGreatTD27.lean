/- TopDrains: for every configuration and all operations the law returns true. No condition. Part 27 of 28. -/
import Derived.Test.YtdddiilocbbkkaaGreatTD26
set_option linter.unusedVariables false
set_option linter.unusedSimpArgs false
namespace Go.Proofs.YtdddiilocbbkkaaGreat
open Go.RowKit Go.Eg
set_option maxHeartbeats 4000000
set_option synthInstance.maxSize 3000
set_option maxRecDepth 100000
theorem Own2.star2 {ι:Type} {P:Program} {f:FuncId} {args:List Value} {w:World} {Ls R:List Res} {p:ι→Prop} {val:ι→Value} {Ls1:ι→List Res} (h:W0 (Ls++R) w→Own2 P f args w (Ls++R) p val (fun _=>[]) (fun x=>Ls1 x++R)) (hw:W0 (.star Ls :: R) w) :
  Own2 P f args w (.star Ls :: R) p val (fun _=>[]) (fun x=>.star (Ls1 x) :: R):=by
 have e:fps (.star Ls :: R)=fps (Ls++R):=by simp[fps,Res.star]
 have h1:WOK (fps (Ls++R)) w (Ls++R) w:=by rw[←e];exact WOK.opened hw
 refine Ret.mono (h h1) fun v w' ⟨x,hp,hv,hw2⟩=>⟨x,hp,hv,?_⟩
 rw[e]
 exact(show WOK _ _ (Ls1 x++R) w' from hw2).closed
theorem has_wf {s:Eg} (h:Inv s) {i:Int} (hi:hasV s.l i=true):(Lit.int .i64 i).wf=true:=by
 have h1:=of_decide_eq_true hi
 have h2:=h.cap;have h3:=h.cok.capa
 exact i64wf (by omega)
theorem rc_ag {s:Eg} (h:Inv s) (hb:s.blk<1000000000) (y:Op):∀a∈(applyE s y).2.ag,(Lit.int .i64 a.i).wf=true:=fun a ha=>by
 obtain⟨m,n,h1,_⟩:=ag_shape h hb y
 rw[h1] at ha
 have:a.i∈s.q.f++s.q.v:=by
  rcases List.mem_append.1 ha with ha|ha
  ·obtain⟨i,hi,rfl⟩:=List.mem_map.1 ha;exact List.mem_append.2 (.inl (List.mem_of_mem_take hi))
  ·obtain⟨i,hi,rfl⟩:=List.mem_map.1 ha;exact List.mem_append.2 (.inr (List.mem_of_mem_take hi))
 exact has_wf h (yM (by have:=((h.e.lan a.i).1 this).1;omega))
theorem rc_ps {s:Eg} (h:Inv s) (hb:s.blk<1000000000) (y:Op):∀p∈(applyE s y).2.ps,(Lit.int .i64 p.i).wf=true:=fun p hp=>has_wf h ((once_apply h hb y).1 p hp).1
theorem act_i (s:Eg) (y:Op):(actE s y).2.i=0∨(actE s y).2.i=y.i∨(actE s y).2.i=(s.l.length:Int):=by
 unfold actE
 split
 ·unfold depE;repeat' split
  all_goals simp
 split
 ·unfold leaveE;repeat' split
  all_goals simp
 split
 ·unfold leaveE;repeat' split
  all_goals simp
 split
 ·unfold slashE
  split
  ·simp
  ·dsimp only;repeat' split
   all_goals simp
 split
 ·unfold consE;repeat' split
  all_goals simp
 split
 ·unfold partE;repeat' split
  all_goals simp
 ·simp
theorem rc_i {s:Eg} (h:Inv s) (y:Op) (hy:y.ok):(Lit.int .i64 (applyE s y).2.i).wf=true:=by
 have h2:=h.cap;have h3:=h.cok.capa
 unfold applyE
 split
 ·exact(by decide:(Lit.int .i64 (-1)).wf=true)
 ·show(Lit.int .i64 (rcp s y (actE s y).2).i).wf=true
  unfold rcp
  split
  ·exact(by decide:(Lit.int .i64 (-1)).wf=true)
  ·have h4:=act_i s y
   have h5:=hy.i
   exact i64wf (by show -9223372036854775808≤(actE s y).2.i∧(actE s y).2.i≤_;omega)
def h00:HL:=⟨none,0,[],0,0,none,0,[],[]⟩
def Lg (lb mb:Nat) (h:HL):Res:=.star (HL.own lb mb h)
theorem h00_ok:HL.Ok 0 h00:=⟨⟨by simp[h00],by simp[h00],by simp[h00]⟩,by simp[h00],by simp[h00]⟩
theorem hnew_any (w:World) : Own2 (ι:=(Nat × Nat)) Tryz.prog 78 [] w [] (fun x=>True) (fun x=>.pointer (some ⟨x.1,0,none⟩)) (fun x=>[Lg x.1 x.2 h00]) (fun x=>[]):=by
 refine g_st Tryz.func78 5 (WOK.start (fps []) _) ?_
 refine rn [1,3,0,1] ?_
 refine g_op (uB rfl fun b1=>?_)
 refine rn [49,49] ?_
 refine g_op (g_box rfl rfl rfl fun b4=>?_)
 refine zF (b:=b4) (h00.c b1) (by rfl) ?_
 refine rn [3,0,11] ?_
 refine wP none 3 1 ?_
 refine wP none 55 3 ?_
 refine g_nostar ?_
 refine xZ [Res.blk b4 242 (h00.c b1),Res.row none 0 0 3 1 [],Res.row none 0 0 55 3 [],Res.mp b1 [],Res.star []] ?_
 refine xN (Res.star [Res.blk b4 242 (h00.c b1),Res.row none 0 0 3 1 [],Res.row none 0 0 55 3 [],Res.mp b1 [],Res.star []]) (Lg b4 b1 h00) (by rfl) ?_
 exact fin1 rfl (.tmp rfl) (fun w' hw' => ⟨(b4,b1),(by exact trivial),rfl,zA w' hw'⟩) _ (.inl rfl)
theorem tbeg_any (c:C) (w:World) (hc:chk c=0) (hk:c.ok):Own2 (ι:=(EP × EG × Nat × Nat)) Tryz.prog 21 [c.v] w [] (fun x=>x.2.1.Rep (newE c)) (fun x=>.tuple [.agg #[.pointer (some ⟨x.1.eb,0,none⟩),.pointer (some ⟨x.2.2.1,0,none⟩)],.bool true].toArray) (fun x=>[Eng x.1 x.2.1 (newE c),Lg x.2.2.1 x.2.2.2 h00]) (fun x=>[]):=by
 refine g_st Tryz.func21 22 (WOK.start (fps []) _) ?_
 refine rn [1] ?_
 refine g_op (g_box (c:=C.c c) rfl rfl rfl fun b1=>?_)
 refine g_op (zK rfl fun b2=>?_)
 refine rn [3,0,1,45] ?_
 refine g_op (zG [] rfl (fun w1 hw1 ho1=>by have h7:=new_ok c w1 hc hk;exact h7) rfl ?_)
 rintro⟨p9,a9⟩ r9
 refine ii ?_
 simp only at r9
 refine rn [2,40,40,3,3,0,1] ?_
 refine g_op (zG [] rfl (fun w1 hw1 ho1=>by have h7:=hnew_any w1;exact h7) rfl ?_)
 rintro⟨b12,m12⟩ _
 refine ii ?_
 refine rn [3,0,1,2,2,49,2] ?_
 refine s_q (q_nep (b:=true) rfl rfl rfl) rfl ?_
 refine rn [2,22,2] ?_
 refine s_qg (q_nep (b:=true) rfl rfl rfl) rfl rfl rfl ?_
 refine rn [41,33,3,0,11] ?_
 exact fin2 rfl (.cellw rfl rfl) (.tmp rfl) (fun w' hw' => ⟨(p9,a9,b12,m12),(by exact r9),rfl,zA w' hw'⟩) _ (.inl rfl)
theorem hadd_ok (B lb mb:Nat) (h:HL) (y:Op) (x0:RX) (w:World) (hw:W0 [Lg lb mb h,Res.row x0.O x0.r.ag.length x0.oc 55 3 (x0.r.ag.map As.cs),Res.row x0.pA x0.r.ps.length x0.pc 50 3 (x0.r.ps.map Y.c)] w) (hO:h.Ok B) (hB:B+x0.r.ag.length+x0.r.ps.length≤1000000000) (hag:∀a∈x0.r.ag,(Lit.int .i64 a.i).wf=true) (hps:∀p∈x0.r.ps,(Lit.int .i64 p.i).wf=true) (hri:(Lit.int .i64 x0.r.i).wf=true) :
  Own2 (ι:=HL) Tryz.prog 79 [.pointer (some ⟨lb,0,none⟩),.agg (Op.c y).toArray,.agg (RX.c x0).toArray] w [Lg lb mb h,Res.row x0.O x0.r.ag.length x0.oc 55 3 (x0.r.ag.map As.cs),Res.row x0.pA x0.r.ps.length x0.pc 50 3 (x0.r.ps.map Y.c)] (fun x=>x.Ok (B+x0.r.ag.length+x0.r.ps.length+1)) (fun x=>.tuple #[]) (fun x=>[]) (fun x=>[Lg lb mb x,Res.row x0.O x0.r.ag.length x0.oc 55 3 (x0.r.ag.map As.cs),Res.row x0.pA x0.r.ps.length x0.pc 50 3 (x0.r.ps.map Y.c)]):=by
 obtain⟨oA,oc,os,n,ep,aA,ac,ag,rs⟩:=h
 exact Own2.star2 (fun hw2=>hadd_eng B lb mb oA oc os n ep aA ac ag rs y x0 w hw2 hO.r hO.o hO.a hB hag hps hri) hw
theorem tdo_any (B:Nat) (p:EP) (a:EG) (s:Eg) (lb mb:Nat) (h:HL) (yk:Op) (w:World) (hw:W0 [Eng p a s,Lg lb mb h] w) (hi:Inv s) (hr:a.Rep s) (hy:yk.ok) (hb:s.blk<1000000000) (hO:h.Ok B) (hB:B+(applyE s yk).2.ag.length+(applyE s yk).2.ps.length≤1000000000):Own2 (ι:=(TX × HL)) Tryz.prog 23 [.agg #[.pointer (some ⟨p.eb,0,none⟩),.pointer (some ⟨lb,0,none⟩)],.agg (Op.c yk).toArray] w [Eng p a s,Lg lb mb h] (fun x=>x.1.a.Rep (applyE s yk).1∧x.2.Ok (B+(applyE s yk).2.ag.length+(applyE s yk).2.ps.length+1)) (fun x=>rcV (applyE s yk).2 x.1.O x.1.oc x.1.pA x.1.pc) (fun x=>[Res.row x.1.O (applyE s yk).2.ag.length x.1.oc 55 3 ((applyE s yk).2.ag.map As.cs),Res.row x.1.pA (applyE s yk).2.ps.length x.1.pc 50 3 ((applyE s yk).2.ps.map Y.c)]) (fun x=>[Eng p x.1.a (applyE s yk).1,Lg lb mb x.2]):=by
 refine g_st Tryz.func23 16 hw ?_
 refine rn [1] ?_
 refine g_op (g_box rfl rfl rfl fun b2=>?_)
 refine g_op (g_box rfl rfl rfl fun b3=>?_)
 refine g_op (zK rfl fun b4=>?_)
 refine rn [0,1,4,5,45] ?_
 refine g_op (zG _ rfl (fun w1 hw1 ho1=>by have h7:=apply_ok p a s yk w1 ho1 hi hr hy hb;exact h7) rfl ?_)
 rintro x9 r9
 refine ii ?_
 refine g_val 9 (v' := .agg (RX.c (⟨(applyE s yk).2,x9.O,x9.oc,x9.pA,x9.pc⟩:RX)).toArray) rfl rfl ?_
 refine g_op (zK rfl fun b5=>?_)
 refine rn [33] ?_
 refine zF (b:=b5) (RX.c (⟨(applyE s yk).2,x9.O,x9.oc,x9.pA,x9.pc⟩:RX)) (by rfl) ?_
 refine rn [0,1,4,5,45,45] ?_
 refine g_op (zG _ rfl (fun w1 hw1 ho1=>by have h7:=hadd_ok B lb mb h yk (⟨(applyE s yk).2,x9.O,x9.oc,x9.pA,x9.pc⟩:RX) w1 ho1 hO hB (rc_ag hi hb yk) (rc_ps hi hb yk) (rc_i hi yk hy);exact h7) rfl ?_)
 rintro h14 k14
 refine ii ?_
 refine rn [0,1,45,33,0,11] ?_
 exact fin1 rfl (.cellw rfl rfl) (fun w' hw' => ⟨(x9,h14),(by exact⟨r9,k14⟩),rfl,zA w' hw'⟩) _ (.inl rfl)
theorem HL.Ok.mono {B C:Nat} {h:HL} (k:h.Ok B) (hb:B≤C):h.Ok C:=⟨k.r.mono hb,Nat.le_trans k.o hb,Nat.le_trans k.a hb⟩
theorem ofW_bals (l:List V) (i:Int):ofW (bals l) i=(gotV l i).bal:=by
 unfold ofW gotV
 simp only[bals,List.length_map]
 by_cases h:0≤i
 ·by_cases h2:(l.length:Int)≤i
  ·rw[if_pos (.inr h2),if_pos h,List.getElem?_eq_none (by omega)];rfl
  ·have hj:i.toNat<l.length:=by omega
   rw[if_neg (by omega),if_pos h,List.getElem?_map,List.getElem?_eq_getElem hj];rfl
 ·rw[if_pos (.inl (by omega)),if_neg h];rfl
def wsum (l:List V) (is:List Int):Int:=(is.map fun i=>(gotV l i).bal).sum
theorem wsum_cons (l:List V) (i:Int) (is:List Int):wsum l (i :: is)=(gotV l i).bal+wsum l is:=by simp[wsum]
theorem sQ:∀(is:List Int) (l:List V),is.Nodup→(∀i,0≤(gotV l i).bal)→wsum l is≤(bals l).sum
 | [],l,_,h=>xF fun x hx=>by
  obtain⟨v,hv,rfl⟩:=List.mem_map.1 hx
  obtain⟨j,_,rfl⟩:=wN hv
  exact h j
 | i :: is,l,hn,h=>by
  obtain⟨h1,h2⟩:=List.nodup_cons.1 hn
  have h0:=h i
  rw[wsum_cons]
  rcases Bool.eq_false_or_eq_true (hasV l i) with hi|hi
  ·have ih:=sQ is (setV l i { gotV l i with bal:=0 }) h2 (fun j=>by
    rw[yO];split
    ·exact Int.le_refl _
    ·exact h j)
   have e1:wsum (setV l i { gotV l i with bal:=0 }) is=wsum l is:=by
    unfold wsum;congr 1;apply List.map_congr_left;intro j hj
    rw[yO,if_neg (fun hc:hasV l i=true∧j=i=>h1 (hc.2 ▸ hj))]
   rw[e1,vC l i _ hi] at ih
   simp only at ih;omega
  ·have ih:=sQ is l h2 h
   rw[vK hi]
   simp only[V.z];omega
theorem rJ (m:M):0≤m.bal∧m.bal≤18446744073709551615:=by unfold M.bal;rw[UU_eq];omega
theorem bal_grant {m:M} (h:m.ok) {x:Int} (hx:0≤x):(m.grant x).bal=min (m.bal+x) 18446744073709551615:=by
 have e:=congrArg R.b (of_grant h hx)
 have hr:=rJ m
 simp only[R.of,R.grant,UU_eq] at e
 omega
theorem bal_take {m:M} (h:m.ok) {x:Int} (hx:0≤x) (hb:¬m.bal<x):(m.take x).bal=m.bal-x:=by
 have e:=congrArg R.b (of_take h hx)
 have hr:=rJ m
 simp only[R.of,R.take,if_neg hb,UU_eq] at e
 omega
theorem bal_drop {m:M} (h:m.ok):m.drop.bal=0:=by
 have e:=congrArg R.b (of_drop h)
 simp only[R.of,R.drop] at e
 exact e.symm
def restL (q:LL):List Int:=q.f++q.v
theorem rest_no {q:LL} (h:headB q=false):restL q=[]:=by
 obtain⟨f,v⟩:=q
 cases f<;>cases v<;>simp_all[headB,restL]
theorem rest_go {q:LL} (h:headB q=true):restL q=headI q :: restL (popL q):=by
 obtain⟨f,v⟩:=q
 cases f<;>cases v<;>simp_all[headB,restL,headI,popL]
theorem drain_MF {W:List Int} {e:Int} (hW:∀x∈W,0≤x):∀(n:Nat) (q:LL) (m:M) (out:List As),m.ok→(restL q).length<n →
  (restL (stepMF W e n q m out).2.1=[]∧(stepMF W e n q m out).2.2.bal=0) ∨
  ((stepMF W e n q m out).2.2.bal-((restL (stepMF W e n q m out).2.1).map (ofW W)).sum=m.bal-((restL q).map (ofW W)).sum∧(stepMF W e n q m out).2.2.bal<((restL (stepMF W e n q m out).2.1).map (ofW W)).sum)
 | 0,q,m,out,_,h=>absurd h (Nat.not_lt_zero _)
 | n+1,q,m,out,hm,hl=>by
  by_cases hB:headB q=false
  ·rw[sH hB];exact .inl ⟨rest_no hB,bal_drop hm⟩
  replace hB:headB q=true:=by simpa using hB
  have hr:=rest_go hB
  by_cases hT:m.bal<ofW W (headI q)
  ·rw[uW hB hT]
   refine .inr ⟨rfl,?_⟩
   rw[hr,List.map_cons,List.sum_cons]
   have:0≤((restL (popL q)).map (ofW W)).sum:=xF fun x hx=>by obtain⟨i,_,rfl⟩:=List.mem_map.1 hx;exact ofW_nn hW i
   show m.bal<_
   omega
  ·rw[rL hB hT]
   have ih:=drain_MF (e:=e) hW n (popL q) (m.take (ofW W (headI q))) (out++[⟨headI q,headC q,e+1⟩]) (take_ok hm _) (by rw[hr,List.length_cons] at hl;omega)
   rw[bal_take hm (ofW_nn hW _) hT] at ih
   rw[hr,List.map_cons,List.sum_cons]
   rcases ih with h|h
   ·exact .inl h
   ·exact .inr ⟨by omega,h.2⟩
theorem bdy_q (s:Eg):∃ch,s.c.minch≤ch∧(bdyE s).1.q=(stepM (bals s.l) s.ep ch s.q s.m).2.1∧(bdyE s).1.m=(stepM (bals s.l) s.ep ch s.q s.m).2.2∧(bdyE s).2=(stepM (bals s.l) s.ep ch s.q s.m).1∧((stepM (bals s.l) s.ep ch s.q s.m).1=[]→(bdyE s).1.lv=[]):=by
 have hW:bals (ripE s.ep (s.lv.foldl (fun l i=>evV l i 3) s.l,s.bo)).1=bals s.l:=(rI _ _ _).trans (xU _ _ _)
 refine⟨churnE s.c (ripE s.ep (s.lv.foldl (fun l i=>evV l i 3) s.l,s.bo)).1,?_,?_,?_,?_,fun h=>?_⟩
 ·unfold churnE churn;split<;>omega
 ·rw[←hW];rfl
 ·rw[←hW];rfl
 ·rw[←hW];rfl
 ·rw[←hW] at h
  unfold bdyE;simp only
  rw[h];rfl
theorem bdy_got {s:Eg} (B:Bdy s) (j:Int):(gotV B.l4 j).bal=(gotV s.l j).bal∧(gotV B.l5 j).wd=if j∈B.ag.map As.i then max (gotV s.l j).wd (s.ep+1+s.c.unb) else(gotV s.l j).wd:=by
 obtain⟨is,f4⟩:=B.f4
 have e1:(gotV B.l1 j).bal=(gotV s.l j).bal∧(gotV B.l1 j).wd=(gotV s.l j).wd:=by rw[B.f1,vI (by omega)];split<;>exact⟨rfl,rfl⟩
 have e2:(gotV B.l2 j).bal=(gotV B.l1 j).bal∧(gotV B.l2 j).wd=(gotV B.l1 j).wd:=by rw[B.f2.got];split<;>exact⟨rfl,rfl⟩
 have e3:(gotV B.l3 j).bal=(gotV B.l2 j).bal∧(gotV B.l3 j).wd=if j∈B.ag.map As.i then max (gotV B.l2 j).wd (s.ep+1+s.c.unb) else(gotV B.l2 j).wd:=by rw[B.f3.got];split<;>exact⟨rfl,rfl⟩
 have e4:(gotV B.l4 j).bal=(gotV B.l3 j).bal∧(gotV B.l4 j).wd=(gotV B.l3 j).wd:=by rw[f4,vI (by omega)];split<;>exact⟨rfl,rfl⟩
 have e5:(gotV B.l5 j).wd=(gotV B.l4 j).wd:=by
  rcases B.f5.got j with h|⟨_,b,t,h,_⟩<;>rw[h]
 exact⟨by rw[e4.1,e3.1,e2.1,e1.1],by rw[e5,e4.2,e3.2,e2.2,e1.2]⟩
theorem qA {s:Eg} (h:Inv s) (i:Int):0≤(gotV s.l i).bal:=by
 rcases Bool.eq_false_or_eq_true (hasV s.l i) with hi|hi
 ·exact(h.vo i hi).b
 ·rw[vK hi];exact Int.le_refl _
theorem map_ofW (l:List V) (is:List Int):(is.map (ofW (bals l))).sum=wsum l is:=by
 unfold wsum;congr 1;exact List.map_congr_left fun i _=>ofW_bals l i
theorem bdy_x {s:Eg} (h:Inv s) (hb:s.blk<1000000000) (hc:(s.blk+1)%s.c.elen.toNat=0) :
  ((restL (midE s).1.q=[]∧(midE s).1.m.bal=0)∨∃ch,s.c.minch≤ch∧(midE s).1.m.bal-wsum (midE s).1.l (restL (midE s).1.q)=min (s.m.bal+ch) 18446744073709551615-wsum s.l (restL s.q)∧(midE s).1.m.bal<wsum (midE s).1.l (restL (midE s).1.q)) ∧
  (restL s.q=[]→(midE s).1.lv=[]∧restL (midE s).1.q=[]∧∀j,(gotV (midE s).1.l j).wd=(gotV s.l j).wd) ∧
  (∀j,(gotV (midE s).1.l j).wd≤max (gotV s.l j).wd (s.ep+2+s.c.unb)):=by
 obtain⟨hi,hB⟩:=wM h hb
 obtain⟨B⟩:=hB hc
 have hep:=tO (s:=s) h.cok.elen.1
 rw[if_pos hc] at hep
 have hm:midE s=bdyE { s with blk:=s.blk+1 }:=if_pos hc
 rw[hm] at hi ⊢
 obtain⟨ch,h0,h1,h2,h3,h4⟩:=bdy_q { s with blk:=s.blk+1 }
 replace h0:s.c.minch≤ch:=h0
 have hg:=fun j=>bdy_got B j
 simp only[hep] at hg
 have hl5:(bdyE { s with blk:=s.blk+1 }).1.l=B.l5:=B.hl
 have hag:B.ag=(bdyE { s with blk:=s.blk+1 }).2:=B.ha.symm
 have hmin:=h.ck.minch.1
 have hW:∀x∈bals s.l,0≤x:=fun x hx=>by
  obtain⟨v,hv,rfl⟩:=List.mem_map.1 hx
  obtain⟨j,_,rfl⟩:=wN hv
  exact qA h j
 have hws:wsum (bdyE { s with blk:=s.blk+1 }).1.l (restL (bdyE { s with blk:=s.blk+1 }).1.q)=wsum s.l (restL (bdyE { s with blk:=s.blk+1 }).1.q):=by
  unfold wsum;congr 1;refine List.map_congr_left fun i hq=>?_
  have h5:=((hi.e.lan i).1 hq).1
  rw[hl5] at h5 ⊢
  have e5:gotV B.l5 i=gotV B.l4 i:=by
   rcases B.f5.got i with h6|⟨_,b,t,h6,_,h7⟩
   ·exact h6
   ·rw[h6] at h5;simp only at h5;omega
  rw[e5];exact(hg i).1
 refine⟨?_,fun hq=>?_,fun j=>?_⟩
 ·rw[hws,h1,h2]
  have hd:=drain_MF (e:=({ s with blk:=s.blk+1 }:Eg).ep) hW (lenL s.q+1) s.q (s.m.grant ch) [] (grant_ok h.m ch) (by simp[restL,lenL])
  rw[bal_grant h.m (show 0≤ch by omega),map_ofW,map_ofW] at hd
  rcases hd with hd|hd
  ·exact .inl hd
  ·exact .inr ⟨ch,h0,hd⟩
 ·obtain⟨a,b,g1,_,_,_,g5⟩:=wS (bals s.l) ({ s with blk:=s.blk+1 }:Eg).ep ch s.q s.m
  obtain⟨f1,f2⟩:=List.append_eq_nil_iff.1 hq
  rw[f1,f2] at g1 g5
  have g1:(stepM (bals s.l) ({ s with blk:=s.blk+1 }:Eg).ep ch s.q s.m).1=[]:=by rw[g1];simp
  refine⟨h4 g1,by rw[h1];show restL (stepM (bals s.l) ({ s with blk:=s.blk+1 }:Eg).ep ch s.q s.m).2.1=[];rw[g5];simp[restL],fun j=>?_⟩
  rw[hl5,(hg j).2,hag,h3,if_neg]
  show¬j∈(stepM (bals s.l) ({ s with blk:=s.blk+1 }:Eg).ep ch s.q s.m).1.map As.i
  rw[g1];simp
 ·rw[hl5,(hg j).2]
  split<;>omega
theorem adv_mod (a r n:Nat):((a%n+1)%n+r)%n=(a+(r+1))%n:=by rw[Nat.mod_add_mod,Nat.add_assoc,Nat.mod_add_mod,Nat.add_comm 1 r]
theorem swp_adv {rd:List Bool} {n pays:Nat}:∀(k at_:Nat) (paid:List Int) (made:Nat),∃r,r≤k∧(swp rd n pays k at_ paid made).1%n=(at_+r)%n∧(∀x∈paid,x∈(swp rd n pays k at_ paid made).2.1) ∧
  (∀j,j<r→rd[(at_+j)%n]?=some true→(((at_+j)%n:Nat):Int)∈(swp rd n pays k at_ paid made).2.1)∧(r=k∨pays≤paid.length+r)
 | 0,at_,paid,made=>⟨0,Nat.le_refl _,rfl,fun x h=>h,fun j hj=>absurd hj (Nat.not_lt_zero _),.inl rfl⟩
 | k+1,at_,paid,made=>by
  unfold swp
  split
  ·rename_i h
   exact⟨0,by omega,rfl,fun x h=>h,fun j hj=>absurd hj (Nat.not_lt_zero _),.inr (by omega)⟩
  ·obtain⟨r,h1,h2,h3,h4,h5⟩:=swp_adv (rd:=rd) (n:=n) (pays:=pays) k ((at_%n+1)%n) (if rd[at_%n]?=some true then paid++[((at_%n:Nat):Int)] else paid) (made+1)
   refine⟨r+1,by omega,by rw[h2,adv_mod],fun x hx=>h3 x ?_,fun j hj hr=>?_,?_⟩
   ·split
    ·exact List.mem_append_left _ hx
    ·exact hx
   ·cases j with
    | zero =>
     rw[Nat.add_zero] at hr ⊢
     exact h3 _ (by rw[if_pos hr];simp)
    | succ j =>
     rw[←adv_mod at_ j n] at hr ⊢
     exact h4 j (by omega) hr
   ·rcases h5 with h5|h5
    ·exact .inl (by omega)
    ·right
     split at h5
     ·simp only[List.length_append,List.length_cons,List.length_nil] at h5;omega
     ·omega
theorem sweep_adv {at_:Nat} {rd:List Bool} {visits pays:Int} {m:Nat} (hn:0<rd.length) (hm:1≤m) (hv:(m:Int)≤visits) (hp:(m:Int)≤pays):∃r,(m≤r∨rd.length≤r)∧(sweepS at_ rd visits pays).1%rd.length=(at_+r)%rd.length ∧
  ∀j,j<r→rd[(at_+j)%rd.length]?=some true→(((at_+j)%rd.length:Nat):Int)∈(sweepS at_ rd visits pays).2.1:=by
 unfold sweepS
 rw[if_neg (by omega)]
 obtain⟨r,h1,h2,h3,h4,h5⟩:=swp_adv (rd:=rd) (n:=rd.length) (pays:=pays.toNat) (min visits (rd.length:Int)).toNat at_ [] 0
 refine⟨r,?_,h2,h4⟩
 simp only[List.length_nil] at h5
 omega
def Msr (s:Eg) (k:Nat):Prop:=∀j:Nat,(gotV s.l (j:Int)).st=5→∃d:Nat,(k:Int)*blN s.c+d<s.l.length∧(s.cur+d)%s.l.length=j
theorem Msr.zero (s:Eg):Msr s 0:=fun j hj=>by
 have h1:hasV s.l (j:Int)=true:=yM (by omega)
 have hl:j<s.l.length:=by have:=of_decide_eq_true h1;omega
 have hc:=Nat.mod_lt s.cur (show 0<s.l.length by omega)
 have hd:=Nat.mod_lt (j+(s.l.length-s.cur%s.l.length)) (show 0<s.l.length by omega)
 refine⟨(j+(s.l.length-s.cur%s.l.length))%s.l.length,by simp only[Int.natCast_zero,Int.zero_mul];omega,?_⟩
 rw[Nat.add_mod_mod,←Nat.mod_add_mod,show s.cur%s.l.length+(j+(s.l.length-s.cur%s.l.length))=j+s.l.length by omega,Nat.add_mod_right,Nat.mod_eq_of_lt hl]
theorem Msr.none {s:Eg} {k:Nat} (h:Msr s k) (hc:(s.l.length:Int)≤(k:Int)*blN s.c) (i:Int):(gotV s.l i).st≠5:=fun h5=>by
 have h1:hasV s.l i=true:=yM (by omega)
 obtain⟨j,rfl,hj⟩:=xY h1
 obtain⟨d,hd,_⟩:=h j h5
 omega
theorem pays_x {s:Eg} (h:Inv s):(∀j,(gotV (paysE s).1.l j).wd=(gotV s.l j).wd)∧(∀j,(gotV s.l j).st=3→gotV (paysE s).1.l j=gotV s.l j)∧∀k,Msr s k→Msr (paysE s).1 (k+1):=by
 obtain⟨⟨P⟩,_⟩:=wW h
 refine⟨fun j=>?_,fun j hj=>?_,fun k hk j hj=>?_⟩
 ·have e1:(gotV P.l1 j).wd=(gotV s.l j).wd:=by rcases P.f1.got j with e|⟨_,b,t,e,_⟩<;>rw[e]
  rw[P.got,←e1];split<;>rfl
 ·have e1:gotV P.l1 j=gotV s.l j:=P.f1.ne (by omega)
  rw[P.got,if_neg,e1]
  intro hc;have:=P.i5 j hc;rw[e1] at this;omega
 ·have hk' := h.cok
  have hq:=yU h.cc
  have hsum:=h.sum
  obtain⟨l1,l2,l3,l4,l5,l6⟩:=h.led
  have hbl:=wK hk'
  have hbe:blN s.c=min (s.c.vis-s.c.parts) (s.c.pays-s.c.parts):=rfl
  obtain⟨f1,s1,p1⟩:=K2.run (c:=s.c) h.ck.minb.1 (s.pt.take s.c.parts.toNat) (fun r hr=>h.pm r (List.mem_of_mem_take hr)) h.vo (by omega)
  have ht:((s.pt.take s.c.parts.toNat).length:Int)≤s.c.parts:=by have:=hk'.parts.1;simp only[List.length_take];omega
  have hp:(pos (run s.c s.l (s.pt.take s.c.parts.toNat)).2).length≤(s.pt.take s.c.parts.toNat).length:=Nat.le_trans (List.length_filter_le _ _) (run_pl _ _ _)
  have hlen:(paysE s).1.l.length=s.l.length:=P.len
  have hcc:(paysE s).1.c=s.c:=rfl
  rw[hlen,hcc]
  unfold paysE at hj ⊢
  simp only at hj ⊢
  have fl:=f1.len
  have wk:=sU s.cur ((run s.c s.l (s.pt.take s.c.parts.toNat)).1.map fun v=>decide (v.st=5)) (s.c.vis-((s.pt.take s.c.parts.toNat).length:Nat)) (s.c.pays-((pos (run s.c s.l (s.pt.take s.c.parts.toNat)).2).length:Nat))
  have hEa:=h.e.sm f1.sm
  obtain⟨g1,g2,_⟩:=uC (l0:=(run s.c s.l (s.pt.take s.c.parts.toNat)).1) (e:=s.ep) _ (run s.c s.l (s.pt.take s.c.parts.toNat)).1 (pos (run s.c s.l (s.pt.take s.c.parts.toNat)).2) wk.2 (fun i hi=>by
   obtain⟨j,rfl,hj⟩:=wk.1 i hi
   have h5:=qP hj
   exact⟨h5,hEa.rdy _ h5,rfl⟩)
  rw[g2] at hj
  split at hj
  ·simp only at hj;omega
  rename_i hni
  have hs5:(gotV s.l (j:Int)).st=5:=by
   rcases f1.got (j:Int) with e|⟨_,b,t,e,_,e2⟩
   ·rw[←e];exact hj
   ·rw[e] at hj;simp only at hj;omega
  obtain⟨d,hd1,hd2⟩:=hk j hs5
  have hjl:j<s.l.length:=by have:=of_decide_eq_true (yM (l:=s.l) (i:=(j:Int)) (by omega));omega
  obtain⟨r,hr1,hr2,hr3⟩:=sweep_adv (at_:=s.cur) (rd:=(run s.c s.l (s.pt.take s.c.parts.toNat)).1.map fun v=>decide (v.st=5)) (visits:=s.c.vis-((s.pt.take s.c.parts.toNat).length:Nat)) (pays:=s.c.pays-((pos (run s.c s.l (s.pt.take s.c.parts.toNat)).2).length:Nat)) (m:=(blN s.c).toNat) (by rw[List.length_map,fl];omega) (by omega) (by omega) (by omega)
  rw[List.length_map,fl] at hr1 hr2 hr3
  have hkm:0≤(k:Int)*blN s.c:=Int.mul_nonneg (by omega) (by omega)
  by_cases hdr:d<r
  ·refine absurd (hr3 d hdr ?_) (by rw[hd2];exact hni)
   rw[hd2,List.getElem?_map,List.getElem?_eq_getElem (by omega)]
   rw[yT (by omega)] at hj
   simp[hj]
  ·refine⟨d-r,?_,?_⟩
   ·have e1:((k+1:Nat):Int)*blN s.c=(k:Int)*blN s.c+blN s.c:=by rw[Int.natCast_add,Int.add_mul];simp
    rw[e1]
    rcases hr1 with hr1|hr1<;>omega
   ·rw[←Nat.mod_add_mod,hr2,Nat.mod_add_mod,show s.cur+r+(d-r)=s.cur+d by omega,hd2]
def Wd (s:Eg):Prop:=∀i,(gotV s.l i).wd≤s.ep+1+s.c.sld
theorem tick_wd {s:Eg} (h:Inv s) (hb:s.blk<1000000000) (hw:Wd s):Wd (tickE s).1:=fun i=>by
 obtain⟨hm,_⟩:=wM h hb
 obtain⟨_,_,e3,_,_,e6⟩:=wW hm
 rw[wD]
 show(gotV (paysE (midE s).1).1.l i).wd≤(paysE (midE s).1).1.ep+1+(paysE (midE s).1).1.c.sld
 rw[(pays_x hm).1,e3,e6]
 have hep:=tO (s:=s) h.cok.elen.1
 have hs:=h.cok.sld
 have hwi:=hw i
 by_cases hc:(s.blk+1)%s.c.elen.toNat=0
 ·have h3:=(bdy_x h hb hc).2.2 i
  rw[if_pos hc] at hep
  have hm:midE s=bdyE { s with blk:=s.blk+1 }:=if_pos hc
  have he:(midE s).1.ep=s.ep+1:=by rw[hm];exact hep
  have hcc:(midE s).1.c=s.c:=by rw[hm];rfl
  rw[he,hcc];omega
 ·rw[if_neg hc] at hep
  have hm:midE s=({ s with blk:=s.blk+1 },[]):=if_neg hc
  rw[hm]
  show(gotV s.l i).wd≤({ s with blk:=s.blk+1 }:Eg).ep+1+s.c.sld
  rw[hep];exact hwi
theorem act_wd {s:Eg} (h:Inv s) (y:Op) (hw:Wd s):Wd (actE s y).1:=by
 intro j
 have hj:=hw j
 have hep:=h.epb
 have hsl:=h.cok.sld
 have hun:=h.cok.unb
 have lv:∀cl,(gotV (leaveE s cl y.i).1.l j).wd≤(leaveE s cl y.i).1.ep+1+(leaveE s cl y.i).1.c.sld:=fun cl=>by
  unfold leaveE
  repeat' split
  all_goals first|exact hj|skip
  rename_i h1 h2 h3 h4
  have hh:hasV s.l y.i=true:=by simpa using h1
  show(gotV (s.l.set y.i.toNat _) j).wd≤s.ep+1+s.c.sld
  rw[xI hh,yO]
  split
  ·rename_i hc
   have e:(accV (gotV s.l y.i) s.ep).1.wd≤max (gotV s.l y.i).wd 0:=by
    unfold accV
    repeat' split
    all_goals simp[V.z]<;>omega
   rw[hc.2] at hj
   simp only
   omega
  ·exact hj
 unfold actE
 repeat' split
 ·unfold depE
  repeat' split
  all_goals first|exact hj|skip
  show(gotV (s.l++[_]) j).wd≤s.ep+1+s.c.sld
  rw[qT]
  split
  ·simp only;omega
  ·exact hj
 ·exact lv 1
 ·exact lv 0
 ·unfold slashE
  split
  ·exact hj
  rename_i h1
  have hh:hasV s.l y.i=true:=by simpa using h1
  simp only
  split
  ·exact hj
  split
  ·exact hj
  split
  ·exact hj
  show(gotV (s.l.set y.i.toNat _) j).wd≤s.ep+1+s.c.sld
  rw[xI hh,yO]
  split
  ·rename_i hc
   rw[hc.2] at hj
   unfold slaV
   repeat' split
   all_goals first|(simp only[V.z];omega)|skip
   all_goals(simp only;rw[(lat2 hep (show 0≤s.c.sld∧s.c.sld≤1048576 by omega)).2];omega)
  ·exact hj
 ·unfold consE
  repeat' split
  all_goals exact hj
 ·unfold partE
  repeat' split
  all_goals exact hj
 ·exact hj
theorem run_wd {s:Eg} {l:List Op} (hi:Inv s) (hw:Wd s) (hl:∀y∈l,y.ok) (hb:s.blk+l.length<1000000000):∀k,k≤l.length→Wd (runK s l k).1
 | 0,_=>hw
 | k+1,h=>by
  obtain⟨h1,h2,_⟩:=vV hi hl hb k (by omega)
  have ih:=run_wd hi hw hl hb k (by omega)
  rw[tU (by omega)]
  show Wd (applyE (runK s l k).1 l[k]).1
  unfold applyE
  split
  ·exact tick_wd h1 (by omega) ih
  ·exact act_wd h1 _ ih
theorem new_wd {c:C} (hc:chk c=0) (hk:c.ok):Wd (newE c):=fun i=>by
 have hs:=(sO hc hk).sld
 have hu:=(sO hc hk).unb
 have e:gotV (newE c).l i=V.z:=vK (decide_eq_false (by simp[newE]))
 rw[e]
 have:=ep_nn (newE c)
 show(0:Int)≤(newE c).ep+1+c.sld
 omega
structure Dr (e0 t n:Int) (c:C) (s:Eg):Prop where
 inv:Inv s
 hc:s.c=c
 ge:e0≤s.ep
 j:(restL s.q=[]∧s.m.bal=0)∨((s.ep-e0)*c.minch≤s.m.bal+t-wsum s.l (restL s.q)∧(e0<s.ep→s.m.bal<wsum s.l (restL s.q)))
 wd:Wd s
 wb:∀i,(gotV s.l i).wd≤e0+n+2+c.sld
 lv:e0+n+2≤s.ep→s.lv=[]
 ms:∀k:Nat,(e0+n+2+c.sld)*c.elen+k=s.blk→Msr s k
theorem Dr.done {e0 t n:Int} {c:C} {s:Eg} (h:Dr e0 t n c s) (hn:0≤n) (ht:t≤n*c.minch) (he:e0+n+1≤s.ep):restL s.q=[]∧s.m.bal=0:=by
 rcases h.j with hj|⟨h1,h2⟩
 ·exact hj
 ·exfalso
  have h2:=h2 (by omega)
  have hm:=h.inv.cok.minch.1
  rw[h.hc] at hm
  have:n*c.minch≤(s.ep-e0)*c.minch:=Int.mul_le_mul_of_nonneg_right (by omega) (by omega)
  omega
theorem ep_blk {s:Eg} (h:Inv s):s.ep*s.c.elen≤s.blk∧(s.blk:Int)<(s.ep+1)*s.c.elen:=by
 have he:=h.cok.elen.1
 have e:s.c.elen=((s.c.elen.toNat:Nat):Int):=by omega
 unfold Eg.ep
 have hp:0<s.c.elen.toNat:=by omega
 generalize s.c.elen.toNat=k at e hp
 rw[e]
 have h1:=Nat.div_mul_le_self s.blk k
 have h2:=Nat.lt_div_mul_add (a:=s.blk) hp
 constructor
 ·exact_mod_cast h1
 ·have h3:s.blk<(s.blk/k+1)*k:=by rw[Nat.add_mul];omega
  exact_mod_cast h3
theorem Dr.tick {e0 t n:Int} {c:C} {s:Eg} (h:Dr e0 t n c s) (h0:0≤e0) (hn:0≤n) (ht:t≤n*c.minch) (hb:s.blk<1000000000):Dr e0 t n c (tickE s).1∧(tickE s).1.blk=s.blk+1:=by
 obtain⟨hm,_⟩:=wM h.inv hb
 obtain⟨_,e2,e3,e4,e5,e6⟩:=wW hm
 obtain⟨p1,p2,p3⟩:=pays_x hm
 obtain⟨m1,_,m3⟩:=mid_st h.inv hb
 have hep:=tO (s:=s) h.inv.cok.elen.1
 have htw:=tick_wd h.inv hb h.wd
 have hmc:=h.inv.cok.minch.1
 have hcs:=h.inv.cok.sld
 have hcu:=h.inv.cok.unb
 have hge:=h.ge
 rw[wD] at htw ⊢
 simp only at htw ⊢
 have hws:wsum (paysE (midE s).1).1.l (restL (midE s).1.q)=wsum (midE s).1.l (restL (midE s).1.q):=by
  unfold wsum;congr 1;refine List.map_congr_left fun i hq=>?_
  rw[p2 i ((hm.e.lan i).1 hq).1]
 have mfields:(midE s).1.blk=s.blk+1∧(midE s).1.c=s.c∧(midE s).1.cur=s.cur∧(midE s).1.ep=if(s.blk+1)%s.c.elen.toNat=0 then s.ep+1 else s.ep:=by
  rw[←hep]
  unfold midE
  split<;>exact⟨rfl,rfl,rfl,rfl⟩
 obtain⟨f1,f2,f3,f4⟩:=mfields
 have hj' : (restL (midE s).1.q=[]∧(midE s).1.m.bal=0)∨(((midE s).1.ep-e0)*c.minch≤(midE s).1.m.bal+t-wsum (midE s).1.l (restL (midE s).1.q)∧(e0<(midE s).1.ep→(midE s).1.m.bal<wsum (midE s).1.l (restL (midE s).1.q))):=by
  by_cases hc:(s.blk+1)%s.c.elen.toNat=0
  ·rw[if_pos hc] at f4
   rw[f4]
   obtain⟨b1,b2,_⟩:=bdy_x h.inv hb hc
   rcases b1 with b1|⟨ch,c1,c2,c3⟩
   ·exact .inl b1
   ·right
    refine⟨?_,fun _=>c3⟩
    have hW:=sQ (restL s.q) s.l h.inv.e.lnd (qA h.inv)
    have hsum:=h.inv.sum
    obtain⟨l1,l2,l3,l4,l5,l6⟩:=h.inv.led
    have hsup:=(yU h.inv.cc).maxd.2
    have hb0:=(rJ s.m).1
    have e1:(s.ep+1-e0)*c.minch=(s.ep-e0)*c.minch+c.minch:=by rw[show s.ep+1-e0=s.ep-e0+1 by omega,Int.add_mul];simp
    rw[h.hc] at c1
    rcases h.j with⟨j1,j2⟩|⟨j1,_⟩
    ·exfalso
     have:=(b2 j1).2.1
     rw[this] at c3
     have:=(rJ (midE s).1.m).1
     simp[wsum] at c3;omega
    ·omega
  ·have hm' : midE s=({ s with blk:=s.blk+1 },[]):=if_neg hc
   rw[if_neg hc] at f4
   rw[f4,hm'];exact h.j
 refine⟨⟨e2,by rw[e6,f2,h.hc],by rw[e3,f4];split<;>omega,?_,htw,fun i=>?_,fun he=>?_,fun k hk=>?_⟩,by rw[e4,f1]⟩
 ·rw[e3,e5,hws]
  exact hj'
 ·rw[p1]
  by_cases hc:(s.blk+1)%s.c.elen.toNat=0
  ·obtain⟨_,b2,b3⟩:=bdy_x h.inv hb hc
   have hwb:=h.wb i
   have h3:=b3 i
   rw[h.hc] at hcs hcu h3
   by_cases hl:e0+n+1≤s.ep
   ·rw[(b2 (h.done hn ht hl).1).2.2];exact hwb
   ·omega
  ·have hm' : midE s=({ s with blk:=s.blk+1 },[]):=if_neg hc
   rw[hm'];exact h.wb i
 ·show(midE s).1.lv=[]
  rw[e3,f4] at he
  by_cases hc:(s.blk+1)%s.c.elen.toNat=0
  ·rw[if_pos hc] at he
   exact((bdy_x h.inv hb hc).2.1 (h.done hn ht (by omega)).1).1
  ·rw[if_neg hc] at he
   have hm' : midE s=({ s with blk:=s.blk+1 },[]):=if_neg hc
   rw[hm'];exact h.lv he
 ·rw[e4,f1] at hk
  cases k with
  | zero=>exact Msr.zero _
  | succ k =>
   refine p3 k fun j hj=>?_
   obtain⟨b1,b2⟩:=ep_blk h.inv
   rw[h.hc] at b1 b2
   -- the epoch is late enough: nothing is unbonding
   have hce:=h.inv.cok.elen.1
   rw[h.hc] at hce
   have hlate:e0+n+2+c.sld≤s.ep:=by
    refine Classical.byContradiction fun hx=>?_
    have h1:(s.ep+1)*c.elen≤(e0+n+2+c.sld)*c.elen:=Int.mul_le_mul_of_nonneg_right (by omega) (by omega)
    omega
   have hs5:(gotV s.l (j:Int)).st=5:=by
    rcases(m3 j hj).2 with h5|⟨h4,hw⟩
    ·exact h5
    ·exfalso
     obtain⟨x,hx,hxi⟩:=List.mem_map.1 ((h.inv.e.bon (j:Int)).2 (.inl h4))
     have h6:=h.inv.e.bep x hx
     have h7:=h.wb x.i
     omega
   obtain⟨d,d1,d2⟩:=h.ms k (by omega) j hs5
   exact⟨d,by rw[m1,f2];exact d1,by rw[m1,f3];exact d2⟩
def tkN (s:Eg):Nat→Eg
 | 0=>s
 | k+1=>(tickE (tkN s k)).1
theorem Dr.ticks {e0 t n:Int} {c:C} {s:Eg} (h:Dr e0 t n c s) (h0:0≤e0) (hn:0≤n) (ht:t≤n*c.minch):∀k,s.blk+k<1000000000→Dr e0 t n c (tkN s k)∧(tkN s k).blk=s.blk+k
 | 0,_=>⟨h,rfl⟩
 | k+1,hb=>by
  obtain⟨h1,h2⟩:=h.ticks h0 hn ht k (by omega)
  obtain⟨h3,h4⟩:=h1.tick h0 hn ht (by omega)
  exact⟨h3,by show(tickE (tkN s k)).1.blk=_;rw[h4,h2];omega⟩
theorem Dr.start {s:Eg} (h:Inv s) (hw:Wd s) {n:Int} (hn:0≤n):Dr s.ep (bals s.l).sum n s.c s:=by
 have hW:=sQ (restL s.q) s.l h.e.lnd (qA h)
 have hb:=(rJ s.m).1
 have hs:=h.cok.sld
 have hu:=h.cok.unb
 refine⟨h,rfl,Int.le_refl _,.inr ⟨by rw[Int.sub_self,Int.zero_mul];omega,fun hc=>by omega⟩,hw,fun i=>by have:=hw i;omega,fun hc=>by omega,fun k hk=>?_⟩
 exfalso
 obtain⟨_,b2⟩:=ep_blk h
 have hce:=h.cok.elen.1
 have h1:(s.ep+1)*s.c.elen≤(s.ep+n+2+s.c.sld)*s.c.elen:=Int.mul_le_mul_of_nonneg_right (by omega) (by omega)
 omega
theorem drained {s:Eg} (h:Inv s) (hw:Wd s) {n:Int} (hn:0≤n) (ht:(bals s.l).sum≤n*s.c.minch) {k:Nat} (hb:s.blk+k<1000000000) (hk:(s.blk:Int)+k=(s.ep+n+3+s.c.sld+sweepV s.c+1+1)*s.c.elen-1) :
  restL (tkN s k).q=[]∧(tkN s k).m.bal=0∧(tkN s k).bo=[]∧∀i,(gotV (tkN s k).l i).st≠3∧(gotV (tkN s k).l i).st≠4∧(gotV (tkN s k).l i).st≠5:=by
 obtain⟨d,hblk⟩:=(Dr.start h hw hn).ticks h.epb.1 hn ht k hb
 generalize tkN s k=z at d hblk
 have hck:=h.cok
 have hce:=hck.elen.1
 have hcs:=hck.sld
 have hcu:=hck.unb
 obtain⟨b1,b2⟩:=ep_blk d.inv
 rw[d.hc] at b1 b2
 have hsw:0≤sweepV s.c∧blocksV s.c≤(sweepV s.c+1)*s.c.elen:=by
  refine⟨(pI hck).1,?_⟩
  have:=Int.lt_ediv_add_one_mul_self (blocksV s.c-1) (show 0<s.c.elen by omega)
  unfold sweepV;omega
 have hbl:=wK hck
 have hbk:=xA hck
 have hlate:s.ep+n+2+s.c.sld≤z.ep:=by
  refine Classical.byContradiction fun hx=>?_
  have h1:(z.ep+1)*s.c.elen≤(s.ep+n+2+s.c.sld)*s.c.elen:=Int.mul_le_mul_of_nonneg_right (by omega) (by omega)
  have e1:(s.ep+n+3+s.c.sld+sweepV s.c+1+1)*s.c.elen=(s.ep+n+2+s.c.sld)*s.c.elen+(sweepV s.c+1)*s.c.elen+s.c.elen+s.c.elen:=by
   rw[show s.ep+n+3+s.c.sld+sweepV s.c+1+1=(s.ep+n+2+s.c.sld)+(sweepV s.c+1)+1+1 by omega];simp only[Int.add_mul,Int.one_mul]
  have:=xA hck
  omega
 obtain⟨q1,q2⟩:=d.done hn ht (by omega)
 have hlv:=d.lv (by omega)
 have hbo:z.bo=[]:=by
  cases hz:z.bo with
  | nil=>rfl
  | cons x xs =>
   exfalso
   have h6:=d.inv.e.bep x (by rw[hz];simp)
   have h7:=d.wb x.i
   omega
 refine⟨q1,q2,hbo,fun i=>⟨fun h3=>?_,fun h4=>?_,?_⟩⟩
 ·by_cases hx:(gotV z.l i).ex=-1
  ·have hm:i∈restL z.q:=(d.inv.e.lan i).2 ⟨h3,hx⟩
   rw[q1] at hm;cases hm
  ·have hm:=(d.inv.e.lvs i).2 ⟨h3,hx⟩
   rw[hlv] at hm;cases hm
 ·have hm:=(d.inv.e.bon i).2 (.inl h4)
  rw[hbo] at hm;cases hm
 ·have e1:(s.ep+n+3+s.c.sld+sweepV s.c+1+1)*s.c.elen=(s.ep+n+2+s.c.sld)*s.c.elen+(sweepV s.c+1)*s.c.elen+s.c.elen+s.c.elen:=by
   rw[show s.ep+n+3+s.c.sld+sweepV s.c+1+1=(s.ep+n+2+s.c.sld)+(sweepV s.c+1)+1+1 by omega];simp only[Int.add_mul,Int.one_mul]
  have hms:=d.ms ((z.blk:Int)-(s.ep+n+2+s.c.sld)*s.c.elen).toNat (by omega)
  refine hms.none ?_ i
  have hcap:=d.inv.cap
  rw[d.hc] at hcap ⊢
  have h1:blocksV s.c*blN s.c≤(((z.blk:Int)-(s.ep+n+2+s.c.sld)*s.c.elen).toNat:Int)*blN s.c:=Int.mul_le_mul_of_nonneg_right (by omega) (by omega)
  have h2:s.c.capa≤blocksV s.c*blN s.c:=by
   have:=Int.lt_ediv_add_one_mul_self (s.c.capa-1) (show 0<blN s.c by omega)
   unfold blocksV;omega
  omega
theorem q_fldval {P:Program} {κ:Cx} {e:Env} {L:List Res} {d:Tmp} {ty:TypeId} {s:String} {af:Array Edge} {gd:Option (Nat × Bool)} {T f E o:Nat} {x:Operand} {cs:List Value} {v:Value} (hx:ev e x=some (.agg cs.toArray)) (hv:cs[o]?=some v) [hg:Ty P E false 1]
  (h:(P.underlying T).bind (fun d=>match d with | .struct fs=>(fs[f]?).map fun x=>(x.type,x.offset)|_=>none)=some (E,o)):QRun P κ e L ⟨some d,.field T x f,ty,s,af,gd⟩ v:=fun a w he _=>by
 obtain⟨d,hd,h⟩:=Option.bind_eq_some_iff.1 h
 cases d with
 | struct fs =>
  obtain⟨y,hy,h⟩:=Option.map_eq_some_iff.1 h
  simp only[Prod.mk.injEq] at h
  obtain⟨rfl,rfl⟩:=h
  simp[execOp,he.ev hx,Instr.field,Sem.run_bind,run_underlying hd,hy,asAgg,part,hg.agg w,hv]
 | _=>simp at h
theorem rc_lens {s:Eg} (h:Inv s) (hb:s.blk<1000000000) (y:Op):(applyE s y).2.ag.length≤2*s.c.qsize.toNat∧(applyE s y).2.ps.length≤10000:=by
 obtain⟨av,bv,hag,hav,hbv,_⟩:=ag_shape h hb y
 obtain⟨hagl,_⟩:=sh_get hag hav hbv
 have hqf:=h.qf
 exact⟨by omega,ps_len h hb y⟩
theorem okz_of {s:Eg} (h:Inv s):okV s.l:=fun x hx=>by
 obtain⟨j,hj,rfl⟩:=wN hx
 have h1:=sQ [j] s.l (by simp) (qA h)
 have h2:wsum s.l [j]=(gotV s.l j).bal:=by simp[wsum]
 have h3:=qA h j
 have h4:=h.sum
 obtain⟨l1,l2,l3,l4,l5,l6⟩:=h.led
 have h5:=(yU h.cc).maxd.2
 omega
theorem tkN_inv {s:Eg} (h:Inv s):∀k,s.blk+k<1000000000→Inv (tkN s k)∧(tkN s k).blk=s.blk+k∧(tkN s k).c=s.c
 | 0,_=>⟨h,rfl,rfl⟩
 | k+1,hb=>by
  obtain⟨h1,h2,h3⟩:=tkN_inv h k (by omega)
  have h4:=tickE_inv h1 (by omega)
  refine⟨h4,?_,?_⟩
  ·show(tickE (tkN s k)).1.blk=_
   rw[uV];show(tkN s k).blk+1=_;omega
  ·show(tickE (tkN s k)).1.c=_
   rw[uV];exact h3
theorem config_ok (p:EP) (a:EG) (s:Eg) (w:World) (hw:W0 [Eng p a s] w):Keep Tryz.prog 83 [.pointer (some ⟨p.eb,0,none⟩)] w [Eng p a s] (C.v s.c) :=
 Own2.star1 (fun hw2=>Own2.into hw2 (fun _=>Swap.self inferInstance) inferInstance (fun hw3=>config_eng p.rb p.cb p.lb p.bb p.ub p.mb p.xb p.pb p.gb p.tb p.eb s.c a.lA s.lv.length a.lc w hw3)) hw
theorem tall_any (p:EP) (a:EG) (lb mb:Nat) (h:HL) (c:C) (A:Option Addr) (n cap:Nat) (l:List Op) (w:World) (hw:W0 [Eng p a (newE c),Lg lb mb h] w) (hl:Rd w [Eng p a (newE c),Lg lb mb h] A n 4 (l.map Op.c)) (hc:chk c=0) (k_c:c.ok) (hqz:c.qsize≤200) (hr:a.Rep (newE c)) (hO:h.Ok 0) (hLo:∀y∈l,y.ok) (hln:l.length≤400):Own2 (ι:=(EG × HL)) Tryz.prog 24 [.agg #[.pointer (some ⟨p.eb,0,none⟩),.pointer (some ⟨lb,0,none⟩)],.slice A n cap] w [Eng p a (newE c),Lg lb mb h] (fun x=>x.1.Rep (runK (newE c) l l.length).1∧x.2.Ok (l.length*20000)) (fun x=>.tuple #[]) (fun x=>[]) (fun x=>[Eng p x.1 (runK (newE c) l l.length).1,Lg lb mb x.2]):=by
 refine g_st Tryz.func24 16 hw ?_
 have hn:n=l.length:=by simpa using hl.old.len
 have hLb:(newE c).blk+l.length<1000000000:=by show 0+l.length<_;omega
 refine rn [1] ?_
 refine g_op (g_box (c:=[.pointer (some ⟨p.eb,0,none⟩),.pointer (some ⟨lb,0,none⟩)]) rfl rfl rfl fun b2=>?_)
 refine rn [0,1,2,47,2,0,14] ?_
 refine xN (Eng p a (newE c)) (Eng p a (runK (newE c) l 0).1) rfl ?_
 refine g_lk [2,6,7] (fun(x:Nat × EG × HL)=>[(8,.int .i64 ((x.1:Nat):Int))]) (fun(x:Nat × EG × HL)=>[Res.blk b2 71 [.pointer (some ⟨p.eb,0,none⟩),.pointer (some ⟨lb,0,none⟩)],Eng p x.2.1 (runK (newE c) l x.1).1,Lg lb mb x.2.2]) (fun(x:Nat × EG × HL)=>x.1≤l.length∧EG.Rep x.2.1 (runK (newE c) l x.1).1∧HL.Ok (x.1*20000) x.2.2) (fun(x:Nat × EG × HL)=>l.length-x.1) (0,a,h) (by(try dsimp only);exact⟨Nat.zero_le _,hr,(by rw[Nat.zero_mul];exact hO)⟩) ?_
 rintro⟨k,a9,h9⟩ ⟨le_k,hr9,hq9⟩
 replace le_k:k≤l.length:=le_k
 replace hr9:EG.Rep a9 (runK (newE c) l k).1:=hr9
 replace hq9:HL.Ok (k*20000) h9:=hq9
 refine zV (L' := [Res.blk b2 71 [.pointer (some ⟨p.eb,0,none⟩),.pointer (some ⟨lb,0,none⟩)],Eng p a9 (runK (newE c) l k).1,Lg lb mb h9]) rfl ?_
 refine g_val 8 (v' := .int .i64 ((k:Nat):Int)) rfl rfl ?_
 obtain⟨hi9,hb9,hc9,hl9⟩:=vV (tE hc k_c) hLo hLb k (by omega)
 have hb0:(newE c).blk=0:=rfl
 refine rn [1,46,0,8] ?_
 refine zC rfl (fun h1=>?_) (fun h1=>?_)
 ·have lt_k:k<l.length:=by have h9:=of_decide_eq_true h1;omega
  obtain⟨yk,hyk⟩:∃z,z=l[k]:=⟨_,rfl⟩
  have hyo:yk.ok:=hyk ▸ hLo _ (List.getElem_mem lt_k)
  have hk9:runK (newE c) l (k+1)=stepA (runK (newE c) l k) yk:=by rw[hyk];exact tU lt_k
  obtain⟨hagl,hpsl⟩:=rc_lens hi9 (by omega) yk
  rw[hc9,show(newE c).c=c from rfl] at hagl
  refine rn [12,7,8,14,1] ?_
  refine s_q (zP (i:=k) rfl rfl rfl hl.rdb (by first|exact lt_k|omega)) rfl ?_
  refine s_q (zS (i:=k) rfl hl.rdb (zR (by first|exact(by first|exact lt_k|omega)|omega|(simp_all;done)|(simp_all;omega))) rfl) rfl ?_
  refine g_op (zK rfl fun b5=>?_)
  refine rn [33] ?_
  refine zF (b:=b5) (Op.c yk) (by rw[hyk]) ?_
  refine rn [0,10,45,45] ?_
  refine g_op (zG _ rfl (fun w1 hw1 ho1=>by have h7:=tdo_any (k*20000) p a9 (runK (newE c) l k).1 lb mb h9 yk w1 ho1 hi9 hr9 hyo (by omega) hq9 (by omega);exact h7) rfl ?_)
  rintro⟨x14,g14⟩ ⟨r14,k14⟩
  refine ii ?_
  simp only at r14 k14
  refine rn [9,15,7,10,43,2,9] ?_
  refine xN (Eng p x14.a (applyE (runK (newE c) l k).1 yk).1) (Eng p x14.a (runK (newE c) l (k+1)).1) (by rw[hk9];rfl) ?_
  exact g_ag ((k+1),x14.a,g14) (by(try dsimp only);exact⟨(by first|exact lt_k|omega),(by rw[hk9];exact r14),(k14.mono (by omega))⟩)
 ·have eq_k:k=l.length:=by have h9:=of_decide_eq_false h1;omega
  refine rn [16] ?_
  refine zD (zD (zN ?_))
  subst eq_k
  exact fin0 rfl (fun w' hw' => ⟨(a9,h9),(by exact⟨hr9,hq9⟩),rfl,zA w' hw'⟩) _ (.inr rfl)
theorem tick_ok:(Op.mk 7 0 0 0).ok:=by constructor<;>simp
theorem tuntil_any (B:Nat) (p:EP) (a:EG) (s:Eg) (lb mb:Nat) (h:HL) (E:Int) (K:Nat) (w:World) (hw:W0 [Eng p a s,Lg lb mb h] w) (hi:Inv s) (hr:a.Rep s) (hqz:s.c.qsize≤200) (hE:0≤E∧E≤1000000) (hK:(s.blk:Int)+K+1=(E+1)*s.c.elen) (hb:s.blk+K<1000000) (hO:h.Ok B) (hB:B+K*20000+20000≤1000000000):Own2 (ι:=EG × HL) Tryz.prog 27 [.agg #[.pointer (some ⟨p.eb,0,none⟩),.pointer (some ⟨lb,0,none⟩)],.int .i64 E] w [Eng p a s,Lg lb mb h] (fun x=>x.1.Rep (tkN s K)∧x.2.Ok (B+K*20000)) (fun x=>.tuple #[]) (fun x=>[]) (fun x=>[Eng p x.1 (tkN s K),Lg lb mb x.2]):=by
 refine g_st Tryz.func27 28 hw ?_
 refine rn [1] ?_
 refine g_op (g_box (c:=[.pointer (some ⟨p.eb,0,none⟩),.pointer (some ⟨lb,0,none⟩)]) rfl rfl rfl fun b2=>?_)
 refine rn [0,1,4,5] ?_
 refine g_op (zL _ rfl (fun w1 hw1 ho1=>by exact config_ok p a s w1 ho1) rfl ?_)
 refine g_op (zK rfl fun b4=>?_)
 refine rn [33] ?_
 refine zF (b:=b4) (C.c s.c) (by rfl) ?_
 refine rn [0,1,4,5] ?_
 refine g_op (zG _ rfl (fun w1 hw1 ho1=>by have h7:=sW p a s w1 ho1 hi hr;exact h7) rfl ?_)
 rintro sn12 _
 refine ii ?_
 refine g_op (zK rfl fun b5=>?_)
 refine rn [33] ?_
 refine zF (b:=b5) [Value.int .i64 (((s).blk:Nat):Int),.int .i64 (s).ep,.slice sn12.vA (s).l.length sn12.vc,.int .u64 (s).dep,.int .u64 (s).paid,.int .u64 (s).burn,.int .u64 (actS (s).l),.slice sn12.pA (s).pend.length sn12.pc,.slice sn12.fA (s).q.f.length sn12.fc,.slice sn12.oA (s).q.v.length sn12.oc,.slice sn12.mA (s).mg.length sn12.mc,.slice sn12.rA (s).pt.length sn12.rc,.int .i64 (((s).cur:Nat):Int),.int .u64 (s).m.bal,.int .i64 (((s).bo.length:Nat):Int)] (by rfl) ?_
 refine rn [0,1,4,5] ?_
 refine g_val 14 (v' := .int .i64 ((s.blk+0:Nat):Int)) rfl (rfl) ?_
 refine rn [3,0,14] ?_
 refine xN (Eng p a s) (Eng p a (tkN s 0)) rfl ?_
 refine g_lk [1,2,4] (fun(x:Nat × EG × HL)=>[(6,.int .i64 ((s.blk+x.1:Nat):Int))]) (fun(x:Nat × EG × HL)=>[Res.blk b2 71 [.pointer (some ⟨p.eb,0,none⟩),.pointer (some ⟨lb,0,none⟩)],Res.blk b4 24 (C.c s.c),Eng p x.2.1 (tkN s x.1),Lg lb mb x.2.2]) (fun(x:Nat × EG × HL)=>x.1≤K∧EG.Rep x.2.1 (tkN s x.1)∧HL.Ok (B+x.1*20000) x.2.2) (fun(x:Nat × EG × HL)=>K-x.1) (0,a,h) (by(try dsimp only);exact⟨Nat.zero_le _,hr,(by rw[Nat.zero_mul];exact hO)⟩) ?_
 rintro⟨k,a9,h9⟩ ⟨le_k,hr9,hq9⟩
 replace le_k:k≤K:=le_k
 replace hr9:EG.Rep a9 (tkN s k):=hr9
 replace hq9:HL.Ok (B+k*20000) h9:=hq9
 refine zV (L' := [Res.blk b2 71 [.pointer (some ⟨p.eb,0,none⟩),.pointer (some ⟨lb,0,none⟩)],Res.blk b4 24 (C.c s.c),Eng p a9 (tkN s k),Lg lb mb h9]) rfl ?_
 refine g_val 6 (v' := .int .i64 ((s.blk+k:Nat):Int)) rfl rfl ?_
 obtain⟨hi9,hb9,hc9⟩:=tkN_inv hi k (by omega)
 refine rn [8,1,2,43,2] ?_
 refine s_q (yJ (z:=E+1) rfl rfl (by rw[wi64 (by omega) (by omega)])) rfl ?_
 refine rn [4,5] ?_
 refine s_q (uJ (z:=(E+1)*s.c.elen) rfl rfl (by rw[wi64 (by omega) (by omega)])) rfl ?_
 refine rn [46,0] ?_
 refine zC rfl (fun h1=>?_) (fun h1=>?_)
 ·have lt_k:k<K:=by have h9:=of_decide_eq_true h1;omega
  obtain⟨hagl,hpsl⟩:=rc_lens hi9 (by omega) (Op.mk 7 0 0 0)
  have hqs:=yU hi9.cc
  rw[hc9] at hagl
  refine rn [12,7,8,14,10,45] ?_
  refine s_q (yH (c:=Op.c (Op.mk 7 0 0 0)) rfl (by kernel_rfl)) rfl ?_
  refine g_op (zG _ rfl (fun w1 hw1 ho1=>by have h7:=tdo_any (B+k*20000) p a9 (tkN s k) lb mb h9 (Op.mk 7 0 0 0) w1 ho1 hi9 hr9 tick_ok (by omega) hq9 (by omega);exact h7) rfl ?_)
  rintro⟨x27,g27⟩ ⟨r27,k27⟩
  refine ii ?_
  simp only at r27 k27
  refine rn [9,15,7,10,2,43,3,9] ?_
  refine xN (Eng p x27.a (applyE (tkN s k) (Op.mk 7 0 0 0)).1) (Eng p x27.a (tkN s (k+1))) (by rfl) ?_
  exact g_ag ((k+1),x27.a,g27) (by(try dsimp only);exact⟨(by first|exact lt_k|omega),r27,(k27.mono (by omega))⟩)
 ·have eq_k:k=K:=by have h9:=of_decide_eq_false h1;omega
  refine rn [16] ?_
  refine zD (zD (zN ?_))
  subst eq_k
  exact fin0 rfl (fun w' hw' => ⟨(a9,h9),(by exact⟨hr9,hq9⟩),rfl,zA w' hw'⟩) _ (.inr rfl)
end Go.Proofs.YtdddiilocbbkkaaGreat
