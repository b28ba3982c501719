/- TopDrains: for every configuration and all operations the law returns true. No condition. Part 22 of 28. -/
import Derived.Test.YtdddiilocbbkkaaGreatTD21
set_option linter.unusedVariables false
set_option linter.unusedSimpArgs false
namespace Go.Proofs.YtdddiilocbbkkaaGreat
open Go.RowKit Go.Eg
set_option maxHeartbeats 4000000
set_option synthInstance.maxSize 3000
set_option maxRecDepth 100000
theorem depE_fr (s:Eg) (o:Op):(depE s o).1={ s with l:=(depE s o).1.l,dep:=(depE s o).1.dep,pend:=(depE s o).1.pend }:=by
 unfold depE;repeat' split
 all_goals rfl
theorem wY (s:Eg) (cl i:Int):(leaveE s cl i).1={ s with l:=(leaveE s cl i).1.l,q:=(leaveE s cl i).1.q }:=by
 unfold leaveE;repeat' split
 all_goals rfl
theorem rN (s:Eg) (i:Int):(slashE s i).1={ s with l:=(slashE s i).1.l,burn:=(slashE s i).1.burn,q:=(slashE s i).1.q,bo:=(slashE s i).1.bo }:=by
 unfold slashE;dsimp only;repeat' split
 all_goals rfl
theorem consE_fr (s:Eg) (i t:Int):(consE s i t).1={ s with mg:=(consE s i t).1.mg }:=by
 unfold consE;repeat' split
 all_goals rfl
theorem partE_fr (s:Eg) (i a:Int):(partE s i a).1={ s with pt:=(partE s i a).1.pt }:=by
 unfold partE;repeat' split
 all_goals rfl
theorem midE_fr (s:Eg):(midE s).1={ s with blk:=s.blk+1,l:=(midE s).1.l,bo:=(midE s).1.bo,lv:=(midE s).1.lv,m:=(midE s).1.m,q:=(midE s).1.q,pend:=(midE s).1.pend,mg:=(midE s).1.mg }:=by
 unfold midE;split
 ·rfl
 ·rfl
theorem uV (s:Eg):(tickE s).1={ (tickE s).1 with c:=s.c,blk:=s.blk+1,dep:=s.dep,burn:=s.burn }:=by
 have h:=midE_fr s
 rw[wD]
 have e:∀t:Eg,(paysE t).1={ (paysE t).1 with c:=t.c,blk:=t.blk,dep:=t.dep,burn:=t.burn }:=fun t=>rfl
 conv=>lhs;rw[e]
 rw[h]
def actD (eb:Nat):List (Value × Value):=(List.range 6).map fun j:Nat=>(Value.int .i64 ((j:Int)+1),Value.func (.func (58+j)) #[.pointer (some ⟨eb,0,none⟩)] #[])
theorem k3 {z:Int} (h:-9223372036854775808≤z∧z≤9223372036854775807):Key Tryz.prog 3 (.int .i64 z):=keyI Tryz.underlying3 (i64wf h)
theorem xV (eb:Nat):∀p∈actD eb,Key Tryz.prog 3 p.1:=fun p hp=>by
 obtain⟨j,hj,rfl⟩:=List.mem_map.1 hp
 have:=List.mem_range.1 hj
 exact k3 (by omega)
theorem qD (eb n:Nat):∀p∈(actD eb).take n,p.1 ≠ .int .i64 ((n:Int)+1):=fun p hp hc=>by
 unfold actD at hp
 rw[←List.map_take,List.take_range] at hp
 obtain⟨j,hj,rfl⟩:=List.mem_map.1 hp
 have:=List.mem_range.1 hj
 injection hc with _ hc
 omega
theorem act_no0 (eb:Nat) {z:Int} (h:¬(1≤z∧z≤6)):∀p∈actD eb,p.1 ≠ .int .i64 z:=fun p hp hc=>by
 obtain⟨j,hj,rfl⟩:=List.mem_map.1 hp
 have:=List.mem_range.1 hj
 injection hc with _ hc
 omega
theorem sG (eb:Nat) {j:Nat} (hj:j<6):(Value.int .i64 ((j:Int)+1),Value.func (.func (58+j)) #[.pointer (some ⟨eb,0,none⟩)] #[])∈actD eb:=List.mem_map.2 ⟨j,List.mem_range.2 hj,rfl⟩
theorem qC (eb j:Nat):∀p∈actD eb,p.1=.int .i64 ((j:Int)+1)→p.2=.func (.func (58+j)) #[.pointer (some ⟨eb,0,none⟩)] #[]:=fun p hp hc=>by
 obtain⟨i,hi,rfl⟩:=List.mem_map.1 hp
 injection hc with _ hc
 obtain rfl:i=j:=by omega
 rfl
theorem apply_eng (eb rb cb lb bb ub mb xb b0 b1 pb gb tb:Nat) (c:C) (blk:Nat) (g:RG) (dep paid burn:Int) (bo:List En) (lv:List Int) (cur:Nat) (m:M) (q:LL) (pend:List Int) (mg:List PP) (pt:List Rq) (br:BR) (lA:Option Addr) (lc:Nat) (g0 g1 gp gg gt:Rg) (y:Op) (w:World) (hw:W0 [Res.blk eb 112 (ECell rb cb lb bb ub mb xb pb gb tb c lA (lv.length) lc),RgB rb g,RgW g,Res.im (RG.m g),CkB cb (blk) (c.elen.toNat),LgB lb (dep) (paid) (burn) (c.supc),bB_ bb br,bW_ br,bK_ br,Res.row lA (lv).length lc 3 1 ((lv).map (fun v:Int=>[Value.int .i64 v])),CuB ub (cur),Res.blk mb 186 (M.c m),bL_ xb b0 b1,rB_i b0 g0,rW_i g0,rB_i b1 g1,rW_i g1,rB_i pb gp,rW_i gp,rB_pp gb gg,rW_pp gg,rB_rq tb gt,rW_rq gt] w) (hi:Inv (Eg.mk c blk (RG.l g) dep paid burn bo lv cur m q pend mg pt)) (hg:g.Rep) (hcp:(g.cp:Int)=c.capa) (hbr:br.Rep bo) (h0:g0.Rep 1 (q.f.map (fun v:Int=>[Value.int .i64 v]))) (h1_:g1.Rep 1 (q.v.map (fun v:Int=>[Value.int .i64 v]))) (s0:Rg.size g0=c.qsize.toNat) (s1:Rg.size g1=c.qsize.toNat) (hgp:gp.Rep 1 (pend.map (fun v:Int=>[Value.int .i64 v]))) (sgp:Rg.size gp=c.qsize.toNat) (hgg:gg.Rep 2 (mg.map PP.c)) (sgg:Rg.size gg=c.qsize.toNat) (hgt:gt.Rep 2 (pt.map Rq.c)) (sgt:Rg.size gt=c.qsize.toNat) (hy:y.ok) (hb9:blk<1000000000):Own2 (ι:=TX) Tryz.prog 14 [.pointer (some ⟨eb,0,none⟩),.agg y.c.toArray] w [Res.blk eb 112 (ECell rb cb lb bb ub mb xb pb gb tb c lA (lv.length) lc),RgB rb g,RgW g,Res.im (RG.m g),CkB cb (blk) (c.elen.toNat),LgB lb (dep) (paid) (burn) (c.supc),bB_ bb br,bW_ br,bK_ br,Res.row lA (lv).length lc 3 1 ((lv).map (fun v:Int=>[Value.int .i64 v])),CuB ub (cur),Res.blk mb 186 (M.c m),bL_ xb b0 b1,rB_i b0 g0,rW_i g0,rB_i b1 g1,rW_i g1,rB_i pb gp,rW_i gp,rB_pp gb gg,rW_pp gg,rB_rq tb gt,rW_rq gt] (fun x=>x.a.Rep (applyE (Eg.mk c blk (RG.l g) dep paid burn bo lv cur m q pend mg pt) y).1) (fun x=>rcV (applyE (Eg.mk c blk (RG.l g) dep paid burn bo lv cur m q pend mg pt) y).2 x.O x.oc x.pA x.pc) (fun x=>[Res.row x.O (applyE (Eg.mk c blk (RG.l g) dep paid burn bo lv cur m q pend mg pt) y).2.ag.length x.oc 55 3 ((applyE (Eg.mk c blk (RG.l g) dep paid burn bo lv cur m q pend mg pt) y).2.ag.map As.cs),Res.row x.pA (applyE (Eg.mk c blk (RG.l g) dep paid burn bo lv cur m q pend mg pt) y).2.ps.length x.pc 50 3 ((applyE (Eg.mk c blk (RG.l g) dep paid burn bo lv cur m q pend mg pt) y).2.ps.map Y.c)]) (fun x=>[Res.blk eb 112 (ECell rb cb lb bb ub mb xb pb gb tb c x.a.lA ((applyE (Eg.mk c blk (RG.l g) dep paid burn bo lv cur m q pend mg pt) y).1.lv.length) x.a.lc),RgB rb x.a.g,RgW x.a.g,Res.im (RG.m x.a.g),CkB cb ((applyE (Eg.mk c blk (RG.l g) dep paid burn bo lv cur m q pend mg pt) y).1.blk) (c.elen.toNat),LgB lb ((applyE (Eg.mk c blk (RG.l g) dep paid burn bo lv cur m q pend mg pt) y).1.dep) ((applyE (Eg.mk c blk (RG.l g) dep paid burn bo lv cur m q pend mg pt) y).1.paid) ((applyE (Eg.mk c blk (RG.l g) dep paid burn bo lv cur m q pend mg pt) y).1.burn) (c.supc),bB_ bb x.a.br,bW_ x.a.br,bK_ x.a.br,Res.row x.a.lA ((applyE (Eg.mk c blk (RG.l g) dep paid burn bo lv cur m q pend mg pt) y).1.lv).length x.a.lc 3 1 (((applyE (Eg.mk c blk (RG.l g) dep paid burn bo lv cur m q pend mg pt) y).1.lv).map (fun v:Int=>[Value.int .i64 v])),CuB ub ((applyE (Eg.mk c blk (RG.l g) dep paid burn bo lv cur m q pend mg pt) y).1.cur),Res.blk mb 186 (M.c (applyE (Eg.mk c blk (RG.l g) dep paid burn bo lv cur m q pend mg pt) y).1.m),bL_ xb b0 b1,rB_i b0 x.a.g0,rW_i x.a.g0,rB_i b1 x.a.g1,rW_i x.a.g1,rB_i pb x.a.gp,rW_i x.a.gp,rB_pp gb x.a.gg,rW_pp x.a.gg,rB_rq tb x.a.gt,rW_rq x.a.gt]):=by
 refine g_st Tryz.func14 75 hw ?_
 have hok:Cok c:=hi.cok
 have hmo:Cmo c:=yU hi.cc
 have hblk:blk≤1000000000:=hi.blk
 have hk:blk<4611686018427387904:=by omega
 have hel:1≤c.elen.toNat∧c.elen.toNat≤4611686018427387904:=by have:=hok.elen;omega
 have hled:LOk c.supc dep paid burn:=hi.led
 have hqf:q.f.length≤c.qsize.toNat∧q.v.length≤c.qsize.toNat:=hi.qf
 have hsum:(bals (RG.l g)).sum=dep-paid-burn:=hi.sum
 have hvo:∀i,hasV (RG.l g) i=true→VO (gotV (RG.l g) i):=hi.vo
 have hqs:=hmo.qsize
 refine rn [1] ?_
 refine g_op (g_box rfl rfl rfl fun b3=>?_)
 refine g_op (zK rfl fun b4=>?_)
 refine rn [0,8,1,2,50,0,20,12,7,8,1,4,5,44,0] ?_
 refine zC rfl (fun h1=>?_) (fun h1=>?_)
 ·have h7:y.k=7:=of_decide_eq_true h1
  have hA:(applyE (Eg.mk c blk (RG.l g) dep paid burn bo lv cur m q pend mg pt) y)=(tickE (Eg.mk c blk (RG.l g) dep paid burn bo lv cur m q pend mg pt)):=by unfold applyE;rw[if_pos h7]
  have hF:=uV (Eg.mk c blk (RG.l g) dep paid burn bo lv cur m q pend mg pt)
  refine rn [1,2,45] ?_
  refine g_op (zG _ rfl (fun w1 hw1 ho1=>by have h7:=tick_eng eb rb cb lb bb ub mb xb b0 b1 pb gb tb c blk g dep paid burn bo lv cur m q pend mg pt br lA lc g0 g1 gp gg gt y w1 ho1 hi hg hcp hbr h0 h1_ s0 s1 hgp sgp hgg sgg hgt sgt h7 hb9;exact h7) rfl ?_)
  rintro⟨⟨g17,br17,lA17,lc17,ga17,gb17,gp17,gg17,gt17⟩,O17,oc17,pA17,pc17⟩ hR17
  refine ii ?_
  simp only at hR17
  refine rn [33,0,11,13] ?_
  exact fin1 rfl (.cellw rfl rfl) (fun w' hw' => ⟨(⟨⟨g17,br17,lA17,lc17,ga17,gb17,gp17,gg17,gt17⟩,O17,oc17,pA17,pc17⟩:TX),(by(rw[hA];exact hR17)),by rw[hA];rfl,by have h9:=zB (L' := [Res.row O17 (tickE (Eg.mk c blk (RG.l g) dep paid burn bo lv cur m q pend mg pt)).2.ag.length oc17 55 3 ((tickE (Eg.mk c blk (RG.l g) dep paid burn bo lv cur m q pend mg pt)).2.ag.map As.cs),Res.row pA17 (tickE (Eg.mk c blk (RG.l g) dep paid burn bo lv cur m q pend mg pt)).2.ps.length pc17 50 3 ((tickE (Eg.mk c blk (RG.l g) dep paid burn bo lv cur m q pend mg pt)).2.ps.map Y.c),Res.blk eb 112 (ECell rb cb lb bb ub mb xb pb gb tb c lA17 ((tickE (Eg.mk c blk (RG.l g) dep paid burn bo lv cur m q pend mg pt)).1.lv.length) lc17),RgB rb g17,RgW g17,Res.im (RG.m g17),CkB cb ((blk+1)) (c.elen.toNat),LgB lb (dep) ((tickE (Eg.mk c blk (RG.l g) dep paid burn bo lv cur m q pend mg pt)).1.paid) (burn) (c.supc),bB_ bb br17,bW_ br17,bK_ br17,Res.row lA17 ((tickE (Eg.mk c blk (RG.l g) dep paid burn bo lv cur m q pend mg pt)).1.lv).length lc17 3 1 (((tickE (Eg.mk c blk (RG.l g) dep paid burn bo lv cur m q pend mg pt)).1.lv).map (fun v:Int=>[Value.int .i64 v])),CuB ub ((tickE (Eg.mk c blk (RG.l g) dep paid burn bo lv cur m q pend mg pt)).1.cur),Res.blk mb 186 (M.c (tickE (Eg.mk c blk (RG.l g) dep paid burn bo lv cur m q pend mg pt)).1.m),bL_ xb b0 b1,rB_i b0 ga17,rW_i ga17,rB_i b1 gb17,rW_i gb17,rB_i pb gp17,rW_i gp17,rB_pp gb gg17,rW_pp gg17,rB_rq tb gt17,rW_rq gt17]) w' hw';rw[hA,hF];rw[hF] at h9;exact h9⟩) _ (.inl rfl)
 ·have n7:¬y.k=7:=of_decide_eq_false h1
  refine rn [12,7,1] ?_
  refine g_op (uB rfl fun b18=>?_)
  refine wF b18 ((actD eb).take 0) rfl ?_
  refine rn [2,52] ?_
  refine g_op (xE (b:=b18) (D:=(actD eb).take 0) rfl rfl rfl (k3 (by decide)) (fun p hp=>xV eb p (List.mem_of_mem_take hp)) (qD eb 0) ?_)
  refine wF b18 ((actD eb).take 1) rfl ?_
  refine rn [2,52] ?_
  refine g_op (xE (b:=b18) (D:=(actD eb).take 1) rfl rfl rfl (k3 (by decide)) (fun p hp=>xV eb p (List.mem_of_mem_take hp)) (qD eb 1) ?_)
  refine wF b18 ((actD eb).take 2) rfl ?_
  refine rn [2,52] ?_
  refine g_op (xE (b:=b18) (D:=(actD eb).take 2) rfl rfl rfl (k3 (by decide)) (fun p hp=>xV eb p (List.mem_of_mem_take hp)) (qD eb 2) ?_)
  refine wF b18 ((actD eb).take 3) rfl ?_
  refine rn [2,52] ?_
  refine g_op (xE (b:=b18) (D:=(actD eb).take 3) rfl rfl rfl (k3 (by decide)) (fun p hp=>xV eb p (List.mem_of_mem_take hp)) (qD eb 3) ?_)
  refine wF b18 ((actD eb).take 4) rfl ?_
  refine rn [2,52] ?_
  refine g_op (xE (b:=b18) (D:=(actD eb).take 4) rfl rfl rfl (k3 (by decide)) (fun p hp=>xV eb p (List.mem_of_mem_take hp)) (qD eb 4) ?_)
  refine wF b18 ((actD eb).take 5) rfl ?_
  refine rn [2,52] ?_
  refine g_op (xE (b:=b18) (D:=(actD eb).take 5) rfl rfl rfl (k3 (by decide)) (fun p hp=>xV eb p (List.mem_of_mem_take hp)) (qD eb 5) ?_)
  refine wF b18 ((actD eb).take 6) rfl ?_
  refine rn [2,3,0,1] ?_
  refine g_op (zI rfl (fun w1 hw1=>by exact yK (11) w1) rfl ?_)
  refine g_op (zK rfl fun b6=>?_)
  refine rn [33,0,8,8] ?_
  rcases(show y.k=1∨y.k=2∨y.k=3∨y.k=4∨y.k=5∨y.k=6∨¬(1≤y.k∧y.k≤6) by omega) with hk1|hk2|hk3|hk4|hk5|hk6|hk0
  ·have hA:(applyE (Eg.mk c blk (RG.l g) dep paid burn bo lv cur m q pend mg pt) y)=((depE (Eg.mk c blk (RG.l g) dep paid burn bo lv cur m q pend mg pt) y).1,rcp (Eg.mk c blk (RG.l g) dep paid burn bo lv cur m q pend mg pt) y (depE (Eg.mk c blk (RG.l g) dep paid burn bo lv cur m q pend mg pt) y).2):=by unfold applyE actE;rw[if_neg n7,if_pos hk1]
   have hF:=depE_fr (Eg.mk c blk (RG.l g) dep paid burn bo lv cur m q pend mg pt) y
   refine rn [10,2,4,5] ?_
   refine s_q (xS (b:=b18) (D:=(actD eb).take 6) (v:=.func (.func 58) #[.pointer (some ⟨eb,0,none⟩)] #[]) rfl (by rw[hk1];rfl) (k3 (by decide)) (fun p hp=>xV eb p (List.mem_of_mem_take hp)) (sG eb (j:=0) (by decide)) (qC eb 0)) rfl ?_
   refine rn [3,0,1,2] ?_
   refine s_q (sK ⟨_,_,_,rfl⟩ rfl rfl rfl) rfl ?_
   refine rn [0,19,10,2,45] ?_
   refine g_op (xQ [Res.blk eb 112 (ECell rb cb lb bb ub mb xb pb gb tb c lA (lv.length) lc),RgB rb g,RgW g,Res.im (RG.m g),LgB lb (dep) (paid) (burn) (c.supc),rB_i pb gp,rW_i gp] rfl rfl (fun w1 hw1 ho1=>by have h7:=deposit_any eb rb cb lb bb ub mb xb b0 b1 pb gb tb c blk g dep paid burn bo lv cur m q pend mg pt br lA lc g0 g1 gp gg gt y w1 ho1 hi hg hcp hgp sgp ⟨hy.a⟩;exact h7) rfl ?_)
   rintro⟨g41,gp41⟩ ⟨r41,l41,c41,rp41,sp41⟩
   refine ii ?_
   simp only at r41 l41 c41 rp41 sp41
   refine rn [33,0,8,1,4,5,51,0] ?_
   refine zC rfl (fun h2=>?_) (fun h2=>?_)
   ·have hcd:¬_=(0:Int):=of_decide_eq_false (by simpa using h2)
    refine zX none 55 3 (([]:List As).map As.cs) (by rfl) ?_
    refine zX none 50 3 (([]:List Y).map Y.c) (by rfl) ?_
    refine rn [8] ?_
    refine dreg [14] mixed rfl ?_
    refine rn [23,0,45,23,1,4,23,2,5,23,3,2,23,4,6,23,5,4,23,6,5,23,8,2,23,9,6,23,10,4,23,11,5] ?_
    refine dop 7 rfl (zL _ rfl (fun w1 hw1 ho1=>by exact yL cb blk c.elen.toNat w1 ho1 hk hel) rfl ?_)
    refine dop 12 rfl (zL _ rfl (fun w1 hw1 ho1=>by exact zY cb blk c.elen.toNat w1 ho1 hk hel) rfl ?_)
    refine dop 13 rfl (zI rfl (fun w1 hw1=>by exact wB y ((depE (Eg.mk c blk (RG.l g) dep paid burn bo lv cur m q pend mg pt) y).2.code) (((blk:Nat):Int)) ((((blk/c.elen.toNat):Nat):Int)) w1) rfl ?_)
    refine dop 14 rfl (zQ rfl rfl rfl rfl rfl ?_)
    refine rn [28,7,11,13] ?_
    exact fin1 rfl (.cellw rfl rfl) (fun w' hw' => ⟨(⟨⟨g41,br,lA,lc,g0,g1,gp41,gg,gt⟩,none,0,none,0⟩:TX),(by(try dsimp only);(rw[hA];exact⟨r41,l41,by rw[hF];show(RG.cp g41:Int)=c.capa;rw[c41];exact hcp,by rw[hF];exact hbr,by rw[hF];exact h0,by rw[hF];exact h1_,by rw[hF];exact s0,by rw[hF];exact s1,rp41,by rw[hF];exact sp41,by rw[hF];exact hgg,by rw[hF];exact sgg,by rw[hF];exact hgt,by rw[hF];exact sgt⟩)),by rw[hA];unfold rcp;rw[if_pos hcd];rfl,by have h9:=zB (L' := [Res.row none ([]:List As).length 0 55 3 (([]:List As).map As.cs),Res.row none ([]:List Y).length 0 50 3 (([]:List Y).map Y.c),Res.blk eb 112 (ECell rb cb lb bb ub mb xb pb gb tb c lA (lv.length) lc),RgB rb g41,RgW g41,Res.im (RG.m g41),CkB cb (blk) (c.elen.toNat),LgB lb ((depE (Eg.mk c blk (RG.l g) dep paid burn bo lv cur m q pend mg pt) y).1.dep) (paid) (burn) (c.supc),bB_ bb br,bW_ br,bK_ br,Res.row lA (lv).length lc 3 1 ((lv).map (fun v:Int=>[Value.int .i64 v])),CuB ub (cur),Res.blk mb 186 (M.c m),bL_ xb b0 b1,rB_i b0 g0,rW_i g0,rB_i b1 g1,rW_i g1,rB_i pb gp41,rW_i gp41,rB_pp gb gg,rW_pp gg,rB_rq tb gt,rW_rq gt]) w' hw';rw[hA];unfold rcp;rw[if_pos hcd];dsimp only;rw[hF];exact h9⟩) _ (.inl rfl)
   ·have hcd:¬¬_=(0:Int):=fun hc=>hc (of_decide_eq_true (by simpa using h2))
    refine zX none 55 3 (([]:List As).map As.cs) (by rfl) ?_
    refine zX none 50 3 (([]:List Y).map Y.c) (by rfl) ?_
    refine rn [12,7,8] ?_
    refine dreg [16] mixed rfl ?_
    refine rn [23,0,45,23,1,4,23,2,5,23,3,4,23,4,5,23,5,2,23,6,6,23,7,4,23,8,5,23,10,2,23,11,6,23,12,4,23,13,5] ?_
    refine dop 9 rfl (zL _ rfl (fun w1 hw1 ho1=>by exact yL cb blk c.elen.toNat w1 ho1 hk hel) rfl ?_)
    refine dop 14 rfl (zL _ rfl (fun w1 hw1 ho1=>by exact zY cb blk c.elen.toNat w1 ho1 hk hel) rfl ?_)
    refine dop 15 rfl (zI rfl (fun w1 hw1=>by exact yX y ((depE (Eg.mk c blk (RG.l g) dep paid burn bo lv cur m q pend mg pt) y).2.i) ((depE (Eg.mk c blk (RG.l g) dep paid burn bo lv cur m q pend mg pt) y).2.dl) (((blk:Nat):Int)) ((((blk/c.elen.toNat):Nat):Int)) w1) rfl ?_)
    refine dop 16 rfl (zQ rfl rfl rfl rfl rfl ?_)
    refine rn [28,7,11] ?_
    exact fin1 rfl (.cellw rfl rfl) (fun w' hw' => ⟨(⟨⟨g41,br,lA,lc,g0,g1,gp41,gg,gt⟩,none,0,none,0⟩:TX),(by(try dsimp only);(rw[hA];exact⟨r41,l41,by rw[hF];show(RG.cp g41:Int)=c.capa;rw[c41];exact hcp,by rw[hF];exact hbr,by rw[hF];exact h0,by rw[hF];exact h1_,by rw[hF];exact s0,by rw[hF];exact s1,rp41,by rw[hF];exact sp41,by rw[hF];exact hgg,by rw[hF];exact sgg,by rw[hF];exact hgt,by rw[hF];exact sgt⟩)),by rw[hA];unfold rcp;rw[if_neg hcd];rfl,by have h9:=zB (L' := [Res.row none ([]:List As).length 0 55 3 (([]:List As).map As.cs),Res.row none ([]:List Y).length 0 50 3 (([]:List Y).map Y.c),Res.blk eb 112 (ECell rb cb lb bb ub mb xb pb gb tb c lA (lv.length) lc),RgB rb g41,RgW g41,Res.im (RG.m g41),CkB cb (blk) (c.elen.toNat),LgB lb ((depE (Eg.mk c blk (RG.l g) dep paid burn bo lv cur m q pend mg pt) y).1.dep) (paid) (burn) (c.supc),bB_ bb br,bW_ br,bK_ br,Res.row lA (lv).length lc 3 1 ((lv).map (fun v:Int=>[Value.int .i64 v])),CuB ub (cur),Res.blk mb 186 (M.c m),bL_ xb b0 b1,rB_i b0 g0,rW_i g0,rB_i b1 g1,rW_i g1,rB_i pb gp41,rW_i gp41,rB_pp gb gg,rW_pp gg,rB_rq tb gt,rW_rq gt]) w' hw';rw[hA];unfold rcp;rw[if_neg hcd];dsimp only;rw[hF];exact h9⟩) _ (.inl rfl)
  ·have hA:(applyE (Eg.mk c blk (RG.l g) dep paid burn bo lv cur m q pend mg pt) y)=((leaveE (Eg.mk c blk (RG.l g) dep paid burn bo lv cur m q pend mg pt) 1 y.i).1,rcp (Eg.mk c blk (RG.l g) dep paid burn bo lv cur m q pend mg pt) y (leaveE (Eg.mk c blk (RG.l g) dep paid burn bo lv cur m q pend mg pt) 1 y.i).2):=by unfold applyE actE;rw[if_neg n7,if_neg (show¬y.k=1 by omega),if_pos hk2]
   have hF:=wY (Eg.mk c blk (RG.l g) dep paid burn bo lv cur m q pend mg pt) 1 y.i
   refine rn [10,2,4,5] ?_
   refine s_q (xS (b:=b18) (D:=(actD eb).take 6) (v:=.func (.func 59) #[.pointer (some ⟨eb,0,none⟩)] #[]) rfl (by rw[hk2];rfl) (k3 (by decide)) (fun p hp=>xV eb p (List.mem_of_mem_take hp)) (sG eb (j:=1) (by decide)) (qC eb 1)) rfl ?_
   refine rn [3,0,1,2] ?_
   refine s_q (sK ⟨_,_,_,rfl⟩ rfl rfl rfl) rfl ?_
   refine rn [0,19,10,2,45] ?_
   refine g_op (xQ [Res.blk eb 112 (ECell rb cb lb bb ub mb xb pb gb tb c lA (lv.length) lc),RgB rb g,RgW g,Res.im (RG.m g),CkB cb (blk) (c.elen.toNat),bL_ xb b0 b1,rB_i b0 g0,rW_i g0,rB_i b1 g1,rW_i g1] rfl rfl (fun w1 hw1 ho1=>by have h7:=exit_eng eb rb cb lb bb ub mb xb b0 b1 pb gb tb c blk g dep paid burn bo lv cur m q pend mg pt br lA lc g0 g1 gp gg gt y w1 ho1 hi hg hcp h0 h1_ s0 s1;exact h7) rfl ?_)
   rintro⟨g41,ga41,gb41⟩ ⟨r41,l41,c41,ra41,rb41,sa41,sb41⟩
   refine ii ?_
   simp only at r41 l41 c41 ra41 rb41 sa41 sb41
   refine rn [33,0,8,1,4,5,51,0] ?_
   refine zC rfl (fun h3=>?_) (fun h3=>?_)
   ·have hcd:¬_=(0:Int):=of_decide_eq_false (by simpa using h3)
    refine zX none 55 3 (([]:List As).map As.cs) (by rfl) ?_
    refine zX none 50 3 (([]:List Y).map Y.c) (by rfl) ?_
    refine rn [8] ?_
    refine dreg [14] mixed rfl ?_
    refine rn [23,0,45,23,1,4,23,2,5,23,3,2,23,4,6,23,5,4,23,6,5,23,8,2,23,9,6,23,10,4,23,11,5] ?_
    refine dop 7 rfl (zL _ rfl (fun w1 hw1 ho1=>by exact yL cb blk c.elen.toNat w1 ho1 hk hel) rfl ?_)
    refine dop 12 rfl (zL _ rfl (fun w1 hw1 ho1=>by exact zY cb blk c.elen.toNat w1 ho1 hk hel) rfl ?_)
    refine dop 13 rfl (zI rfl (fun w1 hw1=>by exact wB y ((leaveE (Eg.mk c blk (RG.l g) dep paid burn bo lv cur m q pend mg pt) 1 y.i).2.code) (((blk:Nat):Int)) ((((blk/c.elen.toNat):Nat):Int)) w1) rfl ?_)
    refine dop 14 rfl (zQ rfl rfl rfl rfl rfl ?_)
    refine rn [28,7,11,13] ?_
    exact fin1 rfl (.cellw rfl rfl) (fun w' hw' => ⟨(⟨⟨g41,br,lA,lc,ga41,gb41,gp,gg,gt⟩,none,0,none,0⟩:TX),(by(try dsimp only);(rw[hA];exact⟨r41,l41,by rw[hF];show(RG.cp g41:Int)=c.capa;rw[c41];exact hcp,by rw[hF];exact hbr,ra41,rb41,by rw[hF];exact sa41,by rw[hF];exact sb41,by rw[hF];exact hgp,by rw[hF];exact sgp,by rw[hF];exact hgg,by rw[hF];exact sgg,by rw[hF];exact hgt,by rw[hF];exact sgt⟩)),by rw[hA];unfold rcp;rw[if_pos hcd];rfl,by have h9:=zB (L' := [Res.row none ([]:List As).length 0 55 3 (([]:List As).map As.cs),Res.row none ([]:List Y).length 0 50 3 (([]:List Y).map Y.c),Res.blk eb 112 (ECell rb cb lb bb ub mb xb pb gb tb c lA (lv.length) lc),RgB rb g41,RgW g41,Res.im (RG.m g41),CkB cb (blk) (c.elen.toNat),LgB lb (dep) (paid) (burn) (c.supc),bB_ bb br,bW_ br,bK_ br,Res.row lA (lv).length lc 3 1 ((lv).map (fun v:Int=>[Value.int .i64 v])),CuB ub (cur),Res.blk mb 186 (M.c m),bL_ xb b0 b1,rB_i b0 ga41,rW_i ga41,rB_i b1 gb41,rW_i gb41,rB_i pb gp,rW_i gp,rB_pp gb gg,rW_pp gg,rB_rq tb gt,rW_rq gt]) w' hw';rw[hA];unfold rcp;rw[if_pos hcd];dsimp only;rw[hF];exact h9⟩) _ (.inl rfl)
   ·have hcd:¬¬_=(0:Int):=fun hc=>hc (of_decide_eq_true (by simpa using h3))
    refine zX none 55 3 (([]:List As).map As.cs) (by rfl) ?_
    refine zX none 50 3 (([]:List Y).map Y.c) (by rfl) ?_
    refine rn [12,7,8] ?_
    refine dreg [16] mixed rfl ?_
    refine rn [23,0,45,23,1,4,23,2,5,23,3,4,23,4,5,23,5,2,23,6,6,23,7,4,23,8,5,23,10,2,23,11,6,23,12,4,23,13,5] ?_
    refine dop 9 rfl (zL _ rfl (fun w1 hw1 ho1=>by exact yL cb blk c.elen.toNat w1 ho1 hk hel) rfl ?_)
    refine dop 14 rfl (zL _ rfl (fun w1 hw1 ho1=>by exact zY cb blk c.elen.toNat w1 ho1 hk hel) rfl ?_)
    refine dop 15 rfl (zI rfl (fun w1 hw1=>by exact yX y ((leaveE (Eg.mk c blk (RG.l g) dep paid burn bo lv cur m q pend mg pt) 1 y.i).2.i) ((leaveE (Eg.mk c blk (RG.l g) dep paid burn bo lv cur m q pend mg pt) 1 y.i).2.dl) (((blk:Nat):Int)) ((((blk/c.elen.toNat):Nat):Int)) w1) rfl ?_)
    refine dop 16 rfl (zQ rfl rfl rfl rfl rfl ?_)
    refine rn [28,7,11] ?_
    exact fin1 rfl (.cellw rfl rfl) (fun w' hw' => ⟨(⟨⟨g41,br,lA,lc,ga41,gb41,gp,gg,gt⟩,none,0,none,0⟩:TX),(by(try dsimp only);(rw[hA];exact⟨r41,l41,by rw[hF];show(RG.cp g41:Int)=c.capa;rw[c41];exact hcp,by rw[hF];exact hbr,ra41,rb41,by rw[hF];exact sa41,by rw[hF];exact sb41,by rw[hF];exact hgp,by rw[hF];exact sgp,by rw[hF];exact hgg,by rw[hF];exact sgg,by rw[hF];exact hgt,by rw[hF];exact sgt⟩)),by rw[hA];unfold rcp;rw[if_neg hcd];rfl,by have h9:=zB (L' := [Res.row none ([]:List As).length 0 55 3 (([]:List As).map As.cs),Res.row none ([]:List Y).length 0 50 3 (([]:List Y).map Y.c),Res.blk eb 112 (ECell rb cb lb bb ub mb xb pb gb tb c lA (lv.length) lc),RgB rb g41,RgW g41,Res.im (RG.m g41),CkB cb (blk) (c.elen.toNat),LgB lb (dep) (paid) (burn) (c.supc),bB_ bb br,bW_ br,bK_ br,Res.row lA (lv).length lc 3 1 ((lv).map (fun v:Int=>[Value.int .i64 v])),CuB ub (cur),Res.blk mb 186 (M.c m),bL_ xb b0 b1,rB_i b0 ga41,rW_i ga41,rB_i b1 gb41,rW_i gb41,rB_i pb gp,rW_i gp,rB_pp gb gg,rW_pp gg,rB_rq tb gt,rW_rq gt]) w' hw';rw[hA];unfold rcp;rw[if_neg hcd];dsimp only;rw[hF];exact h9⟩) _ (.inl rfl)
  ·have hA:(applyE (Eg.mk c blk (RG.l g) dep paid burn bo lv cur m q pend mg pt) y)=((leaveE (Eg.mk c blk (RG.l g) dep paid burn bo lv cur m q pend mg pt) 0 y.i).1,rcp (Eg.mk c blk (RG.l g) dep paid burn bo lv cur m q pend mg pt) y (leaveE (Eg.mk c blk (RG.l g) dep paid burn bo lv cur m q pend mg pt) 0 y.i).2):=by unfold applyE actE;rw[if_neg n7,if_neg (show¬y.k=1 by omega),if_neg (show¬y.k=2 by omega),if_pos hk3]
   have hF:=wY (Eg.mk c blk (RG.l g) dep paid burn bo lv cur m q pend mg pt) 0 y.i
   refine rn [10,2,4,5] ?_
   refine s_q (xS (b:=b18) (D:=(actD eb).take 6) (v:=.func (.func 60) #[.pointer (some ⟨eb,0,none⟩)] #[]) rfl (by rw[hk3];rfl) (k3 (by decide)) (fun p hp=>xV eb p (List.mem_of_mem_take hp)) (sG eb (j:=2) (by decide)) (qC eb 2)) rfl ?_
   refine rn [3,0,1,2] ?_
   refine s_q (sK ⟨_,_,_,rfl⟩ rfl rfl rfl) rfl ?_
   refine rn [0,19,10,2,45] ?_
   refine g_op (xQ [Res.blk eb 112 (ECell rb cb lb bb ub mb xb pb gb tb c lA (lv.length) lc),RgB rb g,RgW g,Res.im (RG.m g),CkB cb (blk) (c.elen.toNat),bL_ xb b0 b1,rB_i b0 g0,rW_i g0,rB_i b1 g1,rW_i g1] rfl rfl (fun w1 hw1 ho1=>by have h7:=eject_eng eb rb cb lb bb ub mb xb b0 b1 pb gb tb c blk g dep paid burn bo lv cur m q pend mg pt br lA lc g0 g1 gp gg gt y w1 ho1 hi hg hcp h0 h1_ s0 s1;exact h7) rfl ?_)
   rintro⟨g41,ga41,gb41⟩ ⟨r41,l41,c41,ra41,rb41,sa41,sb41⟩
   refine ii ?_
   simp only at r41 l41 c41 ra41 rb41 sa41 sb41
   refine rn [33,0,8,1,4,5,51,0] ?_
   refine zC rfl (fun h4=>?_) (fun h4=>?_)
   ·have hcd:¬_=(0:Int):=of_decide_eq_false (by simpa using h4)
    refine zX none 55 3 (([]:List As).map As.cs) (by rfl) ?_
    refine zX none 50 3 (([]:List Y).map Y.c) (by rfl) ?_
    refine rn [8] ?_
    refine dreg [14] mixed rfl ?_
    refine rn [23,0,45,23,1,4,23,2,5,23,3,2,23,4,6,23,5,4,23,6,5,23,8,2,23,9,6,23,10,4,23,11,5] ?_
    refine dop 7 rfl (zL _ rfl (fun w1 hw1 ho1=>by exact yL cb blk c.elen.toNat w1 ho1 hk hel) rfl ?_)
    refine dop 12 rfl (zL _ rfl (fun w1 hw1 ho1=>by exact zY cb blk c.elen.toNat w1 ho1 hk hel) rfl ?_)
    refine dop 13 rfl (zI rfl (fun w1 hw1=>by exact wB y ((leaveE (Eg.mk c blk (RG.l g) dep paid burn bo lv cur m q pend mg pt) 0 y.i).2.code) (((blk:Nat):Int)) ((((blk/c.elen.toNat):Nat):Int)) w1) rfl ?_)
    refine dop 14 rfl (zQ rfl rfl rfl rfl rfl ?_)
    refine rn [28,7,11,13] ?_
    exact fin1 rfl (.cellw rfl rfl) (fun w' hw' => ⟨(⟨⟨g41,br,lA,lc,ga41,gb41,gp,gg,gt⟩,none,0,none,0⟩:TX),(by(try dsimp only);(rw[hA];exact⟨r41,l41,by rw[hF];show(RG.cp g41:Int)=c.capa;rw[c41];exact hcp,by rw[hF];exact hbr,ra41,rb41,by rw[hF];exact sa41,by rw[hF];exact sb41,by rw[hF];exact hgp,by rw[hF];exact sgp,by rw[hF];exact hgg,by rw[hF];exact sgg,by rw[hF];exact hgt,by rw[hF];exact sgt⟩)),by rw[hA];unfold rcp;rw[if_pos hcd];rfl,by have h9:=zB (L' := [Res.row none ([]:List As).length 0 55 3 (([]:List As).map As.cs),Res.row none ([]:List Y).length 0 50 3 (([]:List Y).map Y.c),Res.blk eb 112 (ECell rb cb lb bb ub mb xb pb gb tb c lA (lv.length) lc),RgB rb g41,RgW g41,Res.im (RG.m g41),CkB cb (blk) (c.elen.toNat),LgB lb (dep) (paid) (burn) (c.supc),bB_ bb br,bW_ br,bK_ br,Res.row lA (lv).length lc 3 1 ((lv).map (fun v:Int=>[Value.int .i64 v])),CuB ub (cur),Res.blk mb 186 (M.c m),bL_ xb b0 b1,rB_i b0 ga41,rW_i ga41,rB_i b1 gb41,rW_i gb41,rB_i pb gp,rW_i gp,rB_pp gb gg,rW_pp gg,rB_rq tb gt,rW_rq gt]) w' hw';rw[hA];unfold rcp;rw[if_pos hcd];dsimp only;rw[hF];exact h9⟩) _ (.inl rfl)
   ·have hcd:¬¬_=(0:Int):=fun hc=>hc (of_decide_eq_true (by simpa using h4))
    refine zX none 55 3 (([]:List As).map As.cs) (by rfl) ?_
    refine zX none 50 3 (([]:List Y).map Y.c) (by rfl) ?_
    refine rn [12,7,8] ?_
    refine dreg [16] mixed rfl ?_
    refine rn [23,0,45,23,1,4,23,2,5,23,3,4,23,4,5,23,5,2,23,6,6,23,7,4,23,8,5,23,10,2,23,11,6,23,12,4,23,13,5] ?_
    refine dop 9 rfl (zL _ rfl (fun w1 hw1 ho1=>by exact yL cb blk c.elen.toNat w1 ho1 hk hel) rfl ?_)
    refine dop 14 rfl (zL _ rfl (fun w1 hw1 ho1=>by exact zY cb blk c.elen.toNat w1 ho1 hk hel) rfl ?_)
    refine dop 15 rfl (zI rfl (fun w1 hw1=>by exact yX y ((leaveE (Eg.mk c blk (RG.l g) dep paid burn bo lv cur m q pend mg pt) 0 y.i).2.i) ((leaveE (Eg.mk c blk (RG.l g) dep paid burn bo lv cur m q pend mg pt) 0 y.i).2.dl) (((blk:Nat):Int)) ((((blk/c.elen.toNat):Nat):Int)) w1) rfl ?_)
    refine dop 16 rfl (zQ rfl rfl rfl rfl rfl ?_)
    refine rn [28,7,11] ?_
    exact fin1 rfl (.cellw rfl rfl) (fun w' hw' => ⟨(⟨⟨g41,br,lA,lc,ga41,gb41,gp,gg,gt⟩,none,0,none,0⟩:TX),(by(try dsimp only);(rw[hA];exact⟨r41,l41,by rw[hF];show(RG.cp g41:Int)=c.capa;rw[c41];exact hcp,by rw[hF];exact hbr,ra41,rb41,by rw[hF];exact sa41,by rw[hF];exact sb41,by rw[hF];exact hgp,by rw[hF];exact sgp,by rw[hF];exact hgg,by rw[hF];exact sgg,by rw[hF];exact hgt,by rw[hF];exact sgt⟩)),by rw[hA];unfold rcp;rw[if_neg hcd];rfl,by have h9:=zB (L' := [Res.row none ([]:List As).length 0 55 3 (([]:List As).map As.cs),Res.row none ([]:List Y).length 0 50 3 (([]:List Y).map Y.c),Res.blk eb 112 (ECell rb cb lb bb ub mb xb pb gb tb c lA (lv.length) lc),RgB rb g41,RgW g41,Res.im (RG.m g41),CkB cb (blk) (c.elen.toNat),LgB lb (dep) (paid) (burn) (c.supc),bB_ bb br,bW_ br,bK_ br,Res.row lA (lv).length lc 3 1 ((lv).map (fun v:Int=>[Value.int .i64 v])),CuB ub (cur),Res.blk mb 186 (M.c m),bL_ xb b0 b1,rB_i b0 ga41,rW_i ga41,rB_i b1 gb41,rW_i gb41,rB_i pb gp,rW_i gp,rB_pp gb gg,rW_pp gg,rB_rq tb gt,rW_rq gt]) w' hw';rw[hA];unfold rcp;rw[if_neg hcd];dsimp only;rw[hF];exact h9⟩) _ (.inl rfl)
  ·have hA:(applyE (Eg.mk c blk (RG.l g) dep paid burn bo lv cur m q pend mg pt) y)=((slashE (Eg.mk c blk (RG.l g) dep paid burn bo lv cur m q pend mg pt) y.i).1,rcp (Eg.mk c blk (RG.l g) dep paid burn bo lv cur m q pend mg pt) y (slashE (Eg.mk c blk (RG.l g) dep paid burn bo lv cur m q pend mg pt) y.i).2):=by unfold applyE actE;rw[if_neg n7,if_neg (show¬y.k=1 by omega),if_neg (show¬y.k=2 by omega),if_neg (show¬y.k=3 by omega),if_pos hk4]
   have hF:=rN (Eg.mk c blk (RG.l g) dep paid burn bo lv cur m q pend mg pt) y.i
   refine rn [10,2,4,5] ?_
   refine s_q (xS (b:=b18) (D:=(actD eb).take 6) (v:=.func (.func 61) #[.pointer (some ⟨eb,0,none⟩)] #[]) rfl (by rw[hk4];rfl) (k3 (by decide)) (fun p hp=>xV eb p (List.mem_of_mem_take hp)) (sG eb (j:=3) (by decide)) (qC eb 3)) rfl ?_
   refine rn [3,0,1,2] ?_
   refine s_q (sK ⟨_,_,_,rfl⟩ rfl rfl rfl) rfl ?_
   refine rn [0,19,10,2,45] ?_
   refine g_op (xQ [Res.blk eb 112 (ECell rb cb lb bb ub mb xb pb gb tb c lA (lv.length) lc),RgB rb g,RgW g,Res.im (RG.m g),CkB cb (blk) (c.elen.toNat),LgB lb (dep) (paid) (burn) (c.supc),bB_ bb br,bW_ br,bK_ br,bL_ xb b0 b1,rB_i b0 g0,rW_i g0,rB_i b1 g1,rW_i g1] rfl rfl (fun w1 hw1 ho1=>by have h7:=slash_eng eb rb cb lb bb ub mb xb b0 b1 pb gb tb c blk g dep paid burn bo lv cur m q pend mg pt br lA lc g0 g1 gp gg gt y w1 ho1 hi hg hcp hbr h0 h1_ s0 s1;exact h7) rfl ?_)
   rintro⟨g41,br41,ga41,gb41⟩ ⟨r41,l41,c41,rbr41,ra41,rb41,sa41,sb41⟩
   refine ii ?_
   simp only at r41 l41 c41 rbr41 ra41 rb41 sa41 sb41
   refine rn [33,0,8,1,4,5,51,0] ?_
   refine zC rfl (fun h5=>?_) (fun h5=>?_)
   ·have hcd:¬_=(0:Int):=of_decide_eq_false (by simpa using h5)
    refine zX none 55 3 (([]:List As).map As.cs) (by rfl) ?_
    refine zX none 50 3 (([]:List Y).map Y.c) (by rfl) ?_
    refine rn [8] ?_
    refine dreg [14] mixed rfl ?_
    refine rn [23,0,45,23,1,4,23,2,5,23,3,2,23,4,6,23,5,4,23,6,5,23,8,2,23,9,6,23,10,4,23,11,5] ?_
    refine dop 7 rfl (zL _ rfl (fun w1 hw1 ho1=>by exact yL cb blk c.elen.toNat w1 ho1 hk hel) rfl ?_)
    refine dop 12 rfl (zL _ rfl (fun w1 hw1 ho1=>by exact zY cb blk c.elen.toNat w1 ho1 hk hel) rfl ?_)
    refine dop 13 rfl (zI rfl (fun w1 hw1=>by exact wB y ((slashE (Eg.mk c blk (RG.l g) dep paid burn bo lv cur m q pend mg pt) y.i).2.code) (((blk:Nat):Int)) ((((blk/c.elen.toNat):Nat):Int)) w1) rfl ?_)
    refine dop 14 rfl (zQ rfl rfl rfl rfl rfl ?_)
    refine rn [28,7,11,13] ?_
    exact fin1 rfl (.cellw rfl rfl) (fun w' hw' => ⟨(⟨⟨g41,br41,lA,lc,ga41,gb41,gp,gg,gt⟩,none,0,none,0⟩:TX),(by(try dsimp only);(rw[hA];exact⟨r41,l41,by rw[hF];show(RG.cp g41:Int)=c.capa;rw[c41];exact hcp,rbr41,ra41,rb41,by rw[hF];exact sa41,by rw[hF];exact sb41,by rw[hF];exact hgp,by rw[hF];exact sgp,by rw[hF];exact hgg,by rw[hF];exact sgg,by rw[hF];exact hgt,by rw[hF];exact sgt⟩)),by rw[hA];unfold rcp;rw[if_pos hcd];rfl,by have h9:=zB (L' := [Res.row none ([]:List As).length 0 55 3 (([]:List As).map As.cs),Res.row none ([]:List Y).length 0 50 3 (([]:List Y).map Y.c),Res.blk eb 112 (ECell rb cb lb bb ub mb xb pb gb tb c lA (lv.length) lc),RgB rb g41,RgW g41,Res.im (RG.m g41),CkB cb (blk) (c.elen.toNat),LgB lb (dep) (paid) ((slashE (Eg.mk c blk (RG.l g) dep paid burn bo lv cur m q pend mg pt) y.i).1.burn) (c.supc),bB_ bb br41,bW_ br41,bK_ br41,Res.row lA (lv).length lc 3 1 ((lv).map (fun v:Int=>[Value.int .i64 v])),CuB ub (cur),Res.blk mb 186 (M.c m),bL_ xb b0 b1,rB_i b0 ga41,rW_i ga41,rB_i b1 gb41,rW_i gb41,rB_i pb gp,rW_i gp,rB_pp gb gg,rW_pp gg,rB_rq tb gt,rW_rq gt]) w' hw';rw[hA];unfold rcp;rw[if_pos hcd];dsimp only;rw[hF];exact h9⟩) _ (.inl rfl)
   ·have hcd:¬¬_=(0:Int):=fun hc=>hc (of_decide_eq_true (by simpa using h5))
    refine zX none 55 3 (([]:List As).map As.cs) (by rfl) ?_
    refine zX none 50 3 (([]:List Y).map Y.c) (by rfl) ?_
    refine rn [12,7,8] ?_
    refine dreg [16] mixed rfl ?_
    refine rn [23,0,45,23,1,4,23,2,5,23,3,4,23,4,5,23,5,2,23,6,6,23,7,4,23,8,5,23,10,2,23,11,6,23,12,4,23,13,5] ?_
    refine dop 9 rfl (zL _ rfl (fun w1 hw1 ho1=>by exact yL cb blk c.elen.toNat w1 ho1 hk hel) rfl ?_)
    refine dop 14 rfl (zL _ rfl (fun w1 hw1 ho1=>by exact zY cb blk c.elen.toNat w1 ho1 hk hel) rfl ?_)
    refine dop 15 rfl (zI rfl (fun w1 hw1=>by exact yX y ((slashE (Eg.mk c blk (RG.l g) dep paid burn bo lv cur m q pend mg pt) y.i).2.i) ((slashE (Eg.mk c blk (RG.l g) dep paid burn bo lv cur m q pend mg pt) y.i).2.dl) (((blk:Nat):Int)) ((((blk/c.elen.toNat):Nat):Int)) w1) rfl ?_)
    refine dop 16 rfl (zQ rfl rfl rfl rfl rfl ?_)
    refine rn [28,7,11] ?_
    exact fin1 rfl (.cellw rfl rfl) (fun w' hw' => ⟨(⟨⟨g41,br41,lA,lc,ga41,gb41,gp,gg,gt⟩,none,0,none,0⟩:TX),(by(try dsimp only);(rw[hA];exact⟨r41,l41,by rw[hF];show(RG.cp g41:Int)=c.capa;rw[c41];exact hcp,rbr41,ra41,rb41,by rw[hF];exact sa41,by rw[hF];exact sb41,by rw[hF];exact hgp,by rw[hF];exact sgp,by rw[hF];exact hgg,by rw[hF];exact sgg,by rw[hF];exact hgt,by rw[hF];exact sgt⟩)),by rw[hA];unfold rcp;rw[if_neg hcd];rfl,by have h9:=zB (L' := [Res.row none ([]:List As).length 0 55 3 (([]:List As).map As.cs),Res.row none ([]:List Y).length 0 50 3 (([]:List Y).map Y.c),Res.blk eb 112 (ECell rb cb lb bb ub mb xb pb gb tb c lA (lv.length) lc),RgB rb g41,RgW g41,Res.im (RG.m g41),CkB cb (blk) (c.elen.toNat),LgB lb (dep) (paid) ((slashE (Eg.mk c blk (RG.l g) dep paid burn bo lv cur m q pend mg pt) y.i).1.burn) (c.supc),bB_ bb br41,bW_ br41,bK_ br41,Res.row lA (lv).length lc 3 1 ((lv).map (fun v:Int=>[Value.int .i64 v])),CuB ub (cur),Res.blk mb 186 (M.c m),bL_ xb b0 b1,rB_i b0 ga41,rW_i ga41,rB_i b1 gb41,rW_i gb41,rB_i pb gp,rW_i gp,rB_pp gb gg,rW_pp gg,rB_rq tb gt,rW_rq gt]) w' hw';rw[hA];unfold rcp;rw[if_neg hcd];dsimp only;rw[hF];exact h9⟩) _ (.inl rfl)
  ·have hA:(applyE (Eg.mk c blk (RG.l g) dep paid burn bo lv cur m q pend mg pt) y)=((consE (Eg.mk c blk (RG.l g) dep paid burn bo lv cur m q pend mg pt) y.i y.t).1,rcp (Eg.mk c blk (RG.l g) dep paid burn bo lv cur m q pend mg pt) y (consE (Eg.mk c blk (RG.l g) dep paid burn bo lv cur m q pend mg pt) y.i y.t).2):=by unfold applyE actE;rw[if_neg n7,if_neg (show¬y.k=1 by omega),if_neg (show¬y.k=2 by omega),if_neg (show¬y.k=3 by omega),if_neg (show¬y.k=4 by omega),if_pos hk5]
   have hF:=consE_fr (Eg.mk c blk (RG.l g) dep paid burn bo lv cur m q pend mg pt) y.i y.t
   refine rn [10,2,4,5] ?_
   refine s_q (xS (b:=b18) (D:=(actD eb).take 6) (v:=.func (.func 62) #[.pointer (some ⟨eb,0,none⟩)] #[]) rfl (by rw[hk5];rfl) (k3 (by decide)) (fun p hp=>xV eb p (List.mem_of_mem_take hp)) (sG eb (j:=4) (by decide)) (qC eb 4)) rfl ?_
   refine rn [3,0,1,2] ?_
   refine s_q (sK ⟨_,_,_,rfl⟩ rfl rfl rfl) rfl ?_
   refine rn [0,19,10,2,45] ?_
   refine g_op (xQ [Res.blk eb 112 (ECell rb cb lb bb ub mb xb pb gb tb c lA (lv.length) lc),RgB rb g,RgW g,Res.im (RG.m g),rB_pp gb gg,rW_pp gg] rfl rfl (fun w1 hw1 ho1=>by have h7:=cons_any eb rb cb lb bb ub mb xb b0 b1 pb gb tb c blk g dep paid burn bo lv cur m q pend mg pt br lA lc g0 g1 gp gg gt y w1 ho1 hi hg hcp hgg sgg;exact h7) rfl ?_)
   rintro gg41 ⟨rg41,sg41⟩
   refine ii ?_
   refine rn [33,0,8,1,4,5,51,0] ?_
   refine zC rfl (fun h6=>?_) (fun h6=>?_)
   ·have hcd:¬_=(0:Int):=of_decide_eq_false (by simpa using h6)
    refine zX none 55 3 (([]:List As).map As.cs) (by rfl) ?_
    refine zX none 50 3 (([]:List Y).map Y.c) (by rfl) ?_
    refine rn [8] ?_
    refine dreg [14] mixed rfl ?_
    refine rn [23,0,45,23,1,4,23,2,5,23,3,2,23,4,6,23,5,4,23,6,5,23,8,2,23,9,6,23,10,4,23,11,5] ?_
    refine dop 7 rfl (zL _ rfl (fun w1 hw1 ho1=>by exact yL cb blk c.elen.toNat w1 ho1 hk hel) rfl ?_)
    refine dop 12 rfl (zL _ rfl (fun w1 hw1 ho1=>by exact zY cb blk c.elen.toNat w1 ho1 hk hel) rfl ?_)
    refine dop 13 rfl (zI rfl (fun w1 hw1=>by exact wB y ((consE (Eg.mk c blk (RG.l g) dep paid burn bo lv cur m q pend mg pt) y.i y.t).2.code) (((blk:Nat):Int)) ((((blk/c.elen.toNat):Nat):Int)) w1) rfl ?_)
    refine dop 14 rfl (zQ rfl rfl rfl rfl rfl ?_)
    refine rn [28,7,11,13] ?_
    exact fin1 rfl (.cellw rfl rfl) (fun w' hw' => ⟨(⟨⟨g,br,lA,lc,g0,g1,gp,gg41,gt⟩,none,0,none,0⟩:TX),(by(try dsimp only);(rw[hA];exact⟨hg,by rw[hF],by rw[hF];exact hcp,by rw[hF];exact hbr,by rw[hF];exact h0,by rw[hF];exact h1_,by rw[hF];exact s0,by rw[hF];exact s1,by rw[hF];exact hgp,by rw[hF];exact sgp,rg41,by rw[hF];exact sg41,by rw[hF];exact hgt,by rw[hF];exact sgt⟩)),by rw[hA];unfold rcp;rw[if_pos hcd];rfl,by have h9:=zB (L' := [Res.row none ([]:List As).length 0 55 3 (([]:List As).map As.cs),Res.row none ([]:List Y).length 0 50 3 (([]:List Y).map Y.c),Res.blk eb 112 (ECell rb cb lb bb ub mb xb pb gb tb c lA (lv.length) lc),RgB rb g,RgW g,Res.im (RG.m g),CkB cb (blk) (c.elen.toNat),LgB lb (dep) (paid) (burn) (c.supc),bB_ bb br,bW_ br,bK_ br,Res.row lA (lv).length lc 3 1 ((lv).map (fun v:Int=>[Value.int .i64 v])),CuB ub (cur),Res.blk mb 186 (M.c m),bL_ xb b0 b1,rB_i b0 g0,rW_i g0,rB_i b1 g1,rW_i g1,rB_i pb gp,rW_i gp,rB_pp gb gg41,rW_pp gg41,rB_rq tb gt,rW_rq gt]) w' hw';rw[hA];unfold rcp;rw[if_pos hcd];dsimp only;rw[hF];exact h9⟩) _ (.inl rfl)
   ·have hcd:¬¬_=(0:Int):=fun hc=>hc (of_decide_eq_true (by simpa using h6))
    refine zX none 55 3 (([]:List As).map As.cs) (by rfl) ?_
    refine zX none 50 3 (([]:List Y).map Y.c) (by rfl) ?_
    refine rn [12,7,8] ?_
    refine dreg [16] mixed rfl ?_
    refine rn [23,0,45,23,1,4,23,2,5,23,3,4,23,4,5,23,5,2,23,6,6,23,7,4,23,8,5,23,10,2,23,11,6,23,12,4,23,13,5] ?_
    refine dop 9 rfl (zL _ rfl (fun w1 hw1 ho1=>by exact yL cb blk c.elen.toNat w1 ho1 hk hel) rfl ?_)
    refine dop 14 rfl (zL _ rfl (fun w1 hw1 ho1=>by exact zY cb blk c.elen.toNat w1 ho1 hk hel) rfl ?_)
    refine dop 15 rfl (zI rfl (fun w1 hw1=>by exact yX y ((consE (Eg.mk c blk (RG.l g) dep paid burn bo lv cur m q pend mg pt) y.i y.t).2.i) ((consE (Eg.mk c blk (RG.l g) dep paid burn bo lv cur m q pend mg pt) y.i y.t).2.dl) (((blk:Nat):Int)) ((((blk/c.elen.toNat):Nat):Int)) w1) rfl ?_)
    refine dop 16 rfl (zQ rfl rfl rfl rfl rfl ?_)
    refine rn [28,7,11] ?_
    exact fin1 rfl (.cellw rfl rfl) (fun w' hw' => ⟨(⟨⟨g,br,lA,lc,g0,g1,gp,gg41,gt⟩,none,0,none,0⟩:TX),(by(try dsimp only);(rw[hA];exact⟨hg,by rw[hF],by rw[hF];exact hcp,by rw[hF];exact hbr,by rw[hF];exact h0,by rw[hF];exact h1_,by rw[hF];exact s0,by rw[hF];exact s1,by rw[hF];exact hgp,by rw[hF];exact sgp,rg41,by rw[hF];exact sg41,by rw[hF];exact hgt,by rw[hF];exact sgt⟩)),by rw[hA];unfold rcp;rw[if_neg hcd];rfl,by have h9:=zB (L' := [Res.row none ([]:List As).length 0 55 3 (([]:List As).map As.cs),Res.row none ([]:List Y).length 0 50 3 (([]:List Y).map Y.c),Res.blk eb 112 (ECell rb cb lb bb ub mb xb pb gb tb c lA (lv.length) lc),RgB rb g,RgW g,Res.im (RG.m g),CkB cb (blk) (c.elen.toNat),LgB lb (dep) (paid) (burn) (c.supc),bB_ bb br,bW_ br,bK_ br,Res.row lA (lv).length lc 3 1 ((lv).map (fun v:Int=>[Value.int .i64 v])),CuB ub (cur),Res.blk mb 186 (M.c m),bL_ xb b0 b1,rB_i b0 g0,rW_i g0,rB_i b1 g1,rW_i g1,rB_i pb gp,rW_i gp,rB_pp gb gg41,rW_pp gg41,rB_rq tb gt,rW_rq gt]) w' hw';rw[hA];unfold rcp;rw[if_neg hcd];dsimp only;rw[hF];exact h9⟩) _ (.inl rfl)
  ·have hA:(applyE (Eg.mk c blk (RG.l g) dep paid burn bo lv cur m q pend mg pt) y)=((partE (Eg.mk c blk (RG.l g) dep paid burn bo lv cur m q pend mg pt) y.i y.a).1,rcp (Eg.mk c blk (RG.l g) dep paid burn bo lv cur m q pend mg pt) y (partE (Eg.mk c blk (RG.l g) dep paid burn bo lv cur m q pend mg pt) y.i y.a).2):=by unfold applyE actE;rw[if_neg n7,if_neg (show¬y.k=1 by omega),if_neg (show¬y.k=2 by omega),if_neg (show¬y.k=3 by omega),if_neg (show¬y.k=4 by omega),if_neg (show¬y.k=5 by omega),if_pos hk6]
   have hF:=partE_fr (Eg.mk c blk (RG.l g) dep paid burn bo lv cur m q pend mg pt) y.i y.a
   refine rn [10,2,4,5] ?_
   refine s_q (xS (b:=b18) (D:=(actD eb).take 6) (v:=.func (.func 63) #[.pointer (some ⟨eb,0,none⟩)] #[]) rfl (by rw[hk6];rfl) (k3 (by decide)) (fun p hp=>xV eb p (List.mem_of_mem_take hp)) (sG eb (j:=5) (by decide)) (qC eb 5)) rfl ?_
   refine rn [3,0,1,2] ?_
   refine s_q (sK ⟨_,_,_,rfl⟩ rfl rfl rfl) rfl ?_
   refine rn [0,19,10,2,45] ?_
   refine g_op (xQ [Res.blk eb 112 (ECell rb cb lb bb ub mb xb pb gb tb c lA (lv.length) lc),RgB rb g,RgW g,Res.im (RG.m g),rB_rq tb gt,rW_rq gt] rfl rfl (fun w1 hw1 ho1=>by have h7:=part_any eb rb cb lb bb ub mb xb b0 b1 pb gb tb c blk g dep paid burn bo lv cur m q pend mg pt br lA lc g0 g1 gp gg gt y w1 ho1 hi hg hcp hgt sgt;exact h7) rfl ?_)
   rintro gt41 ⟨rt41,st41⟩
   refine ii ?_
   refine rn [33,0,8,1,4,5,51,0] ?_
   refine zC rfl (fun h7=>?_) (fun h7=>?_)
   ·have hcd:¬_=(0:Int):=of_decide_eq_false (by simpa using h7)
    refine zX none 55 3 (([]:List As).map As.cs) (by rfl) ?_
    refine zX none 50 3 (([]:List Y).map Y.c) (by rfl) ?_
    refine rn [8] ?_
    refine dreg [14] mixed rfl ?_
    refine rn [23,0,45,23,1,4,23,2,5,23,3,2,23,4,6,23,5,4,23,6,5,23,8,2,23,9,6,23,10,4,23,11,5] ?_
    refine dop 7 rfl (zL _ rfl (fun w1 hw1 ho1=>by exact yL cb blk c.elen.toNat w1 ho1 hk hel) rfl ?_)
    refine dop 12 rfl (zL _ rfl (fun w1 hw1 ho1=>by exact zY cb blk c.elen.toNat w1 ho1 hk hel) rfl ?_)
    refine dop 13 rfl (zI rfl (fun w1 hw1=>by exact wB y ((partE (Eg.mk c blk (RG.l g) dep paid burn bo lv cur m q pend mg pt) y.i y.a).2.code) (((blk:Nat):Int)) ((((blk/c.elen.toNat):Nat):Int)) w1) rfl ?_)
    refine dop 14 rfl (zQ rfl rfl rfl rfl rfl ?_)
    refine rn [28,7,11,13] ?_
    exact fin1 rfl (.cellw rfl rfl) (fun w' hw' => ⟨(⟨⟨g,br,lA,lc,g0,g1,gp,gg,gt41⟩,none,0,none,0⟩:TX),(by(try dsimp only);(rw[hA];exact⟨hg,by rw[hF],by rw[hF];exact hcp,by rw[hF];exact hbr,by rw[hF];exact h0,by rw[hF];exact h1_,by rw[hF];exact s0,by rw[hF];exact s1,by rw[hF];exact hgp,by rw[hF];exact sgp,by rw[hF];exact hgg,by rw[hF];exact sgg,rt41,by rw[hF];exact st41⟩)),by rw[hA];unfold rcp;rw[if_pos hcd];rfl,by have h9:=zB (L' := [Res.row none ([]:List As).length 0 55 3 (([]:List As).map As.cs),Res.row none ([]:List Y).length 0 50 3 (([]:List Y).map Y.c),Res.blk eb 112 (ECell rb cb lb bb ub mb xb pb gb tb c lA (lv.length) lc),RgB rb g,RgW g,Res.im (RG.m g),CkB cb (blk) (c.elen.toNat),LgB lb (dep) (paid) (burn) (c.supc),bB_ bb br,bW_ br,bK_ br,Res.row lA (lv).length lc 3 1 ((lv).map (fun v:Int=>[Value.int .i64 v])),CuB ub (cur),Res.blk mb 186 (M.c m),bL_ xb b0 b1,rB_i b0 g0,rW_i g0,rB_i b1 g1,rW_i g1,rB_i pb gp,rW_i gp,rB_pp gb gg,rW_pp gg,rB_rq tb gt41,rW_rq gt41]) w' hw';rw[hA];unfold rcp;rw[if_pos hcd];dsimp only;rw[hF];exact h9⟩) _ (.inl rfl)
   ·have hcd:¬¬_=(0:Int):=fun hc=>hc (of_decide_eq_true (by simpa using h7))
    refine zX none 55 3 (([]:List As).map As.cs) (by rfl) ?_
    refine zX none 50 3 (([]:List Y).map Y.c) (by rfl) ?_
    refine rn [12,7,8] ?_
    refine dreg [16] mixed rfl ?_
    refine rn [23,0,45,23,1,4,23,2,5,23,3,4,23,4,5,23,5,2,23,6,6,23,7,4,23,8,5,23,10,2,23,11,6,23,12,4,23,13,5] ?_
    refine dop 9 rfl (zL _ rfl (fun w1 hw1 ho1=>by exact yL cb blk c.elen.toNat w1 ho1 hk hel) rfl ?_)
    refine dop 14 rfl (zL _ rfl (fun w1 hw1 ho1=>by exact zY cb blk c.elen.toNat w1 ho1 hk hel) rfl ?_)
    refine dop 15 rfl (zI rfl (fun w1 hw1=>by exact yX y ((partE (Eg.mk c blk (RG.l g) dep paid burn bo lv cur m q pend mg pt) y.i y.a).2.i) ((partE (Eg.mk c blk (RG.l g) dep paid burn bo lv cur m q pend mg pt) y.i y.a).2.dl) (((blk:Nat):Int)) ((((blk/c.elen.toNat):Nat):Int)) w1) rfl ?_)
    refine dop 16 rfl (zQ rfl rfl rfl rfl rfl ?_)
    refine rn [28,7,11] ?_
    exact fin1 rfl (.cellw rfl rfl) (fun w' hw' => ⟨(⟨⟨g,br,lA,lc,g0,g1,gp,gg,gt41⟩,none,0,none,0⟩:TX),(by(try dsimp only);(rw[hA];exact⟨hg,by rw[hF],by rw[hF];exact hcp,by rw[hF];exact hbr,by rw[hF];exact h0,by rw[hF];exact h1_,by rw[hF];exact s0,by rw[hF];exact s1,by rw[hF];exact hgp,by rw[hF];exact sgp,by rw[hF];exact hgg,by rw[hF];exact sgg,rt41,by rw[hF];exact st41⟩)),by rw[hA];unfold rcp;rw[if_neg hcd];rfl,by have h9:=zB (L' := [Res.row none ([]:List As).length 0 55 3 (([]:List As).map As.cs),Res.row none ([]:List Y).length 0 50 3 (([]:List Y).map Y.c),Res.blk eb 112 (ECell rb cb lb bb ub mb xb pb gb tb c lA (lv.length) lc),RgB rb g,RgW g,Res.im (RG.m g),CkB cb (blk) (c.elen.toNat),LgB lb (dep) (paid) (burn) (c.supc),bB_ bb br,bW_ br,bK_ br,Res.row lA (lv).length lc 3 1 ((lv).map (fun v:Int=>[Value.int .i64 v])),CuB ub (cur),Res.blk mb 186 (M.c m),bL_ xb b0 b1,rB_i b0 g0,rW_i g0,rB_i b1 g1,rW_i g1,rB_i pb gp,rW_i gp,rB_pp gb gg,rW_pp gg,rB_rq tb gt41,rW_rq gt41]) w' hw';rw[hA];unfold rcp;rw[if_neg hcd];dsimp only;rw[hF];exact h9⟩) _ (.inl rfl)
  ·have hA:(applyE (Eg.mk c blk (RG.l g) dep paid burn bo lv cur m q pend mg pt) y)=((Eg.mk c blk (RG.l g) dep paid burn bo lv cur m q pend mg pt),rcp (Eg.mk c blk (RG.l g) dep paid burn bo lv cur m q pend mg pt) y ⟨11,0,0⟩):=by unfold applyE actE;rw[if_neg n7,if_neg (show¬y.k=1 by omega),if_neg (show¬y.k=2 by omega),if_neg (show¬y.k=3 by omega),if_neg (show¬y.k=4 by omega),if_neg (show¬y.k=5 by omega),if_neg (show¬y.k=6 by omega)]
   refine rn [10,2,4,5] ?_
   refine s_q (q_look1_f (b:=b18) (z:=.nilFunc) (D:=(actD eb).take 6) rfl rfl (k3 hy.k) (fun p hp=>xV eb p (List.mem_of_mem_take hp)) (fun p hp=>act_no0 eb hk0 p (List.mem_of_mem_take hp)) (zv (by kernel_rfl))) rfl ?_
   refine rn [3,0,1,2] ?_
   refine s_q (sK ⟨_,_,_,rfl⟩ rfl rfl rfl) rfl ?_
   refine rn [0,20,12,7,8,1,4,5,51] ?_
   refine yC 44 (b:=true) rfl (rfl) ?_
   refine rn [0,19,8] ?_
   refine dreg [14] mixed rfl ?_
   refine rn [23,0,45,23,1,4,23,2,5,23,3,2,23,4,6,23,5,4,23,6,5,23,8,2,23,9,6,23,10,4,23,11,5] ?_
   refine dop 7 rfl (zL _ rfl (fun w1 hw1 ho1=>by exact yL cb blk c.elen.toNat w1 ho1 hk hel) rfl ?_)
   refine dop 12 rfl (zL _ rfl (fun w1 hw1 ho1=>by exact zY cb blk c.elen.toNat w1 ho1 hk hel) rfl ?_)
   refine dop 13 rfl (zI rfl (fun w1 hw1=>by exact wB y ((⟨11,0,0⟩:Rs).code) (((blk:Nat):Int)) ((((blk/c.elen.toNat):Nat):Int)) w1) rfl ?_)
   refine dop 14 rfl (zQ rfl rfl rfl rfl rfl ?_)
   refine rn [28,7,11,13] ?_
   have hcd:¬(11:Int)=0:=by decide
   refine zX none 55 3 (([]:List As).map As.cs) (by rfl) ?_
   refine zX none 50 3 (([]:List Y).map Y.c) (by rfl) ?_
   exact fin1 rfl (.cellw rfl rfl) (fun w' hw' => ⟨(⟨⟨g,br,lA,lc,g0,g1,gp,gg,gt⟩,none,0,none,0⟩:TX),(by(rw[hA];exact⟨hg,rfl,hcp,hbr,h0,h1_,s0,s1,hgp,sgp,hgg,sgg,hgt,sgt⟩)),by rw[hA];unfold rcp;rw[if_pos hcd];rfl,by have h9:=zB (L' := [Res.row none ([]:List As).length 0 55 3 (([]:List As).map As.cs),Res.row none ([]:List Y).length 0 50 3 (([]:List Y).map Y.c),Res.blk eb 112 (ECell rb cb lb bb ub mb xb pb gb tb c lA (lv.length) lc),RgB rb g,RgW g,Res.im (RG.m g),CkB cb (blk) (c.elen.toNat),LgB lb (dep) (paid) (burn) (c.supc),bB_ bb br,bW_ br,bK_ br,Res.row lA (lv).length lc 3 1 ((lv).map (fun v:Int=>[Value.int .i64 v])),CuB ub (cur),Res.blk mb 186 (M.c m),bL_ xb b0 b1,rB_i b0 g0,rW_i g0,rB_i b1 g1,rW_i g1,rB_i pb gp,rW_i gp,rB_pp gb gg,rW_pp gg,rB_rq tb gt,rW_rq gt]) w' hw';rw[hA];unfold rcp;rw[if_pos hcd];exact h9⟩) _ (.inl rfl)
end Go.Proofs.YtdddiilocbbkkaaGreat
