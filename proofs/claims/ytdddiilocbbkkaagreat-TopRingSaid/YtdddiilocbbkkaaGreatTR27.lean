/- TopRing: for every configuration, all operations and every length the law returns true. No condition. Part 27 of 28. -/
import Derived.Test.YtdddiilocbbkkaaGreatTR26
set_option linter.unusedVariables false
set_option linter.unusedSimpArgs false
namespace Go.Proofs.YtdddiilocbbkkaaGreat
open Go.RowKit Go.Eg
set_option maxHeartbeats 4000000
set_option synthInstance.maxSize 3000
set_option maxRecDepth 100000
def rl (z:Int) (c:C):C:={ c with rlen:=z }
def Eg.rl (z:Int) (s:Eg):Eg:={ s with c:=Go.Proofs.YtdddiilocbbkkaaGreat.rl z s.c }
theorem rl_dep (z:Int) (s:Eg) (o:Op):depE (s.rl z) o=((depE s o).1.rl z,(depE s o).2):=by
 unfold depE
 repeat' split
 all_goals first|rfl|contradiction
theorem rl_leave (z:Int) (s:Eg) (cl i:Int):leaveE (s.rl z) cl i=((leaveE s cl i).1.rl z,(leaveE s cl i).2):=by
 unfold leaveE
 dsimp only
 by_cases h1:hasV s.l i=false
 ·rw[if_pos h1,if_pos (show hasV (s.rl z).l i=false from h1)]
 rw[if_neg h1,if_neg (show¬hasV (s.rl z).l i=false from h1)]
 by_cases h2:(accV (gotV s.l i) s.ep).2≠0
 ·rw[if_pos h2,if_pos (show(accV (gotV (s.rl z).l i) (s.rl z).ep).2≠0 from h2)];rfl
 rw[if_neg h2,if_neg (show¬(accV (gotV (s.rl z).l i) (s.rl z).ep).2≠0 from h2)]
 by_cases h3:freeL s.c.qsize.toNat cl s.q=0
 ·rw[if_pos h3,if_pos (show freeL (s.rl z).c.qsize.toNat cl (s.rl z).q=0 from h3)]
 rw[if_neg h3,if_neg (show¬freeL (s.rl z).c.qsize.toNat cl (s.rl z).q=0 from h3)]
 by_cases h4:addB (wgts s.l (aheadL cl s.q))=false∨bdsB s.ep (addV (wgts s.l (aheadL cl s.q))) (accV (gotV s.l i) s.ep).1.bal s.c [s.c.unb,sweepV s.c]=false
 ·rw[if_pos h4];exact if_pos h4
 ·rw[if_neg h4];exact if_neg h4
theorem rl_slash (z:Int) (s:Eg) (i:Int):slashE (s.rl z) i=((slashE s i).1.rl z,(slashE s i).2):=by
 unfold slashE
 by_cases h1:hasV s.l i=false
 ·rw[if_pos h1];exact if_pos h1
 rw[if_neg h1]
 refine(if_neg h1).trans ?_
 dsimp only
 by_cases h2:(slaV (gotV s.l i) s.ep s.c).2.2=9∨(slaV (gotV s.l i) s.ep s.c).2.2=8
 ·rw[if_pos h2];exact if_pos h2
 rw[if_neg h2]
 refine(if_neg h2).trans ?_
 by_cases h3:(gotV s.l i).st=2∧freeL s.c.qsize.toNat 0 s.q=0
 ·rw[if_pos h3];exact if_pos h3
 rw[if_neg h3]
 refine(if_neg h3).trans ?_
 by_cases h4:(slaV (gotV s.l i) s.ep s.c).2.2≠0
 ·rw[if_pos h4];exact if_pos h4
 rw[if_neg h4]
 exact if_neg h4
theorem rl_cons (z:Int) (s:Eg) (i t:Int):consE (s.rl z) i t=((consE s i t).1.rl z,(consE s i t).2):=by
 unfold consE
 repeat' split
 all_goals first|rfl|contradiction
theorem rl_part (z:Int) (s:Eg) (i a:Int):partE (s.rl z) i a=((partE s i a).1.rl z,(partE s i a).2):=by
 unfold partE
 repeat' split
 all_goals first|rfl|contradiction
theorem rl_act (z:Int) (s:Eg) (o:Op):actE (s.rl z) o=((actE s o).1.rl z,(actE s o).2):=by
 unfold actE
 split
 ·exact rl_dep z s o
 split
 ·exact rl_leave z s 1 o.i
 split
 ·exact rl_leave z s 0 o.i
 split
 ·exact rl_slash z s o.i
 split
 ·exact rl_cons z s o.i o.t
 split
 ·exact rl_part z s o.i o.a
 ·rfl
theorem rl_bdy (z:Int) (s:Eg):bdyE (s.rl z)=((bdyE s).1.rl z,(bdyE s).2):=rfl
theorem rl_pays (z:Int) (s:Eg):paysE (s.rl z)=((paysE s).1.rl z,(paysE s).2):=rfl
theorem rl_mid (z:Int) (s:Eg):midE (s.rl z)=((midE s).1.rl z,(midE s).2):=by
 unfold midE
 by_cases h:(s.blk+1)%s.c.elen.toNat=0
 ·rw[if_pos h,if_pos (show((s.rl z).blk+1)%(s.rl z).c.elen.toNat=0 from h)]
  exact rl_bdy z { s with blk:=s.blk+1 }
 ·rw[if_neg h,if_neg (show¬((s.rl z).blk+1)%(s.rl z).c.elen.toNat=0 from h)];rfl
theorem rl_apply (z:Int) (s:Eg) (o:Op):applyE (s.rl z) o=((applyE s o).1.rl z,(applyE s o).2):=by
 unfold applyE
 split
 ·rw[wB,wB,rl_mid]
  simp only
  rw[rl_pays];rfl
 ·rw[rl_act];rfl
theorem rl_run (z:Int):∀(l:List Op) (t:Eg × List Rc),l.foldl stepA (t.1.rl z,t.2)=((l.foldl stepA t).1.rl z,(l.foldl stepA t).2)
 | [],_=>rfl
 | y :: l,t=>by
  rw[List.foldl_cons,List.foldl_cons]
  have:stepA (t.1.rl z,t.2) y=((stepA t y).1.rl z,(stepA t y).2):=by unfold stepA;simp only;rw[rl_apply]
  rw[this];exact rl_run z l (stepA t y)
theorem Own2.star2 {ι:Type} {P:Program} {f:FuncId} {args:List Value} {w:World} {Ls R:List Res} {p:ι→Prop} {val:ι→Value} {Ls1:ι→List Res} (h:W0 (Ls++R) w→Own2 P f args w (Ls++R) p val (fun _=>[]) (fun x=>Ls1 x++R)) (hw:W0 (.star Ls :: R) w) :
  Own2 P f args w (.star Ls :: R) p val (fun _=>[]) (fun x=>.star (Ls1 x) :: R):=by
 have e:fps (.star Ls :: R)=fps (Ls++R):=by simp[fps,Res.star]
 have h1:WOK (fps (Ls++R)) w (Ls++R) w:=by rw[←e];exact WOK.opened hw
 refine Ret.mono (h h1) fun v w' ⟨x,hp,hv,hw2⟩=>⟨x,hp,hv,?_⟩
 rw[e]
 exact(show WOK _ _ (Ls1 x++R) w' from hw2).closed
theorem has_wf {s:Eg} (h:Inv s) {i:Int} (hi:hasV s.l i=true):(Lit.int .i64 i).wf=true:=by
 have h1:=of_decide_eq_true hi
 have h2:=h.cap;have h3:=h.cok.capa
 exact i64wf (by omega)
theorem rc_ag {s:Eg} (h:Inv s) (hb:s.blk<1000000000) (y:Op):∀a∈(applyE s y).2.ag,(Lit.int .i64 a.i).wf=true:=fun a ha=>by
 obtain⟨m,n,h1,_⟩:=ag_shape h hb y
 rw[h1] at ha
 have:a.i∈s.q.f++s.q.v:=by
  rcases List.mem_append.1 ha with ha|ha
  ·obtain⟨i,hi,rfl⟩:=List.mem_map.1 ha;exact List.mem_append.2 (.inl (List.mem_of_mem_take hi))
  ·obtain⟨i,hi,rfl⟩:=List.mem_map.1 ha;exact List.mem_append.2 (.inr (List.mem_of_mem_take hi))
 exact has_wf h (yQ (by have:=((h.e.lan a.i).1 this).1;omega))
theorem rc_ps {s:Eg} (h:Inv s) (hb:s.blk<1000000000) (y:Op):∀p∈(applyE s y).2.ps,(Lit.int .i64 p.i).wf=true:=fun p hp=>has_wf h ((once_apply h hb y).1 p hp).1
theorem act_i (s:Eg) (y:Op):(actE s y).2.i=0∨(actE s y).2.i=y.i∨(actE s y).2.i=(s.l.length:Int):=by
 unfold actE
 split
 ·unfold depE;repeat' split
  all_goals simp
 split
 ·unfold leaveE;repeat' split
  all_goals simp
 split
 ·unfold leaveE;repeat' split
  all_goals simp
 split
 ·unfold slashE
  split
  ·simp
  ·dsimp only;repeat' split
   all_goals simp
 split
 ·unfold consE;repeat' split
  all_goals simp
 split
 ·unfold partE;repeat' split
  all_goals simp
 ·simp
theorem rc_i {s:Eg} (h:Inv s) (y:Op) (hy:y.ok):(Lit.int .i64 (applyE s y).2.i).wf=true:=by
 have h2:=h.cap;have h3:=h.cok.capa
 unfold applyE
 split
 ·exact(by decide:(Lit.int .i64 (-1)).wf=true)
 ·show(Lit.int .i64 (rcp s y (actE s y).2).i).wf=true
  unfold rcp
  split
  ·exact(by decide:(Lit.int .i64 (-1)).wf=true)
  ·have h4:=act_i s y
   have h5:=hy.i
   exact i64wf (by show -9223372036854775808≤(actE s y).2.i∧(actE s y).2.i≤_;omega)
def h00:HL:=⟨none,0,[],0,0,none,0,[],[]⟩
def Lg (lb mb:Nat) (h:HL):Res:=.star (HL.own lb mb h)
theorem h00_ok:HL.Ok 0 h00:=⟨⟨by simp[h00],by simp[h00],by simp[h00]⟩,by simp[h00],by simp[h00]⟩
theorem hnew_any (w:World) : Own2 (ι:=(Nat × Nat)) Tryz.prog 78 [] w [] (fun x=>True) (fun x=>.pointer (some ⟨x.1,0,none⟩)) (fun x=>[Lg x.1 x.2 h00]) (fun x=>[]):=by
 refine g_st Tryz.func78 5 (WOK.start (fps []) _) ?_
 refine rn [1,3,0,1] ?_
 refine g_op (vT rfl fun b1=>?_)
 refine rn [49,49] ?_
 refine g_op (g_box rfl rfl rfl fun b4=>?_)
 refine zF (b:=b4) (h00.c b1) (by rfl) ?_
 refine rn [3,0,11] ?_
 refine wM none 3 1 ?_
 refine wM none 55 3 ?_
 refine g_nostar ?_
 refine xX [Res.blk b4 242 (h00.c b1),Res.row none 0 0 3 1 [],Res.row none 0 0 55 3 [],Res.mp b1 [],Res.star []] ?_
 refine xU (Res.star [Res.blk b4 242 (h00.c b1),Res.row none 0 0 3 1 [],Res.row none 0 0 55 3 [],Res.mp b1 [],Res.star []]) (Lg b4 b1 h00) (by rfl) ?_
 exact fin1 rfl (.tmp rfl) (fun w' hw' => ⟨(b4,b1),(by exact trivial),rfl,zA w' hw'⟩) _ (.inl rfl)
theorem tbeg_any (c:C) (w:World) (hc:chk c=0) (hk:c.ok):Own2 (ι:=(EP × EG × Nat × Nat)) Tryz.prog 21 [c.v] w [] (fun x=>x.2.1.Rep (newE c)) (fun x=>.tuple [.agg #[.pointer (some ⟨x.1.eb,0,none⟩),.pointer (some ⟨x.2.2.1,0,none⟩)],.bool true].toArray) (fun x=>[Eng x.1 x.2.1 (newE c),Lg x.2.2.1 x.2.2.2 h00]) (fun x=>[]):=by
 refine g_st Tryz.func21 22 (WOK.start (fps []) _) ?_
 refine rn [1] ?_
 refine g_op (g_box (c:=C.c c) rfl rfl rfl fun b1=>?_)
 refine g_op (zK rfl fun b2=>?_)
 refine rn [3,0,1,45] ?_
 refine g_op (zH [] rfl (fun w1 hw1 ho1=>by have h7:=new_ok c w1 hc hk;exact h7) rfl ?_)
 rintro⟨p9,a9⟩ r9
 refine ii ?_
 simp only at r9
 refine rn [2,40,40,3,3,0,1] ?_
 refine g_op (zH [] rfl (fun w1 hw1 ho1=>by have h7:=hnew_any w1;exact h7) rfl ?_)
 rintro⟨b12,m12⟩ _
 refine ii ?_
 refine rn [3,0,1,2,2,49,2] ?_
 refine s_q (q_nep (b:=true) rfl rfl rfl) rfl ?_
 refine rn [2,22,2] ?_
 refine s_qg (q_nep (b:=true) rfl rfl rfl) rfl rfl rfl ?_
 refine rn [41,33,3,0,11] ?_
 exact fin2 rfl (.cellw rfl rfl) (.tmp rfl) (fun w' hw' => ⟨(p9,a9,b12,m12),(by exact r9),rfl,zA w' hw'⟩) _ (.inl rfl)
theorem hadd_ok (B lb mb:Nat) (h:HL) (y:Op) (x0:RX) (w:World) (hw:W0 [Lg lb mb h,Res.row x0.O x0.r.ag.length x0.oc 55 3 (x0.r.ag.map As.cs),Res.row x0.pA x0.r.ps.length x0.pc 50 3 (x0.r.ps.map Y.c)] w) (hO:h.Ok B) (hB:B+x0.r.ag.length+x0.r.ps.length≤1000000000) (hag:∀a∈x0.r.ag,(Lit.int .i64 a.i).wf=true) (hps:∀p∈x0.r.ps,(Lit.int .i64 p.i).wf=true) (hri:(Lit.int .i64 x0.r.i).wf=true) :
  Own2 (ι:=HL) Tryz.prog 79 [.pointer (some ⟨lb,0,none⟩),.agg (Op.c y).toArray,.agg (RX.c x0).toArray] w [Lg lb mb h,Res.row x0.O x0.r.ag.length x0.oc 55 3 (x0.r.ag.map As.cs),Res.row x0.pA x0.r.ps.length x0.pc 50 3 (x0.r.ps.map Y.c)] (fun x=>x.Ok (B+x0.r.ag.length+x0.r.ps.length+1)) (fun x=>.tuple #[]) (fun x=>[]) (fun x=>[Lg lb mb x,Res.row x0.O x0.r.ag.length x0.oc 55 3 (x0.r.ag.map As.cs),Res.row x0.pA x0.r.ps.length x0.pc 50 3 (x0.r.ps.map Y.c)]):=by
 obtain⟨oA,oc,os,n,ep,aA,ac,ag,rs⟩:=h
 exact Own2.star2 (fun hw2=>hadd_eng B lb mb oA oc os n ep aA ac ag rs y x0 w hw2 hO.r hO.o hO.a hB hag hps hri) hw
theorem tdo_any (B:Nat) (p:EP) (a:EG) (s:Eg) (lb mb:Nat) (h:HL) (yk:Op) (w:World) (hw:W0 [Eng p a s,Lg lb mb h] w) (hi:Inv s) (hr:a.Rep s) (hy:yk.ok) (hb:s.blk<1000000000) (hO:h.Ok B) (hB:B+(applyE s yk).2.ag.length+(applyE s yk).2.ps.length≤1000000000):Own2 (ι:=(TX × HL)) Tryz.prog 23 [.agg #[.pointer (some ⟨p.eb,0,none⟩),.pointer (some ⟨lb,0,none⟩)],.agg (Op.c yk).toArray] w [Eng p a s,Lg lb mb h] (fun x=>x.1.a.Rep (applyE s yk).1∧x.2.Ok (B+(applyE s yk).2.ag.length+(applyE s yk).2.ps.length+1)) (fun x=>rcV (applyE s yk).2 x.1.O x.1.oc x.1.pA x.1.pc) (fun x=>[Res.row x.1.O (applyE s yk).2.ag.length x.1.oc 55 3 ((applyE s yk).2.ag.map As.cs),Res.row x.1.pA (applyE s yk).2.ps.length x.1.pc 50 3 ((applyE s yk).2.ps.map Y.c)]) (fun x=>[Eng p x.1.a (applyE s yk).1,Lg lb mb x.2]):=by
 refine g_st Tryz.func23 16 hw ?_
 refine rn [1] ?_
 refine g_op (g_box rfl rfl rfl fun b2=>?_)
 refine g_op (g_box rfl rfl rfl fun b3=>?_)
 refine g_op (zK rfl fun b4=>?_)
 refine rn [0,1,4,5,45] ?_
 refine g_op (zH _ rfl (fun w1 hw1 ho1=>by have h7:=apply_ok p a s yk w1 ho1 hi hr hy hb;exact h7) rfl ?_)
 rintro x9 r9
 refine ii ?_
 refine g_val 9 (v' := .agg (RX.c (⟨(applyE s yk).2,x9.O,x9.oc,x9.pA,x9.pc⟩:RX)).toArray) rfl rfl ?_
 refine g_op (zK rfl fun b5=>?_)
 refine rn [33] ?_
 refine zF (b:=b5) (RX.c (⟨(applyE s yk).2,x9.O,x9.oc,x9.pA,x9.pc⟩:RX)) (by rfl) ?_
 refine rn [0,1,4,5,45,45] ?_
 refine g_op (zH _ rfl (fun w1 hw1 ho1=>by have h7:=hadd_ok B lb mb h yk (⟨(applyE s yk).2,x9.O,x9.oc,x9.pA,x9.pc⟩:RX) w1 ho1 hO hB (rc_ag hi hb yk) (rc_ps hi hb yk) (rc_i hi yk hy);exact h7) rfl ?_)
 rintro h14 k14
 refine ii ?_
 refine rn [0,1,45,33,0,11] ?_
 exact fin1 rfl (.cellw rfl rfl) (fun w' hw' => ⟨(x9,h14),(by exact⟨r9,k14⟩),rfl,zA w' hw'⟩) _ (.inl rfl)
theorem same_any (r:Rc) (O1 O2 P1 P2:Option Addr) (c1 c2 d1 d2:Nat) (w:World) (e1_:Rd w [] O1 r.ag.length 3 (r.ag.map As.cs)) (e2_:Rd w [] O2 r.ag.length 3 (r.ag.map As.cs)) (e3_:Rd w [] P1 r.ps.length 3 (r.ps.map Y.c)) (e4_:Rd w [] P2 r.ps.length 3 (r.ps.map Y.c)) (hn:r.ag.length≤1000000∧r.ps.length≤1000000):Pur Tryz.prog 22 [.agg (RX.c ⟨r,O1,c1,P1,d1⟩).toArray,.agg (RX.c ⟨r,O2,c2,P2,d2⟩).toArray] w (.bool true):=by
 refine g_st Tryz.func22 108 (WOK.start (fps []) _) ?_
 refine rn [1] ?_
 refine g_op (g_box rfl rfl rfl fun b2=>?_)
 refine g_op (g_box rfl rfl rfl fun b3=>?_)
 refine rn [3,0,8,1,4,5,4,5,51] ?_
 refine yC 11 (b:=false) rfl (by simp) ?_
 refine rn [2,22,4,22,5,22,4,22,5,22,51] ?_
 refine yC 17 (b:=false) rfl (by simp) ?_
 refine rn [42,2,22,4,22,5,22,4,22,5,22,51] ?_
 refine yC 24 (b:=false) rfl (by simp) ?_
 refine rn [42,2,22,4,22,5,22,4,22,5,22,51] ?_
 refine yC 31 (b:=false) rfl (by simp) ?_
 refine rn [42,2,22,4,22,5,22,4,22,5,22,51] ?_
 refine yC 38 (b:=false) rfl (by simp) ?_
 refine rn [42,2,22,4,22,5,22,4,22,5,22,51] ?_
 refine yC 45 (b:=false) rfl (by simp) ?_
 refine rn [42,2,22,4,22,5,22,4,22,5,22,51] ?_
 refine yC 52 (b:=false) rfl (by simp) ?_
 refine rn [42,2,22,4,22,5,22,47,22,4,22,5,22,47,22,51] ?_
 refine yC 61 (b:=false) rfl (by simp) ?_
 refine rn [42,2,22,4,22,5,22,47,22,4,22,5,22,47,22,51] ?_
 refine yC 70 (b:=false) rfl (by simp) ?_
 refine rn [42,0,20,12,7,8,1,3,0,14] ?_
 refine g_lk [2,3,4] (fun(x:Nat)=>[(5,.int .i64 ((x:Nat):Int))]) (fun(x:Nat)=>[Res.blk b2 47 (RX.c ⟨r,O1,c1,P1,d1⟩),Res.blk b3 47 (RX.c ⟨r,O2,c2,P2,d2⟩)]) (fun(x:Nat)=>x≤r.ag.length) (fun(x:Nat)=>r.ag.length-x) 0 (by(try dsimp only);exact Nat.zero_le _) ?_
 rintro k le_k
 replace le_k:k≤r.ag.length:=le_k
 refine rn [8,1,2,4,5] ?_
 refine g_val 74 (v' := .slice O1 r.ag.length c1) rfl (rfl) ?_
 refine rn [47,46,0] ?_
 refine zC rfl (fun h1=>?_) (fun h1=>?_)
 ·have lt_k:k<r.ag.length:=by have h9:=of_decide_eq_true h1;omega
  refine rn [12,7,8,14,8] ?_
  refine dreg [] mixed rfl ?_
  refine rn [23,0,4,23,1,5,23,2,2] ?_
  refine dq 3 rfl (zP (i:=k) rfl rfl rfl e1_.rdb (by first|exact lt_k|omega)) ?_
  refine dq 4 rfl (zS (i:=k) rfl e1_.rdb (zR (by first|exact(by first|exact lt_k|omega)|omega|(simp_all;done)|(simp_all;omega))) rfl) ?_
  refine rn [23,5,4,23,6,5,23,7,2] ?_
  refine dq 8 rfl (zP (i:=k) rfl rfl rfl e2_.rdb (by first|exact lt_k|omega)) ?_
  refine dq 9 rfl (zS (i:=k) rfl e2_.rdb (zR (by first|exact(by first|exact lt_k|omega)|omega|(simp_all;done)|(simp_all;omega))) rfl) ?_
  refine dq 10 rfl (q_nes rfl rfl rfl) ?_
  refine yC 89 (b:=false) rfl (by simp) ?_
  refine rn [27,7,20,12,15,7,10,2,43,3,9] ?_
  exact g_ag (k+1) (by(try dsimp only);exact(by first|exact lt_k|omega))
 ·have eq_k:k=r.ag.length:=by have h9:=of_decide_eq_false h1;omega
  refine rn [16] ?_
  refine zD (zD (zN ?_))
  refine rn [7,8,1,3,0,14] ?_
  refine g_lk [2,3,4] (fun(x:Nat)=>[(6,.int .i64 ((x:Nat):Int))]) (fun(x:Nat)=>[Res.blk b2 47 (RX.c ⟨r,O1,c1,P1,d1⟩),Res.blk b3 47 (RX.c ⟨r,O2,c2,P2,d2⟩)]) (fun(x:Nat)=>x≤r.ps.length) (fun(x:Nat)=>r.ps.length-x) 0 (by(try dsimp only);exact Nat.zero_le _) ?_
  rintro k le_k
  replace le_k:k≤r.ps.length:=le_k
  refine rn [8,1,2,4,5] ?_
  refine g_val 92 (v' := .slice P1 r.ps.length d1) rfl (rfl) ?_
  refine rn [47,46,0] ?_
  refine zC rfl (fun h2=>?_) (fun h2=>?_)
  ·have lt_k:k<r.ps.length:=by have h9:=of_decide_eq_true h2;omega
   refine rn [12,7,8,14,8] ?_
   refine dreg [] mixed rfl ?_
   refine rn [23,0,4,23,1,5,23,2,2] ?_
   refine dq 3 rfl (zP (i:=k) rfl rfl rfl e3_.rdb (by first|exact lt_k|omega)) ?_
   refine dq 4 rfl (zS (i:=k) rfl e3_.rdb (zR (by first|exact(by first|exact lt_k|omega)|omega|(simp_all;done)|(simp_all;omega))) rfl) ?_
   refine rn [23,5,4,23,6,5,23,7,2] ?_
   refine dq 8 rfl (zP (i:=k) rfl rfl rfl e4_.rdb (by first|exact lt_k|omega)) ?_
   refine dq 9 rfl (zS (i:=k) rfl e4_.rdb (zR (by first|exact(by first|exact lt_k|omega)|omega|(simp_all;done)|(simp_all;omega))) rfl) ?_
   refine dq 10 rfl (q_nes rfl rfl rfl) ?_
   refine yC 107 (b:=false) rfl (by simp) ?_
   refine rn [27,7,20,12,15,7,10,2,43,3,9] ?_
   exact g_ag (k+1) (by(try dsimp only);exact(by first|exact lt_k|omega))
  ·have eq_k:k=r.ps.length:=by have h9:=of_decide_eq_false h2;omega
   refine rn [16] ?_
   refine zD (zD (zN ?_))
   refine rn [7,1,3,0,11] ?_
   exact fin1 rfl (.tmp rfl) (fun w' hw' => ⟨by rfl,hw'.upd⟩) _ (.inl rfl)
theorem HL.Ok.mono {B C:Nat} {h:HL} (k:h.Ok B) (hb:B≤C):h.Ok C:=⟨k.r.mono hb,Nat.le_trans k.o hb,Nat.le_trans k.a hb⟩
theorem chkF_of {c:C}:∀(f i:Nat),(∀j,i≤j→j<i+f→rightB c j=true)→chkF c f i=0
 | 0,_,_=>rfl
 | f+1,i,h=>by unfold chkF;rw[if_pos (h i (Nat.le_refl _) (by omega))];exact chkF_of f (i+1) fun j h1 h2=>h j (by omega) (by omega)
theorem chk_rl {c:C} {z:Int} (h:chk c=0) (hz:1≤z∧z≤4096):chk (rl z c)=0:=chkF_of 20 1 fun j h1 h2=>by
 by_cases h13:j=13
 ·subst h13
  rw[show rightB (rl z c) ((13:Nat):Int)=btw z 1 4096 from rfl]
  unfold btw;simp[hz.1,hz.2]
 ·have h3:=zT h j h1 (by omega)
  rw[←h3]
  unfold rightB
  rw[if_neg (show¬(j:Int)=13 by omega),if_neg (show¬(j:Int)=13 by omega)]
  rfl
theorem rl_ok {c:C} {z:Int} (h:c.ok) (hz:1≤z∧z≤4096):(rl z c).ok:={ h with rlen:=by constructor<;>(show _≤_;first|(show _≤z;omega)|(show z≤_;omega)) }
theorem rl_runK (z:Int) (c:C) (l:List Op) (k:Nat):(runK (newE (rl z c)) l k).1=((runK (newE c) l k).1).rl z:=congrArg Prod.fst (rl_run z (l.take k) (newE c,[]))
end Go.Proofs.YtdddiilocbbkkaaGreat
