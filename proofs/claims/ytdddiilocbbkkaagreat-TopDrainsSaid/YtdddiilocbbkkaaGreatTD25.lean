/- TopDrains: for every configuration and all operations the law returns true. No condition. Part 25 of 28. -/
import Derived.Test.YtdddiilocbbkkaaGreatTD24
set_option linter.unusedVariables false
set_option linter.unusedSimpArgs false
namespace Go.Proofs.YtdddiilocbbkkaaGreat
open Go.RowKit Go.Eg
set_option maxHeartbeats 4000000
set_option synthInstance.maxSize 3000
set_option maxRecDepth 100000
structure RX where
 r:Rc
 O:Option Addr
 oc:Nat
 pA:Option Addr
 pc:Nat
def RX.c (x:RX):List Value:=[.int .i64 x.r.k,.int .i64 x.r.code,.int .i64 x.r.i,.int .i64 x.r.blk,.int .i64 x.r.ep,.int .i64 x.r.dl,.slice x.O x.r.ag.length x.oc,.slice x.pA x.r.ps.length x.pc,.int .i64 x.r.vis]
def RX.rows (x:RX):List Res:=[.row x.O x.r.ag.length x.oc 55 3 (x.r.ag.map As.cs),.row x.pA x.r.ps.length x.pc 50 3 (x.r.ps.map Y.c)]
def stepA (t:Eg × List Rc) (y:Op):Eg × List Rc:=((applyE t.1 y).1,t.2++[(applyE t.1 y).2])
def runK (s:Eg) (l:List Op) (k:Nat):Eg × List Rc:=(l.take k).foldl stepA (s,[])
def runE (s:Eg) (l:List Op):Eg × List Rc:=l.foldl stepA (s,[])
theorem tU {s:Eg} {l:List Op} {k:Nat} (h:k<l.length):runK s l (k+1)=stepA (runK s l k) l[k]:=wJ _ _ h
theorem runK_end (s:Eg) (l:List Op):runK s l l.length=runE s l:=by unfold runK runE;rw[List.take_length]
theorem applyE_blk (s:Eg) (y:Op):(applyE s y).1.blk≤s.blk+1:=by
 unfold applyE
 split
 ·rw[uV];exact Nat.le_refl _
 ·unfold actE
  repeat' split
  ·show(depE s y).1.blk≤_;rw[depE_fr];exact Nat.le_succ _
  ·show(leaveE s 1 y.i).1.blk≤_;rw[wY];exact Nat.le_succ _
  ·show(leaveE s 0 y.i).1.blk≤_;rw[wY];exact Nat.le_succ _
  ·show(slashE s y.i).1.blk≤_;rw[rN];exact Nat.le_succ _
  ·show(consE s y.i y.t).1.blk≤_;rw[consE_fr];exact Nat.le_succ _
  ·show(partE s y.i y.a).1.blk≤_;rw[partE_fr];exact Nat.le_succ _
  ·exact Nat.le_succ _
theorem vV {s:Eg} {l:List Op} (hi:Inv s) (hl:∀y∈l,y.ok) (hb:s.blk+l.length<1000000000):∀k,k≤l.length→Inv (runK s l k).1∧(runK s l k).1.blk≤s.blk+k∧(runK s l k).1.c=s.c∧(runK s l k).2.length=k
 | 0,_=>⟨hi,Nat.le_refl _,rfl,rfl⟩
 | k+1,h=>by
  obtain⟨h1,h2,h3,h4⟩:=vV hi hl hb k (by omega)
  rw[tU (by omega)]
  have ho:=hl _ (List.getElem_mem (show k<l.length by omega))
  exact⟨applyE_inv h1 (by omega) ⟨ho.a⟩,Nat.le_trans (applyE_blk _ _) (by omega),(applyE_c _ _).trans h3,by show((runK s l k).2++[_]).length=_;simp[h4]⟩
theorem catch_idle (p q:Value) (w:World):Own2R (ι:=Unit) Tryz.prog 124 [p,q] w [] (fun _=>True) (fun _=>.tuple #[]) (fun _=>[]) (fun _=>[]):=by
 refine callsDIn_of_wpSIn Tryz.func124 rfl trivial fun c₀ cs hu=>?_
 apply wpSIn_seq
 apply wpSIn_region
 simp[wpOpsSIn,go_sem,recoverD,hu,Exit.thenS]
 refine wpSIn_of_wpIn rfl ?_
 have hst:St ⟨[],w,13,[],none⟩ [(5,.nilIface)] [] { tmps := #[p,q]++(Array.replicate 11 undef).setIfInBounds 3 Value.nilIface,defers:=[] } w:=by
  refine⟨rfl,by simp,fun k v hk=>?_,WOK.start _ _⟩
  simp[Eg.look] at hk
  obtain⟨rfl,rfl⟩:=hk
  simp
 refine(?_:G ⟨[],w,13,[],none⟩ [(5,.nilIface)] [] _) _ _ hst
 refine rn [14,1] ?_
 refine s_q (q_eqif ⟨#[],by kernel_rfl⟩ rfl) rfl ?_
 refine rn [0,19,10,3,9,15] ?_
 intro a w' hs
 cases c₀
 simp_all[bodyPostS,results]
 exact⟨hs.defers,hs.wok⟩
theorem begin_rp (c:C) (w:World) (hc:chk c=0) (hk:c.ok):Own2 (ι:=(EP × EG)) Tryz.prog 125 [c.v] w [] (fun x=>x.2.Rep (newE c)) (fun x=>.pointer (some ⟨x.1.eb,0,none⟩)) (fun x=>[Eng x.1 x.2 (newE c)]) (fun x=>[]):=by
 refine g_st Tryz.func125 15 (WOK.start (fps []) _) ?_
 refine rn [1] ?_
 refine g_op (g_box (c:=C.c c) rfl rfl rfl fun b1=>?_)
 refine rn [3,0,1,45] ?_
 refine g_op (zG [] rfl (fun w1 hw1 ho1=>by have h7:=new_ok c w1 hc hk;exact h7) rfl ?_)
 rintro⟨p7,a7⟩ r7
 refine ii ?_
 simp only at r7
 refine rn [2,40,40,3,3,0,8,1,2,51] ?_
 refine yC 11 (b:=false) rfl (rfl) ?_
 refine rn [0,20,12,7,1,2,3,0,11] ?_
 exact fin1 rfl (.tmp rfl) (fun w' hw' => ⟨(p7,a7),(by exact r7),rfl,zA w' hw'⟩) _ (.inl rfl)
theorem run1_any (ep:Value) (q:Nat) (A:Option Addr) (cap:Nat) (xs:List RX) (y:RX) (w:World) (hw:W0 [Res.blk q 58 [Value.slice A xs.length cap],Res.row A xs.length cap 47 9 (xs.map RX.c)] w) (hn:xs.length≤1000000):Own2 (ι:=(Option Addr × Nat)) Tryz.prog 69 [ep,.agg y.c.toArray,.pointer (some ⟨q,0,none⟩)] w [Res.blk q 58 [Value.slice A xs.length cap],Res.row A xs.length cap 47 9 (xs.map RX.c)] (fun x=>True) (fun x=>.bool true) (fun x=>[]) (fun x=>[Res.blk q 58 [Value.slice x.1 (xs++[y]).length x.2],Res.row x.1 (xs++[y]).length x.2 47 9 ((xs++[y]).map RX.c)]):=by
 refine g_st Tryz.func69 10 hw ?_
 refine rn [1] ?_
 refine g_op (g_box (c:=RX.c y) rfl rfl rfl fun b4=>?_)
 refine rn [3,0,1,5,45] ?_
 refine g_op (g_lit rfl rfl rfl rfl rfl fun b8=>?_)
 refine zF (b:=b8) ((([y]:List RX).map RX.c).flatten) rfl ?_
 refine g_op (zZ (A:=A) (els:=(xs).map RX.c) (news:=(([y]:List RX).map RX.c)) rfl rfl (InL.rdb (b:=b8) rfl (by simp[RX.c]) rfl) (yF (c:=RX.c) (by intro x;simp[RX.c,Value.oneCell']) _) (by first|omega|(simp;omega)|(simp_all;omega)) rfl fun A9 cap9=>⟨_,inferInstance,?_⟩)
 refine zH (A:=A9) (((xs++[y])).map RX.c) (by first|rfl|exact List.map_append.symm|(simp;done)) ?_
 refine g_op (zJ rfl rfl rfl rfl rfl rfl rfl ?_)
 refine rn [0,1,3,0,11] ?_
 refine yB (A:=A9) (xs++[y]).length (by simp) ?_
 refine zF (b:=q) [Value.slice A9 (xs++[y]).length cap9] (by simp[splice]) ?_
 exact fin1 rfl (.tmp rfl) (fun w' hw' => ⟨(A9,cap9),(by exact trivial),rfl,zA w' hw'⟩) _ (.inl rfl)
structure PX where
 p:EP
 a:EG
 sn:SN
 A:Option Addr
 c:Nat
 xs:List RX
theorem pY (c:C) (lA:Option Addr) (ln lC:Nat) (l:List Op) (q:Nat) (w:World) (hw:W0 [Res.blk q 58 [Value.slice none 0 0]] w) (hc:chk c=0) (hk:c.ok) (hrd:Rd w [Res.blk q 58 [Value.slice none 0 0]] lA ln 4 (l.map Op.c)) (hl:∀y∈l,y.ok) (hln:l.length≤1000000):Own2 (ι:=PX) Tryz.prog 67 [c.v,.slice lA ln lC,.func (.func 69) #[] [Value.pointer (some ⟨q,0,none⟩)].toArray] w [Res.blk q 58 [Value.slice none 0 0]] (fun x=>x.a.Rep (runE (newE c) l).1∧x.xs.map RX.r=(runE (newE c) l).2) (fun x=>.tuple [.agg ([Value.int .i64 ((((runE (newE c) l).1).blk:Nat):Int),.int .i64 ((runE (newE c) l).1).ep,.slice x.sn.vA ((runE (newE c) l).1).l.length x.sn.vc,.int .u64 ((runE (newE c) l).1).dep,.int .u64 ((runE (newE c) l).1).paid,.int .u64 ((runE (newE c) l).1).burn,.int .u64 (actS ((runE (newE c) l).1).l),.slice x.sn.pA ((runE (newE c) l).1).pend.length x.sn.pc,.slice x.sn.fA ((runE (newE c) l).1).q.f.length x.sn.fc,.slice x.sn.oA ((runE (newE c) l).1).q.v.length x.sn.oc,.slice x.sn.mA ((runE (newE c) l).1).mg.length x.sn.mc,.slice x.sn.rA ((runE (newE c) l).1).pt.length x.sn.rc,.int .i64 ((((runE (newE c) l).1).cur:Nat):Int),.int .u64 ((runE (newE c) l).1).m.bal,.int .i64 ((((runE (newE c) l).1).bo.length:Nat):Int)]).toArray,.int .i64 0].toArray) (fun x=>[Eng x.p x.a (runE (newE c) l).1,Res.row x.sn.vA (((runE (newE c) l).1).l).length x.sn.vc 52 7 ((((runE (newE c) l).1).l).map V.c),Res.row x.sn.pA (((runE (newE c) l).1).pend).length x.sn.pc 3 1 ((((runE (newE c) l).1).pend).map (fun v:Int=>[Value.int .i64 v])),Res.row x.sn.fA (((runE (newE c) l).1).q.f).length x.sn.fc 3 1 ((((runE (newE c) l).1).q.f).map (fun v:Int=>[Value.int .i64 v])),Res.row x.sn.oA (((runE (newE c) l).1).q.v).length x.sn.oc 3 1 ((((runE (newE c) l).1).q.v).map (fun v:Int=>[Value.int .i64 v])),Res.row x.sn.mA (((runE (newE c) l).1).mg).length x.sn.mc 106 2 ((((runE (newE c) l).1).mg).map PP.c),Res.row x.sn.rA (((runE (newE c) l).1).pt).length x.sn.rc 110 2 ((((runE (newE c) l).1).pt).map Rq.c),Res.row x.A (x.xs).length x.c 47 9 ((x.xs).map RX.c),Res.star ((x.xs).flatMap RX.rows)]) (fun x=>[Res.blk q 58 [Value.slice x.A (x.xs).length x.c]]):=by
 refine tJ Tryz.func67 rfl 30 rfl (by simp) (fps [Res.blk q 58 [Value.slice none 0 0]]) [Res.blk q 58 [Value.slice none 0 0]] hw _ rfl ?_
 have hm:ln=l.length:=by have:=hrd.old.len;simpa using this
 have hbl:(newE c).blk+l.length<1000000000:=by show 0+l.length<_;omega
 refine rn [1] ?_
 refine g_op (g_box rfl rfl rfl fun b3=>?_)
 refine g_op (zK rfl fun b6=>?_)
 refine g_op (zK rfl fun b7=>?_)
 refine rn [0,1,52] ?_
 refine g_op (g_defer (fst:=[]) (cap:=[Value.pointer (some ⟨b6,0,none⟩),Value.pointer (some ⟨b7,0,none⟩)]) rfl rfl ?_)
 refine rn [0,1,45] ?_
 refine g_op (zG [] rfl (fun w1 hw1 ho1=>by have h7:=begin_rp c w1 hc hk;exact h7) rfl ?_)
 rintro⟨p13,a13⟩ r13
 refine ii ?_
 simp only at r13
 refine rn [3,0,8,1,2,47,2,0,14] ?_
 refine zF (b:=b7) [Value.int .i64 0] (by rfl) ?_
 refine zF (b:=b6) [Value.int .i64 0,.int .i64 0,.slice none 0 0,.int .u64 0,.int .u64 0,.int .u64 0,.int .u64 0,.slice none 0 0,.slice none 0 0,.slice none 0 0,.slice none 0 0,.slice none 0 0,.int .i64 0,.int .u64 0,.int .i64 0] (by rfl) ?_
 refine zF (b:=q) [Value.slice none ([]:List RX).length 0] (by rfl) ?_
 refine zX none 47 9 (([]:List RX).map RX.c) (by rfl) ?_
 refine g_nostar ?_
 refine zV (L' := [Res.star (([]:List RX).flatMap RX.rows),Res.row none ([]:List RX).length 0 47 9 (([]:List RX).map RX.c),Eng p13 a13 (runK (newE c) l 0).1,Res.blk b7 29 [Value.int .i64 0],Res.blk b6 42 [Value.int .i64 0,.int .i64 0,.slice none 0 0,.int .u64 0,.int .u64 0,.int .u64 0,.int .u64 0,.slice none 0 0,.slice none 0 0,.slice none 0 0,.slice none 0 0,.slice none 0 0,.int .i64 0,.int .u64 0,.int .i64 0],Res.blk b3 24 c.c,Res.blk q 58 [Value.slice none ([]:List RX).length 0]]) (by rfl) ?_
 refine g_lk [2,6,7,8,14,15] (fun(x:Nat × EG × Option Addr × Nat × List RX)=>[(16,.int .i64 ((x.1:Nat):Int))]) (fun(x:Nat × EG × Option Addr × Nat × List RX)=>[Res.blk b6 42 [Value.int .i64 0,.int .i64 0,.slice none 0 0,.int .u64 0,.int .u64 0,.int .u64 0,.int .u64 0,.slice none 0 0,.slice none 0 0,.slice none 0 0,.slice none 0 0,.slice none 0 0,.int .i64 0,.int .u64 0,.int .i64 0],Res.blk b7 29 [Value.int .i64 0],Eng p13 x.2.1 (runK (newE c) l x.1).1,Res.blk q 58 [Value.slice x.2.2.1 (x.2.2.2.2).length x.2.2.2.1],Res.row x.2.2.1 (x.2.2.2.2).length x.2.2.2.1 47 9 ((x.2.2.2.2).map RX.c),Res.star ((x.2.2.2.2).flatMap RX.rows)]) (fun(x:Nat × EG × Option Addr × Nat × List RX)=>x.1≤ln∧EG.Rep x.2.1 (runK (newE c) l x.1).1∧(x.2.2.2.2).map RX.r=(runK (newE c) l x.1).2) (fun(x:Nat × EG × Option Addr × Nat × List RX)=>ln-x.1) (0,a13,none,0,[]) (by(try dsimp only);exact⟨Nat.zero_le _,r13,rfl⟩) ?_
 rintro⟨k,a9,A9,c9,xs⟩ ⟨le_k,hr9,hx9⟩
 replace le_k:k≤ln:=le_k
 replace hr9:EG.Rep a9 (runK (newE c) l k).1:=hr9
 replace hx9:(xs).map RX.r=(runK (newE c) l k).2:=hx9
 refine zV (L' := [Res.blk b6 42 [Value.int .i64 0,.int .i64 0,.slice none 0 0,.int .u64 0,.int .u64 0,.int .u64 0,.int .u64 0,.slice none 0 0,.slice none 0 0,.slice none 0 0,.slice none 0 0,.slice none 0 0,.int .i64 0,.int .u64 0,.int .i64 0],Res.blk b7 29 [Value.int .i64 0],Eng p13 a9 (runK (newE c) l k).1,Res.blk q 58 [Value.slice A9 (xs).length c9],Res.row A9 (xs).length c9 47 9 ((xs).map RX.c),Res.star ((xs).flatMap RX.rows)]) rfl ?_
 refine g_val 16 (v' := .int .i64 ((k:Nat):Int)) rfl rfl ?_
 obtain⟨hi9,hb9,hc9,hl9⟩:=vV (tE hc hk) hl hbl k (by omega)
 have hxl:xs.length=k:=by rw[←hl9,←hx9];simp
 have hb0:(newE c).blk=0:=rfl
 refine rn [1,46,0,8] ?_
 refine zC rfl (fun h1=>?_) (fun h1=>?_)
 ·have lt_k:k<ln:=by have h9:=of_decide_eq_true h1;omega
  have hkl:k<l.length:=by omega
  obtain⟨yk,hyk⟩:∃z,z=l[k]:=⟨_,rfl⟩
  have hyo:yk.ok:=hyk ▸ hl _ (List.getElem_mem hkl)
  have hk9:(runK (newE c) l (k+1))=stepA (runK (newE c) l k) yk:=by rw[hyk];exact tU hkl
  refine rn [12,7,8,14,1] ?_
  refine s_q (zP (i:=k) rfl rfl rfl hrd.rdb (by first|exact lt_k|omega)) rfl ?_
  refine s_q (zS (i:=k) rfl hrd.rdb (zR (by first|exact(by first|exact lt_k|omega)|omega|(simp_all;done)|(simp_all;omega))) rfl) rfl ?_
  refine g_op (zK rfl fun b10=>?_)
  refine rn [33] ?_
  refine zF (b:=b10) (Op.c yk) (by rw[hyk]) ?_
  refine rn [0,1,2,2,2,45] ?_
  refine g_op (zG _ rfl (fun w1 hw1 ho1=>by have h7:=apply_ok p13 a9 (runK (newE c) l k).1 yk w1 ho1 hi9 hr9 hyo (by omega);exact h7) rfl ?_)
  rintro x24 r24
  refine ii ?_
  refine g_op (xQ [Res.blk q 58 [Value.slice A9 xs.length c9],Res.row A9 xs.length c9 47 9 (xs.map RX.c)] rfl rfl (fun w1 hw1 ho1=>by have h7:=run1_any (.pointer (some ⟨p13.eb,0,none⟩)) q A9 c9 xs (⟨(applyE (runK (newE c) l k).1 yk).2,x24.O,x24.oc,x24.pA,x24.pc⟩:RX) w1 ho1 (by omega);exact h7) rfl ?_)
  rintro⟨A25,cap25⟩ _
  refine ii ?_
  refine rn [48,0,20,12,15,7,10,43,2,9] ?_
  refine g_starApp (xs.flatMap RX.rows) [Res.row x24.O (applyE (runK (newE c) l k).1 yk).2.ag.length x24.oc 55 3 ((applyE (runK (newE c) l k).1 yk).2.ag.map As.cs),Res.row x24.pA (applyE (runK (newE c) l k).1 yk).2.ps.length x24.pc 50 3 ((applyE (runK (newE c) l k).1 yk).2.ps.map Y.c)] ?_
  refine zV (L' := [Res.star ((xs++[(⟨(applyE (runK (newE c) l k).1 yk).2,x24.O,x24.oc,x24.pA,x24.pc⟩:RX)]).flatMap RX.rows),Res.blk b10 35 yk.c,Res.blk b6 42 [Value.int .i64 0,.int .i64 0,.slice none 0 0,.int .u64 0,.int .u64 0,.int .u64 0,.int .u64 0,.slice none 0 0,.slice none 0 0,.slice none 0 0,.slice none 0 0,.slice none 0 0,.int .i64 0,.int .u64 0,.int .i64 0],Res.blk b7 29 [Value.int .i64 0],Eng p13 x24.a (runK (newE c) l (k+1)).1,Res.blk q 58 [Value.slice A25 (xs++[(⟨(applyE (runK (newE c) l k).1 yk).2,x24.O,x24.oc,x24.pA,x24.pc⟩:RX)]).length cap25],Res.row A25 (xs++[(⟨(applyE (runK (newE c) l k).1 yk).2,x24.O,x24.oc,x24.pA,x24.pc⟩:RX)]).length cap25 47 9 ((xs++[(⟨(applyE (runK (newE c) l k).1 yk).2,x24.O,x24.oc,x24.pA,x24.pc⟩:RX)]).map RX.c)]) (by rw[hk9,List.flatMap_append,List.flatMap_cons,List.flatMap_nil,List.append_nil];rfl) ?_
  exact g_ag ((k+1),x24.a,A25,cap25,(xs++[(⟨(applyE (runK (newE c) l k).1 yk).2,x24.O,x24.oc,x24.pA,x24.pc⟩:RX)])) (by(try dsimp only);exact⟨(by first|exact lt_k|omega),(by rw[hk9];exact r24),(by rw[hk9,List.map_append,hx9];rfl)⟩)
 ·have eq_k:k=ln:=by have h9:=of_decide_eq_false h1;omega
  subst eq_k
  obtain⟨hiE,_,_,_⟩:=vV (tE hc hk) hl hbl k (by omega)
  have hE:(runK (newE c) l k)=runE (newE c) l:=by rw[hm];exact runK_end _ _
  rw[hE] at hr9 hx9 hiE
  rw[hE]
  refine rn [16] ?_
  refine zD (zD (zN ?_))
  refine rn [7,1,2] ?_
  refine g_op (zG _ rfl (fun w1 hw1 ho1=>by have h7:=sW p13 a9 (runE (newE c) l).1 w1 ho1 hiE hr9;exact h7) rfl ?_)
  rintro sn29 _
  refine ii ?_
  refine rn [33] ?_
  refine g_op (zJ rfl rfl rfl rfl rfl rfl rfl ?_)
  refine rn [0,11] ?_
  refine finR [] (fun w1 hw1 ho1=>catch_idle _ _ w1) ?_ _ (.inl rfl)
  rintro⟨⟩ _
  refine⟨_,_,inferInstance,inferInstance,?_⟩
  exact finM2 rfl (.cellw rfl rfl) (.cell1 rfl rfl) (fun w' hw' => ⟨(⟨p13,a9,sn29,A9,c9,xs⟩:PX),⟨hr9,hx9⟩,rfl,by have h9:=zB (L' := [Eng p13 a9 (runE (newE c) l).1,Res.row sn29.vA (((runE (newE c) l).1).l).length sn29.vc 52 7 ((((runE (newE c) l).1).l).map V.c),Res.row sn29.pA (((runE (newE c) l).1).pend).length sn29.pc 3 1 ((((runE (newE c) l).1).pend).map (fun v:Int=>[Value.int .i64 v])),Res.row sn29.fA (((runE (newE c) l).1).q.f).length sn29.fc 3 1 ((((runE (newE c) l).1).q.f).map (fun v:Int=>[Value.int .i64 v])),Res.row sn29.oA (((runE (newE c) l).1).q.v).length sn29.oc 3 1 ((((runE (newE c) l).1).q.v).map (fun v:Int=>[Value.int .i64 v])),Res.row sn29.mA (((runE (newE c) l).1).mg).length sn29.mc 106 2 ((((runE (newE c) l).1).mg).map PP.c),Res.row sn29.rA (((runE (newE c) l).1).pt).length sn29.rc 110 2 ((((runE (newE c) l).1).pt).map Rq.c),Res.row A9 (xs).length c9 47 9 ((xs).map RX.c),Res.star ((xs).flatMap RX.rows),Res.blk q 58 [Value.slice A9 (xs).length c9]]) w' hw';exact h9⟩)
theorem rdN_lt8 {bs:List Nat} (hb:∀b∈bs,b<256) {k:Nat} (hk:k≤8):rdN (bs.take k)<18446744073709551616:=by
 rcases Nat.le_total k bs.length with h|h
 ·exact Nat.lt_of_lt_of_le (rdN_lt hb k h) (Nat.pow_le_pow_right (by decide) hk)
 ·have h1:=rdN_lt hb bs.length (Nat.le_refl _)
  rw[List.take_of_length_le h]
  rw[List.take_length] at h1
  exact Nat.lt_of_lt_of_le h1 (Nat.le_trans (Nat.pow_le_pow_right (n:=256) (j:=8) (by decide) (by omega)) (by decide))
theorem sR (z:Int):-9223372036854775808≤IntKind.i64.wrap z∧IntKind.i64.wrap z≤9223372036854775807:=by rw[IntKind.wrap_i64];omega
theorem setO_ok {j:Nat} {y:Op} {v:Int} (hy:y.ok) (hv:0≤v∧v≤18446744073709551615):(setO j y v).ok:=by
 unfold setO
 split
 ·exact⟨hy.k,hy.i,hy.t,hv⟩
 ·exact⟨hy.k,sR _,hy.t,hy.a⟩
 ·exact⟨hy.k,hy.i,sR _,hy.a⟩
theorem decK_ok:∀(js:List Nat) (t:Op × List Nat),t.1.ok→(∀b∈t.2,b<256)→(js.foldl decS t).1.ok
 | [],_,h,_=>h
 | j :: js,t,h,hb=>decK_ok js (decS t j) (setO_ok h ⟨Int.natCast_nonneg _,by have:=rdN_lt8 hb (pH j).2;omega⟩) fun b hbm=>hb b (List.mem_of_mem_drop hbm)
theorem zO_ok:zO.ok:=by constructor<;>simp[zO]
theorem decP_ok {bs:List Nat} (hb:∀b∈bs,b<256) (p:Nat):(decP bs p).1.ok:=by
 unfold decP
 split
 ·rename_i hp
  split
  ·exact zO_ok
  ·split
   ·exact zO_ok
   ·have h1:=hb _ (List.getElem_mem hp)
    refine decK_ok _ _ ⟨by simp only;omega,by simp,by simp,by simp⟩ fun b hbm=>hb b (List.mem_of_mem_drop hbm)
 ·exact zO_ok
theorem qX {bs:List Nat} (hb:∀b∈bs,b<256):∀(k p:Nat),∀y∈decF bs k p,y.ok
 | 0,_,_,h=>by simp[decF] at h
 | k+1,p,y,h=>by
  unfold decF at h
  split at h
  ·rcases List.mem_cons.1 h with rfl|h
   ·exact decP_ok hb p
   ·exact qX hb k _ y h
  ·simp at h
theorem run_any9 (c:C) (A:Option Addr) (n cap:Nat) (bs:List Nat) (w:World) (hc:chk c=0) (hk:c.ok) (hrd:Rd w [] A n 1 (bs.map (fun v:Nat=>[Value.int .u8 ((v:Nat):Int)]))) (hcap:n≤cap) (hn:n≤1000000) (hby:∀b∈bs,b<256):Own2 (ι:=PX) Tryz.prog 16 [c.v,.slice A n cap] w [] (fun x=>x.a.Rep (runE (newE c) (decL bs)).1∧x.xs.map RX.r=(runE (newE c) (decL bs)).2) (fun x=>.tuple [.agg (([Value.slice x.A (x.xs).length x.c]++[Value.int .i64 ((((runE (newE c) (decL bs)).1).blk:Nat):Int),.int .i64 ((runE (newE c) (decL bs)).1).ep,.slice x.sn.vA ((runE (newE c) (decL bs)).1).l.length x.sn.vc,.int .u64 ((runE (newE c) (decL bs)).1).dep,.int .u64 ((runE (newE c) (decL bs)).1).paid,.int .u64 ((runE (newE c) (decL bs)).1).burn,.int .u64 (actS ((runE (newE c) (decL bs)).1).l),.slice x.sn.pA ((runE (newE c) (decL bs)).1).pend.length x.sn.pc,.slice x.sn.fA ((runE (newE c) (decL bs)).1).q.f.length x.sn.fc,.slice x.sn.oA ((runE (newE c) (decL bs)).1).q.v.length x.sn.oc,.slice x.sn.mA ((runE (newE c) (decL bs)).1).mg.length x.sn.mc,.slice x.sn.rA ((runE (newE c) (decL bs)).1).pt.length x.sn.rc,.int .i64 ((((runE (newE c) (decL bs)).1).cur:Nat):Int),.int .u64 ((runE (newE c) (decL bs)).1).m.bal,.int .i64 ((((runE (newE c) (decL bs)).1).bo.length:Nat):Int)])).toArray,.int .i64 0].toArray) (fun x=>[Eng x.p x.a (runE (newE c) (decL bs)).1,Res.row x.sn.vA (((runE (newE c) (decL bs)).1).l).length x.sn.vc 52 7 ((((runE (newE c) (decL bs)).1).l).map V.c),Res.row x.sn.pA (((runE (newE c) (decL bs)).1).pend).length x.sn.pc 3 1 ((((runE (newE c) (decL bs)).1).pend).map (fun v:Int=>[Value.int .i64 v])),Res.row x.sn.fA (((runE (newE c) (decL bs)).1).q.f).length x.sn.fc 3 1 ((((runE (newE c) (decL bs)).1).q.f).map (fun v:Int=>[Value.int .i64 v])),Res.row x.sn.oA (((runE (newE c) (decL bs)).1).q.v).length x.sn.oc 3 1 ((((runE (newE c) (decL bs)).1).q.v).map (fun v:Int=>[Value.int .i64 v])),Res.row x.sn.mA (((runE (newE c) (decL bs)).1).mg).length x.sn.mc 106 2 ((((runE (newE c) (decL bs)).1).mg).map PP.c),Res.row x.sn.rA (((runE (newE c) (decL bs)).1).pt).length x.sn.rc 110 2 ((((runE (newE c) (decL bs)).1).pt).map Rq.c),Res.row x.A (x.xs).length x.c 47 9 ((x.xs).map RX.c),Res.star ((x.xs).flatMap RX.rows)]) (fun x=>[]):=by
 refine g_st Tryz.func16 21 (WOK.start (fps []) _) ?_
 have hm:n=bs.length:=by have:=hrd.old.len;simpa using this
 have hdl:=decL_len bs
 refine rn [1] ?_
 refine g_op (g_box (c:=C.c c) rfl rfl rfl fun b2=>?_)
 refine g_op (zK rfl fun b4=>?_)
 refine rn [3,0,1] ?_
 refine g_op (zK rfl fun b6=>?_)
 refine zF (b:=b6) [Value.slice none 0 0] (by rfl) ?_
 refine rn [0,8] ?_
 refine dregL (L0:=[Res.blk b2 24 c.c]) [9] mixed rfl zB ?_
 refine rn [23,0,45,23,1,2,23,3,52] ?_
 refine yG [2,8] (by kernel_rfl) (by simp) zB ⟨dpick rfl (zG [] rfl (fun w1 hw1 ho1=>by have h7:=sdec_any A (n) (cap) bs w1 (Rd.ofRd hw1 hrd (by omega)) hcap (by omega) hby;exact h7) rfl ?_),dpick rfl (zK rfl fun b7=>?_),trivial⟩
 ·rintro⟨A12,cap12⟩ _
  refine ii ?_
  refine yG [4,8] (by kernel_rfl) (by simp) zB ⟨dpick rfl (zG _ rfl (fun w1 hw1 ho1=>by have h7:=pY c A12 ((decL bs).length) (cap12) (decL bs) b6 w1 ho1 hc hk (Rd.ofRow (A:=A12) hw1) (qX hby _ _) (by omega);exact h7) rfl ?_),dpick rfl (zK rfl fun b7=>?_),trivial⟩
  ·rintro⟨p9,a9,sn9,A9,c9,xs⟩ ⟨hr9,hx9⟩
   refine ii ?_
   simp only at hr9 hx9
   refine rn [23,5,2,23,6,40,24,7,40] ?_
   refine dop 8 rfl (zK rfl fun b7=>?_)
   refine dop 9 rfl (zQ rfl rfl rfl rfl rfl ?_)
   refine rn [24,10,3,28,7,1,5,45] ?_
   refine s_q (yH (c:=([Value.slice A9 (xs).length c9]++[Value.int .i64 ((((runE (newE c) (decL bs)).1).blk:Nat):Int),.int .i64 ((runE (newE c) (decL bs)).1).ep,.slice sn9.vA ((runE (newE c) (decL bs)).1).l.length sn9.vc,.int .u64 ((runE (newE c) (decL bs)).1).dep,.int .u64 ((runE (newE c) (decL bs)).1).paid,.int .u64 ((runE (newE c) (decL bs)).1).burn,.int .u64 (actS ((runE (newE c) (decL bs)).1).l),.slice sn9.pA ((runE (newE c) (decL bs)).1).pend.length sn9.pc,.slice sn9.fA ((runE (newE c) (decL bs)).1).q.f.length sn9.fc,.slice sn9.oA ((runE (newE c) (decL bs)).1).q.v.length sn9.oc,.slice sn9.mA ((runE (newE c) (decL bs)).1).mg.length sn9.mc,.slice sn9.rA ((runE (newE c) (decL bs)).1).pt.length sn9.rc,.int .i64 ((((runE (newE c) (decL bs)).1).cur:Nat):Int),.int .u64 ((runE (newE c) (decL bs)).1).m.bal,.int .i64 ((((runE (newE c) (decL bs)).1).bo.length:Nat):Int)])) rfl (by kernel_rfl)) rfl ?_
   refine rn [2,33,3,0,11] ?_
   exact fin2 rfl (.cellw rfl rfl) (.tmp rfl) (fun w' hw' => ⟨(⟨p9,a9,sn9,A9,c9,xs⟩:PX),(by first|exact⟨hr9,hx9⟩|(dsimp only;exact⟨hr9,hx9⟩)),rfl,zA w' hw'⟩) _ (.inl rfl)
  ·refine dop 4 rfl (zG _ rfl (fun w1 hw1 ho1=>by have h7:=pY c A12 ((decL bs).length) (cap12) (decL bs) b6 w1 ho1 hc hk (Rd.ofRow (A:=A12) hw1) (qX hby _ _) (by omega);exact h7) rfl ?_)
   rintro⟨p9,a9,sn9,A9,c9,xs⟩ ⟨hr9,hx9⟩
   refine ii ?_
   simp only at hr9 hx9
   refine rn [23,5,2,23,6,40,24,7,40] ?_
   refine dop 9 rfl (zQ rfl rfl rfl rfl rfl ?_)
   refine rn [24,10,3,28,7,1,5,45] ?_
   refine s_q (yH (c:=([Value.slice A9 (xs).length c9]++[Value.int .i64 ((((runE (newE c) (decL bs)).1).blk:Nat):Int),.int .i64 ((runE (newE c) (decL bs)).1).ep,.slice sn9.vA ((runE (newE c) (decL bs)).1).l.length sn9.vc,.int .u64 ((runE (newE c) (decL bs)).1).dep,.int .u64 ((runE (newE c) (decL bs)).1).paid,.int .u64 ((runE (newE c) (decL bs)).1).burn,.int .u64 (actS ((runE (newE c) (decL bs)).1).l),.slice sn9.pA ((runE (newE c) (decL bs)).1).pend.length sn9.pc,.slice sn9.fA ((runE (newE c) (decL bs)).1).q.f.length sn9.fc,.slice sn9.oA ((runE (newE c) (decL bs)).1).q.v.length sn9.oc,.slice sn9.mA ((runE (newE c) (decL bs)).1).mg.length sn9.mc,.slice sn9.rA ((runE (newE c) (decL bs)).1).pt.length sn9.rc,.int .i64 ((((runE (newE c) (decL bs)).1).cur:Nat):Int),.int .u64 ((runE (newE c) (decL bs)).1).m.bal,.int .i64 ((((runE (newE c) (decL bs)).1).bo.length:Nat):Int)])) rfl (by kernel_rfl)) rfl ?_
   refine rn [2,33,3,0,11] ?_
   exact fin2 rfl (.cellw rfl rfl) (.tmp rfl) (fun w' hw' => ⟨(⟨p9,a9,sn9,A9,c9,xs⟩:PX),(by first|exact⟨hr9,hx9⟩|(dsimp only;exact⟨hr9,hx9⟩)),rfl,zA w' hw'⟩) _ (.inl rfl)
 ·refine dop 2 rfl (zG [] rfl (fun w1 hw1 ho1=>by have h7:=sdec_any A (n) (cap) bs w1 (Rd.ofRd hw1 hrd (by omega)) hcap (by omega) hby;exact h7) rfl ?_)
  rintro⟨A12,cap12⟩ _
  refine ii ?_
  refine dop 4 rfl (zG _ rfl (fun w1 hw1 ho1=>by have h7:=pY c A12 ((decL bs).length) (cap12) (decL bs) b6 w1 ho1 hc hk (Rd.ofRow (A:=A12) hw1) (qX hby _ _) (by omega);exact h7) rfl ?_)
  rintro⟨p9,a9,sn9,A9,c9,xs⟩ ⟨hr9,hx9⟩
  refine ii ?_
  simp only at hr9 hx9
  refine rn [23,5,2,23,6,40,24,7,40] ?_
  refine dop 9 rfl (zQ rfl rfl rfl rfl rfl ?_)
  refine rn [24,10,3,28,7,1,5,45] ?_
  refine s_q (yH (c:=([Value.slice A9 (xs).length c9]++[Value.int .i64 ((((runE (newE c) (decL bs)).1).blk:Nat):Int),.int .i64 ((runE (newE c) (decL bs)).1).ep,.slice sn9.vA ((runE (newE c) (decL bs)).1).l.length sn9.vc,.int .u64 ((runE (newE c) (decL bs)).1).dep,.int .u64 ((runE (newE c) (decL bs)).1).paid,.int .u64 ((runE (newE c) (decL bs)).1).burn,.int .u64 (actS ((runE (newE c) (decL bs)).1).l),.slice sn9.pA ((runE (newE c) (decL bs)).1).pend.length sn9.pc,.slice sn9.fA ((runE (newE c) (decL bs)).1).q.f.length sn9.fc,.slice sn9.oA ((runE (newE c) (decL bs)).1).q.v.length sn9.oc,.slice sn9.mA ((runE (newE c) (decL bs)).1).mg.length sn9.mc,.slice sn9.rA ((runE (newE c) (decL bs)).1).pt.length sn9.rc,.int .i64 ((((runE (newE c) (decL bs)).1).cur:Nat):Int),.int .u64 ((runE (newE c) (decL bs)).1).m.bal,.int .i64 ((((runE (newE c) (decL bs)).1).bo.length:Nat):Int)])) rfl (by kernel_rfl)) rfl ?_
  refine rn [2,33,3,0,11] ?_
  exact fin2 rfl (.cellw rfl rfl) (.tmp rfl) (fun w' hw' => ⟨(⟨p9,a9,sn9,A9,c9,xs⟩:PX),(by first|exact⟨hr9,hx9⟩|(dsimp only;exact⟨hr9,hx9⟩)),rfl,zA w' hw'⟩) _ (.inl rfl)
def c1R:C:={ dflt with elen:=1 }
def opsR:List Op:=([⟨1,0,0,20⟩,⟨7,0,0,0⟩,⟨2,0,0,0⟩]++List.replicate 4 ⟨7,0,0,0⟩:List Op)
def bsR:List Nat:=opsR.flatMap wrB
theorem opsR_ok:∀y∈opsR,y.ok∧okE y=true:=by
 intro y hy
 have h:y=⟨1,0,0,20⟩∨y=⟨7,0,0,0⟩∨y=⟨2,0,0,0⟩:=by
  simp[opsR] at hy
  rcases hy with h|h|h|h
  ·exact .inl h
  ·exact .inr (.inl h)
  ·exact .inr (.inr h)
  ·exact .inr (.inl h)
 rcases h with rfl|rfl|rfl
 ·exact⟨by constructor<;>simp,by decide +kernel⟩
 ·exact⟨by constructor<;>simp,by decide +kernel⟩
 ·exact⟨by constructor<;>simp,by decide +kernel⟩
theorem bsR_by:∀b∈bsR,b<256:=fun b hb=>by
 obtain⟨y,_,hb⟩:=List.mem_flatMap.1 hb
 exact wrB_by b hb
theorem c1R_chk:chk c1R=0:=by decide +kernel
theorem c1R_ok:c1R.ok:=by constructor<;>simp[c1R,dflt]
theorem runR:(runE (newE c1R) (decL bsR)).1.paid=20∧(runE (newE c1R) (decL bsR)).1.ep=5∧(runE (newE c1R) (decL bsR)).2.length=7:=by decide +kernel
theorem vU (w:World) : Pur Tryz.prog 9 [] w (.bool true):=by
 refine g_st Tryz.func9 47 (WOK.start [] _) ?_
 refine rn [1,3,0,1] ?_
 refine g_op (zI rfl (fun w hw=>dflt_any w) rfl ?_)
 refine g_op (zK rfl fun b1=>?_)
 refine rn [33,0,1,4] ?_
 refine g_op (zJ rfl rfl rfl rfl rfl rfl rfl ?_)
 refine zF (b:=b1) (C.c c1R) (by rfl) ?_
 refine rn [0,1,49,49,49] ?_
 refine g_op (g_lit rfl rfl rfl rfl rfl fun b12=>?_)
 refine zF (b:=b12) ((([(Op.mk 1 0 0 20),(Op.mk 7 0 0 0),(Op.mk 2 0 0 0)]:List Op).map Op.c).flatten) rfl ?_
 refine g_op (zG [] rfl (fun w1 hw1 ho1=>by have h7:=ticks_any 4 w1 (by omega);exact h7) rfl ?_)
 rintro⟨A13,cap13⟩ _
 refine ii ?_
 refine xR (b:=b12) 4 3 (([(Op.mk 1 0 0 20),(Op.mk 7 0 0 0),(Op.mk 2 0 0 0)]:List Op).map Op.c) (zW (c:=Op.c) (fun _=>rfl) _) rfl rfl (by decide) ?_
 refine g_op (zZ (A:=(some ⟨b12,0,none⟩)) (els:=(([(Op.mk 1 0 0 20),(Op.mk 7 0 0 0),(Op.mk 2 0 0 0)]:List Op)).map Op.c) (news:=(((List.replicate 4 (Op.mk 7 0 0 0))).map Op.c)) rfl rfl (ird (A:=A13)) (yF (c:=Op.c) (by intro x;simp[Op.c,Value.oneCell']) _) (by first|omega|(simp;done)) rfl fun A14 cap14=>⟨_,inferInstance,?_⟩)
 refine zH (A:=A14) (((([(Op.mk 1 0 0 20),(Op.mk 7 0 0 0),(Op.mk 2 0 0 0)]:List Op)++(List.replicate 4 (Op.mk 7 0 0 0)))).map Op.c) (by first|rfl|exact List.map_append.symm|(simp;done)) ?_
 refine zH (A:=A14) (opsR.map Op.c) (by rfl) ?_
 refine yB (A:=A14) opsR.length (by rfl) ?_
 refine g_val 14 (v' := .slice A14 opsR.length cap14) rfl (by rfl) ?_
 refine g_op (zG [] rfl (fun w1 hw1 ho1=>by have h7:=senc_any A14 (opsR.length) (cap14) opsR w1 (Rd.ofRow (A:=A14) hw1) (by decide) opsR_ok;exact h7) rfl ?_)
 rintro⟨A15,cap15⟩ _
 refine ii ?_
 refine zH (A:=A15) (bsR.map (fun v:Nat=>[Value.int .u8 ((v:Nat):Int)])) (by rfl) ?_
 refine yB (A:=A15) bsR.length (by rfl) ?_
 refine g_val 15 (v' := .tuple [.slice A15 bsR.length cap15,.bool true].toArray) rfl (by rfl) ?_
 have hbl:bsR.length≤1000:=by decide +kernel
 refine rn [2,40,40,3,3,0,1,45,2] ?_
 refine g_op (zG [] rfl (fun w1 hw1 ho1=>by have h7:=run_any9 c1R A15 (bsR.length) (cap15) bsR w1 c1R_chk c1R_ok (Rd.ofRow (A:=A15) hw1) (pQ (A:=A15) hw1) (by omega) bsR_by;exact h7) rfl ?_)
 rintro⟨p21,a21,sn21,A21,c21,xs⟩ ⟨hr9,hx9⟩
 refine ii ?_
 simp only at hr9 hx9
 have hxl:xs.length=7:=by rw[←runR.2.2,←hx9];simp
 refine rn [2,40,40] ?_
 refine g_op (zK rfl fun b4=>?_)
 refine rn [33,3,0,1,2,2,22,2,22,44] ?_
 refine yC 27 (b:=true) rfl (rfl) ?_
 refine rn [41,2,22,4,22,4,22,5,22,44] ?_
 refine yC 33 (b:=true) rfl (by rw[runR.1];rfl) ?_
 refine rn [41,2,22,4,22,4,22,5,22,44] ?_
 refine yC 39 (b:=true) rfl (by rw[runR.2.1];rfl) ?_
 refine rn [41,2,22,4,22,5,22,47,22,44] ?_
 refine yC 45 (b:=true) rfl (by rw[hxl];rfl) ?_
 refine rn [41,3,0,11] ?_
 exact fin1 rfl (.tmp rfl) (fun w' hw' => ⟨by rfl,hw'.upd⟩) _ (.inl rfl)
def fitB (c:C) (n:Nat):Bool:=decide (chk c=0∧c.capa≤100∧c.vis≤200∧c.pays≤200∧c.merg≤200∧c.qsize≤200∧n≤400)
theorem sN {c:C} {n:Nat} (h:¬(chk c=0∧c.capa≤100∧c.vis≤200∧c.pays≤200∧c.merg≤200∧c.qsize≤200∧n≤400)):(if fitB c n=true then(1:Int) else 0)=0:=by
 unfold fitB;rw[decide_eq_false h];rfl
theorem fits_any (c:C) (A:Option Addr) (n cap:Nat) (w:World) : Pur Tryz.prog 8 [c.v,.slice A n cap] w (.int .i64 (if fitB c n=true then 1 else 0)):=by
 refine g_st Tryz.func8 38 (WOK.start [] _) ?_
 refine rn [1] ?_
 refine g_op (g_box rfl rfl rfl fun b2=>?_)
 refine rn [3,0,8,1,45] ?_
 refine g_op (zI rfl (fun w hw=>chk_any _ w) rfl ?_)
 refine rn [51,2] ?_
 refine zU 8 rfl (fun h1=>?_) (fun h1=>?_)
 ·have h0:(if fitB c n=true then(1:Int) else 0)=0:=sN (fun hc=>by have h9:=h1;simp at h9;exact h9 hc.1)
  refine rn [21,21,21,41,2,21,21,21,41,2,21,21,21,41,2,21,21,21,41,2,21,21,21,41,2,21,21,21,41,0,19,1,3,0,11,13] ?_
  exact fin1 rfl (.tmp rfl) (fun w' hw' => ⟨by first|rw[h0]|rw[h1_],hw'.upd⟩) _ (.inl rfl)
 ·have f0:=h1
  refine rn [22,4,22,5,22,55,42,2] ?_
  refine zU 13 rfl (fun h2=>?_) (fun h2=>?_)
  ·have h0:(if fitB c n=true then(1:Int) else 0)=0:=sN (fun hc=>by have h9:=h2;simp at h9;have h8:=hc.2.1;omega)
   refine rn [21,21,21,41,2,21,21,21,41,2,21,21,21,41,2,21,21,21,41,2,21,21,21,41,0,19,1,3,0,11,13] ?_
   exact fin1 rfl (.tmp rfl) (fun w' hw' => ⟨by first|rw[h0]|rw[h1_],hw'.upd⟩) _ (.inl rfl)
  ·have f1:=h2
   refine rn [22,4,22,5,22,55,42,2] ?_
   refine zU 18 rfl (fun h3=>?_) (fun h3=>?_)
   ·have h0:(if fitB c n=true then(1:Int) else 0)=0:=sN (fun hc=>by have h9:=h3;simp at h9;have h8:=hc.2.2.1;omega)
    refine rn [21,21,21,41,2,21,21,21,41,2,21,21,21,41,2,21,21,21,41,0,19,1,3,0,11,13] ?_
    exact fin1 rfl (.tmp rfl) (fun w' hw' => ⟨by first|rw[h0]|rw[h1_],hw'.upd⟩) _ (.inl rfl)
   ·have f2:=h3
    refine rn [22,4,22,5,22,55,42,2] ?_
    refine zU 23 rfl (fun h4=>?_) (fun h4=>?_)
    ·have h0:(if fitB c n=true then(1:Int) else 0)=0:=sN (fun hc=>by have h9:=h4;simp at h9;have h8:=hc.2.2.2.1;omega)
     refine rn [21,21,21,41,2,21,21,21,41,2,21,21,21,41,0,19,1,3,0,11,13] ?_
     exact fin1 rfl (.tmp rfl) (fun w' hw' => ⟨by first|rw[h0]|rw[h1_],hw'.upd⟩) _ (.inl rfl)
    ·have f3:=h4
     refine rn [22,4,22,5,22,55,42,2] ?_
     refine zU 28 rfl (fun h5=>?_) (fun h5=>?_)
     ·have h0:(if fitB c n=true then(1:Int) else 0)=0:=sN (fun hc=>by have h9:=h5;simp at h9;have h8:=hc.2.2.2.2.1;omega)
      refine rn [21,21,21,41,2,21,21,21,41,0,19,1,3,0,11,13] ?_
      exact fin1 rfl (.tmp rfl) (fun w' hw' => ⟨by first|rw[h0]|rw[h1_],hw'.upd⟩) _ (.inl rfl)
     ·have f4:=h5
      refine rn [22,4,22,5,22,55,42,2] ?_
      refine zU 33 rfl (fun h6=>?_) (fun h6=>?_)
      ·have h0:(if fitB c n=true then(1:Int) else 0)=0:=sN (fun hc=>by have h9:=h6;simp at h9;have h8:=hc.2.2.2.2.2.1;omega)
       refine rn [21,21,21,41,0,19,1,3,0,11,13] ?_
       exact fin1 rfl (.tmp rfl) (fun w' hw' => ⟨by first|rw[h0]|rw[h1_],hw'.upd⟩) _ (.inl rfl)
      ·have f5:=h6
       refine rn [22,2,22,47,22,55,42,0] ?_
       refine zC rfl (fun h7=>?_) (fun h7=>?_)
       ·have h0:(if fitB c n=true then(1:Int) else 0)=0:=sN (fun hc=>by have h9:=h7;simp at h9;have h8:=hc.2.2.2.2.2.2;omega)
        refine rn [1,3,0,11,13] ?_
        exact fin1 rfl (.tmp rfl) (fun w' hw' => ⟨by first|rw[h0]|rw[h1_],hw'.upd⟩) _ (.inl rfl)
       ·have h1_:(if fitB c n=true then(1:Int) else 0)=1:=by unfold fitB;rw[decide_eq_true];rfl;simp at f0 f1 f2 f3 f4 f5;have h9:=h7;simp at h9;exact⟨f0,by omega,by omega,by omega,by omega,by omega,by omega⟩
        refine rn [12,7,1,3,0,11] ?_
        exact fin1 rfl (.tmp rfl) (fun w' hw' => ⟨by first|rw[h0]|rw[h1_],hw'.upd⟩) _ (.inl rfl)
theorem paysE_ep {s:Eg} (h:Inv s):(paysE s).1.ep=s.ep:=(wW h).2.2.1
theorem bdyE_ep (s:Eg):(bdyE s).1.ep=s.ep:=rfl
theorem ag_shape {s:Eg} (h:Inv s) (hb:s.blk<1000000000) (y:Op):∃a b:Nat,(applyE s y).2.ag=(s.q.f.take a).map (fun i=>As.mk i 0 ((applyE s y).2.ep+1))++(s.q.v.take b).map (fun i=>As.mk i 1 ((applyE s y).2.ep+1))∧a≤s.q.f.length∧b≤s.q.v.length∧(0<b→a=s.q.f.length):=by
 unfold applyE
 split
 ·rw[wD]
  obtain⟨hm,hB⟩:=wM h hb
  have hep:=paysE_ep hm
  simp only
  rw[hep]
  by_cases hc:(s.blk+1)%s.c.elen.toNat=0
  ·obtain⟨B⟩:=hB hc
   have hmid:midE s=bdyE { s with blk:=s.blk+1 }:=if_pos hc
   obtain⟨a,b,g1,g2,g3,g4⟩:=B.hs
   refine⟨a,b,?_,g2,g3,g4⟩
   rw[hmid,B.ha,bdyE_ep]
   exact g1
  ·have hmid:midE s=({ s with blk:=s.blk+1 },[]):=if_neg hc
   refine⟨0,0,?_,Nat.zero_le _,Nat.zero_le _,by omega⟩
   rw[hmid];simp
 ·refine⟨0,0,?_,Nat.zero_le _,Nat.zero_le _,by omega⟩
  have:((actE s y).1,rcp s y (actE s y).2).2.ag=[]:=by
   show(rcp s y (actE s y).2).ag=[]
   unfold rcp;split<;>rfl
  rw[this];simp
theorem fit_of {c:C} {n:Nat} (h:decide ((if fitB c n=true then(1:Int) else 0)=0)=false):fitB c n=true:=by
 by_cases hf:fitB c n=true
 ·exact hf
 ·rw[if_neg hf] at h;simp at h
theorem sh_get {f v:List Int} {a b:Nat} {e:Int} {ag:List As} (h:ag=(f.take a).map (fun i=>As.mk i 0 e)++(v.take b).map (fun i=>As.mk i 1 e)) (ha:a≤f.length) (hb:b≤v.length) :
  ag.length=a+b∧∀(j:Nat) (hj:j<ag.length),ag[j].e=e∧ag[j].c=if j<a then 0 else 1:=by
 have hl:ag.length=a+b:=by rw[h];simp;omega
 refine⟨hl,fun j hj=>?_⟩
 have hm:((f.take a).map fun i=>As.mk i 0 e).length=a:=by simp;omega
 subst h
 by_cases hja:j<a
 ·rw[List.getElem_append_left (by omega),if_pos hja];simp
 ·rw[List.getElem_append_right (by omega),if_neg hja];simp
theorem bdy_st {s:Eg} (h:Inv s) (hb:s.blk<1000000000) (hc:(s.blk+1)%s.c.elen.toNat=0) (B:Bdy { s with blk:=s.blk+1 }) :
  B.l5.length=s.l.length∧(∀i,(gotV s.l i).st=6→(gotV B.l5 i).st=6) ∧
  ∀i,(gotV B.l5 i).st=5→(gotV B.l5 i).bal=(gotV s.l i).bal∧((gotV s.l i).st=5∨(gotV s.l i).st=4∧(gotV s.l i).wd=({ s with blk:=s.blk+1 }:Eg).ep):=by
 have hep:=tO (s:=s) h.cok.elen.1
 rw[if_pos hc] at hep
 obtain⟨is,f4⟩:=B.f4
 have k1:=uN (e:=3) (by omega) s.lv s.l
 have g1:∀j,gotV B.l1 j=if j∈s.lv∧(gotV s.l j).st=3 then { gotV s.l j with st:=3+1 } else gotV s.l j:=fun j=>by rw[B.f1];exact vI (by omega) s.lv s.l j
 have k4:=uN (e:=1) (by omega) is B.l3
 have g4:∀j,gotV B.l4 j=if j∈is∧(gotV B.l3 j).st=1 then { gotV B.l3 j with st:=1+1 } else gotV B.l3 j:=fun j=>by rw[f4];exact vI (by omega) is B.l3 j
 refine⟨?_,fun i hi=>?_,fun i hi=>?_⟩
 ·rw[B.f5.len,f4,k4.1,B.f3.len,B.f2.len,B.f1];exact k1.1
 ·have e1:gotV B.l1 i=gotV s.l i:=by rw[g1,if_neg (by omega)]
  have e2:gotV B.l2 i=gotV B.l1 i:=by rw[B.f2.got,if_neg (by rw[e1];omega)]
  have e3:gotV B.l3 i=gotV B.l2 i:=by
   rw[B.f3.got,if_neg]
   intro hc;have:=(B.f3.as3 i hc).1;rw[e2,e1] at this;omega
  have e4:gotV B.l4 i=gotV B.l3 i:=by rw[g4,if_neg (by rw[e3,e2,e1];omega)]
  rw[B.f5.ne (by rw[e4,e3,e2,e1];omega),e4,e3,e2,e1];exact hi
 ·have e5:gotV B.l5 i=gotV B.l4 i:=by
   rcases B.f5.got i with h5|⟨_,b,t,h6,_,h7⟩
   ·exact h5
   ·rw[h6] at hi;simp only at hi;omega
  rw[e5] at hi ⊢
  have e4:gotV B.l4 i=gotV B.l3 i:=by
   have:=g4 i
   split at this
   ·rw[this] at hi;simp only at hi;omega
   ·exact this
  rw[e4] at hi ⊢
  have e3:gotV B.l3 i=gotV B.l2 i:=by
   have:=B.f3.got i
   split at this
   ·rename_i hm
    have h3:=(B.f3.as3 i hm).1
    rw[this] at hi;simp only[asV] at hi;omega
   ·exact this
  rw[e3] at hi ⊢
  have g2:=B.f2.got i
  split at g2
  ·rename_i hm
   have hbal:(gotV B.l2 i).bal=(gotV B.l1 i).bal:=by rw[g2]
   have h1:=g1 i
   obtain⟨hd,hw,h4⟩:=hm
   have hbo:i∈s.bo.map En.i:=(B.d1.bon i).2 h4
   obtain⟨x,hx,rfl⟩:=List.mem_map.1 hbo
   split at h1
   ·rename_i h3
    exfalso
    have:=(h.e.bep x hx)
    have h5:=this.2.2 h3.2
    rw[h1] at hw
    simp only at hw
    omega
   ·rw[h1] at hw h4 hbal
    refine⟨hbal,.inr ⟨h4,?_⟩⟩
    have:=h.e.bep x hx
    omega
  ·rw[g2] at hi ⊢
   have h1:=g1 i
   split at h1
   ·rw[h1] at hi;simp only at hi;omega
   ·rw[h1] at hi ⊢;exact⟨rfl,.inl hi⟩
theorem mid_st {s:Eg} (h:Inv s) (hb:s.blk<1000000000):(midE s).1.l.length=s.l.length∧(∀i,(gotV s.l i).st=6→(gotV (midE s).1.l i).st=6) ∧
  ∀i,(gotV (midE s).1.l i).st=5→(gotV (midE s).1.l i).bal=(gotV s.l i).bal∧((gotV s.l i).st=5∨(gotV s.l i).st=4∧(gotV s.l i).wd=(midE s).1.ep):=by
 obtain⟨_,hB⟩:=wM h hb
 by_cases hc:(s.blk+1)%s.c.elen.toNat=0
 ·obtain⟨B⟩:=hB hc
  have hm:midE s=bdyE { s with blk:=s.blk+1 }:=if_pos hc
  have:=bdy_st h hb hc B
  rw[hm,B.hl]
  exact this
 ·have hm:midE s=({ s with blk:=s.blk+1 },[]):=if_neg hc
  rw[hm]
  exact⟨rfl,fun i h=>h,fun i h=>⟨rfl,.inl h⟩⟩
theorem act_st {s:Eg} (h:Inv s) (y:Op):∀i,(gotV s.l i).st=6→(gotV (actE s y).1.l i).st=6:=by
 intro j hj
 have lv:∀cl,(gotV (leaveE s cl y.i).1.l j).st=6:=fun cl=>by
  unfold leaveE
  repeat' split
  all_goals first|exact hj|skip
  rename_i h1 h2 h3 h4
  have hh:hasV s.l y.i=true:=by simpa using h1
  simp only
  rw[xI hh,yO]
  split
  ·rename_i hc
   exfalso
   rw[hc.2] at hj
   apply h2
   unfold accV
   split
   ·simp
   ·rw[hj];simp[nxt]
  ·exact hj
 unfold actE
 repeat' split
 ·unfold depE
  repeat' split
  all_goals first|exact hj|skip
  simp only
  rw[qT]
  split
  ·rename_i e
   have:(gotV s.l j).st=0:=got_no (by rw[e];exact decide_eq_false (by omega))
   omega
  ·exact hj
 ·exact lv 1
 ·exact lv 0
 ·unfold slashE
  split
  ·exact hj
  rename_i h1
  have hh:hasV s.l y.i=true:=by simpa using h1
  simp only
  split
  ·exact hj
  rename_i h2
  split
  ·exact hj
  split
  ·exact hj
  show(gotV (s.l.set y.i.toNat _) j).st=6
  rw[xI hh,yO]
  split
  ·rename_i hc
   exfalso
   rw[hc.2] at hj
   apply h2
   unfold slaV
   split
   ·exact .inl rfl
   ·rw[hj];simp[nxt]
  ·exact hj
 ·unfold consE
  repeat' split
  all_goals exact hj
 ·unfold partE
  repeat' split
  all_goals exact hj
 ·exact hj
theorem once_apply {s:Eg} (h:Inv s) (hb:s.blk<1000000000) (y:Op) :
  (∀p∈(applyE s y).2.ps,hasV s.l p.i=true∧(p.f=true→p.a=(gotV s.l p.i).bal∧((gotV s.l p.i).st=5∨(gotV s.l p.i).st=4∧(gotV s.l p.i).wd=(applyE s y).2.ep)∧(gotV (applyE s y).1.l p.i).st=6)) ∧
  (((applyE s y).2.ps.filter (·.f)).map Y.i).Nodup∧∀i,(gotV s.l i).st=6→(gotV (applyE s y).1.l i).st=6:=by
 unfold applyE
 split
 ·rw[wD]
  simp only
  obtain⟨hm,_⟩:=wM h hb
  obtain⟨m1,m2,m3⟩:=mid_st h hb
  obtain⟨⟨P⟩,_,hep,_⟩:=wW hm
  have e5:∀i∈P.is,gotV P.l1 i=gotV (midE s).1.l i:=fun i hi=>by
   rcases P.f1.got i with h5|⟨_,b,t,h6,_,h7⟩
   ·exact h5
   ·have:=P.i5 i hi;rw[h6] at this;simp only at this;omega
  rw[P.pay,hep]
  refine⟨fun p hp=>?_,?_,fun i hi=>?_⟩
  ·rcases List.mem_append.1 hp with hp|hp
   ·have:=P.fp p hp
    exact⟨by rw[←xK m1];exact this.2.2,fun hf=>by rw[this.2.1] at hf;cases hf⟩
   ·obtain⟨i,hi,rfl⟩:=List.mem_map.1 hp
    have h5:=P.i5 i hi
    rw[e5 i hi] at h5
    obtain⟨n1,n2⟩:=m3 i h5
    refine⟨?_,fun _=>⟨?_,n2,?_⟩⟩
    ·rw[←xK m1];exact yM (by simp only;omega)
    ·simp only;rw[e5 i hi];exact n1
    ·simp only;rw[P.got,if_pos hi]
  ·have h1:P.ps.filter (·.f)=[]:=List.filter_eq_nil_iff.2 fun p hp=>by rw[(P.fp p hp).2.1];simp
   have h2:∀is:List Int,((is.map (fun i=>(⟨i,(gotV P.l1 i).bal,true⟩:Y))).filter (·.f)).map Y.i=is:=fun is=>by
    induction is with
    | nil=>rfl
    | cons i is ih=>simp only[List.map_cons,List.filter_cons,if_true,ih]
   rw[List.filter_append,h1,List.nil_append,h2];exact P.nd
  ·rw[P.got]
   split
   ·rfl
   ·rw[P.f1.ne (by have:=m2 i hi;omega)];exact m2 i hi
 ·refine⟨fun p hp=>?_,?_,act_st h y⟩
  ·have:(rcp s y (actE s y).2).ps=[]:=by unfold rcp;split<;>rfl
   simp only at hp;rw[this] at hp;cases hp
  ·have:(rcp s y (actE s y).2).ps=[]:=by unfold rcp;split<;>rfl
   simp only;rw[this];exact List.nodup_nil
theorem full_len {l0:List V} {e:Int}:∀(is:List Int) (s:List V × List Y),(is.foldl (fullS l0 e) s).2.length=s.2.length+is.length
 | [],_=>rfl
 | i :: is,s=>by rw[List.foldl_cons,full_len is];simp[fullS];omega
theorem pays_len {s:Eg} (h:Inv s):(paysE s).2.1.length≤10000:=by
 have hk:=h.cok
 have hq:=(yU h.cc).qsize
 obtain⟨l1,l2,l3,l4,l5,l6⟩:=h.led
 have hsum:=h.sum
 obtain⟨f1,s1,p1⟩:=K2.run (c:=s.c) h.ck.minb.1 (s.pt.take s.c.parts.toNat) (fun r hr=>h.pm r (List.mem_of_mem_take hr)) h.vo (by omega)
 have hpt:=h.pt
 have hcap:=h.cap
 have hcp:=hk.capa
 have h1:(pos (run s.c s.l (s.pt.take s.c.parts.toNat)).2).length≤(s.pt.take s.c.parts.toNat).length:=Nat.le_trans (List.length_filter_le _ _) (run_pl _ _ _)
 have h2:(s.pt.take s.c.parts.toNat).length≤s.pt.length:=by simp;omega
 unfold paysE
 simp only
 rw[full_len]
 obtain⟨w1,w2⟩:=sU s.cur ((run s.c s.l (s.pt.take s.c.parts.toNat)).1.map fun v=>decide (v.st=5)) (s.c.vis-((s.pt.take s.c.parts.toNat).length:Nat)) (s.c.pays-((pos (run s.c s.l (s.pt.take s.c.parts.toNat)).2).length:Nat))
 have h3:=vE (l:=(run s.c s.l (s.pt.take s.c.parts.toNat)).1) w2 (fun i hi=>by
  obtain⟨j,rfl,hj⟩:=w1 i hi
  have:=qP hj
  exact yM (by omega))
 have h4:=f1.len
 simp only at h3 ⊢
 omega
theorem ps_len {s:Eg} (h:Inv s) (hb:s.blk<1000000000) (y:Op):(applyE s y).2.ps.length≤10000:=by
 unfold applyE
 split
 ·rw[wD];exact pays_len (wM h hb).1
 ·have:(rcp s y (actE s y).2).ps=[]:=by unfold rcp;split<;>rfl
  simp only;rw[this];simp
end Go.Proofs.YtdddiilocbbkkaaGreat
