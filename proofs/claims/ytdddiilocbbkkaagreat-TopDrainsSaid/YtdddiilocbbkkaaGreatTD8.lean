/- TopDrains: for every configuration and all operations the law returns true. No condition. Part 8 of 28. -/
import Derived.Test.YtdddiilocbbkkaaGreatTD4
set_option linter.unusedVariables false
set_option linter.unusedSimpArgs false
namespace Go.Proofs.YtdddiilocbbkkaaGreat
open Go.RowKit Go.Eg
set_option maxHeartbeats 4000000
set_option synthInstance.maxSize 3000
set_option maxRecDepth 100000
def tabL:List (Nat × Int × Int × Int):=[(2,1,1,2),(4,2,2,3),(6,3,3,4),(8,4,4,5),(10,5,5,6),(12,2,6,7),(14,2,7,3),(16,3,7,3),(18,4,7,4),(20,5,7,4)]
def tabR (j:Nat):Int × Int × Int:=(tabL.lookup j).getD (1,1,2)
def tabE (j:Nat):Value × Value:=(.agg [.int .i64 (tabR j).1,.int .i64 (tabR j).2.1].toArray,.int .i64 (tabR j).2.2)
theorem tabIn (j:Nat):tabR j∈(1,1,2) :: tabL.map (·.2):=by
 unfold tabR
 cases h:tabL.lookup j with
 | none=>simp
 | some x =>
  have:=List.lookup_eq_some_iff.1 h
  obtain⟨l1,l2,he,_⟩:=this
  rw[he];simp
theorem keyAll:∀r∈(1,1,2) :: tabL.map (·.2),(keyOf Tryz.prog 374 (.agg [.int .i64 r.1,.int .i64 r.2.1].toArray)).isSome=true:=by
 intro r hr
 simp only[tabL,List.map_cons,List.map_nil,List.mem_cons,List.not_mem_nil,or_false] at hr
 rcases hr with rfl|rfl|rfl|rfl|rfl|rfl|rfl|rfl|rfl|rfl|rfl<;>kernel_rfl
theorem tabKey (j:Nat):Key Tryz.prog 374 (tabE j).1:=Option.isSome_iff_exists.1 (keyAll _ (tabIn j))
theorem tabNe:∀i∈[2,4,6,8,10,12,14,16,18,20],∀j∈[2,4,6,8,10,12,14,16,18,20],i≠j→((tabR i).1,(tabR i).2.1)≠((tabR j).1,(tabR j).2.1):=by decide
theorem tabDis:∀i∈[2,4,6,8,10,12,14,16,18,20],∀j∈[2,4,6,8,10,12,14,16,18,20],i≠j→(tabE i).1≠(tabE j).1:=fun i hi j hj hne h=>tabNe i hi j hj hne (by
 simp only[tabE,Value.agg.injEq] at h
 have h2:=congrArg Array.toList h
 simp at h2
 rw[h2.1,h2.2])
theorem table_any (w:World) : Own2 (ι:=Nat) Tryz.prog 273 [] w [] (fun x=>True) (fun x=>.map (some x)) (fun x=>[Res.mp x ([2,4,6,8,10,12,14,16,18,20].map tabE)]) (fun x=>[]):=by
 refine g_st Tryz.func273 13 (WOK.start (fps []) _) ?_
 refine rn [1,3,0,8] ?_
 refine dregL (L0:=[]) [] mixed rfl zB ?_
 refine rn [24,1,49,24,3,49,24,5,49,24,7,49,24,9,49,24,11,49,24,13,49,24,15,49,24,17,49,24,19,49] ?_
 refine dop 0 rfl (uB rfl fun b1=>?_)
 refine d_inserts (fuel:=2) (b:=b1) (mt:=371) [2,4,6,8,10,12,14,16,18,20] (by decide) rfl (by decide) tabE (by
   intro j hj
   simp only[List.mem_cons,List.not_mem_nil,or_false] at hj
   rcases hj with rfl|rfl|rfl|rfl|rfl|rfl|rfl|rfl|rfl|rfl<;>exact⟨_,_,_,_,_,_,rfl,rfl,rfl,rfl⟩) (fun j _=>tabKey j) tabDis (by kernel_rfl) (by kernel_rfl) (fun D=>zB) ?_
 refine dls 23 2097151 ?_
 refine rn [24,21,2,24,22,3,27,7,11] ?_
 exact fin1 rfl (.tmp rfl) (fun w' hw' => ⟨b1,(by exact trivial),by first|rfl|(simp_all;done),zA w' hw'⟩) _ (.inl rfl)
theorem next26 (w:World) : Pur Tryz.prog 227 [.int .i64 2,.int .i64 6] w (.tuple [.int .i64 7,.bool true].toArray):=by
 refine g_st Tryz.func227 18 (WOK.start [] _) ?_
 refine rn [1,3,3,0,1] ?_
 refine g_op (zG [] rfl (fun w1 hw1 ho1=>by have h7:=table_any w1;exact h7) rfl ?_)
 rintro b9 _
 refine ii ?_
 refine rn [2,2,49] ?_
 refine s_q (wE (b:=b9) (D:=[2,4,6,8,10,12,14,16,18,20].map tabE) (v:=.int .i64 7) rfl rfl (tabKey 12) (fun p hp=>by obtain⟨j,_,rfl⟩:=List.mem_map.1 hp;exact tabKey j) (List.mem_map.2 ⟨12,by decide,rfl⟩) (fun p hp he=>by
   obtain⟨j,hj,rfl⟩:=List.mem_map.1 hp
   rcases Classical.em (j=12) with h|h
   · subst h;rfl
   · exact absurd he (tabDis j hj 12 (by decide) h))) rfl ?_
 refine rn [2,40,40,3,3,0,1,2,2,3,3,0,11] ?_
 exact fin2 rfl (.tmp rfl) (.tmp rfl) (fun w' hw' => ⟨by rfl,hw'.upd⟩) _ (.inl rfl)
theorem checks_any (w:World) : Own2 (ι:=Nat) Tryz.prog 251 [] w [] (fun x=>True) (fun x=>.slice (some ⟨x,0,none⟩) 3 3) (fun x=>[Res.blk x 354 [Value.func (.func 293) #[] #[],.int .i64 8,.func (.func 294) #[] #[],.int .i64 9,.func (.func 295) #[] #[],.int .i64 3]]) (fun x=>[]):=by
 refine g_st Tryz.func251 5 (WOK.start (fps []) _) ?_
 refine rn [1,3,0,1,49,49,49] ?_
 refine g_op (g_lit rfl rfl rfl rfl rfl fun b4=>?_)
 refine zF (b:=b4) [Value.func (.func 293) #[] #[],.int .i64 8,.func (.func 294) #[] #[],.int .i64 9,.func (.func 295) #[] #[],.int .i64 3] rfl ?_
 refine rn [3,0,11] ?_
 exact fin1 rfl (.tmp rfl) (fun w' hw' => ⟨b4,(by exact trivial),by first|rfl|(simp_all;done),zA w' hw'⟩) _ (.inl rfl)
def V0:V:=⟨0,0,false,0,0,0,0⟩
def tst (s d:V) (c:C):Nat→Bool
 | 0=>decide (s.st=2∧d.st=2)
 | 1 => !s.sl && !d.sl
 | _=>addB [s.bal,d.bal] && decide (addV [s.bal,d.bal]≤c.maxb)
def checkV (s d:V) (c:C):Int:=if tst s d c 0=false then 8 else if tst s d c 1=false then 9 else if tst s d c 2=false then 3 else 0
theorem tst0 (s d:V) (c:C) (w:World) (hs:0≤s.bal∧s.bal≤18446744073709551615) (hd:0≤d.bal∧d.bal≤18446744073709551615):Pur Tryz.prog 293 [s.v,d.v,c.v] w (.bool (tst s d c 0)):=by
 refine g_st Tryz.func293 14 (WOK.start [] _) ?_
 refine rn [1] ?_
 refine g_op (g_box rfl rfl rfl fun b3=>?_)
 refine g_op (g_box rfl rfl rfl fun b4=>?_)
 refine g_op (g_box rfl rfl rfl fun b5=>?_)
 refine rn [3,0,1,4,5,4,5,49,49] ?_
 refine s_q (q_eqa rfl rfl rfl) rfl ?_
 refine rn [3,0,11] ?_
 exact fin1 rfl (.tmp rfl) (fun w' hw' => ⟨by first|rfl|(simp[tst];done)|(simp_all[tst];done),hw'.upd⟩) _ (.inl rfl)
theorem tst1 (s d:V) (c:C) (w:World) (hs:0≤s.bal∧s.bal≤18446744073709551615) (hd:0≤d.bal∧d.bal≤18446744073709551615):Pur Tryz.prog 294 [s.v,d.v,c.v] w (.bool (tst s d c 1)):=by
 refine g_st Tryz.func294 15 (WOK.start [] _) ?_
 refine rn [1] ?_
 refine g_op (g_box rfl rfl rfl fun b3=>?_)
 refine g_op (g_box rfl rfl rfl fun b4=>?_)
 refine g_op (g_box rfl rfl rfl fun b5=>?_)
 refine rn [3,0,1,4,5,48,2] ?_
 refine zU 10 rfl (fun h1=>?_) (fun h1=>?_)
 ·refine rn [22,4,22,5,22,48,41,3,0,11] ?_
  exact fin1 rfl (.tmp rfl) (fun w' hw' => ⟨by first|rfl|(simp[tst];done)|(simp_all[tst];done),hw'.upd⟩) _ (.inl rfl)
 ·refine rn [21,21,21,42,3,0,11] ?_
  exact fin1 rfl (.tmp rfl) (fun w' hw' => ⟨by first|rfl|(simp[tst];done)|(simp_all[tst];done),hw'.upd⟩) _ (.inl rfl)
theorem tst2 (s d:V) (c:C) (w:World) (hs:0≤s.bal∧s.bal≤18446744073709551615) (hd:0≤d.bal∧d.bal≤18446744073709551615):Pur Tryz.prog 295 [s.v,d.v,c.v] w (.bool (tst s d c 2)):=by
 refine g_st Tryz.func295 25 (WOK.start [] _) ?_
 refine rn [1] ?_
 refine g_op (g_box rfl rfl rfl fun b3=>?_)
 refine g_op (g_box rfl rfl rfl fun b4=>?_)
 refine g_op (g_box rfl rfl rfl fun b5=>?_)
 refine rn [3,0,1,4,5,4,5] ?_
 refine g_op (g_lit rfl rfl rfl rfl rfl fun b14=>?_)
 refine zF (b:=b14) ((([(s).bal,(d).bal]:List Int).map (fun v:Int=>[Value.int .u64 v])).flatten) rfl ?_
 refine g_op (zI rfl (fun w1 hw1=>vP (some ⟨b14,0,none⟩) (2) (2) (([(s).bal,(d).bal]:List Int)) w1 (Rdb.toOld (InL.rdb (b:=b14) (els:=(([(s).bal,(d).bal]:List Int)).map (fun v:Int=>[Value.int .u64 v])) rfl (by simp) rfl) hw1) (by first|assumption|(intro x hx;simp at hx;first|(rcases hx with rfl|rfl<;>omega)|(rcases hx with rfl|rfl|rfl<;>omega)|(subst hx;omega))) (by first|omega|(simp;omega)|(simp;done))) rfl ?_)
 refine rn [2,40,40,3,3,0,1,2,2] ?_
 refine zU 19 rfl (fun h1=>?_) (fun h1=>?_)
 ·refine rn [22,2,22,4,22,5,22,56,41,3,0,11] ?_
  exact fin1 rfl (.tmp rfl) (fun w' hw' => ⟨by first|rfl|(simp[tst];done)|(simp_all[tst];done),hw'.upd⟩) _ (.inl rfl)
 ·refine rn [21,21,21,21,42,3,0,11] ?_
  exact fin1 rfl (.tmp rfl) (fun w' hw' => ⟨by first|rfl|(simp[tst];done)|(simp_all[tst];done),hw'.upd⟩) _ (.inl rfl)
theorem check_any (s d:V) (c:C) (w:World) (hs:0≤s.bal∧s.bal≤18446744073709551615) (hd:0≤d.bal∧d.bal≤18446744073709551615):Pur Tryz.prog 180 [s.v,d.v,c.v] w (.int .i64 (checkV s d c)):=by
 refine g_st Tryz.func180 25 (WOK.start [] _) ?_
 refine rn [1] ?_
 refine g_op (g_box rfl rfl rfl fun b3=>?_)
 refine g_op (g_box rfl rfl rfl fun b4=>?_)
 refine g_op (g_box rfl rfl rfl fun b5=>?_)
 refine rn [3,0,8,1] ?_
 refine g_op (zG [] rfl (fun w1 hw1 ho1=>by have h7:=checks_any w1;exact h7) rfl ?_)
 rintro b9 _
 refine ii ?_
 refine rn [47,2,0,14] ?_
 refine g_lk [3,4,5,6,9,10] (fun(x:Nat)=>[(11,.int .i64 ((x:Nat):Int))]) (fun(x:Nat)=>[Res.blk b3 52 s.c,Res.blk b4 52 d.c,Res.blk b5 24 c.c,Res.blk b9 354 [Value.func (.func 293) #[] #[],.int .i64 8,.func (.func 294) #[] #[],.int .i64 9,.func (.func 295) #[] #[],.int .i64 3]]) (fun(x:Nat)=>x≤3∧(∀j<x,tst s d c j=true)) (fun(x:Nat)=>3-x) 0 (by(try dsimp only);exact⟨(by omega),(by simp)⟩) ?_
 rintro k ⟨le_k,pre⟩
 replace le_k:k≤3:=le_k
 replace pre:∀j<k,tst s d c j=true:=pre
 refine rn [1,46,0,8] ?_
 refine zC rfl (fun hx1=>?_) (fun hx1=>?_)
 ·have lt_k:k<3:=by have h9:=of_decide_eq_true hx1;omega
  refine rn [12,7,8,14,8] ?_
  rcases(show k=0∨k=1∨k=2 by omega) with rfl|rfl|rfl
  ·refine rn [10] ?_
   refine s_q (zP (i:=0) rfl rfl rfl (InL.rdb (b:=b9) (els:=[[Value.func (.func 293) #[] #[],.int .i64 8],[.func (.func 294) #[] #[],.int .i64 9],[.func (.func 295) #[] #[],.int .i64 3]]) rfl (by simp) rfl) (by first|omega|(simp;done)|(simp;omega))) rfl ?_
   refine s_q (zS (i:=0) rfl (InL.rdb (b:=b9) (els:=[[Value.func (.func 293) #[] #[],.int .i64 8],[.func (.func 294) #[] #[],.int .i64 9],[.func (.func 295) #[] #[],.int .i64 3]]) rfl (by simp) rfl) rfl rfl) rfl ?_
   refine g_op (zK rfl fun b8=>?_)
   refine rn [33,0,1,4,5,45,45,45] ?_
   refine g_op (tZ rfl rfl (fun w1 hw1=>tst0 s d c w1 hs hd) rfl ?_)
   refine rn [48,0] ?_
   refine zC rfl (fun hx2=>?_) (fun hx2=>?_)
   ·refine rn [1,4,5,3,0,11] ?_
    refine zM (zE (zE (zM (zE ?_))))
    exact fin1 rfl (.tmp rfl) (fun w' hw' => ⟨by simp_all[checkV],hw'.upd⟩) _ (.inl rfl)
   ·refine rn [12,15,7,10,43,2,9] ?_
    exact g_ag (0+1) (by(try dsimp only);exact⟨(by omega),(by intro j hj;rcases(show j=0 by omega) with rfl;all_goals first|assumption|(simpa using hx2))⟩)
  ·have p0:=pre 0 (by omega)
   refine rn [10] ?_
   refine s_q (zP (i:=1) rfl rfl rfl (InL.rdb (b:=b9) (els:=[[Value.func (.func 293) #[] #[],.int .i64 8],[.func (.func 294) #[] #[],.int .i64 9],[.func (.func 295) #[] #[],.int .i64 3]]) rfl (by simp) rfl) (by first|omega|(simp;done)|(simp;omega))) rfl ?_
   refine s_q (zS (i:=1) rfl (InL.rdb (b:=b9) (els:=[[Value.func (.func 293) #[] #[],.int .i64 8],[.func (.func 294) #[] #[],.int .i64 9],[.func (.func 295) #[] #[],.int .i64 3]]) rfl (by simp) rfl) rfl rfl) rfl ?_
   refine g_op (zK rfl fun b8=>?_)
   refine rn [33,0,1,4,5,45,45,45] ?_
   refine g_op (tZ rfl rfl (fun w1 hw1=>tst1 s d c w1 hs hd) rfl ?_)
   refine rn [48,0] ?_
   refine zC rfl (fun hx3=>?_) (fun hx3=>?_)
   ·refine rn [1,4,5,3,0,11] ?_
    refine zM (zE (zE (zM (zE ?_))))
    exact fin1 rfl (.tmp rfl) (fun w' hw' => ⟨by simp_all[checkV],hw'.upd⟩) _ (.inl rfl)
   ·refine rn [12,15,7,10,43,2,9] ?_
    exact g_ag (1+1) (by(try dsimp only);exact⟨(by omega),(by intro j hj;rcases(show j=0∨j=1 by omega) with rfl|rfl;all_goals first|assumption|(simpa using hx3))⟩)
  ·have p0:=pre 0 (by omega)
   have p1:=pre 1 (by omega)
   refine rn [10] ?_
   refine s_q (zP (i:=2) rfl rfl rfl (InL.rdb (b:=b9) (els:=[[Value.func (.func 293) #[] #[],.int .i64 8],[.func (.func 294) #[] #[],.int .i64 9],[.func (.func 295) #[] #[],.int .i64 3]]) rfl (by simp) rfl) (by first|omega|(simp;done)|(simp;omega))) rfl ?_
   refine s_q (zS (i:=2) rfl (InL.rdb (b:=b9) (els:=[[Value.func (.func 293) #[] #[],.int .i64 8],[.func (.func 294) #[] #[],.int .i64 9],[.func (.func 295) #[] #[],.int .i64 3]]) rfl (by simp) rfl) rfl rfl) rfl ?_
   refine g_op (zK rfl fun b8=>?_)
   refine rn [33,0,1,4,5,45,45,45] ?_
   refine g_op (tZ rfl rfl (fun w1 hw1=>tst2 s d c w1 hs hd) rfl ?_)
   refine rn [48,0] ?_
   refine zC rfl (fun hx4=>?_) (fun hx4=>?_)
   ·refine rn [1,4,5,3,0,11] ?_
    refine zM (zE (zE (zM (zE ?_))))
    exact fin1 rfl (.tmp rfl) (fun w' hw' => ⟨by simp_all[checkV],hw'.upd⟩) _ (.inl rfl)
   ·refine rn [12,15,7,10,43,2,9] ?_
    exact g_ag (2+1) (by(try dsimp only);exact⟨(by omega),(by intro j hj;rcases(show j=0∨j=1∨j=2 by omega) with rfl|rfl|rfl;all_goals first|assumption|(simpa using hx4))⟩)
 ·obtain rfl:k=3:=by have h9:=of_decide_eq_false hx1;omega
  have p0:=pre 0 (by omega)
  have p1:=pre 1 (by omega)
  have p2:=pre 2 (by omega)
  refine rn [16] ?_
  refine zD (zD (zN ?_))
  refine rn [7,1,3,0,11] ?_
  exact fin1 rfl (.tmp rfl) (fun w' hw' => ⟨by simp_all[checkV],hw'.upd⟩) _ (.inl rfl)
def apS (s d:V) (c:C):V:=if checkV s d c=0 then { s with bal:=0,st:=7 } else V0
def apD (s d:V) (c:C):V:=if checkV s d c=0 then { d with bal:=IntKind.u64.wrap (d.bal+s.bal) } else V0
theorem check_st {s d:V} {c:C} (h:checkV s d c=0):s.st=2∧d.st=2∧s.sl=false∧d.sl=false∧s.bal+d.bal≤18446744073709551615∧s.bal+d.bal≤c.maxb:=by
 unfold checkV at h
 split at h
 ·omega
 ·split at h
  ·omega
  ·split at h
   ·omega
   ·rename_i h1 h2 h3
    simp only[tst,addB,addV,List.sum_cons,List.sum_nil,Int.add_zero,Bool.and_eq_false_iff,Bool.not_eq_false',decide_eq_false_iff_not,not_or,Decidable.not_not] at h1 h2 h3
    obtain⟨h4,h5⟩:=h3
    rw[if_pos h4] at h5
    refine⟨h1.1,h1.2,by simpa using h2.1,by simpa using h2.2,h4,h5⟩
theorem wC (s d:V) (c:C) (w:World) (hs:0≤s.bal∧s.bal≤18446744073709551615) (hd:0≤d.bal∧d.bal≤18446744073709551615):Pur Tryz.prog 233 [s.v,d.v,c.v] w (.tuple [V.v (apS s d c),V.v (apD s d c),.int .i64 (checkV s d c)].toArray):=by
 refine g_st Tryz.func233 35 (WOK.start [] _) ?_
 refine rn [1] ?_
 refine g_op (g_box rfl rfl rfl fun b3=>?_)
 refine g_op (g_box rfl rfl rfl fun b4=>?_)
 refine g_op (g_box rfl rfl rfl fun b5=>?_)
 refine g_op (zK rfl fun b6=>?_)
 refine g_op (zK rfl fun b7=>?_)
 refine rn [3,0,8,1,45,45,45] ?_
 refine g_op (zI rfl (fun w1 hw1=>check_any _ _ c w1 (by first|assumption|omega) (by first|assumption|omega)) rfl ?_)
 refine rn [3,0,1,2,51,0] ?_
 refine zC rfl (fun h1=>?_) (fun h1=>?_)
 ·refine rn [1] ?_
  refine s_q (yH (c:=V0.c) rfl rfl) rfl ?_
  refine s_q (yH (c:=V0.c) rfl rfl) rfl ?_
  refine rn [2,33,33,3,0,11,13] ?_
  exact fin3 rfl (.cellw rfl rfl) (.cellw rfl rfl) (.tmp rfl) (fun w' hw' => ⟨by have h0:¬checkV s d c=0:=(by simpa using h1);simp[apS,apD,if_neg h0,V.v],hw'.upd⟩) _ (.inl rfl)
 ·have h0:checkV s d c=0:=by simpa using h1
  have hcs:=check_st h0
  refine rn [12,7,1,4,5,4,5,54,4] ?_
  refine g_op (zJ rfl rfl rfl rfl rfl rfl rfl ?_)
  refine rn [0,1,4] ?_
  refine g_op (zJ rfl rfl rfl rfl rfl rfl rfl ?_)
  refine rn [0,1,4,5] ?_
  refine g_val 28 (v' := .int .i64 2) rfl (by rw[hcs.1]) ?_
  refine g_op (zI rfl (fun w1 hw1=>next26 w1) rfl ?_)
  refine rn [2,40,40,4] ?_
  refine g_op (zJ rfl rfl rfl rfl rfl rfl rfl ?_)
  refine rn [0,8] ?_
  refine dreg [0,1,2,3] mixed rfl ?_
  refine yG [0,1] (by kernel_rfl) (by simp) zB ⟨dpick rfl (G.quiet (xO rfl rfl) rfl ?_),dpick rfl (G.quiet (xO rfl rfl) rfl ?_),trivial⟩
  ·refine yG [1,2] (by kernel_rfl) (by simp) zB ⟨dpick rfl (G.quiet (xO rfl rfl) rfl ?_),dpick rfl (zQ rfl rfl rfl rfl rfl ?_),trivial⟩
   ·refine dtail 2 rfl (zQ rfl rfl rfl rfl rfl ?_)
    refine dtail 3 rfl (zQ rfl rfl rfl rfl rfl ?_)
    refine rn [24,4,3,28,7,11] ?_
    exact fin3 rfl (.cellw rfl rfl) (.cellw rfl rfl) (.tmp rfl) (fun w' hw' => ⟨by simp[apS,apD,if_pos h0,h0,V.v,V.c,splice],hw'.upd⟩) _ (.inl rfl)
   ·refine dtail 1 rfl (G.quiet (xO rfl rfl) rfl ?_)
    refine dtail 3 rfl (zQ rfl rfl rfl rfl rfl ?_)
    refine rn [24,4,3,28,7,11] ?_
    exact fin3 rfl (.cellw rfl rfl) (.cellw rfl rfl) (.tmp rfl) (fun w' hw' => ⟨by simp[apS,apD,if_pos h0,h0,V.v,V.c,splice],hw'.upd⟩) _ (.inl rfl)
  ·refine dtail 0 rfl (G.quiet (xO rfl rfl) rfl ?_)
   refine dtail 2 rfl (zQ rfl rfl rfl rfl rfl ?_)
   refine dtail 3 rfl (zQ rfl rfl rfl rfl rfl ?_)
   refine rn [24,4,3,28,7,11] ?_
   exact fin3 rfl (.cellw rfl rfl) (.cellw rfl rfl) (.tmp rfl) (fun w' hw' => ⟨by simp[apS,apD,if_pos h0,h0,V.v,V.c,splice],hw'.upd⟩) _ (.inl rfl)
def atV (l:List V) (i:Int):V:=(l[i.toNat]?).getD V0
theorem qY {l:List V} {k:Nat} {i:Int} (hi:i=(k:Int)) (h:k<l.length):atV l i=l[k]:=by
 subst hi;unfold atV;rw[Int.toNat_natCast,List.getElem?_eq_getElem h];rfl
def reqV (l:List V) (i j:Int) (c:C):Int:=if i<0∨(l.length:Int)≤i∨j<0∨(l.length:Int)≤j then 7 else if i=j then 12 else checkV (atV l i) (atV l j) c
def okV (l:List V):Prop:=∀x∈l,0≤x.bal∧x.bal≤18446744073709551615
theorem req_any (A:Option Addr) (n cap:Nat) (l:List V) (i j:Int) (c:C) (w:World) (hl:Old w A n 7 (l.map V.c)) (hok:okV l) (hb:n≤1000000):Pur Tryz.prog 117 [.slice A n cap,.int .i64 i,.int .i64 j,c.v] w (.int .i64 (reqV l i j c)):=by
 refine g_st Tryz.func117 39 (WOK.start [] _) ?_
 have hn:n=l.length:=by simpa using hl.len
 refine rn [1] ?_
 refine g_op (g_box rfl rfl rfl fun b7=>?_)
 refine rn [3,0,8,1,2,2,49,2,0,14] ?_
 refine g_lk [0,1,2,7,8,13] (fun(x:Nat)=>[(14,.int .i64 ((x:Nat):Int))]) (fun(x:Nat)=>[Res.blk b7 24 c.c]) (fun(x:Nat)=>x≤2∧(0<x→0≤i∧i<(l.length:Int))∧(1<x→0≤j∧j<(l.length:Int))) (fun(x:Nat)=>2-x) 0 (by(try dsimp only);exact⟨(by omega),(by omega),(by omega)⟩) ?_
 rintro k ⟨le_k,p0,p1⟩
 replace le_k:k≤2:=le_k
 replace p0:0<k→0≤i∧i<(l.length:Int):=p0
 replace p1:1<k→0≤j∧j<(l.length:Int):=p1
 refine rn [1,46,0,8] ?_
 refine zC rfl (fun hx1=>?_) (fun hx1=>?_)
 ·have lt_k:k<2:=by have h9:=of_decide_eq_true hx1;omega
  refine rn [12,7,8,14,8] ?_
  rcases(show k=0∨k=1 by omega) with rfl|rfl
  ·refine rn [10] ?_
   refine s_q (sY (i:=0) (v:=.int .i64 i) rfl rfl rfl (by decide) rfl) rfl ?_
   refine rn [3,0,1,2,46,2] ?_
   refine zU 19 rfl (fun hx2=>?_) (fun hx2=>?_)
   ·refine rn [21,21,21,21,41,0,19,1,3,0,11] ?_
    refine zM (zE (zE (zM (zE ?_))))
    exact fin1 rfl (.tmp rfl) (fun w' hw' => ⟨by first|(simp_all[reqV];done)|(simp_all[reqV];omega)|(unfold reqV;rw[if_pos (by simp_all;omega)])|(unfold reqV;rw[if_neg (by omega),if_pos (by simp_all;done)])|(unfold reqV;rw[if_neg (by omega),if_neg (by simp_all),ei,ej]),hw'.upd⟩) _ (.inl rfl)
   ·refine rn [22,2,22,2,22,47,22,53,42,0] ?_
    refine zC rfl (fun hx3=>?_) (fun hx3=>?_)
    ·refine rn [1,3,0,11] ?_
     refine zM (zE (zE (zM (zE ?_))))
     exact fin1 rfl (.tmp rfl) (fun w' hw' => ⟨by first|(simp_all[reqV];done)|(simp_all[reqV];omega)|(unfold reqV;rw[if_pos (by simp_all;omega)])|(unfold reqV;rw[if_neg (by omega),if_pos (by simp_all;done)])|(unfold reqV;rw[if_neg (by omega),if_neg (by simp_all),ei,ej]),hw'.upd⟩) _ (.inl rfl)
    ·refine rn [12,15,7,10,43,2,9] ?_
     exact g_ag (0+1) (by(try dsimp only);exact⟨(by omega),(by simp at hx2 hx3;omega),(by simp at hx2 hx3;omega)⟩)
  ·have q0:=p0 (by omega)
   refine rn [10] ?_
   refine s_q (sY (i:=1) (v:=.int .i64 j) rfl rfl rfl (by decide) rfl) rfl ?_
   refine rn [3,0,1,2,46,2] ?_
   refine zU 19 rfl (fun hx4=>?_) (fun hx4=>?_)
   ·refine rn [21,21,21,21,41,0,19,1,3,0,11] ?_
    refine zM (zE (zE (zM (zE ?_))))
    exact fin1 rfl (.tmp rfl) (fun w' hw' => ⟨by first|(simp_all[reqV];done)|(simp_all[reqV];omega)|(unfold reqV;rw[if_pos (by simp_all;omega)])|(unfold reqV;rw[if_neg (by omega),if_pos (by simp_all;done)])|(unfold reqV;rw[if_neg (by omega),if_neg (by simp_all),ei,ej]),hw'.upd⟩) _ (.inl rfl)
   ·refine rn [22,2,22,2,22,47,22,53,42,0] ?_
    refine zC rfl (fun hx5=>?_) (fun hx5=>?_)
    ·refine rn [1,3,0,11] ?_
     refine zM (zE (zE (zM (zE ?_))))
     exact fin1 rfl (.tmp rfl) (fun w' hw' => ⟨by first|(simp_all[reqV];done)|(simp_all[reqV];omega)|(unfold reqV;rw[if_pos (by simp_all;omega)])|(unfold reqV;rw[if_neg (by omega),if_pos (by simp_all;done)])|(unfold reqV;rw[if_neg (by omega),if_neg (by simp_all),ei,ej]),hw'.upd⟩) _ (.inl rfl)
    ·refine rn [12,15,7,10,43,2,9] ?_
     exact g_ag (1+1) (by(try dsimp only);exact⟨(by omega),(by simp at hx4 hx5;omega),(by simp at hx4 hx5;omega)⟩)
 ·obtain rfl:k=2:=by have h9:=of_decide_eq_false hx1;omega
  have q0:=p0 (by omega)
  have q1:=p1 (by omega)
  obtain⟨ni,hni⟩:∃k:Nat,i=k:=⟨i.toNat,by omega⟩
  obtain⟨nj,hnj⟩:∃k:Nat,j=k:=⟨j.toNat,by omega⟩
  have hi:ni<l.length:=by omega
  have hj:nj<l.length:=by omega
  have ei:=qY hni hi
  have ej:=qY hnj hj
  have bi:=hok _ (List.getElem_mem hi)
  have bj:=hok _ (List.getElem_mem hj)
  refine rn [16] ?_
  refine zD (zD (zN ?_))
  refine rn [7,8,1,2,2,44,0] ?_
  refine zC rfl (fun hx6=>?_) (fun hx6=>?_)
  ·refine rn [1,3,0,11,13] ?_
   exact fin1 rfl (.tmp rfl) (fun w' hw' => ⟨by first|(simp_all[reqV];done)|(simp_all[reqV];omega)|(unfold reqV;rw[if_pos (by simp_all;omega)])|(unfold reqV;rw[if_neg (by omega),if_pos (by simp_all;done)])|(unfold reqV;rw[if_neg (by omega),if_neg (by simp_all),ei,ej]),hw'.upd⟩) _ (.inl rfl)
  ·refine rn [12,7,8] ?_
   refine dreg [] mixed rfl ?_
   refine rn [23,0,2,23,1,2] ?_
   refine g_val 30 (v' := .int .i64 ((ni:Nat):Int)) rfl (by rw[hni]) ?_
   refine dq 2 rfl (zP (i:=ni) rfl rfl rfl (hl.rdb rfl) (by first|omega|(simp;done)|(simp;omega))) ?_
   refine dq 3 rfl (zS (i:=ni) rfl (hl.rdb rfl) (zR (by first|exact(by first|omega|(simp;done)|(simp;omega))|omega|(simp_all;done)|(simp_all;omega))) rfl) ?_
   refine rn [23,4,2,23,5,2] ?_
   refine g_val 34 (v' := .int .i64 ((nj:Nat):Int)) rfl (by rw[hnj]) ?_
   refine dq 6 rfl (zP (i:=nj) rfl rfl rfl (hl.rdb rfl) (by first|omega|(simp;done)|(simp;omega))) ?_
   refine dq 7 rfl (zS (i:=nj) rfl (hl.rdb rfl) (zR (by first|exact(by first|omega|(simp;done)|(simp;omega))|omega|(simp_all;done)|(simp_all;omega))) rfl) ?_
   refine rn [23,8,45] ?_
   refine dop 9 rfl (zI rfl (fun w1 hw1=>check_any _ _ c w1 bi bj) rfl ?_)
   refine rn [23,10,3,27,7,11] ?_
   exact fin1 rfl (.tmp rfl) (fun w' hw' => ⟨by first|(simp_all[reqV];done)|(simp_all[reqV];omega)|(unfold reqV;rw[if_pos (by simp_all;omega)])|(unfold reqV;rw[if_neg (by omega),if_pos (by simp_all;done)])|(unfold reqV;rw[if_neg (by omega),if_neg (by simp_all),ei,ej]),hw'.upd⟩) _ (.inl rfl)
theorem clone_v (A:Option Addr) (n cap:Nat) (l:List V) (w:World) (hrd:Rd w [] A n 7 (l.map V.c)) (hcap:n≤1000000):Own2 (ι:=(Option Addr × Nat)) Tryz.prog 91 [.slice A n cap] w [] (fun x=>True) (fun x=>.slice x.1 l.length x.2) (fun x=>[Res.row x.1 l.length x.2 52 7 (l.map V.c)]) (fun x=>[]):=by
 refine g_st Tryz.func91 8 (WOK.start (fps []) _) ?_
 have hn:n=l.length:=by have:=hrd.old.len;simpa using this
 refine rn [1,3,0,8,1,2] ?_
 refine s_q (q_eqsl rfl rfl) rfl ?_
 refine rn [0] ?_
 refine zC rfl (fun h1=>?_) (fun h1=>?_)
 ·refine rn [1,3,0,11,13] ?_
  have h0:A=none:=by simpa using h1
  have hl:l=[]:=by
    rcases Nat.eq_zero_or_pos n with h2|h2
    · exact List.eq_nil_of_length_eq_zero (by have:=hrd.old.len;simp at this;omega)
    · have:=(hrd.old.at_ h2).1;rw[h0] at this;simp at this
  subst hl
  refine zX none 52 7 (([]:List V).map V.c) rfl ?_
  exact fin1 rfl (.tmp rfl) (fun w' hw' => ⟨((none:Option Addr),(0:Nat)),(by exact trivial),rfl,by have h9:=zB (L' := [Res.row none 0 0 52 7 (([]:List V).map V.c)]) w' hw';exact h9⟩) _ (.inl rfl)
 ·refine rn [12,7,1] ?_
  refine g_op (g_lit rfl rfl rfl rfl rfl fun b5=>?_)
  refine g_norow (t:=5) (T:=52) (k:=7) rfl fun A5 cap5 hc5=>?_
  refine zH (A:=A5) (([]:List V).map V.c) rfl ?_
  refine rn [2] ?_
  refine g_op (zZ (A:=A5) (els:=(([]:List V)).map V.c) (news:=((l).map V.c)) rfl rfl hrd.rdb (yF (c:=V.c) (by intro x;simp[V.c,Value.oneCell']) _) (by first|omega|(simp;omega)|(simp_all;omega)) rfl fun A7 cap7=>⟨_,inferInstance,?_⟩)
  refine zH (A:=A7) ((l).map V.c) (by first|rfl|exact List.map_append.symm|(simp;done)) ?_
  refine yB (A:=A7) (n) (by simp) ?_
  refine g_val 7 (v' := .slice A7 (n) cap7) rfl (by simp) ?_
  refine rn [3,0,11] ?_
  exact fin1 rfl (.tmp rfl) (fun w' hw' => ⟨(A7,cap7),(by exact trivial),by rw[←hn],by rw[←hn];exact zA w' hw'⟩) _ (.inl rfl)
def atN (l:List V) (i:Nat):V:=(l[i]?).getD V0
theorem qZ {l:List V} {i:Nat} (h:i<l.length):atN l i=l[i]:=by unfold atN;rw[List.getElem?_eq_getElem h];rfl
def mvN (l:List V) (i j:Nat):List V:=(l.set i { atN l i with bal:=0,st:=7 }).set j { atN l j with bal:=IntKind.u64.wrap ((atN l j).bal+(atN l i).bal) }
theorem mvN_len (l:List V) (i j:Nat):(mvN l i j).length=l.length:=by simp[mvN]
def okReq (l:List V) (p:PP) (c:C):Bool:=decide (reqV l p.a p.b c=0)
def stepM16 (c:C) (s:List V × List Bool) (p:PP):List V × List Bool:=(if okReq s.1 p c then mvN s.1 p.a.toNat p.b.toNat else s.1,s.2++[okReq s.1 p c])
def runM (c:C) (l:List V) (q:List PP):List V × List Bool:=q.foldl (stepM16 c) (l,[])
theorem tT {c:C} {l:List V} {q:List PP} {k:Nat} (h:k<q.length):runM c l (q.take (k+1))=stepM16 c (runM c l (q.take k)) q[k]:=by
 unfold runM
 rw[←List.take_append_getElem h,List.foldl_append];rfl
theorem foldM_len (c:C):∀(q:List PP) (s:List V × List Bool),(q.foldl (stepM16 c) s).1.length=s.1.length∧(q.foldl (stepM16 c) s).2.length=s.2.length+q.length
 | [],_=>by simp
 | p :: q,s=>by
  rw[List.foldl_cons]
  obtain⟨h1,h2⟩:=foldM_len c q (stepM16 c s p)
  rw[h1,h2]
  refine⟨?_,by simp[stepM16];omega⟩
  unfold stepM16
  dsimp only
  split
  ·exact mvN_len _ _ _
  ·rfl
theorem yE (c:C) (l:List V) (q:List PP):(runM c l q).1.length=l.length∧(runM c l q).2.length=q.length:=by
 have:=foldM_len c q (l,[])
 simpa[runM] using this
theorem req_ok {l:List V} {i j:Int} {c:C} (h:reqV l i j c=0):0≤i∧i<(l.length:Int)∧0≤j∧j<(l.length:Int)∧i≠j∧checkV (atV l i) (atV l j) c=0:=by
 unfold reqV at h
 split at h
 ·omega
 ·split at h
  ·omega
  ·exact⟨by omega,by omega,by omega,by omega,by assumption,h⟩
theorem okV_mv {l:List V} (h:okV l) {i j:Nat}:okV (mvN l i j):=by
 intro x hx
 unfold mvN at hx
 rcases List.mem_or_eq_of_mem_set hx with hx|hx
 ·rcases List.mem_or_eq_of_mem_set hx with hx|hx
  ·exact h x hx
  ·subst hx;simp
 ·subst hx
  show 0≤IntKind.u64.wrap _∧IntKind.u64.wrap _≤_
  rw[IntKind.wrap_u64];omega
theorem okV_fold (c:C):∀(q:List PP) (s:List V × List Bool),okV s.1→okV (q.foldl (stepM16 c) s).1
 | [],_,h=>h
 | p :: q,s,h=>by
  rw[List.foldl_cons]
  refine okV_fold c q _ ?_
  unfold stepM16
  dsimp only
  split
  ·exact okV_mv h
  ·exact h
theorem okV_run {c:C} {l:List V} (q:List PP) (h:okV l):okV (runM c l q).1:=okV_fold c q (l,[]) h
theorem step_in {c:C} {s:List V} {p:PP} {ni nj:Nat} (ha:p.a=(ni:Int)) (hb:p.b=(nj:Int)) (hi:ni<s.length) (hj:nj<s.length) (h0:checkV s[ni] s[nj] c=0):(s.set ni (apS s[ni] s[nj] c)).set nj (apD s[ni] s[nj] c)=mvN s p.a.toNat p.b.toNat:=by
 rw[ha,hb]
 simp only[Int.toNat_natCast,mvN,qZ hi,qZ hj,apS,apD,h0,if_true]
theorem step16_any (A B:Option Addr) (n cap capq P:Nat) (l:List V) (q:List PP) (c:C) (w:World) (hl:Rd w [] A n 7 (l.map V.c)) (hq:Rd w [] B q.length 2 (q.map PP.c)) (hcq:q.length≤capq) (hb:n≤1000000) (hbq:q.length≤1000000) (hP:c.merg=((P:Nat):Int)) (hok:okV l):Own2 (ι:=(Option Addr × Nat × Option Addr × Nat)) Tryz.prog 154 [.slice A n cap,.slice B q.length capq,c.v] w [] (fun x=>True) (fun x=>.tuple [.slice x.1 l.length x.2.1,.slice x.2.2.1 (runM c l (q.take (min q.length P))).2.length x.2.2.2].toArray) (fun x=>[Res.row x.1 l.length x.2.1 52 7 ((runM c l (q.take (min q.length P))).1.map V.c),Res.row x.2.2.1 (runM c l (q.take (min q.length P))).2.length x.2.2.2 4 1 ((runM c l (q.take (min q.length P))).2.map (fun v:Bool=>[Value.bool v]))]) (fun x=>[]):=by
 refine g_st Tryz.func154 67 (WOK.start (fps []) _) ?_
 have hn:n=l.length:=by have:=hl.old.len;simpa using this
 refine rn [1] ?_
 refine g_op (g_box rfl rfl rfl fun b5=>?_)
 refine rn [3,3,0,1,2] ?_
 refine g_op (zG [] rfl (fun w1 hw1 ho1=>by have h7:=clone_v A (n) (cap) (l) w1 (Rd.ofRd hw1 hl (by omega)) (by first|omega|(simp;omega));exact h7) rfl ?_)
 rintro⟨A14,cap14⟩ _
 refine ii ?_
 refine rn [3,0,1,3] ?_
 refine xL 9 4 1 rfl fun Az1 capz1 hcz1=>?_
 refine zH (A:=Az1) (([]:List Bool).map (fun v:Bool=>[Value.bool v])) rfl ?_
 refine rn [0,8,1,2,2,47,4,5,58] ?_
 refine g_val 20 (v' := .int .i64 (((min q.length P):Nat):Int)) rfl (by rw[hP];congr 1;omega) ?_
 refine s_q (yW (h:=(min q.length P)) rfl rfl rfl (by omega)) rfl ?_
 refine rn [47,2,0,14] ?_
 refine zH (A:=A14) ((runM c l (q.take 0)).1.map V.c) (by simp[runM]) ?_
 refine zH (A:=Az1) ((runM c l (q.take 0)).2.map (fun v:Bool=>[Value.bool v])) (by simp[runM]) ?_
 refine yB (A:=Az1) (runM c l (q.take 0)).2.length (by simp[runM]) ?_
 refine g_val 9 (v' := .slice Az1 (runM c l (q.take 0)).2.length capz1) rfl (by simp[runM]) ?_
 refine g_lk [5,6,7,8,21,22] (fun(x:Nat × Option Addr × Nat)=>[(9,.slice x.2.1 (runM c l (q.take x.1)).2.length x.2.2),(23,.int .i64 ((x.1:Nat):Int))]) (fun(x:Nat × Option Addr × Nat)=>[Res.blk b5 24 c.c,Res.row A14 (l).length cap14 52 7 ((runM c l (q.take x.1)).1.map V.c),Res.row x.2.1 (runM c l (q.take x.1)).2.length x.2.2 4 1 ((runM c l (q.take x.1)).2.map (fun v:Bool=>[Value.bool v]))]) (fun(x:Nat × Option Addr × Nat)=>x.1≤(min q.length P)) (fun(x:Nat × Option Addr × Nat)=>(min q.length P)-x.1) (0,Az1,capz1) (by(try dsimp only);exact Nat.zero_le _) ?_
 rintro⟨k,B1,capb⟩ le_k
 replace le_k:k≤(min q.length P):=le_k
 refine zV (L' := [Res.blk b5 24 c.c,Res.row A14 (l).length cap14 52 7 ((runM c l (q.take k)).1.map V.c),Res.row B1 (runM c l (q.take k)).2.length capb 4 1 ((runM c l (q.take k)).2.map (fun v:Bool=>[Value.bool v]))]) rfl ?_
 refine g_val 9 (v' := .slice B1 (runM c l (q.take k)).2.length capb) rfl rfl ?_
 refine g_val 23 (v' := .int .i64 ((k:Nat):Int)) rfl rfl ?_
 have hr4:=(yE c l (q.take k)).1
 have hr5:=(yE c l (q.take k)).2
 have hr6:(q.take k).length≤k:=List.length_take_le _ _
 have hokk:=okV_run (c:=c) (q.take k) hok
 refine rn [1,46,0,8] ?_
 refine zC rfl (fun h1=>?_) (fun h1=>?_)
 ·have lt_k:k<(min q.length P):=by have h9:=of_decide_eq_true h1;omega
  have lt_q:k<q.length:=by omega
  refine rn [12,7,8,14,1] ?_
  refine s_q (zP (i:=k) rfl rfl rfl (hq.rdb.h (cap:=capq) (by omega) hcq) (by first|exact lt_k|omega)) rfl ?_
  refine s_q (zS (i:=k) rfl (hq.rdb.h (cap:=capq) (by omega) hcq) (vT (l:=q) (m:=(min q.length P)) (by first|exact(by first|exact lt_k|omega)|omega) (by omega)) rfl) rfl ?_
  refine g_op (zK rfl fun b11=>?_)
  refine rn [33,0,1,2] ?_
  refine s_q (yS (i:=0) rfl rfl rfl (by decide)) rfl ?_
  refine rn [5] ?_
  refine s_q (yS (i:=1) rfl rfl rfl (by decide)) rfl ?_
  refine rn [5,45] ?_
  refine g_op (zI rfl (fun w1 hw1=>req_any A14 (l.length) (cap14) ((runM c l (q.take k)).1) (_) (_) _ w1 (Rdb.toOld (InRow.rdb (A:=A14) (els:=((runM c l (q.take k)).1).map V.c) (by simp[yE]) (zW (c:=V.c) (fun _=>rfl) _)) hw1) hokk (by first|omega|(simp;omega))) rfl ?_)
  refine rn [44,3,0,8,1,2,0] ?_
  refine zC rfl (fun h2=>?_) (fun h2=>?_)
  ·have hreq:=of_decide_eq_true h2
   obtain⟨g1,g2,g3,g4,g5,g6⟩:=req_ok hreq
   obtain⟨ni,hni⟩:∃t:Nat,(q[k]).a=t:=⟨(q[k]).a.toNat,by omega⟩
   obtain⟨nj,hnj⟩:∃t:Nat,(q[k]).b=t:=⟨(q[k]).b.toNat,by omega⟩
   have hi:ni<(runM c l (q.take k)).1.length:=by omega
   have hj:nj<(runM c l (q.take k)).1.length:=by omega
   have hi2:ni<l.length:=by omega
   have hj2:nj<l.length:=by omega
   rw[qY hni hi,qY hnj hj] at g6
   have bi:=hokk _ (List.getElem_mem hi)
   have bj:=hokk _ (List.getElem_mem hj)
   refine dregL (L0:=[Res.blk b11 106 (PP.c (q[k])),Res.blk b5 24 c.c]) [] mixed rfl zB ?_
   refine rn [23,0,2] ?_
   refine dq 1 rfl (yS (i:=0) rfl rfl rfl (by decide)) ?_
   refine rn [23,2,5] ?_
   refine g_val 39 (v' := .int .i64 ((ni:Nat):Int)) rfl (by rw[hni]) ?_
   refine rn [23,3,2] ?_
   refine dq 4 rfl (yS (i:=1) rfl rfl rfl (by decide)) ?_
   refine rn [23,5,5] ?_
   refine g_val 42 (v' := .int .i64 ((nj:Nat):Int)) rfl (by rw[hnj]) ?_
   refine rn [23,6,2] ?_
   refine dq 7 rfl (yS (i:=0) rfl rfl rfl (by decide)) ?_
   refine rn [23,8,5] ?_
   refine g_val 45 (v' := .int .i64 ((ni:Nat):Int)) rfl (by rw[hni]) ?_
   refine rn [23,11,2] ?_
   refine dq 12 rfl (yS (i:=1) rfl rfl rfl (by decide)) ?_
   refine rn [23,13,5] ?_
   refine g_val 50 (v' := .int .i64 ((nj:Nat):Int)) rfl (by rw[hnj]) ?_
   refine rn [23,16,45] ?_
   refine dj [5,6,7,8,9,12,21,22,23] (fun(x:Unit)=>[]) (fun(x:Unit)=>[Res.blk b5 24 c.c,Res.row A14 (l).length cap14 52 7 ((((runM c l (q.take k)).1.set ni (apS ((runM c l (q.take k)).1[ni]) ((runM c l (q.take k)).1[nj]) c)).set nj (apD ((runM c l (q.take k)).1[ni]) ((runM c l (q.take k)).1[nj]) c)).map V.c),Res.row B1 (runM c l (q.take k)).2.length capb 4 1 ((runM c l (q.take k)).2.map (fun v:Bool=>[Value.bool v]))]) ?_ ?_
   ·refine yG [9,14] (by kernel_rfl) (by simp) zB ⟨dpick rfl (G.quiet (zP (i:=ni) rfl rfl rfl (InRow.rdb (A:=A14) (els:=((runM c l (q.take k)).1).map V.c) (by simp[yE]) (zW (c:=V.c) (fun _=>rfl) _)) (by first|omega|(simp;done)|(simp;omega))) rfl ?_),dpick rfl (G.quiet (zP (i:=nj) rfl rfl rfl (InRow.rdb (A:=A14) (els:=((runM c l (q.take k)).1).map V.c) (by simp[yE]) (zW (c:=V.c) (fun _=>rfl) _)) (by first|omega|(simp;done)|(simp;omega))) rfl ?_),trivial⟩
    ·refine yG [10,14] (by kernel_rfl) (by simp) zB ⟨dpick rfl (G.quiet (zS (i:=ni) rfl (InRow.rdb (A:=A14) (els:=((runM c l (q.take k)).1).map V.c) (by simp[yE]) (zW (c:=V.c) (fun _=>rfl) _)) (zR (by first|assumption|omega|(simp_all;done)|(simp_all;omega))) rfl) rfl ?_),dpick rfl (G.quiet (zP (i:=nj) rfl rfl rfl (InRow.rdb (A:=A14) (els:=((runM c l (q.take k)).1).map V.c) (by simp[yE]) (zW (c:=V.c) (fun _=>rfl) _)) (by first|omega|(simp;done)|(simp;omega))) rfl ?_),trivial⟩
     ·refine dop 14 rfl (G.quiet (zP (i:=nj) rfl rfl rfl (InRow.rdb (A:=A14) (els:=((runM c l (q.take k)).1).map V.c) (by simp[yE]) (zW (c:=V.c) (fun _=>rfl) _)) (by first|omega|(simp;done)|(simp;omega))) rfl ?_)
      refine dop 15 rfl (G.quiet (zS (i:=nj) rfl (InRow.rdb (A:=A14) (els:=((runM c l (q.take k)).1).map V.c) (by simp[yE]) (zW (c:=V.c) (fun _=>rfl) _)) (zR (by first|assumption|omega|(simp_all;done)|(simp_all;omega))) rfl) rfl ?_)
      refine dop 17 rfl (zI rfl (fun w1 hw1=>wC _ _ c w1 bi bj) rfl ?_)
      refine rn [23,18,2,23,19,40,23,20,40,23,21,40] ?_
      refine dop 22 rfl (G.quiet (zP (i:=ni) rfl rfl rfl (InRow.rdb (A:=A14) (els:=((runM c l (q.take k)).1).map V.c) (by simp[yE]) (zW (c:=V.c) (fun _=>rfl) _)) (by first|omega|(simp;done)|(simp;omega))) rfl ?_)
      refine dop 23 rfl (yA (A:=A14) (i:=ni) (o:=0) (cs' := V.c ((apS ((runM c l (q.take k)).1[ni]) ((runM c l (q.take k)).1[nj]) c))) rfl rfl rfl rfl rfl (zR (by first|assumption|omega|(simp_all;done)|(simp_all;omega))) (by first|(simp;done)|exact Nat.le_refl _) rfl (yD rfl) ?_)
      refine zH (A:=A14) (((runM c l (q.take k)).1.set ni (apS ((runM c l (q.take k)).1[ni]) ((runM c l (q.take k)).1[nj]) c)).map V.c) (by simp only[List.map_set]) ?_
      refine dop 24 rfl (G.quiet (zP (i:=nj) rfl rfl rfl (ird (A:=A14)) (by first|omega|(simp;done)|(simp;omega))) rfl ?_)
      refine dop 25 rfl (yA (A:=A14) (i:=nj) (o:=0) (cs' := V.c ((apD ((runM c l (q.take k)).1[ni]) ((runM c l (q.take k)).1[nj]) c))) rfl rfl rfl rfl rfl (zR (by first|assumption|omega|(simp_all;done)|(simp_all;omega))) (by first|(simp;done)|exact Nat.le_refl _) rfl (yD rfl) ?_)
      refine zH (A:=A14) ((((runM c l (q.take k)).1.set ni (apS ((runM c l (q.take k)).1[ni]) ((runM c l (q.take k)).1[nj]) c)).set nj (apD ((runM c l (q.take k)).1[ni]) ((runM c l (q.take k)).1[nj]) c)).map V.c) (by simp only[List.map_set]) ?_
      refine rn [27] ?_
      exact g_jn ()
     ·refine yG [10,15] (by kernel_rfl) (by simp) zB ⟨dpick rfl (G.quiet (zS (i:=ni) rfl (InRow.rdb (A:=A14) (els:=((runM c l (q.take k)).1).map V.c) (by simp[yE]) (zW (c:=V.c) (fun _=>rfl) _)) (zR (by first|assumption|omega|(simp_all;done)|(simp_all;omega))) rfl) rfl ?_),dpick rfl (G.quiet (zS (i:=nj) rfl (InRow.rdb (A:=A14) (els:=((runM c l (q.take k)).1).map V.c) (by simp[yE]) (zW (c:=V.c) (fun _=>rfl) _)) (zR (by first|assumption|omega|(simp_all;done)|(simp_all;omega))) rfl) rfl ?_),trivial⟩
      ·refine dop 15 rfl (G.quiet (zS (i:=nj) rfl (InRow.rdb (A:=A14) (els:=((runM c l (q.take k)).1).map V.c) (by simp[yE]) (zW (c:=V.c) (fun _=>rfl) _)) (zR (by first|assumption|omega|(simp_all;done)|(simp_all;omega))) rfl) rfl ?_)
       refine dop 17 rfl (zI rfl (fun w1 hw1=>wC _ _ c w1 bi bj) rfl ?_)
       refine rn [23,18,2,23,19,40,23,20,40,23,21,40] ?_
       refine dop 22 rfl (G.quiet (zP (i:=ni) rfl rfl rfl (InRow.rdb (A:=A14) (els:=((runM c l (q.take k)).1).map V.c) (by simp[yE]) (zW (c:=V.c) (fun _=>rfl) _)) (by first|omega|(simp;done)|(simp;omega))) rfl ?_)
       refine dop 23 rfl (yA (A:=A14) (i:=ni) (o:=0) (cs' := V.c ((apS ((runM c l (q.take k)).1[ni]) ((runM c l (q.take k)).1[nj]) c))) rfl rfl rfl rfl rfl (zR (by first|assumption|omega|(simp_all;done)|(simp_all;omega))) (by first|(simp;done)|exact Nat.le_refl _) rfl (yD rfl) ?_)
       refine zH (A:=A14) (((runM c l (q.take k)).1.set ni (apS ((runM c l (q.take k)).1[ni]) ((runM c l (q.take k)).1[nj]) c)).map V.c) (by simp only[List.map_set]) ?_
       refine dop 24 rfl (G.quiet (zP (i:=nj) rfl rfl rfl (ird (A:=A14)) (by first|omega|(simp;done)|(simp;omega))) rfl ?_)
       refine dop 25 rfl (yA (A:=A14) (i:=nj) (o:=0) (cs' := V.c ((apD ((runM c l (q.take k)).1[ni]) ((runM c l (q.take k)).1[nj]) c))) rfl rfl rfl rfl rfl (zR (by first|assumption|omega|(simp_all;done)|(simp_all;omega))) (by first|(simp;done)|exact Nat.le_refl _) rfl (yD rfl) ?_)
       refine zH (A:=A14) ((((runM c l (q.take k)).1.set ni (apS ((runM c l (q.take k)).1[ni]) ((runM c l (q.take k)).1[nj]) c)).set nj (apD ((runM c l (q.take k)).1[ni]) ((runM c l (q.take k)).1[nj]) c)).map V.c) (by simp only[List.map_set]) ?_
       refine rn [27] ?_
       exact g_jn ()
      ·refine dop 10 rfl (G.quiet (zS (i:=ni) rfl (InRow.rdb (A:=A14) (els:=((runM c l (q.take k)).1).map V.c) (by simp[yE]) (zW (c:=V.c) (fun _=>rfl) _)) (zR (by first|assumption|omega|(simp_all;done)|(simp_all;omega))) rfl) rfl ?_)
       refine dop 17 rfl (zI rfl (fun w1 hw1=>wC _ _ c w1 bi bj) rfl ?_)
       refine rn [23,18,2,23,19,40,23,20,40,23,21,40] ?_
       refine dop 22 rfl (G.quiet (zP (i:=ni) rfl rfl rfl (InRow.rdb (A:=A14) (els:=((runM c l (q.take k)).1).map V.c) (by simp[yE]) (zW (c:=V.c) (fun _=>rfl) _)) (by first|omega|(simp;done)|(simp;omega))) rfl ?_)
       refine dop 23 rfl (yA (A:=A14) (i:=ni) (o:=0) (cs' := V.c ((apS ((runM c l (q.take k)).1[ni]) ((runM c l (q.take k)).1[nj]) c))) rfl rfl rfl rfl rfl (zR (by first|assumption|omega|(simp_all;done)|(simp_all;omega))) (by first|(simp;done)|exact Nat.le_refl _) rfl (yD rfl) ?_)
       refine zH (A:=A14) (((runM c l (q.take k)).1.set ni (apS ((runM c l (q.take k)).1[ni]) ((runM c l (q.take k)).1[nj]) c)).map V.c) (by simp only[List.map_set]) ?_
       refine dop 24 rfl (G.quiet (zP (i:=nj) rfl rfl rfl (ird (A:=A14)) (by first|omega|(simp;done)|(simp;omega))) rfl ?_)
       refine dop 25 rfl (yA (A:=A14) (i:=nj) (o:=0) (cs' := V.c ((apD ((runM c l (q.take k)).1[ni]) ((runM c l (q.take k)).1[nj]) c))) rfl rfl rfl rfl rfl (zR (by first|assumption|omega|(simp_all;done)|(simp_all;omega))) (by first|(simp;done)|exact Nat.le_refl _) rfl (yD rfl) ?_)
       refine zH (A:=A14) ((((runM c l (q.take k)).1.set ni (apS ((runM c l (q.take k)).1[ni]) ((runM c l (q.take k)).1[nj]) c)).set nj (apD ((runM c l (q.take k)).1[ni]) ((runM c l (q.take k)).1[nj]) c)).map V.c) (by simp only[List.map_set]) ?_
       refine rn [27] ?_
       exact g_jn ()
    ·refine yG [9,15] (by kernel_rfl) (by simp) zB ⟨dpick rfl (G.quiet (zP (i:=ni) rfl rfl rfl (InRow.rdb (A:=A14) (els:=((runM c l (q.take k)).1).map V.c) (by simp[yE]) (zW (c:=V.c) (fun _=>rfl) _)) (by first|omega|(simp;done)|(simp;omega))) rfl ?_),dpick rfl (G.quiet (zS (i:=nj) rfl (InRow.rdb (A:=A14) (els:=((runM c l (q.take k)).1).map V.c) (by simp[yE]) (zW (c:=V.c) (fun _=>rfl) _)) (zR (by first|assumption|omega|(simp_all;done)|(simp_all;omega))) rfl) rfl ?_),trivial⟩
     ·refine yG [10,15] (by kernel_rfl) (by simp) zB ⟨dpick rfl (G.quiet (zS (i:=ni) rfl (InRow.rdb (A:=A14) (els:=((runM c l (q.take k)).1).map V.c) (by simp[yE]) (zW (c:=V.c) (fun _=>rfl) _)) (zR (by first|assumption|omega|(simp_all;done)|(simp_all;omega))) rfl) rfl ?_),dpick rfl (G.quiet (zS (i:=nj) rfl (InRow.rdb (A:=A14) (els:=((runM c l (q.take k)).1).map V.c) (by simp[yE]) (zW (c:=V.c) (fun _=>rfl) _)) (zR (by first|assumption|omega|(simp_all;done)|(simp_all;omega))) rfl) rfl ?_),trivial⟩
      ·refine dop 15 rfl (G.quiet (zS (i:=nj) rfl (InRow.rdb (A:=A14) (els:=((runM c l (q.take k)).1).map V.c) (by simp[yE]) (zW (c:=V.c) (fun _=>rfl) _)) (zR (by first|assumption|omega|(simp_all;done)|(simp_all;omega))) rfl) rfl ?_)
       refine dop 17 rfl (zI rfl (fun w1 hw1=>wC _ _ c w1 bi bj) rfl ?_)
       refine rn [23,18,2,23,19,40,23,20,40,23,21,40] ?_
       refine dop 22 rfl (G.quiet (zP (i:=ni) rfl rfl rfl (InRow.rdb (A:=A14) (els:=((runM c l (q.take k)).1).map V.c) (by simp[yE]) (zW (c:=V.c) (fun _=>rfl) _)) (by first|omega|(simp;done)|(simp;omega))) rfl ?_)
       refine dop 23 rfl (yA (A:=A14) (i:=ni) (o:=0) (cs' := V.c ((apS ((runM c l (q.take k)).1[ni]) ((runM c l (q.take k)).1[nj]) c))) rfl rfl rfl rfl rfl (zR (by first|assumption|omega|(simp_all;done)|(simp_all;omega))) (by first|(simp;done)|exact Nat.le_refl _) rfl (yD rfl) ?_)
       refine zH (A:=A14) (((runM c l (q.take k)).1.set ni (apS ((runM c l (q.take k)).1[ni]) ((runM c l (q.take k)).1[nj]) c)).map V.c) (by simp only[List.map_set]) ?_
       refine dop 24 rfl (G.quiet (zP (i:=nj) rfl rfl rfl (ird (A:=A14)) (by first|omega|(simp;done)|(simp;omega))) rfl ?_)
       refine dop 25 rfl (yA (A:=A14) (i:=nj) (o:=0) (cs' := V.c ((apD ((runM c l (q.take k)).1[ni]) ((runM c l (q.take k)).1[nj]) c))) rfl rfl rfl rfl rfl (zR (by first|assumption|omega|(simp_all;done)|(simp_all;omega))) (by first|(simp;done)|exact Nat.le_refl _) rfl (yD rfl) ?_)
       refine zH (A:=A14) ((((runM c l (q.take k)).1.set ni (apS ((runM c l (q.take k)).1[ni]) ((runM c l (q.take k)).1[nj]) c)).set nj (apD ((runM c l (q.take k)).1[ni]) ((runM c l (q.take k)).1[nj]) c)).map V.c) (by simp only[List.map_set]) ?_
       refine rn [27] ?_
       exact g_jn ()
      ·refine dop 10 rfl (G.quiet (zS (i:=ni) rfl (InRow.rdb (A:=A14) (els:=((runM c l (q.take k)).1).map V.c) (by simp[yE]) (zW (c:=V.c) (fun _=>rfl) _)) (zR (by first|assumption|omega|(simp_all;done)|(simp_all;omega))) rfl) rfl ?_)
       refine dop 17 rfl (zI rfl (fun w1 hw1=>wC _ _ c w1 bi bj) rfl ?_)
       refine rn [23,18,2,23,19,40,23,20,40,23,21,40] ?_
       refine dop 22 rfl (G.quiet (zP (i:=ni) rfl rfl rfl (InRow.rdb (A:=A14) (els:=((runM c l (q.take k)).1).map V.c) (by simp[yE]) (zW (c:=V.c) (fun _=>rfl) _)) (by first|omega|(simp;done)|(simp;omega))) rfl ?_)
       refine dop 23 rfl (yA (A:=A14) (i:=ni) (o:=0) (cs' := V.c ((apS ((runM c l (q.take k)).1[ni]) ((runM c l (q.take k)).1[nj]) c))) rfl rfl rfl rfl rfl (zR (by first|assumption|omega|(simp_all;done)|(simp_all;omega))) (by first|(simp;done)|exact Nat.le_refl _) rfl (yD rfl) ?_)
       refine zH (A:=A14) (((runM c l (q.take k)).1.set ni (apS ((runM c l (q.take k)).1[ni]) ((runM c l (q.take k)).1[nj]) c)).map V.c) (by simp only[List.map_set]) ?_
       refine dop 24 rfl (G.quiet (zP (i:=nj) rfl rfl rfl (ird (A:=A14)) (by first|omega|(simp;done)|(simp;omega))) rfl ?_)
       refine dop 25 rfl (yA (A:=A14) (i:=nj) (o:=0) (cs' := V.c ((apD ((runM c l (q.take k)).1[ni]) ((runM c l (q.take k)).1[nj]) c))) rfl rfl rfl rfl rfl (zR (by first|assumption|omega|(simp_all;done)|(simp_all;omega))) (by first|(simp;done)|exact Nat.le_refl _) rfl (yD rfl) ?_)
       refine zH (A:=A14) ((((runM c l (q.take k)).1.set ni (apS ((runM c l (q.take k)).1[ni]) ((runM c l (q.take k)).1[nj]) c)).set nj (apD ((runM c l (q.take k)).1[ni]) ((runM c l (q.take k)).1[nj]) c)).map V.c) (by simp only[List.map_set]) ?_
       refine rn [27] ?_
       exact g_jn ()
     ·refine dop 9 rfl (G.quiet (zP (i:=ni) rfl rfl rfl (InRow.rdb (A:=A14) (els:=((runM c l (q.take k)).1).map V.c) (by simp[yE]) (zW (c:=V.c) (fun _=>rfl) _)) (by first|omega|(simp;done)|(simp;omega))) rfl ?_)
      refine dop 10 rfl (G.quiet (zS (i:=ni) rfl (InRow.rdb (A:=A14) (els:=((runM c l (q.take k)).1).map V.c) (by simp[yE]) (zW (c:=V.c) (fun _=>rfl) _)) (zR (by first|assumption|omega|(simp_all;done)|(simp_all;omega))) rfl) rfl ?_)
      refine dop 17 rfl (zI rfl (fun w1 hw1=>wC _ _ c w1 bi bj) rfl ?_)
      refine rn [23,18,2,23,19,40,23,20,40,23,21,40] ?_
      refine dop 22 rfl (G.quiet (zP (i:=ni) rfl rfl rfl (InRow.rdb (A:=A14) (els:=((runM c l (q.take k)).1).map V.c) (by simp[yE]) (zW (c:=V.c) (fun _=>rfl) _)) (by first|omega|(simp;done)|(simp;omega))) rfl ?_)
      refine dop 23 rfl (yA (A:=A14) (i:=ni) (o:=0) (cs' := V.c ((apS ((runM c l (q.take k)).1[ni]) ((runM c l (q.take k)).1[nj]) c))) rfl rfl rfl rfl rfl (zR (by first|assumption|omega|(simp_all;done)|(simp_all;omega))) (by first|(simp;done)|exact Nat.le_refl _) rfl (yD rfl) ?_)
      refine zH (A:=A14) (((runM c l (q.take k)).1.set ni (apS ((runM c l (q.take k)).1[ni]) ((runM c l (q.take k)).1[nj]) c)).map V.c) (by simp only[List.map_set]) ?_
      refine dop 24 rfl (G.quiet (zP (i:=nj) rfl rfl rfl (ird (A:=A14)) (by first|omega|(simp;done)|(simp;omega))) rfl ?_)
      refine dop 25 rfl (yA (A:=A14) (i:=nj) (o:=0) (cs' := V.c ((apD ((runM c l (q.take k)).1[ni]) ((runM c l (q.take k)).1[nj]) c))) rfl rfl rfl rfl rfl (zR (by first|assumption|omega|(simp_all;done)|(simp_all;omega))) (by first|(simp;done)|exact Nat.le_refl _) rfl (yD rfl) ?_)
      refine zH (A:=A14) ((((runM c l (q.take k)).1.set ni (apS ((runM c l (q.take k)).1[ni]) ((runM c l (q.take k)).1[nj]) c)).set nj (apD ((runM c l (q.take k)).1[ni]) ((runM c l (q.take k)).1[nj]) c)).map V.c) (by simp only[List.map_set]) ?_
      refine rn [27] ?_
      exact g_jn ()
   ·rintro _
    refine rn [7,10,2,2] ?_
    refine g_op (g_lit rfl rfl rfl rfl rfl fun b62=>?_)
    refine zF (b:=b62) ((([(decide (reqV (runM c l (q.take k)).1 (q[k]).a (q[k]).b c=0))]:List Bool).map (fun v:Bool=>[Value.bool v])).flatten) rfl ?_
    refine g_op (zZ (A:=B1) (els:=((runM c l (q.take k)).2).map (fun v:Bool=>[Value.bool v])) (news:=(([(decide (reqV (runM c l (q.take k)).1 (q[k]).a (q[k]).b c=0))]:List Bool).map (fun v:Bool=>[Value.bool v]))) rfl rfl (InL.rdb (b:=b62) rfl (by simp) rfl) (yF (c:=(fun v:Bool=>[Value.bool v])) (by intro x;simp[Value.oneCell']) _) (by first|omega|(simp;omega)|(simp_all;omega)) rfl fun A63 cap63=>⟨_,inferInstance,?_⟩)
    refine zH (A:=A63) ((((runM c l (q.take k)).2++[(decide (reqV (runM c l (q.take k)).1 (q[k]).a (q[k]).b c=0))])).map (fun v:Bool=>[Value.bool v])) (by first|rfl|exact List.map_append.symm|(simp;done)) ?_
    refine rn [3,9,15,7,10,43,2,9] ?_
    have e2:(runM c l (q.take k)).2++[decide (reqV (runM c l (q.take k)).1 (q[k]).a (q[k]).b c=0)]=(runM c l (q.take (k+1))).2:=by rw[tT lt_q];rfl
    have e3:(runM c l (q.take k)).2.length+1=(runM c l (q.take (k+1))).2.length:=by rw[←e2];simp
    have e1:((runM c l (q.take k)).1.set ni (apS (runM c l (q.take k)).1[ni] (runM c l (q.take k)).1[nj] c)).set nj (apD (runM c l (q.take k)).1[ni] (runM c l (q.take k)).1[nj] c)=(runM c l (q.take (k+1))).1:=by rw[tT lt_q,step_in hni hnj hi hj g6];unfold stepM16;dsimp only;rw[if_pos (show okReq (runM c l (q.take k)).1 (q[k]) c=true from h2)]
    rw[e3,e2,e1]
    exact g_ag ((k+1),A63,cap63) (by(try dsimp only);exact(by first|exact lt_k|omega))
  ·refine rn [12,7,10,2,2] ?_
   refine g_op (g_lit rfl rfl rfl rfl rfl fun b62=>?_)
   refine zF (b:=b62) ((([(decide (reqV (runM c l (q.take k)).1 (q[k]).a (q[k]).b c=0))]:List Bool).map (fun v:Bool=>[Value.bool v])).flatten) rfl ?_
   refine g_op (zZ (A:=B1) (els:=((runM c l (q.take k)).2).map (fun v:Bool=>[Value.bool v])) (news:=(([(decide (reqV (runM c l (q.take k)).1 (q[k]).a (q[k]).b c=0))]:List Bool).map (fun v:Bool=>[Value.bool v]))) rfl rfl (InL.rdb (b:=b62) rfl (by simp) rfl) (yF (c:=(fun v:Bool=>[Value.bool v])) (by intro x;simp[Value.oneCell']) _) (by first|omega|(simp;omega)|(simp_all;omega)) rfl fun A63 cap63=>⟨_,inferInstance,?_⟩)
   refine zH (A:=A63) ((((runM c l (q.take k)).2++[(decide (reqV (runM c l (q.take k)).1 (q[k]).a (q[k]).b c=0))])).map (fun v:Bool=>[Value.bool v])) (by first|rfl|exact List.map_append.symm|(simp;done)) ?_
   refine rn [3,9,15,7,10,43,2,9] ?_
   have e2:(runM c l (q.take k)).2++[decide (reqV (runM c l (q.take k)).1 (q[k]).a (q[k]).b c=0)]=(runM c l (q.take (k+1))).2:=by rw[tT lt_q];rfl
   have e3:(runM c l (q.take k)).2.length+1=(runM c l (q.take (k+1))).2.length:=by rw[←e2];simp
   have e1:(runM c l (q.take k)).1=(runM c l (q.take (k+1))).1:=by rw[tT lt_q];unfold stepM16;dsimp only;rw[if_neg (by rw[show okReq (runM c l (q.take k)).1 (q[k]) c=false from h2];simp)]
   rw[e3,e2,e1]
   exact g_ag ((k+1),A63,cap63) (by(try dsimp only);exact(by first|exact lt_k|omega))
 ·have eq_k:k=(min q.length P):=by have h9:=of_decide_eq_false h1;omega
  refine rn [16] ?_
  refine zD (zD (zN ?_))
  refine rn [7,1,2,2,3,3,0,11] ?_
  exact fin2 rfl (.tmp rfl) (.tmp rfl) (fun w' hw' => ⟨(A14,cap14,B1,capb),(by exact trivial),by rw[←eq_k],by rw[←eq_k];exact zA w' hw'⟩) _ (.inl rfl)
end Go.Proofs.YtdddiilocbbkkaaGreat
