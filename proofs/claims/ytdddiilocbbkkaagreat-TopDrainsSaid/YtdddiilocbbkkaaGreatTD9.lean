/- TopDrains: for every configuration and all operations the law returns true. No condition. Part 9 of 28. -/
import Derived.Test.YtdddiilocbbkkaaGreatTD7
import Derived.Test.YtdddiilocbbkkaaGreatTD8
set_option linter.unusedVariables false
set_option linter.unusedSimpArgs false
namespace Go.Proofs.YtdddiilocbbkkaaGreat
open Go.RowKit Go.Eg
set_option maxHeartbeats 4000000
set_option synthInstance.maxSize 3000
set_option maxRecDepth 100000
theorem balances_any (A:Option Addr) (n cap:Nat) (l:List V) (w:World) (hl:Rd w [] A n 7 (l.map V.c)) (hb:n≤1000000):Own2 (ι:=(Option Addr × Nat)) Tryz.prog 82 [.slice A n cap] w [] (fun x=>True) (fun x=>.slice x.1 l.length x.2) (fun x=>[Res.row x.1 l.length x.2 22 1 ((l.map V.bal).map (fun v:Int=>[Value.int .u64 v]))]) (fun x=>[]):=by
 refine g_st Tryz.func82 20 (WOK.start (fps []) _) ?_
 have hn:n=l.length:=by have:=hl.old.len;simpa using this
 refine rn [1,3,0,1,3] ?_
 refine xL 3 22 1 rfl fun Az1 capz1 hcz1=>?_
 refine zH (A:=Az1) (([]:List Int).map (fun v:Int=>[Value.int .u64 v])) rfl ?_
 refine rn [0,8,1,3,0,14] ?_
 refine zH (A:=Az1) (((l.take 0).map V.bal).map (fun v:Int=>[Value.int .u64 v])) (by simp) ?_
 refine g_lk [0,2] (fun(x:Nat × Option Addr × Nat)=>[(3,.slice x.2.1 x.1 x.2.2),(4,.int .i64 ((x.1:Nat):Int))]) (fun(x:Nat × Option Addr × Nat)=>[Res.row x.2.1 x.1 x.2.2 22 1 (((l.take x.1).map V.bal).map (fun v:Int=>[Value.int .u64 v]))]) (fun(x:Nat × Option Addr × Nat)=>x.1≤l.length) (fun(x:Nat × Option Addr × Nat)=>l.length-x.1) (0,Az1,capz1) (by(try dsimp only);exact Nat.zero_le _) ?_
 rintro⟨k,A1,cap1⟩ le_k
 replace le_k:k≤l.length:=le_k
 refine zV (L' := [Res.row A1 k cap1 22 1 (((l.take k).map V.bal).map (fun v:Int=>[Value.int .u64 v]))]) rfl ?_
 refine g_val 3 (v' := .slice A1 k cap1) rfl rfl ?_
 refine g_val 4 (v' := .int .i64 ((k:Nat):Int)) rfl rfl ?_
 refine rn [8,1,2,2,47,46,0] ?_
 refine zC rfl (fun h1=>?_) (fun h1=>?_)
 ·have lt_k:k<l.length:=by have h9:=of_decide_eq_true h1;omega
  refine rn [12,7,8,14,10,2,2,2] ?_
  refine s_q (zP (i:=k) rfl rfl rfl hl.rdb (by first|exact lt_k|omega)) rfl ?_
  refine rn [4] ?_
  refine s_q (yI (i:=k) (o:=0) rfl hl.rdb (zR (by first|exact(by first|exact lt_k|omega)|omega|(simp_all;done)|(simp_all;omega))) rfl rfl) rfl ?_
  refine g_op (g_lit rfl rfl rfl rfl rfl fun b17=>?_)
  refine zF (b:=b17) ((([(l[k]).bal]:List Int).map (fun v:Int=>[Value.int .u64 v])).flatten) rfl ?_
  refine g_op (zZ (A:=A1) (els:=(((l.take k).map V.bal)).map (fun v:Int=>[Value.int .u64 v])) (news:=(([(l[k]).bal]:List Int).map (fun v:Int=>[Value.int .u64 v]))) rfl rfl (InL.rdb (b:=b17) rfl (by simp) rfl) (yF (c:=(fun v:Int=>[Value.int .u64 v])) (by intro x;simp[Value.oneCell']) _) (by first|omega|(simp;omega)|(simp_all;omega)) rfl fun A18 cap18=>⟨_,inferInstance,?_⟩)
  refine zH (A:=A18) (((((l.take k).map V.bal)++[(l[k]).bal])).map (fun v:Int=>[Value.int .u64 v])) (by first|rfl|exact List.map_append.symm|(simp;done)) ?_
  refine rn [3,9,15,7,10,2,43,3,9] ?_
  refine zH (A:=A18) (((l.take (k+1)).map V.bal).map (fun v:Int=>[Value.int .u64 v])) (by rw[←List.take_append_getElem lt_k];simp only[List.map_append,List.map_cons,List.map_nil]) ?_
  exact g_ag ((k+1),A18,cap18) (by(try dsimp only);exact(by first|exact lt_k|omega))
 ·have eq_k:k=l.length:=by have h9:=of_decide_eq_false h1;omega
  subst eq_k
  refine rn [16] ?_
  refine zD (zD (zN ?_))
  refine rn [7,1,2,3,0,11] ?_
  refine zH (A:=A1) ((l.map V.bal).map (fun v:Int=>[Value.int .u64 v])) (by simp) ?_
  exact fin1 rfl (.tmp rfl) (fun w' hw' => ⟨(A1,cap1),(by exact trivial),rfl,by have h9:=zB (L' := [Res.row A1 l.length cap1 22 1 ((l.map V.bal).map (fun v:Int=>[Value.int .u64 v]))]) w' hw';exact h9⟩) _ (.inl rfl)
theorem okU_bal {l:List V} (h:okV l):okU (l.map V.bal):=fun x hx=>by
 obtain⟨y,hy,rfl⟩:=List.mem_map.1 hx;exact h y hy
def live (x:V):Bool:=decide (x.st=2∨x.st=3)
def actS:List V→Int
 | []=>0
 | x :: l=>(if live x then x.bal else 0)+actS l
theorem actS_app:∀(l m:List V),actS (l++m)=actS l+actS m
 | [],m=>by simp[actS]
 | x :: l,m=>by simp only[List.cons_append,actS,actS_app l m];omega
theorem total_any (A:Option Addr) (n cap:Nat) (l:List V) (w:World) (hl:Rd w [] A n 7 (l.map V.c)) (hok:okV l) (hb:n≤1000000):Keep Tryz.prog 26 [.slice A n cap] w [] (.int .u64 (addV (l.map V.bal))):=by
 refine g_st Tryz.func26 12 (WOK.start (fps []) _) ?_
 have hn:n=l.length:=by have:=hl.old.len;simpa using this
 refine rn [1,3,0,1,2] ?_
 refine g_op (zG [] rfl (fun w1 hw1 ho1=>by have h7:=balances_any A (n) (cap) (l) w1 (Rd.ofRd hw1 hl (by omega)) (by omega);exact h7) rfl ?_)
 rintro⟨A7,cap7⟩ _
 refine ii ?_
 refine g_op (zI rfl (fun w1 hw1=>radd_any A7 ((l).length) (cap7) (((l).map V.bal)) w1 (Rdb.toOld (ird (A:=A7)) hw1) (okU_bal hok) (by first|omega|(simp;omega)|(simp;done))) rfl ?_)
 refine rn [2,40,40,3,3,0,1,2,3,0,11] ?_
 exact fin1 rfl (.tmp rfl) (fun w' hw' => ⟨(),trivial,by first|rfl|(simp_all;done),zA w' hw'⟩) _ (.inl rfl)
structure Y where
 i:Int
 a:Int
 f:Bool
 deriving DecidableEq
def Y.c (x:Y):List Value:=[.int .i64 x.i,.int .u64 x.a,.bool x.f]
def avail (x:V) (c:C):Int:=if x.st≠2∨x.sl=true then 0 else if x.bal<c.minb then 0 else IntKind.u64.wrap (x.bal-c.minb)
theorem sub_any (a b:Int) (w:World):Pur Tryz.prog 316 [.int .u64 a,.int .u64 b] w (.tuple [.int .u64 (if a<b then 0 else IntKind.u64.wrap (a-b)),.bool (!decide (a<b))].toArray):=by
 refine g_st Tryz.func316 12 (WOK.start [] _) ?_
 refine rn [1,3,3,0,8,1,2,2,55,0] ?_
 refine zC rfl (fun h1=>?_) (fun h1=>?_)
 ·refine rn [1,3,3,0,11,13] ?_
  exact fin2 rfl (.tmp rfl) (.tmp rfl) (fun w' hw=>⟨by first|rfl|(simp_all;done)|(simp_all;omega)|(simp_all <;> intros<;>omega),hw.upd⟩) _ (.inl rfl)
 ·refine rn [12,7,1,2,2,57,3,3,0,11] ?_
  exact fin2 rfl (.tmp rfl) (.tmp rfl) (fun w' hw=>⟨by first|rfl|(simp_all;done)|(simp_all;omega)|(simp_all <;> intros<;>omega),hw.upd⟩) _ (.inl rfl)
theorem avail_any (x:V) (c:C) (w:World):Pur Tryz.prog 284 [x.v,c.v] w (.int .u64 (avail x c)):=by
 refine g_st Tryz.func284 23 (WOK.start [] _) ?_
 refine rn [1] ?_
 refine g_op (g_box rfl rfl rfl fun b2=>?_)
 refine g_op (g_box rfl rfl rfl fun b3=>?_)
 refine rn [3,0,8,1,4,5,51,2] ?_
 refine zU 10 rfl (fun h1=>?_) (fun h1=>?_)
 ·refine rn [21,21,41,0,19,1,3,0,11,13] ?_
  exact fin1 rfl (.tmp rfl) (fun w' hw=>⟨by first|rfl|(simp_all[avail];done)|(simp_all[avail];omega)|(simp_all[avail]<;>intros<;>omega),hw.upd⟩) _ (.inl rfl)
 ·refine rn [22,4,22,5,42,0] ?_
  refine zC rfl (fun h2=>?_) (fun h2=>?_)
  ·refine rn [1,3,0,11,13] ?_
   exact fin1 rfl (.tmp rfl) (fun w' hw=>⟨by first|rfl|(simp_all[avail];done)|(simp_all[avail];omega)|(simp_all[avail]<;>intros<;>omega),hw.upd⟩) _ (.inl rfl)
  ·refine rn [12,7,1,4,5,4,5] ?_
   refine g_op (zI rfl (fun w hw=>sub_any _ _ w) rfl ?_)
   refine rn [2,40,40,3,3,0,1,2,3,0,11] ?_
   exact fin1 rfl (.tmp rfl) (fun w' hw=>⟨by first|rfl|(simp_all[avail];done)|(simp_all[avail];omega)|(simp_all[avail]<;>intros<;>omega),hw.upd⟩) _ (.inl rfl)
theorem qL (x:V) (m:Int) (c:C) (w:World):Pur Tryz.prog 236 [x.v,.int .u64 m,c.v] w (.tuple [V.v { x with bal:=IntKind.u64.wrap (x.bal-min m (avail x c)) },.int .u64 (min m (avail x c))].toArray):=by
 refine g_st Tryz.func236 21 (WOK.start [] _) ?_
 refine rn [1] ?_
 refine g_op (g_box rfl rfl rfl fun b3=>?_)
 refine g_op (g_box rfl rfl rfl fun b5=>?_)
 refine g_op (zK rfl fun b6=>?_)
 refine rn [3,0,1,2,45,45] ?_
 refine g_op (zI rfl (fun w hw=>avail_any _ _ w) rfl ?_)
 refine rn [58,3,0,1,4,5,2,57,4] ?_
 refine g_op (zJ rfl rfl rfl rfl rfl rfl rfl ?_)
 refine rn [0,1,45,2,33,3,0,11] ?_
 exact fin2 rfl (.cellw rfl rfl) (.tmp rfl) (fun w' hw=>⟨by rfl,hw.upd⟩) _ (.inl rfl)
def pos (l:List Y):List Y:=l.filter fun y => !decide (y.a=0)
theorem pX {l:List Y} {j:Nat} (h:j<l.length):pos (l.take (j+1))=pos (l.take j)++(if l[j].a=0 then [] else [l[j]]):=by
 unfold pos
 rw[←List.take_append_getElem h,List.filter_append]
 by_cases h0:l[j].a=0<;>simp[h0]
theorem pos1_any (y:Y) (w:World) : Pur Tryz.prog 286 [.agg y.c.toArray] w (.bool (decide (y.a=0))):=by
 refine g_st Tryz.func286 6 (WOK.start [] _) ?_
 refine rn [1] ?_
 refine g_op (g_box rfl rfl rfl fun b1=>?_)
 refine rn [3,0,1,4,5,44,3,0,11] ?_
 exact fin1 rfl (.tmp rfl) (fun w' hw' => ⟨by rfl,hw'.upd⟩) _ (.inl rfl)
theorem index17_any (A:Option Addr) (n cap:Nat) (l:List Y) (w:World) (hw:W0 [Res.row A n cap 50 3 (l.map Y.c)] w) (hn:n=l.length) (hcap:n≤1000000):Own2 (ι:=Int) Tryz.prog 319 [.slice A n cap,.func (.func 286) #[] #[]] w [Res.row A n cap 50 3 (l.map Y.c)] (fun x=>((x=-1∧∀y∈l,¬y.a=0)∨∃k:Nat,x=k∧k<l.length∧(∀y∈l.take k,¬y.a=0)∧(l[k]?.map Y.a)=some 0)) (fun x=>.int .i64 x) (fun x=>[]) (fun x=>[Res.row A n cap 50 3 (l.map Y.c)]):=by
 refine g_st Tryz.func319 19 hw ?_
 refine rn [1,3,0,8,1,2,47,2,0,14] ?_
 refine g_lk [0,1,4,7] (fun(x:Nat)=>[(8,.int .i64 ((x:Nat):Int))]) (fun(x:Nat)=>[Res.row A n cap 50 3 (l.map Y.c)]) (fun(x:Nat)=>x≤l.length∧(∀y∈l.take x,¬y.a=0)) (fun(x:Nat)=>l.length-x) 0 (by(try dsimp only);exact⟨Nat.zero_le _,(by simp)⟩) ?_
 rintro k ⟨le_k,hz⟩
 replace le_k:k≤l.length:=le_k
 replace hz:∀y∈l.take k,¬y.a=0:=hz
 refine rn [1,46,0,8] ?_
 refine zC rfl (fun h1=>?_) (fun h1=>?_)
 ·have lt_k:k<l.length:=by have h9:=of_decide_eq_true h1;omega
  refine rn [12,7,8,14,1,2,3,0,1,2,2,2] ?_
  refine s_q (zP (i:=k) rfl rfl rfl (InRow.rdb (A:=A) (els:=l.map Y.c) (by simpa using hn) (zW (c:=Y.c) (fun _=>rfl) _)) (by first|exact lt_k|omega)) rfl ?_
  refine s_q (zS (i:=k) rfl (InRow.rdb (A:=A) (els:=l.map Y.c) (by simpa using hn) (zW (c:=Y.c) (fun _=>rfl) _)) (zR (by first|exact(by first|exact lt_k|omega)|omega|(simp_all;done)|(simp_all;omega))) rfl) rfl ?_
  refine g_op (tZ rfl rfl (fun w1 hw1=>pos1_any l[k] w1) rfl ?_)
  refine rn [0] ?_
  refine zC rfl (fun h2=>?_) (fun h2=>?_)
  ·refine rn [1,2,3,0,11] ?_
   refine zM (zE (zE (zM (zE ?_))))
   exact fin1 rfl (.tmp rfl) (fun w' hw' => ⟨((k:Nat):Int),(by(try dsimp only);exact .inr ⟨k,rfl,lt_k,hz,by rw[List.getElem?_eq_getElem lt_k];simpa using h2⟩),rfl,zA w' hw'⟩) _ (.inl rfl)
  ·refine rn [12,15,7,10,43,2,9] ?_
   exact g_ag (k+1) (by(try dsimp only);exact⟨(by first|exact lt_k|omega),(by rw[←List.take_append_getElem lt_k];intro y hy;rcases List.mem_append.1 hy with h|h;exact hz y h;simp at h;subst h;simpa using h2)⟩)
 ·have eq_k:k=l.length:=by have h9:=of_decide_eq_false h1;omega
  refine rn [16] ?_
  refine zD (zD (zN ?_))
  refine rn [7,1,3,0,11] ?_
  exact fin1 rfl (.tmp rfl) (fun w' hw' => ⟨(-1),(by exact .inl ⟨rfl,by rw[eq_k,List.take_length] at hz;exact hz⟩),rfl,zA w' hw'⟩) _ (.inl rfl)
theorem uE {α:Type} {s l:List α} {j:Nat} (h:s.drop j=l.drop j) (h1:j<s.length) (h2:j<l.length):s[j]=l[j]∧s.drop (j+1)=l.drop (j+1):=by
 rw[List.drop_eq_getElem_cons h1,List.drop_eq_getElem_cons h2] at h
 injection h with h3 h4
 exact⟨h3,h4⟩
theorem del_keep17 {s l:List Y} {i j:Nat} (hij:i<j) (hs:j<s.length) (hj:j<l.length) (htk:s.take i=pos (l.take j)) (hdr:s.drop j=l.drop j) (h0:¬s[j].a=0) :
  (s.set i s[j]).take (i+1)=pos (l.take (j+1))∧(s.set i s[j]).drop (j+1)=l.drop (j+1):=by
 obtain⟨h1,h2⟩:=uE hdr hs hj
 constructor
 ·rw[pX hj,←h1,if_neg h0,←htk,List.set_eq_take_append_cons_drop,if_pos (by omega),show s.take i++s[j] :: s.drop (i+1)=(s.take i++[s[j]])++s.drop (i+1) by simp]
  exact List.take_left' (by simp;omega)
 ·rw[List.drop_set_of_lt (by omega)];exact h2
theorem del_drop17 {s l:List Y} {i j:Nat} (hs:j<s.length) (hj:j<l.length) (htk:s.take i=pos (l.take j)) (hdr:s.drop j=l.drop j) (h0:s[j].a=0):s.take i=pos (l.take (j+1))∧s.drop (j+1)=l.drop (j+1):=by
 obtain⟨h1,h2⟩:=uE hdr hs hj
 exact⟨by rw[pX hj,←h1,if_pos h0,List.append_nil];exact htk,h2⟩
theorem pos_pre {l:List Y} {i:Nat} (hi:i<l.length) (hp:∀y∈l.take i,¬y.a=0) (ha:(l[i]?.map Y.a)=some 0):l.take i=pos (l.take (i+1)):=by
 have h0:l[i].a=0:=by rw[List.getElem?_eq_getElem hi] at ha;simpa using ha
 rw[pX hi,if_pos h0,List.append_nil]
 exact(List.filter_eq_self.2 fun y hy=>by simp[hp y hy]).symm
theorem pos_all {l:List Y} (hp:∀y∈l,¬y.a=0):pos l=l:=List.filter_eq_self.2 fun y hy=>by simp[hp y hy]
theorem delete17_any (A:Option Addr) (n cap:Nat) (l:List Y) (w:World) (hw:W0 [Res.row A n cap 50 3 (l.map Y.c)] w) (hn:n=l.length) (hcap:n≤1000000):Own2 (ι:=(Option Addr × Nat)) Tryz.prog 285 [.slice A n cap,.func (.func 286) #[] #[]] w [Res.row A n cap 50 3 (l.map Y.c)] (fun x=>True) (fun x=>.slice x.1 (pos l).length x.2) (fun x=>[]) (fun x=>[Res.row x.1 (pos l).length x.2 50 3 ((pos l).map Y.c)]):=by
 refine g_st Tryz.func285 42 hw ?_
 refine rn [1,3,0,1,2,2] ?_
 refine g_op (zG _ rfl (fun w1 hw1 ho1=>by have h7:=index17_any A (n) (cap) (l) w1 ho1 (by first|assumption|(simp;done)) (by omega);exact h7) rfl ?_)
 rintro z hz
 refine ii ?_
 refine rn [3,0,8,1,2,44,0] ?_
 refine zC rfl (fun h1=>?_) (fun h1=>?_)
 ·have hall:∀y∈l,¬y.a=0:=by
    rcases hz with h|⟨k,rfl,_⟩
    · exact h.2
    · exfalso;simp at h1<;>omega
  refine rn [1,2,3,0,11,13] ?_
  refine yB (A:=A) (pos l).length (by rw[pos_all hall,hn]) ?_
  refine zH (A:=A) ((pos l).map Y.c) (by rw[pos_all hall]) ?_
  exact fin1 rfl (.tmp rfl) (fun w' hw' => ⟨(A,cap),(by exact trivial),by rw[pos_all hall,hn],zA w' hw'⟩) _ (.inl rfl)
 ·obtain⟨i,rfl,hi,hpre,ha⟩:∃k:Nat,z=k∧k<l.length∧(∀y∈l.take k,¬y.a=0)∧(l[k]?.map Y.a)=some 0:=by
    rcases hz with h|h
    · exact absurd h.1 (by simpa using h1)
    · exact h
  refine rn [12,7,8,1,2,43,3,0,14] ?_
  refine g_lk [0,1,4] (fun(x:Nat × Nat × List Y)=>[(5,.int .i64 ((x.1:Nat):Int)),(6,.int .i64 ((x.2.1:Nat):Int))]) (fun(x:Nat × Nat × List Y)=>[Res.row A n cap 50 3 ((x.2.2).map Y.c)]) (fun(x:Nat × Nat × List Y)=>x.1<x.2.1∧x.2.1≤l.length∧(x.2.2).length=l.length∧(x.2.2).take x.1=pos (l.take x.2.1)∧(x.2.2).drop x.2.1=l.drop x.2.1) (fun(x:Nat × Nat × List Y)=>l.length-x.2.1) (i,(i+1),l) (by(try dsimp only);exact⟨(by omega),(by omega),rfl,(pos_pre hi hpre ha),rfl⟩) ?_
  rintro⟨i1,j,s1⟩ ⟨hij,hjn,hls,htk,hdr⟩
  replace hij:i1<j:=hij
  replace hjn:j≤l.length:=hjn
  replace hls:(s1).length=l.length:=hls
  replace htk:(s1).take i1=pos (l.take j):=htk
  replace hdr:(s1).drop j=l.drop j:=hdr
  refine zV (L' := [Res.row A n cap 50 3 ((s1).map Y.c)]) rfl ?_
  refine g_val 5 (v' := .int .i64 ((i1:Nat):Int)) rfl rfl ?_
  refine g_val 6 (v' := .int .i64 ((j:Nat):Int)) rfl rfl ?_
  refine rn [8,1,2,2,47,46,0] ?_
  refine zC rfl (fun h2=>?_) (fun h2=>?_)
  ·have lt_j:j<l.length:=by have h9:=of_decide_eq_true h2;omega
   have lt_s:j<s1.length:=by omega
   refine rn [12,7,8,14,1,2,2] ?_
   refine s_q (zP (i:=j) rfl rfl rfl (ird (A:=A)) (by first|omega|(simp;done)|(simp;omega))) rfl ?_
   refine s_q (zS (i:=j) rfl (ird (A:=A)) (zR (by first|assumption|omega|(simp_all;done)|(simp_all;omega))) rfl) rfl ?_
   refine g_op (zK rfl fun b7=>?_)
   refine rn [33,0,1,2,45] ?_
   refine g_op (tZ rfl rfl (fun w1 hw1=>pos1_any (s1)[j] w1) rfl ?_)
   refine rn [48,0] ?_
   refine zC rfl (fun h3=>?_) (fun h3=>?_)
   ·refine rn [1,2,2,45] ?_
    refine s_q (zP (i:=i1) rfl rfl rfl (ird (A:=A)) (by first|omega|(simp;done)|(simp;omega))) rfl ?_
    refine g_op (yA (A:=A) (i:=i1) (o:=0) (cs' := Y.c ((s1[j]))) rfl rfl rfl rfl rfl (zR (by first|assumption|omega|(simp_all;done)|(simp_all;omega))) (by first|(simp;done)|exact Nat.le_refl _) rfl (yD rfl) ?_)
    refine zH (A:=A) ((s1.set i1 (s1[j])).map Y.c) (by simp only[List.map_set]) ?_
    refine rn [0,10,2,43,3,9,15,7,10,2,43,3,9] ?_
    exact g_ag ((i1+1),(j+1),(s1.set i1 s1[j])) (by(try dsimp only);exact⟨(by omega),(by omega),(by simpa using hls),(del_keep17 hij lt_s lt_j htk hdr (by simpa using h3)).1,(del_keep17 hij lt_s lt_j htk hdr (by simpa using h3)).2⟩)
   ·refine rn [12,15,7,10,2,43,3,9] ?_
    exact g_ag (i1,(j+1),s1) (by(try dsimp only);exact⟨(by omega),(by omega),hls,(del_drop17 lt_s lt_j htk hdr (by simpa using h3)).1,(del_drop17 lt_s lt_j htk hdr (by simpa using h3)).2⟩)
  ·have eq_j:j=l.length:=by have h9:=of_decide_eq_false h2;omega
   rw[eq_j,List.take_length] at htk
   have hi1:i1=(pos l).length:=by have h9:=congrArg List.length htk;simp at h9;omega
   have hlt:i1<n:=by omega
   refine rn [16] ?_
   refine zD (zD (zN ?_))
   refine rn [7,1] ?_
   refine g_rowA A (by omega) fun⟨hA,hA0⟩ hle hcm=>?_
   refine rn [2,2] ?_
   refine s_q (xG (l:=i1) rfl rfl rfl (by omega)) rfl ?_
   refine g_op (g_clear (A:=A) (l:=i1) (n:=n) (els:=s1.map Y.c) rfl (fun h0=>subA_at hA (by omega)) (by omega) (by simp[Value.oneCell']) ?_)
   refine rn [0,1,2,2] ?_
   refine s_q (yW (h:=i1) rfl rfl rfl (by omega)) rfl ?_
   refine rn [3,0,11] ?_
   refine tY (A:=A) i1 (pos l).length ((pos l).map Y.c) (by omega) hi1 (by rw[List.append_assoc,List.take_append_of_le_length (by simp;omega),List.take_take,Nat.min_self,←List.map_take,htk]) ?_
   exact fin1 rfl (.tmp rfl) (fun w' hw' => ⟨(subA A cap 0 3,cap),(by exact trivial),by rw[hi1],zA w' hw'⟩) _ (.inl rfl)
theorem positive_any (A:Option Addr) (n cap:Nat) (l:List Y) (w:World) (hw:W0 [Res.row A n cap 50 3 (l.map Y.c)] w) (hn:n=l.length) (hcap:n≤1000000):Own2 (ι:=(Option Addr × Nat)) Tryz.prog 237 [.slice A n cap] w [Res.row A n cap 50 3 (l.map Y.c)] (fun x=>True) (fun x=>.slice x.1 (pos l).length x.2) (fun x=>[]) (fun x=>[Res.row x.1 (pos l).length x.2 50 3 ((pos l).map Y.c)]):=by
 refine g_st Tryz.func237 5 hw ?_
 refine rn [1,3,0,1,2] ?_
 refine g_op (zG _ rfl (fun w1 hw1 ho1=>by have h7:=delete17_any A (n) (cap) (l) w1 ho1 (by first|assumption|(simp;done)) (by first|assumption|omega);exact h7) rfl ?_)
 rintro⟨A4,cap4⟩ _
 refine ii ?_
 refine rn [3,0,11] ?_
 exact fin1 rfl (.tmp rfl) (fun w' hw' => ⟨(A4,cap4),(by exact trivial),by first|rfl|(simp_all;done),zA w' hw'⟩) _ (.inl rfl)
def apV (x:V) (m:Int) (c:C):V:={ x with bal:=IntKind.u64.wrap (x.bal-min m (avail x c)) }
def inB (out:List V) (r:Rq):Prop:=0≤r.i∧r.i<(out.length:Int)
instance (out:List V) (r:Rq):Decidable (inB out r):=by unfold inB;exact inferInstance
theorem inB.lt {out:List V} {r:Rq} (h:inB out r):r.i.toNat<out.length:=by unfold inB at h;omega
def payO (c:C) (out:List V) (r:Rq):List V:=if h:inB out r then out.set r.i.toNat (apV (out[r.i.toNat]'h.lt) r.m c) else out
def payP (c:C) (out:List V) (paid:List Y) (r:Rq):List Y:=if h:inB out r then paid++[⟨r.i,min r.m (avail (out[r.i.toNat]'h.lt) c),false⟩] else paid
theorem payO_len (c:C) (out:List V) (r:Rq):(payO c out r).length=out.length:=by unfold payO;split<;>simp
def stepQ (c:C) (s:List V × List Y) (r:Rq):List V × List Y:=(payO c s.1 r,payP c s.1 s.2 r)
def run (c:C) (l:List V) (q:List Rq):List V × List Y:=q.foldl (stepQ c) (l,[])
theorem run_succ {c:C} {l:List V} {q:List Rq} {k:Nat} (h:k<q.length):run c l (q.take (k+1))=stepQ c (run c l (q.take k)) q[k]:=by
 unfold run
 rw[←List.take_append_getElem h,List.foldl_append];rfl
theorem run_o {c:C} {l:List V} {q:List Rq} {k:Nat} (h:k<q.length):(run c l (q.take (k+1))).1=payO c (run c l (q.take k)).1 q[k]:=by rw[run_succ h];rfl
theorem run_p {c:C} {l:List V} {q:List Rq} {k:Nat} (h:k<q.length):(run c l (q.take (k+1))).2=payP c (run c l (q.take k)).1 (run c l (q.take k)).2 q[k]:=by rw[run_succ h];rfl
theorem foldl_len (c:C):∀(q:List Rq) (s:List V × List Y),(q.foldl (stepQ c) s).1.length=s.1.length
 | [],_=>rfl
 | r :: q,s=>by rw[List.foldl_cons,foldl_len c q];exact payO_len c s.1 r
theorem run_len (c:C) (l:List V) (q:List Rq):(run c l q).1.length=l.length:=foldl_len c q (l,[])
theorem payP_len (c:C) (out:List V) (paid:List Y) (r:Rq):(payP c out paid r).length≤paid.length+1:=by unfold payP;split<;>simp
theorem foldp_len (c:C):∀(q:List Rq) (s:List V × List Y),(q.foldl (stepQ c) s).2.length≤s.2.length+q.length
 | [],_=>by simp
 | r :: q,s=>by
  rw[List.foldl_cons]
  have h1:=foldp_len c q (stepQ c s r)
  have h2:(stepQ c s r).2.length≤s.2.length+1:=payP_len c s.1 s.2 r
  simp only[List.length_cons];omega
theorem runp_len (c:C) (l:List V) (q:List Rq):(run c l q).2.length≤q.length:=by have:=foldp_len c q (l,[]);simpa[run] using this
theorem payO_in {c:C} {out:List V} {r:Rq} {k:Nat} (hr:r.i=(k:Int)) (h:k<out.length):payO c out r=out.set k (apV out[k] r.m c):=by
 obtain⟨i,m⟩:=r
 simp only at hr;subst hr
 unfold payO;rw[dif_pos (show inB out ⟨(k:Int),m⟩ from⟨by simp,by simpa using h⟩)];rfl
theorem payP_in {c:C} {out:List V} {paid:List Y} {r:Rq} {k:Nat} (hr:r.i=(k:Int)) (h:k<out.length):payP c out paid r=paid++[⟨(k:Int),min r.m (avail out[k] c),false⟩]:=by
 obtain⟨i,m⟩:=r
 simp only at hr;subst hr
 unfold payP;rw[dif_pos (show inB out ⟨(k:Int),m⟩ from⟨by simp,by simpa using h⟩)];rfl
theorem payO_out {c:C} {out:List V} {r:Rq} (h:¬inB out r):payO c out r=out:=by unfold payO;rw[dif_neg h]
theorem payP_out {c:C} {out:List V} {paid:List Y} {r:Rq} (h:¬inB out r):payP c out paid r=paid:=by unfold payP;rw[dif_neg h]
theorem pay17_any (bo bc bp:Nat) (A Ap:Option Addr) (n cap cp:Nat) (out:List V) (paid:List Y) (c:C) (r:Rq) (w:World) (hw:W0 [Res.blk bo 37 [Value.slice A n cap],Res.row A n cap 52 7 ((out).map V.c),Res.blk bc 24 c.c,Res.blk bp 45 [Value.slice Ap (paid).length cp],Res.row Ap (paid).length cp 50 3 ((paid).map Y.c)] w) (hn:n=out.length) (hcap:n≤1000000) (hpl:paid.length≤1000000):Own2 (ι:=(Option Addr × Nat)) Tryz.prog 235 [.agg r.c.toArray,.pointer (some ⟨bo,0,none⟩),.pointer (some ⟨bc,0,none⟩),.pointer (some ⟨bp,0,none⟩)] w [Res.blk bo 37 [Value.slice A n cap],Res.row A n cap 52 7 ((out).map V.c),Res.blk bc 24 c.c,Res.blk bp 45 [Value.slice Ap (paid).length cp],Res.row Ap (paid).length cp 50 3 ((paid).map Y.c)] (fun x=>True) (fun x=>.tuple #[]) (fun x=>[]) (fun x=>[Res.blk bo 37 [Value.slice A n cap],Res.row A n cap 52 7 ((payO c out r).map V.c),Res.blk bc 24 c.c,Res.blk bp 45 [Value.slice x.1 (payP c out paid r).length x.2],Res.row x.1 (payP c out paid r).length x.2 50 3 ((payP c out paid r).map Y.c)]):=by
 refine g_st Tryz.func235 41 hw ?_
 refine rn [1] ?_
 refine g_op (g_box rfl rfl rfl fun b4=>?_)
 refine rn [0,8,1,4,5,46,2] ?_
 refine zU 10 rfl (fun h1=>?_) (fun h1=>?_)
 ·refine rn [21,21,21,21,21,41,0,19,11,13] ?_
  have hno:¬inB out r:=fun h=>by simp at h1;exact absurd h.1 (by omega)
  exact fin0 rfl (fun w' hw' => ⟨(Ap,cp),(by exact trivial),rfl,by rw[payO_out hno,payP_out hno];exact zA w' hw'⟩) _ (.inl rfl)
 ·refine rn [22,4,22,5,22,5,22,47,22,53,42,0] ?_
  refine zC rfl (fun h2=>?_) (fun h2=>?_)
  ·refine rn [11,13] ?_
   have hno:¬inB out r:=fun h=>by simp at h2;exact absurd h.2 (by omega)
   exact fin0 rfl (fun w' hw' => ⟨(Ap,cp),(by exact trivial),rfl,by rw[payO_out hno,payP_out hno];exact zA w' hw'⟩) _ (.inl rfl)
  ·obtain⟨k,hk0⟩:∃k:Nat,r.i=k:=⟨r.i.toNat,by simp at h1;omega⟩
   have hk:k<out.length:=by simp at h2;omega
   refine rn [12,7,8] ?_
   refine dreg [13] mixed rfl ?_
   refine rn [23,0,5,23,1,4,23,2,5] ?_
   refine g_val 20 (v' := .int .i64 ((k:Nat):Int)) rfl (by rw[hk0]) ?_
   refine dq 3 rfl (zP (i:=k) rfl rfl rfl (InRow.rdb (A:=A) (els:=(out).map V.c) (by simpa using hn) (zW (c:=V.c) (fun _=>rfl) _)) (by first|omega|(simp;done)|(simp;omega))) ?_
   refine dq 4 rfl (zS (i:=k) rfl (InRow.rdb (A:=A) (els:=(out).map V.c) (by simpa using hn) (zW (c:=V.c) (fun _=>rfl) _)) (zR (by first|exact(by first|omega|(simp;done)|(simp;omega))|omega|(simp_all;done)|(simp_all;omega))) rfl) ?_
   refine rn [23,5,4,23,6,5,23,7,45] ?_
   refine yG [8,12] (by kernel_rfl) (by simp) zB ⟨dpick rfl (zI rfl (fun w hw=>qL _ _ _ w) rfl ?_),dpick rfl (zK rfl fun b5=>?_),trivial⟩
   ·refine rn [23,9,2,23,10,40,24,11,40] ?_
    refine dop 12 rfl (zK rfl fun b5=>?_)
    refine dop 13 rfl (zQ rfl rfl rfl rfl rfl ?_)
    refine rn [24,14,3,28,7,1,5,4,5] ?_
    refine g_val 31 (v' := .int .i64 ((k:Nat):Int)) rfl (by rw[hk0]) ?_
    refine rn [45] ?_
    refine s_q (zP (i:=k) rfl rfl rfl (InRow.rdb (A:=A) (els:=(out).map V.c) (by simpa using hn) (zW (c:=V.c) (fun _=>rfl) _)) (by first|omega|(simp;done)|(simp;omega))) rfl ?_
    refine g_op (yA (A:=A) (i:=k) (o:=0) (cs' := V.c ((apV out[k] r.m c))) rfl rfl rfl rfl rfl (zR (by first|exact(by first|omega|(simp;done)|(simp;omega))|omega|(simp_all;done)|(simp_all;omega))) (by first|(simp;done)|exact Nat.le_refl _) rfl (yD rfl) ?_)
    refine zH (A:=A) ((out.set k (apV out[k] r.m c)).map V.c) (by simp only[List.map_set]) ?_
    refine rn [0,10,5,4,5] ?_
    refine g_val 36 (v' := .int .i64 ((k:Nat):Int)) rfl (by rw[hk0]) ?_
    refine rn [2,49] ?_
    refine g_op (g_lit rfl rfl rfl rfl rfl fun b39=>?_)
    refine zF (b:=b39) ((([(Y.mk ((k:Nat):Int) (min r.m (avail out[k] c)) false)]:List Y).map Y.c).flatten) rfl ?_
    refine g_op (zZ (A:=Ap) (els:=(paid).map Y.c) (news:=(([(Y.mk ((k:Nat):Int) (min r.m (avail out[k] c)) false)]:List Y).map Y.c)) rfl rfl (InL.rdb (b:=b39) rfl (by simp[Y.c]) rfl) (yF (c:=Y.c) (by intro x;simp[Y.c,Value.oneCell']) _) (by first|omega|(simp;omega)|(simp_all;omega)) rfl fun A40 cap40=>⟨_,inferInstance,?_⟩)
    refine zH (A:=A40) (((paid++[(Y.mk ((k:Nat):Int) (min r.m (avail out[k] c)) false)])).map Y.c) (by first|rfl|exact List.map_append.symm|(simp;done)) ?_
    refine g_op (zJ rfl rfl rfl rfl rfl rfl rfl ?_)
    refine rn [9] ?_
    refine yB (A:=A40) (paid++[(Y.mk ((k:Nat):Int) (min r.m (avail out[k] c)) false)]).length (by simp) ?_
    refine zF (b:=bp) [Value.slice A40 (paid++[(Y.mk ((k:Nat):Int) (min r.m (avail out[k] c)) false)]).length cap40] (by simp[splice]) ?_
    exact fin0 rfl (fun w' hw' => ⟨(A40,cap40),(by exact trivial),rfl,by rw[payO_in hk0 hk,payP_in hk0 hk];exact zA w' hw'⟩) _ (.inr rfl)
   ·refine dop 8 rfl (zI rfl (fun w hw=>qL _ _ _ w) rfl ?_)
    refine rn [23,9,2,23,10,40,24,11,40] ?_
    refine dop 13 rfl (zQ rfl rfl rfl rfl rfl ?_)
    refine rn [24,14,3,28,7,1,5,4,5] ?_
    refine g_val 31 (v' := .int .i64 ((k:Nat):Int)) rfl (by rw[hk0]) ?_
    refine rn [45] ?_
    refine s_q (zP (i:=k) rfl rfl rfl (InRow.rdb (A:=A) (els:=(out).map V.c) (by simpa using hn) (zW (c:=V.c) (fun _=>rfl) _)) (by first|omega|(simp;done)|(simp;omega))) rfl ?_
    refine g_op (yA (A:=A) (i:=k) (o:=0) (cs' := V.c ((apV out[k] r.m c))) rfl rfl rfl rfl rfl (zR (by first|exact(by first|omega|(simp;done)|(simp;omega))|omega|(simp_all;done)|(simp_all;omega))) (by first|(simp;done)|exact Nat.le_refl _) rfl (yD rfl) ?_)
    refine zH (A:=A) ((out.set k (apV out[k] r.m c)).map V.c) (by simp only[List.map_set]) ?_
    refine rn [0,10,5,4,5] ?_
    refine g_val 36 (v' := .int .i64 ((k:Nat):Int)) rfl (by rw[hk0]) ?_
    refine rn [2,49] ?_
    refine g_op (g_lit rfl rfl rfl rfl rfl fun b39=>?_)
    refine zF (b:=b39) ((([(Y.mk ((k:Nat):Int) (min r.m (avail out[k] c)) false)]:List Y).map Y.c).flatten) rfl ?_
    refine g_op (zZ (A:=Ap) (els:=(paid).map Y.c) (news:=(([(Y.mk ((k:Nat):Int) (min r.m (avail out[k] c)) false)]:List Y).map Y.c)) rfl rfl (InL.rdb (b:=b39) rfl (by simp[Y.c]) rfl) (yF (c:=Y.c) (by intro x;simp[Y.c,Value.oneCell']) _) (by first|omega|(simp;omega)|(simp_all;omega)) rfl fun A40 cap40=>⟨_,inferInstance,?_⟩)
    refine zH (A:=A40) (((paid++[(Y.mk ((k:Nat):Int) (min r.m (avail out[k] c)) false)])).map Y.c) (by first|rfl|exact List.map_append.symm|(simp;done)) ?_
    refine g_op (zJ rfl rfl rfl rfl rfl rfl rfl ?_)
    refine rn [9] ?_
    refine yB (A:=A40) (paid++[(Y.mk ((k:Nat):Int) (min r.m (avail out[k] c)) false)]).length (by simp) ?_
    refine zF (b:=bp) [Value.slice A40 (paid++[(Y.mk ((k:Nat):Int) (min r.m (avail out[k] c)) false)]).length cap40] (by simp[splice]) ?_
    exact fin0 rfl (fun w' hw' => ⟨(A40,cap40),(by exact trivial),rfl,by rw[payO_in hk0 hk,payP_in hk0 hk];exact zA w' hw'⟩) _ (.inr rfl)
theorem step17_any (A B:Option Addr) (n cap capq P:Nat) (l:List V) (q:List Rq) (c:C) (w:World) (hl:Rd w [] A n 7 (l.map V.c)) (hq:Rd w [] B q.length 2 (q.map Rq.c)) (hcq:q.length≤capq) (hb:n≤1000000) (hbq:q.length≤1000000) (hP:c.parts=((P:Nat):Int)):Own2 (ι:=(Option Addr × Nat × Option Addr × Nat)) Tryz.prog 157 [.slice A n cap,.slice B q.length capq,c.v] w [] (fun x=>True) (fun x=>.tuple [.slice x.1 l.length x.2.1,.slice x.2.2.1 (pos (run c l (q.take (min q.length P))).2).length x.2.2.2,.int .i64 (((min q.length P):Nat):Int)].toArray) (fun x=>[Res.row x.1 l.length x.2.1 52 7 ((run c l (q.take (min q.length P))).1.map V.c),Res.row x.2.2.1 (pos (run c l (q.take (min q.length P))).2).length x.2.2.2 50 3 ((pos (run c l (q.take (min q.length P))).2).map Y.c)]) (fun x=>[]):=by
 refine g_st Tryz.func157 39 (WOK.start (fps []) _) ?_
 have hln:n=l.length:=by have:=hl.old.len;simpa using this
 refine rn [1] ?_
 refine g_op (g_box rfl rfl rfl fun b5=>?_)
 refine rn [3,3,3,0,1,2] ?_
 refine g_op (zG [] rfl (fun w1 hw1 ho1=>by have h7:=clone_v A (n) (cap) (l) w1 (Rd.ofRd hw1 hl (by omega)) (by first|omega|(simp;omega));exact h7) rfl ?_)
 rintro⟨A16,cap16⟩ _
 refine ii ?_
 refine g_op (zK rfl fun b9=>?_)
 refine g_op (zJ rfl rfl rfl rfl rfl rfl rfl ?_)
 refine zF (b:=b9) [Value.slice A16 (l).length cap16] (by simp[splice]) ?_
 refine rn [0,1] ?_
 refine g_op (zK rfl fun b10=>?_)
 refine rn [0,1,52] ?_
 refine wP none 50 3 ?_
 refine zH (A:=none) ((run c l (q.take 0)).2.map Y.c) (by simp[run]) ?_
 refine yB (A:=none) (run c l (q.take 0)).2.length (by simp[run]) ?_
 refine zF (b:=b10) [Value.slice none (run c l (q.take 0)).2.length 0] (by simp[run]) ?_
 refine zH (A:=A16) ((run c l (q.take 0)).1.map V.c) (by simp[run]) ?_
 refine rn [3,0,1,2,47,4,5,58] ?_
 refine g_val 22 (v' := .int .i64 (((min q.length P):Nat):Int)) rfl (by rw[hP];congr 1;omega) ?_
 refine rn [3,0,8,1,2,2] ?_
 refine s_q (yW (h:=(min q.length P)) rfl rfl rfl (by omega)) rfl ?_
 refine rn [47,2,0,14] ?_
 refine g_lk [6,7,8,9,10,11,12,25,26] (fun(x:Nat × Option Addr × Nat)=>[(27,.int .i64 ((x.1:Nat):Int))]) (fun(x:Nat × Option Addr × Nat)=>[Res.blk b9 37 [Value.slice A16 (l).length cap16],Res.row A16 (l).length cap16 52 7 (((run c l (q.take x.1)).1).map V.c),Res.blk b5 24 c.c,Res.blk b10 45 [Value.slice x.2.1 ((run c l (q.take x.1)).2).length x.2.2],Res.row x.2.1 ((run c l (q.take x.1)).2).length x.2.2 50 3 (((run c l (q.take x.1)).2).map Y.c)]) (fun(x:Nat × Option Addr × Nat)=>x.1≤(min q.length P)) (fun(x:Nat × Option Addr × Nat)=>(min q.length P)-x.1) (0,none,0) (by(try dsimp only);exact Nat.zero_le _) ?_
 rintro⟨k,A,cap⟩ le_k
 replace le_k:k≤(min q.length P):=le_k
 refine zV (L' := [Res.blk b9 37 [Value.slice A16 (l).length cap16],Res.row A16 (l).length cap16 52 7 (((run c l (q.take k)).1).map V.c),Res.blk b5 24 c.c,Res.blk b10 45 [Value.slice A ((run c l (q.take k)).2).length cap],Res.row A ((run c l (q.take k)).2).length cap 50 3 (((run c l (q.take k)).2).map Y.c)]) rfl ?_
 refine g_val 27 (v' := .int .i64 ((k:Nat):Int)) rfl rfl ?_
 have hr1:=runp_len c l (q.take k)
 have hr2:(q.take k).length≤k:=List.length_take_le _ _
 have hr3:=Rd.old hl
 refine rn [1,46,0,8] ?_
 refine zC rfl (fun h1=>?_) (fun h1=>?_)
 ·have lt_k:k<(min q.length P):=by have h9:=of_decide_eq_true h1;omega
  refine rn [12,7,8,14,1] ?_
  refine s_q (zP (i:=k) rfl rfl rfl (hq.rdb.h (cap:=capq) (by omega) hcq) (by first|exact lt_k|omega)) rfl ?_
  refine s_q (zS (i:=k) rfl (hq.rdb.h (cap:=capq) (by omega) hcq) (vT (l:=q) (m:=(min q.length P)) (by first|exact(by first|exact lt_k|omega)|omega) (by omega)) rfl) rfl ?_
  refine g_op (zK rfl fun b14=>?_)
  refine rn [33,0,10,2,45] ?_
  refine g_op (xQ [Res.blk b9 37 [Value.slice A16 (l).length cap16],Res.row A16 (l).length cap16 52 7 (((run c l (q.take k)).1).map V.c),Res.blk b5 24 c.c,Res.blk b10 45 [Value.slice A ((run c l (q.take k)).2).length cap],Res.row A ((run c l (q.take k)).2).length cap 50 3 (((run c l (q.take k)).2).map Y.c)] rfl rfl (fun w1 hw1 ho1=>by have h7:=pay17_any b9 b5 b10 A16 A (l).length cap16 cap (run c l (q.take k)).1 (run c l (q.take k)).2 c (q[k]) w1 ho1 (run_len _ _ _).symm (by omega) (by omega);exact h7) rfl ?_)
  rintro⟨A33,cap33⟩ _
  refine ii ?_
  refine rn [9,15,7,10,43,2,9] ?_
  have hkq:k<q.length:=by omega
  rw[←run_o hkq,←run_p hkq]
  exact g_ag ((k+1),A33,cap33) (by(try dsimp only);exact(by first|exact lt_k|omega))
 ·have eq_k:k=(min q.length P):=by have h9:=of_decide_eq_false h1;omega
  refine rn [16] ?_
  refine zD (zD (zN ?_))
  refine rn [7,8] ?_
  refine dregL (L0:=[Res.blk b9 37 [Value.slice A16 (l).length cap16],Res.blk b10 45 [Value.slice A (run c l (q.take k)).2.length cap]]) [] mixed rfl zB ?_
  refine rn [23,0,5,23,1,5,23,3,2] ?_
  refine dop 2 rfl (zG _ rfl (fun w1 hw1 ho1=>by have h7:=positive_any A ((run c l (q.take k)).2.length) (cap) ((run c l (q.take k)).2) w1 ho1 (by first|assumption|(simp;done)) (by first|assumption|omega);exact h7) rfl ?_)
  rintro⟨A37,cap37⟩ _
  refine ii ?_
  refine rn [23,4,3,23,5,3,23,6,3,27,7,11] ?_
  exact fin3 rfl (.tmp rfl) (.tmp rfl) (.tmp rfl) (fun w' hw' => ⟨(A16,cap16,A37,cap37),(by exact trivial),by rw[←eq_k],by rw[←eq_k];exact zA w' hw'⟩) _ (.inl rfl)
def churn (a m q:Int):Int:=if q=0 then m else max m (a/q)
theorem qz {a c:Int} (ha:0≤a) (hM:a≤18446744073709551615) (hc:0≤c):IntKind.u64.wrap (a.tdiv c)=a/c:=by
 rw[Int.tdiv_eq_ediv_of_nonneg ha]
 have h1:=Int.ediv_nonneg ha hc
 have h2:=Int.ediv_le_self c ha
 exact wu64 h1 (by omega)
theorem churn_any (x m y:Int) (w:World) (hx:0≤x∧x≤18446744073709551615) (hm:0≤m∧m≤18446744073709551615) (hy:0≤y∧y≤18446744073709551615):Pur Tryz.prog 150 [.int .u64 x,.int .u64 m,.int .u64 y] w (.int .u64 (churn x m y)):=by
 refine g_st Tryz.func150 15 (WOK.start [] _) ?_
 refine rn [1,3,0,8,1,2,44,0] ?_
 refine zC rfl (fun h1=>?_) (fun h1=>?_)
 ·refine rn [1,2,3,0,11,13] ?_
  exact fin1 rfl (.tmp rfl) (fun w' hw' => ⟨by simp_all[churn],hw'.upd⟩) _ (.inl rfl)
 ·refine rn [12,7,1,2,2,2] ?_
  refine s_q (q_quo rfl rfl (by simp_all)) rfl ?_
  refine g_val 13 (v' := .int .u64 (x/y)) rfl (by rw[qz hx.1 hx.2 hy.1]) ?_
  refine rn [59,3,0,11] ?_
  exact fin1 rfl (.tmp rfl) (fun w' hw' => ⟨by simp_all[churn],hw'.upd⟩) _ (.inl rfl)
abbrev CkB (b k el:Nat):Res:=Res.blk b 171 [Value.int .i64 ((k:Nat):Int),Value.int .i64 ((el:Nat):Int)]
theorem now_any (cb k el:Nat) (w:World) (hw:W0 [CkB cb (k) (el)] w) (hk:k<4611686018427387904) (hel:1≤el∧el≤4611686018427387904):Keep Tryz.prog 89 [.pointer (some ⟨cb,0,none⟩)] w [CkB cb (k) (el)] (.int .i64 ((k:Nat):Int)):=by
 refine g_st Tryz.func89 7 hw ?_
 refine rn [1,3,0,1,2,6,4,5,3,0,11] ?_
 exact fin1 rfl (.tmp rfl) (fun w' hw' => ⟨(),trivial,by first|rfl|(simp_all;done),zA w' hw'⟩) _ (.inl rfl)
theorem nextc_any (cb k el:Nat) (w:World) (hw:W0 [CkB cb (k) (el)] w) (hk:k<4611686018427387904) (hel:1≤el∧el≤4611686018427387904):Own2 (ι:=Unit) Tryz.prog 147 [.pointer (some ⟨cb,0,none⟩)] w [CkB cb (k) (el)] (fun x=>True) (fun x=>.tuple #[]) (fun x=>[]) (fun x=>[CkB cb ((k+1)) (el)]):=by
 refine g_st Tryz.func147 9 hw ?_
 refine rn [10,2,6,4,5] ?_
 refine s_q (yJ (z:=((k+1:Nat):Int)) rfl rfl (by rw[wi64 (by omega) (by omega)];omega)) rfl ?_
 refine rn [6,4] ?_
 refine g_op (zJ rfl rfl rfl rfl rfl rfl rfl ?_)
 refine zF (b:=cb) [Value.int .i64 ((k+1:Nat):Int),Value.int .i64 ((el:Nat):Int)] (by simp[splice]) ?_
 refine rn [9] ?_
 exact fin0 rfl (fun w' hw' => ⟨(),(by exact trivial),rfl,zA w' hw'⟩) _ (.inr rfl)
theorem epochof_any (k el:Nat) (w:World) (hk:k<4611686018427387904) (hel:1≤el∧el≤4611686018427387904):Pur Tryz.prog 90 [.int .i64 (k:Int),.int .i64 (el:Int)] w (.int .i64 ((k/el:Nat):Int)):=by
 refine g_st Tryz.func90 14 (WOK.start [] _) ?_
 refine rn [1,3,0,8,1,2,46,2] ?_
 refine zU 7 rfl (fun h1=>?_) (fun h1=>?_)
 ·refine rn [21,21,41,0,19,1,3,0,11,13] ?_
  exact fin1 rfl (.tmp rfl) (fun w' hw' => ⟨by first|rfl|(exfalso;simp_all;omega),hw'.upd⟩) _ (.inl rfl)
 ·refine rn [22,2,22,46,42,0] ?_
  refine zC rfl (fun h2=>?_) (fun h2=>?_)
  ·refine rn [1,3,0,11,13] ?_
   exact fin1 rfl (.tmp rfl) (fun w' hw' => ⟨by first|rfl|(exfalso;simp_all;omega),hw'.upd⟩) _ (.inl rfl)
  ·refine rn [12,7,1,2,2] ?_
   refine s_q (q_quon (a:=k) (b:=el) rfl rfl (by first|omega|(simp;omega)|(simp_all;omega)) (by first|omega|(simp;omega)|(simp_all;omega))) rfl ?_
   refine rn [3,0,11] ?_
   exact fin1 rfl (.tmp rfl) (fun w' hw' => ⟨by first|rfl|(exfalso;simp_all;omega),hw'.upd⟩) _ (.inl rfl)
theorem tickc_any (cb k el:Nat) (w:World) (hw:W0 [CkB cb (k) (el)] w) (hk:k<4611686018427387903) (hel:1≤el∧el≤4611686018427387904):Own2 (ι:=Unit) Tryz.prog 100 [.pointer (some ⟨cb,0,none⟩)] w [CkB cb (k) (el)] (fun x=>True) (fun x=>.bool (decide ((k+1)%el=0))) (fun x=>[]) (fun x=>[CkB cb ((k+1)) (el)]):=by
 refine g_st Tryz.func100 19 hw ?_
 refine rn [1,3,0,8,1,2,50,0,20,12,7,1,2,6,4] ?_
 refine g_op (zG _ rfl (fun w1 hw1 ho1=>by have h7:=nextc_any cb k el w1 ho1 (by omega) hel;exact h7) rfl ?_)
 rintro⟨⟩ _
 refine ii ?_
 refine rn [0,8] ?_
 refine dreg [] mixed rfl ?_
 refine rn [23,0,2,23,1,6,23,2,4,23,4,2,23,5,6,23,6,4,23,7,5] ?_
 refine dop 3 rfl (zL _ rfl (fun w1 hw1 ho1=>by exact now_any cb (k+1) el w1 ho1 (by omega) hel) rfl ?_)
 refine dq 8 rfl (wG (a:=(k+1)) (b:=el) rfl rfl (by first|omega|(simp;omega)|(simp_all;omega))) ?_
 refine rn [23,9,44,23,10,3,27,7,11] ?_
 exact fin1 rfl (.tmp rfl) (fun w' hw' => ⟨(),(by exact trivial),by congr 1;simp only[decide_eq_decide];omega,zA w' hw'⟩) _ (.inl rfl)
theorem yL (cb k el:Nat) (w:World) (hw:W0 [CkB cb (k) (el)] w) (hk:k<4611686018427387904) (hel:1≤el∧el≤4611686018427387904):Keep Tryz.prog 45 [.pointer (some ⟨cb,0,none⟩)] w [CkB cb (k) (el)] (.int .i64 ((k:Nat):Int)):=by
 refine g_st Tryz.func45 9 hw ?_
 refine rn [1,3,0,8,1,2,50,0,20,12,7,1,2,6,4] ?_
 refine g_op (zL _ rfl (fun w1 hw1 ho1=>by exact now_any cb k el w1 ho1 hk hel) rfl ?_)
 refine rn [3,0,11] ?_
 exact fin1 rfl (.tmp rfl) (fun w' hw' => ⟨(),trivial,by first|rfl|(simp_all;done),zA w' hw'⟩) _ (.inl rfl)
theorem zY (cb k el:Nat) (w:World) (hw:W0 [CkB cb (k) (el)] w) (hk:k<4611686018427387904) (hel:1≤el∧el≤4611686018427387904):Keep Tryz.prog 46 [.pointer (some ⟨cb,0,none⟩)] w [CkB cb (k) (el)] (.int .i64 ((k/el:Nat):Int)):=by
 refine g_st Tryz.func46 14 hw ?_
 refine rn [1,3,0,8,1,2,50,0,20,12,7,8] ?_
 refine dreg [] mixed rfl ?_
 refine rn [23,0,2,23,1,6,23,2,4,23,4,2,23,5,6,23,6,4,23,7,5] ?_
 refine dop 3 rfl (zL _ rfl (fun w1 hw1 ho1=>by exact now_any cb k el w1 ho1 hk hel) rfl ?_)
 refine dop 8 rfl (zI rfl (fun w1 hw1=>by exact epochof_any k el w1 hk hel) rfl ?_)
 refine rn [23,9,3,27,7,11] ?_
 exact fin1 rfl (.tmp rfl) (fun w' hw' => ⟨(),trivial,by first|rfl|(simp_all;done),zA w' hw'⟩) _ (.inl rfl)
theorem newc_any (el:Nat) (w:World) (hel:1≤el):Own2 (ι:=Nat) Tryz.prog 34 [.int .i64 (el:Int)] w [] (fun x=>True) (fun x=>.pointer (some ⟨x,0,none⟩)) (fun x=>[CkB x (0) (el)]) (fun x=>[]):=by
 refine g_st Tryz.func34 8 (WOK.start (fps []) _) ?_
 refine rn [1,3,0,8,1,2,46,0] ?_
 refine zC rfl (fun h1=>?_) (fun h1=>?_)
 ·exfalso;have h9:=of_decide_eq_true h1;omega
 ·refine rn [12,7,1,2] ?_
  refine s_q (yH (c:=[Value.int .i64 ((0:Nat):Int),Value.int .i64 ((el:Nat):Int)]) rfl rfl) rfl ?_
  refine g_op (g_box rfl rfl rfl fun b7=>?_)
  refine rn [3,0,11] ?_
  exact fin1 rfl (.tmp rfl) (fun w' hw' => ⟨b7,(by exact trivial),rfl,zA w' hw'⟩) _ (.inl rfl)
abbrev LgB (b:Nat) (d p u cap:Int):Res:=Res.blk b 175 [Value.int .u64 d,Value.int .u64 p,Value.int .u64 u,Value.int .u64 cap]
def ledC (cap d p u a:Int):Int:=if cap-(d-p-u)<a then 4 else if 18446744073709551615<d+a then 10 else 0
def bookC (d p u a:Int):Int:=if d-p-u<a then 3 else 0
structure LOk (cap d p u:Int):Prop where
 hp:0≤p
 hu:0≤u
 hd:p+u≤d
 hm:d≤18446744073709551615
 hc:d-p-u≤cap
 hcm:cap≤18446744073709551615
theorem pT (lb:Nat) (d p u cap:Int) (w:World) (hw:W0 [LgB lb (d) (p) (u) (cap)] w) (hl:LOk cap d p u):Keep Tryz.prog 162 [.pointer (some ⟨lb,0,none⟩)] w [LgB lb (d) (p) (u) (cap)] (.int .u64 (d-p-u)):=by
 refine g_st Tryz.func162 20 hw ?_
 obtain⟨l1,l2,l3,l4,l5,l6⟩:=hl
 refine rn [1,3,0,8] ?_
 refine dreg [] mixed rfl ?_
 refine rn [23,0,2,23,1,6,23,2,4,23,3,4,23,4,5,23,5,2,23,6,6,23,7,4,23,8,4,23,9,5] ?_
 refine dq 10 rfl (yZ (z:=d-p) rfl rfl (by rw[IntKind.wrap_u64];omega)) ?_
 refine rn [23,11,2,23,12,6,23,13,4,23,14,4,23,15,5] ?_
 refine dq 16 rfl (yZ (z:=d-p-u) rfl rfl (by rw[IntKind.wrap_u64];omega)) ?_
 refine rn [23,17,3,27,7,11] ?_
 exact fin1 rfl (.tmp rfl) (fun w' hw' => ⟨(),trivial,by first|rfl|(simp_all;done),zA w' hw'⟩) _ (.inl rfl)
theorem book_paid (lb:Nat) (d p u cap:Int) (a:Int) (q:Nat) (w:World) (hw:W0 [LgB lb (d) (p) (u) (cap)] w) (hl:LOk cap d p u) (ha:0≤a∧a≤18446744073709551615) (hq:Rd w [LgB lb (d) (p) (u) (cap)] (some ⟨q,0,none⟩) 1 1 ([a].map (fun v:Int=>[Value.int .u64 v]))):Own2 (ι:=Unit) Tryz.prog 177 [.pointer (some ⟨lb,0,none⟩),.pointer (some ⟨lb,1,none⟩),.slice (some ⟨q,0,none⟩) 1 1] w [LgB lb (d) (p) (u) (cap)] (fun x=>True) (fun x=>.int .i64 (bookC d p u a)) (fun x=>[]) (fun x=>[LgB lb (d) ((if bookC d p u a=0 then p+a else p)) (u) (cap)]):=by
 refine g_st Tryz.func177 28 hw ?_
 have hl0:=hl
 obtain⟨l1,l2,l3,l4,l5,l6⟩:=hl0
 refine rn [1,3,0,1,2] ?_
 refine g_op (zI rfl (fun w1 hw1=>vP (some ⟨q,0,none⟩) (1) (1) ([a]) w1 (Rdb.toOld hq.rdb hw1) (by intro x hx;simp at hx;omega) (by first|omega|(simp;omega)|(simp;done))) rfl ?_)
 refine rn [2] ?_
 refine g_val 9 (v' := .tuple [.int .u64 a,.bool true].toArray) rfl (by rw[(sF ha).1,(sF ha).2]) ?_
 refine rn [40,40,3,3,0,8,1,2,48,2,22,2,22,2] ?_
 refine g_gt rfl rfl (zL _ rfl (fun w1 hw1 ho1=>by exact pT lb (d) (p) (u) (cap) w1 ho1 hl) rfl ?_)
 refine rn [22,55,42,0] ?_
 refine zC rfl (fun h1=>?_) (fun h1=>?_)
 ·have hb:bookC d p u a=3:=by unfold bookC;rw[if_pos (by have h9:=of_decide_eq_true h1;omega)]
  refine rn [1,3,0,11,13] ?_
  exact fin1 rfl (.tmp rfl) (fun w' hw' => ⟨(),(by exact trivial),by rw[hb],by have h9:=zB (L' := [LgB lb (d) (p) (u) (cap)]) w' hw';show WOK _ _ [LgB lb (d) ((if bookC d p u a=0 then p+a else p)) (u) (cap)] _;rw[hb];simp only[show¬((3:Int)=0) from by decide,if_false];exact h9⟩) _ (.inl rfl)
 ·have hb:bookC d p u a=0:=by unfold bookC;rw[if_neg (by have h9:=of_decide_eq_false h1;omega)]
  have hle:a≤d-p-u:=by have h9:=of_decide_eq_false h1;omega
  refine rn [12,7,1,2,6,5,2] ?_
  refine s_q (yJ (z:=p+a) rfl rfl (by rw[IntKind.wrap_u64];omega)) rfl ?_
  refine rn [6] ?_
  refine g_op (zJ rfl rfl rfl rfl rfl rfl rfl ?_)
  refine zF (b:=lb) [Value.int .u64 (d),Value.int .u64 (p+a),Value.int .u64 (u),Value.int .u64 (cap)] (by simp[splice]) ?_
  refine rn [0,1,3,0,11] ?_
  exact fin1 rfl (.tmp rfl) (fun w' hw' => ⟨(),(by exact trivial),by rw[hb],by have h9:=zB (L' := [LgB lb (d) (p+a) (u) (cap)]) w' hw';show WOK _ _ [LgB lb (d) ((if bookC d p u a=0 then p+a else p)) (u) (cap)] _;rw[hb];simp only[if_true];exact h9⟩) _ (.inl rfl)
theorem book_burn (lb:Nat) (d p u cap:Int) (a:Int) (q:Nat) (w:World) (hw:W0 [LgB lb (d) (p) (u) (cap)] w) (hl:LOk cap d p u) (ha:0≤a∧a≤18446744073709551615) (hq:Rd w [LgB lb (d) (p) (u) (cap)] (some ⟨q,0,none⟩) 1 1 ([a].map (fun v:Int=>[Value.int .u64 v]))):Own2 (ι:=Unit) Tryz.prog 177 [.pointer (some ⟨lb,0,none⟩),.pointer (some ⟨lb,2,none⟩),.slice (some ⟨q,0,none⟩) 1 1] w [LgB lb (d) (p) (u) (cap)] (fun x=>True) (fun x=>.int .i64 (bookC d p u a)) (fun x=>[]) (fun x=>[LgB lb (d) (p) ((if bookC d p u a=0 then u+a else u)) (cap)]):=by
 refine g_st Tryz.func177 28 hw ?_
 have hl0:=hl
 obtain⟨l1,l2,l3,l4,l5,l6⟩:=hl0
 refine rn [1,3,0,1,2] ?_
 refine g_op (zI rfl (fun w1 hw1=>vP (some ⟨q,0,none⟩) (1) (1) ([a]) w1 (Rdb.toOld hq.rdb hw1) (by intro x hx;simp at hx;omega) (by first|omega|(simp;omega)|(simp;done))) rfl ?_)
 refine rn [2] ?_
 refine g_val 9 (v' := .tuple [.int .u64 a,.bool true].toArray) rfl (by rw[(sF ha).1,(sF ha).2]) ?_
 refine rn [40,40,3,3,0,8,1,2,48,2,22,2,22,2] ?_
 refine g_gt rfl rfl (zL _ rfl (fun w1 hw1 ho1=>by exact pT lb (d) (p) (u) (cap) w1 ho1 hl) rfl ?_)
 refine rn [22,55,42,0] ?_
 refine zC rfl (fun h1=>?_) (fun h1=>?_)
 ·have hb:bookC d p u a=3:=by unfold bookC;rw[if_pos (by have h9:=of_decide_eq_true h1;omega)]
  refine rn [1,3,0,11,13] ?_
  exact fin1 rfl (.tmp rfl) (fun w' hw' => ⟨(),(by exact trivial),by rw[hb],by have h9:=zB (L' := [LgB lb (d) (p) (u) (cap)]) w' hw';show WOK _ _ [LgB lb (d) (p) ((if bookC d p u a=0 then u+a else u)) (cap)] _;rw[hb];simp only[show¬((3:Int)=0) from by decide,if_false];exact h9⟩) _ (.inl rfl)
 ·have hb:bookC d p u a=0:=by unfold bookC;rw[if_neg (by have h9:=of_decide_eq_false h1;omega)]
  have hle:a≤d-p-u:=by have h9:=of_decide_eq_false h1;omega
  refine rn [12,7,1,2,6,5,2] ?_
  refine s_q (yJ (z:=u+a) rfl rfl (by rw[IntKind.wrap_u64];omega)) rfl ?_
  refine rn [6] ?_
  refine g_op (zJ rfl rfl rfl rfl rfl rfl rfl ?_)
  refine zF (b:=lb) [Value.int .u64 (d),Value.int .u64 (p),Value.int .u64 (u+a),Value.int .u64 (cap)] (by simp[splice]) ?_
  refine rn [0,1,3,0,11] ?_
  exact fin1 rfl (.tmp rfl) (fun w' hw' => ⟨(),(by exact trivial),by rw[hb],by have h9:=zB (L' := [LgB lb (d) (p) (u+a) (cap)]) w' hw';show WOK _ _ [LgB lb (d) (p) ((if bookC d p u a=0 then u+a else u)) (cap)] _;rw[hb];simp only[if_true];exact h9⟩) _ (.inl rfl)
theorem lpaid_any (lb:Nat) (d p u cap:Int) (a:Int) (w:World) (hw:W0 [LgB lb (d) (p) (u) (cap)] w) (hl:LOk cap d p u) (ha:0≤a∧a≤18446744073709551615):Own2 (ι:=Unit) Tryz.prog 161 [.pointer (some ⟨lb,0,none⟩),.int .u64 a] w [LgB lb (d) (p) (u) (cap)] (fun x=>True) (fun x=>.int .i64 (bookC d p u a)) (fun x=>[]) (fun x=>[LgB lb (d) ((if bookC d p u a=0 then p+a else p)) (u) (cap)]):=by
 refine g_st Tryz.func161 18 hw ?_
 refine rn [1,3,0,8,1,2,50,0,20,12,7,8] ?_
 refine dregL (L0:=[]) [] mixed rfl zB ?_
 refine rn [23,0,2,23,1,6,23,2,4,23,3,2,23,4,6,23,5,4,23,6,4,23,7,4,23,8,2] ?_
 refine dop 9 rfl (g_lit rfl rfl rfl rfl rfl fun b16=>?_)
 refine zF (b:=b16) ((([a]:List Int).map (fun v:Int=>[Value.int .u64 v])).flatten) rfl ?_
 refine dop 10 rfl (zG _ rfl (fun w1 hw1 ho1=>by have h7:=book_paid lb (d) (p) (u) (cap) (a) b16 w1 ho1 hl ha (Rd.ofBlk (b:=b16) (els:=([a]:List Int).map (fun v:Int=>[Value.int .u64 v])) hw1 rfl (by simp) rfl);exact h7) rfl ?_)
 rintro⟨⟩ _
 refine ii ?_
 refine rn [23,11,3,27,7,11] ?_
 exact fin1 rfl (.tmp rfl) (fun w' hw' => ⟨(),(by exact trivial),rfl,zA w' hw'⟩) _ (.inl rfl)
theorem lburn_any (lb:Nat) (d p u cap:Int) (a:Int) (w:World) (hw:W0 [LgB lb (d) (p) (u) (cap)] w) (hl:LOk cap d p u) (ha:0≤a∧a≤18446744073709551615):Own2 (ι:=Unit) Tryz.prog 114 [.pointer (some ⟨lb,0,none⟩),.int .u64 a] w [LgB lb (d) (p) (u) (cap)] (fun x=>True) (fun x=>.int .i64 (bookC d p u a)) (fun x=>[]) (fun x=>[LgB lb (d) (p) ((if bookC d p u a=0 then u+a else u)) (cap)]):=by
 refine g_st Tryz.func114 18 hw ?_
 refine rn [1,3,0,8,1,2,50,0,20,12,7,8] ?_
 refine dregL (L0:=[]) [] mixed rfl zB ?_
 refine rn [23,0,2,23,1,6,23,2,4,23,3,2,23,4,6,23,5,4,23,6,4,23,7,4,23,8,2] ?_
 refine dop 9 rfl (g_lit rfl rfl rfl rfl rfl fun b16=>?_)
 refine zF (b:=b16) ((([a]:List Int).map (fun v:Int=>[Value.int .u64 v])).flatten) rfl ?_
 refine dop 10 rfl (zG _ rfl (fun w1 hw1 ho1=>by have h7:=book_burn lb (d) (p) (u) (cap) (a) b16 w1 ho1 hl ha (Rd.ofBlk (b:=b16) (els:=([a]:List Int).map (fun v:Int=>[Value.int .u64 v])) hw1 rfl (by simp) rfl);exact h7) rfl ?_)
 rintro⟨⟩ _
 refine ii ?_
 refine rn [23,11,3,27,7,11] ?_
 exact fin1 rfl (.tmp rfl) (fun w' hw' => ⟨(),(by exact trivial),rfl,zA w' hw'⟩) _ (.inl rfl)
theorem ldep_any (lb:Nat) (d p u cap:Int) (a:Int) (w:World) (hw:W0 [LgB lb (d) (p) (u) (cap)] w) (hl:LOk cap d p u) (ha:0≤a∧a≤18446744073709551615):Own2 (ι:=Unit) Tryz.prog 105 [.pointer (some ⟨lb,0,none⟩),.int .u64 a] w [LgB lb (d) (p) (u) (cap)] (fun x=>True) (fun x=>.int .i64 (ledC cap d p u a)) (fun x=>[]) (fun x=>[LgB lb ((if ledC cap d p u a=0 then d+a else d)) (p) (u) (cap)]):=by
 refine g_st Tryz.func105 40 hw ?_
 have hl0:=hl
 obtain⟨l1,l2,l3,l4,l5,l6⟩:=hl0
 refine rn [1,3,0,8,1,2,50,0,20,12,7,8,8] ?_
 refine dreg [] mixed rfl ?_
 refine rn [23,0,2,23,1,2,23,2,6,23,3,4,23,4,5,23,5,2,23,6,6,23,7,4] ?_
 refine dop 8 rfl (zL _ rfl (fun w1 hw1 ho1=>by exact pT lb (d) (p) (u) (cap) w1 ho1 hl) rfl ?_)
 refine dq 9 rfl (yZ (z:=cap-(d-p-u)) rfl rfl (by rw[IntKind.wrap_u64];omega)) ?_
 refine rn [23,10,55,27,7] ?_
 refine zC rfl (fun h1=>?_) (fun h1=>?_)
 ·have hb:ledC cap d p u a=4:=by unfold ledC;rw[if_pos (by have h9:=of_decide_eq_true h1;omega)]
  refine rn [1,3,0,11,13] ?_
  exact fin1 rfl (.tmp rfl) (fun w' hw' => ⟨(),(by exact trivial),by rw[hb],by have h9:=zB (L' := [LgB lb (d) (p) (u) (cap)]) w' hw';show WOK _ _ [LgB lb ((if ledC cap d p u a=0 then d+a else d)) (p) (u) (cap)] _;rw[hb];simp;exact h9⟩) _ (.inl rfl)
 ·have hle:¬cap-(d-p-u)<a:=by have h9:=of_decide_eq_false h1;omega
  refine rn [12,7,1,2,6,4,4,4,5,2] ?_
  refine g_op (g_lit rfl rfl rfl rfl rfl fun b28=>?_)
  refine zF (b:=b28) ((([d,a]:List Int).map (fun v:Int=>[Value.int .u64 v])).flatten) rfl ?_
  refine g_op (zI rfl (fun w1 hw1=>vP (some ⟨b28,0,none⟩) (2) (2) (([d,a]:List Int)) w1 (Rdb.toOld (InL.rdb (b:=b28) (els:=(([d,a]:List Int)).map (fun v:Int=>[Value.int .u64 v])) rfl (by simp) rfl) hw1) (by intro x hx;simp at hx;rcases hx with rfl|rfl<;>omega) (by first|omega|(simp;omega)|(simp;done))) rfl ?_)
  refine rn [2,40,40,3,3,0,8,1,2,48,0] ?_
  refine zC rfl (fun h2=>?_) (fun h2=>?_)
  ·have hb:ledC cap d p u a=10:=by unfold ledC;rw[if_neg hle,if_pos (by have h9:=h2;simp[addB] at h9;omega)]
   refine rn [1,3,0,11,13] ?_
   exact fin1 rfl (.tmp rfl) (fun w' hw' => ⟨(),(by exact trivial),by rw[hb],by have h9:=zB (L' := [LgB lb (d) (p) (u) (cap)]) w' hw';show WOK _ _ [LgB lb ((if ledC cap d p u a=0 then d+a else d)) (p) (u) (cap)] _;rw[hb];simp;exact h9⟩) _ (.inl rfl)
  ·have hb:ledC cap d p u a=0:=by unfold ledC;rw[if_neg hle,if_neg (by have h9:=h2;simp[addB] at h9;omega)]
   have hsm:addV [d,a]=d+a:=by have h9:=h2;simp[addB] at h9;unfold addV;rw[if_pos (by simp;omega)];simp
   refine rn [12,7,1,2,2,6,4,4,4] ?_
   refine g_op (zJ rfl rfl rfl rfl rfl rfl rfl ?_)
   refine zF (b:=lb) [Value.int .u64 (d+a),Value.int .u64 p,Value.int .u64 u,Value.int .u64 cap] (by rw[hsm];simp[splice]) ?_
   refine rn [0,1,3,0,11] ?_
   exact fin1 rfl (.tmp rfl) (fun w' hw' => ⟨(),(by exact trivial),by rw[hb],by have h9:=zB (L' := [LgB lb (d+a) (p) (u) (cap)]) w' hw';show WOK _ _ [LgB lb ((if ledC cap d p u a=0 then d+a else d)) (p) (u) (cap)] _;rw[hb];simp;exact h9⟩) _ (.inl rfl)
theorem lnew_led (cap:Int) (w:World) : Own2 (ι:=Nat) Tryz.prog 35 [.int .u64 cap] w [] (fun x=>True) (fun x=>.pointer (some ⟨x,0,none⟩)) (fun x=>[LgB x (0) (0) (0) (cap)]) (fun x=>[]):=by
 refine g_st Tryz.func35 6 (WOK.start (fps []) _) ?_
 refine rn [1,3,0,1,2] ?_
 refine s_q (yH (c:=[Value.int .u64 0,Value.int .u64 0,Value.int .u64 0,Value.int .u64 cap]) rfl rfl) rfl ?_
 refine g_op (g_box rfl rfl rfl fun b5=>?_)
 refine rn [3,0,11] ?_
 exact fin1 rfl (.tmp rfl) (fun w' hw' => ⟨b5,(by exact trivial),rfl,zA w' hw'⟩) _ (.inl rfl)
theorem ltot_any (lb:Nat) (d p u cap:Int) (w:World) (hw:W0 [LgB lb (d) (p) (u) (cap)] w) : Keep Tryz.prog 44 [.pointer (some ⟨lb,0,none⟩)] w [LgB lb (d) (p) (u) (cap)] (.agg #[.int .u64 d,.int .u64 p,.int .u64 u]):=by
 refine g_st Tryz.func44 11 hw ?_
 refine rn [1] ?_
 refine g_op (zK rfl fun b2=>?_)
 refine rn [0,8,1,2,50,0,20,12,7,1,2,6,4,4] ?_
 refine s_q (yQ (c' := [Value.int .u64 d,.int .u64 p,.int .u64 u]) rfl rfl rfl) rfl ?_
 refine rn [33,0,11] ?_
 exact fin1 rfl (.cellw rfl rfl) (fun w' hw' => ⟨(),trivial,by first|rfl|(simp_all;done),zA w' hw'⟩) _ (.inl rfl)
abbrev CuB (b k:Nat):Res:=Res.blk b 180 [Value.int .i64 ((k:Nat):Int)]
theorem unew_any (w:World) : Own2 (ι:=Nat) Tryz.prog 37 [] w [] (fun x=>True) (fun x=>.pointer (some ⟨x,0,none⟩)) (fun x=>[CuB x (0)]) (fun x=>[]):=by
 refine g_st Tryz.func37 3 (WOK.start (fps []) _) ?_
 refine rn [1,3,0,1] ?_
 refine s_q (yH (c:=[Value.int .i64 ((0:Nat):Int)]) rfl rfl) rfl ?_
 refine g_op (g_box rfl rfl rfl fun b2=>?_)
 refine rn [3,0,11] ?_
 exact fin1 rfl (.tmp rfl) (fun w' hw' => ⟨b2,(by exact trivial),rfl,zA w' hw'⟩) _ (.inl rfl)
theorem uat_any (ub k:Nat) (w:World) (hw:W0 [CuB ub (k)] w) : Keep Tryz.prog 53 [.pointer (some ⟨ub,0,none⟩)] w [CuB ub (k)] (.int .i64 ((k:Nat):Int)):=by
 refine g_st Tryz.func53 9 hw ?_
 refine rn [1,3,0,8,1,2,50,0,20,12,7,1,2,6,4,5,3,0,11] ?_
 exact fin1 rfl (.tmp rfl) (fun w' hw' => ⟨(),trivial,by first|rfl|(simp_all;done),zA w' hw'⟩) _ (.inl rfl)
theorem wB (y:Op) (e k q:Int) (w:World) : Pur Tryz.prog 56 [.agg y.c.toArray,.int .i64 e,.int .i64 k,.int .i64 q] w (.agg #[.int .i64 y.k,.int .i64 e,.int .i64 (-1),.int .i64 k,.int .i64 q,.int .i64 (-1),.slice none 0 0,.slice none 0 0,.int .i64 0]):=by
 refine g_st Tryz.func56 15 (WOK.start [] _) ?_
 refine rn [1] ?_
 refine g_op (g_box rfl rfl rfl fun b4=>?_)
 refine g_op (zK rfl fun b8=>?_)
 refine rn [0,1,4,5,2,2,2] ?_
 refine s_q (yH (c:=[Value.int .i64 (y.k),.int .i64 (e),.int .i64 (-1),.int .i64 (k),.int .i64 (q),.int .i64 (-1),.slice none 0 0,.slice none 0 0,.int .i64 0]) rfl rfl) rfl ?_
 refine rn [33,0,11] ?_
 exact fin1 rfl (.cellw rfl rfl) (fun w' hw' => ⟨by rfl,hw'.upd⟩) _ (.inl rfl)
theorem yX (y:Op) (i dl k q:Int) (w:World) : Pur Tryz.prog 65 [.agg y.c.toArray,.int .i64 i,.int .i64 dl,.int .i64 k,.int .i64 q] w (.agg #[.int .i64 y.k,.int .i64 0,.int .i64 i,.int .i64 k,.int .i64 q,.int .i64 dl,.slice none 0 0,.slice none 0 0,.int .i64 0]):=by
 refine g_st Tryz.func65 18 (WOK.start [] _) ?_
 refine rn [1] ?_
 refine g_op (g_box rfl rfl rfl fun b5=>?_)
 refine g_op (zK rfl fun b10=>?_)
 refine rn [0,1,4,5,2,2,2,2] ?_
 refine s_q (yH (c:=[Value.int .i64 (y.k),.int .i64 (0),.int .i64 (i),.int .i64 (k),.int .i64 (q),.int .i64 (dl),.slice none 0 0,.slice none 0 0,.int .i64 0]) rfl rfl) rfl ?_
 refine rn [33,0,11] ?_
 exact fin1 rfl (.cellw rfl rfl) (fun w' hw' => ⟨by rfl,hw'.upd⟩) _ (.inl rfl)
theorem yK (e:Int) (w:World) : Pur Tryz.prog 64 [.int .i64 e] w (.agg #[.int .i64 e,.int .i64 0,.int .i64 0]):=by
 refine g_st Tryz.func64 5 (WOK.start [] _) ?_
 refine rn [1] ?_
 refine g_op (zK rfl fun b2=>?_)
 refine rn [0,1,2] ?_
 refine s_q (yH (c:=[Value.int .i64 e,.int .i64 0,.int .i64 0]) rfl rfl) rfl ?_
 refine rn [33,0,11] ?_
 exact fin1 rfl (.cellw rfl rfl) (fun w' hw' => ⟨by rfl,hw'.upd⟩) _ (.inl rfl)
theorem xM (i d:Int) (w:World) : Pur Tryz.prog 108 [.int .i64 i,.int .i64 d] w (.agg #[.int .i64 0,.int .i64 i,.int .i64 d]):=by
 refine g_st Tryz.func108 8 (WOK.start [] _) ?_
 refine rn [1] ?_
 refine g_op (zK rfl fun b4=>?_)
 refine rn [0,1,2,2] ?_
 refine s_q (yH (c:=[Value.int .i64 0,.int .i64 i,.int .i64 d]) rfl rfl) rfl ?_
 refine rn [33,0,11] ?_
 exact fin1 rfl (.cellw rfl rfl) (fun w' hw' => ⟨by rfl,hw'.upd⟩) _ (.inl rfl)
end Go.Proofs.YtdddiilocbbkkaaGreat
