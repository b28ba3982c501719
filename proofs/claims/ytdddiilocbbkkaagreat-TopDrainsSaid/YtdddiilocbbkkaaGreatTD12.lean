/- TopDrains: for every configuration and all operations the law returns true. No condition. Part 12 of 28. -/
import Derived.Test.YtdddiilocbbkkaaGreatTD10
set_option linter.unusedVariables false
set_option linter.unusedSimpArgs false
namespace Go.Proofs.YtdddiilocbbkkaaGreat
open Go.RowKit Go.Eg
set_option maxHeartbeats 4000000
set_option synthInstance.maxSize 3000
set_option maxRecDepth 100000
def dueO (ep:Int) (l:List En):List Int:=(l.filter fun x=>decide (x.e=ep)).map En.i
def keepE (ep:Int) (l:List En):List En:=l.filter fun x => !decide (x.e=ep)
theorem dueO_app (ep:Int) (a b:List En):dueO ep (a++b)=dueO ep a++dueO ep b:=by simp[dueO]
theorem keepE_app (ep:Int) (a b:List En):keepE ep (a++b)=keepE ep a++keepE ep b:=by simp[keepE]
theorem dueO_yes {ep:Int} {y:En} (h:y.e=ep):dueO ep [y]=[y.i]:=by simp[dueO,h]
theorem dueO_no {ep:Int} {y:En} (h:¬y.e=ep):dueO ep [y]=[]:=by simp[dueO,h]
theorem rU {ep:Int} {y:En} (h:y.e=ep):keepE ep [y]=[]:=by simp[keepE,h]
theorem keepE_no {ep:Int} {y:En} (h:¬y.e=ep):keepE ep [y]=[y]:=by simp[keepE,h]
theorem dueO_le (ep:Int) (l:List En):(dueO ep l).length≤l.length:=by simpa[dueO] using List.length_filter_le _ l
theorem due_keep (ep:Int):∀l:List En,(dueO ep l).length+(keepE ep l).length=l.length
 | []=>rfl
 | y :: l=>by
  have ih:=due_keep ep l
  have e1:=dueO_app ep [y] l
  have e2:=keepE_app ep [y] l
  simp only[List.singleton_append] at e1 e2
  rw[e1,e2]
  by_cases h:y.e=ep
  ·rw[dueO_yes h,rU h];simp;omega
  ·rw[dueO_no h,keepE_no h];simp;omega
theorem dueO_none {ep:Int} {l:List En} (h:∀y∈l,¬y.e=ep):dueO ep l=[]:=by
 unfold dueO;rw[List.filter_eq_nil_iff.2 fun y hy=>by simp[h y hy]];rfl
theorem vZ {ep:Int} {l:List En} (h:∀y∈l,¬y.e=ep):keepE ep l=l:=List.filter_eq_self.2 fun y hy=>by simp[h y hy]
theorem sB (ep:Int) {l:List En} {j:Nat} (h:j<l.length):dueO ep (l.take j)++dueO ep [l[j]]=dueO ep (l.take (j+1)):=by rw[←dueO_app,List.take_append_getElem h]
theorem sM (ep:Int) {l:List En} {j:Nat} (h:j<l.length):keepE ep (l.take (j+1))=keepE ep (l.take j)++keepE ep [l[j]]:=by rw[←keepE_app,List.take_append_getElem h]
theorem del_keep {ep:Int} {s l:List En} {i j:Nat} (hij:i<j) (hs:j<s.length) (hj:j<l.length) (htk:s.take i=keepE ep (l.take j)) (hdr:s.drop j=l.drop j) (h0:¬s[j].e=ep) :
  (s.set i s[j]).take (i+1)=keepE ep (l.take (j+1))∧(s.set i s[j]).drop (j+1)=l.drop (j+1):=by
 obtain⟨h1,h2⟩:=uE hdr hs hj
 constructor
 ·rw[sM ep hj,←h1,keepE_no h0,←htk,List.set_eq_take_append_cons_drop,if_pos (by omega),show s.take i++s[j] :: s.drop (i+1)=(s.take i++[s[j]])++s.drop (i+1) by simp]
  exact List.take_left' (by simp;omega)
 ·rw[List.drop_set_of_lt (by omega)];exact h2
theorem del_drop {ep:Int} {s l:List En} {i j:Nat} (hs:j<s.length) (hj:j<l.length) (htk:s.take i=keepE ep (l.take j)) (hdr:s.drop j=l.drop j) (h0:s[j].e=ep):s.take i=keepE ep (l.take (j+1))∧s.drop (j+1)=l.drop (j+1):=by
 obtain⟨h1,h2⟩:=uE hdr hs hj
 exact⟨by rw[sM ep hj,←h1,rU h0,List.append_nil];exact htk,h2⟩
theorem keep_pre {ep:Int} {l:List En} {i:Nat} (hi:i<l.length) (hp:∀y∈l.take i,¬y.e=ep) (ha:(l[i]?.map En.e)=some ep):l.take i=keepE ep (l.take (i+1)):=by
 have h0:l[i].e=ep:=by rw[List.getElem?_eq_getElem hi] at ha;simpa using ha
 rw[sM ep hi,rU h0,List.append_nil]
 exact(vZ hp).symm
theorem bk_get {bs:List (Bk En)} {i:Nat} {A:Option Addr} {c:Nat} {els:List En} (h:bs[i]?=some ⟨A,c,els⟩):(bs.map fun k:Bk En=>[k.v])[i]?=some [Value.slice A els.length c]:=by
 rw[List.getElem?_map,h];rfl
theorem due1_any (eb ob:Nat) (ep:Int) (A:Option Addr) (cap:Nat) (o:List Int) (y:En) (w:World) (hw:W0 [Res.blk eb 3 [Value.int .i64 (ep)],Res.blk ob 38 [Value.slice A (o).length cap],Res.row A (o).length cap 3 1 ((o).map (fun v:Int=>[Value.int .i64 v]))] w) (hob:o.length≤1000000):Own2 (ι:=(Option Addr × Nat)) Tryz.prog 275 [.agg y.c.toArray,.pointer (some ⟨eb,0,none⟩),.pointer (some ⟨ob,0,none⟩)] w [Res.blk eb 3 [Value.int .i64 (ep)],Res.blk ob 38 [Value.slice A (o).length cap],Res.row A (o).length cap 3 1 ((o).map (fun v:Int=>[Value.int .i64 v]))] (fun x=>True) (fun x=>.bool (decide (y.e=ep))) (fun x=>[]) (fun x=>[Res.blk eb 3 [Value.int .i64 (ep)],Res.blk ob 38 [Value.slice x.1 ((o++dueO ep [y])).length x.2],Res.row x.1 ((o++dueO ep [y])).length x.2 3 1 (((o++dueO ep [y])).map (fun v:Int=>[Value.int .i64 v]))]):=by
 refine g_st Tryz.func275 14 hw ?_
 refine rn [1] ?_
 refine g_op (g_box rfl rfl rfl fun b3=>?_)
 refine rn [3,0,8,1,4,5,5,51,0] ?_
 refine zC rfl (fun h1=>?_) (fun h1=>?_)
 ·have hne:¬y.e=ep:=by simpa using h1
  refine rn [1,3,0,11,13] ?_
  exact fin1 rfl (.tmp rfl) (fun w' hw' => ⟨(A,cap),(by exact trivial),by rw[decide_eq_false hne],by have h9:=zB (L' := [Res.blk eb 3 [Value.int .i64 (ep)],Res.blk ob 38 [Value.slice A (o).length cap],Res.row A (o).length cap 3 1 ((o).map (fun v:Int=>[Value.int .i64 v]))]) w' hw';show WOK _ _ [Res.blk eb 3 [Value.int .i64 (ep)],Res.blk ob 38 [Value.slice ((A,cap)).1 ((o++dueO ep [y])).length ((A,cap)).2],Res.row ((A,cap)).1 ((o++dueO ep [y])).length ((A,cap)).2 3 1 (((o++dueO ep [y])).map (fun v:Int=>[Value.int .i64 v]))] _;simp only[dueO_no hne,List.append_nil];exact h9⟩) _ (.inl rfl)
 ·have heq:y.e=ep:=by simpa using h1
  refine rn [12,7,1,5,4,5] ?_
  refine g_op (g_lit rfl rfl rfl rfl rfl fun b12=>?_)
  refine zF (b:=b12) ((([(y).i]:List Int).map (fun v:Int=>[Value.int .i64 v])).flatten) rfl ?_
  refine g_op (zZ (A:=A) (els:=(o).map (fun v:Int=>[Value.int .i64 v])) (news:=(([(y).i]:List Int).map (fun v:Int=>[Value.int .i64 v]))) rfl rfl (InL.rdb (b:=b12) rfl (by simp) rfl) (yF (c:=(fun v:Int=>[Value.int .i64 v])) (by intro x;simp[Value.oneCell']) _) (by omega) rfl fun A13 cap13=>⟨_,inferInstance,?_⟩)
  refine zH (A:=A13) (((o++[(y).i])).map (fun v:Int=>[Value.int .i64 v])) (by first|rfl|exact List.map_append.symm|(simp;done)) ?_
  refine g_op (zJ rfl rfl rfl rfl rfl rfl rfl ?_)
  refine yB (A:=A13) (o++[y.i]).length (by simp) ?_
  refine zF (b:=ob) [Value.slice A13 (o++[y.i]).length cap13] (by simp[splice]) ?_
  refine rn [0,1,3,0,11] ?_
  exact fin1 rfl (.tmp rfl) (fun w' hw' => ⟨(A13,cap13),(by exact trivial),by rw[decide_eq_true heq],by have h9:=zB (L' := [Res.blk eb 3 [Value.int .i64 (ep)],Res.blk ob 38 [Value.slice A13 ((o++[y.i])).length cap13],Res.row A13 ((o++[y.i])).length cap13 3 1 (((o++[y.i])).map (fun v:Int=>[Value.int .i64 v]))]) w' hw';show WOK _ _ [Res.blk eb 3 [Value.int .i64 (ep)],Res.blk ob 38 [Value.slice ((A13,cap13)).1 ((o++dueO ep [y])).length ((A13,cap13)).2],Res.row ((A13,cap13)).1 ((o++dueO ep [y])).length ((A13,cap13)).2 3 1 (((o++dueO ep [y])).map (fun v:Int=>[Value.int .i64 v]))] _;simp only[dueO_yes heq];exact h9⟩) _ (.inl rfl)
theorem index_any (eb ob:Nat) (ep:Int) (O:Option Addr) (oc:Nat) (o:List Int) (A:Option Addr) (n cap:Nat) (l:List En) (w:World) (hw:W0 [Res.row A n cap 297 2 ((l).map En.c),Res.blk eb 3 [Value.int .i64 (ep)],Res.blk ob 38 [Value.slice O (o).length oc],Res.row O (o).length oc 3 1 ((o).map (fun v:Int=>[Value.int .i64 v]))] w) (hn:n=l.length) (hcap:o.length+n≤1000000):Own2 (ι:=(Int × Option Addr × Nat × List Int)) Tryz.prog 314 [.slice A n cap,.func (.func 275) #[] [Value.pointer (some ⟨eb,0,none⟩),Value.pointer (some ⟨ob,0,none⟩)].toArray] w [Res.row A n cap 297 2 ((l).map En.c),Res.blk eb 3 [Value.int .i64 (ep)],Res.blk ob 38 [Value.slice O (o).length oc],Res.row O (o).length oc 3 1 ((o).map (fun v:Int=>[Value.int .i64 v]))] (fun x=>((x.1=-1∧(∀y∈l,¬y.e=ep))∧x.2.2.2=o++dueO ep l)∨(∃k:Nat,x.1=k∧k<l.length∧(∀y∈l.take k,¬y.e=ep)∧(l[k]?.map En.e)=some ep∧x.2.2.2=o++dueO ep (l.take (k+1)))) (fun x=>.int .i64 x.1) (fun x=>[]) (fun x=>[Res.row A n cap 297 2 ((l).map En.c),Res.blk eb 3 [Value.int .i64 (ep)],Res.blk ob 38 [Value.slice x.2.1 (x.2.2.2).length x.2.2.1],Res.row x.2.1 (x.2.2.2).length x.2.2.1 3 1 ((x.2.2.2).map (fun v:Int=>[Value.int .i64 v]))]):=by
 refine g_st Tryz.func314 19 hw ?_
 refine rn [1,3,0,8,1,2,47,2,0,14] ?_
 refine g_lk [0,1,4,7] (fun(x:Nat × Option Addr × Nat × List Int)=>[(8,.int .i64 ((x.1:Nat):Int))]) (fun(x:Nat × Option Addr × Nat × List Int)=>[Res.row A n cap 297 2 ((l).map En.c),Res.blk eb 3 [Value.int .i64 (ep)],Res.blk ob 38 [Value.slice x.2.1 (x.2.2.2).length x.2.2.1],Res.row x.2.1 (x.2.2.2).length x.2.2.1 3 1 ((x.2.2.2).map (fun v:Int=>[Value.int .i64 v]))]) (fun(x:Nat × Option Addr × Nat × List Int)=>x.1≤l.length∧x.2.2.2=o++dueO ep (l.take x.1)∧(∀y∈l.take x.1,¬y.e=ep)) (fun(x:Nat × Option Addr × Nat × List Int)=>l.length-x.1) (0,O,oc,o) (by(try dsimp only);exact⟨Nat.zero_le _,(by simp[dueO]),(by simp)⟩) ?_
 rintro⟨k,O1,oc1,o1⟩ ⟨le_k,ho,hz⟩
 replace le_k:k≤l.length:=le_k
 replace ho:o1=o++dueO ep (l.take k):=ho
 replace hz:∀y∈l.take k,¬y.e=ep:=hz
 refine zV (L' := [Res.row A n cap 297 2 ((l).map En.c),Res.blk eb 3 [Value.int .i64 (ep)],Res.blk ob 38 [Value.slice O1 (o1).length oc1],Res.row O1 (o1).length oc1 3 1 ((o1).map (fun v:Int=>[Value.int .i64 v]))]) rfl ?_
 refine g_val 8 (v' := .int .i64 ((k:Nat):Int)) rfl rfl ?_
 refine rn [1,46,0,8] ?_
 refine zC rfl (fun h1=>?_) (fun h1=>?_)
 ·have lt_k:k<l.length:=by have h9:=of_decide_eq_true h1;omega
  refine rn [12,7,8,14,1,2,3,0,1,2,2,2] ?_
  refine s_q (zP (i:=k) rfl rfl rfl (InRow.rdb (A:=A) (els:=l.map En.c) (by simpa using hn) (zW (c:=En.c) (fun _=>rfl) _)) (by first|exact lt_k|omega)) rfl ?_
  refine s_q (zS (i:=k) rfl (InRow.rdb (A:=A) (els:=l.map En.c) (by simpa using hn) (zW (c:=En.c) (fun _=>rfl) _)) (zR (by first|exact(by first|exact lt_k|omega)|omega|(simp_all;done)|(simp_all;omega))) rfl) rfl ?_
  refine g_op (xQ [Res.blk eb 3 [Value.int .i64 (ep)],Res.blk ob 38 [Value.slice O1 (o1).length oc1],Res.row O1 (o1).length oc1 3 1 ((o1).map (fun v:Int=>[Value.int .i64 v]))] rfl rfl (fun w1 hw1 ho1=>by have h7:=due1_any eb ob ep O1 oc1 o1 (l[k]) w1 ho1 (by rw[ho];have h9:=dueO_le ep (l.take k);simp at h9 ⊢;omega);exact h7) rfl ?_)
  rintro⟨O16,oc16⟩ _
  refine ii ?_
  refine rn [0] ?_
  refine zC rfl (fun h2=>?_) (fun h2=>?_)
  ·have heq:l[k].e=ep:=by simpa using h2
   refine rn [1,2,3,0,11] ?_
   refine zM (zE (zE (zM (zE ?_))))
   exact fin1 rfl (.tmp rfl) (fun w' hw' => ⟨(((k:Nat):Int),O16,oc16,(o1++dueO ep [l[k]])),(by(try dsimp only);exact .inr ⟨k,rfl,lt_k,hz,by rw[List.getElem?_eq_getElem lt_k];simp[heq],by rw[ho,List.append_assoc,sB ep lt_k]⟩),rfl,zA w' hw'⟩) _ (.inl rfl)
  ·have hne:¬l[k].e=ep:=by simpa using h2
   refine rn [12,15,7,10,43,2,9] ?_
   exact g_ag ((k+1),O16,oc16,(o1++dueO ep [l[k]])) (by(try dsimp only);exact⟨(by first|exact lt_k|omega),(by rw[ho,List.append_assoc,sB ep lt_k]),(by rw[←List.take_append_getElem lt_k];intro y hy;rcases List.mem_append.1 hy with h|h;exact hz y h;simp at h;subst h;exact hne)⟩)
 ·have eq_k:k=l.length:=by have h9:=of_decide_eq_false h1;omega
  refine rn [16] ?_
  refine zD (zD (zN ?_))
  refine rn [7,1,3,0,11] ?_
  exact fin1 rfl (.tmp rfl) (fun w' hw' => ⟨((-1:Int),O1,oc1,o1),(by(try dsimp only);exact .inl ⟨⟨rfl,by rw[eq_k,List.take_length] at hz;exact hz⟩,by rw[ho,eq_k,List.take_length]⟩),rfl,zA w' hw'⟩) _ (.inl rfl)
theorem delete_any (eb ob:Nat) (ep:Int) (O:Option Addr) (oc:Nat) (o:List Int) (A:Option Addr) (n cap:Nat) (l:List En) (w:World) (hw:W0 [Res.row A n cap 297 2 ((l).map En.c),Res.blk eb 3 [Value.int .i64 (ep)],Res.blk ob 38 [Value.slice O (o).length oc],Res.row O (o).length oc 3 1 ((o).map (fun v:Int=>[Value.int .i64 v]))] w) (hn:n=l.length) (hcap:o.length+n≤1000000):Own2 (ι:=(Option Addr × Nat × Option Addr × Nat)) Tryz.prog 274 [.slice A n cap,.func (.func 275) #[] [Value.pointer (some ⟨eb,0,none⟩),Value.pointer (some ⟨ob,0,none⟩)].toArray] w [Res.row A n cap 297 2 ((l).map En.c),Res.blk eb 3 [Value.int .i64 (ep)],Res.blk ob 38 [Value.slice O (o).length oc],Res.row O (o).length oc 3 1 ((o).map (fun v:Int=>[Value.int .i64 v]))] (fun x=>True) (fun x=>.slice x.1 (keepE ep l).length x.2.1) (fun x=>[]) (fun x=>[Res.row x.1 (keepE ep l).length x.2.1 297 2 (((keepE ep l)).map En.c),Res.blk eb 3 [Value.int .i64 (ep)],Res.blk ob 38 [Value.slice x.2.2.1 ((o++dueO ep l)).length x.2.2.2],Res.row x.2.2.1 ((o++dueO ep l)).length x.2.2.2 3 1 (((o++dueO ep l)).map (fun v:Int=>[Value.int .i64 v]))]):=by
 refine g_st Tryz.func274 42 hw ?_
 refine rn [1,3,0,1,2,2] ?_
 refine g_op (zG _ rfl (fun w1 hw1 ho1=>by have h7:=index_any eb ob ep O oc o A (n) (cap) (l) w1 ho1 (by first|assumption|(simp;done)) (by omega);exact h7) rfl ?_)
 rintro⟨z,O10,oc10,o10⟩ hz
 refine ii ?_
 simp only at hz
 refine rn [3,0,8,1,2,44,0] ?_
 refine zC rfl (fun h1=>?_) (fun h1=>?_)
 ·obtain⟨hall,ho10⟩:(∀y∈l,¬y.e=ep)∧o10=o++dueO ep l:=by
    rcases hz with h|⟨k,hk,_⟩
    · exact⟨h.1.2,h.2⟩
    · exfalso;rw[hk] at h1;have h9:=of_decide_eq_true h1;omega
  refine rn [1,2,3,0,11,13] ?_
  subst ho10
  refine yB (A:=A) (keepE ep l).length (by rw[vZ hall,hn]) ?_
  refine zH (A:=A) ((keepE ep l).map En.c) (by rw[vZ hall]) ?_
  exact fin1 rfl (.tmp rfl) (fun w' hw' => ⟨(A,cap,O10,oc10),(by exact trivial),by rw[vZ hall,hn],zA w' hw'⟩) _ (.inl rfl)
 ·obtain⟨i,rfl,hi,hpre,ha,ho10⟩:∃k:Nat,z=k∧k<l.length∧(∀y∈l.take k,¬y.e=ep)∧(l[k]?.map En.e)=some ep∧o10=o++dueO ep (l.take (k+1)):=by
    rcases hz with h|h
    · exact absurd h.1.1 (by simpa using h1)
    · exact h
  refine rn [12,7,8,1,2,43,3,0,14] ?_
  refine g_lk [0,1,4] (fun(x:Nat × Nat × List En × Option Addr × Nat × List Int)=>[(5,.int .i64 ((x.1:Nat):Int)),(6,.int .i64 ((x.2.1:Nat):Int))]) (fun(x:Nat × Nat × List En × Option Addr × Nat × List Int)=>[Res.row A n cap 297 2 ((x.2.2.1).map En.c),Res.blk eb 3 [Value.int .i64 (ep)],Res.blk ob 38 [Value.slice x.2.2.2.1 (x.2.2.2.2.2).length x.2.2.2.2.1],Res.row x.2.2.2.1 (x.2.2.2.2.2).length x.2.2.2.2.1 3 1 ((x.2.2.2.2.2).map (fun v:Int=>[Value.int .i64 v]))]) (fun(x:Nat × Nat × List En × Option Addr × Nat × List Int)=>x.1<x.2.1∧x.2.1≤l.length∧(x.2.2.1).length=l.length∧(x.2.2.1).take x.1=keepE ep (l.take x.2.1)∧(x.2.2.1).drop x.2.1=l.drop x.2.1∧x.2.2.2.2.2=o++dueO ep (l.take x.2.1)) (fun(x:Nat × Nat × List En × Option Addr × Nat × List Int)=>l.length-x.2.1) (i,(i+1),l,O10,oc10,o10) (by(try dsimp only);exact⟨(by omega),(by omega),rfl,(keep_pre hi hpre ha),rfl,ho10⟩) ?_
  rintro⟨i1,j,s1,O1,oc1,o1⟩ ⟨hij,hjn,hls,htk,hdr,ho⟩
  replace hij:i1<j:=hij
  replace hjn:j≤l.length:=hjn
  replace hls:(s1).length=l.length:=hls
  replace htk:(s1).take i1=keepE ep (l.take j):=htk
  replace hdr:(s1).drop j=l.drop j:=hdr
  replace ho:o1=o++dueO ep (l.take j):=ho
  refine zV (L' := [Res.row A n cap 297 2 ((s1).map En.c),Res.blk eb 3 [Value.int .i64 (ep)],Res.blk ob 38 [Value.slice O1 (o1).length oc1],Res.row O1 (o1).length oc1 3 1 ((o1).map (fun v:Int=>[Value.int .i64 v]))]) rfl ?_
  refine g_val 5 (v' := .int .i64 ((i1:Nat):Int)) rfl rfl ?_
  refine g_val 6 (v' := .int .i64 ((j:Nat):Int)) rfl rfl ?_
  refine rn [8,1,2,2,47,46,0] ?_
  refine zC rfl (fun h2=>?_) (fun h2=>?_)
  ·have lt_j:j<l.length:=by have h9:=of_decide_eq_true h2;omega
   have lt_s:j<s1.length:=by omega
   refine rn [12,7,8,14,1,2,2] ?_
   refine s_q (zP (i:=j) rfl rfl rfl (ird (A:=A)) (by first|omega|(simp;done)|(simp;omega))) rfl ?_
   refine s_q (zS (i:=j) rfl (ird (A:=A)) (zR (by first|assumption|omega|(simp_all;done)|(simp_all;omega))) rfl) rfl ?_
   refine g_op (zK rfl fun b7=>?_)
   refine rn [33,0,1,2,45] ?_
   refine g_op (xQ [Res.blk eb 3 [Value.int .i64 (ep)],Res.blk ob 38 [Value.slice O1 (o1).length oc1],Res.row O1 (o1).length oc1 3 1 ((o1).map (fun v:Int=>[Value.int .i64 v]))] rfl rfl (fun w1 hw1 ho1=>by have h7:=due1_any eb ob ep O1 oc1 o1 ((s1)[j]) w1 ho1 (by rw[ho];have h9:=dueO_le ep (l.take j);simp at h9 ⊢;omega);exact h7) rfl ?_)
   rintro⟨O28,oc28⟩ _
   refine ii ?_
   refine rn [48,0] ?_
   refine zC rfl (fun h3=>?_) (fun h3=>?_)
   ·have hne:¬s1[j].e=ep:=by simpa using h3
    refine rn [1,2,2,45] ?_
    refine s_q (zP (i:=i1) rfl rfl rfl (ird (A:=A)) (by first|omega|(simp;done)|(simp;omega))) rfl ?_
    refine g_op (yA (A:=A) (i:=i1) (o:=0) (cs' := En.c ((s1[j]))) rfl rfl rfl rfl rfl (zR (by first|assumption|omega|(simp_all;done)|(simp_all;omega))) (by first|(simp;done)|exact Nat.le_refl _) rfl (yD rfl) ?_)
    refine zH (A:=A) ((s1.set i1 (s1[j])).map En.c) (by simp only[List.map_set]) ?_
    refine rn [0,10,2,43,3,9,15,7,10,2,43,3,9] ?_
    exact vM ((i1+1),(j+1),(s1.set i1 s1[j]),O28,oc28,(o1++dueO ep [(s1)[j]])) (by(try dsimp only);exact⟨(by omega),(by omega),(by simpa using hls),(del_keep hij lt_s lt_j htk hdr hne).1,(del_keep hij lt_s lt_j htk hdr hne).2,(by rw[ho,List.append_assoc,(uE hdr lt_s lt_j).1,sB ep lt_j])⟩) (by dsimp only;omega) (by repeat(first|exact trivial|refine⟨rfl,?_⟩)) zB
   ·have heq:s1[j].e=ep:=by simpa using h3
    refine rn [12,15,7,10,2,43,3,9] ?_
    exact vM (i1,(j+1),s1,O28,oc28,(o1++dueO ep [(s1)[j]])) (by(try dsimp only);exact⟨(by omega),(by omega),hls,(del_drop lt_s lt_j htk hdr heq).1,(del_drop lt_s lt_j htk hdr heq).2,(by rw[ho,List.append_assoc,(uE hdr lt_s lt_j).1,sB ep lt_j])⟩) (by dsimp only;omega) (by repeat(first|exact trivial|refine⟨rfl,?_⟩)) zB
  ·have eq_j:j=l.length:=by have h9:=of_decide_eq_false h2;omega
   rw[eq_j,List.take_length] at htk ho
   have hi1:i1=(keepE ep l).length:=by have h9:=congrArg List.length htk;simp at h9;omega
   have hlt:i1<n:=by omega
   refine rn [16] ?_
   refine zD (zD (zN ?_))
   refine rn [7,1] ?_
   refine g_rowA A (by omega) fun⟨hA,hA0⟩ hle hcm=>?_
   refine rn [2,2] ?_
   refine s_q (xG (l:=i1) rfl rfl rfl (by omega)) rfl ?_
   refine g_op (g_clear (A:=A) (l:=i1) (n:=n) (els:=s1.map En.c) rfl (fun h0=>subA_at hA (by omega)) (by omega) (by simp[Value.oneCell']) ?_)
   refine rn [0,1,2,2] ?_
   refine s_q (yW (h:=i1) rfl rfl rfl (by omega)) rfl ?_
   refine rn [3,0,11] ?_
   refine tY (A:=A) i1 (keepE ep l).length ((keepE ep l).map En.c) (by omega) hi1 (by rw[List.append_assoc,List.take_append_of_le_length (by simp;omega),List.take_take,Nat.min_self,←List.map_take,htk]) ?_
   subst ho
   exact fin1 rfl (.tmp rfl) (fun w' hw' => ⟨(subA A cap 0 2,cap,O1,oc1),(by exact trivial),by rw[hi1],zA w' hw'⟩) _ (.inl rfl)
structure BR where
 n:Int
 A:Option Addr
 cap:Nat
 bs:List (Bk En)
def validE (e:Int):Bool:=decide (0≤e∧e≤1099511627776)
structure BR.Rep (g:BR) (es:List En):Prop where
 pos:0<g.bs.length
 le:g.bs.length≤4096
 n:g.n=es.length
 bk:∀(i:Nat) (k:Bk En),g.bs[i]?=some k→k.els=es.filter fun x=>decide (x.e%(g.bs.length:Int)=i)
 ok:∀x∈es,0≤x.e∧x.e≤1099511627776
def putE (es:List En) (e i:Int):List En:=if validE e=true then es++[⟨e,i⟩] else es
theorem BR.Rep.init {n:Nat} {A:Option Addr} {c:Nat} (h:1≤n∧n≤4096):(BR.mk 0 A c (List.replicate n ⟨none,0,[]⟩)).Rep [] :=
 ⟨by simp;omega,by simp;omega,rfl,fun i k hk=>by
  have:=List.mem_of_getElem? hk
  rw[List.eq_of_mem_replicate this];rfl,by simp⟩
theorem BR.Rep.mod {g:BR} {es:List En} (h:g.Rep es) (k:Nat):k%g.bs.length<g.bs.length:=Nat.mod_lt _ h.pos
theorem BR.Rep.at_ {g:BR} {es:List En} (h:g.Rep es) (k:Nat):∃A c els,g.bs[k%g.bs.length]?=some ⟨A,c,els⟩:=⟨_,_,_,List.getElem?_eq_getElem (h.mod k)⟩
theorem cast_mod (k m:Nat):((k:Int)%(m:Int))=((k%m:Nat):Int):=rfl
theorem BR.Rep.put {g:BR} {es:List En} (h:g.Rep es) {k:Nat} (hk:k≤1099511627776) {A A' : Option Addr} {c c' : Nat} {els:List En} (hb:g.bs[k%g.bs.length]?=some ⟨A,c,els⟩) (it:Int) :
  (BR.mk (g.n+1) g.A g.cap (g.bs.set (k%g.bs.length) ⟨A',c',els++[⟨k,it⟩]⟩)).Rep (es++[⟨k,it⟩]):=by
 refine⟨by simpa using h.pos,by simpa using h.le,by simp[h.n],fun i q hq=>?_,fun x hx=>?_⟩
 ·simp only[List.length_set] at hq ⊢
  rw[List.getElem?_set] at hq
  rw[List.filter_append]
  split at hq
  ·rename_i hi
   subst hi
   rw[if_pos (h.mod k)] at hq
   simp only[Option.some.injEq] at hq
   subst hq
   have h1:=h.bk _ _ hb
   simp only at h1
   show els++_=_
   have hd:decide ((k:Int)%(g.bs.length:Int)=((k%g.bs.length:Nat):Int))=true:=decide_eq_true rfl
   rw[←h1,List.filter_cons,if_pos hd,List.filter_nil]
  ·rename_i hi
   rw[h.bk _ _ hq]
   have:¬((k:Int)%(g.bs.length:Int)=(i:Int)):=fun hc=>hi (by rw[cast_mod] at hc;omega)
   simp[this]
 ·rcases List.mem_append.1 hx with hx|hx
  ·exact h.ok x hx
  ·simp at hx;subst hx;exact⟨by simp,by show(k:Int)≤_;omega⟩
theorem filter_due {k:Int} {m:Int} (es:List En):dueO k (es.filter fun x=>decide (x.e%m=k%m))=dueO k es:=by
 unfold dueO
 rw[List.filter_filter]
 congr 1
 refine List.filter_congr fun x _=>?_
 by_cases hx:x.e=k
 ·simp[hx]
 ·simp[hx]
theorem BR.Rep.due {g:BR} {es:List En} (h:g.Rep es) {k:Nat} {A A' : Option Addr} {c c' : Nat} {els:List En} (hb:g.bs[k%g.bs.length]?=some ⟨A,c,els⟩) :
  (BR.mk ((keepE k es).length:Nat) g.A g.cap (g.bs.set (k%g.bs.length) ⟨A',c',keepE k els⟩)).Rep (keepE k es):=by
 refine⟨by simpa using h.pos,by simpa using h.le,rfl,fun i q hq=>?_,fun x hx=>h.ok x (List.mem_filter.1 hx).1⟩
 simp only[List.length_set] at hq ⊢
 rw[List.getElem?_set] at hq
 split at hq
 ·rename_i hi
  subst hi
  rw[if_pos (h.mod k)] at hq
  simp only[Option.some.injEq] at hq
  subst hq
  show keepE k els=_
  have h1:=h.bk _ _ hb
  simp only at h1
  rw[h1]
  unfold keepE
  rw[List.filter_filter,List.filter_filter]
  exact List.filter_congr fun x _=>Bool.and_comm _ _
 ·rename_i hi
  rw[h.bk _ _ hq]
  unfold keepE
  rw[List.filter_filter]
  refine List.filter_congr fun x _=>?_
  by_cases hx:x.e=(k:Int)
  ·have:¬((k:Int)%(g.bs.length:Int)=(i:Int)):=fun hc=>hi (by rw[cast_mod] at hc;omega)
   simp[hx,this]
  ·simp[hx]
theorem BR.Rep.dueEq {g:BR} {es:List En} (h:g.Rep es) {k:Nat} {A:Option Addr} {c:Nat} {els:List En} (hb:g.bs[k%g.bs.length]?=some ⟨A,c,els⟩):dueO k els=dueO k es:=by
 have h1:=h.bk _ _ hb
 simp only at h1
 rw[h1,←cast_mod]
 exact filter_due es
theorem BR.Rep.out {g:BR} {es:List En} (h:g.Rep es) {e:Int} (he:¬validE e=true):keepE e es=es∧dueO e es=[]:=by
 have h0:∀y∈es,¬y.e=e:=fun y hy hc=>he (by have:=h.ok y hy;subst hc;exact decide_eq_true this)
 exact⟨vZ h0,dueO_none h0⟩
abbrev bB_ (b:Nat) (g:BR):Res:=Res.blk b 178 [Value.slice (BR.A g) (BR.bs g).length (BR.cap g),Value.int .i64 (BR.n g)]
abbrev bW_ (g:BR):Res:=Res.row (BR.A g) (BR.bs g).length (BR.cap g) 295 1 ((BR.bs g).map (fun k:Bk En=>[k.v]))
abbrev bK_ (g:BR):Res:=bks 297 2 En.c (BR.bs g)
theorem bnew_any (n:Nat) (w:World) (hn:1≤n∧n≤4096):Own2 (ι:=(Nat × BR)) Tryz.prog 36 [.int .i64 (n:Int)] w [] (fun x=>x.2.Rep []∧x.2.bs.length=n) (fun x=>.pointer (some ⟨x.1,0,none⟩)) (fun x=>[bB_ x.1 x.2,bW_ x.2,bK_ x.2]) (fun x=>[]):=by
 refine g_st Tryz.func36 13 (WOK.start (fps []) _) ?_
 refine rn [1,3,0,8,1,2,46] ?_
 refine yC 4 (b:=false) rfl (by simp;omega) ?_
 refine rn [2,22,2,22,55] ?_
 refine yC 7 (b:=false) rfl (by simp;omega) ?_
 refine rn [42,0,20,12,7,1,2] ?_
 refine g_op (rV (n:=n) rfl rfl rfl rfl (by omega) rfl fun g10=>?_)
 refine s_q (yH (c:=[Value.slice (some ⟨g10,0,none⟩) n n,Value.int .i64 0]) rfl rfl) rfl ?_
 refine g_op (g_box (c:=[Value.slice (some ⟨g10,0,none⟩) n n,Value.int .i64 0]) rfl rfl rfl fun b12=>?_)
 refine rn [3,0,11] ?_
 refine g_bkNil 297 2 En.c n ?_
 refine zH (A:=some ⟨g10,0,none⟩) ((List.replicate n (⟨none,0,[]⟩:Bk En)).map (fun k:Bk En=>[k.v])) (by rw[List.map_replicate];rfl) ?_
 refine yB (A:=some ⟨g10,0,none⟩) (List.replicate n (⟨none,0,[]⟩:Bk En)).length (by simp) ?_
 refine zF (b:=b12) [Value.slice (some ⟨g10,0,none⟩) (List.replicate n (⟨none,0,[]⟩:Bk En)).length n,Value.int .i64 0] (by simp) ?_
 exact fin1 rfl (.tmp rfl) (fun w' hw' => ⟨(b12,(BR.mk 0 (some ⟨g10,0,none⟩) n (List.replicate n (⟨none,0,[]⟩:Bk En)))),(by(try dsimp only);exact⟨.init hn,by simp⟩),rfl,zA w' hw'⟩) _ (.inl rfl)
theorem blen_any (b:Nat) (g:BR) (es:List En) (w:World) (hw:W0 [bB_ b g,bW_ g,bK_ g] w) (h:g.Rep es):Keep Tryz.prog 55 [.pointer (some ⟨b,0,none⟩)] w [bB_ b g,bW_ g,bK_ g] (.int .i64 ((es.length:Nat):Int)):=by
 refine g_st Tryz.func55 9 hw ?_
 refine rn [1,3,0,8,1,2,50,0,20,12,7,1,2,6,4,5,3,0,11] ?_
 exact fin1 rfl (.tmp rfl) (fun w' hw' => ⟨(),trivial,by rw[h.n],zA w' hw'⟩) _ (.inl rfl)
theorem valid_any (b:Nat) (e:Int) (w:World) : Pur Tryz.prog 178 [.pointer (some ⟨b,0,none⟩),.int .i64 e] w (.bool (validE e)):=by
 refine g_st Tryz.func178 15 (WOK.start [] _) ?_
 refine rn [1,3,0,1,2] ?_
 refine s_q (q_nep (b:=true) rfl rfl rfl) rfl ?_
 refine rn [2,22,2,22,53,41,2] ?_
 refine zU 11 rfl (fun h1=>?_) (fun h1=>?_)
 ·refine rn [22,2,22,56,41,3,0,11] ?_
  exact fin1 rfl (.tmp rfl) (fun w' hw' => ⟨by first|rfl|(simp_all[validE];done)|(simp_all[validE];omega),hw'.upd⟩) _ (.inl rfl)
 ·refine rn [21,21,42,3,0,11] ?_
  exact fin1 rfl (.tmp rfl) (fun w' hw' => ⟨by first|rfl|(simp_all[validE];done)|(simp_all[validE];omega),hw'.upd⟩) _ (.inl rfl)
theorem at_any (b:Nat) (g:BR) (es:List En) (k:Nat) (w:World) (hw:W0 [bB_ b g,bW_ g,bK_ g] w) (h:g.Rep es):Keep Tryz.prog 179 [.pointer (some ⟨b,0,none⟩),.int .i64 (k:Int)] w [bB_ b g,bW_ g,bK_ g] (.pointer (some ⟨bo (BR.A g),oo (BR.A g)+(k%(BR.bs g).length)*1,none⟩)):=by
 refine g_st Tryz.func179 17 hw ?_
 have hmod:=h.mod k
 have hpos:=h.pos
 refine rn [1,3,0,8] ?_
 refine dreg [] mixed rfl ?_
 refine rn [23,0,2,23,1,6,23,2,4,23,3,5,23,4,2,23,5,2,23,6,6,23,7,4,23,8,5,23,9,47] ?_
 refine dq 10 rfl (wG (a:=k) (b:=(BR.bs g).length) rfl rfl (by first|omega|(simp;omega)|(simp_all;omega))) ?_
 refine dq 11 rfl (zP (i:=(k%(BR.bs g).length)) rfl rfl rfl (ird (A:=(BR.A g))) (by first|omega|(simp;done)|(simp;omega))) ?_
 refine rn [23,12,3,27,7,11] ?_
 exact fin1 rfl (.tmp rfl) (fun w' hw' => ⟨(),trivial,rfl,zA w' hw'⟩) _ (.inl rfl)
theorem tM (b:Nat) (g:BR) (es:List En) (e it:Int) (w:World) (hw:W0 [bB_ b g,bW_ g,bK_ g] w) (h:g.Rep es) (hnE:es.length≤1000000):Own2 (ι:=BR) Tryz.prog 116 [.pointer (some ⟨b,0,none⟩),.int .i64 e,.int .i64 it] w [bB_ b g,bW_ g,bK_ g] (fun x=>x.Rep (putE es e it)∧x.bs.length=g.bs.length) (fun x=>.bool (validE e)) (fun x=>[]) (fun x=>[bB_ b x,bW_ x,bK_ x]):=by
 refine g_st Tryz.func116 32 hw ?_
 refine rn [1,3,0,8,1,2,2] ?_
 refine g_op (zI rfl (fun w1 hw1=>valid_any _ _ w1) rfl ?_)
 refine rn [48,0] ?_
 refine zC rfl (fun h1=>?_) (fun h1=>?_)
 ·have hv:¬validE e=true:=by simpa using h1
  refine rn [1,3,0,11,13] ?_
  exact fin1 rfl (.tmp rfl) (fun w' hw' => ⟨g,(by exact⟨by rw[putE,if_neg hv];exact h,rfl⟩),by simp[hv],zA w' hw'⟩) _ (.inl rfl)
 ·have hv:validE e=true:=by simpa using h1
  obtain⟨k,hek,hk⟩:∃k:Nat,e=k∧k≤1099511627776:=⟨e.toNat,by have h9:=of_decide_eq_true hv;omega,by have h9:=of_decide_eq_true hv;omega⟩
  obtain⟨A0,c0,e0,hb0⟩:=h.at_ k
  have hmod:=h.mod k
  have hn0:=h.n
  have he0:e0.length≤es.length:=by have h9:=h.bk _ _ hb0;simp only at h9;rw[h9];exact List.length_filter_le _ _
  refine g_val 1 (v' := .int .i64 ((k:Nat):Int)) rfl (by rw[hek]) ?_
  refine rn [12,7,1,2,2] ?_
  refine g_op (zL _ rfl (fun w1 hw1 ho1=>by exact at_any b g es k w1 ho1 h) rfl ?_)
  refine rn [3,0,1,2,2,6] ?_
  refine s_q (yI (i:=(k%(BR.bs g).length)) (o:=0) rfl (ird (A:=(BR.A g))) (bk_get hb0) rfl rfl) rfl ?_
  refine rn [2,2] ?_
  refine s_q (yH (c:=En.c (En.mk ((k:Nat):Int) it)) rfl rfl) rfl ?_
  refine g_op (g_lit rfl rfl rfl rfl rfl fun b22=>?_)
  refine zF (b:=b22) ((([(En.mk ((k:Nat):Int) it)]:List En).map En.c).flatten) rfl ?_
  refine g_bkOpen (T:=297) (n:=2) (c:=En.c) (k%(BR.bs g).length) hb0 ?_
  refine g_op (zZ (A:=A0) (els:=(e0).map En.c) (news:=(([(En.mk ((k:Nat):Int) it)]:List En).map En.c)) rfl rfl (InL.rdb (b:=b22) rfl (by simp[En.c]) rfl) (yF (c:=En.c) (by intro x;simp[En.c,Value.oneCell']) _) (by omega) rfl fun A23 cap23=>⟨_,inferInstance,?_⟩)
  refine zH (A:=A23) (((e0++[(En.mk ((k:Nat):Int) it)])).map En.c) (by first|rfl|exact List.map_append.symm|(simp;done)) ?_
  refine yB (A:=A23) (e0++[(En.mk ((k:Nat):Int) it)]).length (by simp) ?_
  refine g_val 23 (v' := .slice A23 (e0++[(En.mk ((k:Nat):Int) it)]).length cap23) rfl (by simp) ?_
  refine rn [6] ?_
  refine g_op (yA (A:=(BR.A g)) (i:=(k%(BR.bs g).length)) (o:=0) (cs' := (fun k:Bk En=>[k.v]) ((⟨A23,cap23,e0++[(En.mk ((k:Nat):Int) it)]⟩:Bk En))) rfl rfl rfl rfl rfl (bk_get hb0) (by first|(simp;done)|exact Nat.le_refl _) rfl rfl ?_)
  refine zH (A:=(BR.A g)) (((BR.bs g).set (k%(BR.bs g).length) (⟨A23,cap23,e0++[(En.mk ((k:Nat):Int) it)]⟩:Bk En)).map (fun k:Bk En=>[k.v])) (by simp only[List.map_set]) ?_
  refine g_bkClose (T:=297) (n:=2) (c:=En.c) (k%(BR.bs g).length) hmod A23 (e0++[(En.mk ((k:Nat):Int) it)]).length cap23 (e0++[(En.mk ((k:Nat):Int) it)]) rfl ?_
  refine rn [0,1,2,6,4,5] ?_
  refine s_q (yJ (z:=BR.n g+1) rfl rfl (wi64 (by omega) (by omega))) rfl ?_
  refine rn [6,4] ?_
  refine g_op (zJ rfl rfl rfl rfl rfl rfl rfl ?_)
  refine zF (b:=b) [Value.slice (BR.A g) (BR.bs g).length (BR.cap g),Value.int .i64 (BR.n g+1)] (by simp[splice]) ?_
  refine rn [0,1,3,0,11] ?_
  exact fin1 rfl (.tmp rfl) (fun w' hw' => ⟨(BR.mk (BR.n g+1) (BR.A g) (BR.cap g) ((BR.bs g).set (k%(BR.bs g).length) (⟨A23,cap23,e0++[(En.mk ((k:Nat):Int) it)]⟩:Bk En))),(by first|exact⟨by rw[putE,if_pos hv,hek];exact h.put hk hb0 it,by simp⟩|(dsimp only;exact⟨by rw[putE,if_pos hv,hek];exact h.put hk hb0 it,by simp⟩)),by rw[hv],by have h9:=zB (L' := [Res.blk b 178 [Value.slice (BR.A g) (BR.bs g).length (BR.cap g),Value.int .i64 (BR.n g+1)],Res.row (BR.A g) (BR.bs g).length (BR.cap g) 295 1 (((BR.bs g).set (k%(BR.bs g).length) (⟨A23,cap23,e0++[(En.mk ((k:Nat):Int) it)]⟩:Bk En)).map (fun k:Bk En=>[k.v])),bks 297 2 En.c ((BR.bs g).set (k%(BR.bs g).length) (⟨A23,cap23,e0++[(En.mk ((k:Nat):Int) it)]⟩:Bk En))]) w' hw';show WOK _ _ [bB_ b ((BR.mk (BR.n g+1) (BR.A g) (BR.cap g) ((BR.bs g).set (k%(BR.bs g).length) (⟨A23,cap23,e0++[(En.mk ((k:Nat):Int) it)]⟩:Bk En)))),bW_ ((BR.mk (BR.n g+1) (BR.A g) (BR.cap g) ((BR.bs g).set (k%(BR.bs g).length) (⟨A23,cap23,e0++[(En.mk ((k:Nat):Int) it)]⟩:Bk En)))),bK_ ((BR.mk (BR.n g+1) (BR.A g) (BR.cap g) ((BR.bs g).set (k%(BR.bs g).length) (⟨A23,cap23,e0++[(En.mk ((k:Nat):Int) it)]⟩:Bk En))))] _;simp only[bB_,bW_,bK_,List.length_set];exact h9⟩) _ (.inl rfl)
theorem bdue_any (b:Nat) (g:BR) (es:List En) (e:Int) (w:World) (hw:W0 [bB_ b g,bW_ g,bK_ g] w) (h:g.Rep es) (hnE:es.length≤1000000):Own2 (ι:=(Option Addr × Nat × BR)) Tryz.prog 228 [.pointer (some ⟨b,0,none⟩),.int .i64 e] w [bB_ b g,bW_ g,bK_ g] (fun x=>x.2.2.Rep (keepE e es)∧x.2.2.bs.length=g.bs.length) (fun x=>.slice x.1 (dueO e es).length x.2.1) (fun x=>[Res.row x.1 (dueO e es).length x.2.1 3 1 ((dueO e es).map (fun v:Int=>[Value.int .i64 v]))]) (fun x=>[bB_ b x.2.2,bW_ x.2.2,bK_ x.2.2]):=by
 refine g_st Tryz.func228 31 hw ?_
 refine rn [1] ?_
 refine g_op (g_box rfl rfl rfl fun b3=>?_)
 refine rn [3,0,8,1,2,5] ?_
 refine g_op (zI rfl (fun w1 hw1=>valid_any _ _ w1) rfl ?_)
 refine rn [48,0] ?_
 refine zC rfl (fun h1=>?_) (fun h1=>?_)
 ·have hv:¬validE e=true:=by simpa using h1
  refine rn [1,3,0,11,13] ?_
  refine zX none 3 1 ((dueO e es).map (fun v:Int=>[Value.int .i64 v])) (by rw[(h.out hv).2];rfl) ?_
  exact fin1 rfl (.tmp rfl) (fun w' hw' => ⟨((none:Option Addr),0,g),(by first|exact⟨by rw[(h.out hv).1];exact h,rfl⟩|(dsimp only;exact⟨by rw[(h.out hv).1];exact h,rfl⟩)),by rw[(h.out hv).2];rfl,by have h9:=zB (L' := [Res.row none 0 0 3 1 ((dueO e es).map (fun v:Int=>[Value.int .i64 v])),bB_ b g,bW_ g,bK_ g]) w' hw';show WOK _ _ [Res.row (((none:Option Addr),0,g)).1 (dueO e es).length (((none:Option Addr),0,g)).2.1 3 1 ((dueO e es).map (fun v:Int=>[Value.int .i64 v])),bB_ b (((none:Option Addr),0,g)).2.2,bW_ (((none:Option Addr),0,g)).2.2,bK_ (((none:Option Addr),0,g)).2.2] _;rw[show(dueO e es).length=0 from by rw[(h.out hv).2];rfl];exact h9⟩) _ (.inl rfl)
 ·have hv:validE e=true:=by simpa using h1
  obtain⟨k,hek,hk⟩:∃k:Nat,e=k∧k≤1099511627776:=⟨e.toNat,by have h9:=of_decide_eq_true hv;omega,by have h9:=of_decide_eq_true hv;omega⟩
  obtain⟨A0,c0,e0,hb0⟩:=h.at_ k
  have hmod:=h.mod k
  have hn0:=h.n
  have he0:e0.length≤es.length:=by have h9:=h.bk _ _ hb0;simp only at h9;rw[h9];exact List.length_filter_le _ _
  refine zF (b:=b3) [Value.int .i64 ((k:Nat):Int)] (by rw[hek]) ?_
  refine rn [12,7,1] ?_
  refine g_op (zK rfl fun b5=>?_)
  refine zF (b:=b5) [Value.slice none (([]:List Int)).length 0] rfl ?_
  refine zX none 3 1 ((([]:List Int)).map (fun v:Int=>[Value.int .i64 v])) rfl ?_
  refine rn [0,1,2,5] ?_
  refine g_op (zL _ rfl (fun w1 hw1 ho1=>by exact at_any b g es k w1 ho1 h) rfl ?_)
  refine rn [3,0,1,2,2,6] ?_
  refine s_q (yI (i:=(k%(BR.bs g).length)) (o:=0) rfl (ird (A:=(BR.A g))) (bk_get hb0) rfl rfl) rfl ?_
  refine rn [52] ?_
  refine g_bkOpen (T:=297) (n:=2) (c:=En.c) (k%(BR.bs g).length) hb0 ?_
  refine g_op (zG _ rfl (fun w1 hw1 ho1=>by have h7:=delete_any b3 b5 ((k:Nat):Int) none 0 ([]:List Int) A0 (e0.length) c0 e0 w1 ho1 rfl (by simp;omega);exact h7) rfl ?_)
  rintro⟨A19,c19,O19,oc19⟩ _
  refine ii ?_
  refine rn [6] ?_
  refine g_op (yA (A:=(BR.A g)) (i:=(k%(BR.bs g).length)) (o:=0) (cs' := (fun k:Bk En=>[k.v]) ((⟨A19,c19,keepE ((k:Nat):Int) e0⟩:Bk En))) rfl rfl rfl rfl rfl (bk_get hb0) (by first|(simp;done)|exact Nat.le_refl _) rfl rfl ?_)
  refine zH (A:=(BR.A g)) (((BR.bs g).set (k%(BR.bs g).length) (⟨A19,c19,keepE ((k:Nat):Int) e0⟩:Bk En)).map (fun k:Bk En=>[k.v])) (by simp only[List.map_set]) ?_
  refine g_bkClose (T:=297) (n:=2) (c:=En.c) (k%(BR.bs g).length) hmod A19 (keepE ((k:Nat):Int) e0).length c19 (keepE ((k:Nat):Int) e0) rfl ?_
  have hdq:([]:List Int)++dueO ((k:Nat):Int) e0=(dueO ((k:Nat):Int) es):=by rw[List.nil_append];exact h.dueEq hb0
  refine zF (b:=b5) [Value.slice O19 (dueO ((k:Nat):Int) es).length oc19] (by rw[hdq]) ?_
  refine zH (A:=O19) ((dueO ((k:Nat):Int) es).map (fun v:Int=>[Value.int .i64 v])) (by rw[hdq]) ?_
  refine yB (A:=O19) (dueO ((k:Nat):Int) es).length (by rw[hdq]) ?_
  have hdk:=due_keep ((k:Nat):Int) es
  refine rn [0,8] ?_
  refine dreg [9] mixed rfl ?_
  refine rn [23,0,2,23,1,6,23,2,4,23,3,5,23,4,5,23,5,47] ?_
  refine dq 6 rfl (yZ (z:=BR.n g-((dueO ((k:Nat):Int) es).length:Nat)) rfl rfl (wi64 (by omega) (by omega))) ?_
  refine rn [24,7,6,23,8,4] ?_
  refine dop 9 rfl (zJ rfl rfl rfl rfl rfl rfl rfl ?_)
  refine zF (b:=b) [Value.slice (BR.A g) (BR.bs g).length (BR.cap g),Value.int .i64 (((keepE ((k:Nat):Int) es).length:Nat):Int)] (by simp[splice];omega) ?_
  refine rn [28,7,1,5,3,0,11] ?_
  exact fin1 rfl (.tmp rfl) (fun w' hw' => ⟨(O19,oc19,(BR.mk (((keepE ((k:Nat):Int) es).length:Nat):Int) (BR.A g) (BR.cap g) ((BR.bs g).set (k%(BR.bs g).length) (⟨A19,c19,keepE ((k:Nat):Int) e0⟩:Bk En)))),(by first|exact⟨by rw[hek];exact h.due hb0,by simp⟩|(dsimp only;exact⟨by rw[hek];exact h.due hb0,by simp⟩)),by rw[hek],by have h9:=zB (L' := [Res.row O19 (dueO ((k:Nat):Int) es).length oc19 3 1 ((dueO ((k:Nat):Int) es).map (fun v:Int=>[Value.int .i64 v])),Res.blk b 178 [Value.slice (BR.A g) (BR.bs g).length (BR.cap g),Value.int .i64 ((((keepE ((k:Nat):Int) es).length:Nat):Int))],Res.row (BR.A g) (BR.bs g).length (BR.cap g) 295 1 (((BR.bs g).set (k%(BR.bs g).length) (⟨A19,c19,keepE ((k:Nat):Int) e0⟩:Bk En)).map (fun k:Bk En=>[k.v])),bks 297 2 En.c ((BR.bs g).set (k%(BR.bs g).length) (⟨A19,c19,keepE ((k:Nat):Int) e0⟩:Bk En))]) w' hw';show WOK _ _ [Res.row ((O19,oc19,(BR.mk (((keepE ((k:Nat):Int) es).length:Nat):Int) (BR.A g) (BR.cap g) ((BR.bs g).set (k%(BR.bs g).length) (⟨A19,c19,keepE ((k:Nat):Int) e0⟩:Bk En))))).1 (dueO e es).length ((O19,oc19,(BR.mk (((keepE ((k:Nat):Int) es).length:Nat):Int) (BR.A g) (BR.cap g) ((BR.bs g).set (k%(BR.bs g).length) (⟨A19,c19,keepE ((k:Nat):Int) e0⟩:Bk En))))).2.1 3 1 ((dueO e es).map (fun v:Int=>[Value.int .i64 v])),bB_ b ((O19,oc19,(BR.mk (((keepE ((k:Nat):Int) es).length:Nat):Int) (BR.A g) (BR.cap g) ((BR.bs g).set (k%(BR.bs g).length) (⟨A19,c19,keepE ((k:Nat):Int) e0⟩:Bk En))))).2.2,bW_ ((O19,oc19,(BR.mk (((keepE ((k:Nat):Int) es).length:Nat):Int) (BR.A g) (BR.cap g) ((BR.bs g).set (k%(BR.bs g).length) (⟨A19,c19,keepE ((k:Nat):Int) e0⟩:Bk En))))).2.2,bK_ ((O19,oc19,(BR.mk (((keepE ((k:Nat):Int) es).length:Nat):Int) (BR.A g) (BR.cap g) ((BR.bs g).set (k%(BR.bs g).length) (⟨A19,c19,keepE ((k:Nat):Int) e0⟩:Bk En))))).2.2] _;rw[hek];simp only[bB_,bW_,bK_,List.length_set];exact h9⟩) _ (.inl rfl)
def nxt (s e:Int):Int:=if e=7 then(if s=2∨s=3 then 3 else if s=4∨s=5 then 4 else 0) else if e=6∧s=2 then 7 else if 1≤e∧e≤5∧s=e then s+1 else 0
def accV (v:V) (e:Int):V × Int:=if latB [e]=false then(V.z,10) else if nxt v.st 2=0 then(V.z,8) else({ v with rq:=e,st:=nxt v.st 2 },0)
def asnV (v:V) (e:Int) (c:C):V × Int:=if v.st≠3∨v.ex≠-1 then(V.z,8) else if latB [e,c.unb]=false then(V.z,10) else({ v with ex:=e,wd:=max v.wd (latV [e,c.unb]) },0)
def burnV (b:Int) (c:C):Int:=if c.pden<c.pnum then 0 else b*c.pnum/c.pden
def slaV (v:V) (e:Int) (c:C):V × Int × Int:=if v.sl=true then(V.z,0,9) else if nxt v.st 7=0 then(V.z,0,8) else if latB [e,c.sld]=false then(V.z,0,10)
 else({ v with bal:=IntKind.u64.wrap (v.bal-burnV v.bal c),st:=nxt v.st 7,sl:=true,rq:=if v.st=2 then e else v.rq,wd:=max v.wd (latV [e,c.sld]),dl:=-1 },burnV v.bal c,0)
def payV (v:V) (e:Int):V × Int × Int:=if nxt v.st 5=0 then(V.z,0,8) else if e<v.wd then(V.z,0,8) else({ v with st:=nxt v.st 5,bal:=0 },v.bal,0)
def swp (rd:List Bool) (n pays:Nat):Nat→Nat→List Int→Nat→Nat × List Int × Nat
 | 0,at_,paid,made=>(at_,paid,made)
 | k+1,at_,paid,made=>if paid.length=pays then(at_,paid,made) else swp rd n pays k ((at_%n+1)%n) (if rd[at_%n]?=some true then paid++[((at_%n:Nat):Int)] else paid) (made+1)
def sweepS (at_:Nat) (rd:List Bool) (visits pays:Int):Nat × List Int × Nat:=if rd.length=0∨pays<1 then(at_,[],0) else swp rd rd.length pays.toNat (min visits (rd.length:Int)).toNat at_ [] 0
structure Eg where
 c:C
 blk:Nat
 l:List V
 dep:Int
 paid:Int
 burn:Int
 bo:List En
 lv:List Int
 cur:Nat
 m:M
 q:LL
 pend:List Int
 mg:List PP
 pt:List Rq
def Eg.ep (s:Eg):Int:=((s.blk/s.c.elen.toNat:Nat):Int)
structure Rc where
 k:Int
 code:Int
 i:Int
 blk:Int
 ep:Int
 dl:Int
 ag:List As
 ps:List Y
 vis:Int
structure Rs where
 code:Int
 i:Int
 dl:Int
def Rs.c (x:Rs):List Value:=[.int .i64 x.code,.int .i64 x.i,.int .i64 x.dl]
def setV (l:List V) (i:Int) (v:V):List V:=if hasV l i=true then l.set i.toNat v else l
def evV (l:List V) (i e:Int):List V:=if hasV l i=true∧nxt (gotV l i).st e≠0 then l.set i.toNat { gotV l i with st:=nxt (gotV l i).st e } else l
def depE (s:Eg) (o:Op):Eg × Rs :=
 if o.a<s.c.mind∨s.c.maxd<o.a then(s,⟨3,0,0⟩)
 else if s.c.capa≤(s.l.length:Int) then(s,⟨5,0,0⟩)
 else if s.c.qsize.toNat-s.pend.length=0 then(s,⟨6,0,0⟩)
 else if ledC s.c.supc s.dep s.paid s.burn o.a≠0 then(s,⟨ledC s.c.supc s.dep s.paid s.burn o.a,0,0⟩)
 else({ s with l:=s.l++[⟨o.a,1,false,-1,-1,-1,-1⟩],dep:=s.dep+o.a,pend:=s.pend++[(s.l.length:Int)] },⟨0,s.l.length,-1⟩)
def bals (l:List V):List Int:=l.map V.bal
def wgts (l:List V) (is:List Int):List Int:=is.map (ofW (bals l))
def leaveE (s:Eg) (cl i:Int):Eg × Rs :=
 if hasV s.l i=false then(s,⟨7,0,0⟩)
 else if(accV (gotV s.l i) s.ep).2≠0 then(s,⟨(accV (gotV s.l i) s.ep).2,0,0⟩)
 else if freeL s.c.qsize.toNat cl s.q=0 then(s,⟨6,0,0⟩)
 else if addB (wgts s.l (aheadL cl s.q))=false∨bdsB s.ep (addV (wgts s.l (aheadL cl s.q))) (accV (gotV s.l i) s.ep).1.bal s.c [s.c.unb,sweepV s.c]=false then(s,⟨10,0,0⟩)
 else
  let d:=bdsV s.ep (addV (wgts s.l (aheadL cl s.q))) (accV (gotV s.l i) s.ep).1.bal s.c [s.c.unb,sweepV s.c]
  ({ s with l:=s.l.set i.toNat { (accV (gotV s.l i) s.ep).1 with dl:=d },q:=pushL s.c.qsize.toNat cl i s.q },⟨0,i,d⟩)
def slashE (s:Eg) (i:Int):Eg × Rs :=
  if hasV s.l i=false then(s,⟨7,0,0⟩)
  else
    let v:=gotV s.l i
    let r:=slaV v s.ep s.c
    if r.2.2=9∨r.2.2=8 then(s,⟨r.2.2,0,0⟩)
    else if v.st=2∧freeL s.c.qsize.toNat 0 s.q=0 then(s,⟨6,0,0⟩)
    else if r.2.2≠0 then(s,⟨r.2.2,0,0⟩)
    else ({ s with l:=s.l.set i.toNat r.1,burn:=if bookC s.dep s.paid s.burn r.2.1=0 then s.burn+r.2.1 else s.burn,
                   q:=if v.st=2 then pushL s.c.qsize.toNat 0 i s.q else s.q,bo:=if v.st=5 then putE s.bo r.1.wd i else s.bo },⟨0,i,-1⟩)
def consE (s:Eg) (i t:Int):Eg × Rs :=
 if reqV s.l i t s.c≠0 then(s,⟨reqV s.l i t s.c,0,0⟩)
 else if s.c.qsize.toNat-s.mg.length=0 then(s,⟨6,0,0⟩)
 else({ s with mg:=s.mg++[⟨i,t⟩] },⟨0,i,-1⟩)
def prtC (l:List V) (i a:Int):Int:=if hasV l i=false then 7 else if a=0 then 3 else if(gotV l i).st≠2 then 8 else 0
def partE (s:Eg) (i a:Int):Eg × Rs :=
 if prtC s.l i a≠0 then(s,⟨prtC s.l i a,0,0⟩)
 else if s.c.qsize.toNat-s.pt.length=0 then(s,⟨6,0,0⟩)
 else({ s with pt:=s.pt++[⟨i,a⟩] },⟨0,i,-1⟩)
def ripS (e:Int) (s:List V × List En) (i:Int):List V × List En:=if e<(gotV s.1 i).wd then(s.1,putE s.2 (gotV s.1 i).wd i) else(evV s.1 i 4,s.2)
def ripE (e:Int) (s:List V × List En):List V × List En:=(dueO e s.2).foldl (ripS e) (s.1,keepE e s.2)
def asgS (c:C) (s:List V × List En × List Int) (a:As):List V × List En × List Int :=
 (setV s.1 a.i (asnV (gotV s.1 a.i) a.e c).1,putE s.2.1 (asnV (gotV s.1 a.i) a.e c).1.wd a.i,s.2.2++[a.i])
def churnE (c:C) (l:List V):Int:=churn (actS l) c.minch c.quot
def bdyE (s:Eg):Eg × List As :=
 let l1:=s.lv.foldl (fun l i=>evV l i 3) s.l
 let r:=ripE s.ep (l1,s.bo)
 let ch:=churnE s.c r.1
 let st:=stepM (bals r.1) s.ep ch s.q s.m
 let a:=st.1.foldl (asgS s.c) (r.1,r.2,[])
 let ac:=batF ch (bals a.1) s.pend 0 true
 let l4:=ac.foldl (fun l i=>evV l i 1) a.1
 let t:=s.mg.take s.c.merg.toNat
 ({ s with l:=(runM s.c l4 t).1,bo:=a.2.1,lv:=a.2.2,m:=st.2.2,q:=st.2.1,pend:=s.pend.drop ac.length,mg:=s.mg.drop t.length },st.1)
def fullS (l0:List V) (e:Int) (s:List V × List Y) (i:Int):List V × List Y:=(setV s.1 i (payV (gotV l0 i) e).1,s.2++[⟨i,(payV (gotV l0 i) e).2.1,true⟩])
def ledS (d u:Int) (p:Int) (y:Y):Int:=if bookC d p u y.a=0 then p+y.a else p
def paysE (s:Eg):Eg × List Y × Nat :=
 let t:=s.pt.take s.c.parts.toNat
 let r:=run s.c s.l t
 let p0:=pos r.2
 let w:=sweepS s.cur (r.1.map fun v=>decide (v.st=5)) (s.c.vis-t.length) (s.c.pays-p0.length)
 let f:=w.2.1.foldl (fullS r.1 s.ep) (r.1,p0)
 ({ s with l:=f.1,paid:=f.2.foldl (ledS s.dep s.burn) s.paid,cur:=w.1,pt:=s.pt.drop t.length },f.2,t.length+w.2.2)
def tickE (s:Eg):Eg × Rc :=
 let s1:={ s with blk:=s.blk+1 }
 let b:=if(s.blk+1)%s.c.elen.toNat=0 then bdyE s1 else(s1,[])
 let p:=paysE b.1
 (p.1,⟨7,0,-1,p.1.blk,p.1.ep,-1,b.2,p.2.1,p.2.2⟩)
def actE (s:Eg) (o:Op):Eg × Rs :=
 if o.k=1 then depE s o else if o.k=2 then leaveE s 1 o.i else if o.k=3 then leaveE s 0 o.i else if o.k=4 then slashE s o.i
 else if o.k=5 then consE s o.i o.t else if o.k=6 then partE s o.i o.a else(s,⟨11,0,0⟩)
def rcp (s:Eg) (o:Op) (x:Rs):Rc:=if x.code≠0 then⟨o.k,x.code,-1,s.blk,s.ep,-1,[],[],0⟩ else⟨o.k,0,x.i,s.blk,s.ep,x.dl,[],[],0⟩
def applyE (s:Eg) (o:Op):Eg × Rc:=if o.k=7 then tickE s else((actE s o).1,rcp s o (actE s o).2)
def newE (c:C):Eg:=⟨c,0,[],0,0,0,[],[],0,M0,⟨[],[]⟩,[],[],[]⟩
end Go.Proofs.YtdddiilocbbkkaaGreat
