/- TopDrains: for every configuration and all operations the law returns true. No condition. Part 11 of 28. -/
import Derived.Test.YtdddiilocbbkkaaGreatTD4
import Derived.Test.YtdddiilocbbkkaaGreatTD5
set_option linter.unusedVariables false
set_option linter.unusedSimpArgs false
namespace Go.Proofs.YtdddiilocbbkkaaGreat
open Go.RowKit Go.Eg
set_option maxHeartbeats 4000000
set_option synthInstance.maxSize 3000
set_option maxRecDepth 100000
abbrev rB_pp (b:Nat) (g:Rg):Res:=Res.blk b 195 (Rg.c g)
abbrev rW_pp (g:Rg):Res:=Res.row (Rg.A g) (Rg.s g).length (Rg.cap g) 106 2 (Rg.s g)
theorem grow_pp (b:Nat) (g:Rg) (l:List (List Value)) (w:World) (hw:W0 [rB_pp b g,rW_pp g] w) (h:g.Rep 2 l) (hs:g.n<g.size):Own2 (ι:=Rg) Tryz.prog 182 [.pointer (some ⟨b,0,none⟩)] w [rB_pp b g,rW_pp g] (fun x=>x.Rep 2 l∧x.n<x.s.length∧x.size=g.size) (fun x=>.tuple #[]) (fun x=>[]) (fun x=>[rB_pp b x,rW_pp x]):=by
 refine g_st Tryz.func182 58 hw ?_
 refine rn [8,8] ?_
 refine dreg [] mixed rfl ?_
 refine rn [23,0,2,23,1,6,23,2,4,23,3,5,23,4,2,23,5,6,23,6,4,23,7,5,23,8,47,23,9,46,27,7] ?_
 refine zC rfl (fun h1=>?_) (fun h1=>?_)
 ·refine rn [11,13] ?_
  exact fin0 rfl (fun w' hw' => ⟨g,(by(try dsimp only);exact⟨h,by simpa using h1,rfl⟩),by first|rfl|(simp_all;done),zA w' hw'⟩) _ (.inl rfl)
 ·refine rn [12,7,8] ?_
  refine dreg [] mixed rfl ?_
  have hn:g.n=g.s.length:=by have:=h.le;simp at h1;omega
  have q1:=h.sz;have q2:=h.hi;have q3:=h.fst;have q4:=h.cp
  refine rn [23,0,2,23,1,6,23,2,4,23,3,5,23,4,2,23,5,6,23,6,4,23,7,5,23,8,47] ?_
  refine dq 9 rfl (uJ rfl rfl (wi64 (by omega) (by omega))) ?_
  refine dq 10 rfl (yJ rfl rfl (wi64 (by omega) (by omega))) ?_
  refine rn [23,11,58] ?_
  refine dop 12 rfl (rV (n:=(min g.size (2*g.s.length+1))) rfl rfl (by omega) (by omega) (by omega) rfl fun g26=>?_)
  refine rn [23,13,3,27,7,8] ?_
  refine dregL (L0:=[Res.blk b 195 (Rg.c g),Res.row (Rg.A g) (Rg.s g).length (Rg.cap g) 106 2 (Rg.s g)]) [] mixed rfl zB ?_
  refine rn [23,0,2,23,1,2,23,2,6,23,3,4,23,4,5,23,5,2,23,6,6,23,7,4,23,8,5] ?_
  refine dq 9 rfl (xG (l:=g.first) rfl rfl rfl (by omega)) ?_
  refine dop 10 rfl (tK (A:=some ⟨g26,0,none⟩) (n:=(min g.size (2*g.s.length+1))) (cap:=(min g.size (2*g.s.length+1))) (els:=List.replicate (min g.size (2*g.s.length+1)) [Value.int .i64 0,Value.int .i64 0]) (l:=0) rfl rfl (fun _=>by simp) (Rdb.sub (Rdb.row 2 rfl rfl (fun c hc=>(h.one c hc).1)) (l:=g.first) (h:=g.s.length) (by omega) (Nat.le_refl _) q4) (by omega) (fun c hc=>(h.one c (List.mem_of_mem_drop (List.mem_of_mem_take hc))).2) rfl ?_)
  refine zV (L' := [Res.row (some ⟨g26,0,none⟩) (min g.size (2*g.s.length+1)) (min g.size (2*g.s.length+1)) 106 2 (g.s.drop g.first++List.replicate ((min g.size (2*g.s.length+1))-(g.s.length-g.first)) [Value.int .i64 0,Value.int .i64 0]),Res.blk b 195 (Rg.c g),Res.row (Rg.A g) (Rg.s g).length (Rg.cap g) 106 2 (Rg.s g)]) (by rw[copy1 _ (by omega) (by omega)]) ?_
  have ek:min (g.s.length-g.first) (min g.size (2*g.s.length+1))=g.s.length-g.first:=by omega
  refine rn [23,11,3,27,7,8] ?_
  refine dregL (L0:=[Res.blk b 195 (Rg.c g),Res.row (Rg.A g) (Rg.s g).length (Rg.cap g) 106 2 (Rg.s g)]) [] mixed rfl zB ?_
  refine rn [23,0,2,23,1,2] ?_
  refine dq 2 rfl (xG (l:=g.s.length-g.first) rfl rfl (by omega) (by omega)) ?_
  refine rn [23,3,2,23,4,6,23,5,4,23,6,5,23,7,2,23,8,6,23,9,4,23,10,5] ?_
  refine dq 11 rfl (yW (h:=g.first) rfl rfl rfl (by omega)) ?_
  refine dop 12 rfl (tK (A:=some ⟨g26,0,none⟩) (n:=(min g.size (2*g.s.length+1))) (cap:=(min g.size (2*g.s.length+1))) (els:=g.s.drop g.first++List.replicate ((min g.size (2*g.s.length+1))-(g.s.length-g.first)) [Value.int .i64 0,Value.int .i64 0]) (l:=g.s.length-g.first) rfl rfl (fun h0=>by unfold subA;rw[if_neg (by omega)];simp[yP]) (Rdb.sub (Rdb.row 2 rfl rfl (fun c hc=>(h.one c hc).1)) (l:=0) (h:=g.first) (by omega) (by omega) q4) (by omega) (fun c hc=>(h.one c (List.mem_of_mem_drop (List.mem_of_mem_take hc))).2) rfl ?_)
  refine zV (L' := [Res.row (some ⟨g26,0,none⟩) (Rg.s (Rg.grown g (some ⟨g26,0,none⟩) [Value.int .i64 0,Value.int .i64 0])).length (Rg.cap (Rg.grown g (some ⟨g26,0,none⟩) [Value.int .i64 0,Value.int .i64 0])) 106 2 (Rg.s (Rg.grown g (some ⟨g26,0,none⟩) [Value.int .i64 0,Value.int .i64 0])),Res.blk b 195 (Rg.c g),Res.row (Rg.A g) (Rg.s g).length (Rg.cap g) 106 2 (Rg.s g)]) (by rw[copy2 _ (by omega) (by omega)];simp only[Rg.grown,wX _ (show g.first≤g.s.length by omega) (show g.s.length≤(min g.size (2*g.s.length+1)) by omega)]) ?_
  refine rn [27,7,10,2,2,2,6,4] ?_
  refine g_op (zJ rfl rfl rfl rfl rfl rfl rfl ?_)
  refine rn [6,4] ?_
  refine g_op (zJ rfl rfl rfl rfl rfl rfl rfl ?_)
  refine rn [9] ?_
  have hgr:=h.grown (some ⟨g26,0,none⟩) (z:=[Value.int .i64 0,Value.int .i64 0]) ⟨rfl,by simp[PP.c,Value.oneCell']⟩ hn hs
  have hgc:splice (splice g.c 0 [Value.slice (some ⟨g26,0,none⟩) (min g.size (2*g.s.length+1)) (min g.size (2*g.s.length+1))]) 2 [Value.int .i64 0]=Rg.c (Rg.grown g (some ⟨g26,0,none⟩) [Value.int .i64 0,Value.int .i64 0]):=by simp only[Rg.c,Rg.grown,wX _ (show g.first≤g.s.length by omega) (show g.s.length≤(min g.size (2*g.s.length+1)) by omega)];simp[splice]
  refine zV (L' := [Res.row (some ⟨g26,0,none⟩) (Rg.s (Rg.grown g (some ⟨g26,0,none⟩) [Value.int .i64 0,Value.int .i64 0])).length (Rg.cap (Rg.grown g (some ⟨g26,0,none⟩) [Value.int .i64 0,Value.int .i64 0])) 106 2 (Rg.s (Rg.grown g (some ⟨g26,0,none⟩) [Value.int .i64 0,Value.int .i64 0])),Res.blk b 195 (Rg.c (Rg.grown g (some ⟨g26,0,none⟩) [Value.int .i64 0,Value.int .i64 0])),Res.row (Rg.A g) (Rg.s g).length (Rg.cap g) 106 2 (Rg.s g)]) (by rw[←hgc]) ?_
  exact fin0 rfl (fun w' hw' => ⟨(Rg.grown g (some ⟨g26,0,none⟩) [Value.int .i64 0,Value.int .i64 0]),(by first|exact⟨hgr.1,hgr.2,rfl⟩|(dsimp only;exact⟨hgr.1,hgr.2,rfl⟩)),rfl,by have h9:=zB (L' := [Res.blk b 195 (Rg.c (Rg.grown g (some ⟨g26,0,none⟩) [Value.int .i64 0,Value.int .i64 0])),Res.row (some ⟨g26,0,none⟩) (Rg.s (Rg.grown g (some ⟨g26,0,none⟩) [Value.int .i64 0,Value.int .i64 0])).length (Rg.cap (Rg.grown g (some ⟨g26,0,none⟩) [Value.int .i64 0,Value.int .i64 0])) 106 2 (Rg.s (Rg.grown g (some ⟨g26,0,none⟩) [Value.int .i64 0,Value.int .i64 0]))]) w' hw';exact h9⟩) _ (.inr rfl)
theorem new_pp (n:Nat) (w:World) (hn:1≤n∧n≤1048576):Own2 (ι:=(Nat × Rg)) Tryz.prog 41 [.int .i64 (n:Int)] w [] (fun x=>x.2.Rep 2 (([]:List PP).map PP.c)∧x.2.size=n) (fun x=>.pointer (some ⟨x.1,0,none⟩)) (fun x=>[rB_pp x.1 x.2,rW_pp x.2]) (fun x=>[]):=by
 refine g_st Tryz.func41 12 (WOK.start (fps []) _) ?_
 refine rn [1,3,0,8,1,2,46] ?_
 refine yC 4 (b:=false) rfl (by simp;omega) ?_
 refine rn [2,22,2,22,55] ?_
 refine yC 7 (b:=false) rfl (by simp;omega) ?_
 refine rn [42,0,20,12,7,1,2] ?_
 refine s_q (yH (c:=Rg.c (Rg.init n)) rfl rfl) rfl ?_
 refine g_op (g_box rfl rfl rfl fun b11=>?_)
 refine rn [3,0,11] ?_
 refine wP none 106 2 ?_
 exact fin1 rfl (.tmp rfl) (fun w' hw' => ⟨(b11,Rg.init n),(by first|exact⟨.init hn.2,rfl⟩|(dsimp only;exact⟨.init hn.2,rfl⟩)),rfl,by have h9:=zB (L' := [Res.blk b11 195 (Rg.c (Rg.init n)),Res.row none 0 0 106 2 []]) w' hw';exact h9⟩) _ (.inl rfl)
theorem len_pp (b:Nat) (g:Rg) (l:List PP) (w:World) (hw:W0 [rB_pp b g,rW_pp g] w) (h:g.Rep 2 (l.map PP.c)):Keep Tryz.prog 95 [.pointer (some ⟨b,0,none⟩)] w [rB_pp b g,rW_pp g] (.int .i64 (l.length:Int)):=by
 refine g_st Tryz.func95 9 hw ?_
 refine rn [1,3,0,8,1,2,50,0,20,12,7,1,2,6,4,5,3,0,11] ?_
 exact fin1 rfl (.tmp rfl) (fun w' hw' => ⟨(),trivial,by rw[h.num],zA w' hw'⟩) _ (.inl rfl)
theorem free_pp (b:Nat) (g:Rg) (l:List PP) (w:World) (hw:W0 [rB_pp b g,rW_pp g] w) (h:g.Rep 2 (l.map PP.c)):Keep Tryz.prog 181 [.pointer (some ⟨b,0,none⟩)] w [rB_pp b g,rW_pp g] (.int .i64 ((g.size-l.length:Nat):Int)):=by
 refine g_st Tryz.func181 14 hw ?_
 have q1:=h.sz;have q2:=h.hi;have q3:=h.le
 refine rn [1,3,0,8,1,2,50,0,20,12,7,8] ?_
 refine dreg [] mixed rfl ?_
 refine rn [23,0,2,23,1,6,23,2,4,23,3,5,23,4,2,23,5,6,23,6,4,23,7,5] ?_
 refine dq 8 rfl (sJ (a:=(Rg.size g)) (b:=(Rg.n g)) rfl rfl (by first|omega|(simp;omega)|(simp_all;omega)) (by first|omega|(simp;omega)|(simp_all;omega))) ?_
 refine rn [23,9,3,27,7,11] ?_
 exact fin1 rfl (.tmp rfl) (fun w' hw' => ⟨(),trivial,by rw[h.num],zA w' hw'⟩) _ (.inl rfl)
theorem peek_pp (b:Nat) (g:Rg) (l:List PP) (i:Int) (w:World) (hw:W0 [rB_pp b g,rW_pp g] w) (h:g.Rep 2 (l.map PP.c)):Keep Tryz.prog 96 [.pointer (some ⟨b,0,none⟩),.int .i64 i] w [rB_pp b g,rW_pp g] (.tuple [.agg (PP.c ((pk l i).getD (⟨0,0⟩:PP))).toArray,.bool (pk l i).isSome].toArray):=by
 refine g_st Tryz.func96 34 hw ?_
 refine rn [1] ?_
 refine g_op (zK rfl fun b4=>?_)
 refine rn [3,0,1] ?_
 refine g_op (zK rfl fun b6=>?_)
 refine rn [0,8,1,2,46,2] ?_
 refine zU 9 rfl (fun h1=>?_) (fun h1=>?_)
 ·refine rn [21,21,21,21,41,0,19,1,45,33,3,0,11,13] ?_
  exact fin2 rfl (.cellw rfl rfl) (.tmp rfl) (fun w' hw' => ⟨(),trivial,by have e:pk l i=none:=(by unfold pk;rw[if_neg (by simp at h1;omega)]);rw[e];rfl,zA w' hw'⟩) _ (.inl rfl)
 ·refine rn [22,2,22,2] ?_
  refine g_gt rfl rfl (zL _ rfl (fun w1 hw1 ho1=>by exact len_pp b g l w1 ho1 h) rfl ?_)
  refine rn [22,53,42,0] ?_
  refine zC rfl (fun h2=>?_) (fun h2=>?_)
  ·refine rn [1,45,33,3,0,11,13] ?_
   exact fin2 rfl (.cellw rfl rfl) (.tmp rfl) (fun w' hw' => ⟨(),trivial,by have e:pk l i=none:=(by unfold pk;rw[if_pos (by simp at h1;omega),List.getElem?_eq_none (by simp at h1 h2;omega)]);rw[e];rfl,zA w' hw'⟩) _ (.inl rfl)
  ·obtain⟨i,rfl⟩:∃i' : Nat,i=i' := ⟨i.toNat,by simp at h1;omega⟩
   have hi:i<l.length:=by simp at h2;omega
   have q1:=h.sz;have q2:=h.hi;have q3:=h.le;have q4:=h.num;have q5:=h.fst
   refine rn [12,7,8] ?_
   refine dreg [18] mixed rfl ?_
   refine rn [23,0,2,23,1,6,23,2,4,23,3,5,23,4,2,23,5,6,23,6,4,23,7,5,23,8,2] ?_
   refine dq 9 rfl (vQ (a:=g.first) (b:=i) rfl rfl (by omega)) ?_
   refine rn [23,10,2,23,11,6,23,12,4,23,13,5,23,14,47] ?_
   refine dq 15 rfl (wG rfl rfl (by omega)) ?_
   refine dq 16 rfl (zP (i:=(g.first+i)%g.s.length) rfl rfl rfl (InRow.rdb (A:=Rg.A g) rfl (fun c hc=>(h.one c hc).1)) (h.idx hi)) ?_
   refine dq 17 rfl (zS (i:=(g.first+i)%g.s.length) rfl (InRow.rdb (A:=Rg.A g) rfl (fun c hc=>(h.one c hc).1)) (h.at hi) rfl) ?_
   refine dop 18 rfl (zQ rfl rfl rfl rfl rfl ?_)
   refine rn [24,19,3,28,7,11] ?_
   exact fin2 rfl (.cellw rfl rfl) (.tmp rfl) (fun w' hw' => ⟨(),trivial,by rw[uK,List.getElem?_eq_getElem hi];rfl,zA w' hw'⟩) _ (.inl rfl)
theorem pop_pp (b:Nat) (g:Rg) (l:List PP) (w:World) (hw:W0 [rB_pp b g,rW_pp g] w) (h:g.Rep 2 (l.map PP.c)):Own2 (ι:=Rg) Tryz.prog 234 [.pointer (some ⟨b,0,none⟩)] w [rB_pp b g,rW_pp g] (fun x=>x.Rep 2 (l.tail.map PP.c)∧x.size=g.size) (fun x=>.tuple [.agg (PP.c (l.head?.getD (⟨0,0⟩:PP))).toArray,.bool l.head?.isSome].toArray) (fun x=>[]) (fun x=>[rB_pp b x,rW_pp x]):=by
 refine g_st Tryz.func234 46 hw ?_
 refine rn [1] ?_
 refine g_op (zK rfl fun b2=>?_)
 refine rn [3,0,1,2] ?_
 refine g_op (zL _ rfl (fun w1 hw1 ho1=>by exact peek_pp b g l _ w1 ho1 h) rfl ?_)
 refine rn [2,40,40] ?_
 refine g_op (zK rfl fun b4=>?_)
 refine rn [33,3,0,8,1,2,0] ?_
 refine zC rfl (fun h1=>?_) (fun h1=>?_)
 ·obtain⟨x,l',rfl⟩:∃x l',l=x :: l' := by cases l with|nil=>simp[pk] at h1|cons x l' => exact⟨x,l',rfl⟩
  obtain⟨qf,qg,qn⟩:=h.hd
  have q1:=h.sz;have q2:=h.hi;have q3:=h.le
  refine rn [1] ?_
  refine g_op (zK rfl fun b6=>?_)
  refine rn [0,8] ?_
  refine dreg [10] mixed rfl ?_
  refine rn [23,0,2,23,1,6,23,2,4,23,3,5,23,4,2,23,5,6,23,6,4,23,7,5,23,8,45] ?_
  refine dq 9 rfl (zP (i:=g.first) rfl rfl rfl (InRow.rdb (A:=Rg.A g) rfl (fun c hc=>(h.one c hc).1)) qf) ?_
  refine dop 10 rfl (yA (A:=Rg.A g) (i:=g.first) (o:=0) (cs' := [Value.int .i64 0,Value.int .i64 0]) rfl rfl rfl rfl rfl qg (by decide) rfl rfl ?_)
  refine rn [28,7,8] ?_
  refine dreg [14] mixed rfl ?_
  refine rn [23,0,2,23,1,2,23,2,6,23,3,4,23,4,5,23,5,43,23,6,2,23,7,6,23,8,4,23,9,5,23,10,47] ?_
  refine dq 11 rfl (wG (a:=((Rg.first g)+1)) (b:=(Rg.s g).length) rfl rfl (by first|omega|(simp;omega)|(simp_all;omega))) ?_
  refine rn [24,12,6,23,13,4] ?_
  refine dop 14 rfl (zJ rfl rfl rfl rfl rfl rfl rfl ?_)
  refine rn [28,7,10,2,6,4,5] ?_
  refine s_q (sJ (a:=(Rg.n g)) (b:=1) rfl rfl (by first|omega|(simp;omega)|(simp_all;omega)) (by first|omega|(simp;omega)|(simp_all;omega))) rfl ?_
  refine rn [6,4] ?_
  refine g_op (zJ rfl rfl rfl rfl rfl rfl rfl ?_)
  refine rn [0,1,45,2,33,3,0,11] ?_
  refine zF (b:=b) (Rg.c (Rg.pop g [Value.int .i64 0,Value.int .i64 0])) (by simp[Rg.c,Rg.pop,splice]) ?_
  exact fin2 rfl (.cellw rfl rfl) (.tmp rfl) (fun w' hw' => ⟨(Rg.pop g [Value.int .i64 0,Value.int .i64 0]),(by first|exact⟨h.pop ⟨rfl,by simp[PP.c,Value.oneCell']⟩,rfl⟩|(dsimp only;exact⟨h.pop ⟨rfl,by simp[PP.c,Value.oneCell']⟩,rfl⟩)),by simp[pk],by have h9:=zB (L' := [Res.blk b 195 (Rg.c (Rg.pop g [Value.int .i64 0,Value.int .i64 0])),Res.row (Rg.A g) (Rg.s g).length (Rg.cap g) 106 2 ((Rg.s g).set (Rg.first g) [Value.int .i64 0,Value.int .i64 0])]) w' hw';show WOK _ _ [rB_pp b ((Rg.pop g [Value.int .i64 0,Value.int .i64 0])),rW_pp ((Rg.pop g [Value.int .i64 0,Value.int .i64 0]))] _;dsimp only[rB_pp,rW_pp];rw[show(Rg.s (Rg.pop g [Value.int .i64 0,Value.int .i64 0])).length=(Rg.s g).length from by simp[Rg.pop]];exact h9⟩) _ (.inl rfl)
 ·obtain rfl:l=[]:=by cases l with|cons x l' => simp[pk] at h1|nil=>rfl
  refine rn [12,7,1,45,2,33,3,0,11] ?_
  exact fin2 rfl (.cellw rfl rfl) (.tmp rfl) (fun w' hw' => ⟨g,(by exact⟨h,rfl⟩),by first|rfl|(simp_all;done),zA w' hw'⟩) _ (.inl rfl)
theorem push_pp (b:Nat) (g:Rg) (l:List PP) (els:List PP) (A:Option Addr) (cap:Nat) (w:World) (hw:W0 [rB_pp b g,rW_pp g] w) (h:g.Rep 2 (l.map PP.c)) (hrd:Rd w [rB_pp b g,rW_pp g] A els.length 2 (els.map PP.c)) (hcap:els.length≤cap):Own2 (ι:=Rg) Tryz.prog 118 [.pointer (some ⟨b,0,none⟩),.slice A els.length cap] w [rB_pp b g,rW_pp g] (fun x=>x.Rep 2 ((l++els.take (min els.length (Rg.size g-l.length))).map PP.c)∧x.size=g.size) (fun x=>.int .i64 ((min els.length (Rg.size g-l.length)):Nat)) (fun x=>[]) (fun x=>[rB_pp b x,rW_pp x]):=by
 refine g_st Tryz.func118 53 hw ?_
 have q1:=h.sz;have q2:=h.hi;have q3:=h.le;have q4:=h.num
 refine rn [1,3,0,1,2,47,2] ?_
 refine g_op (zL _ rfl (fun w1 hw1 ho1=>by exact free_pp b g l w1 ho1 h) rfl ?_)
 refine s_q (rQ (a:=els.length) (b:=(Rg.size g-(l).length)) rfl rfl) rfl ?_
 refine rn [3,0,8,1,2,2] ?_
 refine s_q (yW (h:=(min els.length (Rg.size g-l.length))) rfl rfl rfl (by omega)) rfl ?_
 refine rn [47,2,0,14] ?_
 refine g_lk [0,4,5,15,16] (fun(x:Nat × Rg)=>[(17,.int .i64 ((x.1:Nat):Int))]) (fun(x:Nat × Rg)=>[rB_pp b x.2,rW_pp x.2]) (fun(x:Nat × Rg)=>x.1≤(min els.length (Rg.size g-l.length))∧Rg.Rep x.2 2 ((l++els.take x.1).map PP.c)∧Rg.size x.2=Rg.size g) (fun(x:Nat × Rg)=>(min els.length (Rg.size g-l.length))-x.1) (0,g) (by(try dsimp only);exact⟨Nat.zero_le _,(by simpa using h),rfl⟩) ?_
 rintro⟨k,g1⟩ ⟨le_k,hr,es⟩
 replace le_k:k≤(min els.length (Rg.size g-l.length)):=le_k
 replace hr:Rg.Rep g1 2 ((l++els.take k).map PP.c):=hr
 replace es:Rg.size g1=Rg.size g:=es
 refine zV (L' := [rB_pp b g1,rW_pp g1]) rfl ?_
 refine g_val 17 (v' := .int .i64 ((k:Nat):Int)) rfl rfl ?_
 refine rn [1,46,0,8] ?_
 refine zC rfl (fun h1=>?_) (fun h1=>?_)
 ·have lt_k:k<(min els.length (Rg.size g-l.length)):=by have h9:=of_decide_eq_true h1;omega
  refine rn [12,7,8,14,1] ?_
  refine s_q (zP (i:=k) rfl rfl rfl (hrd.rdb.h (cap:=cap) (by omega) hcap) (by first|exact lt_k|omega)) rfl ?_
  refine s_q (zS (i:=k) rfl (hrd.rdb.h (cap:=cap) (by omega) hcap) (vT (l:=els) (m:=(min els.length (Rg.size g-l.length))) (by first|exact lt_k|omega) (by omega)) rfl) rfl ?_
  refine g_op (zK rfl fun b7=>?_)
  refine rn [33,0,1,2] ?_
  refine g_op (zG _ rfl (fun w1 hw1 ho1=>by exact grow_pp b g1 _ w1 ho1 hr (by have q1:=hr.num;simp at q1;omega)) rfl ?_)
  rintro g22 ⟨r22,n22,s22⟩
  refine ii ?_
  have q1:=r22.sz;have q2:=r22.hi;have q3:=r22.fst
  refine rn [0,8] ?_
  refine dreg [21] mixed rfl ?_
  refine rn [23,0,2,23,1,6,23,2,4,23,3,5,23,4,2,23,5,6,23,6,4,23,7,5,23,8,2,23,9,6,23,10,4,23,11,5] ?_
  refine dq 12 rfl (vQ (a:=(Rg.first g22)) (b:=(Rg.n g22)) rfl rfl (by first|omega|(simp;omega)|(simp_all;omega))) ?_
  refine rn [23,13,2,23,14,6,23,15,4,23,16,5,23,17,47] ?_
  refine dq 18 rfl (wG (a:=((Rg.first g22)+(Rg.n g22))) (b:=(Rg.s g22).length) rfl rfl (by first|omega|(simp;omega)|(simp_all;omega))) ?_
  refine rn [23,19,45] ?_
  refine dq 20 rfl (zP (i:=(g22.first+g22.n)%g22.s.length) rfl rfl rfl (InRow.rdb (A:=Rg.A g22) rfl (fun c hc=>(r22.one c hc).1)) (Nat.mod_lt _ (by omega))) ?_
  refine dop 21 rfl (yA (A:=Rg.A g22) (i:=(g22.first+g22.n)%g22.s.length) (o:=0) (cs' := (PP.c els[k])) rfl rfl rfl rfl rfl (List.getElem?_eq_getElem (Nat.mod_lt _ (by omega))) (by simp[PP.c]) rfl (yD (r22.one _ (List.getElem_mem _)).1) ?_)
  refine rn [28,7,10,2,6,4,5,43,6,4] ?_
  refine g_op (zJ rfl rfl rfl rfl rfl rfl rfl ?_)
  refine rn [9,15,7,10,43,2,9] ?_
  refine zV (L' := [Res.blk b7 106 (PP.c els[k]),rB_pp b (Rg.put g22 (PP.c els[k])),rW_pp (Rg.put g22 (PP.c els[k]))]) (by simp[rB_pp,rW_pp,Rg.put,Rg.c,splice]) ?_
  exact g_ag ((k+1),(Rg.put g22 (PP.c els[k]))) (by(try dsimp only);exact⟨(by first|exact lt_k|omega),(by rw[←vS (by omega)];exact r22.put ⟨rfl,by simp[PP.c,Value.oneCell']⟩ n22),(by simp only[Rg.put];omega)⟩)
 ·have eq_k:k=(min els.length (Rg.size g-l.length)):=by have h9:=of_decide_eq_false h1;omega
  refine rn [16] ?_
  refine zD (zD (zN ?_))
  refine rn [7,1,2,3,0,11] ?_
  exact fin1 rfl (.tmp rfl) (fun w' hw' => ⟨g1,(by exact⟨by rw[←eq_k];exact hr,es⟩),by first|rfl|(simp_all;done),zA w' hw'⟩) _ (.inl rfl)
theorem all_pp (b:Nat) (g:Rg) (l:List PP) (w:World) (hw:W0 [rB_pp b g,rW_pp g] w) (h:g.Rep 2 (l.map PP.c)):Own2 (ι:=(Option Addr × Nat)) Tryz.prog 51 [.pointer (some ⟨b,0,none⟩)] w [rB_pp b g,rW_pp g] (fun x=>True) (fun x=>.slice x.1 l.length x.2) (fun x=>[Res.row x.1 l.length x.2 106 2 (l.map PP.c)]) (fun x=>[rB_pp b g,rW_pp g]):=by
 refine g_st Tryz.func51 24 hw ?_
 have q1:=h.sz;have q2:=h.hi;have q3:=h.le;have q4:=h.num
 refine rn [1,3,0,1,3] ?_
 refine xL 3 106 2 rfl fun A3 cap3 hc3=>?_
 refine rn [0,8,1,2] ?_
 refine g_op (zL _ rfl (fun w1 hw1 ho1=>by exact len_pp b g l w1 ho1 h) rfl ?_)
 refine rn [2,0,14] ?_
 refine zH (A:=A3) ((l.take 0).map PP.c) (by simp) ?_
 refine g_lk [0,2,8] (fun(x:Nat × Option Addr × Nat)=>[(3,.slice x.2.1 x.1 x.2.2),(9,.int .i64 ((x.1:Nat):Int))]) (fun(x:Nat × Option Addr × Nat)=>[Res.row x.2.1 x.1 x.2.2 106 2 ((l.take x.1).map PP.c),rB_pp b g,rW_pp g]) (fun(x:Nat × Option Addr × Nat)=>x.1≤l.length) (fun(x:Nat × Option Addr × Nat)=>l.length-x.1) (0,A3,cap3) (by(try dsimp only);exact Nat.zero_le _) ?_
 rintro⟨k,A,cap⟩ le_k
 replace le_k:k≤l.length:=le_k
 refine zV (L' := [Res.row A k cap 106 2 ((l.take k).map PP.c),rB_pp b g,rW_pp g]) rfl ?_
 refine g_val 3 (v' := .slice A k cap) rfl rfl ?_
 refine g_val 9 (v' := .int .i64 ((k:Nat):Int)) rfl rfl ?_
 refine rn [1,46,0,8] ?_
 refine zC rfl (fun h1=>?_) (fun h1=>?_)
 ·have lt_k:k<l.length:=by have h9:=of_decide_eq_true h1;omega
  refine rn [12,7,8,14,1,2,3,0,1,2,2] ?_
  refine g_op (zL _ rfl (fun w1 hw1 ho1=>by exact peek_pp b g l _ w1 ho1 h) rfl ?_)
  refine rn [2,40,40] ?_
  refine g_op (zK rfl fun b5=>?_)
  refine rn [33] ?_
  refine zF (b:=b5) (PP.c l[k]) (by rw[uK,List.getElem?_eq_getElem lt_k];rfl) ?_
  refine rn [3,0,10,2,45] ?_
  refine g_op (g_lit rfl rfl rfl rfl rfl fun b20=>?_)
  refine g_op (zZ (A:=A) (els:=(l.take k).map PP.c) (news:=[PP.c l[k]]) rfl rfl (InL.rdb (b:=b20) rfl (by simp[PP.c]) rfl) (by simp[PP.c,Value.oneCell']) (by omega) rfl fun A' cap' => ⟨_,inferInstance,?_⟩)
  refine zH (A:=A') ((l.take (k+1)).map PP.c) (vR lt_k) ?_
  refine rn [3,9,15,7,10,43,2,9] ?_
  exact g_ag ((k+1),A',cap') (by(try dsimp only);exact(by first|exact lt_k|omega))
 ·have eq_k:k=l.length:=by have h9:=of_decide_eq_false h1;omega
  subst eq_k
  refine rn [16] ?_
  refine zD (zD (zN ?_))
  refine rn [7,1,2,3,0,11] ?_
  refine zH (A:=A) (l.map PP.c) (by simp) ?_
  exact fin1 rfl (.tmp rfl) (fun w' hw' => ⟨(A,cap),(by exact trivial),rfl,by have h9:=zB (L' := [Res.row A l.length cap 106 2 (l.map PP.c),rB_pp b g,rW_pp g]) w' hw';exact h9⟩) _ (.inl rfl)
abbrev rB_rq (b:Nat) (g:Rg):Res:=Res.blk b 197 (Rg.c g)
abbrev rW_rq (g:Rg):Res:=Res.row (Rg.A g) (Rg.s g).length (Rg.cap g) 110 2 (Rg.s g)
theorem grow_rq (b:Nat) (g:Rg) (l:List (List Value)) (w:World) (hw:W0 [rB_rq b g,rW_rq g] w) (h:g.Rep 2 l) (hs:g.n<g.size):Own2 (ι:=Rg) Tryz.prog 184 [.pointer (some ⟨b,0,none⟩)] w [rB_rq b g,rW_rq g] (fun x=>x.Rep 2 l∧x.n<x.s.length∧x.size=g.size) (fun x=>.tuple #[]) (fun x=>[]) (fun x=>[rB_rq b x,rW_rq x]):=by
 refine g_st Tryz.func184 58 hw ?_
 refine rn [8,8] ?_
 refine dreg [] mixed rfl ?_
 refine rn [23,0,2,23,1,6,23,2,4,23,3,5,23,4,2,23,5,6,23,6,4,23,7,5,23,8,47,23,9,46,27,7] ?_
 refine zC rfl (fun h1=>?_) (fun h1=>?_)
 ·refine rn [11,13] ?_
  exact fin0 rfl (fun w' hw' => ⟨g,(by(try dsimp only);exact⟨h,by simpa using h1,rfl⟩),by first|rfl|(simp_all;done),zA w' hw'⟩) _ (.inl rfl)
 ·refine rn [12,7,8] ?_
  refine dreg [] mixed rfl ?_
  have hn:g.n=g.s.length:=by have:=h.le;simp at h1;omega
  have q1:=h.sz;have q2:=h.hi;have q3:=h.fst;have q4:=h.cp
  refine rn [23,0,2,23,1,6,23,2,4,23,3,5,23,4,2,23,5,6,23,6,4,23,7,5,23,8,47] ?_
  refine dq 9 rfl (uJ rfl rfl (wi64 (by omega) (by omega))) ?_
  refine dq 10 rfl (yJ rfl rfl (wi64 (by omega) (by omega))) ?_
  refine rn [23,11,58] ?_
  refine dop 12 rfl (rV (n:=(min g.size (2*g.s.length+1))) rfl rfl (by omega) (by omega) (by omega) rfl fun g26=>?_)
  refine rn [23,13,3,27,7,8] ?_
  refine dregL (L0:=[Res.blk b 197 (Rg.c g),Res.row (Rg.A g) (Rg.s g).length (Rg.cap g) 110 2 (Rg.s g)]) [] mixed rfl zB ?_
  refine rn [23,0,2,23,1,2,23,2,6,23,3,4,23,4,5,23,5,2,23,6,6,23,7,4,23,8,5] ?_
  refine dq 9 rfl (xG (l:=g.first) rfl rfl rfl (by omega)) ?_
  refine dop 10 rfl (tK (A:=some ⟨g26,0,none⟩) (n:=(min g.size (2*g.s.length+1))) (cap:=(min g.size (2*g.s.length+1))) (els:=List.replicate (min g.size (2*g.s.length+1)) [Value.int .i64 0,Value.int .u64 0]) (l:=0) rfl rfl (fun _=>by simp) (Rdb.sub (Rdb.row 2 rfl rfl (fun c hc=>(h.one c hc).1)) (l:=g.first) (h:=g.s.length) (by omega) (Nat.le_refl _) q4) (by omega) (fun c hc=>(h.one c (List.mem_of_mem_drop (List.mem_of_mem_take hc))).2) rfl ?_)
  refine zV (L' := [Res.row (some ⟨g26,0,none⟩) (min g.size (2*g.s.length+1)) (min g.size (2*g.s.length+1)) 110 2 (g.s.drop g.first++List.replicate ((min g.size (2*g.s.length+1))-(g.s.length-g.first)) [Value.int .i64 0,Value.int .u64 0]),Res.blk b 197 (Rg.c g),Res.row (Rg.A g) (Rg.s g).length (Rg.cap g) 110 2 (Rg.s g)]) (by rw[copy1 _ (by omega) (by omega)]) ?_
  have ek:min (g.s.length-g.first) (min g.size (2*g.s.length+1))=g.s.length-g.first:=by omega
  refine rn [23,11,3,27,7,8] ?_
  refine dregL (L0:=[Res.blk b 197 (Rg.c g),Res.row (Rg.A g) (Rg.s g).length (Rg.cap g) 110 2 (Rg.s g)]) [] mixed rfl zB ?_
  refine rn [23,0,2,23,1,2] ?_
  refine dq 2 rfl (xG (l:=g.s.length-g.first) rfl rfl (by omega) (by omega)) ?_
  refine rn [23,3,2,23,4,6,23,5,4,23,6,5,23,7,2,23,8,6,23,9,4,23,10,5] ?_
  refine dq 11 rfl (yW (h:=g.first) rfl rfl rfl (by omega)) ?_
  refine dop 12 rfl (tK (A:=some ⟨g26,0,none⟩) (n:=(min g.size (2*g.s.length+1))) (cap:=(min g.size (2*g.s.length+1))) (els:=g.s.drop g.first++List.replicate ((min g.size (2*g.s.length+1))-(g.s.length-g.first)) [Value.int .i64 0,Value.int .u64 0]) (l:=g.s.length-g.first) rfl rfl (fun h0=>by unfold subA;rw[if_neg (by omega)];simp[yP]) (Rdb.sub (Rdb.row 2 rfl rfl (fun c hc=>(h.one c hc).1)) (l:=0) (h:=g.first) (by omega) (by omega) q4) (by omega) (fun c hc=>(h.one c (List.mem_of_mem_drop (List.mem_of_mem_take hc))).2) rfl ?_)
  refine zV (L' := [Res.row (some ⟨g26,0,none⟩) (Rg.s (Rg.grown g (some ⟨g26,0,none⟩) [Value.int .i64 0,Value.int .u64 0])).length (Rg.cap (Rg.grown g (some ⟨g26,0,none⟩) [Value.int .i64 0,Value.int .u64 0])) 110 2 (Rg.s (Rg.grown g (some ⟨g26,0,none⟩) [Value.int .i64 0,Value.int .u64 0])),Res.blk b 197 (Rg.c g),Res.row (Rg.A g) (Rg.s g).length (Rg.cap g) 110 2 (Rg.s g)]) (by rw[copy2 _ (by omega) (by omega)];simp only[Rg.grown,wX _ (show g.first≤g.s.length by omega) (show g.s.length≤(min g.size (2*g.s.length+1)) by omega)]) ?_
  refine rn [27,7,10,2,2,2,6,4] ?_
  refine g_op (zJ rfl rfl rfl rfl rfl rfl rfl ?_)
  refine rn [6,4] ?_
  refine g_op (zJ rfl rfl rfl rfl rfl rfl rfl ?_)
  refine rn [9] ?_
  have hgr:=h.grown (some ⟨g26,0,none⟩) (z:=[Value.int .i64 0,Value.int .u64 0]) ⟨rfl,by simp[Rq.c,Value.oneCell']⟩ hn hs
  have hgc:splice (splice g.c 0 [Value.slice (some ⟨g26,0,none⟩) (min g.size (2*g.s.length+1)) (min g.size (2*g.s.length+1))]) 2 [Value.int .i64 0]=Rg.c (Rg.grown g (some ⟨g26,0,none⟩) [Value.int .i64 0,Value.int .u64 0]):=by simp only[Rg.c,Rg.grown,wX _ (show g.first≤g.s.length by omega) (show g.s.length≤(min g.size (2*g.s.length+1)) by omega)];simp[splice]
  refine zV (L' := [Res.row (some ⟨g26,0,none⟩) (Rg.s (Rg.grown g (some ⟨g26,0,none⟩) [Value.int .i64 0,Value.int .u64 0])).length (Rg.cap (Rg.grown g (some ⟨g26,0,none⟩) [Value.int .i64 0,Value.int .u64 0])) 110 2 (Rg.s (Rg.grown g (some ⟨g26,0,none⟩) [Value.int .i64 0,Value.int .u64 0])),Res.blk b 197 (Rg.c (Rg.grown g (some ⟨g26,0,none⟩) [Value.int .i64 0,Value.int .u64 0])),Res.row (Rg.A g) (Rg.s g).length (Rg.cap g) 110 2 (Rg.s g)]) (by rw[←hgc]) ?_
  exact fin0 rfl (fun w' hw' => ⟨(Rg.grown g (some ⟨g26,0,none⟩) [Value.int .i64 0,Value.int .u64 0]),(by first|exact⟨hgr.1,hgr.2,rfl⟩|(dsimp only;exact⟨hgr.1,hgr.2,rfl⟩)),rfl,by have h9:=zB (L' := [Res.blk b 197 (Rg.c (Rg.grown g (some ⟨g26,0,none⟩) [Value.int .i64 0,Value.int .u64 0])),Res.row (some ⟨g26,0,none⟩) (Rg.s (Rg.grown g (some ⟨g26,0,none⟩) [Value.int .i64 0,Value.int .u64 0])).length (Rg.cap (Rg.grown g (some ⟨g26,0,none⟩) [Value.int .i64 0,Value.int .u64 0])) 110 2 (Rg.s (Rg.grown g (some ⟨g26,0,none⟩) [Value.int .i64 0,Value.int .u64 0]))]) w' hw';exact h9⟩) _ (.inr rfl)
theorem new_rq (n:Nat) (w:World) (hn:1≤n∧n≤1048576):Own2 (ι:=(Nat × Rg)) Tryz.prog 42 [.int .i64 (n:Int)] w [] (fun x=>x.2.Rep 2 (([]:List Rq).map Rq.c)∧x.2.size=n) (fun x=>.pointer (some ⟨x.1,0,none⟩)) (fun x=>[rB_rq x.1 x.2,rW_rq x.2]) (fun x=>[]):=by
 refine g_st Tryz.func42 12 (WOK.start (fps []) _) ?_
 refine rn [1,3,0,8,1,2,46] ?_
 refine yC 4 (b:=false) rfl (by simp;omega) ?_
 refine rn [2,22,2,22,55] ?_
 refine yC 7 (b:=false) rfl (by simp;omega) ?_
 refine rn [42,0,20,12,7,1,2] ?_
 refine s_q (yH (c:=Rg.c (Rg.init n)) rfl rfl) rfl ?_
 refine g_op (g_box rfl rfl rfl fun b11=>?_)
 refine rn [3,0,11] ?_
 refine wP none 110 2 ?_
 exact fin1 rfl (.tmp rfl) (fun w' hw' => ⟨(b11,Rg.init n),(by first|exact⟨.init hn.2,rfl⟩|(dsimp only;exact⟨.init hn.2,rfl⟩)),rfl,by have h9:=zB (L' := [Res.blk b11 197 (Rg.c (Rg.init n)),Res.row none 0 0 110 2 []]) w' hw';exact h9⟩) _ (.inl rfl)
theorem len_rq (b:Nat) (g:Rg) (l:List Rq) (w:World) (hw:W0 [rB_rq b g,rW_rq g] w) (h:g.Rep 2 (l.map Rq.c)):Keep Tryz.prog 97 [.pointer (some ⟨b,0,none⟩)] w [rB_rq b g,rW_rq g] (.int .i64 (l.length:Int)):=by
 refine g_st Tryz.func97 9 hw ?_
 refine rn [1,3,0,8,1,2,50,0,20,12,7,1,2,6,4,5,3,0,11] ?_
 exact fin1 rfl (.tmp rfl) (fun w' hw' => ⟨(),trivial,by rw[h.num],zA w' hw'⟩) _ (.inl rfl)
theorem free_rq (b:Nat) (g:Rg) (l:List Rq) (w:World) (hw:W0 [rB_rq b g,rW_rq g] w) (h:g.Rep 2 (l.map Rq.c)):Keep Tryz.prog 183 [.pointer (some ⟨b,0,none⟩)] w [rB_rq b g,rW_rq g] (.int .i64 ((g.size-l.length:Nat):Int)):=by
 refine g_st Tryz.func183 14 hw ?_
 have q1:=h.sz;have q2:=h.hi;have q3:=h.le
 refine rn [1,3,0,8,1,2,50,0,20,12,7,8] ?_
 refine dreg [] mixed rfl ?_
 refine rn [23,0,2,23,1,6,23,2,4,23,3,5,23,4,2,23,5,6,23,6,4,23,7,5] ?_
 refine dq 8 rfl (sJ (a:=(Rg.size g)) (b:=(Rg.n g)) rfl rfl (by first|omega|(simp;omega)|(simp_all;omega)) (by first|omega|(simp;omega)|(simp_all;omega))) ?_
 refine rn [23,9,3,27,7,11] ?_
 exact fin1 rfl (.tmp rfl) (fun w' hw' => ⟨(),trivial,by rw[h.num],zA w' hw'⟩) _ (.inl rfl)
theorem peek_rq (b:Nat) (g:Rg) (l:List Rq) (i:Int) (w:World) (hw:W0 [rB_rq b g,rW_rq g] w) (h:g.Rep 2 (l.map Rq.c)):Keep Tryz.prog 98 [.pointer (some ⟨b,0,none⟩),.int .i64 i] w [rB_rq b g,rW_rq g] (.tuple [.agg (Rq.c ((pk l i).getD (⟨0,0⟩:Rq))).toArray,.bool (pk l i).isSome].toArray):=by
 refine g_st Tryz.func98 34 hw ?_
 refine rn [1] ?_
 refine g_op (zK rfl fun b4=>?_)
 refine rn [3,0,1] ?_
 refine g_op (zK rfl fun b6=>?_)
 refine rn [0,8,1,2,46,2] ?_
 refine zU 9 rfl (fun h1=>?_) (fun h1=>?_)
 ·refine rn [21,21,21,21,41,0,19,1,45,33,3,0,11,13] ?_
  exact fin2 rfl (.cellw rfl rfl) (.tmp rfl) (fun w' hw' => ⟨(),trivial,by have e:pk l i=none:=(by unfold pk;rw[if_neg (by simp at h1;omega)]);rw[e];rfl,zA w' hw'⟩) _ (.inl rfl)
 ·refine rn [22,2,22,2] ?_
  refine g_gt rfl rfl (zL _ rfl (fun w1 hw1 ho1=>by exact len_rq b g l w1 ho1 h) rfl ?_)
  refine rn [22,53,42,0] ?_
  refine zC rfl (fun h2=>?_) (fun h2=>?_)
  ·refine rn [1,45,33,3,0,11,13] ?_
   exact fin2 rfl (.cellw rfl rfl) (.tmp rfl) (fun w' hw' => ⟨(),trivial,by have e:pk l i=none:=(by unfold pk;rw[if_pos (by simp at h1;omega),List.getElem?_eq_none (by simp at h1 h2;omega)]);rw[e];rfl,zA w' hw'⟩) _ (.inl rfl)
  ·obtain⟨i,rfl⟩:∃i' : Nat,i=i' := ⟨i.toNat,by simp at h1;omega⟩
   have hi:i<l.length:=by simp at h2;omega
   have q1:=h.sz;have q2:=h.hi;have q3:=h.le;have q4:=h.num;have q5:=h.fst
   refine rn [12,7,8] ?_
   refine dreg [18] mixed rfl ?_
   refine rn [23,0,2,23,1,6,23,2,4,23,3,5,23,4,2,23,5,6,23,6,4,23,7,5,23,8,2] ?_
   refine dq 9 rfl (vQ (a:=g.first) (b:=i) rfl rfl (by omega)) ?_
   refine rn [23,10,2,23,11,6,23,12,4,23,13,5,23,14,47] ?_
   refine dq 15 rfl (wG rfl rfl (by omega)) ?_
   refine dq 16 rfl (zP (i:=(g.first+i)%g.s.length) rfl rfl rfl (InRow.rdb (A:=Rg.A g) rfl (fun c hc=>(h.one c hc).1)) (h.idx hi)) ?_
   refine dq 17 rfl (zS (i:=(g.first+i)%g.s.length) rfl (InRow.rdb (A:=Rg.A g) rfl (fun c hc=>(h.one c hc).1)) (h.at hi) rfl) ?_
   refine dop 18 rfl (zQ rfl rfl rfl rfl rfl ?_)
   refine rn [24,19,3,28,7,11] ?_
   exact fin2 rfl (.cellw rfl rfl) (.tmp rfl) (fun w' hw' => ⟨(),trivial,by rw[uK,List.getElem?_eq_getElem hi];rfl,zA w' hw'⟩) _ (.inl rfl)
theorem pop_rq (b:Nat) (g:Rg) (l:List Rq) (w:World) (hw:W0 [rB_rq b g,rW_rq g] w) (h:g.Rep 2 (l.map Rq.c)):Own2 (ι:=Rg) Tryz.prog 238 [.pointer (some ⟨b,0,none⟩)] w [rB_rq b g,rW_rq g] (fun x=>x.Rep 2 (l.tail.map Rq.c)∧x.size=g.size) (fun x=>.tuple [.agg (Rq.c (l.head?.getD (⟨0,0⟩:Rq))).toArray,.bool l.head?.isSome].toArray) (fun x=>[]) (fun x=>[rB_rq b x,rW_rq x]):=by
 refine g_st Tryz.func238 46 hw ?_
 refine rn [1] ?_
 refine g_op (zK rfl fun b2=>?_)
 refine rn [3,0,1,2] ?_
 refine g_op (zL _ rfl (fun w1 hw1 ho1=>by exact peek_rq b g l _ w1 ho1 h) rfl ?_)
 refine rn [2,40,40] ?_
 refine g_op (zK rfl fun b4=>?_)
 refine rn [33,3,0,8,1,2,0] ?_
 refine zC rfl (fun h1=>?_) (fun h1=>?_)
 ·obtain⟨x,l',rfl⟩:∃x l',l=x :: l' := by cases l with|nil=>simp[pk] at h1|cons x l' => exact⟨x,l',rfl⟩
  obtain⟨qf,qg,qn⟩:=h.hd
  have q1:=h.sz;have q2:=h.hi;have q3:=h.le
  refine rn [1] ?_
  refine g_op (zK rfl fun b6=>?_)
  refine rn [0,8] ?_
  refine dreg [10] mixed rfl ?_
  refine rn [23,0,2,23,1,6,23,2,4,23,3,5,23,4,2,23,5,6,23,6,4,23,7,5,23,8,45] ?_
  refine dq 9 rfl (zP (i:=g.first) rfl rfl rfl (InRow.rdb (A:=Rg.A g) rfl (fun c hc=>(h.one c hc).1)) qf) ?_
  refine dop 10 rfl (yA (A:=Rg.A g) (i:=g.first) (o:=0) (cs' := [Value.int .i64 0,Value.int .u64 0]) rfl rfl rfl rfl rfl qg (by decide) rfl rfl ?_)
  refine rn [28,7,8] ?_
  refine dreg [14] mixed rfl ?_
  refine rn [23,0,2,23,1,2,23,2,6,23,3,4,23,4,5,23,5,43,23,6,2,23,7,6,23,8,4,23,9,5,23,10,47] ?_
  refine dq 11 rfl (wG (a:=((Rg.first g)+1)) (b:=(Rg.s g).length) rfl rfl (by first|omega|(simp;omega)|(simp_all;omega))) ?_
  refine rn [24,12,6,23,13,4] ?_
  refine dop 14 rfl (zJ rfl rfl rfl rfl rfl rfl rfl ?_)
  refine rn [28,7,10,2,6,4,5] ?_
  refine s_q (sJ (a:=(Rg.n g)) (b:=1) rfl rfl (by first|omega|(simp;omega)|(simp_all;omega)) (by first|omega|(simp;omega)|(simp_all;omega))) rfl ?_
  refine rn [6,4] ?_
  refine g_op (zJ rfl rfl rfl rfl rfl rfl rfl ?_)
  refine rn [0,1,45,2,33,3,0,11] ?_
  refine zF (b:=b) (Rg.c (Rg.pop g [Value.int .i64 0,Value.int .u64 0])) (by simp[Rg.c,Rg.pop,splice]) ?_
  exact fin2 rfl (.cellw rfl rfl) (.tmp rfl) (fun w' hw' => ⟨(Rg.pop g [Value.int .i64 0,Value.int .u64 0]),(by first|exact⟨h.pop ⟨rfl,by simp[Rq.c,Value.oneCell']⟩,rfl⟩|(dsimp only;exact⟨h.pop ⟨rfl,by simp[Rq.c,Value.oneCell']⟩,rfl⟩)),by simp[pk],by have h9:=zB (L' := [Res.blk b 197 (Rg.c (Rg.pop g [Value.int .i64 0,Value.int .u64 0])),Res.row (Rg.A g) (Rg.s g).length (Rg.cap g) 110 2 ((Rg.s g).set (Rg.first g) [Value.int .i64 0,Value.int .u64 0])]) w' hw';show WOK _ _ [rB_rq b ((Rg.pop g [Value.int .i64 0,Value.int .u64 0])),rW_rq ((Rg.pop g [Value.int .i64 0,Value.int .u64 0]))] _;dsimp only[rB_rq,rW_rq];rw[show(Rg.s (Rg.pop g [Value.int .i64 0,Value.int .u64 0])).length=(Rg.s g).length from by simp[Rg.pop]];exact h9⟩) _ (.inl rfl)
 ·obtain rfl:l=[]:=by cases l with|cons x l' => simp[pk] at h1|nil=>rfl
  refine rn [12,7,1,45,2,33,3,0,11] ?_
  exact fin2 rfl (.cellw rfl rfl) (.tmp rfl) (fun w' hw' => ⟨g,(by exact⟨h,rfl⟩),by first|rfl|(simp_all;done),zA w' hw'⟩) _ (.inl rfl)
theorem push_rq (b:Nat) (g:Rg) (l:List Rq) (els:List Rq) (A:Option Addr) (cap:Nat) (w:World) (hw:W0 [rB_rq b g,rW_rq g] w) (h:g.Rep 2 (l.map Rq.c)) (hrd:Rd w [rB_rq b g,rW_rq g] A els.length 2 (els.map Rq.c)) (hcap:els.length≤cap):Own2 (ι:=Rg) Tryz.prog 120 [.pointer (some ⟨b,0,none⟩),.slice A els.length cap] w [rB_rq b g,rW_rq g] (fun x=>x.Rep 2 ((l++els.take (min els.length (Rg.size g-l.length))).map Rq.c)∧x.size=g.size) (fun x=>.int .i64 ((min els.length (Rg.size g-l.length)):Nat)) (fun x=>[]) (fun x=>[rB_rq b x,rW_rq x]):=by
 refine g_st Tryz.func120 53 hw ?_
 have q1:=h.sz;have q2:=h.hi;have q3:=h.le;have q4:=h.num
 refine rn [1,3,0,1,2,47,2] ?_
 refine g_op (zL _ rfl (fun w1 hw1 ho1=>by exact free_rq b g l w1 ho1 h) rfl ?_)
 refine s_q (rQ (a:=els.length) (b:=(Rg.size g-(l).length)) rfl rfl) rfl ?_
 refine rn [3,0,8,1,2,2] ?_
 refine s_q (yW (h:=(min els.length (Rg.size g-l.length))) rfl rfl rfl (by omega)) rfl ?_
 refine rn [47,2,0,14] ?_
 refine g_lk [0,4,5,15,16] (fun(x:Nat × Rg)=>[(17,.int .i64 ((x.1:Nat):Int))]) (fun(x:Nat × Rg)=>[rB_rq b x.2,rW_rq x.2]) (fun(x:Nat × Rg)=>x.1≤(min els.length (Rg.size g-l.length))∧Rg.Rep x.2 2 ((l++els.take x.1).map Rq.c)∧Rg.size x.2=Rg.size g) (fun(x:Nat × Rg)=>(min els.length (Rg.size g-l.length))-x.1) (0,g) (by(try dsimp only);exact⟨Nat.zero_le _,(by simpa using h),rfl⟩) ?_
 rintro⟨k,g1⟩ ⟨le_k,hr,es⟩
 replace le_k:k≤(min els.length (Rg.size g-l.length)):=le_k
 replace hr:Rg.Rep g1 2 ((l++els.take k).map Rq.c):=hr
 replace es:Rg.size g1=Rg.size g:=es
 refine zV (L' := [rB_rq b g1,rW_rq g1]) rfl ?_
 refine g_val 17 (v' := .int .i64 ((k:Nat):Int)) rfl rfl ?_
 refine rn [1,46,0,8] ?_
 refine zC rfl (fun h1=>?_) (fun h1=>?_)
 ·have lt_k:k<(min els.length (Rg.size g-l.length)):=by have h9:=of_decide_eq_true h1;omega
  refine rn [12,7,8,14,1] ?_
  refine s_q (zP (i:=k) rfl rfl rfl (hrd.rdb.h (cap:=cap) (by omega) hcap) (by first|exact lt_k|omega)) rfl ?_
  refine s_q (zS (i:=k) rfl (hrd.rdb.h (cap:=cap) (by omega) hcap) (vT (l:=els) (m:=(min els.length (Rg.size g-l.length))) (by first|exact lt_k|omega) (by omega)) rfl) rfl ?_
  refine g_op (zK rfl fun b7=>?_)
  refine rn [33,0,1,2] ?_
  refine g_op (zG _ rfl (fun w1 hw1 ho1=>by exact grow_rq b g1 _ w1 ho1 hr (by have q1:=hr.num;simp at q1;omega)) rfl ?_)
  rintro g22 ⟨r22,n22,s22⟩
  refine ii ?_
  have q1:=r22.sz;have q2:=r22.hi;have q3:=r22.fst
  refine rn [0,8] ?_
  refine dreg [21] mixed rfl ?_
  refine rn [23,0,2,23,1,6,23,2,4,23,3,5,23,4,2,23,5,6,23,6,4,23,7,5,23,8,2,23,9,6,23,10,4,23,11,5] ?_
  refine dq 12 rfl (vQ (a:=(Rg.first g22)) (b:=(Rg.n g22)) rfl rfl (by first|omega|(simp;omega)|(simp_all;omega))) ?_
  refine rn [23,13,2,23,14,6,23,15,4,23,16,5,23,17,47] ?_
  refine dq 18 rfl (wG (a:=((Rg.first g22)+(Rg.n g22))) (b:=(Rg.s g22).length) rfl rfl (by first|omega|(simp;omega)|(simp_all;omega))) ?_
  refine rn [23,19,45] ?_
  refine dq 20 rfl (zP (i:=(g22.first+g22.n)%g22.s.length) rfl rfl rfl (InRow.rdb (A:=Rg.A g22) rfl (fun c hc=>(r22.one c hc).1)) (Nat.mod_lt _ (by omega))) ?_
  refine dop 21 rfl (yA (A:=Rg.A g22) (i:=(g22.first+g22.n)%g22.s.length) (o:=0) (cs' := (Rq.c els[k])) rfl rfl rfl rfl rfl (List.getElem?_eq_getElem (Nat.mod_lt _ (by omega))) (by simp[Rq.c]) rfl (yD (r22.one _ (List.getElem_mem _)).1) ?_)
  refine rn [28,7,10,2,6,4,5,43,6,4] ?_
  refine g_op (zJ rfl rfl rfl rfl rfl rfl rfl ?_)
  refine rn [9,15,7,10,43,2,9] ?_
  refine zV (L' := [Res.blk b7 110 (Rq.c els[k]),rB_rq b (Rg.put g22 (Rq.c els[k])),rW_rq (Rg.put g22 (Rq.c els[k]))]) (by simp[rB_rq,rW_rq,Rg.put,Rg.c,splice]) ?_
  exact g_ag ((k+1),(Rg.put g22 (Rq.c els[k]))) (by(try dsimp only);exact⟨(by first|exact lt_k|omega),(by rw[←vS (by omega)];exact r22.put ⟨rfl,by simp[Rq.c,Value.oneCell']⟩ n22),(by simp only[Rg.put];omega)⟩)
 ·have eq_k:k=(min els.length (Rg.size g-l.length)):=by have h9:=of_decide_eq_false h1;omega
  refine rn [16] ?_
  refine zD (zD (zN ?_))
  refine rn [7,1,2,3,0,11] ?_
  exact fin1 rfl (.tmp rfl) (fun w' hw' => ⟨g1,(by exact⟨by rw[←eq_k];exact hr,es⟩),by first|rfl|(simp_all;done),zA w' hw'⟩) _ (.inl rfl)
theorem all_rq (b:Nat) (g:Rg) (l:List Rq) (w:World) (hw:W0 [rB_rq b g,rW_rq g] w) (h:g.Rep 2 (l.map Rq.c)):Own2 (ι:=(Option Addr × Nat)) Tryz.prog 52 [.pointer (some ⟨b,0,none⟩)] w [rB_rq b g,rW_rq g] (fun x=>True) (fun x=>.slice x.1 l.length x.2) (fun x=>[Res.row x.1 l.length x.2 110 2 (l.map Rq.c)]) (fun x=>[rB_rq b g,rW_rq g]):=by
 refine g_st Tryz.func52 24 hw ?_
 have q1:=h.sz;have q2:=h.hi;have q3:=h.le;have q4:=h.num
 refine rn [1,3,0,1,3] ?_
 refine xL 3 110 2 rfl fun A3 cap3 hc3=>?_
 refine rn [0,8,1,2] ?_
 refine g_op (zL _ rfl (fun w1 hw1 ho1=>by exact len_rq b g l w1 ho1 h) rfl ?_)
 refine rn [2,0,14] ?_
 refine zH (A:=A3) ((l.take 0).map Rq.c) (by simp) ?_
 refine g_lk [0,2,8] (fun(x:Nat × Option Addr × Nat)=>[(3,.slice x.2.1 x.1 x.2.2),(9,.int .i64 ((x.1:Nat):Int))]) (fun(x:Nat × Option Addr × Nat)=>[Res.row x.2.1 x.1 x.2.2 110 2 ((l.take x.1).map Rq.c),rB_rq b g,rW_rq g]) (fun(x:Nat × Option Addr × Nat)=>x.1≤l.length) (fun(x:Nat × Option Addr × Nat)=>l.length-x.1) (0,A3,cap3) (by(try dsimp only);exact Nat.zero_le _) ?_
 rintro⟨k,A,cap⟩ le_k
 replace le_k:k≤l.length:=le_k
 refine zV (L' := [Res.row A k cap 110 2 ((l.take k).map Rq.c),rB_rq b g,rW_rq g]) rfl ?_
 refine g_val 3 (v' := .slice A k cap) rfl rfl ?_
 refine g_val 9 (v' := .int .i64 ((k:Nat):Int)) rfl rfl ?_
 refine rn [1,46,0,8] ?_
 refine zC rfl (fun h1=>?_) (fun h1=>?_)
 ·have lt_k:k<l.length:=by have h9:=of_decide_eq_true h1;omega
  refine rn [12,7,8,14,1,2,3,0,1,2,2] ?_
  refine g_op (zL _ rfl (fun w1 hw1 ho1=>by exact peek_rq b g l _ w1 ho1 h) rfl ?_)
  refine rn [2,40,40] ?_
  refine g_op (zK rfl fun b5=>?_)
  refine rn [33] ?_
  refine zF (b:=b5) (Rq.c l[k]) (by rw[uK,List.getElem?_eq_getElem lt_k];rfl) ?_
  refine rn [3,0,10,2,45] ?_
  refine g_op (g_lit rfl rfl rfl rfl rfl fun b20=>?_)
  refine g_op (zZ (A:=A) (els:=(l.take k).map Rq.c) (news:=[Rq.c l[k]]) rfl rfl (InL.rdb (b:=b20) rfl (by simp[Rq.c]) rfl) (by simp[Rq.c,Value.oneCell']) (by omega) rfl fun A' cap' => ⟨_,inferInstance,?_⟩)
  refine zH (A:=A') ((l.take (k+1)).map Rq.c) (vR lt_k) ?_
  refine rn [3,9,15,7,10,43,2,9] ?_
  exact g_ag ((k+1),A',cap') (by(try dsimp only);exact(by first|exact lt_k|omega))
 ·have eq_k:k=l.length:=by have h9:=of_decide_eq_false h1;omega
  subst eq_k
  refine rn [16] ?_
  refine zD (zD (zN ?_))
  refine rn [7,1,2,3,0,11] ?_
  refine zH (A:=A) (l.map Rq.c) (by simp) ?_
  exact fin1 rfl (.tmp rfl) (fun w' hw' => ⟨(A,cap),(by exact trivial),rfl,by have h9:=zB (L' := [Res.row A l.length cap 110 2 (l.map Rq.c),rB_rq b g,rW_rq g]) w' hw';exact h9⟩) _ (.inl rfl)
end Go.Proofs.YtdddiilocbbkkaaGreat
