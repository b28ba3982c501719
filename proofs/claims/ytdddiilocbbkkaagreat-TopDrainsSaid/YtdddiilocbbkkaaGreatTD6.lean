/- TopDrains: for every configuration and all operations the law returns true. No condition. Part 6 of 28. -/
import Derived.Test.YtdddiilocbbkkaaGreatTD5
set_option linter.unusedVariables false
set_option linter.unusedSimpArgs false
namespace Go.Proofs.YtdddiilocbbkkaaGreat
open Go.RowKit Go.Eg
set_option maxHeartbeats 4000000
set_option synthInstance.maxSize 3000
set_option maxRecDepth 100000
abbrev bL_ (bl b0 b1:Nat):Res:=Res.blk bl 191 [Value.pointer (some ⟨b0,0,none⟩),Value.pointer (some ⟨b1,0,none⟩)]
structure LL where
 f:List Int
 v:List Int
def pushE (sz:Nat) (c:Int) (q:LL):Int:=if c=0 then(if q.f.length<sz then 0 else 6) else if c=1 then(if q.v.length<sz then 0 else 6) else 11
def pushL (sz:Nat) (c i:Int) (q:LL):LL:=if c=0 then(if q.f.length<sz then⟨q.f++[i],q.v⟩ else q) else if c=1 then(if q.v.length<sz then⟨q.f,q.v++[i]⟩ else q) else q
def firstV (q:LL):Int:=if 0<q.f.length then 0 else if 0<q.v.length then 1 else -1
def headI (q:LL):Int:=match q.f with|x :: _=>x|[]=>q.v.head?.getD 0
def headC (q:LL):Int:=match q.f with|_ :: _=>0|[]=>match q.v with|_ :: _=>1|[]=>0
def headB (q:LL):Bool:=match q.f with|_ :: _=>true|[]=>q.v.head?.isSome
def popL (q:LL):LL:=match q.f with|_ :: r=>⟨r,q.v⟩|[]=>⟨[],q.v.tail⟩
def allL (c:Int) (q:LL):List Int:=if c=0 then q.f else if c=1 then q.v else []
def aheadL (c:Int) (q:LL):List Int:=if c=0 then q.f else if c=1 then q.f++q.v else []
def freeL (sz:Nat) (c:Int) (q:LL):Nat:=if c=0 then sz-q.f.length else if c=1 then sz-q.v.length else 0
theorem popL_len (q:LL):(popL q).f.length≤q.f.length∧(popL q).v.length≤q.v.length:=by
 obtain⟨f,v⟩:=q
 cases f<;>simp[popL]
theorem pushL_len {sz:Nat} (c i:Int) {q:LL} (h:q.f.length≤sz∧q.v.length≤sz):(pushL sz c i q).f.length≤sz∧(pushL sz c i q).v.length≤sz:=by
 unfold pushL
 split
 ·split
  ·simp;omega
  ·exact h
 ·split
  ·split
   ·simp;omega
   ·exact h
  ·exact h
theorem of_0 (bl b0 b1:Nat) (w:World) (hw:W0 [bL_ bl b0 b1] w) : Keep Tryz.prog 146 [.pointer (some ⟨bl,0,none⟩),.int .i64 0] w [bL_ bl b0 b1] (.pointer (some ⟨b0,0,none⟩)):=by
 refine g_st Tryz.func146 21 hw ?_
 refine rn [1,3,0,8,1,2,50,2,22,2,22,46] ?_
 refine yC 9 (b:=false) rfl (by decide) ?_
 refine rn [42,2,22,2,22,53] ?_
 refine yC 13 (b:=false) rfl (by decide) ?_
 refine rn [42,0,20,12,7,1,2,2,6,4] ?_
 refine s_q (yS (i:=0) rfl rfl rfl (by first|decide|omega)) rfl ?_
 refine rn [5,3,0,11] ?_
 exact fin1 rfl (.tmp rfl) (fun w' hw' => ⟨(),trivial,by first|rfl|(simp_all;done),zA w' hw'⟩) _ (.inl rfl)
theorem of_1 (bl b0 b1:Nat) (w:World) (hw:W0 [bL_ bl b0 b1] w) : Keep Tryz.prog 146 [.pointer (some ⟨bl,0,none⟩),.int .i64 1] w [bL_ bl b0 b1] (.pointer (some ⟨b1,0,none⟩)):=by
 refine g_st Tryz.func146 21 hw ?_
 refine rn [1,3,0,8,1,2,50,2,22,2,22,46] ?_
 refine yC 9 (b:=false) rfl (by decide) ?_
 refine rn [42,2,22,2,22,53] ?_
 refine yC 13 (b:=false) rfl (by decide) ?_
 refine rn [42,0,20,12,7,1,2,2,6,4] ?_
 refine s_q (yS (i:=1) rfl rfl rfl (by first|decide|omega)) rfl ?_
 refine rn [5,3,0,11] ?_
 exact fin1 rfl (.tmp rfl) (fun w' hw' => ⟨(),trivial,by first|rfl|(simp_all;done),zA w' hw'⟩) _ (.inl rfl)
theorem of_b (bl b0 b1:Nat) (c:Int) (w:World) (hw:W0 [bL_ bl b0 b1] w) (hb:c≠0∧c≠1):Keep Tryz.prog 146 [.pointer (some ⟨bl,0,none⟩),.int .i64 c] w [bL_ bl b0 b1] (.pointer none):=by
 refine g_st Tryz.func146 21 hw ?_
 refine rn [1,3,0,8,1,2,50,2,22,2,22,46,42,2] ?_
 refine zU 11 rfl (fun h1=>?_) (fun h1=>?_)
 ·refine rn [21,21,41,0,19,1,3,0,11,13] ?_
  exact fin1 rfl (.tmp rfl) (fun w' hw' => ⟨(),trivial,by first|rfl|(simp_all;done),zA w' hw'⟩) _ (.inl rfl)
 ·refine rn [22,2,22,53,42,0] ?_
  refine zC rfl (fun h2=>?_) (fun h2=>?_)
  ·refine rn [1,3,0,11,13] ?_
   exact fin1 rfl (.tmp rfl) (fun w' hw' => ⟨(),trivial,by first|rfl|(simp_all;done),zA w' hw'⟩) _ (.inl rfl)
  ·exfalso;simp at h1 h2;omega
theorem uQ (bl b0 b1:Nat) (w:World) (hw:W0 [bL_ bl b0 b1] w) : Keep Tryz.prog 94 [.pointer (some ⟨bl,0,none⟩),.int .i64 0] w [bL_ bl b0 b1] (.pointer (some ⟨b0,0,none⟩)):=by
 refine g_st Tryz.func94 12 hw ?_
 refine rn [1,3,0,8,1,2,50,0,20,12,7,1,2,6,4,2] ?_
 refine g_op (zL _ rfl (fun w1 hw1 ho1=>by exact of_0 bl b0 b1 w1 ho1) rfl ?_)
 refine rn [3,0,11] ?_
 exact fin1 rfl (.tmp rfl) (fun w' hw' => ⟨(),trivial,by first|rfl|(simp_all;done),zA w' hw'⟩) _ (.inl rfl)
theorem uP (bl b0 b1:Nat) (w:World) (hw:W0 [bL_ bl b0 b1] w) : Keep Tryz.prog 94 [.pointer (some ⟨bl,0,none⟩),.int .i64 1] w [bL_ bl b0 b1] (.pointer (some ⟨b1,0,none⟩)):=by
 refine g_st Tryz.func94 12 hw ?_
 refine rn [1,3,0,8,1,2,50,0,20,12,7,1,2,6,4,2] ?_
 refine g_op (zL _ rfl (fun w1 hw1 ho1=>by exact of_1 bl b0 b1 w1 ho1) rfl ?_)
 refine rn [3,0,11] ?_
 exact fin1 rfl (.tmp rfl) (fun w' hw' => ⟨(),trivial,by first|rfl|(simp_all;done),zA w' hw'⟩) _ (.inl rfl)
theorem sD (bl b0 b1:Nat) (c:Int) (w:World) (hw:W0 [bL_ bl b0 b1] w) (hb:c≠0∧c≠1):Keep Tryz.prog 94 [.pointer (some ⟨bl,0,none⟩),.int .i64 c] w [bL_ bl b0 b1] (.pointer none):=by
 refine g_st Tryz.func94 12 hw ?_
 refine rn [1,3,0,8,1,2,50,0,20,12,7,1,2,6,4,2] ?_
 refine g_op (zL _ rfl (fun w1 hw1 ho1=>by exact of_b bl b0 b1 c w1 ho1 hb) rfl ?_)
 refine rn [3,0,11] ?_
 exact fin1 rfl (.tmp rfl) (fun w' hw' => ⟨(),trivial,by first|rfl|(simp_all;done),zA w' hw'⟩) _ (.inl rfl)
theorem lfree_0 (bl b0 b1:Nat) (g0 g1:Rg) (q:LL) (sz:Nat) (w:World) (hw:W0 [bL_ bl b0 b1,rB_i b0 g0,rW_i g0,rB_i b1 g1,rW_i g1] w) (h0:g0.Rep 1 ((q).f.map (fun v:Int=>[Value.int .i64 v]))) (h1:g1.Rep 1 ((q).v.map (fun v:Int=>[Value.int .i64 v]))) (s0:Rg.size g0=sz) (s1:Rg.size g1=sz) (hsz:sz≤4096):Keep Tryz.prog 112 [.pointer (some ⟨bl,0,none⟩),.int .i64 0] w [bL_ bl b0 b1,rB_i b0 g0,rW_i g0,rB_i b1 g1,rW_i g1] (.int .i64 ((freeL sz 0 q:Nat):Int)):=by
 refine g_st Tryz.func112 9 hw ?_
 refine rn [1,3,0,1,2,2] ?_
 refine g_op (zL _ rfl (fun w1 hw1 ho1=>by exact uQ bl b0 b1 w1 ho1) rfl ?_)
 refine g_op (zL _ rfl (fun w1 hw1 ho1=>by exact free_i b0 g0 (q).f w1 ho1 h0) rfl ?_)
 refine rn [3,0,11] ?_
 exact fin1 rfl (.tmp rfl) (fun w' hw' => ⟨(),trivial,by simp[freeL,s0],zA w' hw'⟩) _ (.inl rfl)
theorem lfree_1 (bl b0 b1:Nat) (g0 g1:Rg) (q:LL) (sz:Nat) (w:World) (hw:W0 [bL_ bl b0 b1,rB_i b0 g0,rW_i g0,rB_i b1 g1,rW_i g1] w) (h0:g0.Rep 1 ((q).f.map (fun v:Int=>[Value.int .i64 v]))) (h1:g1.Rep 1 ((q).v.map (fun v:Int=>[Value.int .i64 v]))) (s0:Rg.size g0=sz) (s1:Rg.size g1=sz) (hsz:sz≤4096):Keep Tryz.prog 112 [.pointer (some ⟨bl,0,none⟩),.int .i64 1] w [bL_ bl b0 b1,rB_i b0 g0,rW_i g0,rB_i b1 g1,rW_i g1] (.int .i64 ((freeL sz 1 q:Nat):Int)):=by
 refine g_st Tryz.func112 9 hw ?_
 refine rn [1,3,0,1,2,2] ?_
 refine g_op (zL _ rfl (fun w1 hw1 ho1=>by exact uP bl b0 b1 w1 ho1) rfl ?_)
 refine g_op (zL _ rfl (fun w1 hw1 ho1=>by exact free_i b1 g1 (q).v w1 ho1 h1) rfl ?_)
 refine rn [3,0,11] ?_
 exact fin1 rfl (.tmp rfl) (fun w' hw' => ⟨(),trivial,by simp[freeL,s1],zA w' hw'⟩) _ (.inl rfl)
theorem lfree_b (bl b0 b1:Nat) (g0 g1:Rg) (q:LL) (sz:Nat) (c:Int) (w:World) (hw:W0 [bL_ bl b0 b1,rB_i b0 g0,rW_i g0,rB_i b1 g1,rW_i g1] w) (h0:g0.Rep 1 ((q).f.map (fun v:Int=>[Value.int .i64 v]))) (h1:g1.Rep 1 ((q).v.map (fun v:Int=>[Value.int .i64 v]))) (s0:Rg.size g0=sz) (s1:Rg.size g1=sz) (hsz:sz≤4096) (hb:c≠0∧c≠1):Keep Tryz.prog 112 [.pointer (some ⟨bl,0,none⟩),.int .i64 c] w [bL_ bl b0 b1,rB_i b0 g0,rW_i g0,rB_i b1 g1,rW_i g1] (.int .i64 ((freeL sz c q:Nat):Int)):=by
 refine g_st Tryz.func112 9 hw ?_
 refine rn [1,3,0,1,2,2] ?_
 refine g_op (zL _ rfl (fun w1 hw1 ho1=>by exact sD bl b0 b1 c w1 ho1 hb) rfl ?_)
 refine g_op (zI rfl (fun w1 hw1=>freeN_i w1) rfl ?_)
 refine rn [3,0,11] ?_
 exact fin1 rfl (.tmp rfl) (fun w' hw' => ⟨(),trivial,by simp[freeL,hb.1,hb.2],zA w' hw'⟩) _ (.inl rfl)
theorem lfree_any (bl b0 b1:Nat) (g0 g1:Rg) (q:LL) (sz:Nat) (c:Int) (w:World) (hw:W0 [bL_ bl b0 b1,rB_i b0 g0,rW_i g0,rB_i b1 g1,rW_i g1] w) (h0:g0.Rep 1 ((q).f.map (fun v:Int=>[Value.int .i64 v]))) (h1:g1.Rep 1 ((q).v.map (fun v:Int=>[Value.int .i64 v]))) (s0:Rg.size g0=sz) (s1:Rg.size g1=sz) (hsz:sz≤4096):Keep Tryz.prog 112 [.pointer (some ⟨bl,0,none⟩),.int .i64 c] w [bL_ bl b0 b1,rB_i b0 g0,rW_i g0,rB_i b1 g1,rW_i g1] (.int .i64 ((freeL sz c q:Nat):Int)):=by
 by_cases e0:c=0
 ·subst e0;exact lfree_0 bl b0 b1 g0 g1 q sz w hw h0 h1 s0 s1 hsz
 ·by_cases e1:c=1
  ·subst e1;exact lfree_1 bl b0 b1 g0 g1 q sz w hw h0 h1 s0 s1 hsz
  ·exact lfree_b bl b0 b1 g0 g1 q sz c w hw h0 h1 s0 s1 hsz ⟨e0,e1⟩
theorem lall_0 (bl b0 b1:Nat) (g0 g1:Rg) (q:LL) (sz:Nat) (w:World) (hw:W0 [bL_ bl b0 b1,rB_i b0 g0,rW_i g0,rB_i b1 g1,rW_i g1] w) (h0:g0.Rep 1 ((q).f.map (fun v:Int=>[Value.int .i64 v]))) (h1:g1.Rep 1 ((q).v.map (fun v:Int=>[Value.int .i64 v]))) (s0:Rg.size g0=sz) (s1:Rg.size g1=sz) (hsz:sz≤4096):Own2 (ι:=(Option Addr × Nat)) Tryz.prog 50 [.pointer (some ⟨bl,0,none⟩),.int .i64 0] w [bL_ bl b0 b1,rB_i b0 g0,rW_i g0,rB_i b1 g1,rW_i g1] (fun x=>True) (fun x=>.slice x.1 (allL 0 q).length x.2) (fun x=>[Res.row x.1 (allL 0 q).length x.2 3 1 ((allL 0 q).map (fun v:Int=>[Value.int .i64 v]))]) (fun x=>[bL_ bl b0 b1,rB_i b0 g0,rW_i g0,rB_i b1 g1,rW_i g1]):=by
 refine g_st Tryz.func50 9 hw ?_
 refine rn [1,3,0,1,2,2] ?_
 refine g_op (zL _ rfl (fun w1 hw1 ho1=>by exact uQ bl b0 b1 w1 ho1) rfl ?_)
 refine g_op (zG _ rfl (fun w1 hw1 ho1=>by have h7:=all_i b0 g0 (q).f w1 ho1 h0;exact h7) rfl ?_)
 rintro⟨A8,cap8⟩ _
 refine ii ?_
 refine rn [3,0,11] ?_
 refine zH (A:=A8) ((allL 0 q).map (fun v:Int=>[Value.int .i64 v])) (by simp[allL]) ?_
 refine yB (A:=A8) (allL 0 q).length (by simp[allL]) ?_
 exact fin1 rfl (.tmp rfl) (fun w' hw' => ⟨(A8,cap8),(by exact trivial),by simp[allL],zA w' hw'⟩) _ (.inl rfl)
theorem lall_1 (bl b0 b1:Nat) (g0 g1:Rg) (q:LL) (sz:Nat) (w:World) (hw:W0 [bL_ bl b0 b1,rB_i b0 g0,rW_i g0,rB_i b1 g1,rW_i g1] w) (h0:g0.Rep 1 ((q).f.map (fun v:Int=>[Value.int .i64 v]))) (h1:g1.Rep 1 ((q).v.map (fun v:Int=>[Value.int .i64 v]))) (s0:Rg.size g0=sz) (s1:Rg.size g1=sz) (hsz:sz≤4096):Own2 (ι:=(Option Addr × Nat)) Tryz.prog 50 [.pointer (some ⟨bl,0,none⟩),.int .i64 1] w [bL_ bl b0 b1,rB_i b0 g0,rW_i g0,rB_i b1 g1,rW_i g1] (fun x=>True) (fun x=>.slice x.1 (allL 1 q).length x.2) (fun x=>[Res.row x.1 (allL 1 q).length x.2 3 1 ((allL 1 q).map (fun v:Int=>[Value.int .i64 v]))]) (fun x=>[bL_ bl b0 b1,rB_i b0 g0,rW_i g0,rB_i b1 g1,rW_i g1]):=by
 refine g_st Tryz.func50 9 hw ?_
 refine rn [1,3,0,1,2,2] ?_
 refine g_op (zL _ rfl (fun w1 hw1 ho1=>by exact uP bl b0 b1 w1 ho1) rfl ?_)
 refine g_op (zG _ rfl (fun w1 hw1 ho1=>by have h7:=all_i b1 g1 (q).v w1 ho1 h1;exact h7) rfl ?_)
 rintro⟨A8,cap8⟩ _
 refine ii ?_
 refine rn [3,0,11] ?_
 refine zH (A:=A8) ((allL 1 q).map (fun v:Int=>[Value.int .i64 v])) (by simp[allL]) ?_
 refine yB (A:=A8) (allL 1 q).length (by simp[allL]) ?_
 exact fin1 rfl (.tmp rfl) (fun w' hw' => ⟨(A8,cap8),(by exact trivial),by simp[allL],zA w' hw'⟩) _ (.inl rfl)
theorem lall_b (bl b0 b1:Nat) (g0 g1:Rg) (q:LL) (sz:Nat) (c:Int) (w:World) (hw:W0 [bL_ bl b0 b1,rB_i b0 g0,rW_i g0,rB_i b1 g1,rW_i g1] w) (h0:g0.Rep 1 ((q).f.map (fun v:Int=>[Value.int .i64 v]))) (h1:g1.Rep 1 ((q).v.map (fun v:Int=>[Value.int .i64 v]))) (s0:Rg.size g0=sz) (s1:Rg.size g1=sz) (hsz:sz≤4096) (hb:c≠0∧c≠1):Own2 (ι:=(Option Addr × Nat)) Tryz.prog 50 [.pointer (some ⟨bl,0,none⟩),.int .i64 c] w [bL_ bl b0 b1,rB_i b0 g0,rW_i g0,rB_i b1 g1,rW_i g1] (fun x=>True) (fun x=>.slice x.1 (allL c q).length x.2) (fun x=>[Res.row x.1 (allL c q).length x.2 3 1 ((allL c q).map (fun v:Int=>[Value.int .i64 v]))]) (fun x=>[bL_ bl b0 b1,rB_i b0 g0,rW_i g0,rB_i b1 g1,rW_i g1]):=by
 refine g_st Tryz.func50 9 hw ?_
 refine rn [1,3,0,1,2,2] ?_
 refine g_op (zL _ rfl (fun w1 hw1 ho1=>by exact sD bl b0 b1 c w1 ho1 hb) rfl ?_)
 refine g_op (zI rfl (fun w1 hw1=>allN_i w1) rfl ?_)
 refine rn [3,0,11] ?_
 refine wP none 3 1 ?_
 refine zH (A:=none) ((allL c q).map (fun v:Int=>[Value.int .i64 v])) (by simp[allL,hb.1,hb.2]) ?_
 refine yB (A:=none) (allL c q).length (by simp[allL,hb.1,hb.2]) ?_
 exact fin1 rfl (.tmp rfl) (fun w' hw' => ⟨((none:Option Addr),(0:Nat)),(by exact trivial),by simp[allL,hb.1,hb.2],zA w' hw'⟩) _ (.inl rfl)
theorem tI (bl b0 b1:Nat) (g0 g1:Rg) (q:LL) (sz:Nat) (c:Int) (w:World) (hw:W0 [bL_ bl b0 b1,rB_i b0 g0,rW_i g0,rB_i b1 g1,rW_i g1] w) (h0:g0.Rep 1 ((q).f.map (fun v:Int=>[Value.int .i64 v]))) (h1:g1.Rep 1 ((q).v.map (fun v:Int=>[Value.int .i64 v]))) (s0:Rg.size g0=sz) (s1:Rg.size g1=sz) (hsz:sz≤4096):Own2 (ι:=(Option Addr × Nat)) Tryz.prog 50 [.pointer (some ⟨bl,0,none⟩),.int .i64 c] w [bL_ bl b0 b1,rB_i b0 g0,rW_i g0,rB_i b1 g1,rW_i g1] (fun x=>True) (fun x=>.slice x.1 (allL c q).length x.2) (fun x=>[Res.row x.1 (allL c q).length x.2 3 1 ((allL c q).map (fun v:Int=>[Value.int .i64 v]))]) (fun x=>[bL_ bl b0 b1,rB_i b0 g0,rW_i g0,rB_i b1 g1,rW_i g1]):=by
 by_cases e0:c=0
 ·subst e0;exact lall_0 bl b0 b1 g0 g1 q sz w hw h0 h1 s0 s1 hsz
 ·by_cases e1:c=1
  ·subst e1;exact lall_1 bl b0 b1 g0 g1 q sz w hw h0 h1 s0 s1 hsz
  ·exact lall_b bl b0 b1 g0 g1 q sz c w hw h0 h1 s0 s1 hsz ⟨e0,e1⟩
theorem lpush_0 (bl b0 b1:Nat) (g0 g1:Rg) (q:LL) (sz:Nat) (i:Int) (w:World) (hw:W0 [bL_ bl b0 b1,rB_i b0 g0,rW_i g0,rB_i b1 g1,rW_i g1] w) (h0:g0.Rep 1 ((q).f.map (fun v:Int=>[Value.int .i64 v]))) (h1:g1.Rep 1 ((q).v.map (fun v:Int=>[Value.int .i64 v]))) (s0:Rg.size g0=sz) (s1:Rg.size g1=sz) (hsz:sz≤4096):Own2 (ι:=(Rg × Rg)) Tryz.prog 115 [.pointer (some ⟨bl,0,none⟩),.int .i64 0,.int .i64 i] w [bL_ bl b0 b1,rB_i b0 g0,rW_i g0,rB_i b1 g1,rW_i g1] (fun x=>x.1.Rep 1 ((pushL sz 0 i q).f.map (fun v:Int=>[Value.int .i64 v]))∧x.2.Rep 1 ((pushL sz 0 i q).v.map (fun v:Int=>[Value.int .i64 v]))∧x.1.size=sz∧x.2.size=sz) (fun x=>.int .i64 (pushE sz 0 q)) (fun x=>[]) (fun x=>[bL_ bl b0 b1,rB_i b0 x.1,rW_i x.1,rB_i b1 x.2,rW_i x.2]):=by
 refine g_st Tryz.func115 22 hw ?_
 refine rn [1,3,0,8,1,2,50,0,20,12,7,1,2,2] ?_
 refine g_op (zL _ rfl (fun w1 hw1 ho1=>by exact uQ bl b0 b1 w1 ho1) rfl ?_)
 refine rn [3,0,8,14,1,2,50,3,0,20,1,2,2] ?_
 refine g_op (g_lit rfl rfl rfl rfl rfl fun b19=>?_)
 refine zF (b:=b19) ((([i]:List Int).map (fun v:Int=>[Value.int .i64 v])).flatten) rfl ?_
 refine g_op (zG _ rfl (fun w1 hw1 ho1=>by have h7:=push_i b0 g0 (q).f [i] (some ⟨b19,0,none⟩) 1 w1 ho1 h0 (Rd.ofBlk (b:=b19) hw1 rfl (by simp) rfl) (by simp);exact h7) rfl ?_)
 rintro g20 ⟨r20,s20⟩
 refine ii ?_
 refine rn [44,3,0] ?_
 refine zC rfl (fun hc1=>?_) (fun hc1=>?_)
 ·have q0:¬q.f.length<sz:=by simp at hc1;omega
  rw[show min ([i]:List Int).length (Rg.size g0-((q).f).length)=0 from by simp;omega] at r20
  refine rn [1,3,0,11] ?_
  refine zM (zE ?_)
  exact fin1 rfl (.tmp rfl) (fun w' hw' => ⟨(g20,g1),(by(try dsimp only);(simp only[pushL,if_pos rfl,if_neg q0];exact⟨by simpa using r20,h1,by omega,s1⟩)),by simp[pushE,q0],zA w' hw'⟩) _ (.inl rfl)
 ·have q0:q.f.length<sz:=by simp at hc1;omega
  rw[show min ([i]:List Int).length (Rg.size g0-((q).f).length)=1 from by simp;omega] at r20
  refine rn [12,15,7,1,3,0,11] ?_
  exact fin1 rfl (.tmp rfl) (fun w' hw' => ⟨(g20,g1),(by(try dsimp only);(simp only[pushL,if_pos rfl,if_pos q0];exact⟨r20,h1,by omega,s1⟩)),by simp[pushE,q0],zA w' hw'⟩) _ (.inl rfl)
theorem lpush_1 (bl b0 b1:Nat) (g0 g1:Rg) (q:LL) (sz:Nat) (i:Int) (w:World) (hw:W0 [bL_ bl b0 b1,rB_i b0 g0,rW_i g0,rB_i b1 g1,rW_i g1] w) (h0:g0.Rep 1 ((q).f.map (fun v:Int=>[Value.int .i64 v]))) (h1:g1.Rep 1 ((q).v.map (fun v:Int=>[Value.int .i64 v]))) (s0:Rg.size g0=sz) (s1:Rg.size g1=sz) (hsz:sz≤4096):Own2 (ι:=(Rg × Rg)) Tryz.prog 115 [.pointer (some ⟨bl,0,none⟩),.int .i64 1,.int .i64 i] w [bL_ bl b0 b1,rB_i b0 g0,rW_i g0,rB_i b1 g1,rW_i g1] (fun x=>x.1.Rep 1 ((pushL sz 1 i q).f.map (fun v:Int=>[Value.int .i64 v]))∧x.2.Rep 1 ((pushL sz 1 i q).v.map (fun v:Int=>[Value.int .i64 v]))∧x.1.size=sz∧x.2.size=sz) (fun x=>.int .i64 (pushE sz 1 q)) (fun x=>[]) (fun x=>[bL_ bl b0 b1,rB_i b0 x.1,rW_i x.1,rB_i b1 x.2,rW_i x.2]):=by
 refine g_st Tryz.func115 22 hw ?_
 refine rn [1,3,0,8,1,2,50,0,20,12,7,1,2,2] ?_
 refine g_op (zL _ rfl (fun w1 hw1 ho1=>by exact uP bl b0 b1 w1 ho1) rfl ?_)
 refine rn [3,0,8,14,1,2,50,3,0,20,1,2,2] ?_
 refine g_op (g_lit rfl rfl rfl rfl rfl fun b19=>?_)
 refine zF (b:=b19) ((([i]:List Int).map (fun v:Int=>[Value.int .i64 v])).flatten) rfl ?_
 refine g_op (zG _ rfl (fun w1 hw1 ho1=>by have h7:=push_i b1 g1 (q).v [i] (some ⟨b19,0,none⟩) 1 w1 ho1 h1 (Rd.ofBlk (b:=b19) hw1 rfl (by simp) rfl) (by simp);exact h7) rfl ?_)
 rintro g20 ⟨r20,s20⟩
 refine ii ?_
 refine rn [44,3,0] ?_
 refine zC rfl (fun hc1=>?_) (fun hc1=>?_)
 ·have q0:¬q.v.length<sz:=by simp at hc1;omega
  rw[show min ([i]:List Int).length (Rg.size g1-((q).v).length)=0 from by simp;omega] at r20
  refine rn [1,3,0,11] ?_
  refine zM (zE ?_)
  exact fin1 rfl (.tmp rfl) (fun w' hw' => ⟨(g0,g20),(by(try dsimp only);(simp only[pushL,if_neg (show¬((1:Int)=0) by decide),if_pos rfl,if_neg q0];exact⟨h0,by simpa using r20,s0,by omega⟩)),by simp[pushE,q0],zA w' hw'⟩) _ (.inl rfl)
 ·have q0:q.v.length<sz:=by simp at hc1;omega
  rw[show min ([i]:List Int).length (Rg.size g1-((q).v).length)=1 from by simp;omega] at r20
  refine rn [12,15,7,1,3,0,11] ?_
  exact fin1 rfl (.tmp rfl) (fun w' hw' => ⟨(g0,g20),(by(try dsimp only);(simp only[pushL,if_neg (show¬((1:Int)=0) by decide),if_pos rfl,if_pos q0];exact⟨h0,r20,s0,by omega⟩)),by simp[pushE,q0],zA w' hw'⟩) _ (.inl rfl)
theorem lpush_b (bl b0 b1:Nat) (g0 g1:Rg) (q:LL) (sz:Nat) (i:Int) (c:Int) (w:World) (hw:W0 [bL_ bl b0 b1,rB_i b0 g0,rW_i g0,rB_i b1 g1,rW_i g1] w) (h0:g0.Rep 1 ((q).f.map (fun v:Int=>[Value.int .i64 v]))) (h1:g1.Rep 1 ((q).v.map (fun v:Int=>[Value.int .i64 v]))) (s0:Rg.size g0=sz) (s1:Rg.size g1=sz) (hsz:sz≤4096) (hb:c≠0∧c≠1):Own2 (ι:=(Rg × Rg)) Tryz.prog 115 [.pointer (some ⟨bl,0,none⟩),.int .i64 c,.int .i64 i] w [bL_ bl b0 b1,rB_i b0 g0,rW_i g0,rB_i b1 g1,rW_i g1] (fun x=>x.1.Rep 1 ((pushL sz c i q).f.map (fun v:Int=>[Value.int .i64 v]))∧x.2.Rep 1 ((pushL sz c i q).v.map (fun v:Int=>[Value.int .i64 v]))∧x.1.size=sz∧x.2.size=sz) (fun x=>.int .i64 (pushE sz c q)) (fun x=>[]) (fun x=>[bL_ bl b0 b1,rB_i b0 x.1,rW_i x.1,rB_i b1 x.2,rW_i x.2]):=by
 refine g_st Tryz.func115 22 hw ?_
 refine rn [1,3,0,8,1,2,50,0,20,12,7,1,2,2] ?_
 refine g_op (zL _ rfl (fun w1 hw1 ho1=>by exact sD bl b0 b1 c w1 ho1 hb) rfl ?_)
 refine rn [3,0,8,14,1,2,61,3,0,19,1,3,0,11] ?_
 refine zM (zE ?_)
 exact fin1 rfl (.tmp rfl) (fun w' hw' => ⟨(g0,g1),(by(try dsimp only);exact⟨by simpa[pushL,hb.1,hb.2] using h0,by simpa[pushL,hb.1,hb.2] using h1,s0,s1⟩),by simp[pushE,hb.1,hb.2],zA w' hw'⟩) _ (.inl rfl)
theorem rS (bl b0 b1:Nat) (g0 g1:Rg) (q:LL) (sz:Nat) (c:Int) (i:Int) (w:World) (hw:W0 [bL_ bl b0 b1,rB_i b0 g0,rW_i g0,rB_i b1 g1,rW_i g1] w) (h0:g0.Rep 1 ((q).f.map (fun v:Int=>[Value.int .i64 v]))) (h1:g1.Rep 1 ((q).v.map (fun v:Int=>[Value.int .i64 v]))) (s0:Rg.size g0=sz) (s1:Rg.size g1=sz) (hsz:sz≤4096):Own2 (ι:=(Rg × Rg)) Tryz.prog 115 [.pointer (some ⟨bl,0,none⟩),.int .i64 c,.int .i64 i] w [bL_ bl b0 b1,rB_i b0 g0,rW_i g0,rB_i b1 g1,rW_i g1] (fun x=>x.1.Rep 1 ((pushL sz c i q).f.map (fun v:Int=>[Value.int .i64 v]))∧x.2.Rep 1 ((pushL sz c i q).v.map (fun v:Int=>[Value.int .i64 v]))∧x.1.size=sz∧x.2.size=sz) (fun x=>.int .i64 (pushE sz c q)) (fun x=>[]) (fun x=>[bL_ bl b0 b1,rB_i b0 x.1,rW_i x.1,rB_i b1 x.2,rW_i x.2]):=by
 by_cases e0:c=0
 ·subst e0;exact lpush_0 bl b0 b1 g0 g1 q sz i w hw h0 h1 s0 s1 hsz
 ·by_cases e1:c=1
  ·subst e1;exact lpush_1 bl b0 b1 g0 g1 q sz i w hw h0 h1 s0 s1 hsz
  ·exact lpush_b bl b0 b1 g0 g1 q sz i c w hw h0 h1 s0 s1 hsz ⟨e0,e1⟩
theorem wZ (bl b0 b1:Nat) (g0 g1:Rg) (q:LL) (sz:Nat) (w:World) (hw:W0 [bL_ bl b0 b1,rB_i b0 g0,rW_i g0,rB_i b1 g1,rW_i g1] w) (hh0:g0.Rep 1 ((q).f.map (fun v:Int=>[Value.int .i64 v]))) (hh1:g1.Rep 1 ((q).v.map (fun v:Int=>[Value.int .i64 v]))) (s0:Rg.size g0=sz) (s1:Rg.size g1=sz) (hsz:sz≤4096):Keep Tryz.prog 317 [.pointer (some ⟨bl,0,none⟩)] w [bL_ bl b0 b1,rB_i b0 g0,rW_i g0,rB_i b1 g1,rW_i g1] (.int .i64 (firstV q)):=by
 refine g_st Tryz.func317 16 hw ?_
 refine rn [1,3,0] ?_
 refine g_scope ?_
 refine rn [1,3,0,8] ?_
 refine g_label ?_
 refine rn [7,8,1,2,0,14] ?_
 refine g_lk [0,2,3] (fun(x:Nat)=>[(3,.int .i64 (-1)),(5,.int .i64 ((x:Nat):Int))]) (fun(x:Nat)=>[bL_ bl b0 b1,rB_i b0 g0,rW_i g0,rB_i b1 g1,rW_i g1]) (fun(x:Nat)=>x≤2∧((0<x→q.f.length=0)∧(1<x→q.v.length=0))) (fun(x:Nat)=>2-x) 0 (by(try dsimp only);exact⟨Nat.zero_le _,⟨by omega,by omega⟩⟩) ?_
 rintro k ⟨le_k,hp⟩
 replace le_k:k≤2:=le_k
 replace hp:(0<k→q.f.length=0)∧(1<k→q.v.length=0):=hp
 refine rn [1,46,0,8] ?_
 refine zC rfl (fun h1=>?_) (fun h1=>?_)
 ·have lt_k:k<2:=by have h9:=of_decide_eq_true h1;omega
  refine rn [12,7,8,14,1,2,3,0,8] ?_
  rcases(show k=0∨k=1 by omega) with hk0|hk0
  ·refine g_val 4 (v' := .int .i64 0) rfl (by rw[hk0];rfl) ?_
   refine rn [10,2,2] ?_
   refine g_op (zL _ rfl (fun w1 hw1 ho1=>by exact uQ bl b0 b1 w1 ho1) rfl ?_)
   refine g_op (zL _ rfl (fun w1 hw1 ho1=>by exact len_i b0 g0 (q).f w1 ho1 hh0) rfl ?_)
   refine rn [55,0] ?_
   refine zC rfl (fun h2=>?_) (fun h2=>?_)
   ·refine rn [1,2,3,0,16] ?_
    refine xB rfl (zD (zD (zN ?_)))
    refine rn [7,1,2,3,0,11] ?_
    refine vG ?_
    exact fin1 rfl (.tmp rfl) (fun w' hw' => ⟨(),trivial,by unfold firstV;rw[if_pos (by simp at h2;omega)],zA w' hw'⟩) _ (.inl rfl)
   ·have hc:=h2
    refine rn [12,15,7,10,43,2,9] ?_
    exact g_ag (k+1) (by(try dsimp only);exact⟨(by first|exact lt_k|omega),⟨fun _=>by have h9:=of_decide_eq_false hc;omega,by omega⟩⟩)
  ·refine g_val 4 (v' := .int .i64 1) rfl (by rw[hk0];rfl) ?_
   refine rn [10,2,2] ?_
   refine g_op (zL _ rfl (fun w1 hw1 ho1=>by exact uP bl b0 b1 w1 ho1) rfl ?_)
   refine g_op (zL _ rfl (fun w1 hw1 ho1=>by exact len_i b1 g1 (q).v w1 ho1 hh1) rfl ?_)
   refine rn [55,0] ?_
   refine zC rfl (fun h3=>?_) (fun h3=>?_)
   ·refine rn [1,2,3,0,16] ?_
    refine xB rfl (zD (zD (zN ?_)))
    refine rn [7,1,2,3,0,11] ?_
    refine vG ?_
    exact fin1 rfl (.tmp rfl) (fun w' hw' => ⟨(),trivial,by unfold firstV;rw[if_neg (by have:=hp.1 (by omega);omega),if_pos (by simp at h3;omega)],zA w' hw'⟩) _ (.inl rfl)
   ·have hc:=h3
    refine rn [12,15,7,10,43,2,9] ?_
    exact g_ag (k+1) (by(try dsimp only);exact⟨(by first|exact lt_k|omega),⟨fun _=>hp.1 (by omega),fun _=>by have h9:=of_decide_eq_false hc;omega⟩⟩)
 ·have eq_k:k=2:=by have h9:=of_decide_eq_false h1;omega
  refine rn [16] ?_
  refine zD (zD (zN ?_))
  refine rn [7,1,2,3,0,11] ?_
  refine vG ?_
  exact fin1 rfl (.tmp rfl) (fun w' hw' => ⟨(),trivial,by unfold firstV;rw[if_neg (by have:=hp.1 (by omega);omega),if_neg (by have:=hp.2 (by omega);omega)],zA w' hw'⟩) _ (.inl rfl)
theorem head_a (bl b0 b1:Nat) (g0 g1:Rg) (sz:Nat) (y:Int) (f v:List Int) (w:World) (hw:W0 [bL_ bl b0 b1,rB_i b0 g0,rW_i g0,rB_i b1 g1,rW_i g1] w) (h0:g0.Rep 1 (((LL.mk (y :: f) v)).f.map (fun v:Int=>[Value.int .i64 v]))) (h1:g1.Rep 1 (((LL.mk (y :: f) v)).v.map (fun v:Int=>[Value.int .i64 v]))) (s0:Rg.size g0=sz) (s1:Rg.size g1=sz) (hsz:sz≤4096):Keep Tryz.prog 278 [.pointer (some ⟨bl,0,none⟩)] w [bL_ bl b0 b1,rB_i b0 g0,rW_i g0,rB_i b1 g1,rW_i g1] (.tuple [.int .i64 (headI (LL.mk (y :: f) v)),.int .i64 (headC (LL.mk (y :: f) v)),.bool (headB (LL.mk (y :: f) v))].toArray):=by
 refine g_st Tryz.func278 21 hw ?_
 refine rn [1,3,3,3,0,1,2] ?_
 refine g_op (zL _ rfl (fun w1 hw1 ho1=>by exact wZ bl b0 b1 g0 g1 (LL.mk (y :: f) v) sz w1 ho1 h0 h1 s0 s1 (by omega)) rfl ?_)
 refine rn [3] ?_
 refine g_val 5 (v' := .int .i64 0) rfl (by simp[firstV]) ?_
 refine rn [0,1,2,2] ?_
 refine g_op (zL _ rfl (fun w1 hw1 ho1=>by exact uQ bl b0 b1 w1 ho1) rfl ?_)
 refine g_op (zL _ rfl (fun w1 hw1 ho1=>by exact pZ b0 g0 ((LL.mk (y :: f) v)).f _ w1 ho1 h0) rfl ?_)
 refine rn [2,40,40,3,3,0,1,2,2] ?_
 refine s_q (pV (a:=0) (b:=0) rfl rfl) rfl ?_
 refine rn [2,3,3,3,0,11] ?_
 exact fin3 rfl (.tmp rfl) (.tmp rfl) (.tmp rfl) (fun w' hw' => ⟨(),trivial,by first|rfl|simp[headI,headC,headB,pk]|(simp[headI,headC,headB,pk];omega),zA w' hw'⟩) _ (.inl rfl)
theorem head_b (bl b0 b1:Nat) (g0 g1:Rg) (sz:Nat) (y:Int) (v:List Int) (w:World) (hw:W0 [bL_ bl b0 b1,rB_i b0 g0,rW_i g0,rB_i b1 g1,rW_i g1] w) (h0:g0.Rep 1 (((LL.mk [] (y :: v))).f.map (fun v:Int=>[Value.int .i64 v]))) (h1:g1.Rep 1 (((LL.mk [] (y :: v))).v.map (fun v:Int=>[Value.int .i64 v]))) (s0:Rg.size g0=sz) (s1:Rg.size g1=sz) (hsz:sz≤4096):Keep Tryz.prog 278 [.pointer (some ⟨bl,0,none⟩)] w [bL_ bl b0 b1,rB_i b0 g0,rW_i g0,rB_i b1 g1,rW_i g1] (.tuple [.int .i64 (headI (LL.mk [] (y :: v))),.int .i64 (headC (LL.mk [] (y :: v))),.bool (headB (LL.mk [] (y :: v)))].toArray):=by
 refine g_st Tryz.func278 21 hw ?_
 refine rn [1,3,3,3,0,1,2] ?_
 refine g_op (zL _ rfl (fun w1 hw1 ho1=>by exact wZ bl b0 b1 g0 g1 (LL.mk [] (y :: v)) sz w1 ho1 h0 h1 s0 s1 (by omega)) rfl ?_)
 refine rn [3] ?_
 refine g_val 5 (v' := .int .i64 1) rfl (by simp[firstV]) ?_
 refine rn [0,1,2,2] ?_
 refine g_op (zL _ rfl (fun w1 hw1 ho1=>by exact uP bl b0 b1 w1 ho1) rfl ?_)
 refine g_op (zL _ rfl (fun w1 hw1 ho1=>by exact pZ b1 g1 ((LL.mk [] (y :: v))).v _ w1 ho1 h1) rfl ?_)
 refine rn [2,40,40,3,3,0,1,2,2] ?_
 refine s_q (pV (a:=1) (b:=0) rfl rfl) rfl ?_
 refine rn [2,3,3,3,0,11] ?_
 exact fin3 rfl (.tmp rfl) (.tmp rfl) (.tmp rfl) (fun w' hw' => ⟨(),trivial,by first|rfl|simp[headI,headC,headB,pk]|(simp[headI,headC,headB,pk];omega),zA w' hw'⟩) _ (.inl rfl)
theorem head_c (bl b0 b1:Nat) (g0 g1:Rg) (sz:Nat) (w:World) (hw:W0 [bL_ bl b0 b1,rB_i b0 g0,rW_i g0,rB_i b1 g1,rW_i g1] w) (h0:g0.Rep 1 (((LL.mk [] [])).f.map (fun v:Int=>[Value.int .i64 v]))) (h1:g1.Rep 1 (((LL.mk [] [])).v.map (fun v:Int=>[Value.int .i64 v]))) (s0:Rg.size g0=sz) (s1:Rg.size g1=sz) (hsz:sz≤4096):Keep Tryz.prog 278 [.pointer (some ⟨bl,0,none⟩)] w [bL_ bl b0 b1,rB_i b0 g0,rW_i g0,rB_i b1 g1,rW_i g1] (.tuple [.int .i64 (headI (LL.mk [] [])),.int .i64 (headC (LL.mk [] [])),.bool (headB (LL.mk [] []))].toArray):=by
 refine g_st Tryz.func278 21 hw ?_
 refine rn [1,3,3,3,0,1,2] ?_
 refine g_op (zL _ rfl (fun w1 hw1 ho1=>by exact wZ bl b0 b1 g0 g1 (LL.mk [] []) sz w1 ho1 h0 h1 s0 s1 (by omega)) rfl ?_)
 refine rn [3] ?_
 refine g_val 5 (v' := .int .i64 (-1)) rfl (by simp[firstV]) ?_
 refine rn [0,1,2,2] ?_
 refine g_op (zL _ rfl (fun w1 hw1 ho1=>by exact sD bl b0 b1 (-1) w1 ho1 ⟨by decide,by decide⟩) rfl ?_)
 refine g_op (zI rfl (fun w1 hw1=>peekN_i _ w1) rfl ?_)
 refine rn [2,40,40,3,3,0,1,2,2,59,2,3,3,3,0,11] ?_
 exact fin3 rfl (.tmp rfl) (.tmp rfl) (.tmp rfl) (fun w' hw' => ⟨(),trivial,by first|rfl|simp[headI,headC,headB,pk]|(simp[headI,headC,headB,pk];omega),zA w' hw'⟩) _ (.inl rfl)
theorem head_any (bl b0 b1:Nat) (g0 g1:Rg) (q:LL) (sz:Nat) (w:World) (hw:W0 [bL_ bl b0 b1,rB_i b0 g0,rW_i g0,rB_i b1 g1,rW_i g1] w) (h0:g0.Rep 1 ((q).f.map (fun v:Int=>[Value.int .i64 v]))) (h1:g1.Rep 1 ((q).v.map (fun v:Int=>[Value.int .i64 v]))) (s0:Rg.size g0=sz) (s1:Rg.size g1=sz) (hsz:sz≤4096):Keep Tryz.prog 278 [.pointer (some ⟨bl,0,none⟩)] w [bL_ bl b0 b1,rB_i b0 g0,rW_i g0,rB_i b1 g1,rW_i g1] (.tuple [.int .i64 (headI q),.int .i64 (headC q),.bool (headB q)].toArray):=by
 obtain⟨f,v⟩:=q
 match f,v,h0,h1 with
 | x :: f,v,h0,h1=>exact head_a bl b0 b1 g0 g1 sz x f v w hw h0 h1 s0 s1 hsz
 | [],x :: v,h0,h1=>exact head_b bl b0 b1 g0 g1 sz x v w hw h0 h1 s0 s1 hsz
 | [],[],h0,h1=>exact head_c bl b0 b1 g0 g1 sz w hw h0 h1 s0 s1 hsz
theorem pop_a (bl b0 b1:Nat) (g0 g1:Rg) (sz:Nat) (y:Int) (f v:List Int) (w:World) (hw:W0 [bL_ bl b0 b1,rB_i b0 g0,rW_i g0,rB_i b1 g1,rW_i g1] w) (h0:g0.Rep 1 (((LL.mk (y :: f) v)).f.map (fun v:Int=>[Value.int .i64 v]))) (h1:g1.Rep 1 (((LL.mk (y :: f) v)).v.map (fun v:Int=>[Value.int .i64 v]))) (s0:Rg.size g0=sz) (s1:Rg.size g1=sz) (hsz:sz≤4096):Own2 (ι:=(Rg × Rg)) Tryz.prog 279 [.pointer (some ⟨bl,0,none⟩)] w [bL_ bl b0 b1,rB_i b0 g0,rW_i g0,rB_i b1 g1,rW_i g1] (fun x=>x.1.Rep 1 ((popL (LL.mk (y :: f) v)).f.map (fun v:Int=>[Value.int .i64 v]))∧x.2.Rep 1 ((popL (LL.mk (y :: f) v)).v.map (fun v:Int=>[Value.int .i64 v]))∧x.1.size=sz∧x.2.size=sz) (fun x=>.tuple [.int .i64 (headI (LL.mk (y :: f) v)),.int .i64 (headC (LL.mk (y :: f) v)),.bool (headB (LL.mk (y :: f) v))].toArray) (fun x=>[]) (fun x=>[bL_ bl b0 b1,rB_i b0 x.1,rW_i x.1,rB_i b1 x.2,rW_i x.2]):=by
 refine g_st Tryz.func279 21 hw ?_
 refine rn [1,3,3,3,0,1,2] ?_
 refine g_op (zL _ rfl (fun w1 hw1 ho1=>by exact wZ bl b0 b1 g0 g1 (LL.mk (y :: f) v) sz w1 ho1 h0 h1 s0 s1 (by omega)) rfl ?_)
 refine rn [3] ?_
 refine g_val 5 (v' := .int .i64 0) rfl (by simp[firstV]) ?_
 refine rn [0,1,2,2] ?_
 refine g_op (zL _ rfl (fun w1 hw1 ho1=>by exact uQ bl b0 b1 w1 ho1) rfl ?_)
 refine g_op (zG _ rfl (fun w1 hw1 ho1=>by have h7:=pop_i b0 g0 ((LL.mk (y :: f) v)).f w1 ho1 h0;exact h7) rfl ?_)
 rintro g14 ⟨r14,s14⟩
 refine ii ?_
 refine rn [2,40,40,3,3,0,1,2,2] ?_
 refine s_q (pV (a:=0) (b:=0) rfl rfl) rfl ?_
 refine rn [2,3,3,3,0,11] ?_
 exact fin3 rfl (.tmp rfl) (.tmp rfl) (.tmp rfl) (fun w' hw' => ⟨(g14,g1),(by(try dsimp only);exact⟨r14,h1,by omega,s1⟩),by first|rfl|simp[headI,headC,headB,pk]|(simp[headI,headC,headB,pk];omega),zA w' hw'⟩) _ (.inl rfl)
theorem pop_b (bl b0 b1:Nat) (g0 g1:Rg) (sz:Nat) (y:Int) (v:List Int) (w:World) (hw:W0 [bL_ bl b0 b1,rB_i b0 g0,rW_i g0,rB_i b1 g1,rW_i g1] w) (h0:g0.Rep 1 (((LL.mk [] (y :: v))).f.map (fun v:Int=>[Value.int .i64 v]))) (h1:g1.Rep 1 (((LL.mk [] (y :: v))).v.map (fun v:Int=>[Value.int .i64 v]))) (s0:Rg.size g0=sz) (s1:Rg.size g1=sz) (hsz:sz≤4096):Own2 (ι:=(Rg × Rg)) Tryz.prog 279 [.pointer (some ⟨bl,0,none⟩)] w [bL_ bl b0 b1,rB_i b0 g0,rW_i g0,rB_i b1 g1,rW_i g1] (fun x=>x.1.Rep 1 ((popL (LL.mk [] (y :: v))).f.map (fun v:Int=>[Value.int .i64 v]))∧x.2.Rep 1 ((popL (LL.mk [] (y :: v))).v.map (fun v:Int=>[Value.int .i64 v]))∧x.1.size=sz∧x.2.size=sz) (fun x=>.tuple [.int .i64 (headI (LL.mk [] (y :: v))),.int .i64 (headC (LL.mk [] (y :: v))),.bool (headB (LL.mk [] (y :: v)))].toArray) (fun x=>[]) (fun x=>[bL_ bl b0 b1,rB_i b0 x.1,rW_i x.1,rB_i b1 x.2,rW_i x.2]):=by
 refine g_st Tryz.func279 21 hw ?_
 refine rn [1,3,3,3,0,1,2] ?_
 refine g_op (zL _ rfl (fun w1 hw1 ho1=>by exact wZ bl b0 b1 g0 g1 (LL.mk [] (y :: v)) sz w1 ho1 h0 h1 s0 s1 (by omega)) rfl ?_)
 refine rn [3] ?_
 refine g_val 5 (v' := .int .i64 1) rfl (by simp[firstV]) ?_
 refine rn [0,1,2,2] ?_
 refine g_op (zL _ rfl (fun w1 hw1 ho1=>by exact uP bl b0 b1 w1 ho1) rfl ?_)
 refine g_op (zG _ rfl (fun w1 hw1 ho1=>by have h7:=pop_i b1 g1 ((LL.mk [] (y :: v))).v w1 ho1 h1;exact h7) rfl ?_)
 rintro g14 ⟨r14,s14⟩
 refine ii ?_
 refine rn [2,40,40,3,3,0,1,2,2] ?_
 refine s_q (pV (a:=1) (b:=0) rfl rfl) rfl ?_
 refine rn [2,3,3,3,0,11] ?_
 exact fin3 rfl (.tmp rfl) (.tmp rfl) (.tmp rfl) (fun w' hw' => ⟨(g0,g14),(by(try dsimp only);exact⟨h0,r14,s0,by omega⟩),by first|rfl|simp[headI,headC,headB,pk]|(simp[headI,headC,headB,pk];omega),zA w' hw'⟩) _ (.inl rfl)
theorem pop_c (bl b0 b1:Nat) (g0 g1:Rg) (sz:Nat) (w:World) (hw:W0 [bL_ bl b0 b1,rB_i b0 g0,rW_i g0,rB_i b1 g1,rW_i g1] w) (h0:g0.Rep 1 (((LL.mk [] [])).f.map (fun v:Int=>[Value.int .i64 v]))) (h1:g1.Rep 1 (((LL.mk [] [])).v.map (fun v:Int=>[Value.int .i64 v]))) (s0:Rg.size g0=sz) (s1:Rg.size g1=sz) (hsz:sz≤4096):Own2 (ι:=(Rg × Rg)) Tryz.prog 279 [.pointer (some ⟨bl,0,none⟩)] w [bL_ bl b0 b1,rB_i b0 g0,rW_i g0,rB_i b1 g1,rW_i g1] (fun x=>x.1.Rep 1 ((popL (LL.mk [] [])).f.map (fun v:Int=>[Value.int .i64 v]))∧x.2.Rep 1 ((popL (LL.mk [] [])).v.map (fun v:Int=>[Value.int .i64 v]))∧x.1.size=sz∧x.2.size=sz) (fun x=>.tuple [.int .i64 (headI (LL.mk [] [])),.int .i64 (headC (LL.mk [] [])),.bool (headB (LL.mk [] []))].toArray) (fun x=>[]) (fun x=>[bL_ bl b0 b1,rB_i b0 x.1,rW_i x.1,rB_i b1 x.2,rW_i x.2]):=by
 refine g_st Tryz.func279 21 hw ?_
 refine rn [1,3,3,3,0,1,2] ?_
 refine g_op (zL _ rfl (fun w1 hw1 ho1=>by exact wZ bl b0 b1 g0 g1 (LL.mk [] []) sz w1 ho1 h0 h1 s0 s1 (by omega)) rfl ?_)
 refine rn [3] ?_
 refine g_val 5 (v' := .int .i64 (-1)) rfl (by simp[firstV]) ?_
 refine rn [0,1,2,2] ?_
 refine g_op (zL _ rfl (fun w1 hw1 ho1=>by exact sD bl b0 b1 (-1) w1 ho1 ⟨by decide,by decide⟩) rfl ?_)
 refine g_op (zI rfl (fun w1 hw1=>popN_i w1) rfl ?_)
 refine rn [2,40,40,3,3,0,1,2,2,59,2,3,3,3,0,11] ?_
 exact fin3 rfl (.tmp rfl) (.tmp rfl) (.tmp rfl) (fun w' hw' => ⟨(g0,g1),(by exact⟨h0,h1,s0,s1⟩),by first|rfl|simp[headI,headC,headB,pk]|(simp[headI,headC,headB,pk];omega),zA w' hw'⟩) _ (.inl rfl)
theorem pop_any (bl b0 b1:Nat) (g0 g1:Rg) (q:LL) (sz:Nat) (w:World) (hw:W0 [bL_ bl b0 b1,rB_i b0 g0,rW_i g0,rB_i b1 g1,rW_i g1] w) (h0:g0.Rep 1 ((q).f.map (fun v:Int=>[Value.int .i64 v]))) (h1:g1.Rep 1 ((q).v.map (fun v:Int=>[Value.int .i64 v]))) (s0:Rg.size g0=sz) (s1:Rg.size g1=sz) (hsz:sz≤4096):Own2 (ι:=(Rg × Rg)) Tryz.prog 279 [.pointer (some ⟨bl,0,none⟩)] w [bL_ bl b0 b1,rB_i b0 g0,rW_i g0,rB_i b1 g1,rW_i g1] (fun x=>x.1.Rep 1 ((popL q).f.map (fun v:Int=>[Value.int .i64 v]))∧x.2.Rep 1 ((popL q).v.map (fun v:Int=>[Value.int .i64 v]))∧x.1.size=sz∧x.2.size=sz) (fun x=>.tuple [.int .i64 (headI q),.int .i64 (headC q),.bool (headB q)].toArray) (fun x=>[]) (fun x=>[bL_ bl b0 b1,rB_i b0 x.1,rW_i x.1,rB_i b1 x.2,rW_i x.2]):=by
 obtain⟨f,v⟩:=q
 match f,v,h0,h1 with
 | x :: f,v,h0,h1=>exact pop_a bl b0 b1 g0 g1 sz x f v w hw h0 h1 s0 s1 hsz
 | [],x :: v,h0,h1=>exact pop_b bl b0 b1 g0 g1 sz x v w hw h0 h1 s0 s1 hsz
 | [],[],h0,h1=>exact pop_c bl b0 b1 g0 g1 sz w hw h0 h1 s0 s1 hsz
theorem lahead_0 (bl b0 b1:Nat) (g0 g1:Rg) (q:LL) (sz:Nat) (w:World) (hw:W0 [bL_ bl b0 b1,rB_i b0 g0,rW_i g0,rB_i b1 g1,rW_i g1] w) (h0:g0.Rep 1 ((q).f.map (fun v:Int=>[Value.int .i64 v]))) (h1:g1.Rep 1 ((q).v.map (fun v:Int=>[Value.int .i64 v]))) (s0:Rg.size g0=sz) (s1:Rg.size g1=sz) (hsz:sz≤4096):Own2 (ι:=(Option Addr × Nat)) Tryz.prog 168 [.pointer (some ⟨bl,0,none⟩),.int .i64 0] w [bL_ bl b0 b1,rB_i b0 g0,rW_i g0,rB_i b1 g1,rW_i g1] (fun x=>True) (fun x=>.slice x.1 (aheadL 0 q).length x.2) (fun x=>[Res.row x.1 (aheadL 0 q).length x.2 3 1 ((aheadL 0 q).map (fun v:Int=>[Value.int .i64 v]))]) (fun x=>[bL_ bl b0 b1,rB_i b0 g0,rW_i g0,rB_i b1 g1,rW_i g1]):=by
 refine g_st Tryz.func168 22 hw ?_
 have e0:=h0.num;have e1:=h1.num;have e2:=h0.sz;have e3:=h1.sz;have e4:=h0.le;have e5:=h1.le
 refine rn [1,3,0,8,1,2,2] ?_
 refine g_op (zL _ rfl (fun w1 hw1 ho1=>by exact uQ bl b0 b1 w1 ho1) rfl ?_)
 refine rn [50,0,20,12,7,1,3] ?_
 refine xL 5 3 1 rfl fun Az1 capz1 hcz1=>?_
 refine zH (A:=Az1) (([]:List Int).map (fun v:Int=>[Value.int .i64 v])) rfl ?_
 refine rn [0,8,1,3,0,14] ?_
 refine g_lk [0,1,4] (fun(x:Nat × List Int × Option Addr × Nat × Nat)=>[(5,.slice x.2.2.1 x.2.2.2.2 x.2.2.2.1),(6,.int .i64 ((x.1:Nat):Int))]) (fun(x:Nat × List Int × Option Addr × Nat × Nat)=>[Res.row x.2.2.1 x.2.2.2.2 x.2.2.2.1 3 1 ((x.2.1).map (fun v:Int=>[Value.int .i64 v])),bL_ bl b0 b1,rB_i b0 g0,rW_i g0,rB_i b1 g1,rW_i g1]) (fun(x:Nat × List Int × Option Addr × Nat × Nat)=>x.1≤1∧((x.1=0→x.2.1=[])∧(x.1=1→x.2.1=q.f)∧(x.1=2→x.2.1=q.f++q.v))∧x.2.2.2.2=(x.2.1).length) (fun(x:Nat × List Int × Option Addr × Nat × Nat)=>1-x.1) (0,([]:List Int),Az1,capz1,0) (by(try dsimp only);exact⟨(by omega),⟨fun _=>rfl,by omega,by omega⟩,rfl⟩) ?_
 rintro⟨k,l,A,cap,m⟩ ⟨hk,hl,hm⟩
 replace hk:k≤1:=hk
 replace hl:(k=0→l=[])∧(k=1→l=q.f)∧(k=2→l=q.f++q.v):=hl
 replace hm:m=(l).length:=hm
 refine zV (L' := [Res.row A m cap 3 1 ((l).map (fun v:Int=>[Value.int .i64 v])),bL_ bl b0 b1,rB_i b0 g0,rW_i g0,rB_i b1 g1,rW_i g1]) rfl ?_
 refine g_val 5 (v' := .slice A m cap) rfl rfl ?_
 refine g_val 6 (v' := .int .i64 ((k:Nat):Int)) rfl rfl ?_
 refine rn [8,1,2,2,56,0] ?_
 refine zC rfl (fun hc1=>?_) (fun hc1=>?_)
 ·have hk1:k<1:=by have h9:=of_decide_eq_true hc1;omega
  refine rn [12,7,8,14] ?_
  have hk0:k=0:=by omega
  ·refine g_val 6 (v' := .int .i64 0) rfl (by rw[hk0];rfl) ?_
   have e6:l.length≤4096:=by rw[hl.1 hk0];simp
   refine rn [10,2,2,2] ?_
   refine g_op (zG _ rfl (fun w1 hw1 ho1=>by have h7:=tI bl b0 b1 g0 g1 q sz (0) w1 ho1 h0 h1 s0 s1 (by omega);exact h7) rfl ?_)
   rintro⟨A19,cap19⟩ _
   refine ii ?_
   have e7:(allL 0 q).length≤4096∧(allL 1 q).length≤4096:=by simp[allL];omega
   refine g_op (zZ (A:=A) (els:=(l).map (fun v:Int=>[Value.int .i64 v])) (news:=(((allL (0) q)).map (fun v:Int=>[Value.int .i64 v]))) rfl rfl (ird (A:=A19)) (yF (c:=(fun v:Int=>[Value.int .i64 v])) (by intro x;simp[Value.oneCell']) _) (by first|omega|(simp;omega)|(simp_all;omega)) rfl fun A20 cap20=>⟨_,inferInstance,?_⟩)
   refine zH (A:=A20) (((l++(allL (0) q))).map (fun v:Int=>[Value.int .i64 v])) (by first|rfl|exact List.map_append.symm|(simp;done)) ?_
   refine rn [3,9,15,7,10] ?_
   refine g_val 6 (v' := .int .i64 ((k:Nat):Int)) rfl (by rw[hk0];rfl) ?_
   refine rn [2] ?_
   refine s_q (q_inc (i:=k) rfl rfl (by omega)) rfl ?_
   refine rn [3,9] ?_
   exact g_ag ((k+1),((l++(allL (0) q))),A20,cap20,(m+(allL (0) q).length)) (by(try dsimp only);exact⟨(by omega),⟨by omega,fun hh=>by first|omega|(rw[hl.1 (by omega)];simp[allL]),fun hh=>by first|omega|(rw[hl.2.1 (by omega)];simp[allL])⟩,(by simp[hm])⟩)
 ·have hk1:k=1:=by have h9:=of_decide_eq_false hc1;omega
  refine rn [16] ?_
  refine zD (zD (zN ?_))
  refine rn [7,1,2,3,0,11] ?_
  refine zH (A:=A) ((aheadL 0 q).map (fun v:Int=>[Value.int .i64 v])) (by rw[hl.2.1 (by omega)];rfl) ?_
  refine yB (A:=A) (aheadL 0 q).length (by rw[hm,hl.2.1 (by omega)];rfl) ?_
  exact fin1 rfl (.tmp rfl) (fun w' hw' => ⟨(A,cap),(by exact trivial),by rw[hm,hl.2.1 (by omega)];rfl,zA w' hw'⟩) _ (.inl rfl)
theorem lahead_1 (bl b0 b1:Nat) (g0 g1:Rg) (q:LL) (sz:Nat) (w:World) (hw:W0 [bL_ bl b0 b1,rB_i b0 g0,rW_i g0,rB_i b1 g1,rW_i g1] w) (h0:g0.Rep 1 ((q).f.map (fun v:Int=>[Value.int .i64 v]))) (h1:g1.Rep 1 ((q).v.map (fun v:Int=>[Value.int .i64 v]))) (s0:Rg.size g0=sz) (s1:Rg.size g1=sz) (hsz:sz≤4096):Own2 (ι:=(Option Addr × Nat)) Tryz.prog 168 [.pointer (some ⟨bl,0,none⟩),.int .i64 1] w [bL_ bl b0 b1,rB_i b0 g0,rW_i g0,rB_i b1 g1,rW_i g1] (fun x=>True) (fun x=>.slice x.1 (aheadL 1 q).length x.2) (fun x=>[Res.row x.1 (aheadL 1 q).length x.2 3 1 ((aheadL 1 q).map (fun v:Int=>[Value.int .i64 v]))]) (fun x=>[bL_ bl b0 b1,rB_i b0 g0,rW_i g0,rB_i b1 g1,rW_i g1]):=by
 refine g_st Tryz.func168 22 hw ?_
 have e0:=h0.num;have e1:=h1.num;have e2:=h0.sz;have e3:=h1.sz;have e4:=h0.le;have e5:=h1.le
 refine rn [1,3,0,8,1,2,2] ?_
 refine g_op (zL _ rfl (fun w1 hw1 ho1=>by exact uP bl b0 b1 w1 ho1) rfl ?_)
 refine rn [50,0,20,12,7,1,3] ?_
 refine xL 5 3 1 rfl fun Az1 capz1 hcz1=>?_
 refine zH (A:=Az1) (([]:List Int).map (fun v:Int=>[Value.int .i64 v])) rfl ?_
 refine rn [0,8,1,3,0,14] ?_
 refine g_lk [0,1,4] (fun(x:Nat × List Int × Option Addr × Nat × Nat)=>[(5,.slice x.2.2.1 x.2.2.2.2 x.2.2.2.1),(6,.int .i64 ((x.1:Nat):Int))]) (fun(x:Nat × List Int × Option Addr × Nat × Nat)=>[Res.row x.2.2.1 x.2.2.2.2 x.2.2.2.1 3 1 ((x.2.1).map (fun v:Int=>[Value.int .i64 v])),bL_ bl b0 b1,rB_i b0 g0,rW_i g0,rB_i b1 g1,rW_i g1]) (fun(x:Nat × List Int × Option Addr × Nat × Nat)=>x.1≤2∧((x.1=0→x.2.1=[])∧(x.1=1→x.2.1=q.f)∧(x.1=2→x.2.1=q.f++q.v))∧x.2.2.2.2=(x.2.1).length) (fun(x:Nat × List Int × Option Addr × Nat × Nat)=>2-x.1) (0,([]:List Int),Az1,capz1,0) (by(try dsimp only);exact⟨(by omega),⟨fun _=>rfl,by omega,by omega⟩,rfl⟩) ?_
 rintro⟨k,l,A,cap,m⟩ ⟨hk,hl,hm⟩
 replace hk:k≤2:=hk
 replace hl:(k=0→l=[])∧(k=1→l=q.f)∧(k=2→l=q.f++q.v):=hl
 replace hm:m=(l).length:=hm
 refine zV (L' := [Res.row A m cap 3 1 ((l).map (fun v:Int=>[Value.int .i64 v])),bL_ bl b0 b1,rB_i b0 g0,rW_i g0,rB_i b1 g1,rW_i g1]) rfl ?_
 refine g_val 5 (v' := .slice A m cap) rfl rfl ?_
 refine g_val 6 (v' := .int .i64 ((k:Nat):Int)) rfl rfl ?_
 refine rn [8,1,2,2,56,0] ?_
 refine zC rfl (fun hc1=>?_) (fun hc1=>?_)
 ·have hk1:k<2:=by have h9:=of_decide_eq_true hc1;omega
  refine rn [12,7,8,14] ?_
  rcases(show k=0∨k=1 by omega) with hk0|hk0
  ·refine g_val 6 (v' := .int .i64 0) rfl (by rw[hk0];rfl) ?_
   have e6:l.length≤4096:=by rw[hl.1 hk0];simp
   refine rn [10,2,2,2] ?_
   refine g_op (zG _ rfl (fun w1 hw1 ho1=>by have h7:=tI bl b0 b1 g0 g1 q sz (0) w1 ho1 h0 h1 s0 s1 (by omega);exact h7) rfl ?_)
   rintro⟨A19,cap19⟩ _
   refine ii ?_
   have e7:(allL 0 q).length≤4096∧(allL 1 q).length≤4096:=by simp[allL];omega
   refine g_op (zZ (A:=A) (els:=(l).map (fun v:Int=>[Value.int .i64 v])) (news:=(((allL (0) q)).map (fun v:Int=>[Value.int .i64 v]))) rfl rfl (ird (A:=A19)) (yF (c:=(fun v:Int=>[Value.int .i64 v])) (by intro x;simp[Value.oneCell']) _) (by first|omega|(simp;omega)|(simp_all;omega)) rfl fun A20 cap20=>⟨_,inferInstance,?_⟩)
   refine zH (A:=A20) (((l++(allL (0) q))).map (fun v:Int=>[Value.int .i64 v])) (by first|rfl|exact List.map_append.symm|(simp;done)) ?_
   refine rn [3,9,15,7,10] ?_
   refine g_val 6 (v' := .int .i64 ((k:Nat):Int)) rfl (by rw[hk0];rfl) ?_
   refine rn [2] ?_
   refine s_q (q_inc (i:=k) rfl rfl (by omega)) rfl ?_
   refine rn [3,9] ?_
   exact g_ag ((k+1),((l++(allL (0) q))),A20,cap20,(m+(allL (0) q).length)) (by(try dsimp only);exact⟨(by omega),⟨by omega,fun hh=>by first|omega|(rw[hl.1 (by omega)];simp[allL]),fun hh=>by first|omega|(rw[hl.2.1 (by omega)];simp[allL])⟩,(by simp[hm])⟩)
  ·refine g_val 6 (v' := .int .i64 1) rfl (by rw[hk0];rfl) ?_
   have e6:l.length≤4096:=by rw[hl.2.1 hk0];omega
   refine rn [10,2,2,2] ?_
   refine g_op (zG _ rfl (fun w1 hw1 ho1=>by have h7:=tI bl b0 b1 g0 g1 q sz (1) w1 ho1 h0 h1 s0 s1 (by omega);exact h7) rfl ?_)
   rintro⟨A19,cap19⟩ _
   refine ii ?_
   have e7:(allL 0 q).length≤4096∧(allL 1 q).length≤4096:=by simp[allL];omega
   refine g_op (zZ (A:=A) (els:=(l).map (fun v:Int=>[Value.int .i64 v])) (news:=(((allL (1) q)).map (fun v:Int=>[Value.int .i64 v]))) rfl rfl (ird (A:=A19)) (yF (c:=(fun v:Int=>[Value.int .i64 v])) (by intro x;simp[Value.oneCell']) _) (by first|omega|(simp;omega)|(simp_all;omega)) rfl fun A20 cap20=>⟨_,inferInstance,?_⟩)
   refine zH (A:=A20) (((l++(allL (1) q))).map (fun v:Int=>[Value.int .i64 v])) (by first|rfl|exact List.map_append.symm|(simp;done)) ?_
   refine rn [3,9,15,7,10] ?_
   refine g_val 6 (v' := .int .i64 ((k:Nat):Int)) rfl (by rw[hk0];rfl) ?_
   refine rn [2] ?_
   refine s_q (q_inc (i:=k) rfl rfl (by omega)) rfl ?_
   refine rn [3,9] ?_
   exact g_ag ((k+1),((l++(allL (1) q))),A20,cap20,(m+(allL (1) q).length)) (by(try dsimp only);exact⟨(by omega),⟨by omega,fun hh=>by first|omega|(rw[hl.1 (by omega)];simp[allL]),fun hh=>by first|omega|(rw[hl.2.1 (by omega)];simp[allL])⟩,(by simp[hm])⟩)
 ·have hk1:k=2:=by have h9:=of_decide_eq_false hc1;omega
  refine rn [16] ?_
  refine zD (zD (zN ?_))
  refine rn [7,1,2,3,0,11] ?_
  refine zH (A:=A) ((aheadL 1 q).map (fun v:Int=>[Value.int .i64 v])) (by rw[hl.2.2 (by omega)];rfl) ?_
  refine yB (A:=A) (aheadL 1 q).length (by rw[hm,hl.2.2 (by omega)];rfl) ?_
  exact fin1 rfl (.tmp rfl) (fun w' hw' => ⟨(A,cap),(by exact trivial),by rw[hm,hl.2.2 (by omega)];rfl,zA w' hw'⟩) _ (.inl rfl)
theorem lahead_b (bl b0 b1:Nat) (g0 g1:Rg) (q:LL) (sz:Nat) (c:Int) (w:World) (hw:W0 [bL_ bl b0 b1,rB_i b0 g0,rW_i g0,rB_i b1 g1,rW_i g1] w) (h0:g0.Rep 1 ((q).f.map (fun v:Int=>[Value.int .i64 v]))) (h1:g1.Rep 1 ((q).v.map (fun v:Int=>[Value.int .i64 v]))) (s0:Rg.size g0=sz) (s1:Rg.size g1=sz) (hsz:sz≤4096) (hb:c≠0∧c≠1):Own2 (ι:=(Option Addr × Nat)) Tryz.prog 168 [.pointer (some ⟨bl,0,none⟩),.int .i64 c] w [bL_ bl b0 b1,rB_i b0 g0,rW_i g0,rB_i b1 g1,rW_i g1] (fun x=>True) (fun x=>.slice x.1 (aheadL c q).length x.2) (fun x=>[Res.row x.1 (aheadL c q).length x.2 3 1 ((aheadL c q).map (fun v:Int=>[Value.int .i64 v]))]) (fun x=>[bL_ bl b0 b1,rB_i b0 g0,rW_i g0,rB_i b1 g1,rW_i g1]):=by
 refine g_st Tryz.func168 22 hw ?_
 have e0:=h0.num;have e1:=h1.num;have e2:=h0.sz;have e3:=h1.sz;have e4:=h0.le;have e5:=h1.le
 refine rn [1,3,0,8,1,2,2] ?_
 refine g_op (zL _ rfl (fun w1 hw1 ho1=>by exact sD bl b0 b1 c w1 ho1 hb) rfl ?_)
 refine rn [61,0,19,1,3,0,11,13] ?_
 refine wP none 3 1 ?_
 refine zH (A:=none) ((aheadL c q).map (fun v:Int=>[Value.int .i64 v])) (by simp[aheadL,hb.1,hb.2]) ?_
 refine yB (A:=none) (aheadL c q).length (by simp[aheadL,hb.1,hb.2]) ?_
 exact fin1 rfl (.tmp rfl) (fun w' hw' => ⟨((none:Option Addr),(0:Nat)),(by exact trivial),by simp[aheadL,hb.1,hb.2],zA w' hw'⟩) _ (.inl rfl)
theorem lahead_any (bl b0 b1:Nat) (g0 g1:Rg) (q:LL) (sz:Nat) (c:Int) (w:World) (hw:W0 [bL_ bl b0 b1,rB_i b0 g0,rW_i g0,rB_i b1 g1,rW_i g1] w) (h0:g0.Rep 1 ((q).f.map (fun v:Int=>[Value.int .i64 v]))) (h1:g1.Rep 1 ((q).v.map (fun v:Int=>[Value.int .i64 v]))) (s0:Rg.size g0=sz) (s1:Rg.size g1=sz) (hsz:sz≤4096):Own2 (ι:=(Option Addr × Nat)) Tryz.prog 168 [.pointer (some ⟨bl,0,none⟩),.int .i64 c] w [bL_ bl b0 b1,rB_i b0 g0,rW_i g0,rB_i b1 g1,rW_i g1] (fun x=>True) (fun x=>.slice x.1 (aheadL c q).length x.2) (fun x=>[Res.row x.1 (aheadL c q).length x.2 3 1 ((aheadL c q).map (fun v:Int=>[Value.int .i64 v]))]) (fun x=>[bL_ bl b0 b1,rB_i b0 g0,rW_i g0,rB_i b1 g1,rW_i g1]):=by
 by_cases e0:c=0
 ·subst e0;exact lahead_0 bl b0 b1 g0 g1 q sz w hw h0 h1 s0 s1 hsz
 ·by_cases e1:c=1
  ·subst e1;exact lahead_1 bl b0 b1 g0 g1 q sz w hw h0 h1 s0 s1 hsz
  ·exact lahead_b bl b0 b1 g0 g1 q sz c w hw h0 h1 s0 s1 hsz ⟨e0,e1⟩
def newR (b12 k b0 b1:Nat) (g0 g1:Rg):List Res:=match k with
 | 0=>[Res.blk b12 191 [Value.pointer none,Value.pointer none]]
 | 1=>[Res.blk b12 191 [Value.pointer (some ⟨b0,0,none⟩),Value.pointer none],rB_i b0 g0,rW_i g0]
 | _=>[bL_ b12 b0 b1,rB_i b0 g0,rW_i g0,rB_i b1 g1,rW_i g1]
theorem lnew_any (n:Nat) (w:World) (hn:1≤n∧n≤4096):Own2 (ι:=(Nat × Nat × Nat × Rg × Rg)) Tryz.prog 39 [.int .i64 (n:Int)] w [] (fun x=>Rg.Rep x.2.2.2.1 1 (([]:List Int).map (fun v:Int=>[Value.int .i64 v]))∧Rg.size x.2.2.2.1=n∧Rg.Rep x.2.2.2.2 1 (([]:List Int).map (fun v:Int=>[Value.int .i64 v]))∧Rg.size x.2.2.2.2=n) (fun x=>.pointer (some ⟨x.1,0,none⟩)) (fun x=>[Res.blk x.1 191 [Value.pointer (some ⟨x.2.1,0,none⟩),Value.pointer (some ⟨x.2.2.1,0,none⟩)],rB_i x.2.1 x.2.2.2.1,rW_i x.2.2.2.1,rB_i x.2.2.1 x.2.2.2.2,rW_i x.2.2.2.2]) (fun x=>[]):=by
 refine g_st Tryz.func39 26 (WOK.start (fps []) _) ?_
 refine rn [1,3,0,8,1,2,46] ?_
 refine yC 6 (b:=false) rfl (by simp;omega) ?_
 refine rn [2,22,2,22,55] ?_
 refine yC 9 (b:=false) rfl (by simp;omega) ?_
 refine rn [42,0,20,12,7,1] ?_
 refine s_q (yH (c:=[Value.pointer none,Value.pointer none]) rfl rfl) rfl ?_
 refine g_op (g_box (c:=[Value.pointer none,Value.pointer none]) rfl rfl rfl fun b12=>?_)
 refine rn [3,0,8,1,2,0,14] ?_
 refine g_loopk [0,2,3] (fun(x:Nat × Nat × Nat × Rg × Rg)=>[(13,.int .i64 ((x.1:Nat):Int))]) (fun(x:Nat × Nat × Nat × Rg × Rg)=>(newR b12 x.1 x.2.1 x.2.2.1 x.2.2.2.1 x.2.2.2.2)) (fun(x:Nat × Nat × Nat × Rg × Rg)=>x.1≤2∧((0<x.1→Rg.Rep x.2.2.2.1 1 (([]:List Int).map (fun v:Int=>[Value.int .i64 v]))∧Rg.size x.2.2.2.1=n)∧(1<x.1→Rg.Rep x.2.2.2.2 1 (([]:List Int).map (fun v:Int=>[Value.int .i64 v]))∧Rg.size x.2.2.2.2=n))) (fun(x:Nat × Nat × Nat × Rg × Rg)=>2-x.1) (0,0,0,(Rg.init 0),(Rg.init 0)) (by(try dsimp only);exact⟨Nat.zero_le _,⟨by omega,by omega⟩⟩) rfl (by repeat(first|exact trivial|refine⟨rfl,?_⟩)) (fun w hw=>hw) ?_
 rintro⟨k,b0,b1,g0,g1⟩ ⟨le_k,hp⟩
 replace le_k:k≤2:=le_k
 replace hp:(0<k→Rg.Rep g0 1 (([]:List Int).map (fun v:Int=>[Value.int .i64 v]))∧Rg.size g0=n)∧(1<k→Rg.Rep g1 1 (([]:List Int).map (fun v:Int=>[Value.int .i64 v]))∧Rg.size g1=n):=hp
 refine zV (L' := (newR b12 k b0 b1 g0 g1)) rfl ?_
 refine g_val 13 (v' := .int .i64 ((k:Nat):Int)) rfl rfl ?_
 refine rn [1,46,0,8] ?_
 refine zC rfl (fun h1=>?_) (fun h1=>?_)
 ·have lt_k:k<2:=by have h9:=of_decide_eq_true h1;omega
  refine rn [12,7,8,14,8] ?_
  rcases(show k=0∨k=1 by omega) with hk0|hk0
  ·refine zV (L' := [Res.blk b12 191 [Value.pointer none,Value.pointer none]]) (by subst hk0;rfl) ?_
   refine g_val 13 (v' := .int .i64 0) rfl (by rw[hk0];rfl) ?_
   refine rn [10,2,3,0] ?_
   refine dregL (L0:=[]) [] mixed rfl zB ?_
   refine rn [23,0,2,23,1,2,23,2,2,23,4,6,23,5,4,23,6,4] ?_
   refine dop 3 rfl (zG [] rfl (fun w1 hw1 ho1=>by have h7:=new_i (n) w1 (by omega);exact h7) rfl ?_)
   rintro⟨b19,g19⟩ ⟨r19,s19⟩
   refine ii ?_
   simp only at r19 s19
   refine dq 7 rfl (yS (i:=0) rfl rfl rfl (by first|decide|omega)) ?_
   refine dop 8 rfl (zJ rfl rfl rfl rfl rfl rfl rfl ?_)
   refine rn [27,15,7,10] ?_
   refine g_val 13 (v' := .int .i64 ((k:Nat):Int)) rfl (by rw[hk0];rfl) ?_
   refine s_q (q_inc (i:=k) rfl rfl (by omega)) rfl ?_
   refine rn [2,9] ?_
   exact vM ((k+1),b19,b1,g19,g1) (by(try dsimp only);exact⟨(by first|exact lt_k|omega),⟨fun _=>⟨r19,s19⟩,by omega⟩⟩) (by first|omega|(simp only;omega)) (by repeat(first|exact trivial|refine⟨rfl,?_⟩)) (fun w hw=>by subst hk0;have h9:=zB (L' := [Res.blk b12 191 (splice [Value.pointer none,Value.pointer none] (0+0+0+0*1) [Value.pointer (some ⟨b19,0,none⟩)]),rB_i b19 g19,rW_i g19]) w hw;exact h9)
  ·refine zV (L' := [Res.blk b12 191 [Value.pointer (some ⟨b0,0,none⟩),Value.pointer none],rB_i b0 g0,rW_i g0]) (by subst hk0;rfl) ?_
   refine g_val 13 (v' := .int .i64 1) rfl (by rw[hk0];rfl) ?_
   refine rn [10,2,3,0] ?_
   refine dregL (L0:=[]) [] mixed rfl zB ?_
   refine rn [23,0,2,23,1,2,23,2,2,23,4,6,23,5,4,23,6,4] ?_
   refine dop 3 rfl (zG [] rfl (fun w1 hw1 ho1=>by have h7:=new_i (n) w1 (by omega);exact h7) rfl ?_)
   rintro⟨b19,g19⟩ ⟨r19,s19⟩
   refine ii ?_
   simp only at r19 s19
   refine dq 7 rfl (yS (i:=1) rfl rfl rfl (by first|decide|omega)) ?_
   refine dop 8 rfl (zJ rfl rfl rfl rfl rfl rfl rfl ?_)
   refine rn [27,15,7,10] ?_
   refine g_val 13 (v' := .int .i64 ((k:Nat):Int)) rfl (by rw[hk0];rfl) ?_
   refine s_q (q_inc (i:=k) rfl rfl (by omega)) rfl ?_
   refine rn [2,9] ?_
   exact vM ((k+1),b0,b19,g0,g19) (by(try dsimp only);exact⟨(by first|exact lt_k|omega),⟨fun _=>hp.1 (by omega),fun _=>⟨r19,s19⟩⟩⟩) (by first|omega|(simp only;omega)) (by repeat(first|exact trivial|refine⟨rfl,?_⟩)) (fun w hw=>by subst hk0;have h9:=zB (L' := [Res.blk b12 191 (splice [Value.pointer (some ⟨b0,0,none⟩),Value.pointer none] (0+0+0+1*1) [Value.pointer (some ⟨b19,0,none⟩)]),rB_i b0 g0,rW_i g0,rB_i b19 g19,rW_i g19]) w hw;exact h9)
 ·have eq_k:k=2:=by have h9:=of_decide_eq_false h1;omega
  refine rn [16] ?_
  refine zD (zD (zN ?_))
  refine rn [7,1,2,3,0,11] ?_
  refine zV (L' := [bL_ b12 b0 b1,rB_i b0 g0,rW_i g0,rB_i b1 g1,rW_i g1]) (by subst eq_k;rfl) ?_
  exact fin1 rfl (.tmp rfl) (fun w' hw' => ⟨(b12,b0,b1,g0,g1),(by(try dsimp only);exact⟨(hp.1 (by omega)).1,(hp.1 (by omega)).2,(hp.2 (by omega)).1,(hp.2 (by omega)).2⟩),by first|rfl|(simp_all;done),zA w' hw'⟩) _ (.inl rfl)
end Go.Proofs.YtdddiilocbbkkaaGreat
