/- TopDrains: for every configuration and all operations the law returns true. No condition. Part 10 of 28. -/
import Derived.Test.YtdddiilocbbkkaaGreatTD9
set_option linter.unusedVariables false
set_option linter.unusedSimpArgs false
namespace Go.Proofs.YtdddiilocbbkkaaGreat
open Go.RowKit Go.Eg
set_option maxHeartbeats 4000000
set_option synthInstance.maxSize 3000
set_option maxRecDepth 100000
theorem sum_set {l:List V} {i:Nat} (h:i<l.length) (y:V):((l.set i y).map V.bal).sum=(l.map V.bal).sum-(l[i]).bal+y.bal:=by
 induction l generalizing i with
 | nil=>simp at h
 | cons x l ih =>
  cases i with
  | zero=>simp;omega
  | succ i =>
   have:=ih (i:=i) (by simpa using h)
   simp only[List.set_cons_succ,List.map_cons,List.sum_cons,List.getElem_cons_succ,this];omega
theorem act_set {l:List V} {i:Nat} (h:i<l.length) (y:V):actS (l.set i y)=actS l-(if live l[i] then(l[i]).bal else 0)+(if live y then y.bal else 0):=by
 induction l generalizing i with
 | nil=>simp at h
 | cons x l ih =>
  cases i with
  | zero=>simp[actS];omega
  | succ i =>
   have:=ih (i:=i) (by simpa using h)
   simp only[List.set_cons_succ,actS,List.getElem_cons_succ,this];omega
instance im_cnt:ImT Tryz.prog 165:=ImT.of (K:=3) (E:=3) (by kernel_rfl) (by kernel_rfl) (by kernel_rfl)
structure RG where
 cp:Nat
 A:Option Addr
 k:Nat
 l:List V
 a:Int
 t:Int
 m:Nat
abbrev RG.cnt (g:RG) (d:Int) (v:V):RG:={ g with t:=IntKind.u64.wrap (g.t+d),a:=if live v then IntKind.u64.wrap (g.a+d) else g.a }
def sgn (v:V) (b:Bool):Int:=if b then v.bal else IntKind.u64.wrap (0-v.bal)
theorem i64wf {n:Int} (h:-9223372036854775808≤n∧n≤9223372036854775807):(Lit.int .i64 n).wf=true:=by simp[Lit.wf,IntKind.min,IntKind.max,IntKind.signed,IntKind.bits];omega
structure RG.Rep (g:RG):Prop where
 cp:g.cp≤4096
 le:g.l.length≤g.cp
 ok:∀v∈g.l,v.ok
 t:g.t=(g.l.map V.bal).sum
 a:g.a=actS g.l
 mx:(g.l.map V.bal).sum≤18446744073709551615
abbrev RgB (b:Nat) (g:RG):Res:=Res.blk b 167 [Value.int .i64 ((RG.cp g:Nat):Int),.slice (RG.A g) (RG.l g).length (RG.k g),.int .u64 (RG.a g),.int .u64 (RG.t g),.map (some (RG.m g))]
abbrev RgW (g:RG):Res:=Res.row (RG.A g) (RG.l g).length (RG.k g) 52 7 ((RG.l g).map V.c)
theorem tQ (s:Int) (w:World) : Pur Tryz.prog 242 [.int .i64 s] w (.bool (decide (s=2∨s=3))):=by
 refine g_st Tryz.func242 9 (WOK.start [] _) ?_
 refine rn [1,3,0,1,2,44,2] ?_
 refine zU 5 rfl (fun h1=>?_) (fun h1=>?_)
 ·refine rn [21,21,41,3,0,11] ?_
  exact fin1 rfl (.tmp rfl) (fun w' hw' => ⟨by first|rfl|(simp_all;done)|(simp_all;omega),hw'.upd⟩) _ (.inl rfl)
 ·refine rn [22,2,22,44,42,3,0,11] ?_
  exact fin1 rfl (.tmp rfl) (fun w' hw' => ⟨by first|rfl|(simp_all;done)|(simp_all;omega),hw'.upd⟩) _ (.inl rfl)
theorem count_any (rb:Nat) (g:RG) (v:V) (b:Bool) (w:World) (hw:W0 [RgB rb g,RgW g,Res.im (RG.m g)] w) (hv:v.ok):Own2 (ι:=Unit) Tryz.prog 164 [.pointer (some ⟨rb,0,none⟩),.agg v.c.toArray,.bool b] w [RgB rb g,RgW g,Res.im (RG.m g)] (fun x=>True) (fun x=>.tuple #[]) (fun x=>[]) (fun x=>[RgB rb (g.cnt (sgn v b) v),RgW (g.cnt (sgn v b) v),Res.im (RG.m (g.cnt (sgn v b) v))]):=by
 refine g_st Tryz.func164 42 hw ?_
 refine rn [1] ?_
 refine g_op (g_box rfl rfl rfl fun b4=>?_)
 refine rn [0,1,4,5,3,3,0,8,1,2,48,0] ?_
 refine zC rfl (fun h1=>?_) (fun h1=>?_)
 ·refine rn [10,2] ?_
  refine s_q (q_neg rfl) rfl ?_
  refine rn [3,3,0,1] ?_
  refine g_val 6 (v' := .int .u64 (sgn v b)) rfl (by simp_all[sgn]) ?_
  refine g_val 7 (v' := .int .i64 (if b then 1 else -1)) rfl (by simp_all) ?_
  refine rn [2,6,4,5,2,54,6,4] ?_
  refine g_op (zJ rfl rfl rfl rfl rfl rfl rfl ?_)
  refine zF (b:=rb) [Value.int .i64 ((RG.cp g:Nat):Int),.slice (RG.A g) (RG.l g).length (RG.k g),.int .u64 (RG.a g),.int .u64 (IntKind.u64.wrap (RG.t g+sgn v b)),.map (some (RG.m g))] (by simp[splice]) ?_
  refine rn [0,8,1,4,5] ?_
  refine g_op (zI rfl (fun w1 hw1=>tQ _ w1) rfl ?_)
  refine rn [0] ?_
  refine zC rfl (fun h2=>?_) (fun h2=>?_)
  ·have hlv:live v=true:=by simpa[live] using h2
   refine rn [10,2,6,4,5,2,54,6,4] ?_
   refine g_op (zJ rfl rfl rfl rfl rfl rfl rfl ?_)
   refine zF (b:=rb) [Value.int .i64 ((RG.cp g:Nat):Int),.slice (RG.A g) (RG.l g).length (RG.k g),.int .u64 (IntKind.u64.wrap (RG.a g+sgn v b)),.int .u64 (IntKind.u64.wrap (RG.t g+sgn v b)),.map (some (RG.m g))] (by simp[splice]) ?_
   refine rn [0] ?_
   refine dreg [9] mixed rfl ?_
   refine rn [23,0,2,23,1,6,23,2,4,23,3,5,23,4,4,23,5,5,23,7,2] ?_
   refine dop 6 rfl (wT rfl rfl (i64wf hv.st) rfl fun n39=>?_)
   refine rn [23,8,54] ?_
   refine dop 9 rfl (vL rfl rfl rfl (i64wf hv.st) ?_)
   refine rn [28] ?_
   exact fin0 rfl (fun w' hw' => ⟨(),(by first|exact trivial|(dsimp only;exact trivial)),rfl,by have h9:=zB (L' := [Res.blk rb 167 [Value.int .i64 ((RG.cp g:Nat):Int),.slice (RG.A g) (RG.l g).length (RG.k g),.int .u64 (IntKind.u64.wrap (RG.a g+sgn v b)),.int .u64 (IntKind.u64.wrap (RG.t g+sgn v b)),.map (some (RG.m g))],Res.row (RG.A g) (RG.l g).length (RG.k g) 52 7 ((RG.l g).map V.c),Res.im (RG.m g)]) w' hw';show WOK _ _ [RgB rb (g.cnt (sgn v b) v),RgW (g.cnt (sgn v b) v),Res.im (RG.m (g.cnt (sgn v b) v))] _;simp only[RG.cnt];rw[if_pos hlv];exact h9⟩) _ (.inr rfl)
  ·have hlv:¬live v=true:=by simpa[live] using h2
   refine rn [12,7] ?_
   refine dreg [9] mixed rfl ?_
   refine rn [23,0,2,23,1,6,23,2,4,23,3,5,23,4,4,23,5,5,23,7,2] ?_
   refine dop 6 rfl (wT rfl rfl (i64wf hv.st) rfl fun n39=>?_)
   refine rn [23,8,54] ?_
   refine dop 9 rfl (vL rfl rfl rfl (i64wf hv.st) ?_)
   refine rn [28] ?_
   exact fin0 rfl (fun w' hw' => ⟨(),(by first|exact trivial|(dsimp only;exact trivial)),rfl,by have h9:=zB (L' := [Res.blk rb 167 [Value.int .i64 ((RG.cp g:Nat):Int),.slice (RG.A g) (RG.l g).length (RG.k g),.int .u64 (RG.a g),.int .u64 (IntKind.u64.wrap (RG.t g+sgn v b)),.map (some (RG.m g))],Res.row (RG.A g) (RG.l g).length (RG.k g) 52 7 ((RG.l g).map V.c),Res.im (RG.m g)]) w' hw';show WOK _ _ [RgB rb (g.cnt (sgn v b) v),RgW (g.cnt (sgn v b) v),Res.im (RG.m (g.cnt (sgn v b) v))] _;simp only[RG.cnt];rw[if_neg hlv];exact h9⟩) _ (.inr rfl)
 ·refine rn [12,7,1] ?_
  refine g_val 6 (v' := .int .u64 (sgn v b)) rfl (by simp_all[sgn]) ?_
  refine g_val 7 (v' := .int .i64 (if b then 1 else -1)) rfl (by simp_all) ?_
  refine rn [2,6,4,5,2,54,6,4] ?_
  refine g_op (zJ rfl rfl rfl rfl rfl rfl rfl ?_)
  refine zF (b:=rb) [Value.int .i64 ((RG.cp g:Nat):Int),.slice (RG.A g) (RG.l g).length (RG.k g),.int .u64 (RG.a g),.int .u64 (IntKind.u64.wrap (RG.t g+sgn v b)),.map (some (RG.m g))] (by simp[splice]) ?_
  refine rn [0,8,1,4,5] ?_
  refine g_op (zI rfl (fun w1 hw1=>tQ _ w1) rfl ?_)
  refine rn [0] ?_
  refine zC rfl (fun h3=>?_) (fun h3=>?_)
  ·have hlv:live v=true:=by simpa[live] using h3
   refine rn [10,2,6,4,5,2,54,6,4] ?_
   refine g_op (zJ rfl rfl rfl rfl rfl rfl rfl ?_)
   refine zF (b:=rb) [Value.int .i64 ((RG.cp g:Nat):Int),.slice (RG.A g) (RG.l g).length (RG.k g),.int .u64 (IntKind.u64.wrap (RG.a g+sgn v b)),.int .u64 (IntKind.u64.wrap (RG.t g+sgn v b)),.map (some (RG.m g))] (by simp[splice]) ?_
   refine rn [0] ?_
   refine dreg [9] mixed rfl ?_
   refine rn [23,0,2,23,1,6,23,2,4,23,3,5,23,4,4,23,5,5,23,7,2] ?_
   refine dop 6 rfl (wT rfl rfl (i64wf hv.st) rfl fun n39=>?_)
   refine rn [23,8,54] ?_
   refine dop 9 rfl (vL rfl rfl rfl (i64wf hv.st) ?_)
   refine rn [28] ?_
   exact fin0 rfl (fun w' hw' => ⟨(),(by first|exact trivial|(dsimp only;exact trivial)),rfl,by have h9:=zB (L' := [Res.blk rb 167 [Value.int .i64 ((RG.cp g:Nat):Int),.slice (RG.A g) (RG.l g).length (RG.k g),.int .u64 (IntKind.u64.wrap (RG.a g+sgn v b)),.int .u64 (IntKind.u64.wrap (RG.t g+sgn v b)),.map (some (RG.m g))],Res.row (RG.A g) (RG.l g).length (RG.k g) 52 7 ((RG.l g).map V.c),Res.im (RG.m g)]) w' hw';show WOK _ _ [RgB rb (g.cnt (sgn v b) v),RgW (g.cnt (sgn v b) v),Res.im (RG.m (g.cnt (sgn v b) v))] _;simp only[RG.cnt];rw[if_pos hlv];exact h9⟩) _ (.inr rfl)
  ·have hlv:¬live v=true:=by simpa[live] using h3
   refine rn [12,7] ?_
   refine dreg [9] mixed rfl ?_
   refine rn [23,0,2,23,1,6,23,2,4,23,3,5,23,4,4,23,5,5,23,7,2] ?_
   refine dop 6 rfl (wT rfl rfl (i64wf hv.st) rfl fun n39=>?_)
   refine rn [23,8,54] ?_
   refine dop 9 rfl (vL rfl rfl rfl (i64wf hv.st) ?_)
   refine rn [28] ?_
   exact fin0 rfl (fun w' hw' => ⟨(),(by first|exact trivial|(dsimp only;exact trivial)),rfl,by have h9:=zB (L' := [Res.blk rb 167 [Value.int .i64 ((RG.cp g:Nat):Int),.slice (RG.A g) (RG.l g).length (RG.k g),.int .u64 (RG.a g),.int .u64 (IntKind.u64.wrap (RG.t g+sgn v b)),.map (some (RG.m g))],Res.row (RG.A g) (RG.l g).length (RG.k g) 52 7 ((RG.l g).map V.c),Res.im (RG.m g)]) w' hw';show WOK _ _ [RgB rb (g.cnt (sgn v b) v),RgW (g.cnt (sgn v b) v),Res.im (RG.m (g.cnt (sgn v b) v))] _;simp only[RG.cnt];rw[if_neg hlv];exact h9⟩) _ (.inr rfl)
theorem countD_any (rb:Nat) (g:RG) (v:V) (b:Bool) (w:World) (hw:W0 [RgB rb g,RgW g,Res.im (RG.m g)] w) (hv:v.ok):Own2D (ι:=Unit) Tryz.prog 164 [.pointer (some ⟨rb,0,none⟩),.agg v.c.toArray,.bool b] w [RgB rb g,RgW g,Res.im (RG.m g)] (fun x=>True) (fun x=>.tuple #[]) (fun x=>[]) (fun x=>[RgB rb (g.cnt (sgn v b) v),RgW (g.cnt (sgn v b) v),Res.im (RG.m (g.cnt (sgn v b) v))]):=by
 refine g_startD Tryz.func164 rfl 42 rfl (by simp) (fps [RgB rb g,RgW g,Res.im (RG.m g)]) [RgB rb g,RgW g,Res.im (RG.m g)] hw _ rfl ?_
 refine rn [1] ?_
 refine g_op (g_box rfl rfl rfl fun b4=>?_)
 refine rn [0,1,4,5,3,3,0,8,1,2,48,0] ?_
 refine zC rfl (fun h1=>?_) (fun h1=>?_)
 ·refine rn [10,2] ?_
  refine s_q (q_neg rfl) rfl ?_
  refine rn [3,3,0,1] ?_
  refine g_val 6 (v' := .int .u64 (sgn v b)) rfl (by simp_all[sgn]) ?_
  refine g_val 7 (v' := .int .i64 (if b then 1 else -1)) rfl (by simp_all) ?_
  refine rn [2,6,4,5,2,54,6,4] ?_
  refine g_op (zJ rfl rfl rfl rfl rfl rfl rfl ?_)
  refine zF (b:=rb) [Value.int .i64 ((RG.cp g:Nat):Int),.slice (RG.A g) (RG.l g).length (RG.k g),.int .u64 (RG.a g),.int .u64 (IntKind.u64.wrap (RG.t g+sgn v b)),.map (some (RG.m g))] (by simp[splice]) ?_
  refine rn [0,8,1,4,5] ?_
  refine g_op (zI rfl (fun w1 hw1=>tQ _ w1) rfl ?_)
  refine rn [0] ?_
  refine zC rfl (fun h2=>?_) (fun h2=>?_)
  ·have hlv:live v=true:=by simpa[live] using h2
   refine rn [10,2,6,4,5,2,54,6,4] ?_
   refine g_op (zJ rfl rfl rfl rfl rfl rfl rfl ?_)
   refine zF (b:=rb) [Value.int .i64 ((RG.cp g:Nat):Int),.slice (RG.A g) (RG.l g).length (RG.k g),.int .u64 (IntKind.u64.wrap (RG.a g+sgn v b)),.int .u64 (IntKind.u64.wrap (RG.t g+sgn v b)),.map (some (RG.m g))] (by simp[splice]) ?_
   refine rn [0] ?_
   refine dreg [9] mixed rfl ?_
   refine rn [23,0,2,23,1,6,23,2,4,23,3,5,23,4,4,23,5,5,23,7,2] ?_
   refine dop 6 rfl (wT rfl rfl (i64wf hv.st) rfl fun n39=>?_)
   refine rn [23,8,54] ?_
   refine dop 9 rfl (vL rfl rfl rfl (i64wf hv.st) ?_)
   refine rn [28] ?_
   exact fin0 rfl (fun w' hw' => ⟨(),(by first|exact trivial|(dsimp only;exact trivial)),rfl,by have h9:=zB (L' := [Res.blk rb 167 [Value.int .i64 ((RG.cp g:Nat):Int),.slice (RG.A g) (RG.l g).length (RG.k g),.int .u64 (IntKind.u64.wrap (RG.a g+sgn v b)),.int .u64 (IntKind.u64.wrap (RG.t g+sgn v b)),.map (some (RG.m g))],Res.row (RG.A g) (RG.l g).length (RG.k g) 52 7 ((RG.l g).map V.c),Res.im (RG.m g)]) w' hw';show WOK _ _ [RgB rb (g.cnt (sgn v b) v),RgW (g.cnt (sgn v b) v),Res.im (RG.m (g.cnt (sgn v b) v))] _;simp only[RG.cnt];rw[if_pos hlv];exact h9⟩) _ (.inr rfl)
  ·have hlv:¬live v=true:=by simpa[live] using h2
   refine rn [12,7] ?_
   refine dreg [9] mixed rfl ?_
   refine rn [23,0,2,23,1,6,23,2,4,23,3,5,23,4,4,23,5,5,23,7,2] ?_
   refine dop 6 rfl (wT rfl rfl (i64wf hv.st) rfl fun n39=>?_)
   refine rn [23,8,54] ?_
   refine dop 9 rfl (vL rfl rfl rfl (i64wf hv.st) ?_)
   refine rn [28] ?_
   exact fin0 rfl (fun w' hw' => ⟨(),(by first|exact trivial|(dsimp only;exact trivial)),rfl,by have h9:=zB (L' := [Res.blk rb 167 [Value.int .i64 ((RG.cp g:Nat):Int),.slice (RG.A g) (RG.l g).length (RG.k g),.int .u64 (RG.a g),.int .u64 (IntKind.u64.wrap (RG.t g+sgn v b)),.map (some (RG.m g))],Res.row (RG.A g) (RG.l g).length (RG.k g) 52 7 ((RG.l g).map V.c),Res.im (RG.m g)]) w' hw';show WOK _ _ [RgB rb (g.cnt (sgn v b) v),RgW (g.cnt (sgn v b) v),Res.im (RG.m (g.cnt (sgn v b) v))] _;simp only[RG.cnt];rw[if_neg hlv];exact h9⟩) _ (.inr rfl)
 ·refine rn [12,7,1] ?_
  refine g_val 6 (v' := .int .u64 (sgn v b)) rfl (by simp_all[sgn]) ?_
  refine g_val 7 (v' := .int .i64 (if b then 1 else -1)) rfl (by simp_all) ?_
  refine rn [2,6,4,5,2,54,6,4] ?_
  refine g_op (zJ rfl rfl rfl rfl rfl rfl rfl ?_)
  refine zF (b:=rb) [Value.int .i64 ((RG.cp g:Nat):Int),.slice (RG.A g) (RG.l g).length (RG.k g),.int .u64 (RG.a g),.int .u64 (IntKind.u64.wrap (RG.t g+sgn v b)),.map (some (RG.m g))] (by simp[splice]) ?_
  refine rn [0,8,1,4,5] ?_
  refine g_op (zI rfl (fun w1 hw1=>tQ _ w1) rfl ?_)
  refine rn [0] ?_
  refine zC rfl (fun h3=>?_) (fun h3=>?_)
  ·have hlv:live v=true:=by simpa[live] using h3
   refine rn [10,2,6,4,5,2,54,6,4] ?_
   refine g_op (zJ rfl rfl rfl rfl rfl rfl rfl ?_)
   refine zF (b:=rb) [Value.int .i64 ((RG.cp g:Nat):Int),.slice (RG.A g) (RG.l g).length (RG.k g),.int .u64 (IntKind.u64.wrap (RG.a g+sgn v b)),.int .u64 (IntKind.u64.wrap (RG.t g+sgn v b)),.map (some (RG.m g))] (by simp[splice]) ?_
   refine rn [0] ?_
   refine dreg [9] mixed rfl ?_
   refine rn [23,0,2,23,1,6,23,2,4,23,3,5,23,4,4,23,5,5,23,7,2] ?_
   refine dop 6 rfl (wT rfl rfl (i64wf hv.st) rfl fun n39=>?_)
   refine rn [23,8,54] ?_
   refine dop 9 rfl (vL rfl rfl rfl (i64wf hv.st) ?_)
   refine rn [28] ?_
   exact fin0 rfl (fun w' hw' => ⟨(),(by first|exact trivial|(dsimp only;exact trivial)),rfl,by have h9:=zB (L' := [Res.blk rb 167 [Value.int .i64 ((RG.cp g:Nat):Int),.slice (RG.A g) (RG.l g).length (RG.k g),.int .u64 (IntKind.u64.wrap (RG.a g+sgn v b)),.int .u64 (IntKind.u64.wrap (RG.t g+sgn v b)),.map (some (RG.m g))],Res.row (RG.A g) (RG.l g).length (RG.k g) 52 7 ((RG.l g).map V.c),Res.im (RG.m g)]) w' hw';show WOK _ _ [RgB rb (g.cnt (sgn v b) v),RgW (g.cnt (sgn v b) v),Res.im (RG.m (g.cnt (sgn v b) v))] _;simp only[RG.cnt];rw[if_pos hlv];exact h9⟩) _ (.inr rfl)
  ·have hlv:¬live v=true:=by simpa[live] using h3
   refine rn [12,7] ?_
   refine dreg [9] mixed rfl ?_
   refine rn [23,0,2,23,1,6,23,2,4,23,3,5,23,4,4,23,5,5,23,7,2] ?_
   refine dop 6 rfl (wT rfl rfl (i64wf hv.st) rfl fun n39=>?_)
   refine rn [23,8,54] ?_
   refine dop 9 rfl (vL rfl rfl rfl (i64wf hv.st) ?_)
   refine rn [28] ?_
   exact fin0 rfl (fun w' hw' => ⟨(),(by first|exact trivial|(dsimp only;exact trivial)),rfl,by have h9:=zB (L' := [Res.blk rb 167 [Value.int .i64 ((RG.cp g:Nat):Int),.slice (RG.A g) (RG.l g).length (RG.k g),.int .u64 (RG.a g),.int .u64 (IntKind.u64.wrap (RG.t g+sgn v b)),.map (some (RG.m g))],Res.row (RG.A g) (RG.l g).length (RG.k g) 52 7 ((RG.l g).map V.c),Res.im (RG.m g)]) w' hw';show WOK _ _ [RgB rb (g.cnt (sgn v b) v),RgW (g.cnt (sgn v b) v),Res.im (RG.m (g.cnt (sgn v b) v))] _;simp only[RG.cnt];rw[if_neg hlv];exact h9⟩) _ (.inr rfl)
theorem rlen_any (rb:Nat) (g:RG) (w:World) (hw:W0 [RgB rb g,RgW g,Res.im (RG.m g)] w) : Keep Tryz.prog 103 [.pointer (some ⟨rb,0,none⟩)] w [RgB rb g,RgW g,Res.im (RG.m g)] (.int .i64 ((RG.l g).length:Int)):=by
 refine g_st Tryz.func103 10 hw ?_
 refine rn [1,3,0,8,1,2,50,0,20,12,7,1,2,6,4,5,47,3,0,11] ?_
 exact fin1 rfl (.tmp rfl) (fun w' hw' => ⟨(),trivial,by first|rfl|(simp_all;done),zA w' hw'⟩) _ (.inl rfl)
theorem ract_any (rb:Nat) (g:RG) (w:World) (hw:W0 [RgB rb g,RgW g,Res.im (RG.m g)] w) : Keep Tryz.prog 48 [.pointer (some ⟨rb,0,none⟩)] w [RgB rb g,RgW g,Res.im (RG.m g)] (.int .u64 (RG.a g)):=by
 refine g_st Tryz.func48 9 hw ?_
 refine rn [1,3,0,8,1,2,50,0,20,12,7,1,2,6,4,5,3,0,11] ?_
 exact fin1 rfl (.tmp rfl) (fun w' hw' => ⟨(),trivial,by first|rfl|(simp_all;done),zA w' hw'⟩) _ (.inl rfl)
theorem vW (rb:Nat) (g:RG) (w:World) (hw:W0 [RgB rb g,RgW g,Res.im (RG.m g)] w) (hg:g.Rep):Own2 (ι:=(Option Addr × Nat)) Tryz.prog 47 [.pointer (some ⟨rb,0,none⟩)] w [RgB rb g,RgW g,Res.im (RG.m g)] (fun x=>True) (fun x=>.slice x.1 (RG.l g).length x.2) (fun x=>[Res.row x.1 (RG.l g).length x.2 52 7 ((RG.l g).map V.c)]) (fun x=>[RgB rb g,RgW g,Res.im (RG.m g)]):=by
 refine g_st Tryz.func47 10 hw ?_
 have q1:=hg.le;have q2:=hg.cp
 refine rn [1,3,0,8,1,2,50,0,20,12,7,1,2,6,4,5] ?_
 refine g_op (zG [] rfl (fun w1 hw1 ho1=>by have h7:=clone_v (RG.A g) ((RG.l g).length) ((RG.k g)) ((RG.l g)) w1 (Rd.ofRow (A:=(RG.A g)) hw1) (by first|omega|(simp;omega));exact h7) rfl ?_)
 rintro⟨A9,cap9⟩ _
 refine ii ?_
 refine rn [3,0,11] ?_
 exact fin1 rfl (.tmp rfl) (fun w' hw' => ⟨(A9,cap9),(by exact trivial),rfl,zA w' hw'⟩) _ (.inl rfl)
def V.z:V:=⟨0,0,false,0,0,0,0⟩
def hasV (l:List V) (i:Int):Bool:=decide (0≤i∧i<l.length)
def gotV (l:List V) (i:Int):V:=if 0≤i then(l[i.toNat]?).getD V.z else V.z
theorem yT {l:List V} {i:Nat} (h:i<l.length):gotV l i=l[i]:=by simp[gotV,h]
theorem vK {l:List V} {i:Int} (h:hasV l i=false):gotV l i=V.z:=by
 have h:=of_decide_eq_false h
 unfold gotV;split
 ·rw[List.getElem?_eq_none (by omega)];rfl
 ·rfl
theorem xX (rb:Nat) (g:RG) (i:Int) (w:World) (hw:W0 [RgB rb g,RgW g,Res.im (RG.m g)] w) : Keep Tryz.prog 110 [.pointer (some ⟨rb,0,none⟩),.int .i64 i] w [RgB rb g,RgW g,Res.im (RG.m g)] (.tuple [(gotV (RG.l g) i).v,.bool (hasV (RG.l g) i)].toArray):=by
 refine g_st Tryz.func110 22 hw ?_
 refine rn [1] ?_
 refine g_op (zK rfl fun b4=>?_)
 refine rn [3,0,8,1,2,46,2] ?_
 refine zU 8 rfl (fun h1=>?_) (fun h1=>?_)
 ·have hi0:hasV g.l i=false:=decide_eq_false (fun hc=>by have h9:=of_decide_eq_true h1;omega)
  refine rn [21,21,21,21,41,0,19,1,49,33,3,0,11,13] ?_
  exact fin2 rfl (.cellw rfl rfl) (.tmp rfl) (fun w' hw' => ⟨(),trivial,by rw[vK hi0,hi0];rfl,zA w' hw'⟩) _ (.inl rfl)
 ·refine rn [22,2,22,2] ?_
  refine g_gt rfl rfl (zL _ rfl (fun w1 hw1 ho1=>by exact rlen_any rb g w1 ho1) rfl ?_)
  refine rn [22,53,42,0] ?_
  refine zC rfl (fun h2=>?_) (fun h2=>?_)
  ·have hi0:hasV g.l i=false:=decide_eq_false (fun hc=>by have h9:=of_decide_eq_true h2;omega)
   refine rn [1,49,33,3,0,11,13] ?_
   exact fin2 rfl (.cellw rfl rfl) (.tmp rfl) (fun w' hw' => ⟨(),trivial,by rw[vK hi0,hi0];rfl,zA w' hw'⟩) _ (.inl rfl)
  ·obtain⟨ni,rfl⟩:∃q:Nat,i=q:=⟨i.toNat,by have h9:=of_decide_eq_false h1;omega⟩
   have hi1:ni<g.l.length:=by have h9:=of_decide_eq_false h2;omega
   refine rn [12,7,1,2,6,4,5,2] ?_
   refine s_q (zP (i:=ni) rfl rfl rfl (ird (A:=(RG.A g))) (by first|omega|(simp;done)|(simp;omega))) rfl ?_
   refine s_q (zS (i:=ni) rfl (ird (A:=(RG.A g))) (zR (by first|assumption|omega|(simp_all;done)|(simp_all;omega))) rfl) rfl ?_
   refine rn [33,3,0,11] ?_
   exact fin2 rfl (.cellw rfl rfl) (.tmp rfl) (fun w' hw' => ⟨(),trivial,by rw[yT hi1,show hasV g.l ni=true from decide_eq_true (by omega)];rfl,zA w' hw'⟩) _ (.inl rfl)
theorem rnew_any (n:Nat) (w:World) (hn:1≤n∧n≤4096):Own2 (ι:=(Nat × RG)) Tryz.prog 33 [.int .i64 (n:Int)] w [] (fun x=>x.2.Rep∧x.2.l=[]∧x.2.cp=n) (fun x=>.pointer (some ⟨x.1,0,none⟩)) (fun x=>[RgB x.1 x.2,RgW x.2,Res.im (RG.m x.2)]) (fun x=>[]):=by
 refine g_st Tryz.func33 13 (WOK.start (fps []) _) ?_
 refine rn [1,3,0,8,1,2,46] ?_
 refine yC 4 (b:=false) rfl (by simp;omega) ?_
 refine rn [2,22,2,22,55] ?_
 refine yC 7 (b:=false) rfl (by simp;omega) ?_
 refine rn [42,0,20,12,7,1,2] ?_
 refine g_op (uB rfl fun b10=>?_)
 refine g_mpIm (b:=b10) ?_
 refine s_q (yH (c:=[Value.int .i64 ((n:Nat):Int),.slice none ([]:List V).length 0,.int .u64 0,.int .u64 0,.map (some b10)]) rfl rfl) rfl ?_
 refine g_op (g_box rfl rfl rfl fun b12=>?_)
 refine rn [3,0,11] ?_
 refine zX none 52 7 (([]:List V).map V.c) rfl ?_
 exact fin1 rfl (.tmp rfl) (fun w' hw' => ⟨(b12,(RG.mk n none 0 [] 0 0 b10)),(by(try dsimp only);exact⟨⟨by simp;omega,by simp,by simp,by simp,by simp[actS],by simp⟩,rfl,rfl⟩),rfl,zA w' hw'⟩) _ (.inl rfl)
theorem qH:∀{l:List V},(∀x∈l,0≤x.bal)→∀{v:V},v∈l→v.bal≤(l.map V.bal).sum
 | [],_,v,hv=>by simp at hv
 | a :: l,h,v,hv=>by
  have h0:0≤(l.map V.bal).sum:=xF fun x hx=>by obtain⟨y,hy,rfl⟩:=List.mem_map.1 hx;exact h y (by simp[hy])
  have h1:=h a (by simp)
  rw[List.map_cons,List.sum_cons]
  rcases List.mem_cons.1 hv with rfl|hv
  ·omega
  ·have:=qH (l:=l) (fun y hy=>h y (by simp[hy])) hv;omega
theorem RG.set_rep {g:RG} (hg:g.Rep) {n:Nat} (hi:n<g.l.length) {v:V} (hv:v.ok) (hb:(g.l.map V.bal).sum-(g.l[n]).bal+v.bal≤18446744073709551615) :
  (RG.cnt { g.cnt (sgn g.l[n] false) g.l[n] with l:=g.l.set n v } (sgn v true) v).Rep:=by
 have hs:=sum_set hi v
 have ha:=act_set hi v
 have ho:=hg.ok _ (List.getElem_mem hi)
 have hok:okV g.l:=fun x hx=>(hg.ok x hx).bal
 have hn0:0≤((g.l.set n v).map V.bal).sum:=xF fun x hx=>by
  obtain⟨y,hy,rfl⟩:=List.mem_map.1 hx
  rcases List.mem_or_eq_of_mem_set hy with h|h
  ·exact(hg.ok y h).bal.1
  ·rw[h];exact hv.bal.1
 have hact:∀l:List V,(∀y∈l,0≤y.bal)→0≤actS l∧actS l≤(l.map V.bal).sum:=fun l=>by
  induction l with
  | nil=>intro _;simp[actS]
  | cons y l ih =>
   intro h
   have h1:=ih fun z hz=>h z (by simp[hz])
   have h2:=h y (by simp)
   simp only[actS,List.map_cons,List.sum_cons]
   split<;>omega
 have ha1:=hact (g.l.set n v) fun y hy=>by
  rcases List.mem_or_eq_of_mem_set hy with h|h
  ·exact(hg.ok y h).bal.1
  ·rw[h];exact hv.bal.1
 have ha2:=hact g.l fun y hy=>(hg.ok y hy).bal.1
 have hmx:=hg.mx
 have hb0:=ho.bal;have hb1:=hv.bal
 refine⟨hg.cp,by simpa[RG.cnt] using hg.le,fun y hy=>?_,?_,?_,?_⟩
 ·rcases List.mem_or_eq_of_mem_set (show y∈g.l.set n v from hy) with h|h
  ·exact hg.ok y h
  ·rw[h];exact hv
 ·show IntKind.u64.wrap (IntKind.u64.wrap (g.t+sgn g.l[n] false)+sgn v true)=((g.l.set n v).map V.bal).sum
  rw[hg.t,hs]
  simp only[sgn,IntKind.wrap_u64,if_true,Bool.false_eq_true,if_false]
  omega
 ·show(if live v then IntKind.u64.wrap ((if live g.l[n] then IntKind.u64.wrap (g.a+sgn g.l[n] false) else g.a)+sgn v true) else(if live g.l[n] then IntKind.u64.wrap (g.a+sgn g.l[n] false) else g.a))=actS (g.l.set n v)
  rw[hg.a]
  simp only[sgn,IntKind.wrap_u64,if_true,Bool.false_eq_true,if_false]
  split<;>split at ha<;>simp_all<;>omega
 ·show((g.l.set n v).map V.bal).sum≤_
  rw[hs];exact hb
theorem RG.add_rep {g:RG} (hg:g.Rep) (hc:g.l.length<g.cp) {v:V} (hv:v.ok) (hb:(g.l.map V.bal).sum+v.bal≤18446744073709551615) {A:Option Addr} {k:Nat}:(RG.cnt { g with A:=A,k:=k,l:=g.l++[v] } (sgn v true) v).Rep:=by
 have hact:∀l:List V,(∀y∈l,0≤y.bal)→0≤actS l∧actS l≤(l.map V.bal).sum:=fun l=>by
  induction l with
  | nil=>intro _;simp[actS]
  | cons y l ih =>
   intro h
   have h1:=ih fun z hz=>h z (by simp[hz])
   have h2:=h y (by simp)
   simp only[actS,List.map_cons,List.sum_cons]
   split<;>omega
 have ha2:=hact g.l fun y hy=>(hg.ok y hy).bal.1
 have hb1:=hv.bal
 have hs0:0≤(g.l.map V.bal).sum:=by omega
 refine⟨hg.cp,by simp[RG.cnt];omega,fun y hy=>?_,?_,?_,?_⟩
 ·rcases List.mem_append.1 (show y∈g.l++[v] from hy) with h|h
  ·exact hg.ok y h
  ·simp at h;rw[h];exact hv
 ·show IntKind.u64.wrap (g.t+sgn v true)=((g.l++[v]).map V.bal).sum
  rw[hg.t]
  simp only[sgn,IntKind.wrap_u64,if_true,List.map_append,List.sum_append,List.map_cons,List.map_nil,List.sum_cons,List.sum_nil]
  omega
 ·show(if live v then IntKind.u64.wrap (g.a+sgn v true) else g.a)=actS (g.l++[v])
  rw[hg.a,actS_app]
  simp only[sgn,IntKind.wrap_u64,if_true,actS]
  split<;>omega
 ·show((g.l++[v]).map V.bal).sum≤_
  simpa using hb
theorem rset_any (rb:Nat) (g:RG) (i:Int) (v:V) (w:World) (hw:W0 [RgB rb g,RgW g,Res.im (RG.m g)] w) (hg:g.Rep) (hv:v.ok) (hb:∀n:Nat,i=n→(h:n<g.l.length)→(g.l.map V.bal).sum-(g.l[n]).bal+v.bal≤18446744073709551615):Own2 (ι:=RG) Tryz.prog 176 [.pointer (some ⟨rb,0,none⟩),.int .i64 i,.agg v.c.toArray] w [RgB rb g,RgW g,Res.im (RG.m g)] (fun x=>x.Rep∧x.l=(if hasV g.l i=true then g.l.set i.toNat v else g.l)∧x.cp=g.cp) (fun x=>.int .i64 (if hasV g.l i=true then 0 else 7)) (fun x=>[]) (fun x=>[RgB rb x,RgW x,Res.im (RG.m x)]):=by
 refine tJ Tryz.func176 rfl 45 rfl (by simp) (fps [RgB rb g,RgW g,Res.im (RG.m g)]) [RgB rb g,RgW g,Res.im (RG.m g)] hw _ rfl ?_
 refine rn [1] ?_
 refine g_op (g_box rfl rfl rfl fun b5=>?_)
 refine rn [3,0,8,1,2,50,0,20,12,7,1,2,2] ?_
 refine g_op (zL _ rfl (fun w1 hw1 ho1=>by exact xX rb g (i) w1 ho1) rfl ?_)
 refine rn [2,40,40] ?_
 refine g_op (zK rfl fun b7=>?_)
 refine rn [33,3,0,8,1,2,48,0] ?_
 refine zC rfl (fun h1=>?_) (fun h1=>?_)
 ·have hi0:hasV g.l i=false:=by simpa using h1
  refine rn [1,3,0,11,13] ?_
  exact finM1 rfl (.tmp rfl) (fun w' hw' => ⟨g,(by exact⟨hg,by rw[hi0];rfl,rfl⟩),by rw[hi0];rfl,by have h9:=zB (L' := [RgB rb g,RgW g,Res.im (RG.m g)]) w' hw';exact h9⟩) _ (.inl rfl)
 ·have hi0:hasV g.l i=true:=by simpa using h1
  obtain⟨ni,rfl⟩:∃q:Nat,i=q:=⟨i.toNat,by have h9:=of_decide_eq_true hi0;omega⟩
  have hi1:ni<g.l.length:=by have h9:=of_decide_eq_true hi0;omega
  replace hb:=hb ni rfl hi1
  have hgo:gotV g.l (ni:Int)=g.l[ni]:=yT hi1
  have ho:=(hg.ok _ (List.getElem_mem hi1)).bal
  have hvb:=hv.bal
  have hle:(g.l[ni]).bal≤(g.l.map V.bal).sum:=qH (fun x hx=>(hg.ok x hx).bal.1) (List.getElem_mem hi1)
  have hmx:=hg.mx
  refine zF (b:=b7) (V.c (g.l[ni])) (by rw[hgo]) ?_
  refine rn [12,7,8,8] ?_
  refine dreg [] mixed rfl ?_
  refine rn [23,0,4,23,1,5,23,2,2,23,3,6,23,4,4,23,5,5,23,6,4,23,7,5] ?_
  refine dq 8 rfl (yZ (z:=(g.l.map V.bal).sum-(g.l[ni]).bal) rfl rfl (by rw[hg.t,IntKind.wrap_u64];omega)) ?_
  refine dq 9 rfl (yZ (z:=18446744073709551615-((g.l.map V.bal).sum-(g.l[ni]).bal)) rfl rfl (by rw[IntKind.wrap_u64];omega)) ?_
  refine rn [23,10,55,27,7] ?_
  refine zC rfl (fun h2=>?_) (fun h2=>?_)
  ·exfalso;have h9:=of_decide_eq_true h2;omega
  ·refine rn [12,7,8,1,45,45] ?_
   refine s_q (q_eqs rfl rfl rfl) rfl ?_
   refine rn [0] ?_
   refine zC rfl (fun h3=>?_) (fun h3=>?_)
   ·have heq:v=g.l[ni]:=(V.ext_iff' _ _).2 (by simpa using h3)
    refine rn [1,3,0,11,13] ?_
    exact finM1 rfl (.tmp rfl) (fun w' hw' => ⟨g,(by exact⟨hg,by rw[if_pos hi0,Int.toNat_natCast,heq,List.set_getElem_self],rfl⟩),by rw[if_pos hi0],by have h9:=zB (L' := [RgB rb g,RgW g,Res.im (RG.m g)]) w' hw';exact h9⟩) _ (.inl rfl)
   ·refine rn [12,7,1,2,45] ?_
    refine g_op (g_defer (fst:=[]) (cap:=[]) rfl rfl ?_)
    refine rn [0,1,2,45] ?_
    refine g_op (zG _ rfl (fun w1 hw1 ho1=>by have h7:=count_any rb g (g.l[ni]) false w1 ho1 (hg.ok _ (List.getElem_mem hi1));exact h7) rfl ?_)
    rintro⟨⟩ _
    refine ii ?_
    refine rn [0,8] ?_
    refine dreg [7] mixed rfl ?_
    refine rn [23,0,2,23,1,6,23,2,4,23,3,5,23,4,2,23,5,45] ?_
    refine dq 6 rfl (zP (i:=ni) rfl rfl rfl (InRow.rdb (A:=(RG.A (RG.cnt g (sgn g.l[ni] false) g.l[ni]))) (els:=((RG.l (RG.cnt g (sgn g.l[ni] false) g.l[ni]))).map V.c) (by first|rfl|assumption|(simp;done)|(simp_all;done)|(simp;omega)|(simp_all;omega)) (zW (c:=V.c) (fun _=>rfl) _)) (by first|exact hi1|omega)) ?_
    refine dop 7 rfl (yA (A:=(RG.A (RG.cnt g (sgn g.l[ni] false) g.l[ni]))) (i:=ni) (o:=0) (cs' := V.c (v)) rfl rfl rfl rfl rfl (zR (by first|assumption|omega|(simp_all;done)|(simp_all;omega))) (by first|(simp;done)|exact Nat.le_refl _) rfl (yD rfl) ?_)
    refine zH (A:=(RG.A (RG.cnt g (sgn g.l[ni] false) g.l[ni]))) (((RG.l (RG.cnt g (sgn g.l[ni] false) g.l[ni])).set ni v).map V.c) (by simp only[List.map_set]) ?_
    refine rn [28,7,1,3,0,11] ?_
    refine zV (L' := [Res.blk b7 52 (V.c (g.l[ni])),Res.blk b5 52 v.c,RgB rb (RG.mk g.cp g.A g.k (g.l.set ni v) (RG.a (RG.cnt g (sgn (g.l[ni]) false) (g.l[ni]))) (RG.t (RG.cnt g (sgn (g.l[ni]) false) (g.l[ni]))) g.m),RgW (RG.mk g.cp g.A g.k (g.l.set ni v) (RG.a (RG.cnt g (sgn (g.l[ni]) false) (g.l[ni]))) (RG.t (RG.cnt g (sgn (g.l[ni]) false) (g.l[ni]))) g.m),Res.im (RG.m (RG.mk g.cp g.A g.k (g.l.set ni v) (RG.a (RG.cnt g (sgn (g.l[ni]) false) (g.l[ni]))) (RG.t (RG.cnt g (sgn (g.l[ni]) false) (g.l[ni]))) g.m))]) (by simp only[RgB,RgW,List.length_set,RG.cnt]) ?_
    refine finD [RgB rb (RG.mk g.cp g.A g.k (g.l.set ni v) (RG.a (RG.cnt g (sgn (g.l[ni]) false) (g.l[ni]))) (RG.t (RG.cnt g (sgn (g.l[ni]) false) (g.l[ni]))) g.m),RgW (RG.mk g.cp g.A g.k (g.l.set ni v) (RG.a (RG.cnt g (sgn (g.l[ni]) false) (g.l[ni]))) (RG.t (RG.cnt g (sgn (g.l[ni]) false) (g.l[ni]))) g.m),Res.im (RG.m (RG.mk g.cp g.A g.k (g.l.set ni v) (RG.a (RG.cnt g (sgn (g.l[ni]) false) (g.l[ni]))) (RG.t (RG.cnt g (sgn (g.l[ni]) false) (g.l[ni]))) g.m))] (fun w1 hw1 ho1=>by have h7:=countD_any rb (RG.mk g.cp g.A g.k (g.l.set ni v) (RG.a (RG.cnt g (sgn (g.l[ni]) false) (g.l[ni]))) (RG.t (RG.cnt g (sgn (g.l[ni]) false) (g.l[ni]))) g.m) (v) true w1 ho1 hv;exact h7) ?_ _ (.inl rfl)
    rintro⟨⟩ _
    refine⟨_,_,inferInstance,inferInstance,?_⟩
    exact finM1 rfl (.tmp rfl) (fun w' hw' => ⟨(RG.cnt (RG.mk g.cp g.A g.k (g.l.set ni v) (RG.a (RG.cnt g (sgn (g.l[ni]) false) (g.l[ni]))) (RG.t (RG.cnt g (sgn (g.l[ni]) false) (g.l[ni]))) g.m) (sgn v true) v),⟨RG.set_rep hg hi1 hv hb,by rw[if_pos hi0];rfl,rfl⟩,by rw[if_pos hi0],by have h9:=zB (L' := [RgB rb (RG.cnt (RG.mk g.cp g.A g.k (g.l.set ni v) (RG.a (RG.cnt g (sgn (g.l[ni]) false) (g.l[ni]))) (RG.t (RG.cnt g (sgn (g.l[ni]) false) (g.l[ni]))) g.m) (sgn v true) v),RgW (RG.cnt (RG.mk g.cp g.A g.k (g.l.set ni v) (RG.a (RG.cnt g (sgn (g.l[ni]) false) (g.l[ni]))) (RG.t (RG.cnt g (sgn (g.l[ni]) false) (g.l[ni]))) g.m) (sgn v true) v),Res.im (RG.m (RG.cnt (RG.mk g.cp g.A g.k (g.l.set ni v) (RG.a (RG.cnt g (sgn (g.l[ni]) false) (g.l[ni]))) (RG.t (RG.cnt g (sgn (g.l[ni]) false) (g.l[ni]))) g.m) (sgn v true) v))]) w' hw';exact h9⟩)
end Go.Proofs.YtdddiilocbbkkaaGreat
