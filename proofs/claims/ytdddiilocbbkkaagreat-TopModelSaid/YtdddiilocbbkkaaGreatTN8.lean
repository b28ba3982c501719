/- TopModel, part 8. No condition. -/
import Derived.Test.YtdddiilocbbkkaaGreatTN6
set_option linter.unusedVariables false
set_option linter.unusedSimpArgs false
namespace Go.Proofs.YtdddiilocbbkkaaGreat
open Go.RowKit Go.Eg
set_option maxHeartbeats 4000000
set_option synthInstance.maxSize 3000
set_option maxRecDepth 100000
theorem po {l:List V} {i:Nat} (h:i<l.length) (y:V):((l.set i y).map V.bal).sum=(l.map V.bal).sum-(l[i]).bal+y.bal:=by
 induction l generalizing i with
 | nil=>simp at h
 | cons x l ih =>
  cases i with
  | zero=>simp;omega
  | succ i =>
   have:=ih (i:=i) (by simpa using h);simp only[List.set_cons_succ,cV,dB,List.getElem_cons_succ,this];omega
theorem DO {l:List V} {i:Nat} (h:i<l.length) (y:V):dZ (l.set i y)=dZ l-(if eX l[i] then(l[i]).bal else 0)+(if eX y then y.bal else 0):=by
 induction l generalizing i with
 | nil=>simp at h
 | cons x l ih =>
  cases i with
  | zero=>simp[dZ];omega
  | succ i =>
   have:=ih (i:=i) (by simpa using h);simp only[List.set_cons_succ,dZ,List.getElem_cons_succ,this];omega
instance im_cnt:ImT Tryz.prog 165:=ImT.of (K:=3) (E:=3) aL aL aL
structure RG where
 cp:Nat
 A:bU
 k:Nat
 l:List V
 a:Int
 t:Int
 m:Nat
abbrev RG.cnt (g:RG) (d:Int) (v:V):RG:={ g with t:=IntKind.u64.wrap (g.t+d),a:=if eX v then IntKind.u64.wrap (g.a+d) else g.a }
def sgn (v:V) (b:Bool):Int:=if b then v.bal else IntKind.u64.wrap (0-v.bal)
theorem fE {n:Int} (h:-9223372036854775808≤n∧n≤9223372036854775807):(Lit.int .i64 n).wf=true:=by simp[Lit.wf,IntKind.min,IntKind.max,IntKind.signed,IntKind.bits];omega
structure RG.Rep (g:RG):Prop where
 cp:g.cp≤4096
 le:g.l.length≤g.cp
 ok:∀v∈g.l,v.ok
 t:g.t=(g.l.map V.bal).sum
 a:g.a=dZ g.l
 mx:(g.l.map V.bal).sum≤18446744073709551615
abbrev RgB (b:Nat) (g:RG):Res:=Res.blk b 167 [aI g.cp,.slice g.A g.l.length g.k,aJ g.a,aJ g.t,.map (some g.m)]
abbrev RgW (g:RG):Res:=Res.row g.A g.l.length g.k 52 7 (g.l.map V.c)
theorem sC (s:Int) (w:World) : Pur Tryz.prog 242 [aH s] w (.bool (decide (s=2∨s=3))):=by
 refine Γ Tryz.func242 9 (WOK.start [] _) ?_;refine rn [1,3,0,1,2,44,2] ?_;refine zS 5 rfl (fun h1=>?_) (fun h1=>?_)
 ·refine rn [21,21,41,3,0,11] ?_;exact dD rfl rfl fun w' a5=>⟨by first|rfl|(simp_all;done)|(simp_all;omega),a5.upd⟩
 refine rn [22,2,22,44,42,3,0,11] ?_;exact dD rfl rfl fun w' a5=>⟨by first|rfl|(simp_all;done)|(simp_all;omega),a5.upd⟩
theorem ud (rb:Nat) (g:RG) (v:V) (b:Bool) (w:World) (hw:W0 [RgB rb g,RgW g,Res.im g.m] w) (hv:v.ok):au (ι:=Unit) Tryz.prog 164 [aG rb,.agg v.c.toArray,.bool b] w [RgB rb g,RgW g,Res.im g.m] (fun x=>True) (fun x=>.tuple #[]) (fun x=>[]) (fun x=>[RgB rb (g.cnt (sgn v b) v),RgW (g.cnt (sgn v b) v),Res.im (RG.m (g.cnt (sgn v b) v))]):=by
 refine Γ Tryz.func164 42 hw ?_;refine Ri ?_;refine aa (aq rfl rfl rfl fun b4=>rn [0,1,4,5,3,3,0,8,1,2,48,0] ?_);refine zB rfl (fun h1=>?_) (fun h1=>?_)
 ·refine rn [10,2] ?_;refine s_q (DX rfl) rfl (rn [3,3,0,1] ?_);refine ae 6 (v' := aJ (sgn v b)) rfl (by simp_all[sgn]) ?_;refine ae 7 (v' := aH (if b then 1 else -1)) rfl bC (rn [2,6,4,5,2,54,6,4] ?_);refine aa (zI rfl rfl rfl rfl rfl rfl rfl ?_);refine zF (b:=rb) [aI g.cp,.slice g.A g.l.length g.k,aJ g.a,aJ (IntKind.u64.wrap (RG.t g+sgn v b)),.map (some g.m)] (by simp[ay]) (rn [0,8,1,4,5] ?_);refine aa (zH rfl (fun w1 a6=>sC _ w1) rfl (rn [0] ?_));refine zB rfl (fun h2=>?_) (fun h2=>?_)
  ·have J6:eX v=true:=by simpa[eX] using h2
   refine rn [10,2,6,4,5,2,54,6,4] ?_;refine aa (zI rfl rfl rfl rfl rfl rfl rfl ?_);refine zF (b:=rb) [aI g.cp,.slice g.A g.l.length g.k,aJ (IntKind.u64.wrap (RG.a g+sgn v b)),aJ (IntKind.u64.wrap (RG.t g+sgn v b)),.map (some g.m)] (by simp[ay]) (rn [0] ?_);refine bn [9] an rfl (Rn ?_);refine dop 6 rfl (vB rfl rfl (fE hv.st) rfl fun n39=>rn [23,8,54] ?_);refine dop 9 rfl (vW rfl rfl rfl (fE hv.st) (Nf ?_));exact dF rfl fun w' a5=>⟨(),bG,rfl,by have h9:=zG (L' := [Res.blk rb 167 [aI g.cp,.slice g.A g.l.length g.k,aJ (IntKind.u64.wrap (RG.a g+sgn v b)),aJ (IntKind.u64.wrap (RG.t g+sgn v b)),.map (some g.m)],Res.row g.A g.l.length g.k 52 7 (g.l.map V.c),Res.im g.m]) w' a5;show WOK _ _ [RgB rb (g.cnt (sgn v b) v),RgW (g.cnt (sgn v b) v),Res.im (RG.m (g.cnt (sgn v b) v))] _;simp only[RG.cnt];rw[bZ J6];exact h9⟩
  have J6:¬eX v=true:=by simpa[eX] using h2
  refine rn [12,7] ?_;refine bn [9] an rfl (Rn ?_);refine dop 6 rfl (vB rfl rfl (fE hv.st) rfl fun n39=>rn [23,8,54] ?_);refine dop 9 rfl (vW rfl rfl rfl (fE hv.st) (Nf ?_));exact dF rfl fun w' a5=>⟨(),bG,rfl,by have h9:=zG (L' := [Res.blk rb 167 [aI g.cp,.slice g.A g.l.length g.k,aJ g.a,aJ (IntKind.u64.wrap (RG.t g+sgn v b)),.map (some g.m)],Res.row g.A g.l.length g.k 52 7 (g.l.map V.c),Res.im g.m]) w' a5;show WOK _ _ [RgB rb (g.cnt (sgn v b) v),RgW (g.cnt (sgn v b) v),Res.im (RG.m (g.cnt (sgn v b) v))] _;simp only[RG.cnt];rw[bY J6];exact h9⟩
 refine rn [12,7,1] ?_;refine ae 6 (v' := aJ (sgn v b)) rfl (by simp_all[sgn]) ?_;refine ae 7 (v' := aH (if b then 1 else -1)) rfl bC (rn [2,6,4,5,2,54,6,4] ?_);refine aa (zI rfl rfl rfl rfl rfl rfl rfl ?_);refine zF (b:=rb) [aI g.cp,.slice g.A g.l.length g.k,aJ g.a,aJ (IntKind.u64.wrap (RG.t g+sgn v b)),.map (some g.m)] (by simp[ay]) (rn [0,8,1,4,5] ?_);refine aa (zH rfl (fun w1 a6=>sC _ w1) rfl (rn [0] ?_));refine zB rfl (fun h3=>?_) (fun h3=>?_)
 ·have J6:eX v=true:=by simpa[eX] using h3
  refine rn [10,2,6,4,5,2,54,6,4] ?_;refine aa (zI rfl rfl rfl rfl rfl rfl rfl ?_);refine zF (b:=rb) [aI g.cp,.slice g.A g.l.length g.k,aJ (IntKind.u64.wrap (RG.a g+sgn v b)),aJ (IntKind.u64.wrap (RG.t g+sgn v b)),.map (some g.m)] (by simp[ay]) (rn [0] ?_);refine bn [9] an rfl (Rn ?_);refine dop 6 rfl (vB rfl rfl (fE hv.st) rfl fun n39=>rn [23,8,54] ?_);refine dop 9 rfl (vW rfl rfl rfl (fE hv.st) (Nf ?_));exact dF rfl fun w' a5=>⟨(),bG,rfl,by have h9:=zG (L' := [Res.blk rb 167 [aI g.cp,.slice g.A g.l.length g.k,aJ (IntKind.u64.wrap (RG.a g+sgn v b)),aJ (IntKind.u64.wrap (RG.t g+sgn v b)),.map (some g.m)],Res.row g.A g.l.length g.k 52 7 (g.l.map V.c),Res.im g.m]) w' a5;show WOK _ _ [RgB rb (g.cnt (sgn v b) v),RgW (g.cnt (sgn v b) v),Res.im (RG.m (g.cnt (sgn v b) v))] _;simp only[RG.cnt];rw[bZ J6];exact h9⟩
 have J6:¬eX v=true:=by simpa[eX] using h3
 refine rn [12,7] ?_;refine bn [9] an rfl (Rn ?_);refine dop 6 rfl (vB rfl rfl (fE hv.st) rfl fun n39=>rn [23,8,54] ?_);refine dop 9 rfl (vW rfl rfl rfl (fE hv.st) (Nf ?_));exact dF rfl fun w' a5=>⟨(),bG,rfl,by have h9:=zG (L' := [Res.blk rb 167 [aI g.cp,.slice g.A g.l.length g.k,aJ g.a,aJ (IntKind.u64.wrap (RG.t g+sgn v b)),.map (some g.m)],Res.row g.A g.l.length g.k 52 7 (g.l.map V.c),Res.im g.m]) w' a5;show WOK _ _ [RgB rb (g.cnt (sgn v b) v),RgW (g.cnt (sgn v b) v),Res.im (RG.m (g.cnt (sgn v b) v))] _;simp only[RG.cnt];rw[bY J6];exact h9⟩
theorem jA (rb:Nat) (g:RG) (v:V) (b:Bool) (w:World) (hw:W0 [RgB rb g,RgW g,Res.im g.m] w) (hv:v.ok):Di (ι:=Unit) Tryz.prog 164 [aG rb,.agg v.c.toArray,.bool b] w [RgB rb g,RgW g,Res.im g.m] (fun x=>True) (fun x=>.tuple #[]) (fun x=>[]) (fun x=>[RgB rb (g.cnt (sgn v b) v),RgW (g.cnt (sgn v b) v),Res.im (RG.m (g.cnt (sgn v b) v))]):=by
 refine AR Tryz.func164 rfl 42 rfl aM (fps [RgB rb g,RgW g,Res.im g.m]) [RgB rb g,RgW g,Res.im g.m] hw _ rfl (Ri ?_);refine aa (aq rfl rfl rfl fun b4=>rn [0,1,4,5,3,3,0,8,1,2,48,0] ?_);refine zB rfl (fun h1=>?_) (fun h1=>?_)
 ·refine rn [10,2] ?_;refine s_q (DX rfl) rfl (rn [3,3,0,1] ?_);refine ae 6 (v' := aJ (sgn v b)) rfl (by simp_all[sgn]) ?_;refine ae 7 (v' := aH (if b then 1 else -1)) rfl bC (rn [2,6,4,5,2,54,6,4] ?_);refine aa (zI rfl rfl rfl rfl rfl rfl rfl ?_);refine zF (b:=rb) [aI g.cp,.slice g.A g.l.length g.k,aJ g.a,aJ (IntKind.u64.wrap (RG.t g+sgn v b)),.map (some g.m)] (by simp[ay]) (rn [0,8,1,4,5] ?_);refine aa (zH rfl (fun w1 a6=>sC _ w1) rfl (rn [0] ?_));refine zB rfl (fun h2=>?_) (fun h2=>?_)
  ·have J6:eX v=true:=by simpa[eX] using h2
   refine rn [10,2,6,4,5,2,54,6,4] ?_;refine aa (zI rfl rfl rfl rfl rfl rfl rfl ?_);refine zF (b:=rb) [aI g.cp,.slice g.A g.l.length g.k,aJ (IntKind.u64.wrap (RG.a g+sgn v b)),aJ (IntKind.u64.wrap (RG.t g+sgn v b)),.map (some g.m)] (by simp[ay]) (rn [0] ?_);refine bn [9] an rfl (Rn ?_);refine dop 6 rfl (vB rfl rfl (fE hv.st) rfl fun n39=>rn [23,8,54] ?_);refine dop 9 rfl (vW rfl rfl rfl (fE hv.st) (Nf ?_));exact dF rfl fun w' a5=>⟨(),bG,rfl,by have h9:=zG (L' := [Res.blk rb 167 [aI g.cp,.slice g.A g.l.length g.k,aJ (IntKind.u64.wrap (RG.a g+sgn v b)),aJ (IntKind.u64.wrap (RG.t g+sgn v b)),.map (some g.m)],Res.row g.A g.l.length g.k 52 7 (g.l.map V.c),Res.im g.m]) w' a5;show WOK _ _ [RgB rb (g.cnt (sgn v b) v),RgW (g.cnt (sgn v b) v),Res.im (RG.m (g.cnt (sgn v b) v))] _;simp only[RG.cnt];rw[bZ J6];exact h9⟩
  have J6:¬eX v=true:=by simpa[eX] using h2
  refine rn [12,7] ?_;refine bn [9] an rfl (Rn ?_);refine dop 6 rfl (vB rfl rfl (fE hv.st) rfl fun n39=>rn [23,8,54] ?_);refine dop 9 rfl (vW rfl rfl rfl (fE hv.st) (Nf ?_));exact dF rfl fun w' a5=>⟨(),bG,rfl,by have h9:=zG (L' := [Res.blk rb 167 [aI g.cp,.slice g.A g.l.length g.k,aJ g.a,aJ (IntKind.u64.wrap (RG.t g+sgn v b)),.map (some g.m)],Res.row g.A g.l.length g.k 52 7 (g.l.map V.c),Res.im g.m]) w' a5;show WOK _ _ [RgB rb (g.cnt (sgn v b) v),RgW (g.cnt (sgn v b) v),Res.im (RG.m (g.cnt (sgn v b) v))] _;simp only[RG.cnt];rw[bY J6];exact h9⟩
 refine rn [12,7,1] ?_;refine ae 6 (v' := aJ (sgn v b)) rfl (by simp_all[sgn]) ?_;refine ae 7 (v' := aH (if b then 1 else -1)) rfl bC (rn [2,6,4,5,2,54,6,4] ?_);refine aa (zI rfl rfl rfl rfl rfl rfl rfl ?_);refine zF (b:=rb) [aI g.cp,.slice g.A g.l.length g.k,aJ g.a,aJ (IntKind.u64.wrap (RG.t g+sgn v b)),.map (some g.m)] (by simp[ay]) (rn [0,8,1,4,5] ?_);refine aa (zH rfl (fun w1 a6=>sC _ w1) rfl (rn [0] ?_));refine zB rfl (fun h3=>?_) (fun h3=>?_)
 ·have J6:eX v=true:=by simpa[eX] using h3
  refine rn [10,2,6,4,5,2,54,6,4] ?_;refine aa (zI rfl rfl rfl rfl rfl rfl rfl ?_);refine zF (b:=rb) [aI g.cp,.slice g.A g.l.length g.k,aJ (IntKind.u64.wrap (RG.a g+sgn v b)),aJ (IntKind.u64.wrap (RG.t g+sgn v b)),.map (some g.m)] (by simp[ay]) (rn [0] ?_);refine bn [9] an rfl (Rn ?_);refine dop 6 rfl (vB rfl rfl (fE hv.st) rfl fun n39=>rn [23,8,54] ?_);refine dop 9 rfl (vW rfl rfl rfl (fE hv.st) (Nf ?_));exact dF rfl fun w' a5=>⟨(),bG,rfl,by have h9:=zG (L' := [Res.blk rb 167 [aI g.cp,.slice g.A g.l.length g.k,aJ (IntKind.u64.wrap (RG.a g+sgn v b)),aJ (IntKind.u64.wrap (RG.t g+sgn v b)),.map (some g.m)],Res.row g.A g.l.length g.k 52 7 (g.l.map V.c),Res.im g.m]) w' a5;show WOK _ _ [RgB rb (g.cnt (sgn v b) v),RgW (g.cnt (sgn v b) v),Res.im (RG.m (g.cnt (sgn v b) v))] _;simp only[RG.cnt];rw[bZ J6];exact h9⟩
 have J6:¬eX v=true:=by simpa[eX] using h3
 refine rn [12,7] ?_;refine bn [9] an rfl (Rn ?_);refine dop 6 rfl (vB rfl rfl (fE hv.st) rfl fun n39=>rn [23,8,54] ?_);refine dop 9 rfl (vW rfl rfl rfl (fE hv.st) (Nf ?_));exact dF rfl fun w' a5=>⟨(),bG,rfl,by have h9:=zG (L' := [Res.blk rb 167 [aI g.cp,.slice g.A g.l.length g.k,aJ g.a,aJ (IntKind.u64.wrap (RG.t g+sgn v b)),.map (some g.m)],Res.row g.A g.l.length g.k 52 7 (g.l.map V.c),Res.im g.m]) w' a5;show WOK _ _ [RgB rb (g.cnt (sgn v b) v),RgW (g.cnt (sgn v b) v),Res.im (RG.m (g.cnt (sgn v b) v))] _;simp only[RG.cnt];rw[bY J6];exact h9⟩
theorem mC (rb:Nat) (g:RG) (w:World) (hw:W0 [RgB rb g,RgW g,Res.im g.m] w) : du Tryz.prog 103 [aG rb] w [RgB rb g,RgW g,Res.im g.m] (aH (g.l.length:Int)):=by
 refine Γ Tryz.func103 10 hw ?_;refine rn [1,3,0,8,1,2,50,0,20,12,7,1,2,6,4,5,47,3,0,11] ?_;exact dD rfl rfl fun w' a5=>⟨(),trivial,by first|rfl|(simp_all;done),zA w' a5⟩
theorem mH (rb:Nat) (g:RG) (w:World) (hw:W0 [RgB rb g,RgW g,Res.im g.m] w) : du Tryz.prog 48 [aG rb] w [RgB rb g,RgW g,Res.im g.m] (aJ g.a):=by
 refine Γ Tryz.func48 9 hw ?_;refine RC ?_;exact dD rfl rfl fun w' a5=>⟨(),trivial,by first|rfl|(simp_all;done),zA w' a5⟩
theorem uI (rb:Nat) (g:RG) (w:World) (hw:W0 [RgB rb g,RgW g,Res.im g.m] w) (hg:g.Rep):au (ι:=(bU × Nat)) Tryz.prog 47 [aG rb] w [RgB rb g,RgW g,Res.im g.m] (fun x=>True) (fun x=>.slice x.1 g.l.length x.2) (fun x=>[Res.row x.1 g.l.length x.2 52 7 (g.l.map V.c)]) (fun x=>[RgB rb g,RgW g,Res.im g.m]):=by
 refine Γ Tryz.func47 10 hw ?_;have q1:=hg.le;have q2:=hg.cp;refine rn [1,3,0,8,1,2,50,0,20,12,7,1,2,6,4,5] ?_;refine aa (zJ [] rfl (fun w1 a6 a8=>by have h7:=lK g.A (g.l.length) (g.k) (g.l) w1 (Rd.ofRow (A:=g.A) a6) aZ;exact h7) rfl ?_);rintro⟨A9,cap9⟩ _;refine ii (Rb ?_);exact dD rfl rfl fun w' a5=>⟨(A9,cap9),aQ,rfl,zA w' a5⟩
def V.z:V:=⟨0,0,false,0,0,0,0⟩
def ax (l:List V) (i:Int):Bool:=decide (0≤i∧i<l.length)
def ab (l:List V) (i:Int):V:=if 0≤i then(l[i.toNat]?).getD V.z else V.z
theorem yK {l:List V} {i:Nat} (h:i<l.length):ab l i=l[i]:=by simp[ab,h]
theorem wW {l:List V} {i:Int} (h:ax l i=false):ab l i=V.z:=by
 have h:=bX h;unfold ab;split
 ·rw[List.getElem?_eq_none aK];rfl
 rfl
theorem wB (rb:Nat) (g:RG) (i:Int) (w:World) (hw:W0 [RgB rb g,RgW g,Res.im g.m] w) : du Tryz.prog 110 [aG rb,aH i] w [RgB rb g,RgW g,Res.im g.m] (.tuple [(ab g.l i).v,.bool (ax g.l i)].toArray):=by
 refine Γ Tryz.func110 22 hw ?_;refine Ri ?_;refine aa (zK rfl fun b4=>rn [3,0,8,1,2,46,2] ?_);refine zS 8 rfl (fun h1=>?_) (fun h1=>?_)
 ·have K9:ax g.l i=false:=cY (fun hc=>by have h9:=bW h1;omega);refine rn [21,21,21,21,41,0,19,1,49,33,3,0,11,13] ?_;exact dH rfl (.cellw rfl rfl) (.tmp rfl) fun w' a5=>⟨(),trivial,by rw[wW K9,K9];rfl,zA w' a5⟩
 refine rn [22,2,22,2] ?_;refine ff rfl rfl (zN _ rfl (fun w1 a6 a8=>by exact mC rb g w1 a8) rfl ?_);refine rn [22,53,42,0] ?_;refine zB rfl (fun h2=>?_) (fun h2=>?_)
 ·have K9:ax g.l i=false:=cY (fun hc=>by have h9:=bW h2;omega);refine rn [1,49,33,3,0,11,13] ?_;exact dH rfl (.cellw rfl rfl) (.tmp rfl) fun w' a5=>⟨(),trivial,by rw[wW K9,K9];rfl,zA w' a5⟩
 obtain⟨ni,rfl⟩:∃q:Nat,i=q:=⟨i.toNat,by have h9:=bX h1;omega⟩
 have J7:ni<g.l.length:=by have h9:=bX h2;omega
 refine rn [12,7,1,2,6,4,5,2] ?_;refine s_q (zM (i:=ni) rfl rfl rfl (ird (A:=g.A)) aS) rfl ?_;refine s_q (zU (i:=ni) rfl (ird (A:=g.A)) (zP aT) rfl) rfl (rn [33,3,0,11] ?_);exact dH rfl (.cellw rfl rfl) (.tmp rfl) fun w' a5=>⟨(),trivial,by rw[yK J7,show ax g.l ni=true from cX aK];rfl,zA w' a5⟩
theorem wt (n:Nat) (w:World) (hn:1≤n∧n≤4096):au (ι:=(Nat × RG)) Tryz.prog 33 [aH (n:Int)] w [] (fun x=>x.2.Rep∧x.2.l=[]∧x.2.cp=n) (fun x=>.pointer (some ⟨x.1,0,none⟩)) (fun x=>[RgB x.1 x.2,RgW x.2,Res.im (RG.m x.2)]) (fun x=>[]):=by
 refine Γ Tryz.func33 13 (WOK.start (fps []) _) ?_;refine rn [1,3,0,8,1,2,46] ?_;refine zV 4 (b:=false) rfl aV (Na ?_);refine zV 7 (b:=false) rfl aV (SR ?_);refine aa (sM rfl fun t4=>?_);refine Et (b:=t4) ?_;refine s_q (yF (c:=[aI n,.slice none ([]:List V).length 0,aJ 0,aJ 0,.map (some t4)]) rfl rfl) rfl ?_;refine aa (aq rfl rfl rfl fun w7=>Rb ?_);refine zY none 52 7 (([]:List V).map V.c) rfl ?_;exact dD rfl rfl fun w' a5=>⟨(w7,(RG.mk n none 0 [] 0 0 t4)),(by(try dsimp only);exact⟨⟨by simp;omega,aM,aM,aM,by simp[dZ],aM⟩,rfl,rfl⟩),rfl,zA w' a5⟩
theorem pW:∀{l:List V},(∀x∈l,0≤x.bal)→∀{v:V},v∈l→v.bal≤(l.map V.bal).sum
 | [],_,v,hv=>by simp at hv
 | a :: l,h,v,hv=>by
  have h0:0≤(l.map V.bal).sum:=xH fun x hx=>by obtain⟨y,hy,rfl⟩:=cG.1 hx;exact h y (by simp[hy])
  have h1:=h a aM;rw[cV,dB];rcases cH.1 hv with rfl|hv
  ·omega
  have:=pW (l:=l) (fun y hy=>h y (by simp[hy])) hv;omega
theorem RG.set_rep {g:RG} (hg:g.Rep) {n:Nat} (hi:n<g.l.length) {v:V} (hv:v.ok) (hb:(g.l.map V.bal).sum-(g.l[n]).bal+v.bal≤18446744073709551615) :
  (RG.cnt { g.cnt (sgn g.l[n] false) g.l[n] with l:=g.l.set n v } (sgn v true) v).Rep:=by
 have hs:=po hi v;have ha:=DO hi v;have ho:=hg.ok _ (cC hi);have i6:okV g.l:=fun x hx=>(hg.ok x hx).bal;have hn0:0≤((g.l.set n v).map V.bal).sum:=xH fun x hx=>by
  obtain⟨y,hy,rfl⟩:=cG.1 hx;rcases List.mem_or_eq_of_mem_set hy with h|h
  ·exact(hg.ok y h).bal.1
  rw[h];exact hv.bal.1
 have hact:∀l:List V,(∀y∈l,0≤y.bal)→0≤dZ l∧dZ l≤(l.map V.bal).sum:=fun l=>by
  induction l with
  | nil=>intro _;simp[dZ]
  | cons y l ih =>
   intro h;have h1:=ih fun z hz=>h z (by simp[hz]);have h2:=h y aM;simp only[dZ,cV,dB];split<;>omega
 have ha1:=hact (g.l.set n v) fun y hy=>by
  rcases List.mem_or_eq_of_mem_set hy with h|h
  ·exact(hg.ok y h).bal.1
  rw[h];exact hv.bal.1
 have ha2:=hact g.l fun y hy=>(hg.ok y hy).bal.1;have hmx:=hg.mx;have K0:=ho.bal;have hb1:=hv.bal;refine⟨hg.cp,by simpa[RG.cnt] using hg.le,fun y hy=>?_,?_,?_,?_⟩
 ·rcases List.mem_or_eq_of_mem_set (show y∈g.l.set n v from hy) with h|h
  ·exact hg.ok y h
  rw[h];exact hv
 ·show IntKind.u64.wrap (IntKind.u64.wrap (g.t+sgn g.l[n] false)+sgn v true)=((g.l.set n v).map V.bal).sum;rw[hg.t,hs];simp only[sgn,cF,if_true,Bool.false_eq_true,if_false];omega
 ·show(if eX v then IntKind.u64.wrap ((if eX g.l[n] then IntKind.u64.wrap (g.a+sgn g.l[n] false) else g.a)+sgn v true) else(if eX g.l[n] then IntKind.u64.wrap (g.a+sgn g.l[n] false) else g.a))=dZ (g.l.set n v);rw[hg.a];simp only[sgn,cF,if_true,Bool.false_eq_true,if_false];split<;>split at ha<;>simp_all<;>omega
 show((g.l.set n v).map V.bal).sum≤_;rw[hs];exact hb
theorem RG.add_rep {g:RG} (hg:g.Rep) (hc:g.l.length<g.cp) {v:V} (hv:v.ok) (hb:(g.l.map V.bal).sum+v.bal≤18446744073709551615) {A:bU} {k:Nat}:(RG.cnt { g with A:=A,k:=k,l:=g.l++[v] } (sgn v true) v).Rep:=by
 have hact:∀l:List V,(∀y∈l,0≤y.bal)→0≤dZ l∧dZ l≤(l.map V.bal).sum:=fun l=>by
  induction l with
  | nil=>intro _;simp[dZ]
  | cons y l ih =>
   intro h;have h1:=ih fun z hz=>h z (by simp[hz]);have h2:=h y aM;simp only[dZ,cV,dB];split<;>omega
 have ha2:=hact g.l fun y hy=>(hg.ok y hy).bal.1;have hb1:=hv.bal;have hs0:0≤(g.l.map V.bal).sum:=by omega
 refine⟨hg.cp,by simp[RG.cnt];omega,fun y hy=>?_,?_,?_,?_⟩
 ·rcases cK.1 (show y∈g.l++[v] from hy) with h|h
  ·exact hg.ok y h
  simp at h;rw[h];exact hv
 ·show IntKind.u64.wrap (g.t+sgn v true)=((g.l++[v]).map V.bal).sum;rw[hg.t];simp only[sgn,cF,if_true,cA,List.sum_append,cV,List.map_nil,dB,List.sum_nil];omega
 ·show(if eX v then IntKind.u64.wrap (g.a+sgn v true) else g.a)=dZ (g.l++[v]);rw[hg.a,uQ];simp only[sgn,cF,if_true,dZ];split<;>omega
 show((g.l++[v]).map V.bal).sum≤_;simpa using hb
theorem wpx (rb:Nat) (g:RG) (i:Int) (v:V) (w:World) (hw:W0 [RgB rb g,RgW g,Res.im g.m] w) (hg:g.Rep) (hv:v.ok) (hb:∀n:Nat,i=n→(h:n<g.l.length)→(g.l.map V.bal).sum-(g.l[n]).bal+v.bal≤18446744073709551615):au (ι:=RG) Tryz.prog 176 [aG rb,aH i,.agg v.c.toArray] w [RgB rb g,RgW g,Res.im g.m] (fun x=>x.Rep∧x.l=(if ax g.l i=true then g.l.set i.toNat v else g.l)∧x.cp=g.cp) (fun x=>.int .i64 (if ax g.l i=true then 0 else 7)) (fun x=>[]) (fun x=>[RgB rb x,RgW x,Res.im x.m]):=by
 refine tX Tryz.func176 rfl 45 rfl aM (fps [RgB rb g,RgW g,Res.im g.m]) [RgB rb g,RgW g,Res.im g.m] hw _ rfl (Ri ?_);refine aa (aq rfl rfl rfl fun b5=>rn [3,0,8,1,2,50,0,20,12,7,1,2,2] ?_);refine aa (zN _ rfl (fun w1 a6 a8=>by exact wB rb g (i) w1 a8) rfl ?_);refine Sn ?_;refine aa (zK rfl fun b7=>rn [33,3,0,8,1,2,48,0] ?_);refine zB rfl (fun h1=>?_) (fun h1=>?_)
 ·have K9:ax g.l i=false:=by simpa using h1
  refine Re ?_;exact nB rfl (.tmp rfl) (fun w' a5 => ⟨g,(by exact⟨hg,by rw[K9];rfl,rfl⟩),by rw[K9];rfl,by have h9:=zG (L' := [RgB rb g,RgW g,Res.im g.m]) w' a5;exact h9⟩) _ (.inl rfl)
 have K9:ax g.l i=true:=by simpa using h1
 obtain⟨ni,rfl⟩:∃q:Nat,i=q:=⟨i.toNat,by have h9:=bW K9;omega⟩
 have J7:ni<g.l.length:=by have h9:=bW K9;omega
 replace hb:=hb ni rfl J7;have I9:ab g.l (ni:Int)=g.l[ni]:=yK J7;have ho:=(hg.ok _ (cC J7)).bal;have hvb:=hv.bal;have hle:(g.l[ni]).bal≤(g.l.map V.bal).sum:=pW (fun x hx=>(hg.ok x hx).bal.1) (cC J7);have hmx:=hg.mx;refine zF (b:=b7) (V.c (g.l[ni])) (by rw[I9]) (rn [12,7,8,8] ?_);refine bn [] an rfl (rn [23,0,4,23,1,5,23,2,2,23,3,6,23,4,4,23,5,5,23,6,4,23,7,5] ?_);refine dq 8 rfl (yN (z:=(g.l.map V.bal).sum-(g.l[ni]).bal) rfl rfl (by rw[hg.t,cF];omega)) ?_;refine dq 9 rfl (yN (z:=18446744073709551615-((g.l.map V.bal).sum-(g.l[ni]).bal)) rfl rfl (by rw[cF];omega)) (rn [23,10,55,27,7] ?_);refine zB rfl (fun h2=>?_) (fun h2=>?_)
 ·exfalso;have h9:=bW h2;omega
 refine rn [12,7,8,1,45,45] ?_;refine s_q (pz rfl rfl rfl) rfl (rn [0] ?_);refine zB rfl (fun h3=>?_) (fun h3=>?_)
 ·have J8:v=g.l[ni]:=(V.ext_iff' _ _).2 (by simpa using h3);refine Re ?_;exact nB rfl (.tmp rfl) (fun w' a5 => ⟨g,(by exact⟨hg,by rw[bZ K9,Int.toNat_natCast,J8,List.set_getElem_self],rfl⟩),by rw[bZ K9],by have h9:=zG (L' := [RgB rb g,RgW g,Res.im g.m]) w' a5;exact h9⟩) _ (.inl rfl)
 refine rn [12,7,1,2,45] ?_;refine aa (ky (fst:=[]) (cap:=[]) rfl rfl (rn [0,1,2,45] ?_));refine aa (zJ _ rfl (fun w1 a6 a8=>by have h7:=ud rb g (g.l[ni]) false w1 a8 (hg.ok _ (cC J7));exact h7) rfl ?_);rintro⟨⟩ _;refine ii (Sw ?_);refine bn [7] an rfl (rn [23,0,2,23,1,6,23,2,4,23,3,5,23,4,2,23,5,45] ?_);refine dq 6 rfl (zM (i:=ni) rfl rfl rfl (InRow.rdb (A:=(RG.A (RG.cnt g (sgn g.l[ni] false) g.l[ni]))) (els:=((RG.l (RG.cnt g (sgn g.l[ni] false) g.l[ni]))).map V.c) (by first|rfl|assumption|(simp;done)|(simp_all;done)|(simp;omega)|(simp_all;omega)) (yA (c:=V.c) (fun _=>rfl) _)) (by first|exact J7|omega)) ?_;refine dop 7 rfl (yD (A:=(RG.A (RG.cnt g (sgn g.l[ni] false) g.l[ni]))) (i:=ni) (o:=0) (cs' := V.c (v)) rfl rfl rfl rfl rfl (zP aT) aY rfl (yH rfl) ?_);refine zC (A:=(RG.A (RG.cnt g (sgn g.l[ni] false) g.l[ni]))) (((RG.l (RG.cnt g (sgn g.l[ni] false) g.l[ni])).set ni v).map V.c) (by simp only[dA]) (rn [28,7,1,3,0,11] ?_);refine yB (L' := [Res.blk b7 52 (V.c (g.l[ni])),Res.blk b5 52 v.c,RgB rb (RG.mk g.cp g.A g.k (g.l.set ni v) (RG.a (RG.cnt g (sgn (g.l[ni]) false) (g.l[ni]))) (RG.t (RG.cnt g (sgn (g.l[ni]) false) (g.l[ni]))) g.m),RgW (RG.mk g.cp g.A g.k (g.l.set ni v) (RG.a (RG.cnt g (sgn (g.l[ni]) false) (g.l[ni]))) (RG.t (RG.cnt g (sgn (g.l[ni]) false) (g.l[ni]))) g.m),Res.im (RG.m (RG.mk g.cp g.A g.k (g.l.set ni v) (RG.a (RG.cnt g (sgn (g.l[ni]) false) (g.l[ni]))) (RG.t (RG.cnt g (sgn (g.l[ni]) false) (g.l[ni]))) g.m))]) (by simp only[RgB,RgW,List.length_set,RG.cnt]) ?_;refine GI [RgB rb (RG.mk g.cp g.A g.k (g.l.set ni v) (RG.a (RG.cnt g (sgn (g.l[ni]) false) (g.l[ni]))) (RG.t (RG.cnt g (sgn (g.l[ni]) false) (g.l[ni]))) g.m),RgW (RG.mk g.cp g.A g.k (g.l.set ni v) (RG.a (RG.cnt g (sgn (g.l[ni]) false) (g.l[ni]))) (RG.t (RG.cnt g (sgn (g.l[ni]) false) (g.l[ni]))) g.m),Res.im (RG.m (RG.mk g.cp g.A g.k (g.l.set ni v) (RG.a (RG.cnt g (sgn (g.l[ni]) false) (g.l[ni]))) (RG.t (RG.cnt g (sgn (g.l[ni]) false) (g.l[ni]))) g.m))] (fun w1 a6 a8=>by have h7:=jA rb (RG.mk g.cp g.A g.k (g.l.set ni v) (RG.a (RG.cnt g (sgn (g.l[ni]) false) (g.l[ni]))) (RG.t (RG.cnt g (sgn (g.l[ni]) false) (g.l[ni]))) g.m) (v) true w1 a8 hv;exact h7) ?_ _ (.inl rfl);rintro⟨⟩ _;refine⟨_,_,inferInstance,inferInstance,?_⟩;exact nB rfl (.tmp rfl) (fun w' a5 => ⟨(RG.cnt (RG.mk g.cp g.A g.k (g.l.set ni v) (RG.a (RG.cnt g (sgn (g.l[ni]) false) (g.l[ni]))) (RG.t (RG.cnt g (sgn (g.l[ni]) false) (g.l[ni]))) g.m) (sgn v true) v),⟨RG.set_rep hg J7 hv hb,by rw[bZ K9];rfl,rfl⟩,by rw[bZ K9],by have h9:=zG (L' := [RgB rb (RG.cnt (RG.mk g.cp g.A g.k (g.l.set ni v) (RG.a (RG.cnt g (sgn (g.l[ni]) false) (g.l[ni]))) (RG.t (RG.cnt g (sgn (g.l[ni]) false) (g.l[ni]))) g.m) (sgn v true) v),RgW (RG.cnt (RG.mk g.cp g.A g.k (g.l.set ni v) (RG.a (RG.cnt g (sgn (g.l[ni]) false) (g.l[ni]))) (RG.t (RG.cnt g (sgn (g.l[ni]) false) (g.l[ni]))) g.m) (sgn v true) v),Res.im (RG.m (RG.cnt (RG.mk g.cp g.A g.k (g.l.set ni v) (RG.a (RG.cnt g (sgn (g.l[ni]) false) (g.l[ni]))) (RG.t (RG.cnt g (sgn (g.l[ni]) false) (g.l[ni]))) g.m) (sgn v true) v))]) w' a5;exact h9⟩)
end Go.Proofs.YtdddiilocbbkkaaGreat
