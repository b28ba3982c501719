/- TopModel, part 10. No condition. -/
import Derived.Test.YtdddiilocbbkkaaGreatTN7
import Derived.Test.YtdddiilocbbkkaaGreatTN8
set_option linter.unusedVariables false
set_option linter.unusedSimpArgs false
namespace Go.Proofs.YtdddiilocbbkkaaGreat
open Go.RowKit Go.Eg
set_option maxHeartbeats 4000000
set_option synthInstance.maxSize 3000
set_option maxRecDepth 100000
def cv (ep:Int) (l:List En):List Int:=(l.filter fun x=>decide (x.e=ep)).map En.i
def cu (ep:Int) (l:List En):List En:=l.filter fun x => !decide (x.e=ep)
theorem nF (ep:Int) (a b:List En):cv ep (a++b)=cv ep a++cv ep b:=by simp[cv]
theorem jz (ep:Int) (a b:List En):cu ep (a++b)=cu ep a++cu ep b:=by simp[cu]
theorem nE {ep:Int} {y:En} (h:y.e=ep):cv ep [y]=[y.i]:=by simp[cv,h]
theorem rj {ep:Int} {y:En} (h:¬y.e=ep):cv ep [y]=[]:=by simp[cv,h]
theorem pC {ep:Int} {y:En} (h:y.e=ep):cu ep [y]=[]:=by simp[cu,h]
theorem mj {ep:Int} {y:En} (h:¬y.e=ep):cu ep [y]=[y]:=by simp[cu,h]
theorem lH (ep:Int) (l:List En):(cv ep l).length≤l.length:=by simpa[cv] using List.length_filter_le _ l
theorem iv (ep:Int):∀l:List En,(cv ep l).length+(cu ep l).length=l.length
 | []=>rfl
 | y :: l=>by
  have ih:=iv ep l;have e1:=nF ep [y] l;have e2:=jz ep [y] l;simp only[List.singleton_append] at e1 e2;rw[e1,e2];by_cases h:y.e=ep
  ·rw[nE h,pC h];simp;omega
  rw[rj h,mj h];simp;omega
theorem tw {ep:Int} {l:List En} (h:∀y∈l,¬y.e=ep):cv ep l=[]:=by
 unfold cv;rw[List.filter_eq_nil_iff.2 fun y hy=>by simp[h y hy]];rfl
theorem uM {ep:Int} {l:List En} (h:∀y∈l,¬y.e=ep):cu ep l=l:=List.filter_eq_self.2 fun y hy=>by simp[h y hy]
theorem sN (ep:Int) {l:List En} {j:Nat} (h:j<l.length):cv ep (l.take j)++cv ep [l[j]]=cv ep (l.take (j+1)):=by rw[←nF,cB h]
theorem rJ (ep:Int) {l:List En} {j:Nat} (h:j<l.length):cu ep (l.take (j+1))=cu ep (l.take j)++cu ep [l[j]]:=by rw[←jz,cB h]
theorem nI {ep:Int} {s l:List En} {i j:Nat} (T4:i<j) (hs:j<s.length) (hj:j<l.length) (C6:s.take i=cu ep (l.take j)) (F3:s.drop j=l.drop j) (h0:¬s[j].e=ep) :
  (s.set i s[j]).take (i+1)=cu ep (l.take (j+1))∧(s.set i s[j]).drop (j+1)=l.drop (j+1):=by
 obtain⟨h1,h2⟩:=uP F3 hs hj;constructor
 ·rw[rJ ep hj,←h1,mj h0,←C6,List.set_eq_take_append_cons_drop,bZ aK,show s.take i++s[j] :: s.drop (i+1)=(s.take i++[s[j]])++s.drop (i+1) by simp];exact List.take_left' aV
 rw[List.drop_set_of_lt aK];exact h2
theorem nJ {ep:Int} {s l:List En} {i j:Nat} (hs:j<s.length) (hj:j<l.length) (C6:s.take i=cu ep (l.take j)) (F3:s.drop j=l.drop j) (h0:s[j].e=ep):s.take i=cu ep (l.take (j+1))∧s.drop (j+1)=l.drop (j+1):=by
 obtain⟨h1,h2⟩:=uP F3 hs hj;exact⟨by rw[rJ ep hj,←h1,pC h0,cZ];exact C6,h2⟩
theorem AK {ep:Int} {l:List En} {i:Nat} (hi:i<l.length) (hp:∀y∈l.take i,¬y.e=ep) (ha:(l[i]?.map En.e)=some ep):l.take i=cu ep (l.take (i+1)):=by
 have h0:l[i].e=ep:=by rw[List.getElem?_eq_getElem hi] at ha;simpa using ha
 rw[rJ ep hi,pC h0,cZ];exact(uM hp).symm
theorem lO {bs:List (Bk En)} {i:Nat} {A:bU} {c:Nat} {els:List En} (h:bs[i]?=some ⟨A,c,els⟩):(bs.map fun k:Bk En=>[k.v])[i]?=some [dC A els.length c]:=by
 rw[List.getElem?_map,h];rfl
theorem nG (eb ob:Nat) (ep:Int) (A:bU) (cap:Nat) (o:List Int) (y:En) (w:World) (hw:W0 [Res.blk eb 3 [aH (ep)],Res.blk ob 38 [dC A (o).length cap],Res.row A (o).length cap 3 1 ((o).map aC)] w) (hob:o.length≤1000000):au (ι:=(bU × Nat)) Tryz.prog 275 [.agg y.c.toArray,aG eb,aG ob] w [Res.blk eb 3 [aH (ep)],Res.blk ob 38 [dC A (o).length cap],Res.row A (o).length cap 3 1 ((o).map aC)] (fun x=>True) (fun x=>.bool (decide (y.e=ep))) (fun x=>[]) (fun x=>[Res.blk eb 3 [aH (ep)],Res.blk ob 38 [dC x.1 ((o++cv ep [y])).length x.2],Res.row x.1 ((o++cv ep [y])).length x.2 3 1 (((o++cv ep [y])).map aC)]):=by
 refine Γ Tryz.func275 14 hw ?_;refine Ri ?_;refine aa (aq rfl rfl rfl fun b3=>rn [3,0,8,1,4,5,5,51,0] ?_);refine zB rfl (fun h1=>?_) (fun h1=>?_)
 ·have B7:¬y.e=ep:=by simpa using h1
  refine Re ?_;exact dD rfl rfl fun w' a5=>⟨(A,cap),aQ,by rw[cY B7],by have h9:=zG (L' := [Res.blk eb 3 [aH (ep)],Res.blk ob 38 [dC A (o).length cap],Res.row A (o).length cap 3 1 ((o).map aC)]) w' a5;show WOK _ _ [Res.blk eb 3 [aH (ep)],Res.blk ob 38 [dC ((A,cap)).1 ((o++cv ep [y])).length ((A,cap)).2],Res.row ((A,cap)).1 ((o++cv ep [y])).length ((A,cap)).2 3 1 (((o++cv ep [y])).map aC)] _;simp only[rj B7,cZ];exact h9⟩
 have J8:y.e=ep:=by simpa using h1
 refine rn [12,7,1,5,4,5] ?_;refine aa (bg rfl rfl rfl rfl rfl fun w7=>?_);refine zF (b:=w7) ((([(y).i]:List Int).map aC).flatten) rfl ?_;refine aa (zW (A:=A) (els:=(o).map aC) (news:=(([(y).i]:List Int).map aC)) rfl rfl (InL.rdb (b:=w7) rfl aM rfl) (zZ (c:=aC) (by intro x;simp[Value.oneCell']) _) aK rfl fun A13 p8=>⟨_,inferInstance,?_⟩);refine zC (A:=A13) (((o++[(y).i])).map aC) (by first|rfl|exact cA.symm|(simp;done)) ?_;refine aa (zI rfl rfl rfl rfl rfl rfl rfl ?_);refine zR (A:=A13) (o++[y.i]).length aM ?_;refine zF (b:=ob) [dC A13 (o++[y.i]).length p8] (by simp[ay]) (RA ?_);exact dD rfl rfl fun w' a5=>⟨(A13,p8),aQ,by rw[cX J8],by have h9:=zG (L' := [Res.blk eb 3 [aH (ep)],Res.blk ob 38 [dC A13 ((o++[y.i])).length p8],Res.row A13 ((o++[y.i])).length p8 3 1 (((o++[y.i])).map aC)]) w' a5;show WOK _ _ [Res.blk eb 3 [aH (ep)],Res.blk ob 38 [dC ((A13,p8)).1 ((o++cv ep [y])).length ((A13,p8)).2],Res.row ((A13,p8)).1 ((o++cv ep [y])).length ((A13,p8)).2 3 1 (((o++cv ep [y])).map aC)] _;simp only[nE J8];exact h9⟩
theorem tt (eb ob:Nat) (ep:Int) (O:bU) (oc:Nat) (o:List Int) (A:bU) (n cap:Nat) (l:List En) (w:World) (hw:W0 [Res.row A n cap 297 2 ((l).map En.c),Res.blk eb 3 [aH (ep)],Res.blk ob 38 [dC O (o).length oc],Res.row O (o).length oc 3 1 ((o).map aC)] w) (hn:n=l.length) (j5:o.length+n≤1000000):au (ι:=(Int × bU × Nat × List Int)) Tryz.prog 314 [.slice A n cap,.func (.func 275) #[] [aG eb,aG ob].toArray] w [Res.row A n cap 297 2 ((l).map En.c),Res.blk eb 3 [aH (ep)],Res.blk ob 38 [dC O (o).length oc],Res.row O (o).length oc 3 1 ((o).map aC)] (fun x=>((x.1=-1∧(∀y∈l,¬y.e=ep))∧x.2.2.2=o++cv ep l)∨(∃k:Nat,x.1=k∧k<l.length∧(∀y∈l.take k,¬y.e=ep)∧(l[k]?.map En.e)=some ep∧x.2.2.2=o++cv ep (l.take (k+1)))) (fun x=>.int .i64 x.1) (fun x=>[]) (fun x=>[Res.row A n cap 297 2 ((l).map En.c),Res.blk eb 3 [aH (ep)],Res.blk ob 38 [dC x.2.1 (x.2.2.2).length x.2.2.1],Res.row x.2.1 (x.2.2.2).length x.2.2.1 3 1 ((x.2.2.2).map aC)]):=by
 refine Γ Tryz.func314 19 hw ?_;refine rn [1,3,0,8,1,2,47,2,0,14] ?_;refine dP [0,1,4,7] (fun(x:Nat × bU × Nat × List Int)=>[(8,aI x.1)]) (fun(x:Nat × bU × Nat × List Int)=>[Res.row A n cap 297 2 ((l).map En.c),Res.blk eb 3 [aH (ep)],Res.blk ob 38 [dC x.2.1 (x.2.2.2).length x.2.2.1],Res.row x.2.1 (x.2.2.2).length x.2.2.1 3 1 ((x.2.2.2).map aC)]) (fun(x:Nat × bU × Nat × List Int)=>x.1≤l.length∧x.2.2.2=o++cv ep (l.take x.1)∧(∀y∈l.take x.1,¬y.e=ep)) (fun(x:Nat × bU × Nat × List Int)=>l.length-x.1) (0,O,oc,o) (by(try dsimp only);exact⟨cN _,(by simp[cv]),aM⟩) ?_;rintro⟨k,O1,w6,o1⟩ ⟨f6,ho,hz⟩;replace f6:k≤l.length:=f6;replace ho:o1=o++cv ep (l.take k):=ho;replace hz:∀y∈l.take k,¬y.e=ep:=hz;refine yB (L' := [Res.row A n cap 297 2 ((l).map En.c),Res.blk eb 3 [aH (ep)],Res.blk ob 38 [dC O1 (o1).length w6],Res.row O1 (o1).length w6 3 1 ((o1).map aC)]) rfl ?_;refine ae 8 (v' := aI k) rfl rfl (Rj ?_);refine zB rfl (fun h1=>?_) (fun h1=>?_)
 ·have f8:k<l.length:=by have h9:=bW h1;omega
  refine rn [12,7,8,14,1,2,3,0,1,2,2,2] ?_;refine s_q (zM (i:=k) rfl rfl rfl (InRow.rdb (A:=A) (els:=l.map En.c) (by simpa using hn) (yA (c:=En.c) (fun _=>rfl) _)) aN) rfl ?_;refine s_q (zU (i:=k) rfl (InRow.rdb (A:=A) (els:=l.map En.c) (by simpa using hn) (yA (c:=En.c) (fun _=>rfl) _)) (zP aX) rfl) rfl ?_;refine aa (xV [Res.blk eb 3 [aH (ep)],Res.blk ob 38 [dC O1 (o1).length w6],Res.row O1 (o1).length w6 3 1 ((o1).map aC)] rfl rfl (fun w1 a6 a8=>by have h7:=nG eb ob ep O1 w6 o1 (l[k]) w1 a8 (by rw[ho];have h9:=lH ep (l.take k);simp at h9 ⊢;omega);exact h7) rfl ?_);rintro⟨O16,oc16⟩ _;refine ii (rn [0] ?_);refine zB rfl (fun h2=>?_) (fun h2=>?_)
  ·have J8:l[k].e=ep:=by simpa using h2
   refine rn [1,2,3,0,11] ?_;refine zL (zD (zD (zL (zD ?_))));exact dD rfl rfl fun w' a5=>⟨(((k:Nat):Int),O16,oc16,(o1++cv ep [l[k]])),(by(try dsimp only);exact .inr ⟨k,rfl,f8,hz,by rw[List.getElem?_eq_getElem f8];simp[J8],by rw[ho,cJ,sN ep f8]⟩),rfl,zA w' a5⟩
  have B7:¬l[k].e=ep:=by simpa using h2
  refine RK ?_;exact cr ((k+1),O16,oc16,(o1++cv ep [l[k]])) (by(try dsimp only);exact⟨aN,(by rw[ho,cJ,sN ep f8]),(by rw[←cB f8];intro y hy;rcases cK.1 hy with h|h;exact hz y h;simp at h;subst h;exact B7)⟩)
 have f9:k=l.length:=by have h9:=bX h1;omega
 refine Ru ?_;refine zE (zE (zQ (So ?_)));exact dD rfl rfl fun w' a5=>⟨((-1:Int),O1,w6,o1),(by(try dsimp only);exact .inl ⟨⟨rfl,by rw[f9,cI] at hz;exact hz⟩,by rw[ho,f9,cI]⟩),rfl,zA w' a5⟩
theorem oX (eb ob:Nat) (ep:Int) (O:bU) (oc:Nat) (o:List Int) (A:bU) (n cap:Nat) (l:List En) (w:World) (hw:W0 [Res.row A n cap 297 2 ((l).map En.c),Res.blk eb 3 [aH (ep)],Res.blk ob 38 [dC O (o).length oc],Res.row O (o).length oc 3 1 ((o).map aC)] w) (hn:n=l.length) (j5:o.length+n≤1000000):au (ι:=(bU × Nat × bU × Nat)) Tryz.prog 274 [.slice A n cap,.func (.func 275) #[] [aG eb,aG ob].toArray] w [Res.row A n cap 297 2 ((l).map En.c),Res.blk eb 3 [aH (ep)],Res.blk ob 38 [dC O (o).length oc],Res.row O (o).length oc 3 1 ((o).map aC)] (fun x=>True) (fun x=>.slice x.1 (cu ep l).length x.2.1) (fun x=>[]) (fun x=>[Res.row x.1 (cu ep l).length x.2.1 297 2 (((cu ep l)).map En.c),Res.blk eb 3 [aH (ep)],Res.blk ob 38 [dC x.2.2.1 ((o++cv ep l)).length x.2.2.2],Res.row x.2.2.1 ((o++cv ep l)).length x.2.2.2 3 1 (((o++cv ep l)).map aC)]):=by
 refine Γ Tryz.func274 42 hw ?_;refine Sf ?_;refine aa (zJ _ rfl (fun w1 a6 a8=>by have h7:=tt eb ob ep O oc o A (n) (cap) (l) w1 a8 bN aK;exact h7) rfl ?_);rintro⟨z,O10,oc10,o10⟩ hz;refine ii ?_;simp only at hz;refine rn [3,0,8,1,2,44,0] ?_;refine zB rfl (fun h1=>?_) (fun h1=>?_)
 ·obtain⟨F4,ho10⟩:(∀y∈l,¬y.e=ep)∧o10=o++cv ep l:=by
    rcases hz with h|⟨k,hk,_⟩
    · exact⟨h.1.2,h.2⟩
    · exfalso;rw[hk] at h1;have h9:=bW h1;omega
  refine rn [1,2,3,0,11,13] ?_;subst ho10;refine zR (A:=A) (cu ep l).length (by rw[uM F4,hn]) ?_;refine zC (A:=A) ((cu ep l).map En.c) (by rw[uM F4]) ?_;exact dD rfl rfl fun w' a5=>⟨(A,cap,O10,oc10),aQ,by rw[uM F4,hn],zA w' a5⟩
 obtain⟨i,rfl,hi,hpre,ha,ho10⟩:∃k:Nat,z=k∧k<l.length∧(∀y∈l.take k,¬y.e=ep)∧(l[k]?.map En.e)=some ep∧o10=o++cv ep (l.take (k+1)):=by
   rcases hz with h|h
   · exact absurd h.1.1 (by simpa using h1)
   · exact h
 refine rn [12,7,8,1,2,43,3,0,14] ?_;refine dP [0,1,4] (fun(x:Nat × Nat × List En × bU × Nat × List Int)=>[(5,aI x.1),(6,aI x.2.1)]) (fun(x:Nat × Nat × List En × bU × Nat × List Int)=>[Res.row A n cap 297 2 ((x.2.2.1).map En.c),Res.blk eb 3 [aH (ep)],Res.blk ob 38 [dC x.2.2.2.1 (x.2.2.2.2.2).length x.2.2.2.2.1],Res.row x.2.2.2.1 (x.2.2.2.2.2).length x.2.2.2.2.1 3 1 ((x.2.2.2.2.2).map aC)]) (fun(x:Nat × Nat × List En × bU × Nat × List Int)=>x.1<x.2.1∧x.2.1≤l.length∧(x.2.2.1).length=l.length∧(x.2.2.1).take x.1=cu ep (l.take x.2.1)∧(x.2.2.1).drop x.2.1=l.drop x.2.1∧x.2.2.2.2.2=o++cv ep (l.take x.2.1)) (fun(x:Nat × Nat × List En × bU × Nat × List Int)=>l.length-x.2.1) (i,(i+1),l,O10,oc10,o10) (by(try dsimp only);exact⟨aK,aK,rfl,(AK hi hpre ha),rfl,ho10⟩) ?_;rintro⟨i1,j,s1,O1,w6,o1⟩ ⟨T4,hjn,hls,C6,F3,ho⟩;replace T4:i1<j:=T4;replace hjn:j≤l.length:=hjn;replace hls:(s1).length=l.length:=hls;replace C6:(s1).take i1=cu ep (l.take j):=C6;replace F3:(s1).drop j=l.drop j:=F3;replace ho:o1=o++cv ep (l.take j):=ho;refine yB (L' := [Res.row A n cap 297 2 ((s1).map En.c),Res.blk eb 3 [aH (ep)],Res.blk ob 38 [dC O1 (o1).length w6],Res.row O1 (o1).length w6 3 1 ((o1).map aC)]) rfl ?_;refine ae 5 (v' := aI i1) rfl rfl ?_;refine ae 6 (v' := aI j) rfl rfl (Rw ?_);refine zB rfl (fun h2=>?_) (fun h2=>?_)
 ·have B5:j<l.length:=by have h9:=bW h2;omega
  have E9:j<s1.length:=by omega
  refine SV ?_;refine s_q (zM (i:=j) rfl rfl rfl (ird (A:=A)) aS) rfl ?_;refine s_q (zU (i:=j) rfl (ird (A:=A)) (zP aT) rfl) rfl ?_;refine aa (zK rfl fun b7=>rn [33,0,1,2,45] ?_);refine aa (xV [Res.blk eb 3 [aH (ep)],Res.blk ob 38 [dC O1 (o1).length w6],Res.row O1 (o1).length w6 3 1 ((o1).map aC)] rfl rfl (fun w1 a6 a8=>by have h7:=nG eb ob ep O1 w6 o1 ((s1)[j]) w1 a8 (by rw[ho];have h9:=lH ep (l.take j);simp at h9 ⊢;omega);exact h7) rfl ?_);rintro⟨O28,oc28⟩ _;refine ii (rn [48,0] ?_);refine zB rfl (fun h3=>?_) (fun h3=>?_)
  ·have B7:¬s1[j].e=ep:=by simpa using h3
   refine rn [1,2,2,45] ?_;refine s_q (zM (i:=i1) rfl rfl rfl (ird (A:=A)) aS) rfl ?_;refine aa (yD (A:=A) (i:=i1) (o:=0) (cs' := En.c ((s1[j]))) rfl rfl rfl rfl rfl (zP aT) aY rfl (yH rfl) ?_);refine zC (A:=A) ((s1.set i1 (s1[j])).map En.c) (by simp only[dA]) (rn [0,10,2,43,3,9,15,7,10,2,43,3,9] ?_);exact xX ((i1+1),(j+1),(s1.set i1 s1[j]),O28,oc28,(o1++cv ep [(s1)[j]])) (by(try dsimp only);exact⟨aK,aK,(by simpa using hls),(nI T4 E9 B5 C6 F3 B7).1,(nI T4 E9 B5 C6 F3 B7).2,(by rw[ho,cJ,(uP F3 E9 B5).1,sN ep B5])⟩) bK (by repeat(first|exact trivial|refine⟨rfl,?_⟩)) zG
  have J8:s1[j].e=ep:=by simpa using h3
  refine RP ?_;exact xX (i1,(j+1),s1,O28,oc28,(o1++cv ep [(s1)[j]])) (by(try dsimp only);exact⟨aK,aK,hls,(nJ E9 B5 C6 F3 J8).1,(nJ E9 B5 C6 F3 J8).2,(by rw[ho,cJ,(uP F3 E9 B5).1,sN ep B5])⟩) bK (by repeat(first|exact trivial|refine⟨rfl,?_⟩)) zG
 have W1:j=l.length:=by have h9:=bX h2;omega
 rw[W1,cI] at C6 ho;have J7:i1=(cu ep l).length:=by have h9:=congrArg List.length C6;simp at h9;omega
 have hlt:i1<n:=by omega
 refine Ru ?_;refine zE (zE (zQ (rn [7,1] ?_)));refine AS A aK fun⟨hA,hA0⟩ hle hcm=>rn [2,2] ?_;refine s_q (xB (l:=i1) rfl rfl rfl aK) rfl ?_;refine aa (qw (A:=A) (l:=i1) (n:=n) (els:=s1.map En.c) rfl (fun h0=>ppx hA aK) aK (by simp[Value.oneCell']) ?_);refine SE ?_;refine s_q (xC (h:=i1) rfl rfl rfl aK) rfl (Rb ?_);refine sL (A:=A) i1 (cu ep l).length ((cu ep l).map En.c) aK J7 (by rw[cJ,List.take_append_of_le_length aV,List.take_take,Nat.min_self,←List.map_take,C6]) ?_;subst ho;exact dD rfl rfl fun w' a5=>⟨(cz A cap 0 2,cap,O1,w6),aQ,by rw[J7],zA w' a5⟩
structure BR where
 n:Int
 A:bU
 cap:Nat
 bs:List (Bk En)
def fH (e:Int):Bool:=decide (0≤e∧e≤1099511627776)
structure BR.Rep (g:BR) (es:List En):Prop where
 pos:0<g.bs.length
 le:g.bs.length≤4096
 n:g.n=es.length
 bk:∀(i:Nat) (k:Bk En),g.bs[i]?=some k→k.els=es.filter fun x=>decide (x.e%(g.bs.length:Int)=i)
 ok:∀x∈es,0≤x.e∧x.e≤1099511627776
def fP (es:List En) (e i:Int):List En:=if fH e=true then es++[⟨e,i⟩] else es
theorem BR.Rep.init {n:Nat} {A:bU} {c:Nat} (h:1≤n∧n≤4096):(BR.mk 0 A c (List.replicate n ⟨none,0,[]⟩)).Rep [] :=
 ⟨by simp;omega,by simp;omega,rfl,fun i k hk=>by
  have:=List.mem_of_getElem? hk;rw[List.eq_of_mem_replicate this];rfl,aM⟩
theorem BR.Rep.mod {g:BR} {es:List En} (h:g.Rep es) (k:Nat):k%g.bs.length<g.bs.length:=cW _ h.pos
theorem BR.Rep.at_ {g:BR} {es:List En} (h:g.Rep es) (k:Nat):∃A c els,g.bs[k%g.bs.length]?=some ⟨A,c,els⟩:=⟨_,_,_,List.getElem?_eq_getElem (h.mod k)⟩
theorem jF (k m:Nat):((k:Int)%(m:Int))=((k%m:Nat):Int):=rfl
theorem BR.Rep.put {g:BR} {es:List En} (h:g.Rep es) {k:Nat} (hk:k≤1099511627776) {A A' : bU} {c c' : Nat} {els:List En} (hb:g.bs[k%g.bs.length]?=some ⟨A,c,els⟩) (it:Int) :
  (BR.mk (g.n+1) g.A g.cap (g.bs.set (k%g.bs.length) ⟨A',c',els++[⟨k,it⟩]⟩)).Rep (es++[⟨k,it⟩]):=by
 refine⟨by simpa using h.pos,by simpa using h.le,by simp[h.n],fun i q hq=>?_,fun x hx=>?_⟩
 ·simp only[List.length_set] at hq ⊢;rw[List.getElem?_set] at hq;rw[List.filter_append];split at hq
  ·rename_i hi;subst hi;rw[bZ (h.mod k)] at hq;simp only[Option.some.injEq] at hq;subst hq;have h1:=h.bk _ _ hb;simp only at h1;show els++_=_;have hd:decide ((k:Int)%(g.bs.length:Int)=((k%g.bs.length:Nat):Int))=true:=cX rfl;rw[←h1,List.filter_cons,bZ hd,List.filter_nil]
  rename_i hi;rw[h.bk _ _ hq];have:¬((k:Int)%(g.bs.length:Int)=(i:Int)):=fun hc=>hi (by rw[jF] at hc;omega);simp[this]
 rcases cK.1 hx with hx|hx
 ·exact h.ok x hx
 simp at hx;subst hx;exact⟨aM,by show(k:Int)≤_;omega⟩
theorem oU {k:Int} {m:Int} (es:List En):cv k (es.filter fun x=>decide (x.e%m=k%m))=cv k es:=by
 unfold cv;rw[List.filter_filter]
 congr 1
 refine List.filter_congr fun x _=>?_;by_cases hx:x.e=k
 ·simp[hx]
 simp[hx]
theorem BR.Rep.due {g:BR} {es:List En} (h:g.Rep es) {k:Nat} {A A' : bU} {c c' : Nat} {els:List En} (hb:g.bs[k%g.bs.length]?=some ⟨A,c,els⟩) :
  (BR.mk ((cu k es).length:Nat) g.A g.cap (g.bs.set (k%g.bs.length) ⟨A',c',cu k els⟩)).Rep (cu k es):=by
 refine⟨by simpa using h.pos,by simpa using h.le,rfl,fun i q hq=>?_,fun x hx=>h.ok x (List.mem_filter.1 hx).1⟩;simp only[List.length_set] at hq ⊢;rw[List.getElem?_set] at hq;split at hq
 ·rename_i hi;subst hi;rw[bZ (h.mod k)] at hq;simp only[Option.some.injEq] at hq;subst hq;show cu k els=_;have h1:=h.bk _ _ hb;simp only at h1;rw[h1];unfold cu;rw[List.filter_filter,List.filter_filter];exact List.filter_congr fun x _=>Bool.and_comm _ _
 rename_i hi;rw[h.bk _ _ hq];unfold cu;rw[List.filter_filter];refine List.filter_congr fun x _=>?_;by_cases hx:x.e=(k:Int)
 ·have:¬((k:Int)%(g.bs.length:Int)=(i:Int)):=fun hc=>hi (by rw[jF] at hc;omega);simp[hx,this]
 simp[hx]
theorem BR.Rep.dueEq {g:BR} {es:List En} (h:g.Rep es) {k:Nat} {A:bU} {c:Nat} {els:List En} (hb:g.bs[k%g.bs.length]?=some ⟨A,c,els⟩):cv k els=cv k es:=by
 have h1:=h.bk _ _ hb;simp only at h1;rw[h1,←jF];exact oU es
theorem BR.Rep.out {g:BR} {es:List En} (h:g.Rep es) {e:Int} (he:¬fH e=true):cu e es=es∧cv e es=[]:=by
 have h0:∀y∈es,¬y.e=e:=fun y hy hc=>he (by have:=h.ok y hy;subst hc;exact cX this);exact⟨uM h0,tw h0⟩
abbrev bB_ (b:Nat) (g:BR):Res:=Res.blk b 178 [dC g.A g.bs.length g.cap,aH g.n]
abbrev bW_ (g:BR):Res:=Res.row g.A g.bs.length g.cap 295 1 (g.bs.map (fun k:Bk En=>[k.v]))
abbrev bK_ (g:BR):Res:=bks 297 2 En.c g.bs
theorem Ao (n:Nat) (w:World) (hn:1≤n∧n≤4096):au (ι:=(Nat × BR)) Tryz.prog 36 [aH (n:Int)] w [] (fun x=>x.2.Rep []∧x.2.bs.length=n) (fun x=>.pointer (some ⟨x.1,0,none⟩)) (fun x=>[bB_ x.1 x.2,bW_ x.2,bK_ x.2]) (fun x=>[]):=by
 refine Γ Tryz.func36 13 (WOK.start (fps []) _) ?_;refine rn [1,3,0,8,1,2,46] ?_;refine zV 4 (b:=false) rfl aV (Na ?_);refine zV 7 (b:=false) rfl aV (SR ?_);refine aa (pD (n:=n) rfl rfl rfl rfl aK rfl fun g10=>?_);refine s_q (yF (c:=[dC (some ⟨g10,0,none⟩) n n,aH 0]) rfl rfl) rfl ?_;refine aa (aq (c:=[dC (some ⟨g10,0,none⟩) n n,aH 0]) rfl rfl rfl fun w7=>Rb ?_);refine Cq 297 2 En.c n ?_;refine zC (A:=some ⟨g10,0,none⟩) ((List.replicate n (⟨none,0,[]⟩:Bk En)).map (fun k:Bk En=>[k.v])) (by rw[List.map_replicate];rfl) ?_;refine zR (A:=some ⟨g10,0,none⟩) (List.replicate n (⟨none,0,[]⟩:Bk En)).length aM ?_;refine zF (b:=w7) [dC (some ⟨g10,0,none⟩) (List.replicate n (⟨none,0,[]⟩:Bk En)).length n,aH 0] aM ?_;exact dD rfl rfl fun w' a5=>⟨(w7,(BR.mk 0 (some ⟨g10,0,none⟩) n (List.replicate n (⟨none,0,[]⟩:Bk En)))),(by(try dsimp only);exact⟨.init hn,aM⟩),rfl,zA w' a5⟩
theorem Ar (b:Nat) (g:BR) (es:List En) (w:World) (hw:W0 [bB_ b g,bW_ g,bK_ g] w) (h:g.Rep es):du Tryz.prog 55 [aG b] w [bB_ b g,bW_ g,bK_ g] (aI es.length):=by
 refine Γ Tryz.func55 9 hw ?_;refine RC ?_;exact dD rfl rfl fun w' a5=>⟨(),trivial,by rw[h.n],zA w' a5⟩
theorem jV (b:Nat) (e:Int) (w:World) : Pur Tryz.prog 178 [aG b,aH e] w (.bool (fH e)):=by
 refine Γ Tryz.func178 15 (WOK.start [] _) ?_;refine Sq ?_;refine s_q (Fh (b:=true) rfl rfl rfl) rfl (rn [2,22,2,22,53,41,2] ?_);refine zS 11 rfl (fun h1=>?_) (fun h1=>?_)
 ·refine rn [22,2,22,56,41,3,0,11] ?_;exact dD rfl rfl fun w' a5=>⟨by first|rfl|(simp_all[fH];done)|(simp_all[fH];omega),a5.upd⟩
 refine rn [21,21,42,3,0,11] ?_;exact dD rfl rfl fun w' a5=>⟨by first|rfl|(simp_all[fH];done)|(simp_all[fH];omega),a5.upd⟩
theorem BC (b:Nat) (g:BR) (es:List En) (k:Nat) (w:World) (hw:W0 [bB_ b g,bW_ g,bK_ g] w) (h:g.Rep es):du Tryz.prog 179 [aG b,aH (k:Int)] w [bB_ b g,bW_ g,bK_ g] (.pointer (some ⟨bo g.A,oo g.A+(k%g.bs.length)*1,none⟩)):=by
 refine Γ Tryz.func179 17 hw ?_;have hmod:=h.mod k;have hpos:=h.pos;refine SZ ?_;refine bn [] an rfl (rn [23,0,2,23,1,6,23,2,4,23,3,5,23,4,2,23,5,2,23,6,6,23,7,4,23,8,5,23,9,47] ?_);refine dq 10 rfl (wA (a:=k) (b:=g.bs.length) rfl rfl aR) ?_;refine dq 11 rfl (zM (i:=(k%g.bs.length)) rfl rfl rfl (ird (A:=g.A)) aS) (rn [23,12,3,27,7,11] ?_);exact dD rfl rfl fun w' a5=>⟨(),trivial,rfl,zA w' a5⟩
theorem sA (b:Nat) (g:BR) (es:List En) (e it:Int) (w:World) (hw:W0 [bB_ b g,bW_ g,bK_ g] w) (h:g.Rep es) (hnE:es.length≤1000000):au (ι:=BR) Tryz.prog 116 [aG b,aH e,aH it] w [bB_ b g,bW_ g,bK_ g] (fun x=>x.Rep (fP es e it)∧x.bs.length=g.bs.length) (fun x=>.bool (fH e)) (fun x=>[]) (fun x=>[bB_ b x,bW_ x,bK_ x]):=by
 refine Γ Tryz.func116 32 hw ?_;refine rn [1,3,0,8,1,2,2] ?_;refine aa (zH rfl (fun w1 a6=>jV _ _ w1) rfl (rn [48,0] ?_));refine zB rfl (fun h1=>?_) (fun h1=>?_)
 ·have hv:¬fH e=true:=by simpa using h1
  refine Re ?_;exact dD rfl rfl fun w' a5=>⟨g,(by exact⟨by rw[fP,bY hv];exact h,rfl⟩),by simp[hv],zA w' a5⟩
 have hv:fH e=true:=by simpa using h1
 obtain⟨k,hek,hk⟩:∃k:Nat,e=k∧k≤1099511627776:=⟨e.toNat,by have h9:=bW hv;omega,by have h9:=bW hv;omega⟩
 obtain⟨A0,c0,e0,K0⟩:=h.at_ k;have hmod:=h.mod k;have hn0:=h.n;have he0:e0.length≤es.length:=by have h9:=h.bk _ _ K0;simp only at h9;rw[h9];exact List.length_filter_le _ _
 refine ae 1 (v' := aI k) rfl (by rw[hek]) (SQ ?_);refine aa (zN _ rfl (fun w1 a6 a8=>by exact BC b g es k w1 a8 h) rfl ?_);refine rn [3,0,1,2,2,6] ?_;refine s_q (zX (i:=(k%g.bs.length)) (o:=0) rfl (ird (A:=g.A)) (lO K0) rfl rfl) rfl (rn [2,2] ?_);refine s_q (yF (c:=En.c (En.mk ((k:Nat):Int) it)) rfl rfl) rfl ?_;refine aa (bg rfl rfl rfl rfl rfl fun H2=>?_);refine zF (b:=H2) ((([(En.mk ((k:Nat):Int) it)]:List En).map En.c).flatten) rfl ?_;refine mw (T:=297) (n:=2) (c:=En.c) (k%g.bs.length) K0 ?_;refine aa (zW (A:=A0) (els:=(e0).map En.c) (news:=(([(En.mk ((k:Nat):Int) it)]:List En).map En.c)) rfl rfl (InL.rdb (b:=H2) rfl (by simp[En.c]) rfl) (zZ (c:=En.c) (by intro x;simp[En.c,Value.oneCell']) _) aK rfl fun A23 cap23=>⟨_,inferInstance,?_⟩);refine zC (A:=A23) (((e0++[(En.mk ((k:Nat):Int) it)])).map En.c) (by first|rfl|exact cA.symm|(simp;done)) ?_;refine zR (A:=A23) (e0++[(En.mk ((k:Nat):Int) it)]).length aM ?_;refine ae 23 (v' := .slice A23 (e0++[(En.mk ((k:Nat):Int) it)]).length cap23) rfl aM (rn [6] ?_);refine aa (yD (A:=g.A) (i:=(k%g.bs.length)) (o:=0) (cs' := (fun k:Bk En=>[k.v]) ((⟨A23,cap23,e0++[(En.mk ((k:Nat):Int) it)]⟩:Bk En))) rfl rfl rfl rfl rfl (lO K0) aY rfl rfl ?_);refine zC (A:=g.A) ((g.bs.set (k%g.bs.length) (⟨A23,cap23,e0++[(En.mk ((k:Nat):Int) it)]⟩:Bk En)).map (fun k:Bk En=>[k.v])) (by simp only[dA]) ?_;refine kB (T:=297) (n:=2) (c:=En.c) (k%g.bs.length) hmod A23 (e0++[(En.mk ((k:Nat):Int) it)]).length cap23 (e0++[(En.mk ((k:Nat):Int) it)]) rfl (rn [0,1,2,6,4,5] ?_);refine s_q (yI (z:=BR.n g+1) rfl rfl (dY aK aK)) rfl (SY ?_);refine aa (zI rfl rfl rfl rfl rfl rfl rfl ?_);refine zF (b:=b) [dC g.A g.bs.length g.cap,aH (BR.n g+1)] (by simp[ay]) (RA ?_);exact dD rfl rfl fun w' a5=>⟨(BR.mk (BR.n g+1) g.A g.cap (g.bs.set (k%g.bs.length) (⟨A23,cap23,e0++[(En.mk ((k:Nat):Int) it)]⟩:Bk En))),(by first|exact⟨by rw[fP,bZ hv,hek];exact h.put hk K0 it,aM⟩|(dsimp only;exact⟨by rw[fP,bZ hv,hek];exact h.put hk K0 it,aM⟩)),by rw[hv],by have h9:=zG (L' := [Res.blk b 178 [dC g.A g.bs.length g.cap,aH (BR.n g+1)],Res.row g.A g.bs.length g.cap 295 1 ((g.bs.set (k%g.bs.length) (⟨A23,cap23,e0++[(En.mk ((k:Nat):Int) it)]⟩:Bk En)).map (fun k:Bk En=>[k.v])),bks 297 2 En.c (g.bs.set (k%g.bs.length) (⟨A23,cap23,e0++[(En.mk ((k:Nat):Int) it)]⟩:Bk En))]) w' a5;show WOK _ _ [bB_ b ((BR.mk (BR.n g+1) g.A g.cap (g.bs.set (k%g.bs.length) (⟨A23,cap23,e0++[(En.mk ((k:Nat):Int) it)]⟩:Bk En)))),bW_ ((BR.mk (BR.n g+1) g.A g.cap (g.bs.set (k%g.bs.length) (⟨A23,cap23,e0++[(En.mk ((k:Nat):Int) it)]⟩:Bk En)))),bK_ ((BR.mk (BR.n g+1) g.A g.cap (g.bs.set (k%g.bs.length) (⟨A23,cap23,e0++[(En.mk ((k:Nat):Int) it)]⟩:Bk En))))] _;simp only[bB_,bW_,bK_,List.length_set];exact h9⟩
theorem Ax (b:Nat) (g:BR) (es:List En) (e:Int) (w:World) (hw:W0 [bB_ b g,bW_ g,bK_ g] w) (h:g.Rep es) (hnE:es.length≤1000000):au (ι:=(bU × Nat × BR)) Tryz.prog 228 [aG b,aH e] w [bB_ b g,bW_ g,bK_ g] (fun x=>x.2.2.Rep (cu e es)∧x.2.2.bs.length=g.bs.length) (fun x=>.slice x.1 (cv e es).length x.2.1) (fun x=>[Res.row x.1 (cv e es).length x.2.1 3 1 ((cv e es).map aC)]) (fun x=>[bB_ b x.2.2,bW_ x.2.2,bK_ x.2.2]):=by
 refine Γ Tryz.func228 31 hw ?_;refine Ri ?_;refine aa (aq rfl rfl rfl fun b3=>rn [3,0,8,1,2,5] ?_);refine aa (zH rfl (fun w1 a6=>jV _ _ w1) rfl (rn [48,0] ?_));refine zB rfl (fun h1=>?_) (fun h1=>?_)
 ·have hv:¬fH e=true:=by simpa using h1
  refine Re ?_;refine zY none 3 1 ((cv e es).map aC) (by rw[(h.out hv).2];rfl) ?_;exact dD rfl rfl fun w' a5=>⟨((none:bU),0,g),(by first|exact⟨by rw[(h.out hv).1];exact h,rfl⟩|(dsimp only;exact⟨by rw[(h.out hv).1];exact h,rfl⟩)),by rw[(h.out hv).2];rfl,by have h9:=zG (L' := [Res.row none 0 0 3 1 ((cv e es).map aC),bB_ b g,bW_ g,bK_ g]) w' a5;show WOK _ _ [Res.row (((none:bU),0,g)).1 (cv e es).length (((none:bU),0,g)).2.1 3 1 ((cv e es).map aC),bB_ b (((none:bU),0,g)).2.2,bW_ (((none:bU),0,g)).2.2,bK_ (((none:bU),0,g)).2.2] _;rw[show(cv e es).length=0 from by rw[(h.out hv).2];rfl];exact h9⟩
 have hv:fH e=true:=by simpa using h1
 obtain⟨k,hek,hk⟩:∃k:Nat,e=k∧k≤1099511627776:=⟨e.toNat,by have h9:=bW hv;omega,by have h9:=bW hv;omega⟩
 obtain⟨A0,c0,e0,K0⟩:=h.at_ k;have hmod:=h.mod k;have hn0:=h.n;have he0:e0.length≤es.length:=by have h9:=h.bk _ _ K0;simp only at h9;rw[h9];exact List.length_filter_le _ _
 refine zF (b:=b3) [aI k] (by rw[hek]) (rn [12,7,1] ?_);refine aa (zK rfl fun b5=>?_);refine zF (b:=b5) [dC none (([]:List Int)).length 0] rfl ?_;refine zY none 3 1 ((([]:List Int)).map aC) rfl (rn [0,1,2,5] ?_);refine aa (zN _ rfl (fun w1 a6 a8=>by exact BC b g es k w1 a8 h) rfl ?_);refine rn [3,0,1,2,2,6] ?_;refine s_q (zX (i:=(k%g.bs.length)) (o:=0) rfl (ird (A:=g.A)) (lO K0) rfl rfl) rfl (rn [52] ?_);refine mw (T:=297) (n:=2) (c:=En.c) (k%g.bs.length) K0 ?_;refine aa (zJ _ rfl (fun w1 a6 a8=>by have h7:=oX b3 b5 ((k:Nat):Int) none 0 ([]:List Int) A0 (e0.length) c0 e0 w1 a8 rfl aV;exact h7) rfl ?_);rintro⟨A19,K4,O19,I6⟩ _;refine ii (rn [6] ?_);refine aa (yD (A:=g.A) (i:=(k%g.bs.length)) (o:=0) (cs' := (fun k:Bk En=>[k.v]) ((⟨A19,K4,cu ((k:Nat):Int) e0⟩:Bk En))) rfl rfl rfl rfl rfl (lO K0) aY rfl rfl ?_);refine zC (A:=g.A) ((g.bs.set (k%g.bs.length) (⟨A19,K4,cu ((k:Nat):Int) e0⟩:Bk En)).map (fun k:Bk En=>[k.v])) (by simp only[dA]) ?_;refine kB (T:=297) (n:=2) (c:=En.c) (k%g.bs.length) hmod A19 (cu ((k:Nat):Int) e0).length K4 (cu ((k:Nat):Int) e0) rfl ?_;have hdq:([]:List Int)++cv ((k:Nat):Int) e0=(cv ((k:Nat):Int) es):=by rw[List.nil_append];exact h.dueEq K0
 refine zF (b:=b5) [dC O19 (cv ((k:Nat):Int) es).length I6] (by rw[hdq]) ?_;refine zC (A:=O19) ((cv ((k:Nat):Int) es).map aC) (by rw[hdq]) ?_;refine zR (A:=O19) (cv ((k:Nat):Int) es).length (by rw[hdq]) ?_;have hdk:=iv ((k:Nat):Int) es;refine Sw ?_;refine bn [9] an rfl (rn [23,0,2,23,1,6,23,2,4,23,3,5,23,4,5,23,5,47] ?_);refine dq 6 rfl (yN (z:=BR.n g-((cv ((k:Nat):Int) es).length:Nat)) rfl rfl (dY aK aK)) (rn [24,7,6,23,8,4] ?_);refine dop 9 rfl (zI rfl rfl rfl rfl rfl rfl rfl ?_);refine zF (b:=b) [dC g.A g.bs.length g.cap,aI ((cu ((k:Nat):Int) es).length)] (by simp[ay];omega) (rn [28,7,1,5,3,0,11] ?_);exact dD rfl rfl fun w' a5=>⟨(O19,I6,(BR.mk (((cu ((k:Nat):Int) es).length:Nat):Int) g.A g.cap (g.bs.set (k%g.bs.length) (⟨A19,K4,cu ((k:Nat):Int) e0⟩:Bk En)))),(by first|exact⟨by rw[hek];exact h.due K0,aM⟩|(dsimp only;exact⟨by rw[hek];exact h.due K0,aM⟩)),by rw[hek],by have h9:=zG (L' := [Res.row O19 (cv ((k:Nat):Int) es).length I6 3 1 ((cv ((k:Nat):Int) es).map aC),Res.blk b 178 [dC g.A g.bs.length g.cap,aH ((((cu ((k:Nat):Int) es).length:Nat):Int))],Res.row g.A g.bs.length g.cap 295 1 ((g.bs.set (k%g.bs.length) (⟨A19,K4,cu ((k:Nat):Int) e0⟩:Bk En)).map (fun k:Bk En=>[k.v])),bks 297 2 En.c (g.bs.set (k%g.bs.length) (⟨A19,K4,cu ((k:Nat):Int) e0⟩:Bk En))]) w' a5;show WOK _ _ [Res.row ((O19,I6,(BR.mk (((cu ((k:Nat):Int) es).length:Nat):Int) g.A g.cap (g.bs.set (k%g.bs.length) (⟨A19,K4,cu ((k:Nat):Int) e0⟩:Bk En))))).1 (cv e es).length ((O19,I6,(BR.mk (((cu ((k:Nat):Int) es).length:Nat):Int) g.A g.cap (g.bs.set (k%g.bs.length) (⟨A19,K4,cu ((k:Nat):Int) e0⟩:Bk En))))).2.1 3 1 ((cv e es).map aC),bB_ b ((O19,I6,(BR.mk (((cu ((k:Nat):Int) es).length:Nat):Int) g.A g.cap (g.bs.set (k%g.bs.length) (⟨A19,K4,cu ((k:Nat):Int) e0⟩:Bk En))))).2.2,bW_ ((O19,I6,(BR.mk (((cu ((k:Nat):Int) es).length:Nat):Int) g.A g.cap (g.bs.set (k%g.bs.length) (⟨A19,K4,cu ((k:Nat):Int) e0⟩:Bk En))))).2.2,bK_ ((O19,I6,(BR.mk (((cu ((k:Nat):Int) es).length:Nat):Int) g.A g.cap (g.bs.set (k%g.bs.length) (⟨A19,K4,cu ((k:Nat):Int) e0⟩:Bk En))))).2.2] _;rw[hek];simp only[bB_,bW_,bK_,List.length_set];exact h9⟩
def nxt (s e:Int):Int:=if e=7 then(if s=2∨s=3 then 3 else if s=4∨s=5 then 4 else 0) else if e=6∧s=2 then 7 else if 1≤e∧e≤5∧s=e then s+1 else 0
def cy (v:V) (e:Int):V × Int:=if eN [e]=false then(V.z,10) else if nxt v.st 2=0 then(V.z,8) else({ v with rq:=e,st:=nxt v.st 2 },0)
def eS (v:V) (e:Int) (c:C):V × Int:=if v.st≠3∨v.ex≠-1 then(V.z,8) else if eN [e,c.unb]=false then(V.z,10) else({ v with ex:=e,wd:=max v.wd (eh [e,c.unb]) },0)
def eM (b:Int) (c:C):Int:=if c.pden<c.pnum then 0 else b*c.pnum/c.pden
def bh (v:V) (e:Int) (c:C):V × Int × Int:=if v.sl=true then(V.z,0,9) else if nxt v.st 7=0 then(V.z,0,8) else if eN [e,c.sld]=false then(V.z,0,10)
 else({ v with bal:=IntKind.u64.wrap (v.bal-eM v.bal c),st:=nxt v.st 7,sl:=true,rq:=if v.st=2 then e else v.rq,wd:=max v.wd (eh [e,c.sld]),dl:=-1 },eM v.bal c,0)
def db (v:V) (e:Int):V × Int × Int:=if nxt v.st 5=0 then(V.z,0,8) else if e<v.wd then(V.z,0,8) else({ v with st:=nxt v.st 5,bal:=0 },v.bal,0)
def swp (rd:List Bool) (n pays:Nat):Nat→Nat→List Int→Nat→Nat × List Int × Nat
 | 0,at_,paid,made=>(at_,paid,made)
 | k+1,at_,paid,made=>if paid.length=pays then(at_,paid,made) else swp rd n pays k ((at_%n+1)%n) (if rd[at_%n]?=some true then paid++[((at_%n:Nat):Int)] else paid) (made+1)
def dJ (at_:Nat) (rd:List Bool) (visits pays:Int):Nat × List Int × Nat:=if rd.length=0∨pays<1 then(at_,[],0) else swp rd rd.length pays.toNat (min visits (rd.length:Int)).toNat at_ [] 0
structure Eg where
 c:C
 blk:Nat
 l:List V
 dep:Int
 paid:Int
 burn:Int
 bo:List En
 lv:List Int
 cur:Nat
 m:M
 q:LL
 pend:List Int
 mg:List PP
 pt:List Rq
def Eg.ep (s:Eg):Int:=((s.blk/s.c.elen.toNat:Nat):Int)
structure Rc where
 k:Int
 code:Int
 i:Int
 blk:Int
 ep:Int
 dl:Int
 ag:List As
 ps:List Y
 vis:Int
structure Rs where
 code:Int
 i:Int
 dl:Int
def Rs.c (x:Rs):List Value:=[aH x.code,aH x.i,aH x.dl]
def dT (l:List V) (i:Int) (v:V):List V:=if ax l i=true then l.set i.toNat v else l
def evV (l:List V) (i e:Int):List V:=if ax l i=true∧nxt (ab l i).st e≠0 then l.set i.toNat { ab l i with st:=nxt (ab l i).st e } else l
def dz (s:Eg) (o:Op):Eg × Rs :=
 if o.a<s.c.mind∨s.c.maxd<o.a then(s,⟨3,0,0⟩)
 else if s.c.capa≤(s.l.length:Int) then(s,⟨5,0,0⟩)
 else if s.c.qsize.toNat-s.pend.length=0 then(s,⟨6,0,0⟩)
 else if eR s.c.supc s.dep s.paid s.burn o.a≠0 then(s,⟨eR s.c.supc s.dep s.paid s.burn o.a,0,0⟩)
 else({ s with l:=s.l++[⟨o.a,1,false,-1,-1,-1,-1⟩],dep:=s.dep+o.a,pend:=s.pend++[(s.l.length:Int)] },⟨0,s.l.length,-1⟩)
def bx (l:List V):List Int:=l.map V.bal
def fh (l:List V) (is:List Int):List Int:=is.map (ofW (bx l))
def Θ (s:Eg) (cl i:Int):Eg × Rs :=
 if ax s.l i=false then(s,⟨7,0,0⟩)
 else if(cy (ab s.l i) s.ep).2≠0 then(s,⟨(cy (ab s.l i) s.ep).2,0,0⟩)
 else if eW s.c.qsize.toNat cl s.q=0 then(s,⟨6,0,0⟩)
 else if eI (fh s.l (bq cl s.q))=false∨ft s.ep (df (fh s.l (bq cl s.q))) (cy (ab s.l i) s.ep).1.bal s.c [s.c.unb,dU s.c]=false then(s,⟨10,0,0⟩)
 else
  let d:=ez s.ep (df (fh s.l (bq cl s.q))) (cy (ab s.l i) s.ep).1.bal s.c [s.c.unb,dU s.c]
  ({ s with l:=s.l.set i.toNat { (cy (ab s.l i) s.ep).1 with dl:=d },q:=cg s.c.qsize.toNat cl i s.q },⟨0,i,d⟩)
def Φ (s:Eg) (i:Int):Eg × Rs :=
  if ax s.l i=false then(s,⟨7,0,0⟩)
  else
    let v:=ab s.l i
    let r:=bh v s.ep s.c
    if r.2.2=9∨r.2.2=8 then(s,⟨r.2.2,0,0⟩)
    else if v.st=2∧eW s.c.qsize.toNat 0 s.q=0 then(s,⟨6,0,0⟩)
    else if r.2.2≠0 then(s,⟨r.2.2,0,0⟩)
    else ({ s with l:=s.l.set i.toNat r.1,burn:=if dW s.dep s.paid s.burn r.2.1=0 then s.burn+r.2.1 else s.burn,
                   q:=if v.st=2 then cg s.c.qsize.toNat 0 i s.q else s.q,bo:=if v.st=5 then fP s.bo r.1.wd i else s.bo },⟨0,i,-1⟩)
def dk (s:Eg) (i t:Int):Eg × Rs :=
 if dN s.l i t s.c≠0 then(s,⟨dN s.l i t s.c,0,0⟩)
 else if s.c.qsize.toNat-s.mg.length=0 then(s,⟨6,0,0⟩)
 else({ s with mg:=s.mg++[⟨i,t⟩] },⟨0,i,-1⟩)
def fS (l:List V) (i a:Int):Int:=if ax l i=false then 7 else if a=0 then 3 else if(ab l i).st≠2 then 8 else 0
def dh (s:Eg) (i a:Int):Eg × Rs :=
 if fS s.l i a≠0 then(s,⟨fS s.l i a,0,0⟩)
 else if s.c.qsize.toNat-s.pt.length=0 then(s,⟨6,0,0⟩)
 else({ s with pt:=s.pt++[⟨i,a⟩] },⟨0,i,-1⟩)
def fi (e:Int) (s:List V × List En) (i:Int):List V × List En:=if e<(ab s.1 i).wd then(s.1,fP s.2 (ab s.1 i).wd i) else(evV s.1 i 4,s.2)
def eQ (e:Int) (s:List V × List En):List V × List En:=(cv e s.2).foldl (fi e) (s.1,cu e s.2)
def eJ (c:C) (s:List V × List En × List Int) (a:As):List V × List En × List Int :=
 (dT s.1 a.i (eS (ab s.1 a.i) a.e c).1,fP s.2.1 (eS (ab s.1 a.i) a.e c).1.wd a.i,s.2.2++[a.i])
def ee (c:C) (l:List V):Int:=dK (dZ l) c.minch c.quot
def dO (s:Eg):Eg × List As :=
 let l1:=s.lv.foldl (fun l i=>evV l i 3) s.l
 let r:=eQ s.ep (l1,s.bo)
 let ch:=ee s.c r.1
 let st:=Ξ (bx r.1) s.ep ch s.q s.m
 let a:=st.1.foldl (eJ s.c) (r.1,r.2,[])
 let ac:=dd ch (bx a.1) s.pend 0 true
 let l4:=ac.foldl (fun l i=>evV l i 1) a.1
 let t:=s.mg.take s.c.merg.toNat
 ({ s with l:=(runM s.c l4 t).1,bo:=a.2.1,lv:=a.2.2,m:=st.2.2,q:=st.2.1,pend:=s.pend.drop ac.length,mg:=s.mg.drop t.length },st.1)
def cx (l0:List V) (e:Int) (s:List V × List Y) (i:Int):List V × List Y:=(dT s.1 i (db (ab l0 i) e).1,s.2++[⟨i,(db (ab l0 i) e).2.1,true⟩])
def fD (d u:Int) (p:Int) (y:Y):Int:=if dW d p u y.a=0 then p+y.a else p
def dV (s:Eg):Eg × List Y × Nat :=
 let t:=s.pt.take s.c.parts.toNat
 let r:=run s.c s.l t
 let p0:=pos r.2
 let w:=dJ s.cur (r.1.map fun v=>decide (v.st=5)) (s.c.vis-t.length) (s.c.pays-p0.length)
 let f:=w.2.1.foldl (cx r.1 s.ep) (r.1,p0)
 ({ s with l:=f.1,paid:=f.2.foldl (fD s.dep s.burn) s.paid,cur:=w.1,pt:=s.pt.drop t.length },f.2,t.length+w.2.2)
def dg (s:Eg):Eg × Rc :=
 let s1:={ s with blk:=s.blk+1 }
 let b:=if(s.blk+1)%s.c.elen.toNat=0 then dO s1 else(s1,[])
 let p:=dV b.1
 (p.1,⟨7,0,-1,p.1.blk,p.1.ep,-1,b.2,p.2.1,p.2.2⟩)
def fF (s:Eg) (o:Op):Eg × Rs :=
 if o.k=1 then dz s o else if o.k=2 then Θ s 1 o.i else if o.k=3 then Θ s 0 o.i else if o.k=4 then Φ s o.i
 else if o.k=5 then dk s o.i o.t else if o.k=6 then dh s o.i o.a else(s,⟨11,0,0⟩)
def rcp (s:Eg) (o:Op) (x:Rs):Rc:=if x.code≠0 then⟨o.k,x.code,-1,s.blk,s.ep,-1,[],[],0⟩ else⟨o.k,0,x.i,s.blk,s.ep,x.dl,[],[],0⟩
def ao (s:Eg) (o:Op):Eg × Rc:=if o.k=7 then dg s else((fF s o).1,rcp s o (fF s o).2)
def Δ (c:C):Eg:=⟨c,0,[],0,0,0,[],[],0,M0,⟨[],[]⟩,[],[],[]⟩
theorem HP:∀(a b:Nat),a<8→b<8→(keyOf Tryz.prog 374 (.agg [aH (a:Int),aH (b:Int)].toArray)).isSome=true:=by
 intro a b ha hb;rcases(show a=0∨a=1∨a=2∨a=3∨a=4∨a=5∨a=6∨a=7 by omega) with rfl|rfl|rfl|rfl|rfl|rfl|rfl|rfl <;>
 rcases(show b=0∨b=1∨b=2∨b=3∨b=4∨b=5∨b=6∨b=7 by omega) with rfl|rfl|rfl|rfl|rfl|rfl|rfl|rfl<;>kernel_rfl
def mZ:List Nat:=[2,4,6,8,10,12,14,16,18,20]
theorem CM:∀a:Nat,a<8→∀b:Nat,b<8→((∃j∈mZ,gD j=((a:Int),(b:Int),nxt a b))∧(∀j∈mZ,(gD j).1=(a:Int)→(gD j).2.1=(b:Int)→(gD j).2.2=nxt a b)∧nxt a b≠0)∨((∀j∈mZ,¬((gD j).1=(a:Int)∧(gD j).2.1=(b:Int)))∧nxt a b=0):=by decide +kernel
theorem nR {a b c d:Int} (h:Value.agg [aH a,aH b].toArray=.agg [aH c,aH d].toArray):a=c∧b=d:=by
 simpa using h
theorem zh (a b:Nat) (ha:a<8) (hb:b<8):((Value.agg [aH (a:Int),aH (b:Int)].toArray,aH (nxt a b))∈mZ.map gF∧(∀p∈mZ.map gF,p.1=.agg [aH (a:Int),aH (b:Int)].toArray→p.2=aH (nxt a b))∧decide (nxt a b≠0)=true) ∨
  ((∀p∈mZ.map gF,p.1 ≠ .agg [aH (a:Int),aH (b:Int)].toArray)∧aH (nxt a b)=aH 0∧decide (nxt a b≠0)=false):=by
 rcases CM a ha b hb with⟨⟨j,hj,h1⟩,h2,h3⟩|⟨h1,h2⟩
 ·refine .inl ⟨cG.2 ⟨j,hj,by simp only[gF,h1]⟩,fun p hp he=>?_,cX h3⟩;obtain⟨i,hi,rfl⟩:=cG.1 hp;obtain⟨h4,h5⟩:=nR he;simp only[gF];rw[h2 i hi h4 h5]
 refine .inr ⟨fun p hp he=>?_,by rw[h2],by simp[h2]⟩;obtain⟨i,hi,rfl⟩:=cG.1 hp;exact h1 i hi (nR he)
theorem zi:∀p∈mZ.map gF,Key Tryz.prog 374 p.1:=fun p hp=>by obtain⟨j,_,rfl⟩:=cG.1 hp;exact kU j
theorem ma (a b:Nat) (w:World) (ha:a<8) (hb:b<8):Pur Tryz.prog 227 [aH (a:Int),aH (b:Int)] w (.tuple [aH (nxt a b),.bool (decide (nxt a b≠0))].toArray):=by
 refine Γ Tryz.func227 18 (WOK.start [] _) ?_;refine rn [1,3,3,0,1] ?_;refine aa (zJ [] rfl (fun w1 a6 a8=>by have h7:=jW w1;exact h7) rfl ?_);rintro b9 _;refine ii (rn [2,2,49] ?_);refine s_q (yo (b:=b9) (D:=mZ.map gF) (v:=aH (nxt a b)) (c:=decide (nxt a b≠0)) rfl rfl (Option.isSome_iff_exists.1 (HP a b ha hb)) zi (z:=aH 0) (fun _=>rfl) (zh a b ha hb)) rfl (Rv ?_);exact dE rfl rfl rfl fun w' a5=>⟨aP,a5.upd⟩
def ko (l:List Int):Int:=l.tail.foldl max (l.head?.getD 0)
theorem tox {l:List Int} {k:Nat} (hk:k<l.length) (h0:0<k):max (ko (l.take k)) l[k]=ko (l.take (k+1)):=by
 cases l with
 | nil=>simp at hk
 | cons x l =>
  obtain⟨k,rfl⟩:∃q,k=q+1:=⟨k-1,aK⟩
  have hk' : k<l.length:=by simpa using hk
  simp only[ko,List.take_succ_cons,List.tail_cons,List.head?_cons,Option.getD_some,List.getElem_cons_succ];rw[←cB hk',List.foldl_append];rfl
theorem vw (A:bU) (n cap:Nat) (l:List Int) (w:World) (ha:Old w A n 1 (l.map aC)) (h1:1≤n) (hb:n≤1000):Pur Tryz.prog 292 [.slice A n cap] w (aH (ko l)):=by
 refine Γ Tryz.func292 25 (WOK.start [] _) ?_;have hn:n=l.length:=by simpa using ha.len
 have h0:0<l.length:=by omega
 refine rn [1,3,0,8,1,2,47,46,0] ?_;refine zB rfl (fun h1=>?_) (fun h1=>?_)
 ·exfalso;have h9:=bW h1;omega
 refine Sx ?_;refine s_q (zM (i:=0) rfl rfl rfl (ha.rdb rfl) aK) rfl ?_;refine s_q (zX (i:=0) (o:=0) rfl (ha.rdb rfl) (zP h0) rfl rfl) rfl (rn [3,0,8,1,3,0,14] ?_);refine ae 3 (v' := aH (ko (l.take 1))) rfl (by cases l with|nil=>simp at h0|cons x r=>rfl) ?_;refine dP [0,2] (fun(x:Nat)=>[(3,aH (ko (l.take x))),(4,aI x)]) (fun(x:Nat)=>[]) (fun(x:Nat)=>1≤x∧x≤l.length) (fun(x:Nat)=>l.length-x) 1 (by(try dsimp only);exact⟨aK,aK⟩) ?_;rintro k ⟨h1k,hkn⟩;replace h1k:1≤k:=h1k;replace hkn:k≤l.length:=hkn;refine Rw ?_;refine zB rfl (fun h2=>?_) (fun h2=>?_)
 ·have f8:k<l.length:=by have h9:=bW h2;omega
  refine rn [12,7,8,14,10,2,2,2] ?_;refine s_q (zM (i:=k) rfl rfl rfl (ha.rdb rfl) aS) rfl ?_;refine s_q (zX (i:=k) (o:=0) rfl (ha.rdb rfl) (zP aK) rfl rfl) rfl (rn [59] ?_);refine ae 23 (v' := aH (ko (l.take (k+1)))) rfl (by rw[tox f8 aK]) (Rt ?_);exact cr (k+1) (by(try dsimp only);exact⟨aK,aK⟩)
 obtain rfl:k=l.length:=by have h9:=bX h2;omega
 refine Ru ?_;refine zE (zE (zQ (Rl ?_)));exact dD rfl rfl fun w' a5=>⟨by rw[cI],a5.upd⟩
theorem Ak (A:bU) (n cap:Nat) (l:List Int) (w:World) (ha:Old w A n 1 (l.map aC)) (h1:1≤n) (hb:n≤1000):Pur Tryz.prog 250 [.slice A n cap] w (aH (ko l)):=by
 refine Γ Tryz.func250 8 (WOK.start [] _) ?_;have hn:n=l.length:=by simpa using ha.len
 have h0:0<l.length:=by omega
 refine rn [1,3,0,8,1,2,47,44,0] ?_;refine zB rfl (fun h1=>?_) (fun h1=>?_)
 ·exfalso;have h9:=bW h1;omega
 refine Sx ?_;refine aa (zH rfl (fun w1 a6=>vw A n cap l w1 (Rdb.toOld (ha.rdb rfl) a6) aK aK) rfl (Rb ?_));exact dD rfl rfl fun w' a5=>⟨aP,a5.upd⟩
def acR (e:Int) (v:V):V × Int:=if eN [e]=false then(v,10) else({ v with rq:=e },0)
def evR (e:Nat) (v:V):V × Int:=if nxt v.st (e:Int)=0 then(v,8) else({ v with st:=nxt v.st (e:Int) },0)
def dlR (e d:Int) (v:V):V × Int:=if eN [e,d]=false then(v,10) else({ v with wd:=max v.wd (eh [e,d]) },0)
def asR (e:Int) (v:V):V × Int:=if v.st≠3∨v.ex≠-1 then(v,8) else({ v with ex:=e },0)
def mkR (e:Int) (v:V):V × Int:=if v.sl=true then(v,9) else({ v with sl:=true,rq:=if v.st=2 then e else v.rq,dl:=-1 },0)
def buR (c:C) (v:V):V × Int:=({ v with bal:=IntKind.u64.wrap (v.bal-eM v.bal c) },eM v.bal c)
def duR (e:Int) (v:V):V × Int:=if e<v.wd then(v,8) else({ v with bal:=0 },0)
theorem BQ (b q:Nat) (v:V) (e:Int) (w:World) (hw:W0 [Res.blk b 52 (V.c v),Res.blk q 3 [aH (e)]] w) (he:I64 e):au (ι:=Unit) Tryz.prog 243 [aG b,aG q] w [Res.blk b 52 (V.c v),Res.blk q 3 [aH (e)]] (fun x=>True) (fun x=>.int .i64 (acR e v).2) (fun x=>[]) (fun x=>[Res.blk b 52 (V.c (acR e v).1),Res.blk q 3 [aH (e)]]):=by
 refine Γ Tryz.func243 17 hw ?_;refine rn [1,3,0,8,1,5] ?_;refine aa (zN [] rfl (fun w1 a6 a8=>by exact pB (e) none 0 0 ([]:List Int) w1 he Rd.zero aM aK) rfl ?_);refine rn [2,40,40,3,3,0,1,2,48,0] ?_;refine zB rfl (fun h1=>?_) (fun h1=>?_)
 ·have hR:acR e v=(v,10):=by have h9:eN [e]=false:=(by simpa using h1);unfold acR;rw[bZ h9]
  refine Re ?_;exact dD rfl rfl fun w' a5=>⟨(),aQ,by rw[hR],by rw[hR];exact zA w' a5⟩
 have hR:acR e v=({ v with rq:=e },0):=by have h9:eN [e]=true:=(by simpa using h1);unfold acR;rw[bY (by rw[h9];simp)]
 refine rn [12,7,1,2,5,6,4] ?_;refine aa (zI rfl rfl rfl rfl rfl rfl rfl ?_);refine zF (b:=b) (V.c { v with rq:=e }) (by simp[ay,V.c]) (RA ?_);exact dD rfl rfl fun w' a5=>⟨(),aQ,by rw[hR],by rw[hR];exact zA w' a5⟩
theorem lF (b q:Nat) (v:V) (e:Nat) (w:World) (hw:W0 [Res.blk b 52 (V.c v),Res.blk q 3 [aH ((e:Int))]] w) (he:e<8) (hs:0≤v.st∧v.st≤7):au (ι:=Unit) Tryz.prog 248 [aG b,aG q] w [Res.blk b 52 (V.c v),Res.blk q 3 [aH ((e:Int))]] (fun x=>True) (fun x=>.int .i64 (evR e v).2) (fun x=>[]) (fun x=>[Res.blk b 52 (V.c (evR e v).1),Res.blk q 3 [aH ((e:Int))]]):=by
 refine Γ Tryz.func248 21 hw ?_;refine SZ ?_;refine bn [] an rfl (rn [23,0,2,23,1,6,23,2,4,23,3,5,23,4,5] ?_);refine dop 5 rfl (zH rfl (fun w1 a6=>by have h7:=ma (v.st).toNat ((e:Int)).toNat w1 aK aK;rw[Int.toNat_of_nonneg (show 0≤v.st by omega),Int.toNat_of_nonneg (show 0≤(e:Int) by omega)] at h7;exact h7) rfl ?_);refine rn [23,6,2,23,7,40,23,8,40,23,9,3,23,10,3,27,7,8,1,2,48,0] ?_;refine zB rfl (fun h1=>?_) (fun h1=>?_)
 ·have hR:evR e v=(v,8):=by have h9:nxt v.st (e:Int)=0:=(by simpa using h1);unfold evR;rw[bZ h9]
  refine Re ?_;exact dD rfl rfl fun w' a5=>⟨(),aQ,by rw[hR],by rw[hR];exact zA w' a5⟩
 have hR:evR e v=({ v with st:=nxt v.st (e:Int) },0):=by have h9:¬nxt v.st (e:Int)=0:=(by simpa using h1);unfold evR;rw[bY h9]
 refine rn [12,7,1,2,2,6,4] ?_;refine aa (zI rfl rfl rfl rfl rfl rfl rfl ?_);refine zF (b:=b) (V.c { v with st:=nxt v.st (e:Int) }) (by simp[ay,V.c]) (RA ?_);exact dD rfl rfl fun w' a5=>⟨(),aQ,by rw[hR],by rw[hR];exact zA w' a5⟩
theorem nK (b q q2:Nat) (v:V) (e d:Int) (w:World) (hw:W0 [Res.blk b 52 (V.c v),Res.blk q 3 [aH (e)],Res.blk q2 3 [aH (d)]] w) (he:I64 e) (hd:I64 d):au (ι:=Unit) Tryz.prog 249 [aG b,aG q,aG q2] w [Res.blk b 52 (V.c v),Res.blk q 3 [aH (e)],Res.blk q2 3 [aH (d)]] (fun x=>True) (fun x=>.int .i64 (dlR e d v).2) (fun x=>[]) (fun x=>[Res.blk b 52 (V.c (dlR e d v).1),Res.blk q 3 [aH (e)],Res.blk q2 3 [aH (d)]]):=by
 refine Γ Tryz.func249 26 hw ?_;refine rn [1,3,0,1,5,5] ?_;refine aa (bg rfl rfl rfl rfl rfl fun t4=>?_);refine zF (b:=t4) ((([d]:List Int).map aC).flatten) rfl ?_;refine aa (zN [] rfl (fun w1 a6 a8=>by exact pB (e) (some ⟨t4,0,none⟩) 1 1 ([d]:List Int) w1 he (Rd.ofBlk (b:=t4) (els:=([d]:List Int).map aC) a6 rfl aM rfl) (by intro x hx;simp at hx;rw[hx];exact hd) aK) rfl ?_);refine Ro ?_;refine zB rfl (fun h1=>?_) (fun h1=>?_)
 ·have hR:dlR e d v=(v,10):=by have h9:eN [e,d]=false:=(by simpa using h1);unfold dlR;rw[bZ h9]
  refine Re ?_;exact dD rfl rfl fun w' a5=>⟨(),aQ,by rw[hR],by rw[hR];exact zA w' a5⟩
 have hR:dlR e d v=({ v with wd:=max v.wd (eh [e,d]) },0):=by have h9:eN [e,d]=true:=(by simpa using h1);unfold dlR;rw[bY (by rw[h9];simp)]
 refine rn [12,7,1,2,2,6,4,5,2] ?_;refine aa (bg rfl rfl rfl rfl rfl fun H2=>?_);refine zF (b:=H2) ((([v.wd,(eh [e,d])]:List Int).map aC).flatten) rfl ?_;refine aa (zH rfl (fun w1 a6=>Ak (some ⟨H2,0,none⟩) 2 2 ([v.wd,(eh [e,d])]:List Int) w1 (Rdb.toOld (InL.rdb (b:=H2) (els:=(([v.wd,(eh [e,d])]:List Int).map aC)) rfl aM rfl) a6) aK aK) rfl (SY ?_));refine aa (zI rfl rfl rfl rfl rfl rfl rfl ?_);refine zF (b:=b) (V.c { v with wd:=max v.wd (eh [e,d]) }) (by simp[ay,V.c,ko]) (RA ?_);exact dD rfl rfl fun w' a5=>⟨(),aQ,by rw[hR],by rw[hR];exact zA w' a5⟩
theorem BE (b q:Nat) (v:V) (e:Int) (w:World) (hw:W0 [Res.blk b 52 (V.c v),Res.blk q 3 [aH (e)]] w) : au (ι:=Unit) Tryz.prog 281 [aG b,aG q] w [Res.blk b 52 (V.c v),Res.blk q 3 [aH (e)]] (fun x=>True) (fun x=>.int .i64 (asR e v).2) (fun x=>[]) (fun x=>[Res.blk b 52 (V.c (asR e v).1),Res.blk q 3 [aH (e)]]):=by
 refine Γ Tryz.func281 20 hw ?_;refine rn [1,3,0,8,1,2,6,4,5,51,2] ?_;refine zS 9 rfl (fun h1=>?_) (fun h1=>?_)
 ·have hR:asR e v=(v,8):=by unfold asR;rw[bZ bC]
  refine rn [21,21,21,21,21,41,0,19,1,3,0,11,13] ?_;exact dD rfl rfl fun w' a5=>⟨(),aQ,by rw[hR],by rw[hR];exact zA w' a5⟩
 refine rn [22,2,22,6,22,4,22,5,22,51,42,0] ?_;refine zB rfl (fun h2=>?_) (fun h2=>?_)
 ·have hR:asR e v=(v,8):=by unfold asR;rw[bZ bC]
  refine Re ?_;exact dD rfl rfl fun w' a5=>⟨(),aQ,by rw[hR],by rw[hR];exact zA w' a5⟩
 have hR:asR e v=({ v with ex:=e },0):=by unfold asR;rw[bY bC]
 refine rn [12,7,1,2,5,6,4] ?_;refine aa (zI rfl rfl rfl rfl rfl rfl rfl ?_);refine zF (b:=b) (V.c { v with ex:=e }) (by simp[ay,V.c]) (RA ?_);exact dD rfl rfl fun w' a5=>⟨(),aQ,by rw[hR],by rw[hR];exact zA w' a5⟩
theorem we (b q:Nat) (v:V) (e:Int) (w:World) (hw:W0 [Res.blk b 52 (V.c v),Res.blk q 3 [aH (e)]] w) : au (ι:=Unit) Tryz.prog 170 [aG b,aG q] w [Res.blk b 52 (V.c v),Res.blk q 3 [aH (e)]] (fun x=>True) (fun x=>.int .i64 (mkR e v).2) (fun x=>[]) (fun x=>[Res.blk b 52 (V.c (mkR e v).1),Res.blk q 3 [aH (e)]]):=by
 refine Γ Tryz.func170 23 hw ?_;refine rn [1,3,0,8,1,2,6,4,5,0] ?_;refine zB rfl (fun h1=>?_) (fun h1=>?_)
 ·have hR:mkR e v=(v,9):=by unfold mkR;rw[bZ (by simpa using h1)]
  refine Re ?_;exact dD rfl rfl fun w' a5=>⟨(),aQ,by rw[hR],by rw[hR];exact zA w' a5⟩
 have hR:mkR e v=({ v with sl:=true,rq:=if v.st=2 then e else v.rq,dl:=-1 },0):=by unfold mkR;rw[bY (by simpa using h1)]
 refine rn [12,7,8,1,2,6,4,5,44,0] ?_;refine zB rfl (fun h2=>?_) (fun h2=>?_)
 ·have h2:v.st=2:=by simpa using h2
  refine rn [10,2,5,6,4] ?_;refine aa (zI rfl rfl rfl rfl rfl rfl rfl ?_);refine zF (b:=b) (V.c { v with rq:=e }) (by simp[ay,V.c]) (rn [0,1,2,2,6,4] ?_);refine aa (zI rfl rfl rfl rfl rfl rfl rfl (SY ?_));refine aa (zI rfl rfl rfl rfl rfl rfl rfl ?_);refine zF (b:=b) (V.c { v with sl:=true,rq:=if v.st=2 then e else v.rq,dl:=-1 }) (by simp[ay,V.c,h2]) (RA ?_);exact dD rfl rfl fun w' a5=>⟨(),aQ,by rw[hR],by rw[hR];exact zA w' a5⟩
 have h2:¬v.st=2:=by simpa using h2
 refine rn [12,7,1,2,2,6,4] ?_;refine aa (zI rfl rfl rfl rfl rfl rfl rfl (SY ?_));refine aa (zI rfl rfl rfl rfl rfl rfl rfl ?_);refine zF (b:=b) (V.c { v with sl:=true,rq:=if v.st=2 then e else v.rq,dl:=-1 }) (by simp[ay,V.c,h2]) (RA ?_);exact dD rfl rfl fun w' a5=>⟨(),aQ,by rw[hR],by rw[hR];exact zA w' a5⟩
theorem yy (b q:Nat) (v:V) (e:Int) (w:World) (hw:W0 [Res.blk b 52 (V.c v),Res.blk q 3 [aH (e)]] w) : au (ι:=Unit) Tryz.prog 240 [aG b,aG q] w [Res.blk b 52 (V.c v),Res.blk q 3 [aH (e)]] (fun x=>True) (fun x=>.int .i64 (duR e v).2) (fun x=>[]) (fun x=>[Res.blk b 52 (V.c (duR e v).1),Res.blk q 3 [aH (e)]]):=by
 refine Γ Tryz.func240 13 hw ?_;refine rn [1,3,0,8,8] ?_;refine bn [] an rfl (rn [23,0,5,23,1,2,23,2,6,23,3,4,23,4,5,23,5,46,27,7] ?_);refine zB rfl (fun h1=>?_) (fun h1=>?_)
 ·have hR:duR e v=(v,8):=by unfold duR;rw[bZ (by simpa using h1)]
  refine Re ?_;exact dD rfl rfl fun w' a5=>⟨(),aQ,by rw[hR],by rw[hR];exact zA w' a5⟩
 have hR:duR e v=({ v with bal:=0 },0):=by unfold duR;rw[bY (by simpa using h1)]
 refine rn [12,7,1,2,6,4] ?_;refine aa (zI rfl rfl rfl rfl rfl rfl rfl ?_);refine zF (b:=b) (V.c { v with bal:=0 }) (by simp[ay,V.c]) (RA ?_);exact dD rfl rfl fun w' a5=>⟨(),aQ,by rw[hR],by rw[hR];exact zA w' a5⟩
theorem uO (e:Int) (w:World) : au (ι:=Nat) Tryz.prog 174 [aH e] w [] (fun x=>True) (fun x=>.func (.func 248) #[] [aG x].toArray) (fun x=>[Res.blk x 3 [aH (e)]]) (fun x=>[]):=by
 refine Γ Tryz.func174 4 (WOK.start (fps []) _) ?_;refine Ri ?_;refine aa (aq rfl rfl rfl fun b1=>SA ?_);exact dD rfl rfl fun w' a5=>⟨b1,aQ,rfl,zA w' a5⟩
theorem sO (e d:Int) (w:World) : au (ι:=(Nat × Nat)) Tryz.prog 175 [aH e,aH d] w [] (fun x=>True) (fun x=>.func (.func 249) #[] [aG x.1,aG x.2].toArray) (fun x=>[Res.blk x.1 3 [aH (e)],Res.blk x.2 3 [aH (d)]]) (fun x=>[]):=by
 refine Γ Tryz.func175 6 (WOK.start (fps []) _) ?_;refine Ri ?_;refine aa (aq rfl rfl rfl fun b2=>?_);refine aa (aq rfl rfl rfl fun b3=>SA ?_);exact dD rfl rfl fun w' a5=>⟨(b2,b3),aQ,rfl,zA w' a5⟩
structure Chg (σ:Type) where
 f:Nat
 cap:List Value
 run:V→σ→V × Int × σ
def Chg.val {σ:Type} (c:Chg σ):Value:=.func (.func c.f) #[] c.cap.toArray
def dS {σ:Type}:List (Chg σ)→V→σ→V × Int × σ
 | [],v,s=>(v,0,s)
 | c :: r,v,s=>if(c.run v s).2.1=0 then dS r (c.run v s).1 (c.run v s).2.2 else(V.z,(c.run v s).2.1,(c.run v s).2.2)
structure Chg.OK {σ:Type} (rr:σ→Res) (ok:V→σ→Prop) (c:Chg σ):Prop where
 hb:gI Tryz.prog c.f=true
 st:∀v s,ok v s→(c.run v s).2.1=0→ok (c.run v s).1 (c.run v s).2.2
 go:∀b v s w,WOK (fps [Res.blk b 52 v.c,rr s]) w [Res.blk b 52 v.c,rr s] w→ok v s→au (ι:=Unit) Tryz.prog c.f (aG b :: c.cap) w [Res.blk b 52 v.c,rr s] (fun _=>True) (fun _=>.int .i64 (c.run v s).2.1) (fun _=>[]) (fun _=>[Res.blk b 52 (c.run v s).1.c,rr (c.run v s).2.2])
theorem utx {σ:Type} {fs:List (Chg σ)} {k:Nat} (h:k<fs.length) {v:V} {s:σ} (h0:(fs[k].run v s).2.1=0):dS (fs.drop k) v s=dS (fs.drop (k+1)) (fs[k].run v s).1 (fs[k].run v s).2.2:=by
 rw[List.drop_eq_getElem_cons h,dS,bZ h0]
theorem ow {σ:Type} {fs:List (Chg σ)} {k:Nat} (h:k<fs.length) {v:V} {s:σ} (h0:¬(fs[k].run v s).2.1=0):dS (fs.drop k) v s=(V.z,(fs[k].run v s).2.1,(fs[k].run v s).2.2):=by
 rw[List.drop_eq_getElem_cons h,dS,bY h0]
theorem au.unstar {ι:Type} {P:Program} {f:FuncId} {args:List Value} {w:World} {Ls:List Res} {p:ι→Prop} {val:ι→Value} {Ls1:ι→List Res} (h:WOK (fps [Res.star Ls]) w [Res.star Ls] w→au P f args w [.star Ls] p val (fun _=>[]) (fun x=>[.star (Ls1 x)])) (hw:WOK (fps Ls) w Ls w) :
  au P f args w Ls p val (fun _=>[]) Ls1:=by
 have h1:WOK (fps [Res.star Ls]) w [Res.star Ls] w:=by rw[vR];exact WOK.closed (L:=[]) (by rw[cZ];exact hw)
 refine Ret.mono (h h1) fun v w' ⟨x,hp,hv,u2⟩=>⟨x,hp,hv,?_⟩
 rw[vR] at u2;have h3:WOK (fps Ls) w (Res.star (Ls1 x) :: []) w' := u2;have:=h3.opened;rwa [cZ] at this
theorem Chg.go_of {f:Nat} {args:List Value} {r0 r1:Res} {Lin Lrep Ls Ls1:List Res} {val:Value} {w:World} (hw:W0 [r0,.star Ls] w) (hs:Swap (r0 :: Ls) Lin Lrep (r1 :: Ls1)) (S5:Sub (r0 :: Ls) Lin)
  (h:∀w,WOK (fps Lin) w Lin w→au (ι:=Unit) Tryz.prog f args w Lin (fun _=>True) (fun _=>val) (fun _=>[]) (fun _=>Lrep)):au (ι:=Unit) Tryz.prog f args w [r0,.star Ls] (fun _=>True) (fun _=>val) (fun _=>[]) (fun _=>[r1,.star Ls1]) :=
 au.star (r1:=fun _=>r1) (Ls1:=fun _=>Ls1) (fun a6=>au.into (L' := fun _=>r1 :: Ls1) a6 (fun _=>hs) S5 (fun u2=>h w u2)) hw
theorem xN {σ:Type} (rr:σ→Res) (ok:V→σ→Prop) (fs:List (Chg σ)) (v:V) (s:σ) (q:Nat) (w:World) (hw:W0 [rr s] w) (hfs:∀c∈fs,c.OK rr ok) (i6:ok v s) (hr:Rd w [rr s] (some ⟨q,0,none⟩) fs.length 1 (fs.map (fun c:Chg σ=>[Chg.val c]))) (hfl:fs.length≤100):au (ι:=Unit) Tryz.prog 173 [v.v,.slice (some ⟨q,0,none⟩) fs.length fs.length] w [rr s] (fun x=>True) (fun x=>.tuple [V.v (dS fs v s).1,aH (dS fs v s).2.1].toArray) (fun x=>[]) (fun x=>[rr (dS fs v s).2.2]):=by
 refine Γ Tryz.func173 23 hw ?_;refine Ri ?_;refine aa (aq (c:=V.c v) rfl rfl rfl fun b2=>?_);refine aa (zK rfl fun b4=>Su ?_);refine zF (b:=b4) (V.c V.z) rfl ?_;refine dP [2,4,5,9,10] (fun(x:Nat × V × σ)=>[(11,aI x.1)]) (fun(x:Nat × V × σ)=>[Res.blk b4 52 (V.c V.z),Res.blk b2 52 (V.c x.2.1),rr x.2.2]) (fun(x:Nat × V × σ)=>x.1≤fs.length∧ok x.2.1 x.2.2∧dS (fs.drop x.1) x.2.1 x.2.2=dS fs v s) (fun(x:Nat × V × σ)=>fs.length-x.1) (0,v,s) (by(try dsimp only);exact⟨cN _,i6,rfl⟩) ?_;rintro⟨k,v1,s1⟩ ⟨f6,Z9,hap⟩;replace f6:k≤fs.length:=f6;replace Z9:ok v1 s1:=Z9;replace hap:dS (fs.drop k) v1 s1=dS fs v s:=hap;refine yB (L' := [Res.blk b4 52 (V.c V.z),Res.blk b2 52 (V.c v1),rr s1]) rfl ?_;refine ae 11 (v' := aI k) rfl rfl (Rj ?_);refine zB rfl (fun h1=>?_) (fun h1=>?_)
 ·have f8:k<fs.length:=by have h9:=bW h1;omega
  refine Ry ?_;refine s_q (zM (i:=k) rfl rfl rfl hr.rdb aN) rfl ?_;refine s_q (zX (i:=k) (o:=0) rfl hr.rdb (zP aN) rfl rfl) rfl (RR ?_);refine aa (xV (hb:=⟨(hfs _ (cC f8)).hb⟩) (f:=fs[k].f) (cap:=fs[k].cap) (fst:=[]) [Res.blk b2 52 v1.c,rr s1] rfl rfl (fun w1 a6 a8=>by have h7:=(hfs _ (cC f8)).go b2 v1 s1 w1 a8 Z9;exact h7) rfl ?_);rintro⟨⟩ _;refine ii (rn [3,0,1,2,51,0] ?_);refine zB rfl (fun h2=>?_) (fun h2=>?_)
  ·have hz:¬(fs[k].run v1 s1).2.1=0:=by simpa using h2
   have hR:=ow f8 hz;rw[hap] at hR;refine rn [1,49,2,33] ?_;refine zF (b:=b4) (V.c V.z) rfl (Rb ?_);refine zL (zD (zD (zL (zD ?_))));exact dH rfl (.cellw rfl rfl) (.tmp rfl) fun w' a5=>⟨(),aQ,by rw[hR];rfl,by rw[hR];exact zA w' a5⟩
  have hz:(fs[k].run v1 s1).2.1=0:=by simpa using h2
  refine RK ?_;exact cr ((k+1),(fs[k].run v1 s1).1,(fs[k].run v1 s1).2.2) (by(try dsimp only);exact⟨aN,((hfs _ (cC f8)).st v1 s1 Z9 hz),(by rw[←utx f8 hz];exact hap)⟩)
 have f9:k=fs.length:=by have h9:=bX h1;omega
 have hR:dS fs v s=(v1,0,s1):=by rw[←hap,f9,List.drop_length];rfl
 refine Ru ?_;refine zE (zE (zQ (rn [7,1,45,33] ?_)));refine zF (b:=b4) (V.c v1) (yH rfl) (Rb ?_);exact dH rfl (.cellw rfl rfl) (.tmp rfl) fun w' a5=>⟨(),aQ,by rw[hR];rfl,by rw[hR];exact zA w' a5⟩
theorem jt (x y:Nat) (w:World) (hx:x<18446744073709551616) (hy:y<18446744073709551616):Pur Tryz.prog 145 [aJ ((x:Nat):Int),aJ ((y:Nat):Int)] w (.tuple [aJ ((x*y/18446744073709551616:Nat):Int),aJ ((x*y%18446744073709551616:Nat):Int)].toArray):=by
 refine Γ Tryz.func145 51 (WOK.start [] _) ?_;obtain⟨bd,bt,bw,hhi⟩:=Lib.mul64_hi x y hx hy;have ba:=Lib.half_mul_le (a:=x/4294967296) (b:=y/4294967296) aK aK;have bb:=Lib.half_mul_le (a:=x/4294967296) (b:=y%4294967296) aK aK;have bc:=Lib.half_mul_le (a:=x%4294967296) (b:=y/4294967296) aK aK;refine rn [1,3,3,0,1,2] ?_;refine s_q (rZ (a:=x) rfl rfl hx) rfl (RR ?_);refine s_q (uU (a:=x) rfl rfl) rfl (RR ?_);refine s_q (rZ (a:=y) rfl rfl hy) rfl (RR ?_);refine s_q (uU (a:=y) rfl rfl) rfl (Sr ?_);refine s_q (qV (a:=(x%4294967296)) (b:=(y%4294967296)) rfl rfl bd) rfl (Sr ?_);refine s_q (qV (a:=(x/4294967296)) (b:=(y%4294967296)) rfl rfl aK) rfl (SD ?_);refine s_q (uU (a:=(x%4294967296)*(y%4294967296)) rfl rfl) rfl ?_;refine s_q (kc (a:=(x/4294967296)*(y%4294967296)) (b:=(x%4294967296)*(y%4294967296)/4294967296) rfl rfl bt) rfl (RR ?_);refine s_q (rZ (a:=((x/4294967296)*(y%4294967296)+(x%4294967296)*(y%4294967296)/4294967296)) rfl rfl bt) rfl (RR ?_);refine s_q (uU (a:=((x/4294967296)*(y%4294967296)+(x%4294967296)*(y%4294967296)/4294967296)) rfl rfl) rfl (rn [3,0,1,2,2,2] ?_);refine s_q (qV (a:=(x%4294967296)) (b:=(y/4294967296)) rfl rfl aK) rfl ?_;refine s_q (kc (a:=((x/4294967296)*(y%4294967296)+(x%4294967296)*(y%4294967296)/4294967296)%4294967296) (b:=(x%4294967296)*(y/4294967296)) rfl rfl bw) rfl (Sr ?_);refine s_q (qV (a:=(x/4294967296)) (b:=(y/4294967296)) rfl rfl aK) rfl (SD ?_);refine s_q (kc (a:=(x/4294967296)*(y/4294967296)) (b:=((x/4294967296)*(y%4294967296)+(x%4294967296)*(y%4294967296)/4294967296)/4294967296) rfl rfl aK) rfl (SD ?_);refine s_q (uU (a:=(((x/4294967296)*(y%4294967296)+(x%4294967296)*(y%4294967296)/4294967296)%4294967296+(x%4294967296)*(y/4294967296))) rfl rfl) rfl ?_;refine s_q (kc (a:=(x/4294967296)*(y/4294967296)+((x/4294967296)*(y%4294967296)+(x%4294967296)*(y%4294967296)/4294967296)/4294967296) (b:=(((x/4294967296)*(y%4294967296)+(x%4294967296)*(y%4294967296)/4294967296)%4294967296+(x%4294967296)*(y/4294967296))/4294967296) rfl rfl aK) rfl (Sr ?_);refine s_q (Bx (a:=x) (b:=y) rfl rfl) rfl (Rb ?_);exact dE rfl rfl rfl fun w' a5=>⟨by rw[←hhi],a5.upd⟩
theorem yp (x y:Nat) (w:World) (hx:x<18446744073709551616) (hy:y<18446744073709551616):Pur Tryz.prog 290 [aJ ((x:Nat):Int),aJ ((y:Nat):Int)] w (.agg #[aJ ((x*y/18446744073709551616:Nat):Int),aJ ((x*y%18446744073709551616:Nat):Int)]):=by
 refine Γ Tryz.func290 16 (WOK.start [] _) ?_;refine Ri ?_;refine aa (zK rfl fun b4=>SE ?_);refine aa (zH rfl (fun w1 a6=>jt x y w1 hx hy) rfl (rn [2,40,40,3,3,0,1,2,2,49,33,0,11] ?_));exact dG rfl (.cellw rfl rfl) fun w' a5=>⟨aP,a5.upd⟩
theorem tq (y:Nat) (w:World) (hx:y<18446744073709551616) (h0:1≤y):au (ι:=Nat) Tryz.prog 324 [aJ ((y:Nat):Int)] w [] (fun x=>dt y x∧x≤64) (fun x=>.int .i64 (x:Int)) (fun x=>[]) (fun x=>[]):=by
 refine Γ Tryz.func324 25 (WOK.start (fps []) _) ?_;refine rn [1,3,0,8,1,2,53,0] ?_;refine zB rfl (fun h1=>?_) (fun h1=>?_)
 ·have hc32:=bW h1;refine Nb ?_;refine s_q (uA (a:=y) (n:=32) rfl rfl aK) rfl (rn [3,0,10,3,0,8,1,2,53,0] ?_);refine zB rfl (fun h2=>?_) (fun h2=>?_)
  ·have hc16:=bW h2;refine Nb ?_;refine s_q (uA (a:=(y/2 ^ 32)) (n:=16) rfl rfl aK) rfl (rn [3,0,10,2] ?_);refine s_q (yI (z:=48) rfl rfl rfl) rfl (rn [3,0,8,1,2,53,0] ?_);refine zB rfl (fun h3=>?_) (fun h3=>?_)
   ·have H8:=bW h3;refine Nb ?_;refine s_q (uA (a:=((y/2 ^ 32)/2 ^ 16)) (n:=8) rfl rfl aK) rfl (rn [3,0,10,2] ?_);refine s_q (yI (z:=56) rfl rfl rfl) rfl (rn [3,0,1] ?_);have u7:0<(((y/2 ^ 32)/2 ^ 16)/2 ^ 8):=by simp_all;omega
    have j1:(((y/2 ^ 32)/2 ^ 16)/2 ^ 8)<256:=by simp_all;omega
    refine rn [2,2] ?_;refine s_q (yS (z:=(((((y/2 ^ 32)/2 ^ 16)/2 ^ 8):Nat):Int)) rfl (by rw[IntKind.wrap_u8];omega)) rfl ?_;refine s_q (tM (a:=(((y/2 ^ 32)/2 ^ 16)/2 ^ 8)) aL rfl rfl bH j1) rfl ?_;refine s_q (yS (z:=((eZ (((y/2 ^ 32)/2 ^ 16)/2 ^ 8):Nat):Int)) rfl (dY aK (by have h8:=(dt.of8 j1 u7).2;omega))) rfl ?_;refine s_q (yI (z:=56+((eZ (((y/2 ^ 32)/2 ^ 16)/2 ^ 8):Nat):Int)) rfl rfl (dY aK (by have h8:=(dt.of8 j1 u7).2;omega))) rfl (Rb ?_);exact dD rfl rfl fun w' a5=>⟨(eZ (((y/2 ^ 32)/2 ^ 16)/2 ^ 8)+8+16+32),(by(try dsimp only);exact⟨((((dt.of8 j1 u7).1).up 8).up 16).up 32,by have h8:=(dt.of8 j1 u7).2;omega⟩),by congr 1;omega,zA w' a5⟩
   have H8:=bX h3;refine rn [12,7,1] ?_;have u7:0<((y/2 ^ 32)/2 ^ 16):=by simp_all;omega
   have j1:((y/2 ^ 32)/2 ^ 16)<256:=by simp_all;omega
   refine rn [2,2] ?_;refine s_q (yS (z:=((((y/2 ^ 32)/2 ^ 16):Nat):Int)) rfl (by rw[IntKind.wrap_u8];omega)) rfl ?_;refine s_q (tM (a:=((y/2 ^ 32)/2 ^ 16)) aL rfl rfl bH j1) rfl ?_;refine s_q (yS (z:=((eZ ((y/2 ^ 32)/2 ^ 16):Nat):Int)) rfl (dY aK (by have h8:=(dt.of8 j1 u7).2;omega))) rfl ?_;refine s_q (yI (z:=48+((eZ ((y/2 ^ 32)/2 ^ 16):Nat):Int)) rfl rfl (dY aK (by have h8:=(dt.of8 j1 u7).2;omega))) rfl (Rb ?_);exact dD rfl rfl fun w' a5=>⟨(eZ ((y/2 ^ 32)/2 ^ 16)+16+32),(by(try dsimp only);exact⟨(((dt.of8 j1 u7).1).up 16).up 32,by have h8:=(dt.of8 j1 u7).2;omega⟩),by congr 1;omega,zA w' a5⟩
  have hc16:=bX h2;refine rn [12,7,8,1,2,53,0] ?_;refine zB rfl (fun h4=>?_) (fun h4=>?_)
  ·have H8:=bW h4;refine Nb ?_;refine s_q (uA (a:=(y/2 ^ 32)) (n:=8) rfl rfl aK) rfl (rn [3,0,10,2] ?_);refine s_q (yI (z:=40) rfl rfl rfl) rfl (rn [3,0,1] ?_);have u7:0<((y/2 ^ 32)/2 ^ 8):=by simp_all;omega
   have j1:((y/2 ^ 32)/2 ^ 8)<256:=by simp_all;omega
   refine rn [2,2] ?_;refine s_q (yS (z:=((((y/2 ^ 32)/2 ^ 8):Nat):Int)) rfl (by rw[IntKind.wrap_u8];omega)) rfl ?_;refine s_q (tM (a:=((y/2 ^ 32)/2 ^ 8)) aL rfl rfl bH j1) rfl ?_;refine s_q (yS (z:=((eZ ((y/2 ^ 32)/2 ^ 8):Nat):Int)) rfl (dY aK (by have h8:=(dt.of8 j1 u7).2;omega))) rfl ?_;refine s_q (yI (z:=40+((eZ ((y/2 ^ 32)/2 ^ 8):Nat):Int)) rfl rfl (dY aK (by have h8:=(dt.of8 j1 u7).2;omega))) rfl (Rb ?_);exact dD rfl rfl fun w' a5=>⟨(eZ ((y/2 ^ 32)/2 ^ 8)+8+32),(by(try dsimp only);exact⟨(((dt.of8 j1 u7).1).up 8).up 32,by have h8:=(dt.of8 j1 u7).2;omega⟩),by congr 1;omega,zA w' a5⟩
  have H8:=bX h4;refine rn [12,7,1] ?_;have u7:0<(y/2 ^ 32):=by simp_all;omega
  have j1:(y/2 ^ 32)<256:=by simp_all;omega
  refine rn [2,2] ?_;refine s_q (yS (z:=(((y/2 ^ 32):Nat):Int)) rfl (by rw[IntKind.wrap_u8];omega)) rfl ?_;refine s_q (tM (a:=(y/2 ^ 32)) aL rfl rfl bH j1) rfl ?_;refine s_q (yS (z:=((eZ (y/2 ^ 32):Nat):Int)) rfl (dY aK (by have h8:=(dt.of8 j1 u7).2;omega))) rfl ?_;refine s_q (yI (z:=32+((eZ (y/2 ^ 32):Nat):Int)) rfl rfl (dY aK (by have h8:=(dt.of8 j1 u7).2;omega))) rfl (Rb ?_);exact dD rfl rfl fun w' a5=>⟨(eZ (y/2 ^ 32)+32),(by(try dsimp only);exact⟨((dt.of8 j1 u7).1).up 32,by have h8:=(dt.of8 j1 u7).2;omega⟩),by congr 1;omega,zA w' a5⟩
 have hc32:=bX h1;refine rn [12,7,8,1,2,53,0] ?_;refine zB rfl (fun h5=>?_) (fun h5=>?_)
 ·have hc16:=bW h5;refine Nb ?_;refine s_q (uA (a:=y) (n:=16) rfl rfl aK) rfl (rn [3,0,10,2] ?_);refine s_q (yI (z:=16) rfl rfl rfl) rfl (rn [3,0,8,1,2,53,0] ?_);refine zB rfl (fun h6=>?_) (fun h6=>?_)
  ·have H8:=bW h6;refine Nb ?_;refine s_q (uA (a:=(y/2 ^ 16)) (n:=8) rfl rfl aK) rfl (rn [3,0,10,2] ?_);refine s_q (yI (z:=24) rfl rfl rfl) rfl (rn [3,0,1] ?_);have u7:0<((y/2 ^ 16)/2 ^ 8):=by simp_all;omega
   have j1:((y/2 ^ 16)/2 ^ 8)<256:=by simp_all;omega
   refine rn [2,2] ?_;refine s_q (yS (z:=((((y/2 ^ 16)/2 ^ 8):Nat):Int)) rfl (by rw[IntKind.wrap_u8];omega)) rfl ?_;refine s_q (tM (a:=((y/2 ^ 16)/2 ^ 8)) aL rfl rfl bH j1) rfl ?_;refine s_q (yS (z:=((eZ ((y/2 ^ 16)/2 ^ 8):Nat):Int)) rfl (dY aK (by have h8:=(dt.of8 j1 u7).2;omega))) rfl ?_;refine s_q (yI (z:=24+((eZ ((y/2 ^ 16)/2 ^ 8):Nat):Int)) rfl rfl (dY aK (by have h8:=(dt.of8 j1 u7).2;omega))) rfl (Rb ?_);exact dD rfl rfl fun w' a5=>⟨(eZ ((y/2 ^ 16)/2 ^ 8)+8+16),(by(try dsimp only);exact⟨(((dt.of8 j1 u7).1).up 8).up 16,by have h8:=(dt.of8 j1 u7).2;omega⟩),by congr 1;omega,zA w' a5⟩
  have H8:=bX h6;refine rn [12,7,1] ?_;have u7:0<(y/2 ^ 16):=by simp_all;omega
  have j1:(y/2 ^ 16)<256:=by simp_all;omega
  refine rn [2,2] ?_;refine s_q (yS (z:=(((y/2 ^ 16):Nat):Int)) rfl (by rw[IntKind.wrap_u8];omega)) rfl ?_;refine s_q (tM (a:=(y/2 ^ 16)) aL rfl rfl bH j1) rfl ?_;refine s_q (yS (z:=((eZ (y/2 ^ 16):Nat):Int)) rfl (dY aK (by have h8:=(dt.of8 j1 u7).2;omega))) rfl ?_;refine s_q (yI (z:=16+((eZ (y/2 ^ 16):Nat):Int)) rfl rfl (dY aK (by have h8:=(dt.of8 j1 u7).2;omega))) rfl (Rb ?_);exact dD rfl rfl fun w' a5=>⟨(eZ (y/2 ^ 16)+16),(by(try dsimp only);exact⟨((dt.of8 j1 u7).1).up 16,by have h8:=(dt.of8 j1 u7).2;omega⟩),by congr 1;omega,zA w' a5⟩
 have hc16:=bX h5;refine rn [12,7,8,1,2,53,0] ?_;refine zB rfl (fun h7=>?_) (fun h7=>?_)
 ·have H8:=bW h7;refine Nb ?_;refine s_q (uA (a:=y) (n:=8) rfl rfl aK) rfl (rn [3,0,10,2] ?_);refine s_q (yI (z:=8) rfl rfl rfl) rfl (rn [3,0,1] ?_);have u7:0<(y/2 ^ 8):=by simp_all;omega
  have j1:(y/2 ^ 8)<256:=by simp_all;omega
  refine rn [2,2] ?_;refine s_q (yS (z:=(((y/2 ^ 8):Nat):Int)) rfl (by rw[IntKind.wrap_u8];omega)) rfl ?_;refine s_q (tM (a:=(y/2 ^ 8)) aL rfl rfl bH j1) rfl ?_;refine s_q (yS (z:=((eZ (y/2 ^ 8):Nat):Int)) rfl (dY aK (by have h8:=(dt.of8 j1 u7).2;omega))) rfl ?_;refine s_q (yI (z:=8+((eZ (y/2 ^ 8):Nat):Int)) rfl rfl (dY aK (by have h8:=(dt.of8 j1 u7).2;omega))) rfl (Rb ?_);exact dD rfl rfl fun w' a5=>⟨(eZ (y/2 ^ 8)+8),(by(try dsimp only);exact⟨((dt.of8 j1 u7).1).up 8,by have h8:=(dt.of8 j1 u7).2;omega⟩),by congr 1;omega,zA w' a5⟩
 have H8:=bX h7;refine rn [12,7,1] ?_;have u7:0<y:=by simp_all;omega
 have j1:y<256:=by simp_all;omega
 refine rn [2,2] ?_;refine s_q (yS (z:=((y:Nat):Int)) rfl (by rw[IntKind.wrap_u8];omega)) rfl ?_;refine s_q (tM (a:=y) aL rfl rfl bH j1) rfl ?_;refine s_q (yS (z:=((eZ y:Nat):Int)) rfl (dY aK (by have h8:=(dt.of8 j1 u7).2;omega))) rfl ?_;refine s_q (yI (z:=0+((eZ y:Nat):Int)) rfl rfl (dY aK (by have h8:=(dt.of8 j1 u7).2;omega))) rfl (Rb ?_);exact dD rfl rfl fun w' a5=>⟨(eZ y),(by(try dsimp only);exact⟨(dt.of8 j1 u7).1,by have h8:=(dt.of8 j1 u7).2;omega⟩),by congr 1;omega,zA w' a5⟩
theorem zu (y:Nat) (w:World) (hx:y<18446744073709551616) (hy:1≤y):au (ι:=Nat) Tryz.prog 320 [aJ ((y:Nat):Int)] w [] (fun x=>BT y x) (fun x=>.int .i64 (x:Int)) (fun x=>[]) (fun x=>[]):=by
 refine Γ Tryz.func320 6 (WOK.start (fps []) _) ?_;refine Sq ?_;refine aa (zJ [] rfl (fun w1 a6 a8=>by have h7:=tq y w1 hx hy;exact h7) rfl ?_);rintro n4 h4;refine ii ?_;have h5:=h4.2;refine s_q (yN (z:=((64-n4:Nat):Int)) rfl rfl (by rw[dY aK aK];omega)) rfl (Rb ?_);exact dD rfl rfl fun w' a5=>⟨(64-n4),(by exact h4.1.nrm h4.2 hy),rfl,zA w' a5⟩
theorem Fb {s:Nat} (h:s≤64):IntKind.u64.wrap (64-(s:Int))=((64-s:Nat):Int):=by rw[cF];omega
theorem tx (hi lo y:Nat) (w:World) (hy:1≤y) (hy2:y≤4294967296) (hh:hi<y) (hl:lo<18446744073709551616):au (ι:=Int) Tryz.prog 291 [aJ ((hi:Nat):Int),aJ ((lo:Nat):Int),aJ ((y:Nat):Int)] w [] (fun x=>True) (fun x=>.tuple [aJ (((hi*18446744073709551616+lo)/y:Nat):Int),aJ x].toArray) (fun x=>[]) (fun x=>[]):=by
 refine Γ Tryz.func291 135 (WOK.start (fps []) _) ?_;refine rn [1,3,3,0,8,1,2,44] ?_;refine zV 20 (b:=false) rfl (GM hy) (rn [0,20,12,7,8,1,2,2,56] ?_);refine zV 24 (b:=false) rfl (GA hh) (rn [0,20,12,7,8,1,2,44,0] ?_);refine zB rfl (fun h1=>?_) (fun h1=>?_)
 ·have hz:hi=0:=by have h9:=bW h1;omega
  subst hz;refine rn [8] ?_;refine bn [] an rfl (RV ?_);refine dq 2 rfl (oC (a:=lo) (b:=y) rfl rfl hl hy) (rn [23,3,2,23,4,2] ?_);refine dq 5 rfl (mI rfl rfl aK) (rn [23,6,3,23,7,3,27,7,11,13] ?_);exact dE rfl rfl rfl fun w' a5=>⟨_,aQ,by first|rfl|(simp;rfl),zA w' a5⟩
 have hz:hi≠0:=by have h9:=bX h1;omega
 refine Sx ?_;refine aa (zJ [] rfl (fun w1 a6 a8=>by have h7:=zu y w1 aK hy;exact h7) rfl ?_);rintro s hs;refine ii ?_;obtain⟨v,U,R,D⟩:=FD hy hy2 hh hl hs;obtain⟨m1,m2,m3,m4,m5,m6⟩:=D.more;obtain⟨d1,d2,d3,d4,d5,d6,d7,d8,d9,d10,d11⟩:=D;have hs63:=hs.le;have S8:s≤64:=Nat.le_succ_of_le hs63;refine s_q (yS (z:=((s:Nat):Int)) rfl (ey (Int.natCast_nonneg _) (Int.ofNat_lt.2 (Nat.lt_of_le_of_lt hs63 aO)))) rfl (Sr ?_);refine s_q (ka (a:=y) (n:=s) rfl rfl S8) rfl ?_;refine ae 39 (v' := aJ ((v*4294967296:Nat):Int)) rfl (by rw[d2,Nat.mod_eq_of_lt m1]) (RR ?_);refine s_q (uU (a:=v*4294967296) rfl rfl) rfl ?_;refine ae 41 (v' := aJ ((v:Nat):Int)) rfl (by rw[Nat.mul_div_cancel _ aO]) (RR ?_);refine s_q (rZ (a:=v*4294967296) rfl rfl m1) rfl ?_;refine ae 43 (v' := aJ ((0:Nat):Int)) rfl (by rw[Nat.mul_mod_left]) (Sr ?_);refine s_q (ka (a:=hi) (n:=s) rfl rfl S8) rfl (rn [2,2] ?_);refine s_q (yN (z:=((64-s:Nat):Int)) rfl rfl (Fb S8)) rfl ?_;refine s_q (uA (a:=lo) (n:=64-s) rfl rfl (Nat.sub_le _ _)) rfl ?_;refine s_q (DW (a:=hi*2 ^ s%18446744073709551616) (b:=lo/2 ^ (64-s)) rfl rfl (cW _ aO) (Nat.lt_of_le_of_lt (Nat.div_le_self _ _) hl)) rfl ?_;refine ae 51 (v' := aJ ((U:Nat):Int)) rfl (by rw[d4]) (Sr ?_);refine s_q (ka (a:=lo) (n:=s) rfl rfl S8) rfl ?_;refine ae 54 (v' := aJ ((R:Nat):Int)) rfl (by rw[d5]) (RR ?_);refine s_q (uU (a:=R) rfl rfl) rfl (RR ?_);refine s_q (rZ (a:=R) rfl rfl d7) rfl (Sr ?_);refine s_q (oC (a:=U) (b:=v) rfl rfl m2 d1) rfl (rn [3,0,1,2,2,2] ?_);refine s_q (qV (a:=U/v) (b:=v) rfl rfl (Nat.lt_of_le_of_lt m3 m2)) rfl ?_;refine s_q (ym (a:=U) (b:=U/v*v) rfl rfl m3 m2) rfl ?_;refine ae 66 (v' := aJ ((U%v:Nat):Int)) rfl (by rw[m4]) (rn [3,0,8,14] ?_);refine dP [2,6,7,8,9,10,11,13,14] (fun(x:Nat)=>[(15,aJ ((U/v:Nat):Int)),(16,aJ ((U%v:Nat):Int))]) (fun(x:Nat)=>[]) (fun(x:Nat)=>True) (fun(x:Nat)=>0*x) 0 (trivial) ?_;rintro u _;refine rn [8,1,2,53] ?_;refine zV 68 (b:=false) rfl (Db d9) (rn [2,22,2,22,2] ?_);refine nh (uB (z:=0) rfl rfl (by simp[cF])) rfl rfl rfl (rn [22,2,22,60,22,2,22,54,22,55] ?_);refine zV 77 (b:=false) rfl (Da _) (rn [42,0,20,16] ?_);refine zE (zE (zQ (rn [7,1,2,60,2,54,2,2,60] ?_)));refine s_q (yN (z:=(((U%v*4294967296+R/4294967296):Nat):Int)) rfl rfl (wr1 U v R m5)) rfl (Sr ?_);refine s_q (oC (a:=(U%v*4294967296+R/4294967296)) (b:=v) rfl rfl m5 d1) rfl (rn [3,0,1,2,2,2] ?_);refine s_q (qV (a:=(U%v*4294967296+R/4294967296)/v) (b:=v) rfl rfl (Nat.lt_of_le_of_lt m6 m5)) rfl ?_;refine s_q (ym (a:=(U%v*4294967296+R/4294967296)) (b:=(U%v*4294967296+R/4294967296)/v*v) rfl rfl m6 m5) rfl (rn [3,0,8,14] ?_);refine dP [2,6,7,8,9,10,14,15,17] (fun(x:Nat)=>[(18,aJ (((U%v*4294967296+R/4294967296)/v:Nat):Int)),(16,aJ (((U%v*4294967296+R/4294967296)-(U%v*4294967296+R/4294967296)/v*v:Nat):Int))]) (fun(x:Nat)=>[]) (fun(x:Nat)=>True) (fun(x:Nat)=>0*x) 0 (trivial) ?_;rintro u _;refine rn [8,1,2,53] ?_;refine zV 103 (b:=false) rfl (Db d10) (rn [2,22,2,22,2] ?_);refine nh (uB (z:=0) rfl rfl (by simp[cF])) rfl rfl rfl (rn [22,2,22,60,22,2,22,54,22,55] ?_);refine zV 112 (b:=false) rfl (Da _) (rn [42,0,20,16] ?_);refine zE (zE (zQ (rn [7,1,2,60,2] ?_)));refine s_q (yI (z:=(((hi*18446744073709551616+lo)/y:Nat):Int)) rfl rfl (by rw[←d8];exact wr2 _ _ d9 d10)) rfl (rn [2,60,2,54,2,2,60,57,2] ?_);refine s_q (EE (n:=s) rfl rfl S8) rfl (rn [3,3,0,11] ?_);exact dE rfl rfl rfl fun w' a5=>⟨_,aQ,by first|rfl|(simp;rfl),zA w' a5⟩
theorem oG (x y z:Nat) (w:World) (hx:x<18446744073709551616) (hz1:1≤z) (hz2:z≤4294967296) (hyz:y≤z):Pur Tryz.prog 247 [aJ ((x:Nat):Int),aJ ((y:Nat):Int),aJ ((z:Nat):Int)] w (.tuple [aJ ((x*y/z:Nat):Int),.bool true].toArray):=by
 refine Γ Tryz.func247 28 (WOK.start [] _) ?_;have hlt:x*y/18446744073709551616<z:=by
   rw[Nat.div_lt_iff_lt_mul aO];exact Nat.lt_of_le_of_lt (Nat.mul_le_mul_left x hyz) (by rw[Nat.mul_comm x];exact Nat.mul_lt_mul_of_pos_left hx aK)
 refine rn [1,3,3,0,1,2,2] ?_;refine aa (zH rfl (fun w1 a6=>yp x y w1 aK aK) rfl ?_);refine aa (zK rfl fun b8=>rn [33,0,8,1] ?_);refine s_q (yO (i:=0) rfl rfl rfl aO) rfl (rn [5,2,53,0] ?_);refine zB rfl (fun h1=>?_) (fun h1=>?_)
 ·exfalso;have h9:=bW h1;omega
 refine rn [12,7,1] ?_;refine s_q (yO (i:=0) rfl rfl rfl aO) rfl (rn [5] ?_);refine s_q (yO (i:=1) rfl rfl rfl aO) rfl (rn [5,2] ?_);refine aa (zJ [] rfl (fun w1 a6 a8=>by have h7:=tx (x*y/18446744073709551616) (x*y%18446744073709551616) z w1 aK hz2 hlt (cW _ aO);exact h7) rfl ?_);rintro r24 _;refine ii (rn [2,40,40,3,3,0,1,2,3,3,0,11] ?_);exact dE rfl rfl rfl fun w' a5=>⟨by rw[show x*y/18446744073709551616*18446744073709551616+x*y%18446744073709551616=x*y from by have:=Nat.div_add_mod (x*y) 18446744073709551616;omega],a5.upd⟩
theorem oz (x y z:Int) (w:World) (hx:0≤x∧x≤18446744073709551615) (hy:0≤y) (hz:1≤z∧z≤4294967296) (hyz:y≤z):Pur Tryz.prog 172 [aJ x,aJ y,aJ z] w (.tuple [aJ (x*y/z),.bool true].toArray):=by
 refine Γ Tryz.func172 17 (WOK.start [] _) ?_;refine rn [1,3,3,0,8,1,2,2,55,0] ?_;refine zB rfl (fun h1=>?_) (fun h1=>?_)
 ·exfalso;have h9:=bW h1;omega
 refine rn [12,7,1,2,2,2] ?_;refine aa (zH rfl (fun w1 a6=>by have h7:=oG x.toNat y.toNat z.toNat w1 aK aK aK aK;rw[Int.toNat_of_nonneg hx.1,Int.toNat_of_nonneg hy,Int.toNat_of_nonneg (show 0≤z by omega)] at h7;exact h7) rfl ?_);refine rn [40,40,3,3,0,11] ?_;exact dE rfl rfl rfl fun w' a5=>⟨by rw[Int.natCast_ediv,Int.natCast_mul,Int.toNat_of_nonneg hx.1,Int.toNat_of_nonneg hy,Int.toNat_of_nonneg (show 0≤z by omega)],a5.upd⟩
end Go.Proofs.YtdddiilocbbkkaaGreat
