/- TopModel, part 2. No condition. -/
import Derived.Test.YtdddiilocbbkkaaGreatTN1
import Derived.ChangeKeysEq
import Derived.Scope
import Derived.Maps.Keyed
import Derived.DeepKeys4
import Derived.Carry
import Derived.RangeFuncLeaves
import Derived.RangeFuncSeq
set_option linter.unusedVariables false
set_option linter.unusedSimpArgs false
namespace Go.Eg
open Go.RowKit
def fps (L:List Res):List Nat:=L.flatMap Res.fp
theorem gG {L:List Res} {b:Nat}:b∈fps L↔∃(i:Nat) (r:Res),L[i]?=some r∧b∈r.fp:=by
 simp only[fps,List.mem_flatMap];constructor
 ·rintro⟨r,hr,hb⟩;obtain⟨i,hi⟩:=List.mem_iff_getElem?.1 hr;exact⟨i,r,hi,hb⟩
 rintro⟨i,r,hi,hb⟩;exact⟨r,List.mem_of_getElem? hi,hb⟩
theorem tU {A B:List Res} {i:Nat} {r:Res} (h:A[i]?=some r):(A++B)[i]?=some r:=by
 have:=(List.getElem?_eq_some_iff.1 h).1;rw[List.getElem?_append_left this];exact h
theorem vE {A B:List Res} {i:Nat} {r:Res} (h:B[i]?=some r):(A++B)[A.length+i]?=some r:=by
 rw[List.getElem?_append_right aK];simpa using h
theorem gj {A B:List Res} {i:Nat} {r:Res} (h:(A++B)[i]?=some r):(i<A.length∧A[i]?=some r)∨∃j,i=A.length+j∧B[j]?=some r:=by
 rcases Nat.lt_or_ge i A.length with hl|hl
 ·rw[List.getElem?_append_left hl] at h;exact .inl ⟨hl,h⟩
 rw[List.getElem?_append_right hl] at h;exact .inr ⟨i-A.length,by omega,h⟩
theorem WOK.own {S:List Nat} {w0 w:World} {Lin rest:List Res} (h:WOK S w0 (Lin++rest) w):WOK (fps Lin) w Lin w :=
 ⟨Upd.refl _ _,fun i r hi=>h.sat i r (tU hi),fun i j r s hij hi hj=>h.nd i j r s hij (tU hi) (tU hj),fun i r hi b hb=>.inr (gG.2 ⟨i,r,hi,hb⟩)⟩
theorem WOK.join {S:List Nat} {w0 w w' : World} {Lin Lout rest:List Res} (h:WOK S w0 (Lin++rest) w) (h' : WOK (fps Lin) w Lout w'):WOK S w0 (Lout++rest) w' := by
 have hin:∀b∈fps Lin,w0.heap.size≤b∨b∈S:=fun b hb=>by
  obtain⟨i,r,hi,hb⟩:=gG.1 hb;exact h.fr i r (tU hi) b hb
 have hno:∀(j:Nat) (s:Res),rest[j]?=some s→∀b∈s.fp,b∉fps Lin:=fun j s hj b hb hm=>by
  obtain⟨i,r,hi,hb'⟩:=gG.1 hm;have hil:=(List.getElem?_eq_some_iff.1 hi).1;exact h.nd i (Lin.length+j) r s aK (tU hi) (vE hj) b hb' hb
 have hlt:∀(j:Nat) (s:Res),rest[j]?=some s→∀b∈s.fp,b<w.heap.size:=fun j s hj b hb=>s.lt w (h.sat _ s (vE hj)) b hb;have hx:∀(i:Nat) (r:Res) (j:Nat) (s:Res),Lout[i]?=some r→rest[j]?=some s→∀b∈r.fp,b∉s.fp:=fun i r j s hi hj b hb hc=>by
  rcases h'.fr i r hi b hb with h1|h1
  ·have:=hlt j s hj b hc;omega
  exact hno j s hj b hc h1
 refine⟨h.upd.trans h'.upd hin,fun i r hi=>?_,fun i j r s hij hi hj=>?_,fun i r hi b hb=>?_⟩
 ·rcases gj hi with⟨_,hi⟩|⟨j,rfl,hj⟩
  ·exact h'.sat i r hi
  exact r.loc w _ (fun b hb=>h'.upd.block b (hlt j r hj b hb) (hno j r hj b hb)) (h.sat _ r (vE hj))
 ·rcases gj hi with⟨_,hi1⟩|⟨i',ei,hi1⟩<;>rcases gj hj with⟨_,hj1⟩|⟨j',ej,hj1⟩
  ·exact h'.nd i j r s hij hi1 hj1
  ·exact hx i r j' s hi1 hj1
  ·exact fun b hb hc=>hx j s i' r hj1 hi1 b hc hb
  exact h.nd (Lin.length+i') (Lin.length+j') r s aK (vE hi1) (vE hj1)
 rcases gj hi with⟨_,hi⟩|⟨j,rfl,hj⟩
 ·rcases h'.fr i r hi b hb with h1|h1
  ·exact .inl (Nat.le_trans h.upd.size h1)
  exact hin b h1
 exact h.fr _ r (vE hj) b hb
section
variable {P:Program} {κ:Cx} {e:Env} {L:List Res} {X:Act→World→Prop} {Q:Exit→Act→World→Prop} {d:Tmp} {ty:TypeId} {s:String} {af:Array Edge} {gd:Option (Nat × Bool)}
def Own {ι:Type} (P:Program) (f:FuncId) (args:List Value) (w:World) (Lin:List Res) (p:ι→Prop) (val:ι→Value) (Lout:ι→List Res):Prop :=
 Ret P f args w fun u w' => ∃x,p x∧u=val x∧WOK (fps Lin) w (Lout x) w'
end
end Go.Eg
namespace Go.Eg
open Go.RowKit
def Dj (r s:Res):Prop:=∀b∈r.fp,b∉s.fp
theorem Dj.symm {r s:Res} (h:Dj r s):Dj s r:=fun b hb hc=>h b hc hb
theorem WOK.pw {S:List Nat} {w0 w:World} {L:List Res} (h:WOK S w0 L w):L.Pairwise Dj :=
 List.pairwise_iff_getElem.2 fun i j hi hj hij=>h.nd i j _ _ aK (List.getElem?_eq_getElem hi) (List.getElem?_eq_getElem hj)
theorem WOK.allsat {S:List Nat} {w0 w:World} {L:List Res} (h:WOK S w0 L w):∀r∈L,r.sat w:=fun r hr=>by
 obtain⟨i,hi⟩:=List.mem_iff_getElem?.1 hr;exact h.sat i r hi
theorem WOK.allfr {S:List Nat} {w0 w:World} {L:List Res} (h:WOK S w0 L w):∀r∈L,∀b∈r.fp,w0.heap.size≤b∨b∈S:=fun r hr=>by
 obtain⟨i,hi⟩:=List.mem_iff_getElem?.1 hr;exact h.fr i r hi
theorem WOK.of {S:List Nat} {w0 w:World} {L:List Res} (hu:Upd S w0 w) (hs:∀r∈L,r.sat w) (hp:L.Pairwise Dj) (hf:∀r∈L,∀b∈r.fp,w0.heap.size≤b∨b∈S):WOK S w0 L w:=by
 refine⟨hu,fun i r hi=>hs r (List.mem_of_getElem? hi),fun i j r s hij hi hj=>?_,fun i r hi=>hf r (List.mem_of_getElem? hi)⟩;obtain⟨hi',rfl⟩:=List.getElem?_eq_some_iff.1 hi;obtain⟨hj',rfl⟩:=List.getElem?_eq_some_iff.1 hj;rcases Nat.lt_or_gt_of_ne hij with h|h
 ·exact List.pairwise_iff_getElem.1 hp i j hi' hj' h
 exact Dj.symm (List.pairwise_iff_getElem.1 hp j i hj' hi' h)
theorem WOK.perm {S:List Nat} {w0 w:World} {L L' : List Res} (h:WOK S w0 L w) (hp:L.Perm L'):WOK S w0 L' w :=
 WOK.of h.upd (fun r hr=>h.allsat r (hp.mem_iff.2 hr)) ((hp.pairwise_iff Dj.symm).1 h.pw) fun r hr=>h.allfr r (hp.mem_iff.2 hr)
theorem WOK.left {S:List Nat} {w0 w:World} {A B:List Res} (h:WOK S w0 (A++B) w):WOK S w0 A w :=
 WOK.of h.upd (fun r hr=>h.allsat r (by simp[hr])) (List.pairwise_append.1 h.pw).1 fun r hr=>h.allfr r (by simp[hr])
inductive Mk where
 | inl (r:Res)
 | inr (r:Res)
def Mk.un:List Mk→List Res
 | []=>[]
 | .inl r :: M=>r :: Mk.un M
 | .inr _ :: M=>Mk.un M
def Mk.re:List Mk→List Res
 | []=>[]
 | .inl _ :: M=>Mk.re M
 | .inr r :: M=>r :: Mk.re M
class Mark (L:List Res) (M:outParam (List Mk)):Prop where
 un:Mk.un M=L
 re:Mk.re M=[]
instance Mark.nil:Mark [] []:=⟨rfl,rfl⟩
instance Mark.cons {r:Res} {L:List Res} {M:List Mk} [h:Mark L M]:Mark (r :: L) (.inl r :: M):=⟨by simp[Mk.un,h.un],by simp[Mk.re,h.re]⟩
class Unmark (M:List Mk) (L:outParam (List Res)):Prop where
 p:L.Perm (Mk.re M++Mk.un M)
instance Unmark.nil:Unmark [] []:=⟨.refl _⟩
instance Unmark.l {r:Res} {L:List Res} {M:List Mk} [h:Unmark M L]:Unmark (.inl r :: M) (r :: L):=⟨(h.p.cons r).trans List.perm_middle.symm⟩
instance Unmark.r {r:Res} {L:List Res} {M:List Mk} [h:Unmark M L]:Unmark (.inr r :: M) (r :: L):=⟨h.p.cons r⟩
class Swap1 (M:List Mk) (r r' : Res) (M' : outParam (List Mk)):Prop where
 un:(Mk.un M).Perm (r :: Mk.un M')
 re:(Mk.re M').Perm (r' :: Mk.re M)
instance Swap1.tail {x:Mk} {r r' : Res} {M M' : List Mk} [h:Swap1 M r r' M']:Swap1 (x :: M) r r' (x :: M'):=by
 cases x with
 | inl s=>exact⟨(h.un.cons s).trans (.swap _ _ _),h.re⟩
 | inr s=>exact⟨h.un,(h.re.cons s).trans (.swap _ _ _)⟩
instance Swap1.head {r r' : Res} {M:List Mk}:Swap1 (.inl r :: M) r r' (.inr r' :: M):=⟨.refl _,.refl _⟩
class SwapM (M:List Mk) (Lin Lrep:List Res) (M' : outParam (List Mk)):Prop where
 un:(Mk.un M).Perm (Lin++Mk.un M')
 re:(Mk.re M').Perm (Lrep++Mk.re M)
instance SwapM.nil {M:List Mk}:SwapM M [] [] M:=⟨.refl _,.refl _⟩
instance SwapM.cons {M M1 M' : List Mk} {r r' : Res} {Lin Lrep:List Res} [h1:Swap1 M r r' M1] [h2:SwapM M1 Lin Lrep M']:SwapM M (r :: Lin) (r' :: Lrep) M' :=
 ⟨h1.un.trans (h2.un.cons r),h2.re.trans ((List.Perm.append_left Lrep h1.re).trans List.perm_middle)⟩
class Swap (L Lin Lrep:List Res) (L' : outParam (List Res)):Prop where
 ex:∃rest,L.Perm (Lin++rest)∧L'.Perm (Lrep++rest)
instance Swap.mk' {L Lin Lrep L' : List Res} {M M' : List Mk} [h1:Mark L M] [h2:SwapM M Lin Lrep M'] [h3:Unmark M' L']:Swap L Lin Lrep L' :=
 ⟨Mk.un M',h1.un ▸ h2.un,by
  have:=h2.re;rw[h1.re,List.append_nil] at this;exact h3.p.trans (List.Perm.append_right _ this)⟩
class App (A B:List Res) (C:outParam (List Res)):Prop where
 eq:A++B=C
instance App.nil {B:List Res}:App [] B B:=⟨rfl⟩
instance App.cons {r:Res} {A B C:List Res} [h:App A B C]:App (r :: A) B (r :: C):=⟨by rw[←h.eq];rfl⟩
class Sub (L L' : List Res):Prop where
 ex:∃rest,L.Perm (L' ++ rest)
instance Sub.mk' {L L' L'' : List Res} [h:Swap L L' L' L'']:Sub L L' := ⟨h.ex.elim fun r h=>⟨r,h.1⟩⟩
theorem zG {S:List Nat} {w0:World} {L L' : List Res} [h:Sub L L']:∀w,WOK S w0 L w→WOK S w0 L' w:=fun _ hw=>h.ex.elim fun _ hp=>(hw.perm hp).left
theorem zA {S:List Nat} {w0:World} {L A B C:List Res} [ha:App A B C] [hs:Sub L C]:∀w,WOK S w0 L w→WOK S w0 (A++B) w:=fun w h=>ha.eq ▸ zG (L' := C) w h
theorem WOK.own' {S:List Nat} {w0 w:World} {L Lin:List Res} (h:WOK S w0 L w) (hs:Sub L Lin):WOK (fps Lin) w Lin w:=hs.ex.elim fun _ hp=>(h.perm hp).own
theorem WOK.swap {S:List Nat} {w0 w w' : World} {L Lin Lrep L' : List Res} (Lnew:List Res) (h:WOK S w0 L w) (hs:Swap L Lin Lrep L') (h' : WOK (fps Lin) w (Lnew++Lrep) w'):WOK S w0 (Lnew++L') w' := by
 obtain⟨rest,h1,h2⟩:=hs.ex;have:=(h.perm h1).join h';rw[List.append_assoc] at this;exact this.perm (List.Perm.append_left Lnew h2.symm)
def evL (e:Env):List Operand→Option (List Value)
 | []=>some []
 | x :: r=>match ev e x with
  | some v=>match evL e r with
   | some vs=>some (v :: vs)
   | none=>none
  | none=>none
theorem tA {e:Env}:∀{xs:List Operand} {vs:List Value},evL e xs=some vs→xs.map (ev e)=vs.map some
 | [],vs,h=>by simp[evL] at h;subst h;rfl
 | x :: r,vs,h=>by
  simp only[evL] at h;cases hx:ev e x with
  | none=>simp[hx] at h
  | some v =>
   simp only[hx] at h;cases hr:evL e r with
   | none=>simp[hr] at h
   | some us =>
    simp only[hr,Option.some.injEq] at h;subst h;simp[hx,tA hr]
def au {ι:Type} (P:Program) (f:FuncId) (args:List Value) (w:World) (Lin:List Res) (p:ι→Prop) (val:ι→Value) (Lnew Lrep:ι→List Res):Prop:=Own P f args w Lin p val (fun x=>Lnew x++Lrep x)
section
variable {P:Program} {κ:Cx} {e:Env} {L:List Res} {X:Act→World→Prop} {Q:Exit→Act→World→Prop} {d:Tmp} {ty:TypeId} {s:String} {af:Array Edge} {gd:Option (Nat × Bool)}
theorem zJ {ι:Type} {f:FuncId} {xs:List Operand} {vs:List Value} {ts:Array TypeId} (Lin:List Res) {p:ι→Prop} {val:ι→Value} {Lnew Lrep:ι→List Res} [hb:HasB P f] [hs:Sub L Lin] (hxs:evL e xs=some vs)
  (hf:∀w,WOK κ.S κ.w0 L w→WOK (fps Lin) w Lin w→au P f vs w Lin p val Lnew Lrep) (hd:Nat.blt d κ.N=true)
  (h:∀x,p x→∃L' L'',Swap L Lin (Lrep x) L' ∧ App (Lnew x) L' L'' ∧ G κ ((d,val x) :: e) L'' X) :
  G κ e L (owp κ.ρ P ⟨some d,.call { callee:=.value (.func f),args:=xs.toArray,argTypes:=ts },ty,s,af,gd⟩ Q X) :=
 AT (tA hxs) hd (fun _ _=>True) fun w hw=>Ret.mono (hf w hw (hw.own' hs)) fun u w' ⟨x,hp,hu,hw'⟩=>by
  subst hu;obtain⟨L',L'',hL,ha,hg⟩:=h x hp;exact⟨trivial,_,ha.eq ▸ hw.swap (Lnew x) hL hw',hg⟩
theorem xV {ι:Type} {f:FuncId} {x0:Operand} {xs:List Operand} {vs fst cap:List Value} {ts:Array TypeId} (Lin:List Res) {p:ι→Prop} {val:ι→Value} {Lnew Lrep:ι→List Res} [hb:HasB P f] [hs:Sub L Lin] (hx:ev e x0=some (.func (.func f) fst.toArray cap.toArray)) (hxs:evL e xs=some vs)
  (hf:∀w,WOK κ.S κ.w0 L w→WOK (fps Lin) w Lin w→au P f (fst++vs++cap) w Lin p val Lnew Lrep) (hd:Nat.blt d κ.N=true)
  (h:∀x,p x→∃L' L'',Swap L Lin (Lrep x) L' ∧ App (Lnew x) L' L'' ∧ G κ ((d,val x) :: e) L'' X) :
  G κ e L (owp κ.ρ P ⟨some d,.call { callee:=.value x0,args:=xs.toArray,argTypes:=ts },ty,s,af,gd⟩ Q X) :=
 qx hx (tA hxs) hd (fun _ _=>True) fun w hw=>Ret.mono (hf w hw (hw.own' hs)) fun u w' ⟨x,hp,hu,hw'⟩=>by
  subst hu;obtain⟨L',L'',hL,ha,hg⟩:=h x hp;exact⟨trivial,_,ha.eq ▸ hw.swap (Lnew x) hL hw',hg⟩
end
def du (P:Program) (f:FuncId) (args:List Value) (w:World) (Lin:List Res) (v:Value):Prop:=au (ι:=Unit) P f args w Lin (fun _=>True) (fun _=>v) (fun _=>[]) (fun _=>Lin)
section
variable {P:Program} {κ:Cx} {e:Env} {L:List Res} {X:Act→World→Prop} {Q:Exit→Act→World→Prop} {d:Tmp} {ty:TypeId} {s:String} {af:Array Edge} {gd:Option (Nat × Bool)}
theorem Swap.self {L Lin:List Res} (h:Sub L Lin):Swap L Lin Lin L:=h.ex.elim fun r hp=>⟨⟨r,hp,hp⟩⟩
theorem zN {f:FuncId} {xs:List Operand} {vs:List Value} {ts:Array TypeId} (Lin:List Res) {v:Value} [hb:HasB P f] [hs:Sub L Lin] (hxs:evL e xs=some vs)
  (hf:∀w,WOK κ.S κ.w0 L w→WOK (fps Lin) w Lin w→du P f vs w Lin v) (hd:Nat.blt d κ.N=true) (h:G κ ((d,v) :: e) L X) :
  G κ e L (owp κ.ρ P ⟨some d,.call { callee:=.value (.func f),args:=xs.toArray,argTypes:=ts },ty,s,af,gd⟩ Q X) :=
 zJ (ι:=Unit) (Lnew:=fun _=>[]) (Lrep:=fun _=>Lin) Lin hxs hf hd fun _ _=>⟨L,L,Swap.self hs,inferInstance,h⟩
theorem Cm {f:FuncId} {x0:Operand} {xs:List Operand} {vs fst cap:List Value} {ts:Array TypeId} (Lin:List Res) {v:Value} [hb:HasB P f] [hs:Sub L Lin] (hx:ev e x0=some (.func (.func f) fst.toArray cap.toArray)) (hxs:evL e xs=some vs)
  (hf:∀w,WOK κ.S κ.w0 L w→WOK (fps Lin) w Lin w→du P f (fst++vs++cap) w Lin v) (hd:Nat.blt d κ.N=true) (h:G κ ((d,v) :: e) L X) :
  G κ e L (owp κ.ρ P ⟨some d,.call { callee:=.value x0,args:=xs.toArray,argTypes:=ts },ty,s,af,gd⟩ Q X) :=
 xV (ι:=Unit) (Lnew:=fun _=>[]) (Lrep:=fun _=>Lin) Lin hx hxs hf hd fun _ _=>⟨L,L,Swap.self hs,inferInstance,h⟩
end
def Res.star (Ls:List Res):Res where
 fp:=fps Ls
 sat w:=(∀r∈Ls,r.sat w)∧Ls.Pairwise Dj
 loc w w' h hs:=⟨fun r hr=>r.loc w w' (fun b hb=>h b (by
  obtain⟨i,hi⟩:=List.mem_iff_getElem?.1 hr;exact gG.2 ⟨i,r,hi,hb⟩)) (hs.1 r hr),hs.2⟩
 lt w hs b hb:=by
  obtain⟨i,r,hi,hb⟩:=gG.1 hb;exact r.lt w (hs.1 r (List.mem_of_getElem? hi)) b hb
theorem di {L:List Res} {b:Nat}:b∈fps L↔∃r∈L,b∈r.fp:=by simp[fps,List.mem_flatMap]
theorem WOK.opened {S:List Nat} {w0 w:World} {Ls L:List Res} (h:WOK S w0 (.star Ls :: L) w):WOK S w0 (Ls++L) w:=by
 have hs:(Res.star Ls).sat w:=h.allsat _ aM;have hp:=List.pairwise_cons.1 h.pw;refine WOK.of h.upd (fun r hr=>?_) (List.pairwise_append.2 ⟨hs.2,hp.2,fun r hr s hs' b hb=>?_⟩) fun r hr b hb=>?_
 ·rcases List.mem_append.1 hr with hr|hr
  ·exact hs.1 r hr
  exact h.allsat r (by simp[hr])
 ·exact hp.1 s hs' b (di.2 ⟨r,hr,hb⟩)
 rcases List.mem_append.1 hr with hr|hr
 ·exact h.allfr (.star Ls) aM b (di.2 ⟨r,hr,hb⟩)
 exact h.allfr r (by simp[hr]) b hb
theorem WOK.closed {S:List Nat} {w0 w:World} {Ls L:List Res} (h:WOK S w0 (Ls++L) w):WOK S w0 (.star Ls :: L) w:=by
 have hp:=List.pairwise_append.1 h.pw;refine WOK.of h.upd (fun r hr=>?_) (List.pairwise_cons.2 ⟨fun s hs b hb=>?_,hp.2.1⟩) fun r hr b hb=>?_
 ·rcases List.mem_cons.1 hr with rfl|hr
  ·exact⟨fun s hs=>h.allsat s (by simp[hs]),hp.1⟩
  exact h.allsat r (by simp[hr])
 ·obtain⟨r,hr,hb⟩:=di.1 hb;exact hp.2.2 r hr s hs b hb
 rcases List.mem_cons.1 hr with rfl|hr
 ·obtain⟨r,hr,hb⟩:=di.1 hb;exact h.allfr r (by simp[hr]) b hb
 exact h.allfr r (by simp[hr]) b hb
theorem vR {Ls:List Res}:fps [.star Ls]=fps Ls:=by simp[fps,Res.star]
def Res.ro (A:Option Addr) (n k:Nat) (els:List (List Value)):Res where
 fp:=if els.flatten=[] then [] else [bo A]
 sat w:=Old w A n k els
 loc w w' h hs:=⟨hs.len,hs.cat,fun hn=>by
  obtain⟨h1,h2⟩:=hs.at_ hn;refine⟨h1,fun j u hu=>?_⟩;have hne:¬els.flatten=[]:=by intro e;rw[e] at hu;simp at hu
  rw[←h2 j u hu];exact World.cell?_of_block (w:=w) (h (bo A) (by simp only[if_neg hne];simp))⟩
 lt w hs b hb:=by
  split at hb
  ·simp at hb
  rename_i hne;have hb' : b=bo A:=by simpa using hb
  subst hb';have hpos:0<els.flatten.length:=List.length_pos_iff.2 hne;have hn:0<n:=by
   rw[hs.len];rcases Nat.eq_zero_or_pos els.length with h0|h0
   ·rw[List.eq_nil_of_length_eq_zero h0] at hne;simp at hne
   exact h0
  exact block_lt_of_cell (a:=⟨bo A,oo A+0,none⟩) ((hs.at_ hn).2 0 _ (List.getElem?_eq_getElem hpos))
class InRo (L:List Res) (A:Option Addr) (n k:outParam Nat) (els:outParam (List (List Value))):Prop where
 at_:Res.ro A n k els∈L
instance InRo.tail {L:List Res} {r:Res} {A:Option Addr} {n k:Nat} {els:List (List Value)} [h:InRo L A n k els]:InRo (r :: L) A n k els:=⟨by simp[h.at_]⟩
instance InRo.head {L:List Res} {A:Option Addr} {n k:Nat} {els:List (List Value)}:InRo (.ro A n k els :: L) A n k els:=⟨by simp⟩
theorem Rdb.ro {κ:Cx} {L:List Res} {A:Option Addr} {n k:Nat} {els:List (List Value)} [h:InRo L A n k els] (h1:n=els.length) (h2:∀c∈els,c.length=k):Rdb κ L A n k els :=
 ⟨h1,h2,fun w hw hn=>Old.at_ (hw.allsat _ h.at_:Old w A n k els) hn⟩
theorem jd {A:Option Addr} {n cap T k:Nat} {els:List (List Value)} {w:World} (h:(Res.row A n cap T k els).sat w) (hn:0<n):bo A∈(Res.row A n cap T k els).fp:=by
 obtain⟨_,_,h3⟩:=h;rcases h3 with⟨h4,_⟩|⟨g,cur,rfl,_,hle,_⟩
 ·omega
 simp only[Res.row,if_neg (show¬cap=0 by omega)];simp
theorem kY {A:Option Addr} {n cap T k:Nat} {els:List (List Value)} {w:World} (h:(Res.row A n cap T k els).sat w):Old w A n k els:=by
 refine⟨h.1,h.2.1,fun hn=>?_⟩;obtain⟨_,_,h3⟩:=h;rcases h3 with⟨h4,_⟩|⟨g,cur,hA,hg,hle,_,hsz,htk⟩
 ·omega
 subst hA;refine⟨rfl,fun j u hu=>?_⟩;rw[←htk] at hu;simp only[sS,sI,Nat.zero_add];rw[cell_of_row w g j cur _ _ hg];rw[List.getElem?_take] at hu;split at hu
 ·simpa using hu
 cases hu
theorem DH {b T n k:Nat} {c:List Value} {els:List (List Value)} {w:World} (h:(Res.blk b T c).sat w) (h1:n=els.length) (h2:∀c∈els,c.length=k) (hc:els.flatten=c):Old w (some ⟨b,0,none⟩) n k els :=
 ⟨h1,h2,fun _=>⟨rfl,fun j u hu=>by rw[hc] at hu;simpa using vC h hu⟩⟩
theorem pU {els:List (List Value)} (h:¬els.flatten=[]):0<els.length:=by
 rcases Nat.eq_zero_or_pos els.length with h0|h0
 ·rw[List.eq_nil_of_length_eq_zero h0] at h;simp at h
 exact h0
theorem WOK.less {S:List Nat} {w0 w:World} {r r' : Res} {L:List Res} (h:WOK S w0 (r :: L) w) (hs:r.sat w→r'.sat w) (hf:r.sat w→∀b∈r'.fp,b∈r.fp):WOK S w0 (r' :: L) w:=by
 have h0:r.sat w:=h.allsat r aM;have:=h.change (i:=0) (r:=r) rfl r' (Upd.refl _ _) (hs h0) fun b hb=>.inl (hf h0 b hb);simpa using this
theorem WOK.toRo {S:List Nat} {w0 w:World} {A:Option Addr} {n cap T k:Nat} {els:List (List Value)} {L:List Res} (h:WOK S w0 (.row A n cap T k els :: L) w):WOK S w0 (.ro A n k els :: L) w :=
 h.less kY fun h0 b hb=>by
  simp only[Res.ro] at hb;split at hb
  ·simp at hb
  rename_i hne;have:b=bo A:=by simpa using hb
  subst this;exact jd h0 (by rw[h0.1];exact pU hne)
theorem qi {w:World} {A:Option Addr} {n k:Nat} {els:List (List Value)} (hr:Old w A n k els) {cap l h:Nat} (hl:l≤h) (hh:h≤n) (hc:n≤cap):Old w (cz A cap l k) (h-l) k ((els.drop l).take (h-l)) :=
 (Rdb.sub (Old.rdb (S:=[]) (N:=0) (D:=[]) (ρ:=none) (L:=[]) hr rfl) hl hh hc).toOld (WOK.start [] w)
theorem ru {A:Option Addr} {b o:Nat} (hA:A=some ⟨b,o,none⟩) (cap l k:Nat):bo (cz A cap l k)=bo A:=by
 subst hA;unfold cz;split
 ·rfl
 simp[yY]
theorem WOK.roSub {S:List Nat} {w0 w:World} {A:Option Addr} {n k:Nat} {els:List (List Value)} {L:List Res} (h:WOK S w0 (.ro A n k els :: L) w) {cap l m:Nat} (hl:l≤m) (hh:m≤n) (hc:n≤cap):WOK S w0 (.ro (cz A cap l k) (m-l) k ((els.drop l).take (m-l)) :: L) w :=
 h.less (fun h0=>qi h0 hl hh hc) fun h0 b hb=>by
  have ho:Old w A n k els:=h0;simp only[Res.ro] at hb ⊢;split at hb
  ·simp at hb
  rename_i hne;have hpos:=pU hne;simp only[List.length_take,List.length_drop,←ho.len] at hpos;have h1:=(ho.at_ aK).1;rw[ru h1] at hb;have hne' : ¬els.flatten=[]:=by
   intro e;apply hne;have hall:∀c∈els,c=[]:=by simpa using e
   simp only[List.flatten_eq_nil_iff];exact fun c hc=>hall c (List.mem_of_mem_drop (List.mem_of_mem_take hc))
  rw[if_neg hne'];exact hb
structure Rd (w:World) (Lin:List Res) (A:Option Addr) (n k:Nat) (els:List (List Value)):Prop where
 old:Old w A n k els
 away:0<n→bo A∉fps Lin
theorem Rd.rdb {w:World} {Lin L:List Res} {A:Option Addr} {n k N:Nat} {D:List Deferred} {ρ:Option Nat} {els:List (List Value)} (h:Rd w Lin A n k els):Rdb ⟨fps Lin,w,N,D,ρ⟩ L A n k els:=Rdb.old h.old h.away
theorem Rd.zero {w:World} {Lin:List Res} {A:Option Addr} {k:Nat}:Rd w Lin A 0 k []:=⟨⟨rfl,by simp,by simp⟩,by simp⟩
theorem Rd.ofOld {κ:Cx} {L Lin:List Res} {w:World} {A:Option Addr} {n k:Nat} {els:List (List Value)} [hs:Sub L Lin] (hw:WOK κ.S κ.w0 L w) (h:Old κ.w0 A n k els) (hk:0<k) (hS:0<n→bo A∉κ.S):Rd w Lin A n k els:=by
 have hr:Rdb κ L A n k els:=Rdb.old h hS;refine⟨hr.toOld hw,fun hn hm=>?_⟩;obtain⟨r,hr',hb⟩:=di.1 hm;obtain⟨rest,hp⟩:=hs.ex;have hf:=hw.allfr r (hp.mem_iff.2 (by simp[hr'])) _ hb;have hpos:0<els.flatten.length:=by
  rw[xG h.cat];exact Nat.mul_pos (by rw[←h.len];exact hn) hk
 have hlt:bo A<κ.w0.heap.size:=block_lt_of_cell (a:=⟨bo A,oo A+0,none⟩) ((h.at_ hn).2 0 _ (List.getElem?_eq_getElem hpos));rcases hf with hf|hf
 ·omega
 exact hS hn hf
theorem Rd.ofRd {w0 w:World} {L0 L Lin:List Res} {A:Option Addr} {n k:Nat} {els:List (List Value)} [hs:Sub L Lin] (hw:WOK (fps L0) w0 L w) (h:Rd w0 L0 A n k els) (hk:0<k):Rd w Lin A n k els :=
 Rd.ofOld (κ:=⟨fps L0,w0,0,[],none⟩) hw h.old hk h.away
theorem Rd.ofRes {S:List Nat} {w0 w:World} {L Lin:List Res} {r:Res} {A:Option Addr} {n k:Nat} {els:List (List Value)} (hs:Sub L (r :: Lin)) (hw:WOK S w0 L w) (ho:r.sat w→Old w A n k els) (hb:r.sat w→0<n→bo A∈r.fp):Rd w Lin A n k els:=by
 obtain⟨rest,hp⟩:=hs.ex;have hw' := hw.perm hp;have h0:r.sat w:=hw'.allsat r aM;refine⟨ho h0,fun hn hm=>?_⟩;obtain⟨s,hs',hb'⟩:=di.1 hm;have h1:=(List.pairwise_cons.1 (show(r :: (Lin++rest)).Pairwise Dj from hw'.pw)).1 s (by simp[hs']);exact h1 _ (hb h0 hn) hb'
theorem Rd.ofRow {S:List Nat} {w0 w:World} {L Lin:List Res} {A:Option Addr} {n cap T k:Nat} {els:List (List Value)} [hi:InRow L A n cap T k els] [hs:Sub L (.row A n cap T k els :: Lin)] (hw:WOK S w0 L w):Rd w Lin A n k els :=
 Rd.ofRes hs hw kY jd
theorem Rd.ofRo {S:List Nat} {w0 w:World} {L Lin:List Res} {A:Option Addr} {n k:Nat} {els:List (List Value)} [hi:InRo L A n k els] [hs:Sub L (.ro A n k els :: Lin)] (hw:WOK S w0 L w) (hk:0<k):Rd w Lin A n k els :=
 Rd.ofRes hs hw (fun h=>h) fun h hn=>by
  have ho:Old w A n k els:=h;have hne:¬els.flatten=[]:=by
   intro e;have:=xG ho.cat
   rw[e,←ho.len] at this;have:=Nat.mul_pos hn hk;simp at *;omega
  simp only[Res.ro,if_neg hne];simp
theorem Rd.ofBlk {S:List Nat} {w0 w:World} {L Lin:List Res} {b T n k:Nat} {c:List Value} {els:List (List Value)} [hi:InL L b T c] [hs:Sub L (.blk b T c :: Lin)] (hw:WOK S w0 L w) (h1:n=els.length) (h2:∀c∈els,c.length=k) (hc:els.flatten=c):Rd w Lin (some ⟨b,0,none⟩) n k els :=
 Rd.ofRes hs hw (fun h=>DH h h1 h2 hc) fun _ _=>by simp[Res.blk]
theorem Rd.sub {w:World} {Lin:List Res} {A:Option Addr} {n k:Nat} {els:List (List Value)} (h:Rd w Lin A n k els) {cap l m:Nat} (hl:l≤m) (hh:m≤n) (hc:n≤cap):Rd w Lin (cz A cap l k) (m-l) k ((els.drop l).take (m-l)) :=
 ⟨qi h.old hl hh hc,fun hn=>by
  rw[ru (h.old.at_ aK).1];exact h.away aK⟩
section
variable {P:Program} {κ:Cx} {e:Env} {L:List Res} {X:Act→World→Prop} {Q:Exit→Act→World→Prop} {d:Tmp} {ty:TypeId} {s:String} {af:Array Edge} {gd:Option (Nat × Bool)}
theorem zC {A:Option Addr} {n cap T k:Nat} {els:List (List Value)} {L' : List Res} (els' : List (List Value)) (he:els=els') [_hi:InRow L A n cap T k els] [hL:UpRow L A n cap T k els (.row A n cap T k els') L'] (h:G κ e L' X):G κ e L X:=by
 subst he;obtain⟨i,hi,hL⟩:=hL.at_;have:L=L' := by
  rw[←hL];apply List.ext_getElem?;intro j;rw[List.getElem?_set];have hlt:=(List.getElem?_eq_some_iff.1 hi).1;split
  ·rename_i hj;subst hj;first|(rw[if_pos hlt];exact hi)|exact hi|simp_all
  rfl
 exact this ▸ h
theorem zF {b T:Nat} {c:List Value} {L' : List Res} (c' : List Value) [_hi:InL L b T c] (he:c=c') [hL:UpL L b T c c' L'] (h:G κ e L' X):G κ e L X:=by
 subst he;obtain⟨i,hi,hL⟩:=hL.at_;have:L=L' := by
  rw[←hL];apply List.ext_getElem?;intro j;rw[List.getElem?_set];have hlt:=(List.getElem?_eq_some_iff.1 hi).1;split
  ·rename_i hj;subst hj;first|(rw[if_pos hlt];exact hi)|exact hi|simp_all
  rfl
 exact this ▸ h
section
variable {T T' : Nat} {x y:Operand} {a b:Nat}
theorem xP (hx:ev e x=some (.int .i64 (a:Int))) (hy:ev e y=some (.int .i64 (b:Int))) (h:a+b<9223372036854775808):cf P κ e L ⟨some d,.binOp .add T x y T',ty,s,af,gd⟩ (.int .i64 ((a+b:Nat):Int)) :=
 yI hx hy (by rw[dY aK aK];omega)
theorem tJ (hx:ev e x=some (.int .i64 (a:Int))) (hy:ev e y=some (.int .i64 (b:Int))) (h:b≤a) (ha:a<9223372036854775808):cf P κ e L ⟨some d,.binOp .sub T x y T',ty,s,af,gd⟩ (.int .i64 ((a-b:Nat):Int)) :=
 yN hx hy (by rw[dY aK aK];omega)
theorem wA (hx:ev e x=some (.int .i64 (a:Int))) (hy:ev e y=some (.int .i64 (b:Int))) (h:0<b):cf P κ e L ⟨some d,.binOp .rem T x y T',ty,s,af,gd⟩ (.int .i64 ((a%b:Nat):Int)) :=
 mI hx hy aK
theorem EF (hx:ev e x=some (.int .i64 (a:Int))) (hy:ev e y=some (.int .i64 (b:Int))) (h:0<b) (ha:a<9223372036854775808):cf P κ e L ⟨some d,.binOp .quo T x y T',ty,s,af,gd⟩ (.int .i64 ((a/b:Nat):Int)):=by
 have h1:=fj (P:=P) (κ:=κ) (L:=L) (d:=d) (ty:=ty) (s:=s) (af:=af) (gd:=gd) (T:=T) (T' := T') hx hy aK;have e1:IntKind.i64.wrap (((a:Nat):Int).tdiv ((b:Nat):Int))=((a/b:Nat):Int):=by
  have h2:((a:Nat):Int).tdiv ((b:Nat):Int)=((a/b:Nat):Int):=rfl;have h3:a/b≤a:=Nat.div_le_self _ _;rw[h2];generalize a/b=q at h3 ⊢;rw[dY aK aK]
 rwa [e1] at h1
theorem qW {ts:Array TypeId} (hx:ev e x=some (.int .i64 (a:Int))) (hy:ev e y=some (.int .i64 (b:Int))):cf P κ e L ⟨some d,.call { callee:=.builtin .min,args := #[x,y],argTypes:=ts },ty,s,af,gd⟩ (.int .i64 ((min a b:Nat):Int)):=by
 have h:=jl (P:=P) (κ:=κ) (L:=L) (d:=d) (ty:=ty) (s:=s) (af:=af) (gd:=gd) (ts:=ts) hx hy;have e1:min (a:Int) (b:Int)=((min a b:Nat):Int):=by omega
 rwa [e1] at h
theorem iO {ts:Array TypeId} (hx:ev e x=some (.int .i64 (a:Int))) (hy:ev e y=some (.int .i64 (b:Int))):cf P κ e L ⟨some d,.call { callee:=.builtin .max,args := #[x,y],argTypes:=ts },ty,s,af,gd⟩ (.int .i64 ((max a b:Nat):Int)):=by
 have h:=jm (P:=P) (κ:=κ) (L:=L) (d:=d) (ty:=ty) (s:=s) (af:=af) (gd:=gd) (ts:=ts) hx hy;have e1:max (a:Int) (b:Int)=((max a b:Nat):Int):=by omega
 rwa [e1] at h
end
end
theorem zP {α:Type} {c:α→List Value} {l:List α} {i:Nat} (h:i<l.length):(l.map c)[i]?=some (c l[i]):=by simp[h]
theorem uG {α:Type} {c:α→List Value} {l:List α} {i m:Nat} (h:i<m) (h' : i<l.length):((l.map c).take m)[i]?=some (c l[i]):=by
 rw[List.getElem?_take,if_pos h];exact zP h'
theorem yA {α:Type} {c:α→List Value} {k:Nat} (h:∀x,(c x).length=k) (l:List α):∀y∈l.map c,y.length=k:=fun y hy=>by
 obtain⟨x,_,rfl⟩:=List.mem_map.1 hy;exact h x
theorem uC {α:Type} {c:α→List Value} {l:List α} {i:Nat} (h:i<l.length):(l.take i).map c++[c l[i]]=(l.take (i+1)).map c:=by
 rw[←List.take_append_getElem h,List.map_append];rfl
theorem Rdb.h {κ:Cx} {L:List Res} {A:Option Addr} {n k:Nat} {els:List (List Value)} (hr:Rdb κ L A n k els) {cap h:Nat} (hh:h≤n) (hc:n≤cap):Rdb κ L (cz A cap 0 k) h k (els.take h):=by
 have:=hr.sub (cap:=cap) (l:=0) (h:=h) (Nat.zero_le _) hh hc;simpa using this
theorem Rd.h {w:World} {Lin:List Res} {A:Option Addr} {n k:Nat} {els:List (List Value)} (hr:Rd w Lin A n k els) {cap h:Nat} (hh:h≤n) (hc:n≤cap):Rd w Lin (cz A cap 0 k) h k (els.take h):=by
 have:=hr.sub (cap:=cap) (l:=0) (m:=h) (Nat.zero_le _) hh hc;simpa using this
theorem WOK.nores {S:List Nat} {w0 w:World} {L:List Res} (h:WOK S w0 L w) (A:Option Addr) (T k:Nat):WOK S w0 (.row A 0 0 T k [] :: L) w :=
 h.cons (Upd.refl _ _) _ ⟨rfl,by simp,.inl ⟨rfl,rfl⟩⟩ (by simp[Res.row])
theorem uZ {κ:Cx} {e:Env} {L:List Res} {X:Act→World→Prop} (A:Option Addr) (T k:Nat) (h:G κ e (.row A 0 0 T k [] :: L) X):G κ e L X:=fun a w hs=>h a w ⟨hs.defers,hs.size,hs.env,hs.wok.nores A T k⟩
theorem uE {α:Type} {c:α→List Value} {l m:List α} {i:Nat} (h:i<m.length):(l++m.take i).map c++[c m[i]]=(l++m.take (i+1)).map c:=by
 rw[←List.take_append_getElem h];simp only[List.map_append,List.append_assoc,List.map_cons,List.map_nil]
section
variable {P:Program} {κ:Cx} {e:Env} {L:List Res} {ops:Array Oper} {Q:Exit→Act→World→Prop} {T:List Nat}
def Fsx (P:Program) (ops:Array Oper) (Q:Exit→Act→World→Prop) (κ:Cx) (e:Env) (L:List Res) (K:Array Bool→Act→World→Prop) (ls:Array Bool) (i:Nat):Prop :=
 G κ e L (wpOpIn (FR none) 0 P ops (fm Q) i (K (ls.setIfInBounds i true)))
def nU (p:Nat→Prop):List Nat→Prop
 | []=>True
 | i :: r=>p i∧nU p r
theorem nU.get {p:Nat→Prop}:∀{is:List Nat},nU p is→∀i∈is,p i
 | [],_,i,h=>by simp at h
 | j :: r,h,i,hi=>by
  rcases List.mem_cons.1 hi with rfl|hi
  ·exact h.1
  exact nU.get h.2 i hi
theorem yJ {L0:List Res} (is:List Nat) {fuel:Nat} {ls:Array Bool} (hr:Region.ready .any ops ls=is) (hne:is≠[]) (hL:∀w,WOK κ.S κ.w0 L w→WOK κ.S κ.w0 L0 w) (h:nU (Fsx P ops Q κ e L (ca P ops T (Cls κ L0) Q fuel) ls) is) :
  G κ e L (ca P ops T (Cls κ L0) Q (fuel+1) ls):=fun a w hs=>by
 refine⟨fun _=>hL w hs.wok,fun h0=>absurd (hr.symm.trans h0) hne,fun j hj=>?_⟩;rw[hr] at hj;exact h.get j hj a w hs
theorem FF {i:Nat} {K:Array Bool→Act→World→Prop} {ls ls' : Array Bool} {d:Option Nat} {op:Op} {t:TypeId} {s:String} {af:Array Edge} (hi:ops[i]?=some ⟨d,op,t,s,af,none⟩) (hls:ls.setIfInBounds i true=ls')
  (h:G κ e L (owp none P ⟨d,op,t,s,af,none⟩ (fm Q) (K ls'))):Fsx P ops Q κ e L K ls i:=fun a w hs=>by
 subst hls;unfold wpOpIn;simp only[hi,Region.wanted,if_true];exact h a w hs
end
section
variable {κ:Cx} {e:Env} {L:List Res} {X:Act→World→Prop}
theorem iH {S:List Nat} {w0 w:World} {L:List Res} {A:Option Addr} {n cap T k:Nat} {els:List (List Value)} [hi:InRow L A n cap T k els] (hw:WOK S w0 L w):n≤cap:=by
 obtain⟨i,h⟩:=hi.at_;obtain⟨_,_,h3⟩:=hw.sat i _ h;rcases h3 with⟨h4,_⟩|⟨_,_,_,_,hle,_⟩<;>omega
theorem wQ (A:Option Addr) {n cap T k:Nat} {els:List (List Value)} [hi:InRow L A n cap T k els] (h:n≤cap→cap≤maxLen→n=els.length→G κ e L X):G κ e L X:=fun a w hs=>by
 obtain⟨i,hi'⟩:=hi.at_;obtain⟨h1,_,h3⟩:=hs.wok.sat i _ hi';have hc:cap≤maxLen:=by rcases h3 with⟨h4,h5⟩|⟨_,_,_,_,_,hm,_⟩<;>omega
 exact h (iH (A:=A) hs.wok) hc h1 a w hs
theorem sK {r r' : Res} {L' : List Res} (hr:∀S w0 w rest,WOK S w0 (r :: rest) w→WOK S w0 (r' :: rest) w) (hs:Swap L [r] [r'] L') (h:G κ e L' X):G κ e L X:=fun a w hst=>by
 obtain⟨rest,h1,h2⟩:=hs.ex;exact h a w ⟨hst.defers,hst.size,hst.env,(hr _ _ _ rest (hst.wok.perm h1)).perm h2.symm⟩
theorem zR {A:Option Addr} {n cap T k:Nat} {els:List (List Value)} {L' : List Res} (n' : Nat) (hn:n=n') [_hi:InRow L A n cap T k els] [hs:Swap L [.row A n cap T k els] [.row A n' cap T k els] L'] (h:G κ e L' X):G κ e L X:=by
 subst hn;exact sK (fun _ _ _ _ h=>h) hs h
theorem uD {A:Option Addr} {n cap T k:Nat} {els:List (List Value)} {L' : List Res} (n' : Nat) (els' : List (List Value)) (hn:n=n') (he:els=els') [_hi:InRow L A n cap T k els] [hs:Swap L [.row A n cap T k els] [.ro A n' k els'] L'] (h:G κ e L' X):G κ e L X:=by
 subst hn;subst he;exact sK (fun _ _ _ _ h=>h.toRo) hs h
theorem qH {A:Option Addr} {n k:Nat} {els:List (List Value)} {L' : List Res} (cap l m n' : Nat) (els' : List (List Value)) (hl:l≤m) (hh:m≤n) (hc:n≤cap) (hn:m-l=n') (he:(els.drop l).take (m-l)=els') [_hi:InRo L A n k els] [hs:Swap L [.ro A n k els] [.ro (cz A cap l k) n' k els'] L'] (h:G κ e L' X):G κ e L X:=by
 subst hn;subst he;exact sK (fun _ _ _ _ h=>h.roSub hl hh hc) hs h
end
theorem zZ {α:Type} {c:α→List Value} (h:∀x,∀u∈c x,u.oneCell' = true) (l:List α):∀y∈l.map c,∀u∈y,u.oneCell' = true:=fun y hy=>by
 obtain⟨x,_,rfl⟩:=List.mem_map.1 hy;exact h x
end Go.Eg
namespace Go.Eg
open Go.RowKit
class EqA (P:Program) (T:Nat) (E k m:outParam Nat):Prop where
 und:P.underlying T=some (.array m E)
 knd:fu P E=some k
 inf:(P.info? E).isSome=true
 cel:P.cellsOf E=1
 grd:P.eqGuardType P.depth T=false
section
variable {P:Program}
theorem pZ {d E k:Nat} (hk:fu P E=some k):∀(n i:Nat) (xs ys:List Value) (b:Bool),eqL (List.replicate n k) (xs.drop i) (ys.drop i)=some b→∀w:World,(Op.eqItems (d+1) E 1 xs.toArray ys.toArray (List.range' i n)).run P w=.ok b w
  | 0,i,xs,ys,b,h,w=>by
    cases hx:xs.drop i<;>cases hy:ys.drop i<;>simp[hx,hy,eqL] at h;subst h;simp[Op.eqItems]
  | n+1,i,xs,ys,b,h,w=>by
    rw[List.replicate_succ] at h;cases hx:xs.drop i with
    | nil=>simp[hx,eqL] at h
    | cons x xr =>
      cases hy:ys.drop i with
      | nil=>simp[hx,hy,eqL] at h
      | cons y yr =>
        simp only[hx,hy,eqL] at h;split at h
        · rename_i hsk;cases ha:eqS k x y with
          | none=>simp[ha] at h
          | some a =>
            cases hb:eqL (List.replicate n k) xr yr with
            | none=>simp[ha,hb] at h
            | some c =>
              simp only[ha,hb,Option.some.injEq] at h
              have hxi : xs[i]? = some x := by have:(xs.drop i)[0]?=some x:=by rw[hx];rfl
                                               simpa using this
              have hyi : ys[i]? = some y := by have:(ys.drop i)[0]?=some y:=by rw[hy];rfl
                                               simpa using this
              have hxr:xs.drop (i+1)=xr:=by rw[←List.tail_drop,hx];rfl
              have hyr:ys.drop (i+1)=yr:=by rw[←List.tail_drop,hy];rfl
              have ih:=pZ (d:=d) hk n (i+1) xs ys c (by rw[hxr,hyr];exact hb) w;rw[List.range'_succ];simp only[Op.eqItems,Nat.mul_one,Sem.run_bind,sJ hk hxi w,sJ hk hyi w,Result.andThen_ok,px hk hsk ha w];subst h;cases a
              · simp
              · simp[ih]
        · cases h
end
section
variable {P:Program} {κ:Cx} {e:Env} {L:List Res} {d:Tmp} {ty:TypeId} {s:String} {af:Array Edge} {gd:Option (Nat × Bool)}
theorem ri {T E k m:Nat} [h:EqA P T E k m] {cs ds:List Value} {b:Bool} (hb:eqL (List.replicate m k) cs ds=some b) (w:World):(Op.equalIn 10000 T (.agg cs.toArray) (.agg ds.toArray)).run P w=.ok b w:=by
 obtain⟨i,hi⟩:=Option.isSome_iff_exists.1 h.inf;have:=run_equalIn_array (P:=P) w 9999 cs.toArray ds.toArray h.und hi;rw[show(10000:Nat)=9999+1 from rfl,this,h.cel,List.range_eq_range'];exact pZ (d:=9998) h.knd m 0 cs ds b (by simpa using hb) w
theorem Fj {T T' E k m:Nat} {x y:Operand} {cs ds:List Value} {b:Bool} [h:EqA P T E k m] (hx:ev e x=some (.agg cs.toArray)) (hy:ev e y=some (.agg ds.toArray)) (hb:eqL (List.replicate m k) cs ds=some b) :
  cf P κ e L ⟨some d,.binOp .eql T x y T',ty,s,af,gd⟩ (.bool b):=fun a w he _=>by
 simp only[execOp,Sem.run_bind,he.ev hx,he.ev hy,run_eqGuard_agg w .eql T x y _ _ h.grd,Result.andThen_ok,run_eql_struct,ri hb w,Sem.run_pure]
theorem Fi {T T' E k m:Nat} {x y:Operand} {cs ds:List Value} {b:Bool} [h:EqA P T E k m] (hx:ev e x=some (.agg cs.toArray)) (hy:ev e y=some (.agg ds.toArray)) (hb:eqL (List.replicate m k) cs ds=some b) :
  cf P κ e L ⟨some d,.binOp .neq T x y T',ty,s,af,gd⟩ (.bool (!b)):=fun a w he _=>by
 simp only[execOp,Sem.run_bind,he.ev hx,he.ev hy,run_eqGuard_agg w .neq T x y _ _ h.grd,Result.andThen_ok,run_neq_struct,ri hb w,Sem.run_pure]
end
end Go.Eg
namespace Go.Eg
open Go.RowKit
section
variable {P:Program} {κ:Cx} {e:Env} {L:List Res} {X:Act→World→Prop} {Q:Exit→Act→World→Prop}
theorem qt {c:Code} (h:G κ e L (c.wpIn (FR none) 0 P (Exit.noGoto Q))):G κ e L ((Code.scope c).wpIn (FR none) 0 P Q):=fun a w hs=>(wpIn_wide (n:=0)).2 (wp_scope_straight ((wpIn_wide (n:=0)).1 (h a w hs)))
theorem qv {l:Nat} (h:G κ e L (Q .normal)):G κ e L ((Code.label l).wpIn (FR κ.ρ) 0 P Q):=fun a w hs=>wpIn_label (h a w hs)
theorem vQ (h:G κ e L (Q .ret)):G κ e L (Exit.noGoto Q .ret):=h
end
theorem kR {ops:Array Oper} {j:Nat} {b:Bool} {o oj:Oper} {t:Tmp} {a:Act} (hg:o.guard=some (j,b)) (hj:ops[j]?=some oj) (hd:oj.dst=some t) (ht:a.tmps[t]?=some undef):Region.wanted o (yielded ops a.tmps)=false:=by
 simp only[Region.wanted,hg,yielded,hj,Option.bind_some,hd,ht];cases b<;>rfl
section
variable {P:Program} {κ:Cx} {e:Env} {L:List Res} {ops:Array Oper} {rest:List Oper} {Q:Exit→Act→World→Prop} {T:List Nat}
theorem il {d:Nat} {op:Op} {t:TypeId} {s:String} {af:Array Edge} {j:Nat} {b:Bool} {u:Tmp} (hj:(ops[j]?).bind (·.dst)=some u) (hu:look e u=some undef) (hd:Nat.blt d κ.N=true)
  (h:G κ ((d,undef) :: e) L (wpListIn (FR κ.ρ) 0 P ops Q rest)):G κ e L (wpListIn (FR κ.ρ) 0 P ops Q (⟨some d,op,t,s,af,some (j,b)⟩ :: rest)):=fun a w hs=>by
 obtain⟨oj,hoj,hdj⟩:=Option.bind_eq_some_iff.1 hj;refine wpListIn_step fun K hK=>?_;rw[kR rfl hoj hdj (hs.env u _ hu)];simp only[Bool.false_eq_true,if_false];exact⟨fun _ _=>trivial,hK _ _ (h _ _ (hs.put (by simpa using hd) undef))⟩
end
theorem zY {κ:Cx} {e:Env} {L:List Res} {X:Act→World→Prop} (A:Option Addr) (T k:Nat) (els:List (List Value)) (he:els=[]) (h:G κ e (.row A 0 0 T k els :: L) X):G κ e L X:=by
 subst he;exact uZ A T k h
end Go.Eg
namespace Go.Eg
open Go.RowKit
theorem Ge (z:List Value) (n k:Nat) (hzk:z.length=k):(Builtin.zeroCells z.toArray n).toList=(List.replicate n z).flatten:=by
 have e:Builtin.zeroCells z.toArray n=madeCells z.toArray (n*z.toArray.size):=rfl;rw[e,List.size_toArray,hzk];exact jf z n k hzk
section
variable {P:Program} {κ:Cx} {e:Env} {L:List Res} {X:Act→World→Prop} {Q:Exit→Act→World→Prop} {d:Tmp} {ty:TypeId} {s:String} {af:Array Edge} {gd:Option (Nat × Bool)}
theorem nk {T E:Nat} (hu:P.underlying T=some (.slice E)) (A:Option Addr) (n c:Nat) (w:World):(Op.equal T (.slice A n c) (.slice none 0 0)).run P w=.ok A.isNone w:=by
 have key:∀d:Nat,(Op.equalIn (d+1) T (.slice A n c) (.slice none 0 0)).run P w=.ok A.isNone w:=fun d=>by
  cases A<;>simp[Op.equalIn,run_underlying hu]
 exact key 9999
theorem EI {T T' E k n c:Nat} {x y:Operand} {A:Option Addr} [h:Slc P T E k] (hx:ev e x=some (.slice A n c)) (hy:ev e y=some (.slice none 0 0)):cf P κ e L ⟨some d,.binOp .eql T x y T',ty,s,af,gd⟩ (.bool A.isNone):=fun a w he _=>by
 have e1:binOp .eql T (.slice A n c) (.slice none 0 0)=(do pure (.bool (←Op.equal T (.slice A n c) (.slice none 0 0)))):=by cases A<;>rfl
 have e2:(eqGuard .eql T x y (.slice A n c) (.slice none 0 0)).run P w=.ok () w:=by cases A<;>simp[eqGuard,run_program]
 simp only[execOp,Sem.run_bind,he.ev hx,he.ev hy,e2,Sem.run_pure,Result.andThen_ok,e1,nk h.und]
theorem qw {T E k bt n cap l dl dc:Nat} {A D:Option Addr} {x:Operand} {els:List (List Value)} {zc:List Value} {L' : List Res} [hs:SlcF P T E k bt] [hz:Zr P E zc] (hx:ev e x=some (.slice D dl dc)) [_hi:InRow L A n cap E k els]
  (hD:0<dl→D=some ⟨bo A,oo A+l*k,none⟩) (hl:l+dl≤n) (h1:∀u∈zc,u.oneCell' = true)
  [hL:UpRow L A n cap E k els (.row A n cap E k (els.take l++List.replicate dl zc++els.drop (l+dl))) L'] (h:G κ e L' X) :
  G κ e L (owp κ.ρ P ⟨none,.call { callee:=.builtin .clear,args := #[x],argTypes := #[T] },ty,s,af,gd⟩ Q X):=fun a w hst=>by
 obtain⟨j,hj,rfl⟩:=hL.at_;obtain⟨i,z,hi,hz0,hsz,hby,hzs,hk,hbp⟩:=hs.get;obtain⟨v,hv,hcells⟩:=hz.run w;have hvz:v=z:=by
  have:(zeroValue E).run P w=.ok z w:=by simp[zeroValue,typeInfo,hi,hz0]
  rw[this] at hv;injection hv with h1 _;exact h1.symm
 subst hvz;have hzl:zc.length=k:=by rw[hcells] at hzs;simpa using hzs
 have hcat0:∀c∈List.replicate dl zc,c.length=k:=fun c hc=>by rw[List.eq_of_mem_replicate hc];exact hzl
 have hsat0:=hst.wok.sat j _ hj;rcases Nat.eq_zero_or_pos dl with h0|h0
 ·subst h0;have hr:(execOp a.eval ⟨none,.call { callee:=.builtin .clear,args := #[x],argTypes := #[T] },ty,s,af,gd⟩).run P w=.ok (.value (.tuple #[])) w:=by
   cases D<;>simp[execOp,resolve,invoke,builtin,hst.env.ev hx,Builtin.clear_,run_underlying hs.und]
  refine uN hr <| h _ _ ⟨hst.defers,hst.size,hst.env,hst.wok.change hj _ (Upd.refl _ _) ?_ (fun q hq=>.inl hq)⟩
  simpa using hsat0
 obtain⟨hlen,hcat,hrow⟩:=hsat0;rcases hrow with⟨q0,_⟩|⟨b,cur,rfl,hg,hmc,hcm,hsz',htk⟩
 ·omega
 have hlk:(l+dl)*k≤n*k:=Nat.mul_le_mul_right _ hl;have hnk:n*k≤cap*k:=Nat.mul_le_mul_right _ hmc;rw[Nat.add_mul] at hlk;have hcap:¬cap=0:=by omega
 have hD' := hD h0;simp only[sS,sI,Nat.zero_add] at hD';subst hD';have hcl:(List.replicate dl zc).flatten.length=dl*k:=by rw[xG hcat0,List.length_replicate]
 obtain⟨w',hst',hu,hs'⟩:=xO (P:=P) (T:=E) (List.replicate dl zc).flatten cur.toList (l*k) 0 w (fun u hu=>by
  obtain⟨c,hc,hu⟩:=List.mem_flatten.1 hu;rw[List.eq_of_mem_replicate hc] at hu;exact h1 u hu) (by rw[hcl];simp;omega) (by simpa[Res.blk] using hg)
 have hzr:(Builtin.zeroCells v.cells dl).toList=(List.replicate dl zc).flatten:=by rw[hcells];exact Ge zc dl k hzl
 have hne:dl≠0:=by omega
 have hr:(execOp a.eval ⟨none,.call { callee:=.builtin .clear,args := #[x],argTypes := #[T] },ty,s,af,gd⟩).run P w=.ok (.value (.tuple #[])) w' := by
  simp[execOp,resolve,invoke,builtin,hst.env.ev hx,Builtin.clear_,run_underlying hs.und,hv,hzr,hst']
 refine uN hr <| h _ _ ⟨hst.defers,hst.size,hst.env,hst.wok.change hj _ (by simpa[Res.row,hcap] using hu) ?_ (fun q hq=>.inl hq)⟩
 refine⟨by simp;omega,fun c hc=>?_,.inr ⟨b,_,rfl,hs',hmc,hcm,by simp[wU,hsz'],?_⟩⟩
 ·rcases List.mem_append.1 hc with hc|hc
  ·rcases List.mem_append.1 hc with hc|hc
   ·exact hcat c (List.mem_of_mem_take hc)
   exact hcat0 c hc
  exact hcat c (List.mem_of_mem_drop hc)
 simp only[Nat.add_zero];rw[vU _ _ _ _ (by rw[hcl];omega),htk,nA hcat hcat0 (by rw[List.length_replicate];omega),List.length_replicate]
theorem WOK.rowTake {S:List Nat} {w0 w:World} {A:Option Addr} {n cap T k:Nat} {els:List (List Value)} {L:List Res} (h:WOK S w0 (.row A n cap T k els :: L) w) (i:Nat) (hi:i≤n):WOK S w0 (.row (cz A cap 0 k) i cap T k (els.take i) :: L) w:=by
 have e:∀g,cz (some ⟨g,0,none⟩) cap 0 k=some ⟨g,0,none⟩:=fun g=>by
  unfold cz;split
  ·rfl
  simp[yY]
 refine h.less (fun h0=>?_) (fun h0 b hb=>?_)
 ·obtain⟨h1,h2,h3⟩:=h0;refine⟨by simp;omega,fun c hc=>h2 c (List.mem_of_mem_take hc),?_⟩;rcases h3 with⟨h4,h5⟩|⟨g,cur,rfl,hg,hle,hm,hsz,htk⟩
  ·exact .inl ⟨by omega,h5⟩
  refine .inr ⟨g,cur,e g,hg,by omega,hm,hsz,?_⟩;rw[pE h2,←htk,List.take_take,Nat.min_eq_left (Nat.mul_le_mul_right _ hi)]
 obtain⟨h1,h2,h3⟩:=h0;simp only[Res.row] at hb ⊢;split at hb
 ·simp at hb
 rename_i hc;rw[if_neg hc];rcases h3 with⟨_,h5⟩|⟨g,cur,rfl,_⟩
 ·exact absurd h5 hc
 rw[e g] at hb;exact hb
theorem sL {A:Option Addr} {n cap T k:Nat} {els:List (List Value)} {L' : List Res} (i n' : Nat) (els' : List (List Value)) (hi:i≤n) (hn:i=n') (he:els.take i=els') [_hi:InRow L A n cap T k els] [hs:Swap L [.row A n cap T k els] [.row (cz A cap 0 k) n' cap T k els'] L'] (h:G κ e L' X):G κ e L X:=by
 subst hn;subst he;exact sK (fun _ _ _ _ h=>h.rowTake i hi) hs h
end
end Go.Eg
namespace Go.Eg
open Go.RowKit
def kvs (es:List MapEntry):List (Value × Value):=es.map fun e=>(e.key,e.val)
def Res.mp (b:Nat) (D:List (Value × Value)):Res where
 fp:=[b]
 sat w:=∃es clock,w.heap[b]?=some (.map es clock)∧(kvs es.toList).Perm D
 loc w w' h hs:=by
  obtain⟨es,clock,h1,h2⟩:=hs;exact⟨es,clock,by rw[h b aM];exact h1,h2⟩
 lt w hs k hk:=by
  obtain⟨es,clock,h1,h2⟩:=hs;simp at hk;subst hk;exact yT h1
class MpT (P:Program) (T:Nat) (K E:outParam Nat):Prop where
 und:P.underlying T=some (.map K E)
 keyed:Maps.Keyed P K
class InMp (L:List Res) (b:Nat) (D:outParam (List (Value × Value))):Prop where
 at_:∃i:Nat,L[i]?=some (.mp b D)
instance InMp.tail {L:List Res} {r:Res} {b:Nat} {D:List (Value × Value)} [h:InMp L b D]:InMp (r :: L) b D:=⟨h.at_.elim fun i hi=>⟨i+1,hi⟩⟩
instance InMp.head {L:List Res} {b:Nat} {D:List (Value × Value)}:InMp (.mp b D :: L) b D:=⟨0,rfl⟩
class UpMp (L:List Res) (b:Nat) (D:outParam (List (Value × Value))) (D' : List (Value × Value)) (L' : outParam (List Res)):Prop where
 at_:∃i:Nat,L[i]?=some (.mp b D)∧L.set i (.mp b D')=L'
instance UpMp.tail {L L' : List Res} {r:Res} {b:Nat} {D D' : List (Value × Value)} [h:UpMp L b D D' L']:UpMp (r :: L) b D D' (r :: L'):=⟨h.at_.elim fun i hi=>⟨i+1,hi.1,congrArg (r :: ·) hi.2⟩⟩
instance UpMp.head {L:List Res} {b:Nat} {D D' : List (Value × Value)}:UpMp (.mp b D :: L) b D D' (.mp b D' :: L):=⟨0,rfl,rfl⟩
def Key (P:Program) (K:Nat) (v:Value):Prop:=∃l,keyOf P K v=some l
section
variable {P:Program} {κ:Cx} {e:Env} {L:List Res} {X:Act→World→Prop} {Q:Exit→Act→World→Prop} {d:Tmp} {ty:TypeId} {s:String} {af:Array Edge} {gd:Option (Nat × Bool)}
theorem sM {T:TypeId} (hd:Nat.blt d κ.N=true) (h:∀b,G κ ((d,.map (some b)) :: e) (.mp b [] :: L) X):G κ e L (owp κ.ρ P ⟨some d,.makeMap T none,ty,s,af,gd⟩ Q X) :=
 G.loud hd fun a w hs=>⟨.map (some w.heap.size),w.alloc (.map #[] 0),.mp w.heap.size [] :: L,by simp[execOp,run_makeMap],hs.wok.cons (Upd.alloc w _) _ ⟨#[],0,heap_alloc_new w _,.refl _⟩ (by simp[Res.mp]),h _⟩
theorem Upd.setBlock (w:World) (b:Nat) (o:Obj):Upd [b] w (ChangeMaps.setBlock w b o) :=
 ⟨rfl,rfl,rfl,by simp[ChangeMaps.setBlock],fun k hk hn=>by
  have hne:b≠k:=fun h=>hn (by simp[h]);show(w.heap.setIfInBounds b o)[k]?=w.heap[k]?;exact Array.getElem?_setIfInBounds_ne hne⟩
theorem pO {w:World} {b:Nat} {o o' : Obj} (h:w.heap[b]?=some o):(ChangeMaps.setBlock w b o').heap[b]?=some o' := by
 have:=yT h;simp[ChangeMaps.setBlock,this]
theorem pF {w:World} {K:Nat} (hK:Maps.Keyed P K) {kv:Value} (hk:Key P K kv) {es:List MapEntry} {D:List (Value × Value)} (hp:(kvs es).Perm D) (hD:∀p∈D,Key P K p.1) (hno:∀p∈D,p.1≠kv):(Instr.findKey K kv es).run P w=.ok none w:=by
 obtain⟨l,hl⟩:=hk;rcases hK.find w hl es (fun x hx=>hD (x.key,x.val) (hp.mem_iff.1 (List.mem_map.2 ⟨x,hx,rfl⟩))) with⟨h1,_⟩|⟨j,x,_,h2,h3⟩
 ·exact h1
 exact absurd h3 (hno (x.key,x.val) (hp.mem_iff.1 (List.mem_map.2 ⟨x,List.mem_of_getElem? h2,rfl⟩)))
theorem kH {w:World} {K:Nat} (hK:Maps.Keyed P K) {kv v:Value} (hk:Key P K kv) {es:List MapEntry} {D:List (Value × Value)} (hp:(kvs es).Perm D) (hD:∀p∈D,Key P K p.1) (hm:(kv,v)∈D) (hu:∀p∈D,p.1=kv→p.2=v):∃j,(Instr.findKey K kv es).run P w=.ok (some (j,v)) w:=by
 obtain⟨l,hl⟩:=hk;rcases hK.find w hl es (fun x hx=>hD (x.key,x.val) (hp.mem_iff.1 (List.mem_map.2 ⟨x,hx,rfl⟩))) with⟨_,h1⟩|⟨j,x,h1,h2,h3⟩
 ·obtain⟨x,hx,hxe⟩:=List.mem_map.1 (hp.mem_iff.2 hm);exact absurd (congrArg Prod.fst hxe) (h1 x hx)
 have:=hu (x.key,x.val) (hp.mem_iff.1 (List.mem_map.2 ⟨x,List.mem_of_getElem? h2,rfl⟩)) h3;subst this;exact⟨j,h1⟩
theorem xM {ρ:Option Nat} {T K E b:Nat} {m k x:Operand} {kv xv:Value} {D:List (Value × Value)} {L' : List Res} [ht:MpT P T K E] (hm:ev e m=some (.map (some b))) (hk:ev e k=some kv) (hx:ev e x=some xv) [hi:InMp L b D]
  (hkl:Key P K kv) (hD:∀p∈D,Key P K p.1) (hno:∀p∈D,p.1≠kv) [hL:UpMp L b D (D++[(kv,xv)]) L'] (h:G κ e L' X):G κ e L (owp ρ P ⟨none,.insert T m k x,ty,s,af,gd⟩ Q X):=fun a w hs=>by
 obtain⟨i,hi',rfl⟩:=hL.at_;obtain⟨es,clock,hb,hp⟩:=hs.wok.sat i _ hi';have hf:=pF (w:=w) ht.keyed hkl hp hD hno;obtain⟨l,hl⟩:=hkl;have hck:=ht.keyed.check w false hl;have he:(execOp a.eval ⟨none,.insert T m k x,ty,s,af,gd⟩).run P w=.ok .skip (ChangeMaps.setBlock w b (.map (es.push ⟨kv,xv,clock⟩) (clock+1))):=by
  simp[execOp,hs.env.ev hm,hs.env.ev hk,hs.env.ev hx,Instr.mapUpdate,run_underlying ht.und,MapKept.run_getObj_map hb,hck,hf,MapKept.run_setObj_map _ hb,Result.andThen,ChangeMaps.setBlock]
 exact qF he <| h _ _ ⟨hs.defers,hs.size,hs.env,hs.wok.change hi' _ (Upd.setBlock w b _) ⟨_,_,pO hb,by simpa[kvs] using hp.append_right [(kv,xv)]⟩ (by simp[Res.mp])⟩
theorem wI {T K E b:Nat} {m k:Operand} {kv v:Value} {D:List (Value × Value)} [ht:MpT P T K E] (hm:ev e m=some (.map (some b))) (hk:ev e k=some kv) [hi:InMp L b D] (hkl:Key P K kv) (hD:∀p∈D,Key P K p.1) (hv:(kv,v)∈D) (hu:∀p∈D,p.1=kv→p.2=v) :
  cf P κ e L ⟨some d,.lookup T m k true,ty,s,af,gd⟩ (.tuple [v,.bool true].toArray):=fun a w he hw=>by
 obtain⟨i,hi'⟩:=hi.at_;obtain⟨es,clock,hb,hp⟩:=hw.sat i _ hi';obtain⟨j,hf⟩:=kH (w:=w) ht.keyed hkl hp hD hv hu;obtain⟨l,hl⟩:=hkl;have hck:=ht.keyed.check w es.isEmpty hl;simp[execOp,he.ev hm,he.ev hk,Instr.lookup,run_underlying ht.und,MapKept.run_getObj_map hb,hck,hf,Result.andThen]
theorem mM {T K E b:Nat} {m k:Operand} {kv z:Value} {D:List (Value × Value)} [ht:MpT P T K E] (hm:ev e m=some (.map (some b))) (hk:ev e k=some kv) [hi:InMp L b D] (hkl:Key P K kv) (hD:∀p∈D,Key P K p.1) (hno:∀p∈D,p.1≠kv) (hz:∀w:World,(zeroValue E).run P w=.ok z w) :
  cf P κ e L ⟨some d,.lookup T m k true,ty,s,af,gd⟩ (.tuple [z,.bool false].toArray):=fun a w he hw=>by
 obtain⟨i,hi'⟩:=hi.at_;obtain⟨es,clock,hb,hp⟩:=hw.sat i _ hi';have hf:=pF (w:=w) ht.keyed hkl hp hD hno;obtain⟨l,hl⟩:=hkl;have hck:=ht.keyed.check w es.isEmpty hl;simp[execOp,he.ev hm,he.ev hk,Instr.lookup,run_underlying ht.und,MapKept.run_getObj_map hb,hck,hf,hz w,Result.andThen]
end
theorem jr:∀{l m:List Nat},l.Nodup→(∀x∈l,x∈m)→l.length≤m.length
 | [],_,_,_=>by simp
 | a :: l,m,hn,hs=>by
  obtain⟨h1,h2⟩:=List.nodup_cons.1 hn;have ha:a∈m:=hs a aM;have:=jr (m:=m.erase a) h2 fun x hx=>(List.mem_erase_of_ne (fun h=>by subst h;exact h1 hx)).2 (hs x (by simp[hx]));rw[List.length_erase_of_mem ha] at this;have:=List.length_pos_of_mem ha;simp only[List.length_cons];omega
theorem ia:∀{l m:List Nat},l.Nodup→(∀x∈l,x∈m)→m.length≤l.length→l.Perm m
 | [],m,_,_,h=>by rw[List.eq_nil_of_length_eq_zero (show m.length=0 by simpa using h)]
 | a :: l,m,hn,hs,h=>by
  obtain⟨h1,h2⟩:=List.nodup_cons.1 hn;have ha:a∈m:=hs a aM;have:=ia (m:=m.erase a) h2 (fun x hx=>(List.mem_erase_of_ne (fun h=>by subst h;exact h1 hx)).2 (hs x (by simp[hx]))) (by rw[List.length_erase_of_mem ha];simp only[List.length_cons] at h;omega);exact(this.cons a).trans (List.perm_cons_erase ha).symm
def fV (ls:Array Bool) (J:List Nat):Array Bool:=J.foldl (fun l i=>l.setIfInBounds i true) ls
theorem wN:∀(J:List Nat) (ls:Array Bool),(fV ls J).size=ls.size
 | [],_=>rfl
 | i :: J,ls=>by
  show(fV (ls.setIfInBounds i true) J).size=ls.size;rw[wN J];simp
theorem wO:∀(J:List Nat) (ls:Array Bool) (k:Nat) (d:Bool),(fV ls J).getD k d=if k∈J∧k<ls.size then true else ls.getD k d
 | [],ls,k,d=>by simp[fV]
 | i :: J,ls,k,d=>by
  show(fV (ls.setIfInBounds i true) J).getD k d=_;rw[wO J];simp only[Array.size_setIfInBounds,List.mem_cons];by_cases hk:k<ls.size
  ·by_cases h1:k∈J
   ·simp[h1,hk]
   by_cases h2:k=i
   ·subst h2;simp[h1,hk]
   have:i≠k:=fun h=>h2 h.symm;simp[h1,h2,hk,Array.getElem_setIfInBounds,this]
  simp only[hk,and_false,if_false];have e1:ls[k]?=none:=Array.getElem?_eq_none aK;have e2:(ls.setIfInBounds i true)[k]?=none:=Array.getElem?_eq_none aV;simp only[Array.getD_eq_getD_getElem?,e1,e2]
theorem oN {J J' : List Nat} (h:∀k,k∈J↔k∈J') (ls:Array Bool):fV ls J=fV ls J' := by
 apply Array.ext
 ·rw[wN,wN]
 intro k h1 h2;have e1:=wO J ls k false;have e2:=wO J' ls k false;rw[wN] at h1;simp only[h k] at e1;rw[←e2] at e1;simp only[Array.getD_eq_getD_getElem?] at e1;rwa [Array.getElem?_eq_getElem (by rw[wN];exact h1),Array.getElem?_eq_getElem (by rw[wN];exact h1)] at e1
def lU (ops:Array Oper) (J:List Nat) (i:Nat):Bool :=
 match ops[i]? with
 | some o=>J.all fun j=>o.after.any fun e=>Region.binds .any e && e.on == j
 | none=>true
def Df (ops:Array Oper) (ls:Array Bool) (J:List Nat):Bool:=J.all fun j => !ls.getD j true && (ops[j]?).all fun o=>o.after.all fun x => !Region.binds .any x || ls.getD x.on false
theorem oW {ops:Array Oper} {ls:Array Bool} {J:List Nat} (h:Df ops ls J=true):∀j∈J,ls.getD j true=false∧∀o,ops[j]?=some o→∀x∈o.after,Region.binds .any x=true→ls.getD x.on false=true:=fun j hj=>by
 have h1:=List.all_eq_true.1 h j hj;simp only[Bool.and_eq_true,Bool.not_eq_true'] at h1;refine⟨h1.1,fun o ho x hx hb=>?_⟩;have h2:=h1.2;rw[ho] at h2;simp only[Option.all_some] at h2;rw[Array.all_eq_true'] at h2;have h3:=h2 x hx;rw[hb] at h3;simpa using h3
section
variable {P:Program} {κ:Cx} {e:Env} {L:List Res} {ops:Array Oper} {Q:Exit→Act→World→Prop} {T:List Nat}
theorem ua {L0:List Res} (J:List Nat) (hJ:J.Nodup) {ls:Array Bool} (hsz:ls.size=ops.size) (hlt:∀j∈J,j<ops.size) {b:Nat} {mt K E:Nat} [ht:MpT P mt K E] (ent:Nat→Value × Value)
  (hop:∀j∈J,∃m k x t s af,ops[j]?=some ⟨none,.insert mt m k x,t,s,af,none⟩∧ev e m=some (.map (some b))∧ev e k=some (ent j).1∧ev e x=some (ent j).2)
  (hkey:∀j∈J,Key P K (ent j).1) (hdis:∀i∈J,∀j∈J,i≠j→(ent i).1≠(ent j).1)
  (hw:(List.range ops.size).all (fun i=>J.contains i || ls.getD i true || lU ops J i)=true)
  (hrb:Df ops ls J=true)
  (hL:∀D,∀w,WOK κ.S κ.w0 (.mp b D :: L) w→WOK κ.S κ.w0 L0 w) {fuel:Nat}
  (h:G κ e (.mp b (J.map ent) :: L) (ca P ops T (Cls κ L0) Q fuel (fV ls J))) :
  G κ e (.mp b [] :: L) (ca P ops T (Cls κ L0) Q (J.length+fuel) ls):=by
 have hr:=oW hrb;have key:∀(n:Nat) (done:List Nat),done.Nodup→(∀i∈done,i∈J)→done.length+n=J.length→G κ e (.mp b (done.map ent) :: L) (ca P ops T (Cls κ L0) Q (n+fuel) (fV ls done)):=by
  intro n
  induction n with
  | zero =>
   intro done hn hs hl;have hp:done.Perm J:=by
    refine ia hn hs aK
   intro a w hst;rw[oN (fun k=>hp.mem_iff) ls,Nat.zero_add];refine h a w ⟨hst.defers,hst.size,hst.env,?_⟩;exact hst.wok.less (fun h0=>by
    obtain⟨es,clock,h1,h2⟩:=h0;exact⟨es,clock,h1,h2.trans (hp.map ent)⟩) (fun _ q hq=>by simpa[Res.mp] using hq)
  | succ n ih =>
   intro done hn hs hl a w hst;rw[show n+1+fuel=(n+fuel)+1 by omega];have hgetT:∀k,(fV ls done).getD k true=false→k∉done∧ls.getD k true=false:=fun k hk=>by
    rw[wO] at hk;split at hk
    ·cases hk
    rename_i hc;refine⟨fun hm=>hc ⟨hm,?_⟩,hk⟩;rw[hsz];exact hlt k (hs k hm)
   -- one of J is left
   obtain⟨j0,hj0,hjd⟩:∃j∈J,j∉done:=by
    rcases Classical.em (∃j∈J,j∉done) with h1|h1
    ·exact h1
    exfalso;have hsub:∀j∈J,j∈done:=fun j hj=>Classical.byContradiction fun hc=>h1 ⟨j,hj,hc⟩;have:=jr hJ hsub;omega
   have hjready:∀j∈J,j∉done→j∈Region.ready .any ops (fV ls done):=fun j hj hjd=>by
    rw[mem_ready];obtain⟨h1,h2⟩:=hr j hj;obtain⟨m,k,x,t,s,af,ho,_⟩:=hop j hj;refine⟨by rw[wO,if_neg (fun hc=>hjd hc.1)];exact h1,_,ho,fun y hy hb=>?_⟩;rw[wO];split
    ·rfl
    exact h2 _ ho y hy hb
   refine⟨fun _=>hL _ w hst.wok,fun h0=>?_,fun i hi=>?_⟩
   ·have:=hjready j0 hj0 hjd;rw[h0] at this;cases this
   have hi' := hi;rw[mem_ready] at hi;obtain⟨h1,o,ho,h2⟩:=hi;have hio:i<ops.size:=(Array.getElem?_eq_some_iff.1 ho).1;obtain⟨hid,hil⟩:=hgetT i h1;have hiJ:i∈J:=by
    rw[List.all_eq_true] at hw;have:=hw i (by simpa using hio);simp only[Bool.or_eq_true] at this;rcases this with(h3|h3)|h3
    ·simpa using h3
    ·rw[hil] at h3;cases h3
    exfalso;simp only[lU,ho] at h3;rw[List.all_eq_true] at h3;have h4:=h3 j0 hj0;rw[Array.any_eq_true'] at h4;obtain⟨x,hx,h5⟩:=h4;simp only[Bool.and_eq_true,beq_iff_eq] at h5;have h6:=h2 x hx h5.1;rw[h5.2,wO] at h6;rw[if_neg (fun hc=>hjd hc.1)] at h6;have h7:=(hr j0 hj0).1;have hj0s:j0<ls.size:=by rw[hsz];exact hlt j0 hj0
    simp[Array.getElem?_eq_getElem hj0s] at h6 h7;rw[h6] at h7;cases h7
   obtain⟨m,k,x,t,s,af,ho',hm,hk,hx⟩:=hop i hiJ;unfold wpOpIn;simp only[ho',Region.wanted,if_true];have hset:(fV ls done).setIfInBounds i true=fV ls (done++[i]):=by simp[fV]
   rw[hset];have ih' := ih (done++[i]) (List.nodup_append.2 ⟨hn,by simp,fun a ha b hb=>by simp at hb;subst hb;intro hc;subst hc;exact hid ha⟩) (fun q hq=>by
    rcases List.mem_append.1 hq with hq|hq
    ·exact hs q hq
    simp at hq;subst hq;exact hiJ) aV
   rw[List.map_append] at ih';refine xM (ht:=ht) (kv:=(ent i).1) (xv:=(ent i).2) (D:=done.map ent) hm hk hx (hkey i hiJ) (fun p hp=>?_) (fun p hp=>?_) ih' a w hst
   ·obtain⟨q,hq,rfl⟩:=List.mem_map.1 hp;exact hkey q (hs q hq)
   obtain⟨q,hq,rfl⟩:=List.mem_map.1 hp;exact hdis q (hs q hq) i hiJ (fun hc=>by subst hc;exact hid hq)
 exact key J.length [] aM aM aM
end
section
variable {P:Program} {ops:Array Oper} {Q:Exit→Act→World→Prop} {C:World→Prop} {T:List Nat}
theorem uu {i:Nat} {oi:Oper} {v:Value} (hi:ops[i]?=some oi) (hsel:∀(j:Nat) (o:Oper) cs b,ops[j]?=some o→o.op ≠ .select cs b) (hiT:i∉T) :
  ∀(fuel:Nat) (listed:Array Bool) (a:Act) (w:World),
   (∀j oj,ops[j]?=some oj→j≠i→listed.getD j true=false→(∀e∈oj.after,Region.binds .any e=true→e.on≠i)→oi.apart ops oj=true) →
   i∈Region.ready .any ops listed→eU P ops (fun _=>True) oi v a →
   ca P ops T C Q fuel (listed.setIfInBounds i true) (a.put oi.dst v) w→ca P ops T C Q (fuel+1) listed a w:=by
 have ntset:∀ls:Array Bool,fx T ls→fx T (ls.setIfInBounds i true):=fun ls h t ht=>by
  rw[getD_set_ne false (fun e=>hiT (by rw[e];exact ht))];exact h t ht
 intro fuel
 induction fuel with
 | zero =>
  intro listed a w _ hr hy H;refine⟨fun hn=>H.1 (ntset _ hn),fun h=>(by rw[h] at hr;cases hr),fun j hj=>?_⟩;by_cases hji:j=i
  ·subst hji;exact hy.wpOp hi trivial H
  have:=ready_mono hj hji;rw[H.2.1] at this;cases this
 | succ fuel ih =>
  intro listed a w hfree hr hy H;refine⟨fun hn=>H.1 (ntset _ hn),fun h=>(by rw[h] at hr;cases hr),fun j hj=>?_⟩;by_cases hji:j=i
  ·subst hji;exact hy.wpOp hi trivial H
  have h1:=H.2.2 j (ready_mono hj hji);obtain⟨hjun,oj,hoj,hall⟩:=mem_ready.1 hj;have hi0:listed.getD i false=false:=by
   have h0:=(mem_ready.1 hr).1;rcases Nat.lt_or_ge i listed.size with h' | h'
   ·simp[h'] at h0 ⊢;exact h0
   simp[Array.getElem?_eq_none h'] at h0
  have hnot:∀e∈oj.after,Region.binds .any e=true→e.on≠i:=fun e he hb heq=>by
   have h1:=hall e he hb;rw[heq,hi0] at h1;cases h1
  have h2:=jT hoj (hfree j oj hoj hji hjun hnot) (fun cs b=>hsel i oi cs b hi) (fun cs b=>hsel j oj cs b hoj) hy h1;have hfree' : ∀k ok,ops[k]?=some ok→k≠i→(listed.setIfInBounds j true).getD k true=false →
    (∀e∈ok.after,Region.binds .any e=true→e.on≠i)→oi.apart ops ok=true:=fun k ok hk hki hun hno=>by
   refine hfree k ok hk hki ?_ hno;by_cases hjk:j=k
   ·subst hjk;exact hjun
   rw[getD_set_ne true hjk] at hun;exact hun
  refine wpOpIn_mono (fun a' w' h3=>ih (listed.setIfInBounds j true) a' w' hfree' (ready_mono hr (Ne.symm hji)) h3.1 ?_) h2;rw[Array.setIfInBounds_comm _ _ hji];exact h3.2
def ip (ops:Array Oper) (T:List Nat) (listed:Array Bool) (i:Nat):Bool :=
 Region.noSelect ops && !T.contains i && Region.free .any ops listed i && (Region.ready .any ops listed).contains i
theorem ox {i:Nat} {oi:Oper} {v:Value} {fuel:Nat} {listed:Array Bool} {a:Act} {w:World} (hi:ops[i]?=some oi) (hb:ip ops T listed i=true) (hy:eU P ops (fun _=>True) oi v a)
  (h:ca P ops T C Q fuel (listed.setIfInBounds i true) (a.put oi.dst v) w):ca P ops T C Q (fuel+1) listed a w:=by
 simp only[ip,Bool.and_eq_true] at hb;obtain⟨⟨⟨h1,h2⟩,h5⟩,h6⟩:=hb;exact uu hi (Region.noSelect_spec h1) (by simpa using h2) fuel listed a w (Region.free_spec hi h5) (by simpa using h6) hy h
end
section
variable {P:Program} {κ:Cx} {e:Env} {L:List Res} {ops:Array Oper} {Q:Exit→Act→World→Prop} {T:List Nat}
theorem CA {o:Oper} {v:Value} (hq:∀ κ' : Cx,cf P κ' e [] o v) {a:Act} (he:fL e a) (w:World):(execOp a.eval o).run P w=.ok (.value v) w :=
 hq ⟨[],w,0,[],none⟩ a w he (WOK.start _ _)
theorem d_p {C:World→Prop} (i:Nat) {fuel:Nat} {ls ls' : Array Bool} {d:Nat} {op:Op} {t:TypeId} {s:String} {af:Array Edge} {v:Value} (hi:ops[i]?=some ⟨some d,op,t,s,af,none⟩) (hb:ip ops T ls i=true)
  (hq:∀ κ' : Cx,cf P κ' e [] ⟨some d,op,t,s,af,none⟩ v) (hd:Nat.blt d κ.N=true) (hls:ls.setIfInBounds i true=ls') (h:G κ ((d,v) :: e) L (ca P ops T C Q fuel ls')):G κ e L (ca P ops T C Q (fuel+1) ls):=fun a w hs=>by
 subst hls;exact ox hi hb (.inl ⟨rfl,fun w' _=>CA hq hs.env w'⟩) (h _ _ (hs.put (by simpa using hd) v))
end
section
variable {P:Program} {κ:Cx} {e:Env} {L:List Res} {d:Tmp} {ty:TypeId} {s:String} {af:Array Edge} {gd:Option (Nat × Bool)}
theorem rX {fn:Fn} {fl cl:List Operand} {vf vc:List Value} (hf:evL e fl=some vf) (hc:evL e cl=some vc) (hm:∀w:World,(Instr.makeFunc fn vf.toArray vc.toArray).run P w=.ok (.func fn vf.toArray vc.toArray) w) :
  cf P κ e L ⟨some d,.makeFunc fn fl.toArray cl.toArray,ty,s,af,gd⟩ (.func fn vf.toArray vc.toArray) :=
 EH (by rw[List.map_toArray,List.map_toArray,tA hf]) (by rw[List.map_toArray,List.map_toArray,tA hc]) hm
end
theorem rW {P:Program} {κ:Cx} {e:Env} {L:List Res} {d:Tmp} {ty:TypeId} {s:String} {af:Array Edge} {gd:Option (Nat × Bool)} {T E m i:Nat} {kd:IntKind} {x y:Operand} {z:Int} {cs:List Value} {v:Value} [ht:Arr P T E m 1] [hg:Ty P E false 1] (hx:ev e x=some (.agg cs.toArray)) (hy:ev e y=some (.int kd z)) (hz:z=(i:Int)) (him:i<m) (hv:cs[i]?=some v) :
  cf P κ e L ⟨some d,.index T x y,ty,s,af,gd⟩ v:=fun a w he hw=>by
 obtain⟨f,hf,hs⟩:=Option.map_eq_some_iff.1 ht.siz;subst hz;simp[execOp,he.ev hx,he.ev hy,Instr.index,asIntOf,Sem.run_bind,run_underlying ht.und,sizeOf,typeInfo,hf,hs,him,part,hg.agg w,hv]
theorem WOK.blkRow {S:List Nat} {w0 w:World} {b T k:Nat} {c:List Value} {els:List (List Value)} {L:List Res} (h:WOK S w0 (.blk b T c :: L) w) (hk:∀x∈els,x.length=k) (hc:els.flatten=c) (hm:els.length≤1000000):WOK S w0 (.row (some ⟨b,0,none⟩) els.length els.length T k els :: L) w :=
 h.less (fun h0=>⟨rfl,hk,.inr ⟨b,_,rfl,h0,Nat.le_refl _,by unfold maxLen;omega,by rw[←hc];simp[xG hk],by subst hc;show List.take _ els.flatten=_;rw[←xG hk,List.take_length]⟩⟩) fun _ q hq=>by
  simp only[Res.row] at hq;split at hq
  ·simp at hq
  simpa[Res.blk] using hq
theorem xW {κ:Cx} {e:Env} {L:List Res} {X:Act→World→Prop} {b T:Nat} {c:List Value} {L' : List Res} (k n:Nat) (els:List (List Value)) (hk:∀x∈els,x.length=k) (hn:els.length=n) (hc:els.flatten=c) (hm:n≤1000000) [_hi:InL L b T c] [hs:Swap L [.blk b T c] [.row (some ⟨b,0,none⟩) n n T k els] L'] (h:G κ e L' X):G κ e L X:=by
 subst hn;exact sK (fun _ _ _ _ h=>h.blkRow hk hc hm) hs h
theorem AS {κ:Cx} {e:Env} {L:List Res} {X:Act→World→Prop} (A:Option Addr) {n cap T k:Nat} {els:List (List Value)} [hi:InRow L A n cap T k els] (hn:0<n) (h:(A=some ⟨bo A,oo A,none⟩∧oo A=0)→n≤cap→cap≤maxLen→G κ e L X):G κ e L X:=fun a w hs=>by
 obtain⟨i,hi'⟩:=hi.at_;obtain⟨_,_,h3⟩:=hs.wok.sat i _ hi';rcases h3 with⟨h4,_⟩|⟨g,cur,hA,_,hle,hm,_⟩
 ·omega
 subst hA;exact h ⟨rfl,rfl⟩ hle hm a w hs
theorem ppx {A:Option Addr} {cap l k:Nat} (hA:A=some ⟨bo A,oo A,none⟩) (hl:l<cap):cz A cap l k=some ⟨bo A,oo A+l*k,none⟩:=by
 unfold cz;rw[if_neg aK]
 conv=>lhs;rw[hA]
 simp[yY]
end Go.Eg
namespace Go.Eg
open Go.RowKit
def Res.obj (b:Nat) (o:Obj):Res where
 fp:=[b]
 sat w:=w.heap[b]?=some o
 loc w w' h hs:=by rw[h b aM];exact hs
 lt w hs k hk:=by simp at hk;subst hk;exact yT hs
def YOK {α:Type} (P:Program) (l:Nat) (enc:α→Value) (B:List α→Res→Prop) (all:List α):Prop :=
 ∀(pre:List α) (x:α) (r:Res) (w:World),pre++[x] <+: all→B pre r→WOK (fps [r]) w [r] w →
  YieldAt (FR none) 0 P l #[enc x] w fun en w' => en=.returned (.bool true)∧∃r',B (pre++[x]) r' ∧ WOK (fps [r]) w [r'] w'
def BS {α:Type} (P:Program) (gf:FuncId) (fst cap:List Value) (S0:List Nat) (w00 w:World) (Lin:List Res) (enc:α→Value) (all:List α) (Lout:List Res):Prop :=
 ∀(l:Nat) (B:List α→Res→Prop) (r:Res),YOK P l enc B all→B [] r→WOK S0 w00 (Lin++[r]) w→WOK (fps (Lin++[r])) w (Lin++[r]) w →
  Ret P gf (fst++[.func (.yield l) #[] #[]]++cap) w fun _ w' => ∃r',B all r' ∧ WOK (fps (Lin++[r])) w (Lout++[r']) w'
section
variable {P:Program} {κ:Cx} {e:Env} {L:List Res} {X:Act→World→Prop} {Q:Exit→Act→World→Prop} {d:Tmp} {ty:TypeId} {s:String} {af:Array Edge} {gd:Option (Nat × Bool)}
theorem qr {α:Type} {l:Nat} {enc:α→Value} {B:List α→Res→Prop} {all pre:List α} {x0:Operand} {xs:List Operand} {ts:Array TypeId} {a:α} {r:Res} (hY:YOK P l enc B all) (hpre:pre++[a] <+: all) (hB:B pre r)
  (hx:ev e x0=some (.func (.yield l) #[] #[])) (hxs:evL e xs=some [enc a]) [hs:Sub L [r]] (hd:Nat.blt d κ.N=true) (h:∀r',B (pre++[a]) r' → ∃L',Swap L [r] [r'] L' ∧ G κ ((d,.bool true) :: e) L' X) :
  G κ e L (owp κ.ρ P ⟨some d,.call { callee:=.value x0,args:=xs.toArray,argTypes:=ts },ty,s,af,gd⟩ Q X):=fun ac w hst=>by
 obtain⟨fn,tmps,assign,body,hy,hR⟩:=hY pre a r w hpre hB (hst.wok.own' hs);have he:(execOp ac.eval ⟨some d,.call { callee:=.value x0,args:=xs.toArray,argTypes:=ts },ty,s,af,gd⟩).run P w=.ok (.round l fn tmps assign body) w:=by
  have hm:=ig hst.env xs [enc a] (tA hxs);have hx' := hst.env.ev hx;simp[execOp,resolve,Deferred.ofValue,invoke,hm,hx',hy]
 refine⟨fun _ _=>trivial,?_⟩;show Oper.uponIn (FR κ.ρ) 0 P _ ac X Q ((Oper.semAt κ.ρ ac.eval _).run P w);rw[sD he (by intro d hd;cases hd)];have hR' : RoundIn (FR κ.ρ) 0 P l fn tmps assign body w _:=hR;refine⟨fun hd=>by simp[FR] at hd,RoundIn.mono hR' ?_⟩;rintro en w' ⟨rfl,r',hB',hw'⟩;obtain⟨L',hL,hg⟩:=h r' hB';exact hg _ _ (rT hst hd _ (hst.wok.swap [] hL (by simpa using hw')))
def jM (X:World→Prop):Exit→Act→World→Prop
 | .normal,_,w=>X w
 | _,_,_=>False
def FU (κ:Cx) (e:Env) (L:List Res):Exit→Act→World→Prop
 | .normal,a,w=>St κ e L a w
 | _,_,_=>False
theorem GH {e' : Env} {L' : List Res} (he:fM e' e) (hL:∀w,WOK κ.S κ.w0 L w→WOK κ.S κ.w0 L' w):G κ e L (FU κ e' L' .normal):=fun _ _ hs=>hs.sub he hL
theorem qu {X:World→Prop} (h:∀w,WOK κ.S κ.w0 L w→X w):G κ e L (jM X .normal):=fun _ w hs=>h w hs.wok
theorem Upd.putObj {w:World} (l:Nat) (o:Obj):Upd [l] w (w.putObj l o) :=
 ⟨rfl,rfl,rfl,by simp,fun k _ hn=>World.putObj_heap_other (fun e=>hn (by simp[e]))⟩
theorem jU {S:List Nat} {w0 w:World} {L:List Res} (h:WOK S w0 L w):WOK (fps L) w L w :=
 WOK.of (Upd.refl _ _) h.allsat h.pw fun r hr b hb=>.inr (di.2 ⟨r,hr,hb⟩)
theorem WOK.past {S:List Nat} {w0 w w' : World} {L:List Res} {l:Nat} (h:WOK S w0 L w) (hl:∀r∈L,l∉r.fp) (hS:w0.heap.size≤l∨l∈S) (hu:Upd [l] w w'):WOK S w0 L w' :=
 WOK.of (h.upd.trans hu (by simpa using hS)) (fun r hr=>r.loc w _ (fun b hb=>hu.block b (r.lt w (h.allsat r hr) b hb) (by simp;intro hc;subst hc;exact hl r hr hb)) (h.allsat r hr)) h.pw h.allfr
theorem Dk {α ι:Type} {l m:Nat} {fn:FuncId} {tmps:Array Value} {t:Tmp} {assign body:Code} {enc:α→Value} {all:List α} {N:Nat} {e:Env} (htm:tmps.size=N) (ht:Nat.blt t N=true) (hev:fL e { tmps:=tmps,defers:=[] }) (R:ι→List Res) (p:List α→ι→Prop) (e1:α→Env)
  (hA:∀pre x y w0,pre++[x] <+: all→p pre y→G ⟨fps (R y),w0,N,[],some l⟩ ((t,enc x) :: e) (R y) (assign.wpIn (FR (some l)) 0 P (FU ⟨fps (R y),w0,N,[],some l⟩ (e1 x) (R y))))
  (hB:∀pre x y w0,pre++[x] <+: all→p pre y→G ⟨fps (R y),w0,N,[],some l⟩ (e1 x) (R y) (body.wpIn (FR (some l)) 0 P (jM fun w=>∃y',p (pre++[x]) y' ∧ WOK (fps (R y)) w0 (R y') w))) :
  YOK P l enc (fun pre r=>∃y,p pre y∧r=.star (.obj l (.loop { state:=.ready,pending:=none,fn:=fn,tmps:=tmps,params := #[t],assign:=assign,body:=body,defers:=m }) :: .obj m (.deferred (some [])) :: R y)) all:=by
 rintro pre x r w hpre ⟨y,hp,rfl⟩ hw;have hop:WOK (fps [Res.star (.obj l (.loop { state:=.ready,pending:=none,fn:=fn,tmps:=tmps,params := #[t],assign:=assign,body:=body,defers:=m }) :: .obj m (.deferred (some [])) :: R y)]) w
   (.obj l (.loop { state:=.ready,pending:=none,fn:=fn,tmps:=tmps,params := #[t],assign:=assign,body:=body,defers:=m }) :: .obj m (.deferred (some [])) :: R y) w:=by
  have:=hw.opened;simpa using this
 have hl:w.heap[l]?=some (.loop { state:=.ready,pending:=none,fn:=fn,tmps:=tmps,params := #[t],assign:=assign,body:=body,defers:=m }):=hop.allsat (.obj l _) aM;have hpw:=hop.pw;rw[List.pairwise_cons,List.pairwise_cons] at hpw;obtain⟨hd1,hd2,hd3⟩:=hpw;have hlR:∀r∈R y,l∉r.fp:=fun r hr hc=>hd1 r (by simp[hr]) l (by simp[Res.obj]) hc;have hmR:∀r∈R y,m∉r.fp:=fun r hr hc=>hd2 r hr m (by simp[Res.obj]) hc;have hlm:l≠m:=fun hc=>hd1 (.obj m (.deferred (some []))) aM l (by simp[Res.obj]) (by simp[Res.obj,hc]);have hm:w.heap[m]?=some (.deferred (some [])):=hop.allsat (.obj m _) aM;have hwR:WOK (fps (R y)) w (R y) w:=WOK.of (Upd.refl _ _) (fun r hr=>hop.allsat r (by simp[hr])) hd3 fun r hr b hb=>.inr (di.2 ⟨r,hr,hb⟩);have hll:l<w.heap.size:=yT hl;have hml:m<w.heap.size:=yT hm;refine⟨fn,tmps.setIfInBounds t (enc x),assign,body,?_,?_⟩
 ·rw[run_yield hl aM];simp
 refine roundIn_of_wpIn (F:=FR none) trivial ?_;have hEnv:fL ((t,enc x) :: e) { tmps:=tmps.setIfInBounds t (enc x),defers:=[] }:=by
  have:=hev.put (d:=t) (by rw[htm];simpa using ht) (enc x);exact this
 have hSt:St ⟨fps (R y),w,N,[],some l⟩ ((t,enc x) :: e) (R y) { tmps:=tmps.setIfInBounds t (enc x),defers:=[] } w:=⟨rfl,by simpa using htm,hEnv,hwR⟩
 refine Go.wpIn_mono (hA pre x y w hpre hp _ _ hSt) fun ex a w1 hq=>?_;cases ex with
 | normal =>
  have hq:St ⟨fps (R y),w,N,[],some l⟩ (e1 x) (R y) a w1:=hq;have hl1:w1.heap[l]?=some (.loop { state:=.ready,pending:=none,fn:=fn,tmps:=tmps,params := #[t],assign:=assign,body:=body,defers:=m }) :=
   (hq.wok.upd.block l hll (fun hc=>by obtain⟨r,hr,hb⟩:=di.1 hc;exact hlR r hr hb)).trans hl
  refine⟨_,run_beginRound hl1 rfl,?_⟩;have hu1:Upd [l] w1 (w1.putObj l (.loop { state:=.busy,pending:=none,fn:=fn,tmps:=tmps,params := #[t],assign:=assign,body:=body,defers:=m })):=Upd.putObj l _;have hw1:WOK (l :: fps (R y)) w (R y) (w1.putObj l (.loop { state:=.busy,pending:=none,fn:=fn,tmps:=tmps,params := #[t],assign:=assign,body:=body,defers:=m })) :=
   (WOK.of (hq.wok.upd.mono fun x hx=>by simp[hx]) hq.wok.allsat hq.wok.pw fun r hr b hb=>by rcases hq.wok.allfr r hr b hb with h|h;exact .inl h;exact .inr (by simp[h]):WOK (l :: fps (R y)) w (R y) w1).past hlR (.inr aM) hu1
  have hfresh:=jU hw1;refine Go.wpIn_mono (hB pre x y (w1.putObj l (.loop { state:=.busy,pending:=none,fn:=fn,tmps:=tmps,params := #[t],assign:=assign,body:=body,defers:=m })) hpre hp a _ ⟨hq.defers,hq.size,hq.env,hfresh⟩) fun ex a2 w3 hq2=>?_;cases ex with
  | normal =>
   obtain⟨y',hp',hw3⟩:=hq2;have hl2:(w1.putObj l (.loop { state:=.busy,pending:=none,fn:=fn,tmps:=tmps,params := #[t],assign:=assign,body:=body,defers:=m })).heap[l]?=some (.loop { state:=.busy,pending:=none,fn:=fn,tmps:=tmps,params := #[t],assign:=assign,body:=body,defers:=m }):=World.putObj_heap_same (yT hl1);have hnl:l∉fps (R y):=fun hc=>by obtain⟨r,hr,hb⟩:=di.1 hc;exact hlR r hr hb
   have hnm:m∉fps (R y):=fun hc=>by obtain⟨r,hr,hb⟩:=di.1 hc;exact hmR r hr hb
   have hl3:=(hw3.upd.block l (yT hl2) hnl).trans hl2;refine⟨_,_,run_endRound none hl3,rfl,?_⟩;refine⟨_,⟨y',hp',rfl⟩,?_⟩;have hs1:w.heap.size≤w1.heap.size:=hq.wok.upd.size;have hs2:w1.heap.size≤(w1.putObj l (.loop { state:=.busy,pending:=none,fn:=fn,tmps:=tmps,params := #[t],assign:=assign,body:=body,defers:=m })).heap.size:=hu1.size;have hnew:∀r∈R y',∀b∈r.fp,(w.heap.size≤b∨b∈fps (R y)):=fun r hr b hb=>by
    rcases hw3.allfr r hr b hb with h|h
    ·exact .inl aK
    exact .inr h
   have hlR' : ∀r∈R y',l∉r.fp:=fun r hr hc=>by
    rcases hnew r hr l hc with h|h
    ·omega
    exact hnl h
   have hmR' : ∀r∈R y',m∉r.fp:=fun r hr hc=>by
    rcases hnew r hr m hc with h|h
    ·omega
    exact hnm h
   have hu2:=Upd.putObj (w:=w3) l (.loop { state:=.ready,pending:=none,fn:=fn,tmps:=tmps,params := #[t],assign:=assign,body:=body,defers:=m });have hm3:w3.heap[m]?=some (.deferred (some [])):=by
    rw[hw3.upd.block m aK hnm,hu1.block m aK (by simp;exact fun hc=>hlm hc.symm),hq.wok.upd.block m hml hnm];exact hm
   have hT:∀x∈fps (R y),x∈l :: m :: fps (R y):=fun x hx=>by simp[hx]
   have hU:Upd (l :: m :: fps (R y)) w (w3.putObj l (.loop { state:=.ready,pending:=none,fn:=fn,tmps:=tmps,params := #[t],assign:=assign,body:=body,defers:=m })) :=
    (((hq.wok.upd.mono hT).trans hu1 (fun x hx=>.inr (by simp at hx;simp[hx]))).trans hw3.upd (fun x hx=>.inr (hT x hx))).trans hu2 (fun x hx=>.inr (by simp at hx;simp[hx]))
   have hfp:fps [Res.star (.obj l (.loop { state:=.ready,pending:=none,fn:=fn,tmps:=tmps,params := #[t],assign:=assign,body:=body,defers:=m }) :: .obj m (.deferred (some [])) :: R y)]=l :: m :: fps (R y):=by
    rw[vR];simp[fps,Res.obj]
   rw[hfp];refine WOK.closed (L:=[]) ?_;rw[List.append_nil];refine WOK.of hU (fun r hr=>?_) ?_ (fun r hr b hb=>?_)
   ·rcases List.mem_cons.1 hr with rfl|hr
    ·exact World.putObj_heap_same (yT hl3)
    rcases List.mem_cons.1 hr with rfl|hr
    ·exact(hu2.block m (yT hm3) (by simp;exact fun hc=>hlm hc.symm)).trans hm3
    exact r.loc w3 _ (fun b hb=>hu2.block b (r.lt w3 (hw3.allsat r hr) b hb) (by simp;exact fun hc=>hlR' r hr (hc ▸ hb))) (hw3.allsat r hr)
   ·rw[List.pairwise_cons,List.pairwise_cons];refine⟨fun r hr b hb hc=>?_,fun r hr b hb hc=>?_,hw3.pw⟩
    ·simp[Res.obj] at hb;subst hb;rcases List.mem_cons.1 hr with rfl|hr
     ·simp[Res.obj] at hc;exact hlm hc
     exact hlR' r hr hc
    simp[Res.obj] at hb;subst hb;exact hmR' r hr hc
   rcases List.mem_cons.1 hr with rfl|hr
   ·simp[Res.obj] at hb;subst hb;exact .inr aM
   rcases List.mem_cons.1 hr with rfl|hr
   ·simp[Res.obj] at hb;subst hb;exact .inr aM
   rcases hnew r hr b hb with h|h
   ·exact .inl h
   exact .inr (hT b h)
  | _=>exact hq2.elim
 | _=>exact hq.elim
def gH (m:Nat):Deferred:={ target:=.collected m,args := #[] }
theorem msx {α ι:Type} {S:List Nat} {w0:World} {N:Nat} {g:Operand} {t:Tmp} {assign body:Code} {gf:FuncId} {fst cap:List Value} {enc:α→Value} {all:List α} [hb:HasB P gf]
  (hx:ev e g=some (.func (.func gf) fst.toArray cap.toArray)) (ht:Nat.blt t N=true) (Lin Lout rest:List Res) (R:ι→List Res) (p:List α→ι→Prop) (y0:ι) (h0:p [] y0)
  (hL:∀w,WOK S w0 L w→WOK S w0 (Lin++(R y0++rest)) w) (hSeq:∀w,WOK S w0 L w→BS P gf fst cap S w0 w Lin enc all Lout) (e1:α→Env)
  (hA:∀(l:Nat) (pre:List α) (x:α) (y:ι) (w1:World),pre++[x] <+: all→p pre y→G ⟨fps (R y),w1,N,[],some l⟩ ((t,enc x) :: e) (R y) (assign.wpIn (FR (some l)) 0 P (FU ⟨fps (R y),w1,N,[],some l⟩ (e1 x) (R y))))
  (hB:∀(l:Nat) (pre:List α) (x:α) (y:ι) (w1:World),pre++[x] <+: all→p pre y→G ⟨fps (R y),w1,N,[],some l⟩ (e1 x) (R y) (body.wpIn (FR (some l)) 0 P (jM fun w=>∃y',p (pre++[x]) y' ∧ WOK (fps (R y)) w1 (R y') w)))
  (next:∀y,p all y→∀m,G ⟨S,w0,N,[gH m],none⟩ e (Res.obj m (.deferred (some [])) :: (Lout++(R y++rest))) (Q .normal)) :
  G ⟨S,w0,N,[],none⟩ e L ((Code.rangeFunc g #[t] assign body).wpIn (FR none) 0 P Q):=fun a w hs=>by
 have hg:=hs.env.ev hx;refine wpIn_rangeFunc (F:=FR none) fun fn _=>?_;obtain⟨w1,hw1⟩:∃w1,w1=(w.alloc (.deferred (some []))).alloc (.loop { state:=.ready,pending:=none,fn:=fn,tmps:=a.tmps,params := #[t],assign:=assign,body:=body,defers:=w.heap.size }):=⟨_,rfl⟩
 have hwL:=hL w hs.wok;have hd:(Res.obj w.heap.size (.deferred (some []))).sat (w.alloc (.deferred (some []))):=World.alloc_heap_new w _;have hl:(Res.obj (w.heap.size+1) (.loop { state:=.ready,pending:=none,fn:=fn,tmps:=a.tmps,params := #[t],assign:=assign,body:=body,defers:=w.heap.size })).sat w1:=by
  rw[hw1];have:=World.alloc_heap_new (w.alloc (.deferred (some []))) (.loop { state:=.ready,pending:=none,fn:=fn,tmps:=a.tmps,params := #[t],assign:=assign,body:=body,defers:=w.heap.size });simpa[Res.obj] using this
 have hok1:=hwL.cons (Upd.alloc w _) (.obj w.heap.size (.deferred (some []))) hd (by simp[Res.obj]);have hok2:=hok1.cons (Upd.alloc _ (.loop { state:=.ready,pending:=none,fn:=fn,tmps:=a.tmps,params := #[t],assign:=assign,body:=body,defers:=w.heap.size })) (.obj (w.heap.size+1) (.loop { state:=.ready,pending:=none,fn:=fn,tmps:=a.tmps,params := #[t],assign:=assign,body:=body,defers:=w.heap.size })) (by rw[←hw1];exact hl) (by simp[Res.obj]);rw[←hw1] at hok2;have hS1:WOK S w0 L w1:=by rw[hw1];exact(hs.wok.more (Upd.alloc w _)).more (Upd.alloc _ _)
 have hstar:WOK S w0 ((Lin++[Res.star (.obj (w.heap.size+1) (.loop { state:=.ready,pending:=none,fn:=fn,tmps:=a.tmps,params := #[t],assign:=assign,body:=body,defers:=w.heap.size }) :: .obj w.heap.size (.deferred (some [])) :: R y0)])++rest) w1:=by
  have h1:WOK S w0 ((.obj (w.heap.size+1) (.loop { state:=.ready,pending:=none,fn:=fn,tmps:=a.tmps,params := #[t],assign:=assign,body:=body,defers:=w.heap.size }) :: .obj w.heap.size (.deferred (some [])) :: R y0)++(Lin++rest)) w1:=hok2.perm (by
   show(Res.obj _ _ :: Res.obj _ _ :: (Lin++(R y0++rest))).Perm (Res.obj _ _ :: Res.obj _ _ :: (R y0++(Lin++rest)));exact((List.perm_append_comm_assoc Lin (R y0) rest).cons _).cons _)
  refine h1.closed.perm ?_;rw[List.append_assoc];exact List.perm_middle.symm
 have hY:YOK P (w.heap.size+1) enc (fun pre r=>∃y,p pre y∧r=.star (.obj (w.heap.size+1) (.loop { state:=.ready,pending:=none,fn:=fn,tmps:=a.tmps,params := #[t],assign:=assign,body:=body,defers:=w.heap.size }) :: .obj w.heap.size (.deferred (some [])) :: R y)) all :=
  Dk (m:=w.heap.size) (fn:=fn) hs.size ht (fun k v hk=>hs.env k v hk) R p e1 (hA _) (hB _)
 have hcall:=hSeq w1 hS1 (w.heap.size+1) _ (.star (.obj (w.heap.size+1) (.loop { state:=.ready,pending:=none,fn:=fn,tmps:=a.tmps,params := #[t],assign:=assign,body:=body,defers:=w.heap.size }) :: .obj w.heap.size (.deferred (some [])) :: R y0)) hY ⟨y0,h0,rfl⟩ hstar.left hstar.own;refine⟨w.heap.size+1,[gH w.heap.size],w1,{ target:=.fn (.func gf) cap.toArray,args:=(fst++[Value.func (.yield (w.heap.size+1)) #[] #[]]).toArray },w1,gf,(fst++[Value.func (.yield (w.heap.size+1)) #[] #[]]++cap).toArray,w1,?_,?_,fun _ _=>trivial,?_,fun hd=>by simp[FR] at hd,?_⟩
 ·rw[hw1];exact run_enterLoop_outer fn a.tmps #[t] assign body
 ·simp only[resolve,rangeCall,hg];simp[Deferred.ofValue,Act.eval]
 ·simp[invoke,xY hb.has]
 refine jG (Calls.mono hcall ?_);rintro en w2 ⟨v,rfl,r',⟨y,hpy,rfl⟩,hw2⟩;have h3:WOK S w0 ((.obj (w.heap.size+1) (.loop { state:=.ready,pending:=none,fn:=fn,tmps:=a.tmps,params := #[t],assign:=assign,body:=body,defers:=w.heap.size }) :: .obj w.heap.size (.deferred (some [])) :: R y)++(Lout++rest)) w2:=by
  refine WOK.opened ((hstar.join hw2).perm ?_);rw[List.append_assoc];exact List.perm_middle
 have hl2:w2.heap[w.heap.size+1]?=some (.loop { state:=.ready,pending:=none,fn:=fn,tmps:=a.tmps,params := #[t],assign:=assign,body:=body,defers:=w.heap.size }):=h3.allsat (.obj (w.heap.size+1) (.loop { state:=.ready,pending:=none,fn:=fn,tmps:=a.tmps,params := #[t],assign:=assign,body:=body,defers:=w.heap.size })) aM;refine⟨none,_,run_endLoop hl2 aM,?_⟩;have h4:WOK S w0 (Res.obj w.heap.size (.deferred (some [])) :: (Lout++(R y++rest))) w2:=by
  have h5:WOK S w0 (Res.obj w.heap.size (.deferred (some [])) :: (R y++(Lout++rest))) w2:=gq (fun _ h=>h) w2 h3;exact h5.perm ((List.perm_append_comm_assoc (R y) Lout rest).cons _)
 have hpw:=h3.pw;have hnot:∀r∈(Res.obj w.heap.size (.deferred (some [])) :: (Lout++(R y++rest))),w.heap.size+1∉r.fp:=fun r hr hc=>by
  have h6:=(List.pairwise_cons.1 hpw).1 r (by
   rcases List.mem_cons.1 hr with rfl|hr
   ·simp
   simp only[List.mem_append] at hr;rcases hr with hr|hr|hr<;>simp[hr])
  exact h6 (w.heap.size+1) (by simp[Res.obj]) hc
 have h7:=h4.past hnot (.inl (Nat.le_succ_of_le hs.wok.upd.size)) (Upd.putObj (w.heap.size+1) (.loop { state:=.exhausted,pending:=none,fn:=fn,tmps:=a.tmps,params := #[t],assign:=assign,body:=body,defers:=w.heap.size }));exact next y hpy w.heap.size { a with defers:=[gH w.heap.size]++a.defers } _ ⟨by show [gH _]++a.defers=_;rw[hs.defers];rfl,hs.size,fun k v hk=>hs.env k v hk,h7⟩
end
section
variable {P:Program}
theorem FC {f:FuncId} {fn:Func} {c:Code} {args:List Value} {w:World} {R:Value→World→Prop} (hf:P.funcs[f]?=some fn) (hb:fn.body=some c) (n:Nat) (hn:fn.ntmps=n) (hle:args.length≤n)
  (e:Env) (he:∀k v,look e k=some v→(args++List.replicate (n-args.length) undef)[k]?=some v) (S:List Nat) (L:List Res) (hL:WOK S w L w)
  (h:G ⟨S,w,n,[],none⟩ e L (c.wpIn (FR none) 0 P (bodyPostM (FR none) 0 P fn fun en w' => ∃v,en=.returned v∧R v w'))):Ret P f args w R:=by
 subst hn;refine callsIn_wide.1 (callsIn_of_wp_marks (F:=Fence.wide) (n:=0) hf hb trivial (h _ _ ⟨rfl,?_,fun k v hk=>?_,hL⟩))
 ·simp;omega
 have:=he k v hk;have e:args.toArray++Array.replicate (fn.ntmps-args.toArray.size) undef=(args++List.replicate (fn.ntmps-args.length) undef).toArray:=by simp
 show(args.toArray++Array.replicate (fn.ntmps-args.toArray.size) undef)[k]?=some v;rw[e];simpa using this
theorem tX {f:FuncId} {fn:Func} {c:Code} {args:List Value} {w:World} {R:Value→World→Prop} (hf:P.funcs[f]?=some fn) (hb:fn.body=some c) (n:Nat) (hn:fn.ntmps=n) (hle:args.length≤n)
  (S:List Nat) (L:List Res) (hL:WOK S w L w) (ea:Env) (hea:lR args=ea)
  (h:G ⟨S,w,n,[],none⟩ ea L (c.wpIn (FR none) 0 P (bodyPostM (FR none) 0 P fn fun en w' => ∃v,en=.returned v∧R v w'))):Ret P f args w R:=by
 subst hea;exact FC hf hb n hn hle _ (fun k v hk=>by simpa using(gc args 0 k v _ hk).2) S L hL h
class DropR (L:List Res) (r:Res) (L' : outParam (List Res)):Prop where
 p:L.Perm (r :: L')
instance DropR.tail {L L' : List Res} {r s:Res} [h:DropR L r L']:DropR (s :: L) r (s :: L'):=⟨(h.p.cons s).trans (.swap _ _ _)⟩
instance DropR.head {L:List Res} {r:Res}:DropR (r :: L) r L:=⟨.refl _⟩
class EndD (P:Program) (κ:Cx) (L:List Res) (L' : outParam (List Res)):Prop where
 go:∀(w:World) (fn:Func) (tmps:Array Value) (R:Ending→World→Prop),WOK κ.S κ.w0 L w→(∀w',WOK κ.S κ.w0 L' w' → LeavesInM (FR none) 0 P fn tmps R [] .returning w')→LeavesInM (FR none) 0 P fn tmps R κ.D .returning w
instance EndD.none {S:List Nat} {w0:World} {N:Nat} {ρ:Option Nat} {L:List Res}:EndD P ⟨S,w0,N,[],ρ⟩ L L:=⟨fun w _ _ _ hw h=>h w hw⟩
instance EndD.mark {S:List Nat} {w0:World} {N:Nat} {ρ:Option Nat} {L L' : List Res} {m:Nat} [hs:DropR L (Res.obj m (.deferred (some []))) L']:EndD P ⟨S,w0,N,[gH m],ρ⟩ L L' := ⟨fun w fn tmps R hw h=>by
 have h3:=hw.perm hs.p;have hm:w.heap[m]?=some (.deferred (some [])):=h3.allsat (.obj m (.deferred (some []))) aM;have h4:WOK S w0 L' w:=gq (fun _ h=>h) w h3;refine⟨by simp,.inl ⟨m,_,rfl,run_takeDeferred hm,h _ ?_⟩⟩;refine h4.past (fun r hr hc=>?_) (h3.allfr (.obj m (.deferred (some []))) aM m (by simp[Res.obj])) (Upd.putObj m _);have h5:=(List.pairwise_cons.1 h3.pw).1 r hr;exact h5 m (by simp[Res.obj]) hc⟩
variable {κ:Cx} {e:Env} {L L' : List Res} {fn:Func} {R:Value→World→Prop}
def jN (P:Program) (fn:Func) (R:Value→World→Prop):Exit→Act→World→Prop:=bodyPostM (FR none) 0 P fn fun en w' => ∃v,en=.returned v∧R v w'
theorem qy [hE:EndD P κ L L'] {vs:List Value} {v:Value} (hv:(if h:vs.toArray.size=1 then vs.toArray[0] else .tuple vs.toArray)=v) (h1:∀a w,fL e a→WOK κ.S κ.w0 L' w→(fn.results.mapM (rv a.tmps)).run P w=.ok vs.toArray w) (hR:∀w,WOK κ.S κ.w0 L' w→R v w) :
  ∀ex,ex=.ret∨ex=.normal→G κ e L (jN P fn R ex):=fun ex hex a w hs=>by
 have hr:LeavesInM (FR none) 0 P fn a.tmps (fun en w' => ∃v,en=.returned v∧R v w') a.defers .returning w:=by
  rw[hs.defers];refine hE.go w fn a.tmps _ hs.wok fun w' hw' => ?_;have h2:(results fn a.tmps).run P w' = .ok v w' := by
   rw[iJ,Sem.run_bind,h1 a w' hs.env hw',←hv];rfl
  exact⟨_,h2,_,rfl,hR w' hw'⟩
 rcases hex with rfl|rfl<;>exact hr
theorem nB [EndD P κ L L'] {r:ResultVar} {v:Value} (h:fn.results = #[r]) (h1:eo P κ e L' r v) (hR:∀w,WOK κ.S κ.w0 L' w→R v w):∀ex,ex=.ret∨ex=.normal→G κ e L (jN P fn R ex) :=
 qy (vs:=[v]) rfl (fun a w he hw=>by simp[h,uT he hw h1]) hR
theorem De [EndD P κ L L'] {r r' : ResultVar} {v v' : Value} (h:fn.results = #[r,r']) (h1:eo P κ e L' r v) (h2:eo P κ e L' r' v') (hR:∀w,WOK κ.S κ.w0 L' w→R (.tuple [v,v'].toArray) w):∀ex,ex=.ret∨ex=.normal→G κ e L (jN P fn R ex) :=
 qy (vs:=[v,v']) rfl (fun a w he hw=>by simp[h,uT he hw h1,uT he hw h2]) hR
end
end Go.Eg
namespace Go.Eg
open Go.RowKit
structure Bk (α:Type) where
 A:Option Addr
 cap:Nat
 els:List α
def Bk.v {α:Type} (k:Bk α):Value:=.slice k.A k.els.length k.cap
def Bk.res {α:Type} (T n:Nat) (c:α→List Value) (k:Bk α):Res:=.row k.A k.els.length k.cap T n (k.els.map c)
def bks {α:Type} (T n:Nat) (c:α→List Value) (bs:List (Bk α)):Res:=.star (bs.map (Bk.res T n c))
theorem iu {α:Type}:∀(l:List α) (i:Nat) (h:i<l.length),(l[i] :: l.eraseIdx i).Perm l
 | [],i,h=>absurd h aM
 | a :: l,0,_=>.refl _
 | a :: l,i+1,h=>by
  have hi:i<l.length:=by simpa using h
  have ih:=iu l i hi;show(l[i] :: a :: l.eraseIdx i).Perm (a :: l);exact(List.Perm.swap _ _ _).trans (ih.cons a)
theorem lix {α:Type} (x:α):∀(l:List α) (i:Nat) (h:i<l.length),(l.set i x).Perm (x :: l.eraseIdx i)
 | [],i,h=>absurd h aM
 | a :: l,0,_=>.refl _
 | a :: l,i+1,h=>by
  have ih:=lix x l i (by simpa using h);show(a :: l.set i x).Perm (x :: a :: l.eraseIdx i);exact(ih.cons a).trans (List.Perm.swap _ _ _)
section
variable {κ:Cx} {e:Env} {L:List Res} {X:Act→World→Prop}
theorem WOK.starOpen {S:List Nat} {w0 w:World} {Ls rest L:List Res} {r:Res} (hp:Ls.Perm (r :: rest)) (h:WOK S w0 (.star Ls :: L) w):WOK S w0 (r :: .star rest :: L) w:=by
 have h1:WOK S w0 ((r :: rest)++L) w:=h.opened.perm (hp.append_right L);have h2:WOK S w0 (rest++(r :: L)) w:=h1.perm (by
  show(r :: (rest++L)).Perm (rest++(r :: L));exact List.perm_middle.symm)
 exact h2.closed.perm (.swap _ _ _)
theorem WOK.starClose {S:List Nat} {w0 w:World} {Ls rest L:List Res} {r:Res} (hp:(r :: rest).Perm Ls) (h:WOK S w0 (r :: .star rest :: L) w):WOK S w0 (.star Ls :: L) w:=by
 have h1:WOK S w0 (rest++(r :: L)) w:=(h.perm (.swap _ _ _)).opened;have h2:WOK S w0 ((r :: rest)++L) w:=h1.perm List.perm_middle;exact(h2.perm (hp.append_right L)).closed
theorem oS {Ls rest:List Res} {r:Res} {L' : List Res} (hp:Ls.Perm (r :: rest)) [hs:Swap L [.star Ls] [.star rest] L'] (h:G κ e (r :: L') X):G κ e L X:=fun a w hst=>by
 obtain⟨R,h1,h2⟩:=hs.ex;refine h a w ⟨hst.defers,hst.size,hst.env,?_⟩;have h3:WOK κ.S κ.w0 (r :: .star rest :: R) w:=WOK.starOpen hp (hst.wok.perm h1);exact h3.perm ((h2.symm).cons r)
theorem mq {Ls rest:List Res} {r:Res} {L1 L' : List Res} (hp:(r :: rest).Perm Ls) [hd:DropR L r L1] [hs:Swap L1 [.star rest] [.star Ls] L'] (h:G κ e L' X):G κ e L X:=fun a w hst=>by
 obtain⟨R,h1,h2⟩:=hs.ex;refine h a w ⟨hst.defers,hst.size,hst.env,?_⟩;have h3:WOK κ.S κ.w0 (r :: .star rest :: R) w:=(hst.wok.perm hd.p).perm (h1.cons r);exact(WOK.starClose hp h3).perm h2.symm
variable {α:Type} {T n:Nat} {c:α→List Value} {bs:List (Bk α)}
theorem mw (i:Nat) {A:Option Addr} {cap:Nat} {els:List α} {L' : List Res} (hk:bs[i]?=some ⟨A,cap,els⟩) [hs:Swap L [bks T n c bs] [bks T n c (bs.eraseIdx i)] L'] (h:G κ e (.row A els.length cap T n (els.map c) :: L') X):G κ e L X:=by
 obtain⟨hi,hk⟩:=List.getElem?_eq_some_iff.1 hk;refine oS (Ls:=bs.map (Bk.res T n c)) (rest:=(bs.eraseIdx i).map (Bk.res T n c)) (r:=.row A els.length cap T n (els.map c)) (L' := L') ?_ (hs:=hs) h;have hp:=(iu bs i hi).symm.map (Bk.res T n c);rw[hk] at hp;exact hp
theorem kB (i:Nat) (hi:i<bs.length) (A:Option Addr) (m cap:Nat) (els:List α) {L1 L' : List Res} (hm:m=els.length) [hd:DropR L (.row A m cap T n (els.map c)) L1] [hs:Swap L1 [bks T n c (bs.eraseIdx i)] [bks T n c (bs.set i ⟨A,cap,els⟩)] L'] (h:G κ e L' X):G κ e L X:=by
 subst hm;refine mq (Ls:=(bs.set i ⟨A,cap,els⟩).map (Bk.res T n c)) (rest:=(bs.eraseIdx i).map (Bk.res T n c)) (r:=.row A els.length cap T n (els.map c)) (L1:=L1) (L' := L') ?_ (hd:=hd) (hs:=hs) h;exact((lix (⟨A,cap,els⟩:Bk α) bs i hi).map (Bk.res T n c)).symm
theorem WOK.bkNil {S:List Nat} {w0 w:World} (T n:Nat) (c:α→List Value) (m:Nat) (h:WOK S w0 L w):WOK S w0 (bks T n c (List.replicate m ⟨none,0,[]⟩) :: L) w:=by
 have hall:∀r∈(List.replicate m (⟨none,0,[]⟩:Bk α)).map (Bk.res T n c),r=Bk.res T n c ⟨none,0,[]⟩:=fun r hr=>by
  obtain⟨k,hk,rfl⟩:=List.mem_map.1 hr;rw[List.eq_of_mem_replicate hk]
 refine h.cons (Upd.refl _ _) _ ⟨fun r hr=>?_,?_⟩ (fun b hb=>?_)
 ·rw[hall r hr];exact⟨rfl,by simp,.inl ⟨rfl,rfl⟩⟩
 ·refine List.pairwise_iff_getElem.2 fun i j hi hj _ b hb=>?_;rw[hall _ (List.getElem_mem hi)] at hb;simp[Bk.res,Res.row] at hb
 obtain⟨r,hr,hb⟩:=di.1 (show b∈fps ((List.replicate m (⟨none,0,[]⟩:Bk α)).map (Bk.res T n c)) from hb);rw[hall r hr] at hb;simp[Bk.res,Res.row] at hb
theorem Cq (T n:Nat) (c:α→List Value) (m:Nat) (h:G κ e (bks T n c (List.replicate m ⟨none,0,[]⟩) :: L) X):G κ e L X:=fun a w hs=>h a w ⟨hs.defers,hs.size,hs.env,hs.wok.bkNil T n c m⟩
end
section
variable {P:Program} {κ:Cx} {e:Env} {L:List Res} {X:Act→World→Prop} {Q:Exit→Act→World→Prop}
def FT {ζ:Type} (κ:Cx) (e:ζ→Env) (L:ζ→List Res):Exit→Act→World→Prop
 | .normal,a,w=>∃z,St κ (e z) (L z) a w
 | _,_,_=>False
theorem Ew {ζ:Type} {e1:ζ→Env} {L1:ζ→List Res} (z:ζ) (he:fM (e1 z) e) (hL:∀w,WOK κ.S κ.w0 L w→WOK κ.S κ.w0 (L1 z) w):G κ e L (FT κ e1 L1 .normal):=fun _ _ hs=>⟨z,hs.sub he hL⟩
theorem BW {α ι ζ:Type} {l m:Nat} {fn:FuncId} {tmps:Array Value} {t:Tmp} {assign body:Code} {enc:α→Value} {all:List α} {N:Nat} {e:Env} (htm:tmps.size=N) (ht:Nat.blt t N=true) (hev:fL e { tmps:=tmps,defers:=[] }) (R:ι→List Res) (p:List α→ι→Prop) (e1:α→ι→ζ→Env) (R1:α→ι→ζ→List Res)
  (hA:∀pre x y w0,pre++[x] <+: all→p pre y→G ⟨fps (R y),w0,N,[],some l⟩ ((t,enc x) :: e) (R y) (assign.wpIn (FR (some l)) 0 P (FT ⟨fps (R y),w0,N,[],some l⟩ (e1 x y) (R1 x y))))
  (hB:∀pre x y z w0,pre++[x] <+: all→p pre y→G ⟨fps (R1 x y z),w0,N,[],some l⟩ (e1 x y z) (R1 x y z) (body.wpIn (FR (some l)) 0 P (jM fun w=>∃y',p (pre++[x]) y' ∧ WOK (fps (R1 x y z)) w0 (R y') w))) :
  YOK P l enc (fun pre r=>∃y,p pre y∧r=.star (.obj l (.loop { state:=.ready,pending:=none,fn:=fn,tmps:=tmps,params := #[t],assign:=assign,body:=body,defers:=m }) :: .obj m (.deferred (some [])) :: R y)) all:=by
 rintro pre x r w hpre ⟨y,hp,rfl⟩ hw;have hop:WOK (fps [Res.star (.obj l (.loop { state:=.ready,pending:=none,fn:=fn,tmps:=tmps,params := #[t],assign:=assign,body:=body,defers:=m }) :: .obj m (.deferred (some [])) :: R y)]) w
   (.obj l (.loop { state:=.ready,pending:=none,fn:=fn,tmps:=tmps,params := #[t],assign:=assign,body:=body,defers:=m }) :: .obj m (.deferred (some [])) :: R y) w:=by
  have:=hw.opened;simpa using this
 have hl:w.heap[l]?=some (.loop { state:=.ready,pending:=none,fn:=fn,tmps:=tmps,params := #[t],assign:=assign,body:=body,defers:=m }):=hop.allsat (.obj l _) aM;have hpw:=hop.pw;rw[List.pairwise_cons,List.pairwise_cons] at hpw;obtain⟨hd1,hd2,hd3⟩:=hpw;have hlR:∀r∈R y,l∉r.fp:=fun r hr hc=>hd1 r (by simp[hr]) l (by simp[Res.obj]) hc;have hmR:∀r∈R y,m∉r.fp:=fun r hr hc=>hd2 r hr m (by simp[Res.obj]) hc;have hlm:l≠m:=fun hc=>hd1 (.obj m (.deferred (some []))) aM l (by simp[Res.obj]) (by simp[Res.obj,hc]);have hm:w.heap[m]?=some (.deferred (some [])):=hop.allsat (.obj m _) aM;have hwR:WOK (fps (R y)) w (R y) w:=WOK.of (Upd.refl _ _) (fun r hr=>hop.allsat r (by simp[hr])) hd3 fun r hr b hb=>.inr (di.2 ⟨r,hr,hb⟩);have hll:l<w.heap.size:=yT hl;have hml:m<w.heap.size:=yT hm;refine⟨fn,tmps.setIfInBounds t (enc x),assign,body,?_,?_⟩
 ·rw[run_yield hl aM];simp
 refine roundIn_of_wpIn (F:=FR none) trivial ?_;have hEnv:fL ((t,enc x) :: e) { tmps:=tmps.setIfInBounds t (enc x),defers:=[] }:=by
  have:=hev.put (d:=t) (by rw[htm];simpa using ht) (enc x);exact this
 have hSt:St ⟨fps (R y),w,N,[],some l⟩ ((t,enc x) :: e) (R y) { tmps:=tmps.setIfInBounds t (enc x),defers:=[] } w:=⟨rfl,by simpa using htm,hEnv,hwR⟩
 refine Go.wpIn_mono (hA pre x y w hpre hp _ _ hSt) fun ex a w1 hq=>?_;cases ex with
 | normal =>
  obtain⟨z,hq⟩:∃z,St ⟨fps (R y),w,N,[],some l⟩ (e1 x y z) (R1 x y z) a w1:=hq;have hfr1:∀b∈fps (R1 x y z),w.heap.size≤b∨b∈fps (R y):=fun b hb=>by
   obtain⟨r,hr,hb⟩:=di.1 hb;exact hq.wok.allfr r hr b hb
  have hnl1:l∉fps (R1 x y z):=fun hc=>by
   rcases hfr1 l hc with h|h
   ·omega
   obtain⟨r,hr,hb⟩:=di.1 h;exact hlR r hr hb
  have hnm1:m∉fps (R1 x y z):=fun hc=>by
   rcases hfr1 m hc with h|h
   ·omega
   obtain⟨r,hr,hb⟩:=di.1 h;exact hmR r hr hb
  have hlR1:∀r∈R1 x y z,l∉r.fp:=fun r hr hc=>hnl1 (di.2 ⟨r,hr,hc⟩);have hl1:w1.heap[l]?=some (.loop { state:=.ready,pending:=none,fn:=fn,tmps:=tmps,params := #[t],assign:=assign,body:=body,defers:=m }) :=
   (hq.wok.upd.block l hll (fun hc=>by obtain⟨r,hr,hb⟩:=di.1 hc;exact hlR r hr hb)).trans hl
  refine⟨_,run_beginRound hl1 rfl,?_⟩;have hu1:Upd [l] w1 (w1.putObj l (.loop { state:=.busy,pending:=none,fn:=fn,tmps:=tmps,params := #[t],assign:=assign,body:=body,defers:=m })):=Upd.putObj l _;have hw1:WOK (l :: fps (R y)) w (R1 x y z) (w1.putObj l (.loop { state:=.busy,pending:=none,fn:=fn,tmps:=tmps,params := #[t],assign:=assign,body:=body,defers:=m })) :=
   (WOK.of (hq.wok.upd.mono fun x hx=>by simp[hx]) hq.wok.allsat hq.wok.pw fun r hr b hb=>by rcases hq.wok.allfr r hr b hb with h|h;exact .inl h;exact .inr (by simp[h]):WOK (l :: fps (R y)) w (R1 x y z) w1).past hlR1 (.inr aM) hu1
  have hfresh:=jU hw1;refine Go.wpIn_mono (hB pre x y z (w1.putObj l (.loop { state:=.busy,pending:=none,fn:=fn,tmps:=tmps,params := #[t],assign:=assign,body:=body,defers:=m })) hpre hp a _ ⟨hq.defers,hq.size,hq.env,hfresh⟩) fun ex a2 w3 hq2=>?_;cases ex with
  | normal =>
   obtain⟨y',hp',hw3⟩:=hq2;have hl2:(w1.putObj l (.loop { state:=.busy,pending:=none,fn:=fn,tmps:=tmps,params := #[t],assign:=assign,body:=body,defers:=m })).heap[l]?=some (.loop { state:=.busy,pending:=none,fn:=fn,tmps:=tmps,params := #[t],assign:=assign,body:=body,defers:=m }):=World.putObj_heap_same (yT hl1);have hnl:l∉fps (R y):=fun hc=>by obtain⟨r,hr,hb⟩:=di.1 hc;exact hlR r hr hb
   have hnm:m∉fps (R y):=fun hc=>by obtain⟨r,hr,hb⟩:=di.1 hc;exact hmR r hr hb
   have hl3:=(hw3.upd.block l (yT hl2) hnl1).trans hl2;refine⟨_,_,run_endRound none hl3,rfl,?_⟩;refine⟨_,⟨y',hp',rfl⟩,?_⟩;have hs1:w.heap.size≤w1.heap.size:=hq.wok.upd.size;have hs2:w1.heap.size≤(w1.putObj l (.loop { state:=.busy,pending:=none,fn:=fn,tmps:=tmps,params := #[t],assign:=assign,body:=body,defers:=m })).heap.size:=hu1.size;have hnew:∀r∈R y',∀b∈r.fp,(w.heap.size≤b∨b∈fps (R y)):=fun r hr b hb=>by
    rcases hw3.allfr r hr b hb with h|h
    ·exact .inl aK
    exact hfr1 b h
   have hlR' : ∀r∈R y',l∉r.fp:=fun r hr hc=>by
    rcases hnew r hr l hc with h|h
    ·omega
    exact hnl h
   have hmR' : ∀r∈R y',m∉r.fp:=fun r hr hc=>by
    rcases hnew r hr m hc with h|h
    ·omega
    exact hnm h
   have hu2:=Upd.putObj (w:=w3) l (.loop { state:=.ready,pending:=none,fn:=fn,tmps:=tmps,params := #[t],assign:=assign,body:=body,defers:=m });have hm3:w3.heap[m]?=some (.deferred (some [])):=by
    rw[hw3.upd.block m aK hnm1,hu1.block m aK (by simp;exact fun hc=>hlm hc.symm),hq.wok.upd.block m hml hnm];exact hm
   have hT:∀x∈fps (R y),x∈l :: m :: fps (R y):=fun x hx=>by simp[hx]
   have hU:Upd (l :: m :: fps (R y)) w (w3.putObj l (.loop { state:=.ready,pending:=none,fn:=fn,tmps:=tmps,params := #[t],assign:=assign,body:=body,defers:=m })) :=
    (((hq.wok.upd.mono hT).trans hu1 (fun x hx=>.inr (by simp at hx;simp[hx]))).trans hw3.upd (fun x hx=>(hfr1 x hx).elim .inl (fun h=>.inr (hT x h)))).trans hu2 (fun x hx=>.inr (by simp at hx;simp[hx]))
   have hfp:fps [Res.star (.obj l (.loop { state:=.ready,pending:=none,fn:=fn,tmps:=tmps,params := #[t],assign:=assign,body:=body,defers:=m }) :: .obj m (.deferred (some [])) :: R y)]=l :: m :: fps (R y):=by
    rw[vR];simp[fps,Res.obj]
   rw[hfp];refine WOK.closed (L:=[]) ?_;rw[List.append_nil];refine WOK.of hU (fun r hr=>?_) ?_ (fun r hr b hb=>?_)
   ·rcases List.mem_cons.1 hr with rfl|hr
    ·exact World.putObj_heap_same (yT hl3)
    rcases List.mem_cons.1 hr with rfl|hr
    ·exact(hu2.block m (yT hm3) (by simp;exact fun hc=>hlm hc.symm)).trans hm3
    exact r.loc w3 _ (fun b hb=>hu2.block b (r.lt w3 (hw3.allsat r hr) b hb) (by simp;exact fun hc=>hlR' r hr (hc ▸ hb))) (hw3.allsat r hr)
   ·rw[List.pairwise_cons,List.pairwise_cons];refine⟨fun r hr b hb hc=>?_,fun r hr b hb hc=>?_,hw3.pw⟩
    ·simp[Res.obj] at hb;subst hb;rcases List.mem_cons.1 hr with rfl|hr
     ·simp[Res.obj] at hc;exact hlm hc
     exact hlR' r hr hc
    simp[Res.obj] at hb;subst hb;exact hmR' r hr hc
   rcases List.mem_cons.1 hr with rfl|hr
   ·simp[Res.obj] at hb;subst hb;exact .inr aM
   rcases List.mem_cons.1 hr with rfl|hr
   ·simp[Res.obj] at hb;subst hb;exact .inr aM
   rcases hnew r hr b hb with h|h
   ·exact .inl h
   exact .inr (hT b h)
  | _=>exact hq2.elim
 | _=>exact hq.elim
theorem kwx {α ι ζ:Type} {S:List Nat} {w0:World} {N:Nat} {g:Operand} {t:Tmp} {assign body:Code} {gf:FuncId} {fst cap:List Value} {enc:α→Value} {all:List α} [hb:HasB P gf]
  (hx:ev e g=some (.func (.func gf) fst.toArray cap.toArray)) (ht:Nat.blt t N=true) (Lin Lout rest:List Res) (R:ι→List Res) (p:List α→ι→Prop) (y0:ι) (h0:p [] y0)
  (hL:∀w,WOK S w0 L w→WOK S w0 (Lin++(R y0++rest)) w) (hSeq:∀w,WOK S w0 L w→BS P gf fst cap S w0 w Lin enc all Lout) (e1:α→ι→ζ→Env) (R1:α→ι→ζ→List Res)
  (hA:∀(l:Nat) (pre:List α) (x:α) (y:ι) (w1:World),pre++[x] <+: all→p pre y→G ⟨fps (R y),w1,N,[],some l⟩ ((t,enc x) :: e) (R y) (assign.wpIn (FR (some l)) 0 P (FT ⟨fps (R y),w1,N,[],some l⟩ (e1 x y) (R1 x y))))
  (hB:∀(l:Nat) (pre:List α) (x:α) (y:ι) (z:ζ) (w1:World),pre++[x] <+: all→p pre y→G ⟨fps (R1 x y z),w1,N,[],some l⟩ (e1 x y z) (R1 x y z) (body.wpIn (FR (some l)) 0 P (jM fun w=>∃y',p (pre++[x]) y' ∧ WOK (fps (R1 x y z)) w1 (R y') w)))
  (next:∀y,p all y→∀m,G ⟨S,w0,N,[gH m],none⟩ e (Res.obj m (.deferred (some [])) :: (Lout++(R y++rest))) (Q .normal)) :
  G ⟨S,w0,N,[],none⟩ e L ((Code.rangeFunc g #[t] assign body).wpIn (FR none) 0 P Q):=fun a w hs=>by
 have hg:=hs.env.ev hx;refine wpIn_rangeFunc (F:=FR none) fun fn _=>?_;obtain⟨w1,hw1⟩:∃w1,w1=(w.alloc (.deferred (some []))).alloc (.loop { state:=.ready,pending:=none,fn:=fn,tmps:=a.tmps,params := #[t],assign:=assign,body:=body,defers:=w.heap.size }):=⟨_,rfl⟩
 have hwL:=hL w hs.wok;have hd:(Res.obj w.heap.size (.deferred (some []))).sat (w.alloc (.deferred (some []))):=World.alloc_heap_new w _;have hl:(Res.obj (w.heap.size+1) (.loop { state:=.ready,pending:=none,fn:=fn,tmps:=a.tmps,params := #[t],assign:=assign,body:=body,defers:=w.heap.size })).sat w1:=by
  rw[hw1];have:=World.alloc_heap_new (w.alloc (.deferred (some []))) (.loop { state:=.ready,pending:=none,fn:=fn,tmps:=a.tmps,params := #[t],assign:=assign,body:=body,defers:=w.heap.size });simpa[Res.obj] using this
 have hok1:=hwL.cons (Upd.alloc w _) (.obj w.heap.size (.deferred (some []))) hd (by simp[Res.obj]);have hok2:=hok1.cons (Upd.alloc _ (.loop { state:=.ready,pending:=none,fn:=fn,tmps:=a.tmps,params := #[t],assign:=assign,body:=body,defers:=w.heap.size })) (.obj (w.heap.size+1) (.loop { state:=.ready,pending:=none,fn:=fn,tmps:=a.tmps,params := #[t],assign:=assign,body:=body,defers:=w.heap.size })) (by rw[←hw1];exact hl) (by simp[Res.obj]);rw[←hw1] at hok2;have hS1:WOK S w0 L w1:=by rw[hw1];exact(hs.wok.more (Upd.alloc w _)).more (Upd.alloc _ _)
 have hstar:WOK S w0 ((Lin++[Res.star (.obj (w.heap.size+1) (.loop { state:=.ready,pending:=none,fn:=fn,tmps:=a.tmps,params := #[t],assign:=assign,body:=body,defers:=w.heap.size }) :: .obj w.heap.size (.deferred (some [])) :: R y0)])++rest) w1:=by
  have h1:WOK S w0 ((.obj (w.heap.size+1) (.loop { state:=.ready,pending:=none,fn:=fn,tmps:=a.tmps,params := #[t],assign:=assign,body:=body,defers:=w.heap.size }) :: .obj w.heap.size (.deferred (some [])) :: R y0)++(Lin++rest)) w1:=hok2.perm (by
   show(Res.obj _ _ :: Res.obj _ _ :: (Lin++(R y0++rest))).Perm (Res.obj _ _ :: Res.obj _ _ :: (R y0++(Lin++rest)));exact((List.perm_append_comm_assoc Lin (R y0) rest).cons _).cons _)
  refine h1.closed.perm ?_;rw[List.append_assoc];exact List.perm_middle.symm
 have hY:YOK P (w.heap.size+1) enc (fun pre r=>∃y,p pre y∧r=.star (.obj (w.heap.size+1) (.loop { state:=.ready,pending:=none,fn:=fn,tmps:=a.tmps,params := #[t],assign:=assign,body:=body,defers:=w.heap.size }) :: .obj w.heap.size (.deferred (some [])) :: R y)) all :=
  BW (m:=w.heap.size) (fn:=fn) hs.size ht (fun k v hk=>hs.env k v hk) R p e1 R1 (hA _) (hB _)
 have hcall:=hSeq w1 hS1 (w.heap.size+1) _ (.star (.obj (w.heap.size+1) (.loop { state:=.ready,pending:=none,fn:=fn,tmps:=a.tmps,params := #[t],assign:=assign,body:=body,defers:=w.heap.size }) :: .obj w.heap.size (.deferred (some [])) :: R y0)) hY ⟨y0,h0,rfl⟩ hstar.left hstar.own;refine⟨w.heap.size+1,[gH w.heap.size],w1,{ target:=.fn (.func gf) cap.toArray,args:=(fst++[Value.func (.yield (w.heap.size+1)) #[] #[]]).toArray },w1,gf,(fst++[Value.func (.yield (w.heap.size+1)) #[] #[]]++cap).toArray,w1,?_,?_,fun _ _=>trivial,?_,fun hd=>by simp[FR] at hd,?_⟩
 ·rw[hw1];exact run_enterLoop_outer fn a.tmps #[t] assign body
 ·simp only[resolve,rangeCall,hg];simp[Deferred.ofValue,Act.eval]
 ·simp[invoke,xY hb.has]
 refine jG (Calls.mono hcall ?_);rintro en w2 ⟨v,rfl,r',⟨y,hpy,rfl⟩,hw2⟩;have h3:WOK S w0 ((.obj (w.heap.size+1) (.loop { state:=.ready,pending:=none,fn:=fn,tmps:=a.tmps,params := #[t],assign:=assign,body:=body,defers:=w.heap.size }) :: .obj w.heap.size (.deferred (some [])) :: R y)++(Lout++rest)) w2:=by
  refine WOK.opened ((hstar.join hw2).perm ?_);rw[List.append_assoc];exact List.perm_middle
 have hl2:w2.heap[w.heap.size+1]?=some (.loop { state:=.ready,pending:=none,fn:=fn,tmps:=a.tmps,params := #[t],assign:=assign,body:=body,defers:=w.heap.size }):=h3.allsat (.obj (w.heap.size+1) (.loop { state:=.ready,pending:=none,fn:=fn,tmps:=a.tmps,params := #[t],assign:=assign,body:=body,defers:=w.heap.size })) aM;refine⟨none,_,run_endLoop hl2 aM,?_⟩;have h4:WOK S w0 (Res.obj w.heap.size (.deferred (some [])) :: (Lout++(R y++rest))) w2:=by
  have h5:WOK S w0 (Res.obj w.heap.size (.deferred (some [])) :: (R y++(Lout++rest))) w2:=gq (fun _ h=>h) w2 h3;exact h5.perm ((List.perm_append_comm_assoc (R y) Lout rest).cons _)
 have hpw:=h3.pw;have hnot:∀r∈(Res.obj w.heap.size (.deferred (some [])) :: (Lout++(R y++rest))),w.heap.size+1∉r.fp:=fun r hr hc=>by
  have h6:=(List.pairwise_cons.1 hpw).1 r (by
   rcases List.mem_cons.1 hr with rfl|hr
   ·simp
   simp only[List.mem_append] at hr;rcases hr with hr|hr|hr<;>simp[hr])
  exact h6 (w.heap.size+1) (by simp[Res.obj]) hc
 have h7:=h4.past hnot (.inl (Nat.le_succ_of_le hs.wok.upd.size)) (Upd.putObj (w.heap.size+1) (.loop { state:=.exhausted,pending:=none,fn:=fn,tmps:=a.tmps,params := #[t],assign:=assign,body:=body,defers:=w.heap.size }));exact next y hpy w.heap.size { a with defers:=[gH w.heap.size]++a.defers } _ ⟨by show [gH _]++a.defers=_;rw[hs.defers];rfl,hs.size,fun k v hk=>hs.env k v hk,h7⟩
end
end Go.Eg
namespace Go.Eg
open Go.RowKit
structure Rg where
 A:Option Addr
 cap:Nat
 size:Nat
 first:Nat
 n:Nat
 s:List (List Value)
def Rg.c (g:Rg):List Value:=[.slice g.A g.s.length g.cap,.int .i64 g.size,.int .i64 g.first,.int .i64 g.n]
structure Rg.Rep (g:Rg) (k:Nat) (l:List (List Value)):Prop where
 len:l.length=g.n
 le:g.n≤g.s.length
 sz:g.s.length≤g.size
 hi:g.size≤1048576
 fst:g.first<g.s.length∨(g.s.length=0∧g.first=0)
 get:∀j,j<g.n→g.s[(g.first+j)%g.s.length]?=l[j]?
 cp:g.s.length≤g.cap
 one:∀c∈g.s,c.length=k∧∀u∈c,u.oneCell' = true
def Rg.grown (g:Rg) (A:Option Addr) (z:List Value):Rg :=
 { g with A:=A,cap:=min g.size (2*g.s.length+1),first:=0,s:=g.s.drop g.first++g.s.take g.first++List.replicate (min g.size (2*g.s.length+1)-g.s.length) z }
theorem Rg.Rep.grown {g:Rg} {k:Nat} {l:List (List Value)} (h:g.Rep k l) (A:Option Addr) {z:List Value} (hz:z.length=k∧∀u∈z,u.oneCell' = true) (hn:g.n=g.s.length) (hs:g.n<g.size):(g.grown A z).Rep k l∧(g.grown A z).n<(g.grown A z).s.length:=by
 have h1:=h.le;have h2:=h.sz;have h3:=h.hi;have h4:=h.fst;have hlen:(g.grown A z).s.length=min g.size (2*g.s.length+1):=by simp[Rg.grown];omega
 refine⟨⟨h.len,?_,?_,h.hi,.inl ?_,fun j hj=>?_,?_,fun c hc=>?_⟩,?_⟩
 ·rw[hlen];simp only[Rg.grown];omega
 ·rw[hlen];simp only[Rg.grown];omega
 ·rw[hlen];simp only[Rg.grown];omega
 ·rw[hlen];have hj' : j<g.n:=hj;rw[←h.get j hj'];simp only[Rg.grown,Nat.zero_add];rw[Nat.mod_eq_of_lt aK,List.append_assoc];by_cases hjd:j<g.s.length-g.first
  ·rw[List.getElem?_append_left aV,List.getElem?_drop,Nat.mod_eq_of_lt aK]
  rw[List.getElem?_append_right aV,List.getElem?_append_left aV];have e:(g.first+j)%g.s.length=g.first+j-g.s.length:=by
   rw[Nat.mod_eq_sub_mod aK,Nat.mod_eq_of_lt aK]
  rw[e,List.getElem?_take,if_pos aV]
  congr 1
  simp;omega
 ·rw[hlen];simp[Rg.grown]
 ·simp only[Rg.grown,List.mem_append,List.mem_replicate] at hc;rcases hc with(hc|hc)|hc
  ·exact h.one c (List.mem_of_mem_drop hc)
  ·exact h.one c (List.mem_of_mem_take hc)
  rw[hc.2];exact hz
 rw[hlen];simp only[Rg.grown];omega
theorem qD {a m:Nat} (h:a<2*m):a%m=if a<m then a else a-m:=by
 split
 ·exact Nat.mod_eq_of_lt aK
 rw[Nat.mod_eq_sub_mod aK,Nat.mod_eq_of_lt aK]
def Rg.put (g:Rg) (x:List Value):Rg:={ g with n:=g.n+1,s:=g.s.set ((g.first+g.n)%g.s.length) x }
theorem Rg.Rep.put {g:Rg} {k:Nat} {l:List (List Value)} (h:g.Rep k l) {x:List Value} (hx:x.length=k∧∀u∈x,u.oneCell' = true) (hn:g.n<g.s.length):(g.put x).Rep k (l++[x]):=by
 have h4:=h.fst;have hl:(g.put x).s.length=g.s.length:=by simp[Rg.put]
 refine⟨by simp[Rg.put,h.len],by rw[hl];exact hn,by rw[hl];exact h.sz,h.hi,by rw[hl];exact .inl (by simp only[Rg.put];omega),fun j hj=>?_,by rw[hl];exact h.cp,fun c hc=>?_⟩
 ·rw[hl];simp only[Rg.put] at hj ⊢;have e1:=qD (a:=g.first+j) (m:=g.s.length) aK;have e2:=qD (a:=g.first+g.n) (m:=g.s.length) aK;rw[List.getElem?_set];by_cases hjn:j=g.n
  ·subst hjn;rw[if_pos rfl,if_pos (Nat.mod_lt _ aK),List.getElem?_append_right (by rw[h.len];omega)];simp[h.len]
  rw[if_neg (by rw[e1,e2];split<;>split<;>omega),h.get j aK,List.getElem?_append_left (by rw[h.len];omega)]
 rcases List.mem_or_eq_of_mem_set hc with h1|h1
 ·exact h.one c h1
 rw[h1];exact hx
def Rg.pop (g:Rg) (z:List Value):Rg:={ g with first:=(g.first+1)%g.s.length,n:=g.n-1,s:=g.s.set g.first z }
theorem Rg.Rep.pop {g:Rg} {k:Nat} {x:List Value} {l:List (List Value)} (h:g.Rep k (x :: l)) {z:List Value} (hz:z.length=k∧∀u∈z,u.oneCell' = true):(g.pop z).Rep k l:=by
 have h4:=h.fst;have h5:=h.len;have h6:=h.le;simp only[List.length_cons] at h5;have hl:(g.pop z).s.length=g.s.length:=by simp[Rg.pop]
 refine⟨by simp only[Rg.pop];omega,by rw[hl];simp only[Rg.pop];omega,by rw[hl];exact h.sz,h.hi,by rw[hl];exact .inl (Nat.mod_lt _ aK),fun j hj=>?_,by rw[hl];exact h.cp,fun c hc=>?_⟩
 ·rw[hl];simp only[Rg.pop] at hj ⊢;have e0:=qD (a:=g.first+1) (m:=g.s.length) aK;have e1:=qD (a:=g.first+(j+1)) (m:=g.s.length) aK;have e2:=qD (a:=(g.first+1)%g.s.length+j) (m:=g.s.length) (by rw[e0];split<;>omega);have e3:((g.first+1)%g.s.length+j)%g.s.length=(g.first+(j+1))%g.s.length:=by
   rw[Nat.add_mod,Nat.mod_mod,←Nat.add_mod];congr 1;omega
  rw[e3,List.getElem?_set,if_neg (by rw[e1];split<;>omega),h.get (j+1) aK];simp
 rcases List.mem_or_eq_of_mem_set hc with h1|h1
 ·exact h.one c h1
 rw[h1];exact hz
theorem Rg.Rep.head {g:Rg} {k:Nat} {l:List (List Value)} (h:g.Rep k l) {i:Nat} (hi:i<g.n):(g.first+i)%g.s.length<g.s.length∧∃x,g.s[(g.first+i)%g.s.length]?=some x∧l[i]?=some x:=by
 have h1:=h.le;have h2:=h.len;refine⟨Nat.mod_lt _ aK,l[i]'aK,?_,?_⟩
 ·rw[h.get i hi];exact List.getElem?_eq_getElem _
 exact List.getElem?_eq_getElem _
def Rg.init (n:Nat):Rg:=⟨none,0,n,0,0,[]⟩
theorem Rg.Rep.init {n k:Nat} (h2:n≤1048576):(Rg.init n).Rep k [] :=
 ⟨rfl,Nat.le_refl _,Nat.zero_le _,h2,.inr ⟨rfl,rfl⟩,fun j hj=>absurd hj (Nat.not_lt_zero _),Nat.zero_le _,by simp[Rg.init]⟩
theorem Rg.Rep.at {g:Rg} {k:Nat} {α:Type} {c:α→List Value} {l:List α} (h:g.Rep k (l.map c)) {i:Nat} (hi:i<l.length):g.s[(g.first+i)%g.s.length]?=some (c l[i]):=by
 have hn:i<g.n:=by rw[←h.len];simpa using hi
 rw[h.get i hn];exact zP hi
theorem Rg.Rep.idx {g:Rg} {k:Nat} {α:Type} {c:α→List Value} {l:List α} (h:g.Rep k (l.map c)) {i:Nat} (hi:i<l.length):(g.first+i)%g.s.length<g.s.length:=by
 have hn:i<g.n:=by rw[←h.len];simpa using hi
 exact(h.head hn).1
theorem Rg.Rep.num {g:Rg} {k:Nat} {α:Type} {c:α→List Value} {l:List α} (h:g.Rep k (l.map c)):g.n=l.length:=by rw[←h.len];simp
def pk {α:Type} (l:List α) (i:Int):Option α:=if 0≤i then l[i.toNat]? else none
theorem uV {α:Type} (l:List α) (i:Nat):pk l (i:Int)=l[i]?:=by simp[pk]
theorem Rg.Rep.hd {g:Rg} {k:Nat} {α:Type} {c:α→List Value} {x:α} {l:List α} (h:g.Rep k ((x :: l).map c)):g.first<g.s.length∧g.s[g.first]?=some (c x)∧g.n=l.length+1:=by
 have h1:=h.num;have h2:=h.fst;have h3:=h.le;simp only[List.length_cons] at h1;have h4:g.first<g.s.length:=by omega
 refine⟨h4,?_,h1⟩;have:=h.at (i:=0) aM;rw[Nat.add_zero,Nat.mod_eq_of_lt h4] at this;simpa using this
end Go.Eg
