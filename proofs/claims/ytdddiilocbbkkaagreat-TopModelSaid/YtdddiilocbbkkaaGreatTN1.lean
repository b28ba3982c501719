/- TopModel, part 1. No condition. -/
import Derived.WalkKit
import Derived.WalkSpells
import Derived.WalkLawsBesides
import Derived.Deep.Quiet
import Derived.Deep.LoopGhost
import Derived.CallsIn
import Derived.OrdersIn
import Derived.TacticsIn
import Derived.ControlIn
import Derived.RangeFuncIn
import Derived.RangeFuncRecord
import Derived.Maps.AppendAt
import Derived.Deep.Draws
import Derived.ProofKit
import Derived.OpenShut
import Derived.ChangeOld
import Derived.ShutString
set_option linter.unusedVariables false
set_option linter.unusedSimpArgs false
namespace Go.Eg
open Go.RowKit
abbrev aC (v:Int):List Value:=[Value.int .i64 v]
abbrev aD (v:Int):List Value:=[Value.int .u64 v]
abbrev aE (v:Nat):List Value:=[Value.int .u8 ((v:Nat):Int)]
abbrev aF (v:Bool):List Value:=[Value.bool v]
abbrev aG (b:Nat):Value:=.pointer (some ⟨b,0,none⟩)
abbrev aH (z:Int):Value:=.int .i64 z
abbrev aI (n:Nat):Value:=.int .i64 ((n:Nat):Int)
abbrev aJ (z:Int):Value:=.int .u64 z
theorem aK {p:Prop} (h:p:=by omega):p:=h
theorem aL {p:Prop} (h:p:=by kernel_rfl):p:=h
theorem aM {p:Prop} (h:p:=by simp):p:=h
theorem aN {p:Prop} (h:p:=by first|assumption|omega):p:=h
theorem aO {p:Prop} (h:p:=by decide):p:=h
theorem aP {p:Prop} (h:p:=by rfl):p:=h
theorem aQ {p:Prop} (h:p:=by exact trivial):p:=h
theorem aR {p:Prop} (h:p:=by first|omega|(simp;omega)|(simp_all;omega)):p:=h
theorem aS {p:Prop} (h:p:=by first|omega|(simp;done)|(simp;omega)):p:=h
theorem aT {p:Prop} (h:p:=by first|assumption|omega|(simp_all;done)|(simp_all;omega)):p:=h
theorem aU {p:Prop} (h:p:=by(try dsimp only);exact(by first|assumption|omega)):p:=h
theorem aV {p:Prop} (h:p:=by simp;omega):p:=h
theorem aW {p:Prop} (h:p:=by(try dsimp only);exact Nat.zero_le _):p:=h
theorem aX {p:Prop} (h:p:=by first|exact(by first|assumption|omega)|omega|(simp_all;done)|(simp_all;omega)):p:=h
theorem aY {p:Prop} (h:p:=by first|(simp;done)|exact Nat.le_refl _):p:=h
theorem aZ {p:Prop} (h:p:=by first|omega|(simp;omega)):p:=h
theorem bA {p:Prop} (h:p:=by first|rfl|(simp;done)):p:=h
theorem bB {p:Prop} (h:p:=by first|omega|(simp;omega)|(simp;done)):p:=h
theorem bC {p:Prop} (h:p:=by simp_all):p:=h
theorem bD {p:Prop} (h:p:=by first|exact(by first|omega|(simp;done)|(simp;omega))|omega|(simp_all;done)|(simp_all;omega)):p:=h
theorem bE {p:Prop} (h:p:=by simp_all;omega):p:=h
theorem bF {p:Prop} (h:p:=by(try dsimp only);exact(by omega)):p:=h
theorem bG {p:Prop} (h:p:=by first|exact trivial|(dsimp only;exact trivial)):p:=h
theorem bH {p:Prop} (h:p:=by decide +kernel):p:=h
theorem bI {p:Prop} (h:p:=by first|assumption|omega|(simp;omega)):p:=h
theorem bJ {p:Prop} (h:p:=by simp_all;done):p:=h
theorem bK {p:Prop} (h:p:=by dsimp only;omega):p:=h
theorem bL {p:Prop} (h:p:=by first|omega|(simp;done)):p:=h
theorem bM {p:Prop} (h:p:=by first|decide|omega):p:=h
theorem bN {p:Prop} (h:p:=by first|assumption|(simp;done)):p:=h
theorem bO {p:Prop} (h:p:=by first|exact(by omega)|omega):p:=h
theorem bQ {p:Prop} (h:p:=by first|exact(by first|omega|(simp;done)|(simp;omega))|omega|(simp;done)):p:=h
theorem bR {p:Prop} (h:p:=by first|exact(by first|assumption|omega)|omega):p:=h
theorem bS {p:Prop} (h:p:=by first|assumption|omega|(simp;done)):p:=h
theorem bT {p:Prop} (h:p:=by first|(simp;done)|(simp;omega)):p:=h
abbrev bU:=Option Addr
theorem bW:∀{p:Prop} [Decidable p],decide p=true→p:=@of_decide_eq_true
theorem bX:∀{p:Prop} [Decidable p],decide p=false→¬p:=@of_decide_eq_false
theorem bY:∀{c:Prop} {_:Decidable c},¬c→∀{α:Sort _} {t e:α},(if c then t else e)=e:=@if_neg
theorem bZ:∀{c:Prop} {_:Decidable c},c→∀{α:Sort _} {t e:α},(if c then t else e)=t:=@if_pos
theorem cA:∀{α:Type _} {β:Type _} {f:α→β} {l k:List α},(l++k).map f=l.map f++k.map f:=@List.map_append
theorem cB:∀{α:Type _} {l:List α} {i:Nat} (h:i<l.length),l.take i++[l[i]]=l.take (i+1):=@List.take_append_getElem
theorem cC:∀{α:Type _} {l:List α} {n:Nat} (h:n<l.length),l[n]∈l:=@List.getElem_mem
theorem cD:∀{α:Type _} {i:Nat} {a:α} {l:List α},a∈l.take i→a∈l:=@List.mem_of_mem_take
theorem cE:∀{α:Type _} {a:α},¬a∈([]:List α):=@List.not_mem_nil
theorem cF:∀(n:Int),IntKind.u64.wrap n=n % 18446744073709551616:=@IntKind.wrap_u64
theorem cG:∀{α:Type _} {β:Type _} {b:β} {f:α→β} {l:List α},b∈l.map f↔∃a,a∈l∧f a=b:=@List.mem_map
theorem cH:∀{α:Type _} {b:α} {l:List α} {a:α},a∈b :: l↔a=b∨a∈l:=@List.mem_cons
theorem cI:∀{α:Type _} {l:List α},l.take l.length=l:=@List.take_length
theorem cJ:∀{α:Type _} (a b c:List α),a++b++c=a++(b++c):=@List.append_assoc
theorem cK:∀{α:Type _} {a:α} {s t:List α},a∈s++t↔a∈s∨a∈t:=@List.mem_append
theorem cL:∀{α:Type _} {a:α} {i:Nat} {l:List α},a∈l.drop i→a∈l:=@List.mem_of_mem_drop
theorem cM:∀(n:Nat),n≤n:=@Nat.le_refl
theorem cN:∀(n:Nat),0≤n:=@Nat.zero_le
theorem cO:∀{α:Type _} {b:α} {β:Type _} {x:Option β} {f:β→α},x.map f=some b↔∃a,x=some a∧f a=b:=@Option.map_eq_some_iff
theorem cP:∀{α:Type _} {i:Nat} {l:List α},l.length≤i→l.take i=l:=@List.take_of_length_le
theorem cQ:∀{α:Type _} {a b:List α},(a++b).length=a.length+b.length:=@List.length_append
theorem cR:∀{α:Type _} {β:Type _} {a:α} {l:List α} {f:β→α→β} {b:β},(a :: l).foldl f b=l.foldl f (f b a):=@List.foldl_cons
theorem cS:∀{α:Type _} {i:Nat} {l:List α},(l.drop i).length=l.length-i:=@List.length_drop
theorem cT:∀{α:Type _} {a:α} {l:List α},(a :: l).length=l.length+1:=@List.length_cons
theorem cU:∀{α:Type _} {β:Type _} {l:List α} (f:α→β),(l.map f).length=l.length:=@List.length_map
theorem cV:∀{α:Type _} {β:Type _} {f:α→β} {a:α} {l:List α},(a :: l).map f=f a :: l.map f:=@List.map_cons
theorem cW:∀(x:Nat) {y:Nat},y>0→x % y<y:=@Nat.mod_lt
theorem cX:∀{p:Prop} [Decidable p],p→decide p=true:=@decide_eq_true
theorem cY:∀{p:Prop} [Decidable p],¬p→decide p=false:=@decide_eq_false
theorem cZ:∀{α:Type _} (a:List α),a++[]=a:=@List.append_nil
theorem dA:∀{α:Type _} {β:Type _} {f:α→β} {l:List α} {i:Nat} {a:α},(l.set i a).map f=(l.map f).set i (f a):=@List.map_set
theorem dB:∀{α:Type _} [Add α] [Zero α] {a:α} {l:List α},(a :: l).sum=a+l.sum:=@List.sum_cons
abbrev dC (a:Option Addr) (n c:Nat):Value:=.slice a n c
structure Upd (S:List Nat) (w0 w:World):Prop where
 os:w.os=w0.os
 tape:w.tape=w0.tape
 output:w.output=w0.output
 size:w0.heap.size≤w.heap.size
 block:∀k,k<w0.heap.size→k∉S→w.heap[k]?=w0.heap[k]?
theorem Upd.refl (S:List Nat) (w:World):Upd S w w:=⟨rfl,rfl,rfl,Nat.le_refl _,fun _ _ _=>rfl⟩
theorem Upd.trans {S T:List Nat} {a b c:World} (h:Upd S a b) (k:Upd T b c) (hT:∀x∈T,a.heap.size≤x∨x∈S):Upd S a c :=
 ⟨k.os.trans h.os,k.tape.trans h.tape,k.output.trans h.output,Nat.le_trans h.size k.size,fun i hi hn =>
  (k.block i (Nat.lt_of_lt_of_le hi h.size) (fun hm=>by
   rcases hT i hm with h1|h1
   ·omega
   exact hn h1)).trans (h.block i hi hn)⟩
theorem Upd.mono {S T:List Nat} {a b:World} (h:Upd S a b) (hs:∀x∈S,x∈T):Upd T a b :=
 ⟨h.os,h.tape,h.output,h.size,fun k hk hn=>h.block k hk fun hm=>hn (hs k hm)⟩
theorem Upd.below {w0 w:World} (h:Upd [] w0 w):Below w0.heap.size w0 w :=
 ⟨h.os,h.tape,h.output,h.size,fun k hk=>h.block k hk aM⟩
theorem Upd.cell {S:List Nat} {w0 w:World} (h:Upd S w0 w) {p:Addr} (hp:p.block<w0.heap.size) (hn:p.block∉S):w.cell? p=w0.cell? p :=
 World.cell?_of_block (w:=w0) (h.block p.block hp hn)
theorem Upd.drew {S:List Nat} {a w:World} (h:Upd S a w):Upd S a w.drew:=⟨h.os,h.tape,h.output,h.size,h.block⟩
theorem Upd.alloc (w:World) (o:Obj):Upd [] w (w.alloc o):=⟨rfl,rfl,rfl,by simp,fun k hk _=>Below.heap_alloc w o k hk⟩
theorem Upd.setCell (w:World) (p:Addr) (u:Value):Upd [p.block] w (w.setCell p u) :=
 ⟨rfl,rfl,rfl,by simp[World.setCell],fun k _ hn=>Below.heap_setCell w p u k (by simpa using hn)⟩
structure Res where
 fp:List Nat
 sat:World→Prop
 loc:∀w w' : World,(∀b∈fp,w'.heap[b]?=w.heap[b]?)→sat w→sat w'
 lt:∀w:World,sat w→∀b∈fp,b<w.heap.size
theorem yT {w:World} {b:Nat} {o:Obj} (h:w.heap[b]?=some o):b<w.heap.size:=by
 rcases Nat.lt_or_ge b w.heap.size with hlt|hge
 ·exact hlt
 rw[Array.getElem?_eq_none hge] at h;cases h
def Res.blk (b:Nat) (T:TypeId) (c:List Value):Res where
 fp:=[b]
 sat w:=w.heap[b]?=some (.cells c.toArray T (0,0))
 loc w w' h hs:=by rw[h b aM];exact hs
 lt w hs k hk:=by simp at hk;subst hk;exact yT hs
structure WOK (S:List Nat) (w0:World) (L:List Res) (w:World):Prop where
 upd:Upd S w0 w
 sat:∀(i:Nat) (r:Res),L[i]?=some r→r.sat w
 nd:∀(i j:Nat) (r s:Res),i≠j→L[i]?=some r→L[j]?=some s→∀b∈r.fp,b∉s.fp
 fr:∀(i:Nat) (r:Res),L[i]?=some r→∀b∈r.fp,w0.heap.size≤b∨b∈S
theorem WOK.start (S:List Nat) (w:World):WOK S w [] w:=⟨Upd.refl _ _,by simp,by simp,by simp⟩
theorem WOK.drew {S:List Nat} {w0 w:World} {L:List Res} (h:WOK S w0 L w):WOK S w0 L w.drew :=
 ⟨h.upd.drew,fun i r hi=>r.loc w _ (fun _ _=>rfl) (h.sat i r hi),h.nd,h.fr⟩
theorem WOK.more {S:List Nat} {w0 w w' : World} {L:List Res} (h:WOK S w0 L w) (hu:Upd [] w w'):WOK S w0 L w' :=
 ⟨h.upd.trans hu aM,fun i r hi=>r.loc w _ (fun b hb=>hu.block b (r.lt w (h.sat i r hi) b hb) aM) (h.sat i r hi),h.nd,h.fr⟩
theorem WOK.cons {S:List Nat} {w0 w w' : World} {L:List Res} (h:WOK S w0 L w) (hu:Upd [] w w') (r:Res) (hs:r.sat w') (hf:∀b∈r.fp,w.heap.size≤b):WOK S w0 (r :: L) w' := by
 have h' := h.more hu;refine⟨h'.upd,fun i s hi=>?_,fun i j s t hij hi hj b hb hc=>?_,fun i s hi b hb=>?_⟩
 ·cases i with
  | zero=>simp at hi;subst hi;exact hs
  | succ i=>exact h'.sat i s (by simpa using hi)
 ·cases i with
  | zero =>
   cases j with
   | zero=>exact hij rfl
   | succ j =>
    simp at hi hj;subst hi;have:=t.lt w (h.sat j t hj) b hc;have:=hf b hb;omega
  | succ i =>
   cases j with
   | zero =>
    simp at hi hj;subst hj;have:=s.lt w (h.sat i s hi) b hb;have:=hf b hc;omega
   | succ j=>exact h.nd i j s t aK (by simpa using hi) (by simpa using hj) b hb hc
 cases i with
 | zero=>simp at hi;subst hi;exact .inl (Nat.le_trans h.upd.size (hf b hb))
 | succ i=>exact h.fr i s (by simpa using hi) b hb
theorem WOK.change {S:List Nat} {w0 w w' : World} {L:List Res} (h:WOK S w0 L w) {i:Nat} {r:Res} (hi:L[i]?=some r) (r' : Res) (hu:Upd r.fp w w') (hs:r'.sat w')
  (hf:∀b∈r'.fp,b∈r.fp∨w.heap.size≤b):WOK S w0 (L.set i r') w' := by
 have hlen:i<L.length:=by
  rcases Nat.lt_or_ge i L.length with hl|hl
  ·exact hl
  rw[List.getElem?_eq_none hl] at hi;cases hi
 have key:∀j s,j≠i→L[j]?=some s→s.sat w' := fun j s hj hs' =>
  s.loc w _ (fun b hb=>hu.block b (s.lt w (h.sat j s hs') b hb) (h.nd j i s r hj hs' hi b hb)) (h.sat j s hs')
 have get:∀j s,(L.set i r')[j]?=some s→(j=i∧s=r')∨(j≠i∧L[j]?=some s):=fun j s hj=>by
  by_cases e:i=j
  ·subst e;rw[List.getElem?_set_self hlen] at hj;left;exact⟨rfl,by simpa using hj.symm⟩
  rw[List.getElem?_set_ne e] at hj;exact .inr ⟨fun h=>e h.symm,hj⟩
 refine⟨h.upd.trans hu (fun x hx=>h.fr i r hi x hx),fun j s hj=>?_,fun j k s t hjk hj hk b hb hc=>?_,fun j s hj b hb=>?_⟩
 ·rcases get j s hj with⟨_,rfl⟩|⟨hne,hj⟩
  ·exact hs
  exact key j s hne hj
 ·rcases get j s hj with⟨rfl,rfl⟩|⟨hne,hj1⟩<;>rcases get k t hk with⟨rfl,rfl⟩|⟨hne',hk1⟩
  ·exact hjk rfl
  ·rcases hf b hb with hb' | hb'
   ·exact h.nd j k r t hjk hi hk1 b hb' hc
   have:=t.lt w (h.sat k t hk1) b hc;omega
  ·rcases hf b hc with hb' | hb'
   ·exact h.nd j k s r hne hj1 hi b hb hb'
   have:=s.lt w (h.sat j s hj1) b hb;omega
  exact h.nd j k s t hjk hj1 hk1 b hb hc
 rcases get j s hj with⟨_,rfl⟩|⟨_,hj⟩
 ·rcases hf b hb with hb' | hb'
  ·exact h.fr i r hi b hb'
  exact .inl (Nat.le_trans h.upd.size hb')
 exact h.fr j s hj b hb
def iS (L:List Res):List Nat→List Res
 | []=>[]
 | k :: ks=>match L[k]? with|some r=>r :: iS L ks|none=>iS L ks
theorem uK (L:List Res):∀(ks:List Nat),(∀k∈ks,k<L.length)→∀(i:Nat) (r:Res),(iS L ks)[i]?=some r→∃k:Nat,ks[i]?=some k∧L[k]?=some r
 | [],_,i,r,h=>by simp[iS] at h
 | k :: ks,hb,i,r,h=>by
  obtain⟨u,hk⟩:∃u,L[k]?=some u:=⟨_,List.getElem?_eq_getElem (hb k aM)⟩
  simp only[iS,hk] at h;cases i with
  | zero=>exact⟨k,rfl,by rw[hk];simpa using h⟩
  | succ i=>simpa using uK L ks (fun k' hk' => hb k' (by simp[hk'])) i r (by simpa using h)
theorem WOK.pick {S:List Nat} {w0 w:World} {L:List Res} (h:WOK S w0 L w) (ks:List Nat) (hb:ks.all (fun k=>decide (k<L.length))=true) (hn:ks.Nodup):WOK S w0 (iS L ks) w:=by
 have hb' : ∀k∈ks,k<L.length:=by simpa using hb
 refine⟨h.upd,fun i r hi=>?_,fun i j r s hij hi hj b hb hc=>?_,fun i r hi=>?_⟩
 ·obtain⟨k,_,hk⟩:=uK L ks hb' i r hi;exact h.sat k r hk
 ·obtain⟨k,hp,hk⟩:=uK L ks hb' i r hi;obtain⟨l,hq,hl⟩:=uK L ks hb' j s hj;refine h.nd k l r s (fun e=>hij ?_) hk hl b hb hc;subst e;have h1:i<ks.length:=by
   rcases Nat.lt_or_ge i ks.length with h' | h'
   ·exact h'
   rw[List.getElem?_eq_none h'] at hp;cases hp
  have h2:j<ks.length:=by
   rcases Nat.lt_or_ge j ks.length with h' | h'
   ·exact h'
   rw[List.getElem?_eq_none h'] at hq;cases hq
  rw[List.getElem?_eq_getElem h1] at hp;rw[List.getElem?_eq_getElem h2] at hq;simp at hp hq;have hpw:=List.pairwise_iff_getElem.1 hn;rcases Nat.lt_trichotomy i j with hlt|heq|hlt
  ·exact absurd (hp.trans hq.symm) (hpw i j h1 h2 hlt)
  ·exact heq
  exact absurd (hq.trans hp.symm) (hpw j i h2 h1 hlt)
 obtain⟨k,_,hk⟩:=uK L ks hb' i r hi;exact h.fr k r hk
abbrev Env:=List (Nat × Value)
def look:Env→Nat→Option Value
 | [],_=>none
 | (i,v) :: r,k=>if i=k then some v else look r k
def fL (e:Env) (a:Act):Prop:=∀k v,look e k=some v→a.tmps[k]?=some v
def ev (e:Env):Operand→Option Value
 | .tmp t=>look e t
 | .const v=>some v
 | .global g=>some (.pointer (some ⟨g,0,none⟩))
 | .func f=>some (.func (.func f) #[] #[])
theorem fL.ev {e:Env} {a:Act} (h:fL e a) {x:Operand} {v:Value} (hx:ev e x=some v):a.eval x=v:=by
 cases x with
 | tmp t=>have:=h t v hx;simp[Act.eval,Array.getD_eq_getD_getElem?,this]
 | const u=>simp[Eg.ev] at hx;exact hx
 | global g=>simp[Eg.ev] at hx;exact hx
 | func f=>simp[Eg.ev] at hx;exact hx
theorem fL.put {e:Env} {a:Act} (h:fL e a) {d:Nat} (hd:d<a.tmps.size) (v:Value):fL ((d,v) :: e) (a.put (some d) v):=by
 intro k u hk;simp only[look] at hk;simp only[Act.put];by_cases hdk:d=k
 ·subst hdk;simp at hk;subst hk;simp[hd]
 rw[if_neg hdk] at hk;rw[Array.getElem?_setIfInBounds_ne hdk];exact h k u hk
def fk (e:Env):List Nat→Env
 | []=>[]
 | k :: ks=>match look e k with|some v=>(k,v) :: fk e ks|none=>fk e ks
def FR (ρ:Option Nat):Fence:={ fn:=fun _=>True,depth:=none,alive:=false,round:=ρ }
structure Cx where
 S:List Nat
 w0:World
 N:Nat
 D:List Deferred
 ρ:Option Nat
structure St (κ:Cx) (e:Env) (L:List Res) (a:Act) (w:World):Prop where
 defers:a.defers=κ.D
 size:a.tmps.size=κ.N
 env:fL e a
 wok:WOK κ.S κ.w0 L w
def G (κ:Cx) (e:Env) (L:List Res) (X:Act→World→Prop):Prop:=∀a w,St κ e L a w→X a w
section
variable {κ:Cx} {e e' : Env} {L L' : List Res} {X:Act→World→Prop} {P:Program}
theorem St.put {a:Act} {w:World} (h:St κ e L a w) {d:Nat} (hd:d<κ.N) (v:Value):St κ ((d,v) :: e) L (a.put (some d) v) w :=
 ⟨h.defers,by simp[Act.put,h.size],h.env.put (by rw[h.size];exact hd) v,h.wok⟩
end
def cf (P:Program) (κ:Cx) (e:Env) (L:List Res) (o:Oper) (v:Value):Prop :=
 ∀a w,fL e a→WOK κ.S κ.w0 L w→(execOp a.eval o).run P w=.ok (.value v) w
def owp (ρ:Option Nat) (P:Program) (o:Oper) (Q:Exit→Act→World→Prop) (X:Act→World→Prop):Act→World→Prop:=fun a w=>o.wpIn (FR ρ) 0 P a w X Q
theorem sD {ρ:Option Nat} {P:Program} {o:Oper} {a:Act} {w w' : World} {nx:Next} (h:(execOp a.eval o).run P w=.ok nx w') (hn:∀d,nx ≠ .defer d):(o.semAt ρ a.eval).run P w=.ok nx w' := by
 rw[Oper.semAt_eq]
 ·exact h
 intro c hc;unfold execOp at h;rw[hc] at h;simp only[Sem.run_bind] at h;cases hr:(resolve a.eval c o.type).run P w with
 | ok d w1=>rw[hr] at h;simp only[Result.andThen] at h;injection h with h1 _;exact hn d h1.symm
 | halt x w1=>rw[hr] at h;simp only[Result.andThen] at h;cases h
theorem uN {ρ:Option Nat} {P:Program} {o:Oper} {a:Act} {w w' : World} {v:Value} {X:Act→World→Prop} {Q:Exit→Act→World→Prop} (h:(execOp a.eval o).run P w=.ok (.value v) w') (hx:X (a.put o.dst v) w'):o.wpIn (FR ρ) 0 P a w X Q :=
 ⟨fun _ _=>trivial,by show o.uponIn (FR ρ) 0 P a X Q ((o.semAt ρ a.eval).run P w);rw[sD h (by intro d hd;cases hd)];exact hx⟩
theorem qF {ρ:Option Nat} {P:Program} {o:Oper} {a:Act} {w w' : World} {X:Act→World→Prop} {Q:Exit→Act→World→Prop} (h:(execOp a.eval o).run P w=.ok .skip w') (hx:X (a.put o.dst undef) w'):o.wpIn (FR ρ) 0 P a w X Q :=
 ⟨fun _ _=>trivial,by show o.uponIn (FR ρ) 0 P a X Q ((o.semAt ρ a.eval).run P w);rw[sD h (by intro d hd;cases hd)];exact hx⟩
theorem jG {ρ:Option Nat} {n:Nat} {P:Program} {f:FuncId} {args:Array Value} {w:World} {R:Ending→World→Prop} (h:Calls P f args w R):CallsIn (FR ρ) n P f args w R:=callsIn_wide.2 h
theorem mm {ρ:Option Nat} {P:Program} {o:Oper} {a:Act} {w w' : World} {f:FuncId} {args:Array Value} {X:Act→World→Prop} {Q:Exit→Act→World→Prop} (h:(execOp a.eval o).run P w=.ok (.enter f args) w') (hx:Calls P f args w' fun en w'' => ∃v,en=.returned v∧X (a.put o.dst v) w''):o.wpIn (FR ρ) 0 P a w X Q :=
 ⟨fun _ _=>trivial,by
  show o.uponIn (FR ρ) 0 P a X Q ((o.semAt ρ a.eval).run P w);rw[sD h (by intro d hd;cases hd)];refine⟨fun hd=>by simp[FR] at hd,jG (Calls.mono hx ?_)⟩;rintro en w'' ⟨v,rfl,h⟩;exact h⟩
theorem tV {q:Nat→Prop} (h:∃n,q n):∃m,q m∧∀k,q k→m≤k:=by
 obtain⟨n,hn⟩:=h
 induction n using Nat.strongRecOn with
 | _ n ih =>
  by_cases hk:∃k,k<n∧q k
  ·obtain⟨k,hk,hq⟩:=hk;exact ih k hk hq
  exact⟨n,hn,fun k hq=>Nat.le_of_not_lt fun hlt=>hk ⟨k,hlt,hq⟩⟩
theorem jR {ρ:Option Nat} {P:Program} {c:Code} {Q:Exit→Act→World→Prop} {a:Act} {w:World} (I:Nat→Act→World→Prop) (n:Nat) (h0:I n a w)
  (round:∀n a w,I n a w→c.wpIn (FR ρ) 0 P (Exit.then (fun a' w' => ∃m,m<n∧I m a' w') Q) a w):(Code.loop c).wpIn (FR ρ) 0 P Q a w:=by
 classical
 let J:Act→World→Prop:=fun a w=>∃n,I n a w
 let μ:Act→World→Nat:=fun a w=>if h:∃n,I n a w then Classical.choose (tV h) else 0
 refine wpIn_loop J μ ⟨n,h0⟩ ?_;intro a w hJ;have hm:I (μ a w) a w:=by
  show I (if h:∃n,I n a w then Classical.choose (tV h) else 0) a w;rw[dif_pos hJ];exact(Classical.choose_spec (tV hJ)).1
 refine Go.wpIn_mono (round _ a w hm) fun ex a' w' hq=>?_;cases ex with
 | normal =>
  obtain⟨m,hlt,hI⟩:=hq;refine⟨⟨m,hI⟩,Nat.lt_of_le_of_lt ?_ hlt⟩;show(if h:∃n,I n a' w' then Classical.choose (tV h) else 0)≤m;rw[dif_pos ⟨m,hI⟩];exact(Classical.choose_spec (tV ⟨m,hI⟩)).2 m hI
 | _=>exact hq
section
variable {P:Program} {κ:Cx} {e:Env} {L:List Res} {X:Act→World→Prop} {Q:Exit→Act→World→Prop} {ops:Array Oper} {rest:List Oper}
theorem G.quiet {d:Nat} {op:Op} {t:TypeId} {s:String} {af:Array Edge} {gd:Option (Nat × Bool)} {v:Value} (hq:cf P κ e L ⟨some d,op,t,s,af,gd⟩ v) (hd:Nat.blt d κ.N=true) (h:G κ ((d,v) :: e) L X) :
  G κ e L (owp κ.ρ P ⟨some d,op,t,s,af,gd⟩ Q X):=fun a w hs=>by
 exact uN (hq a w hs.env hs.wok) (h _ _ (hs.put (by simpa using hd) v))
theorem mr {id:Nat} {l:List Oper} (h:G κ e L (wpListIn (FR κ.ρ) 0 P l.toArray Q l)):G κ e L ((Code.region id l.toArray false).wpIn (FR κ.ρ) 0 P Q):=fun a w hs=>wpIn_region_lit (h a w hs)
theorem Dd (h:G κ e L (Q .normal)):G κ e L (wpListIn (FR κ.ρ) 0 P ops Q []):=fun a w hs=>wpListIn_nil (h a w hs)
theorem aa {d:Option Nat} {op:Op} {t:TypeId} {s:String} {af:Array Edge} (h:G κ e L (owp κ.ρ P ⟨d,op,t,s,af,none⟩ Q (wpListIn (FR κ.ρ) 0 P ops Q rest))):G κ e L (wpListIn (FR κ.ρ) 0 P ops Q (⟨d,op,t,s,af,none⟩ :: rest)) :=
 fun a w hs=>wpListIn_plain rfl fun _ hK=>Oper.wpIn_mono hK (h a w hs)
theorem uF {j:Nat} {b c:Bool} {o oj:Oper} {t:Tmp} {a:Act} (hg:o.guard=some (j,b)) (hj:ops[j]?=some oj) (hd:oj.dst=some t) (ht:a.tmps[t]?=some (.bool c)) :
  Region.wanted o (yielded ops a.tmps)=(c == b):=by
 simp only[Region.wanted,hg,yielded,hj,Option.bind_some,hd,ht];cases b<;>cases c<;>rfl
theorem ff {d:Option Nat} {op:Op} {t:TypeId} {s:String} {af:Array Edge} {j:Nat} {b:Bool} {u:Tmp} (hj:(ops[j]?).bind (·.dst)=some u) (hu:look e u=some (.bool b))
  (h:G κ e L (owp κ.ρ P ⟨d,op,t,s,af,some (j,b)⟩ Q (wpListIn (FR κ.ρ) 0 P ops Q rest))):G κ e L (wpListIn (FR κ.ρ) 0 P ops Q (⟨d,op,t,s,af,some (j,b)⟩ :: rest)):=fun a w hs=>by
 obtain⟨oj,hoj,hdj⟩:=Option.bind_eq_some_iff.1 hj;refine wpListIn_step fun K hK=>?_;rw[uF rfl hoj hdj (hs.env u _ hu)];simp only[beq_self_eq_true,if_true];exact Oper.wpIn_mono hK (h a w hs)
theorem Ho {d:Nat} {op:Op} {t:TypeId} {s:String} {af:Array Edge} {j:Nat} {b c:Bool} {u:Tmp} (hj:(ops[j]?).bind (·.dst)=some u) (hu:look e u=some (.bool c)) (hc:(c == b)=false) (hd:Nat.blt d κ.N=true)
  (h:G κ ((d,undef) :: e) L (wpListIn (FR κ.ρ) 0 P ops Q rest)):G κ e L (wpListIn (FR κ.ρ) 0 P ops Q (⟨some d,op,t,s,af,some (j,b)⟩ :: rest)):=fun a w hs=>by
 obtain⟨oj,hoj,hdj⟩:=Option.bind_eq_some_iff.1 hj;refine wpListIn_step fun K hK=>?_;rw[uF rfl hoj hdj (hs.env u _ hu),hc];simp only[Bool.false_eq_true,if_false];exact⟨fun _ _=>trivial,hK _ _ (h _ _ (hs.put (by simpa using hd) undef))⟩
theorem zS (u:Tmp) {c:Bool} (hu:look e u=some (.bool c)) (h1:c=true→G κ ((u,.bool true) :: e) L X) (h2:c=false→G κ ((u,.bool false) :: e) L X):G κ e L X:=by
 have key:∀b:Bool,c=b→G κ ((u,.bool b) :: e) L X→G κ e L X:=fun b hb h a w hs=>h a w ⟨hs.defers,hs.size,fun k v hk=>by
  simp only[look] at hk;by_cases hk' : u=k
  ·subst hk';simp at hk;subst hk;subst hb;exact hs.env u _ hu
  rw[if_neg hk'] at hk;exact hs.env k v hk,hs.wok⟩
 cases c with
 | true=>exact key true rfl (h1 rfl)
 | false=>exact key false rfl (h2 rfl)
theorem yB {L' : List Res} (hL:L=L') (h:G κ e L' X):G κ e L X:=hL ▸ h
theorem zV (u:Tmp) {c b:Bool} (hu:look e u=some (.bool c)) (hc:c=b) (h:G κ ((u,.bool b) :: e) L X):G κ e L X:=by
 subst hc;exact fun a w hs=>h a w ⟨hs.defers,hs.size,fun k v hk=>by
  simp only[look] at hk;by_cases hk' : u=k
  ·subst hk';simp at hk;subst hk;exact hs.env u _ hu
  rw[if_neg hk'] at hk;exact hs.env k v hk,hs.wok⟩
theorem ae (u:Tmp) {v v' : Value} (hu:look e u=some v) (hv:v=v') (h:G κ ((u,v') :: e) L X):G κ e L X:=by
 subst hv;exact fun a w hs=>h a w ⟨hs.defers,hs.size,fun k x hk=>by
  simp only[look] at hk;by_cases hk' : u=k
  ·subst hk';simp at hk;subst hk;exact hs.env u _ hu
  rw[if_neg hk'] at hk;exact hs.env k x hk,hs.wok⟩
theorem s_q {d:Nat} {op:Op} {t:TypeId} {s:String} {af:Array Edge} {v:Value} (hq:cf P κ e L ⟨some d,op,t,s,af,none⟩ v) (hd:Nat.blt d κ.N=true) (h:G κ ((d,v) :: e) L (wpListIn (FR κ.ρ) 0 P ops Q rest)) :
  G κ e L (wpListIn (FR κ.ρ) 0 P ops Q (⟨some d,op,t,s,af,none⟩ :: rest)):=aa (G.quiet hq hd h)
theorem nh {d:Nat} {op:Op} {t:TypeId} {s:String} {af:Array Edge} {v:Value} {j:Nat} {b:Bool} {u:Tmp} (hq:cf P κ e L ⟨some d,op,t,s,af,some (j,b)⟩ v) (hd:Nat.blt d κ.N=true)
  (hj:(ops[j]?).bind (·.dst)=some u) (hu:look e u=some (.bool b)) (h:G κ ((d,v) :: e) L (wpListIn (FR κ.ρ) 0 P ops Q rest)) :
  G κ e L (wpListIn (FR κ.ρ) 0 P ops Q (⟨some d,op,t,s,af,some (j,b)⟩ :: rest)):=ff hj hu (G.quiet hq hd h)
theorem Cp {id:Nat} (h:G κ e L (Q .normal)):G κ e L (Exit.inBlock id Q .normal):=h
theorem zQ {id:Nat} (h:G κ e L (Q .normal)):G κ e L (Exit.inBlock id Q (.exit id)):=by
 have e1:Exit.inBlock id Q (.exit id)=Q .normal:=by funext a w;simp[Exit.inBlock]
 rw[e1];exact h
theorem rK {id j:Nat} (hj:Nat.beq j id=false) (h:G κ e L (Q (.exit j))):G κ e L (Exit.inBlock id Q (.exit j)):=by
 have hne:¬j=id:=by intro e;subst e;simp at hj
 have e1:Exit.inBlock id Q (.exit j)=Q (.exit j):=by funext a w;simp[Exit.inBlock,hne]
 rw[e1];exact h
theorem zL {id:Nat} (h:G κ e L (Q .ret)):G κ e L (Exit.inBlock id Q .ret):=h
theorem zE {j:Nat} {Z:Act→World→Prop} (h:G κ e L (Q (.exit j))):G κ e L (Exit.then Z Q (.exit j)):=h
theorem zD {Z:Act→World→Prop} (h:G κ e L (Q .ret)):G κ e L (Exit.then Z Q .ret):=h
theorem Dc {x y:Code} (h:G κ e L (x.wpIn (FR κ.ρ) 0 P (Exit.then (y.wpIn (FR κ.ρ) 0 P Q) Q))):G κ e L ((Code.seq x y).wpIn (FR κ.ρ) 0 P Q):=fun a w hs=>wpIn_seq (h a w hs)
theorem AQ {Z:Act→World→Prop} (h:G κ e L Z):G κ e L (Exit.then Z Q .normal):=h
theorem Er (h:G κ e L (Q .normal)):G κ e L (Code.skip.wpIn (FR κ.ρ) 0 P Q):=fun a w hs=>wpIn_skip (h a w hs)
theorem GF (h:G κ e L (Q .ret)):G κ e L (Code.ret.wpIn (FR κ.ρ) 0 P Q):=fun a w hs=>wpIn_ret (h a w hs)
theorem Ev {id:Nat} (h:G κ e L (Q (.exit id))):G κ e L ((Code.exit id).wpIn (FR κ.ρ) 0 P Q):=fun a w hs=>wpIn_exit (h a w hs)
theorem Co {id:Nat} {c:Code} (h:G κ e L (c.wpIn (FR κ.ρ) 0 P (Exit.inBlock id Q))):G κ e L ((Code.block id c).wpIn (FR κ.ρ) 0 P Q):=fun a w hs=>wpIn_block (h a w hs)
theorem zB {c:Operand} {x y:Code} {b:Bool} (hb:ev e c=some (.bool b)) (h1:b=true→G κ e L (x.wpIn (FR κ.ρ) 0 P Q)) (h2:b=false→G κ e L (y.wpIn (FR κ.ρ) 0 P Q)):G κ e L ((Code.cond c x y).wpIn (FR κ.ρ) 0 P Q) :=
 fun a w hs=>wpIn_cond_split (hs.env.ev hb) (fun hb=>h1 hb a w hs) (fun hb=>h2 hb a w hs)
theorem Ep {c:Operand} {x y:Code} (hb:ev e c=some (.bool true)) (h:G κ e L (x.wpIn (FR κ.ρ) 0 P Q)):G κ e L ((Code.cond c x y).wpIn (FR κ.ρ) 0 P Q) :=
 fun a w hs=>wpIn_cond_true (hs.env.ev hb) (h a w hs)
theorem Cn {c:Operand} {x y:Code} (hb:ev e c=some (.bool false)) (h:G κ e L (y.wpIn (FR κ.ρ) 0 P Q)):G κ e L ((Code.cond c x y).wpIn (FR κ.ρ) 0 P Q) :=
 fun a w hs=>wpIn_cond_false (hs.env.ev hb) (h a w hs)
def fM:Env→Env→Prop
 | [],_=>True
 | (k,v) :: r,e=>look e k=some v∧fM r e
theorem fM.look {e' : Env}:∀{e:Env},fM e e' → ∀k v,look e k=some v→look e' k=some v
 | [],_,_,_,h=>by simp[Eg.look] at h
 | (j,u) :: r,hs,k,v,h=>by
  simp only[Eg.look] at h;by_cases hj:j=k
  ·subst hj;simp at h;subst h;exact hs.1
  rw[if_neg hj] at h;exact fM.look hs.2 k v h
theorem fM.app {e' : Env}:∀{a b:Env},fM a e' → fM b e' → fM (a++b) e'
 | [],_,_,h=>h
 | (_,_) :: _,_,h,h' => ⟨h.1,fM.app h.2 h'⟩
theorem fM.pick {e:Env}:∀ks,fM (fk e ks) e
 | []=>trivial
 | k :: ks=>by
  simp only[fk];cases hk:Eg.look e k with
  | none=>exact fM.pick ks
  | some v=>exact⟨hk,fM.pick ks⟩
theorem St.sub {e' : Env} {L' : List Res} {a:Act} {w:World} (h:St κ e L a w) (he:fM e' e) (hL:∀w,WOK κ.S κ.w0 L w→WOK κ.S κ.w0 L' w):St κ e' L' a w :=
 ⟨h.defers,h.size,fun k v hk=>h.env k v (he.look k v hk),hL w h.wok⟩
def nT {ι:Type} (κ:Cx) (E:ι→Env) (R:ι→List Res) (p:ι→Prop) (μ:ι→Nat) (x:ι):Act→World→Prop:=fun a w=>∃y,p y∧μ y<μ x∧St κ (E y) (R y) a w
theorem xX {ι:Type} {E:ι→Env} {R:ι→List Res} {p:ι→Prop} {μ:ι→Nat} {x:ι} (y:ι) (hp:p y) (hμ:μ y<μ x) (he:fM (E y) e) (hL:∀w,WOK κ.S κ.w0 L w→WOK κ.S κ.w0 (R y) w):G κ e L (Exit.then (nT κ E R p μ x) Q .normal) :=
 fun _ _ hs=>⟨y,hp,hμ,hs.sub he hL⟩
theorem Eu {ι:Type} {c:Code} (E:ι→Env) (R:ι→List Res) (p:ι→Prop) (μ:ι→Nat) (x0:ι) (h0:p x0) (he:fM (E x0) e) (hL:∀w,WOK κ.S κ.w0 L w→WOK κ.S κ.w0 (R x0) w)
  (round:∀x,p x→G κ (E x) (R x) (c.wpIn (FR κ.ρ) 0 P (Exit.then (nT κ E R p μ x) Q))):G κ e L ((Code.loop c).wpIn (FR κ.ρ) 0 P Q):=fun a w hs=>by
 refine jR (fun n a w=>∃x,p x∧μ x=n∧St κ (E x) (R x) a w) (μ x0) ⟨x0,h0,rfl,hs.sub he hL⟩ ?_;rintro n a w ⟨x,hx,rfl,hs⟩;refine Go.wpIn_mono (round x hx a w hs) fun ex a w hq=>?_;cases ex with
 | normal=>obtain⟨y,hy,hlt,hs'⟩:=hq;exact⟨μ y,hlt,y,hy,rfl,hs'⟩
 | _=>exact hq
theorem kx {ι:Type} {c:Code} (ks:List Nat) (E:ι→Env) (R:ι→List Res) (p:ι→Prop) (μ:ι→Nat) (x0:ι) (h0:p x0) {ek:Env} (hk:fk e ks=ek) (he:fM (E x0) e) (hL:∀w,WOK κ.S κ.w0 L w→WOK κ.S κ.w0 (R x0) w)
  (round:∀x,p x→G κ (E x++ek) (R x) (c.wpIn (FR κ.ρ) 0 P (Exit.then (nT κ (fun x=>E x++ek) R p μ x) Q))):G κ e L ((Code.loop c).wpIn (FR κ.ρ) 0 P Q):=by
 subst hk;exact Eu (fun x=>E x++fk e ks) R p μ x0 h0 (he.app (fM.pick ks)) hL round
theorem va {S:List Nat} {w0:World} {L:List Res}:∀w,WOK S w0 L w→WOK S w0 L w:=fun _ h=>h
theorem gq {S:List Nat} {w0:World} {r:Res} {L L0:List Res} (h:∀w,WOK S w0 L w→WOK S w0 L0 w):∀w,WOK S w0 (r :: L) w→WOK S w0 L0 w:=fun w hw=>h w
 ⟨hw.upd,fun i r hi=>hw.sat (i+1) r (by simpa using hi),fun i j r s hij hi hj=>hw.nd (i+1) (j+1) r s aK (by simpa using hi) (by simpa using hj),fun i r hi=>hw.fr (i+1) r (by simpa using hi)⟩
theorem wX {S:List Nat} {w0:World} {L L' : List Res} (ks:List Nat) (hb:ks.all (fun k=>decide (k<L.length))=true) (hn:ks.Nodup) (hL:iS L ks=L'):∀w,WOK S w0 L w→WOK S w0 L' w:=fun _ h=>by subst hL;exact h.pick ks hb hn
end
end Go.Eg
namespace Go.Eg
open Go.RowKit
class Ty (P:Program) (T:TypeId) (agg:outParam Bool) (n:outParam Nat):Prop where
 agg:∀w:World,(isAgg T).run P w=.ok agg w
 size:∀w:World,(sizeOf T).run P w=.ok n w
def Ej:TypeDesc→Bool | .struct _ | .array _ _=>true|_=>false
theorem Ty.of {P:Program} {T:TypeId} {b:Bool} {n:Nat} (h1:(P.underlying T).map Ej=some b) (h2:(P.info? T).map (·.size)=some n):Ty P T b n:=by
 obtain⟨d,hd,rfl⟩:=Option.map_eq_some_iff.1 h1;obtain⟨i,hi,rfl⟩:=Option.map_eq_some_iff.1 h2;refine⟨fun w=>?_,fun w=>?_⟩
 ·unfold isAgg;rw[Sem.run_bind,run_underlying hd w];cases d<;>rfl
 simp[sizeOf,typeInfo,hi]
class Zr (P:Program) (T:TypeId) (c:outParam (List Value)):Prop where
 run:∀w:World,∃v,(zeroValue T).run P w=.ok v w∧v.cells=c.toArray
theorem Zr.of {P:Program} {T:TypeId} {c:List Value} (h:((P.info? T).bind (·.zero)).map (·.cells)=some c.toArray):Zr P T c:=⟨fun w=>by
 obtain⟨v,hv,hc⟩:=Option.map_eq_some_iff.1 h;obtain⟨i,hi,hz⟩:=Option.bind_eq_some_iff.1 hv;exact⟨v,by simp[zeroValue,typeInfo,hi,hz],hc⟩⟩
class Fl (P:Program) (T f:Nat) (o:outParam Nat):Prop where
 run:∀(w:World) (a:Addr),(Instr.fieldAt T (.pointer (some a)) f).run P w=.ok (.pointer (some (a.add o))) w
theorem Fl.of {P:Program} {T f o:Nat} (h:(P.underlying T).bind (fun d=>match d with | .struct fs=>(fs[f]?).bind fun x=>(P.info? x.type).map fun i=>(x.offset,i.size == 0)|_=>none)=some (o,false)):Fl P T f o:=⟨fun w a=>by
 obtain⟨d,hd,h⟩:=Option.bind_eq_some_iff.1 h;cases d with
 | struct fs =>
  obtain⟨x,hx,h⟩:=Option.bind_eq_some_iff.1 h;obtain⟨i,hi,h⟩:=Option.map_eq_some_iff.1 h;simp only[Prod.mk.injEq] at h;obtain⟨rfl,hs⟩:=h;have hs' : i.size≠0:=by simpa using hs
  simp[Instr.fieldAt,Sem.run_bind,run_underlying hd,hx,Instr.sureAddr,fieldPlace,sizeOf,typeInfo,hi,hs']
 | _=>cases h⟩
class Slc (P:Program) (T:Nat) (E k:outParam Nat):Prop where
 und:P.underlying T=some (.slice E)
 siz:(P.info? E).map (·.size)=some k
class Arr (P:Program) (T:Nat) (E m k:outParam Nat):Prop where
 und:P.underlying T=some (.array m E)
 siz:(P.info? E).map (·.size)=some k
class UInt' (P:Program) (T:Nat) (k:outParam IntKind):Prop where
 und:P.underlying T=some (.int k)
class InL (L:List Res) (b:Nat) (T:outParam Nat) (c:outParam (List Value)):Prop where
 at_:∃i:Nat,L[i]?=some (.blk b T c)
instance InL.head {L:List Res} {b T:Nat} {c:List Value}:InL (.blk b T c :: L) b T c:=⟨0,rfl⟩
instance InL.tail {L:List Res} {r:Res} {b T:Nat} {c:List Value} [h:InL L b T c]:InL (r :: L) b T c:=⟨h.at_.elim fun i hi=>⟨i+1,hi⟩⟩
class UpL (L:List Res) (b:Nat) (T:outParam Nat) (c:outParam (List Value)) (c' : List Value) (L' : outParam (List Res)):Prop where
 at_:∃i:Nat,L[i]?=some (.blk b T c)∧L.set i (.blk b T c')=L'
instance UpL.head {L:List Res} {b T:Nat} {c c' : List Value}:UpL (.blk b T c :: L) b T c c' (.blk b T c' :: L):=⟨0,rfl,rfl⟩
instance UpL.tail {L L' : List Res} {r:Res} {b T:Nat} {c c' : List Value} [h:UpL L b T c c' L']:UpL (r :: L) b T c c' (r :: L'):=⟨h.at_.elim fun i hi=>⟨i+1,hi.1,congrArg (r :: ·) hi.2⟩⟩
def bo (A:Option Addr):Nat:=(A.getD default).block
def oo (A:Option Addr):Nat:=(A.getD default).off
@[simp] theorem sS (b o:Nat) (s:Option Nat):bo (some ⟨b,o,s⟩)=b:=rfl
@[simp] theorem sI (b o:Nat) (s:Option Nat):oo (some ⟨b,o,s⟩)=o:=rfl
theorem yY (b o n:Nat):Addr.add ⟨b,o,none⟩ n=⟨b,o+n,none⟩:=by
 unfold Addr.add;by_cases h:n=0<;>simp[h]
theorem tZ {els:List (List Value)} {k:Nat} (hk:∀c∈els,c.length=k) {i o:Nat} {cs:List Value} {v:Value} (hi:els[i]?=some cs) (ho:cs[o]?=some v):els.flatten[i*k+o]?=some v:=by
 induction els generalizing i with
 | nil=>simp at hi
 | cons c els ih =>
  have hc:c.length=k:=hk c aM;cases i with
  | zero =>
   simp at hi;subst hi;have hlt:o<c.length:=by
    rcases Nat.lt_or_ge o c.length with h|h
    ·exact h
    rw[List.getElem?_eq_none h] at ho;cases ho
   simp only[List.flatten_cons,Nat.zero_mul,Nat.zero_add];rw[List.getElem?_append_left hlt];exact ho
  | succ i =>
   simp at hi;simp only[List.flatten_cons];have e:(i+1)*k+o=c.length+(i*k+o):=by rw[Nat.succ_mul,hc];omega
   rw[e,List.getElem?_append_right aK];simpa using ih (fun c' hc' => hk c' (by simp[hc'])) hi
theorem xG {els:List (List Value)} {k:Nat} (hk:∀c∈els,c.length=k):els.flatten.length=els.length*k:=by
 induction els with
 | nil=>simp
 | cons c els ih=>simp[ih (fun c' hc' => hk c' (by simp[hc'])),hk c aM,Nat.succ_mul,Nat.add_comm]
def Res.row (A:Option Addr) (n cap:Nat) (T:TypeId) (k:Nat) (els:List (List Value)):Res where
 fp:=if cap=0 then [] else(A.map (·.block)).toList
 sat w:=n=els.length∧(∀c∈els,c.length=k)∧((n=0∧cap=0) ∨
  ∃g cur,A=some ⟨g,0,none⟩∧w.heap[g]?=some (.cells cur T (0,0))∧n≤cap∧cap≤maxLen∧cur.size=cap*k∧cur.toList.take (n*k)=els.flatten)
 loc w w' h:=by
  rintro⟨h1,h2,h3⟩;refine⟨h1,h2,?_⟩;rcases h3 with h4|⟨g,cur,hA,hg,hle,hr⟩
  ·exact .inl h4
  by_cases hc:cap=0
  ·exact .inl ⟨by omega,hc⟩
  refine .inr ⟨g,cur,hA,?_,hle,hr⟩;subst hA;rw[h g (by simp[hc])];exact hg
 lt w:=by
  rintro⟨_,_,h3⟩ b hb;by_cases hc:cap=0
  ·simp[hc] at hb
  rcases h3 with⟨_,h4⟩|⟨g,cur,hA,hg,_⟩
  ·exact absurd h4 hc
  subst hA;simp[hc] at hb;subst hb;exact yT hg
structure Old (w0:World) (A:Option Addr) (n k:Nat) (els:List (List Value)):Prop where
 len:n=els.length
 cat:∀c∈els,c.length=k
 at_:0<n→A=some ⟨bo A,oo A,none⟩∧∀j u,els.flatten[j]?=some u→w0.cell? ⟨bo A,oo A+j,none⟩=some u
structure Rdb (κ:Cx) (L:List Res) (A:Option Addr) (n k:Nat) (els:List (List Value)):Prop where
 len:n=els.length
 cat:∀c∈els,c.length=k
 at_:∀w,WOK κ.S κ.w0 L w→0<n→A=some ⟨bo A,oo A,none⟩∧∀j u,els.flatten[j]?=some u→w.cell? ⟨bo A,oo A+j,none⟩=some u
theorem Rdb.old {κ:Cx} {L:List Res} {A:Option Addr} {n k:Nat} {els:List (List Value)} (h:Old κ.w0 A n k els) (hS:0<n→bo A∉κ.S):Rdb κ L A n k els :=
 ⟨h.len,h.cat,fun w hw hn=>by
  obtain⟨h1,h3⟩:=h.at_ hn;exact⟨h1,fun j u hu=>(hw.upd.cell (p:=⟨bo A,oo A+j,none⟩) (block_lt_of_cell (h3 j u hu)) (hS hn)).trans (h3 j u hu)⟩⟩
theorem Rdb.toOld {κ:Cx} {L:List Res} {A:Option Addr} {n k:Nat} {els:List (List Value)} (h:Rdb κ L A n k els) {w:World} (hw:WOK κ.S κ.w0 L w):Old w A n k els:=⟨h.len,h.cat,h.at_ w hw⟩
theorem Old.rdb {S:List Nat} {w:World} {N:Nat} {D:List Deferred} {ρ:Option Nat} {L:List Res} {A:Option Addr} {n k:Nat} {els:List (List Value)} (h:Old w A n k els) (hS:S=[]):Rdb ⟨S,w,N,D,ρ⟩ L A n k els:=Rdb.old h (by subst hS;simp)
theorem Rdb.row {κ:Cx} {L:List Res} {A:Option Addr} {n cap T k:Nat} {els:List (List Value)} (i:Nat) (hi:L[i]?=some (.row A n cap T k els)) (h1:n=els.length) (h2:∀c∈els,c.length=k):Rdb κ L A n k els:=by
 refine⟨h1,h2,fun w hw hn=>?_⟩;obtain⟨_,_,h3⟩:=hw.sat i _ hi;rcases h3 with⟨h4,_⟩|⟨g,cur,hA,hg,hle,_,hsz,htk⟩
 ·omega
 subst hA;refine⟨rfl,fun j u hu=>?_⟩;rw[←htk] at hu;simp only[sS,sI,Nat.zero_add];rw[cell_of_row w g j cur _ _ hg];rw[List.getElem?_take] at hu;split at hu
 ·simpa using hu
 cases hu
def cz (A:Option Addr) (cap l k:Nat):Option Addr:=if cap=l then A else A.map (·.add (l*k))
theorem tu {els:List (List Value)} {k:Nat} (hk:∀c∈els,c.length=k):∀l,(els.drop l).flatten=els.flatten.drop (l*k):=by
 induction els with
 | nil=>intro l;simp
 | cons c els ih =>
  intro l;cases l with
  | zero=>simp
  | succ l =>
   have hc:c.length=k:=hk c aM;simp only[List.drop_succ_cons,List.flatten_cons,ih (fun c' hc' => hk c' (by simp[hc'])) l];have e:(l+1)*k=c.length+l*k:=by rw[Nat.succ_mul,hc];omega
   rw[e,←List.drop_drop,List.drop_left' rfl]
theorem pE {els:List (List Value)} {k:Nat} (hk:∀c∈els,c.length=k):∀l,(els.take l).flatten=els.flatten.take (l*k):=by
 induction els with
 | nil=>intro l;simp
 | cons c els ih =>
  intro l;cases l with
  | zero=>simp
  | succ l =>
   have hc:c.length=k:=hk c aM;simp only[List.take_succ_cons,List.flatten_cons,ih (fun c' hc' => hk c' (by simp[hc'])) l];have e:(l+1)*k=c.length+l*k:=by rw[Nat.succ_mul,hc];omega
   rw[e,List.take_length_add_append]
theorem Rdb.sub {κ:Cx} {L:List Res} {A:Option Addr} {n k:Nat} {els:List (List Value)} (hr:Rdb κ L A n k els) {cap l h:Nat} (hl:l≤h) (hh:h≤n) (hc:n≤cap) :
  Rdb κ L (cz A cap l k) (h-l) k ((els.drop l).take (h-l)):=by
 have hlen:=hr.len;refine⟨by simp;omega,fun c hm=>hr.cat c (List.mem_of_mem_drop (List.mem_of_mem_take hm)),fun w hw hn=>?_⟩;obtain⟨h1,h2⟩:=hr.at_ w hw aK;have hne:¬cap=l:=by omega
 have hA:cz A cap l k=some ⟨bo A,oo A+l*k,none⟩:=by
  unfold cz;rw[if_neg hne]
  conv=>lhs;rw[h1]
  simp[yY]
 rw[hA];refine⟨by simp,fun j u hu=>?_⟩;simp only[sS,sI,Nat.add_assoc];refine h2 _ u ?_;rw[pE (fun c hc' => hr.cat c (List.mem_of_mem_drop hc')),tu hr.cat] at hu;rw[List.getElem?_take] at hu;split at hu
 ·rwa [List.getElem?_drop] at hu
 cases hu
theorem dY {n:Int} (h1:-9223372036854775808≤n) (h2:n<9223372036854775808):IntKind.i64.wrap n=n:=by rw[IntKind.wrap_i64];omega
theorem ey {n:Int} (h1:0≤n) (h2:n<18446744073709551616):IntKind.u64.wrap n=n:=by rw[IntKind.wrap_u64];omega
section
variable {P:Program} {κ:Cx} {e:Env} {L:List Res} {X:Act→World→Prop} {Q:Exit→Act→World→Prop} {d:Tmp} {ty:TypeId} {s:String} {af:Array Edge} {gd:Option (Nat × Bool)}
theorem iN {x:Operand} {v:Value} (hx:ev e x=some v):cf P κ e L ⟨some d,.move x,ty,s,af,gd⟩ v:=fun a w he _=>by simp[execOp,he.ev hx]
theorem tN {x:Operand} {v:Value} (hx:ev e x=some v):cf P κ e L ⟨some d,.assign x,ty,s,af,gd⟩ v:=fun a w he _=>by simp[execOp,he.ev hx]
theorem tK {c x y:Operand} {v:Value} (hc:ev e c=some (.bool true)) (hx:ev e x=some v):cf P κ e L ⟨some d,.pick c x y,ty,s,af,gd⟩ v:=fun a w he _=>by
 simp[execOp,he.ev hc,he.ev hx,asBool]
theorem tL {c x y:Operand} {v:Value} (hc:ev e c=some (.bool false)) (hx:ev e y=some v):cf P κ e L ⟨some d,.pick c x y,ty,s,af,gd⟩ v:=fun a w he _=>by
 simp[execOp,he.ev hc,he.ev hx,asBool]
theorem rV {x:Operand} {p:Addr} (hx:ev e x=some (.pointer (some p))):cf P κ e L ⟨some d,.nilCheck x,ty,s,af,gd⟩ (.pointer (some p)):=fun a w he _=>by simp[execOp,he.ev hx]
theorem rY {T f o b off:Nat} {x:Operand} [hf:Fl P T f o] (hx:ev e x=some (.pointer (some ⟨b,off,none⟩))):cf P κ e L ⟨some d,.fieldAddr T x f,ty,s,af,gd⟩ (.pointer (some ⟨b,off+o,none⟩)):=fun a w he _=>by
 simp[execOp,he.ev hx,hf.run w,yY]
theorem qT {T n:Nat} [ht:Ty P T false n] {w:World} {p:Addr} {v:Value} (hc:w.cell? p=some v):(loadVar T p).run P w=.ok v w:=by
 simp[loadVar,Sem.run_bind,ht.agg w,load,Sem.run,hc]
theorem sE {T n:Nat} [ht:Ty P T true n] {w:World} {p:Addr} {cs:List Value} (hn:cs.length=n) (hc:∀j v,cs[j]?=some v→w.cell? (p.add j)=some v):(loadVar T p).run P w=.ok (.agg cs.toArray) w:=by
 have hl:=run_loadCells_list (P:=P) w p cs hc;subst hn;simp[loadVar,Sem.run_bind,ht.agg w,ht.size w,hl]
theorem InL.sat {κ:Cx} {L:List Res} {b T:Nat} {c:List Value} (h:InL L b T c) {w:World} (hw:WOK κ.S κ.w0 L w):(Res.blk b T c).sat w:=h.at_.elim fun i hi=>hw.sat i _ hi
theorem vC {w:World} {b T:Nat} {c:List Value} (h:(Res.blk b T c).sat w) {j:Nat} {v:Value} (hv:c[j]?=some v):w.cell? ⟨b,j,none⟩=some v:=by
 rw[cell_of_row w b j c.toArray T (0,0) h];simpa using hv
theorem vO {T n b T' off:Nat} {x:Operand} {c:List Value} {v:Value} [ht:Ty P T false n] (hx:ev e x=some (.pointer (some ⟨b,off,none⟩))) [hi:InL L b T' c] (hv:c[off]?=some v) :
  cf P κ e L ⟨some d,.load T x,ty,s,af,gd⟩ v:=fun a w he hw=>by
 simp[execOp,he.ev hx,Instr.loadAt,Instr.sureAddr,qT (ht:=ht) (vC (hi.sat hw) hv)]
theorem xT {T n b T' : Nat} {x:Operand} {c:List Value} [ht:Ty P T true n] (hx:ev e x=some (.pointer (some ⟨b,0,none⟩))) [hi:InL L b T' c] (hn:Nat.beq c.length n=true) :
  cf P κ e L ⟨some d,.load T x,ty,s,af,gd⟩ (.agg c.toArray):=fun a w he hw=>by
 simp[execOp,he.ev hx,Instr.loadAt,Instr.sureAddr,sE (p:=⟨b,0,none⟩) (ht:=ht) (by simpa using hn) (fun j v hv=>by rw[yY,Nat.zero_add];exact vC (hi.sat hw) hv)]
theorem yP {T n b T' off:Nat} {x:Operand} {c c' : List Value} [ht:Ty P T true n] (hx:ev e x=some (.pointer (some ⟨b,off,none⟩))) [hi:InL L b T' c] (hc:(c.drop off).take n=c') (hn:Nat.beq c'.length n=true) :
  cf P κ e L ⟨some d,.load T x,ty,s,af,gd⟩ (.agg c'.toArray):=fun a w he hw=>by
 have hn' : c'.length=n:=by simpa using hn
 subst hc;simp[execOp,he.ev hx,Instr.loadAt,Instr.sureAddr,sE (p:=⟨b,off,none⟩) (ht:=ht) hn' (fun j v hv=>by
  rw[yY];refine vC (hi.sat hw) ?_;rw[List.getElem?_take] at hv;split at hv
  ·rwa [List.getElem?_drop] at hv
  cases hv)]
theorem zX {T n k m i o off:Nat} {A:Option Addr} {x:Operand} {els:List (List Value)} {cs:List Value} {v:Value} [ht:Ty P T false n] (hx:ev e x=some (.pointer (some ⟨bo A,off,none⟩))) (hr:Rdb κ L A m k els)
  (hi:els[i]?=some cs) (ho:cs[o]?=some v) (hoff:off=oo A+i*k+o):cf P κ e L ⟨some d,.load T x,ty,s,af,gd⟩ v:=fun a w he hw=>by
 have hm:0<m:=by
  rw[hr.len];rcases Nat.eq_zero_or_pos els.length with h|h
  ·rw[List.eq_nil_of_length_eq_zero h] at hi;simp at hi
  exact h
 obtain⟨_,h2⟩:=hr.at_ w hw hm;have:=h2 _ v (tZ hr.cat hi ho);subst hoff;rw[←Nat.add_assoc] at this;simp[execOp,he.ev hx,Instr.loadAt,Instr.sureAddr,qT (ht:=ht) this]
theorem zU {T k m i off:Nat} {A:Option Addr} {x:Operand} {els:List (List Value)} {cs:List Value} [ht:Ty P T true k] (hx:ev e x=some (.pointer (some ⟨bo A,off,none⟩))) (hr:Rdb κ L A m k els)
  (hi:els[i]?=some cs) (hoff:off=oo A+i*k):cf P κ e L ⟨some d,.load T x,ty,s,af,gd⟩ (.agg cs.toArray):=fun a w he hw=>by
 have hm:0<m:=by
  rw[hr.len];rcases Nat.eq_zero_or_pos els.length with h|h
  ·rw[List.eq_nil_of_length_eq_zero h] at hi;simp at hi
  exact h
 obtain⟨_,h2⟩:=hr.at_ w hw hm;have hk:cs.length=k:=hr.cat cs (List.mem_of_getElem? hi);subst hoff;simp[execOp,he.ev hx,Instr.loadAt,Instr.sureAddr,sE (p:=⟨bo A,oo A+i*k,none⟩) (ht:=ht) hk (fun j v hv=>by
  rw[yY,Nat.add_assoc];exact h2 _ v (tZ hr.cat hi hv))]
theorem zM {T E k m cap i:Nat} {kd:IntKind} {A:Option Addr} {x y:Operand} {z:Int} {els:List (List Value)} [ht:Slc P T E k] (hx:ev e x=some (.slice A m cap)) (hy:ev e y=some (.int kd z)) (hz:z=(i:Int)) (hr:Rdb κ L A m k els)
  (him:i<m):cf P κ e L ⟨some d,.indexAddr T x y,ty,s,af,gd⟩ (.pointer (some ⟨bo A,oo A+i*k,none⟩)):=fun a w he hw=>by
 obtain⟨h1,_⟩:=hr.at_ w hw aK;have hu:=ht.und;have hk:=ht.siz;obtain⟨f,hf,rfl⟩:=Option.map_eq_some_iff.1 hk;have hev:=he.ev hx;rw[h1] at hev;subst hz;have hlt:(i:Int)<(m:Int):=by omega
 simp[execOp,hev,he.ev hy,Instr.indexAt,asIntOf,Sem.run_bind,run_underlying hu,sizeOf,typeInfo,hf,yY,him]
theorem yO {T E k m b off i:Nat} {kd:IntKind} {x y:Operand} {z:Int} [ht:Arr P T E m k] (hx:ev e x=some (.pointer (some ⟨b,off,none⟩))) (hy:ev e y=some (.int kd z)) (hz:z=(i:Int)) (him:i<m) :
  cf P κ e L ⟨some d,.indexAddr T x y,ty,s,af,gd⟩ (.pointer (some ⟨b,off+i*k,none⟩)):=fun a w he hw=>by
 have hu:=ht.und;have hk:=ht.siz;obtain⟨f,hf,rfl⟩:=Option.map_eq_some_iff.1 hk;subst hz;simp[execOp,he.ev hx,he.ev hy,Instr.indexAt,asIntOf,Sem.run_bind,run_underlying hu,sizeOf,typeInfo,hf,yY,him,Instr.sureAddr]
theorem mO {T E k m cap:Nat} {A:Option Addr} {x:Operand} [ht:Slc P T E k] (hx:ev e x=some (.slice A m cap)):cf P κ e L ⟨some d,.call { callee:=.builtin .len,args := #[x],argTypes := #[T] },ty,s,af,gd⟩ (.int .i64 (m:Int)):=fun a w he _=>by
 simp[execOp,resolve,invoke,builtin,Builtin.len_,he.ev hx,run_underlying ht.und,goInt]
theorem jn {T:Nat} {b:ByteArray} {x:Operand} (ht:P.underlying T=some .string) (hx:ev e x=some (.string b)):cf P κ e L ⟨some d,.call { callee:=.builtin .len,args := #[x],argTypes := #[T] },ty,s,af,gd⟩ (.int .i64 (b.size:Int)):=fun a w he _=>by
 simp[execOp,resolve,invoke,builtin,Builtin.len_,he.ev hx,run_underlying ht,goInt]
theorem jl {k:IntKind} {x y:Operand} {a b:Int} {ts:Array TypeId} (hx:ev e x=some (.int k a)) (hy:ev e y=some (.int k b)):cf P κ e L ⟨some d,.call { callee:=.builtin .min,args := #[x,y],argTypes:=ts },ty,s,af,gd⟩ (.int k (min a b)):=fun ac w he _=>by
 simp[execOp,resolve,invoke,builtin,Builtin.min_,Builtin.min2,he.ev hx,he.ev hy];omega
theorem jm {k:IntKind} {x y:Operand} {a b:Int} {ts:Array TypeId} (hx:ev e x=some (.int k a)) (hy:ev e y=some (.int k b)):cf P κ e L ⟨some d,.call { callee:=.builtin .max,args := #[x,y],argTypes:=ts },ty,s,af,gd⟩ (.int k (max a b)):=fun ac w he _=>by
 simp[execOp,resolve,invoke,builtin,Builtin.max_,Builtin.max2,he.ev hx,he.ev hy];omega
theorem uJ {x:Operand} {vs:List Value} {i:Nat} {v:Value} (hx:ev e x=some (.tuple vs.toArray)) (hv:vs[i]?=some v):cf P κ e L ⟨some d,.extract x i,ty,s,af,gd⟩ v:=fun a w he _=>by
 simp[execOp,he.ev hx,Instr.extract,hv]
theorem mJ {T:Nat} {x:Operand} {b:Bool} (hx:ev e x=some (.bool b)):cf P κ e L ⟨some d,.unOp .not T x,ty,s,af,gd⟩ (.bool !b):=fun a w he _=>by simp[execOp,he.ev hx,Op.unary]
theorem DX {T:Nat} {x:Operand} {k:IntKind} {n:Int} (hx:ev e x=some (.int k n)):cf P κ e L ⟨some d,.unOp .neg T x,ty,s,af,gd⟩ (.int k (k.wrap (0-n))):=fun a w he _=>by simp[execOp,he.ev hx,Op.unary,Op.intArith]
theorem EH {fn:Fn} {f c:Array Operand} {vf vc:Array Value} (hf:f.map (ev e)=vf.map some) (hc:c.map (ev e)=vc.map some) (hm:∀w:World,(Instr.makeFunc fn vf vc).run P w=.ok (.func fn vf vc) w):cf P κ e L ⟨some d,.makeFunc fn f c,ty,s,af,gd⟩ (.func fn vf vc):=fun a w he _=>by
 have key:∀(xs:Array Operand) (vs:Array Value),xs.map (ev e)=vs.map some→xs.map a.eval=vs:=by
  intro xs vs h;apply Array.ext
  ·have:=congrArg Array.size h;simpa using this
  intro i h1 h2;have h3:(xs.map (ev e))[i]?=(vs.map some)[i]?:=by rw[h]
  simp at h1;simp[h1,h2] at h3;simp[he.ev h3]
 have e1:=key f vf hf;have e2:=key c vc hc;simp[execOp,e1,e2,hm w]
section ints
variable {T T' : Nat} {k:IntKind} {x y:Operand} {a b:Int}
theorem jo (hx:ev e x=some (.int k a)) (hy:ev e y=some (.int k b)):cf P κ e L ⟨some d,.binOp .add T x y T',ty,s,af,gd⟩ (.int k (k.wrap (a+b))):=fun ac w he _=>by
 simp[execOp,he.ev hx,he.ev hy,eqGuard_at_int,binOp_add,Op.intArith]
theorem ji (hx:ev e x=some (.int k a)) (hy:ev e y=some (.int k b)):cf P κ e L ⟨some d,.binOp .sub T x y T',ty,s,af,gd⟩ (.int k (k.wrap (a-b))):=fun ac w he _=>by
 simp[execOp,he.ev hx,he.ev hy,eqGuard_at_int,binOp_sub,Op.intArith]
theorem jj (hx:ev e x=some (.int k a)) (hy:ev e y=some (.int k b)):cf P κ e L ⟨some d,.binOp .mul T x y T',ty,s,af,gd⟩ (.int k (k.wrap (a*b))):=fun ac w he _=>by
 simp[execOp,he.ev hx,he.ev hy,eqGuard_at_int,binOp_mul,Op.intArith]
theorem fj (hx:ev e x=some (.int k a)) (hy:ev e y=some (.int k b)) (h0:b≠0):cf P κ e L ⟨some d,.binOp .quo T x y T',ty,s,af,gd⟩ (.int k (k.wrap (a.tdiv b))):=fun ac w he _=>by
 simp[execOp,he.ev hx,he.ev hy,eqGuard_at_int,binOp_quo,Op.intDiv,h0]
theorem mI (hx:ev e x=some (.int k a)) (hy:ev e y=some (.int k b)) (h0:b≠0):cf P κ e L ⟨some d,.binOp .rem T x y T',ty,s,af,gd⟩ (.int k (a.tmod b)):=fun ac w he _=>by
 simp[execOp,he.ev hx,he.ev hy,eqGuard_at_int,binOp_rem,Op.intDiv,h0]
theorem yI {z:Int} (hx:ev e x=some (.int k a)) (hy:ev e y=some (.int k b)) (hz:k.wrap (a+b)=z):cf P κ e L ⟨some d,.binOp .add T x y T',ty,s,af,gd⟩ (.int k z):=hz ▸ jo hx hy
theorem yN {z:Int} (hx:ev e x=some (.int k a)) (hy:ev e y=some (.int k b)) (hz:k.wrap (a-b)=z):cf P κ e L ⟨some d,.binOp .sub T x y T',ty,s,af,gd⟩ (.int k z):=hz ▸ ji hx hy
theorem uB {z:Int} (hx:ev e x=some (.int k a)) (hy:ev e y=some (.int k b)) (hz:k.wrap (a*b)=z):cf P κ e L ⟨some d,.binOp .mul T x y T',ty,s,af,gd⟩ (.int k z):=hz ▸ jj hx hy
theorem gB {i:Nat} (hx:ev e x=some (.int .i64 (i:Int))) (hy:ev e y=some (.int .i64 1)) (h:i<9223372036854775807):cf P κ e L ⟨some d,.binOp .add T x y T',ty,s,af,gd⟩ (.int .i64 ((i+1:Nat):Int)) :=
 yI hx hy (by rw[dY aK aK];omega)
theorem mR (hx:ev e x=some (.int k a)) (hy:ev e y=some (.int k b)):cf P κ e L ⟨some d,.binOp .eql T x y T',ty,s,af,gd⟩ (.bool (decide (a=b))):=fun ac w he _=>by
 simp[execOp,he.ev hx,he.ev hy,eqGuard_at_int,binOp_eql];rfl
theorem mK (hx:ev e x=some (.int k a)) (hy:ev e y=some (.int k b)):cf P κ e L ⟨some d,.binOp .neq T x y T',ty,s,af,gd⟩ (.bool (!decide (a=b))):=fun ac w he _=>by
 simp[execOp,he.ev hx,he.ev hy,eqGuard_at_int,binOp_neq,bne];rfl
theorem mL (hx:ev e x=some (.int k a)) (hy:ev e y=some (.int k b)):cf P κ e L ⟨some d,.binOp .lss T x y T',ty,s,af,gd⟩ (.bool (decide (a<b))):=fun ac w he _=>by
 simp[execOp,he.ev hx,he.ev hy,eqGuard_at_int,binOp_lss]
theorem mN (hx:ev e x=some (.int k a)) (hy:ev e y=some (.int k b)):cf P κ e L ⟨some d,.binOp .leq T x y T',ty,s,af,gd⟩ (.bool (decide (a≤b))):=fun ac w he _=>by
 simp[execOp,he.ev hx,he.ev hy,eqGuard_at_int,binOp_leq]
theorem mP (hx:ev e x=some (.int k a)) (hy:ev e y=some (.int k b)):cf P κ e L ⟨some d,.binOp .gtr T x y T',ty,s,af,gd⟩ (.bool (decide (b<a))):=fun ac w he _=>by
 simp[execOp,he.ev hx,he.ev hy,eqGuard_at_int,binOp_gtr]
theorem mQ (hx:ev e x=some (.int k a)) (hy:ev e y=some (.int k b)):cf P κ e L ⟨some d,.binOp .geq T x y T',ty,s,af,gd⟩ (.bool (decide (b≤a))):=fun ac w he _=>by
 simp[execOp,he.ev hx,he.ev hy,eqGuard_at_int,binOp_geq]
theorem qX {k' : IntKind} {k0:IntKind} [hT:UInt' P T k0] [hT' : UInt' P T' k'] (hx:ev e x=some (.int k a)):cf P κ e L ⟨some d,.convert T T' x,ty,s,af,gd⟩ (.int k' (k'.wrap a)):=fun ac w he _=>by
 simp[execOp,he.ev hx,convert,Sem.run_bind,run_underlying hT.und,run_underlying hT'.und,Conv.intToInt]
theorem yS {k' k0:IntKind} {z:Int} [hT:UInt' P T k0] [hT' : UInt' P T' k'] (hx:ev e x=some (.int k a)) (hz:k'.wrap a=z):cf P κ e L ⟨some d,.convert T T' x,ty,s,af,gd⟩ (.int k' z):=hz ▸ qX (T:=T) hx
end ints
theorem iP {T T' : Nat} {x y:Operand} {a b:Bool} (hT:P.underlying T=some .bool) (hx:ev e x=some (.bool a)) (hy:ev e y=some (.bool b)):cf P κ e L ⟨some d,.binOp .eql T x y T',ty,s,af,gd⟩ (.bool (a == b)):=fun ac w he _=>by
 simp[execOp,he.ev hx,he.ev hy,eqGuard_at_bool,binOp,Op.equal,Op.maxDepth,run_equalIn_bool w _ T a b hT]
class Ptr (P:Program) (T:Nat):Prop where
 und:(P.underlying T).map (fun d=>match d with | .pointer _=>true|_=>false)=some true
theorem Ptr.get {P:Program} {T:Nat} (h:Ptr P T):∃t,P.underlying T=some (.pointer t):=by
 obtain⟨u,hu,hd⟩:=Option.map_eq_some_iff.1 h.und;cases u<;>simp at hd;exact⟨_,hu⟩
theorem pQ {T t:Nat} (hu:P.underlying T=some (.pointer t)) (p:Option Addr) (w:World):(Op.equal T (.pointer p) (.pointer none)).run P w=.ok p.isNone w:=by
 have key:∀d:Nat,(Op.equalIn (d+1) T (.pointer p) (.pointer none)).run P w=.ok p.isNone w:=fun d=>by
  cases p<;>simp[Op.equalIn,run_underlying hu]
 exact key 9999
theorem Bm {T t:Nat} (hu:P.underlying T=some (.pointer t)) (p:Option Addr) (w:World):(binOp .eql T (.pointer p) (.pointer none)).run P w=.ok (.bool p.isNone) w:=by
 have e1:binOp .eql T (.pointer p) (.pointer none)=(do pure (.bool (←Op.equal T (.pointer p) (.pointer none)))):=by cases p<;>rfl
 rw[e1,Sem.run_bind,pQ hu p w];rfl
theorem Bj {T t:Nat} (hu:P.underlying T=some (.pointer t)) (p:Option Addr) (w:World):(binOp .neq T (.pointer p) (.pointer none)).run P w=.ok (.bool (!p.isNone)) w:=by
 have e1:binOp .neq T (.pointer p) (.pointer none)=(do pure (.bool (!(←Op.equal T (.pointer p) (.pointer none))))):=by cases p<;>rfl
 rw[e1,Sem.run_bind,pQ hu p w];rfl
theorem gC {T T' : Nat} {x y:Operand} {p:Option Addr} {b:Bool} [h:Ptr P T] (hx:ev e x=some (.pointer p)) (hy:ev e y=some (.pointer none)) (hb:p.isNone=b):cf P κ e L ⟨some d,.binOp .eql T x y T',ty,s,af,gd⟩ (.bool b):=fun a w he _=>by
 obtain⟨t,hu⟩:=h.get;subst hb;simp only[execOp,Sem.run_bind,he.ev hx,he.ev hy,eqGuard_at_pointer,Sem.run_pure,Result.andThen_ok,Bm hu p w]
theorem Fh {T T' : Nat} {x y:Operand} {p:Option Addr} {b:Bool} [h:Ptr P T] (hx:ev e x=some (.pointer p)) (hy:ev e y=some (.pointer none)) (hb:(!p.isNone)=b):cf P κ e L ⟨some d,.binOp .neq T x y T',ty,s,af,gd⟩ (.bool b):=fun a w he _=>by
 obtain⟨t,hu⟩:=h.get;subst hb;simp only[execOp,Sem.run_bind,he.ev hx,he.ev hy,eqGuard_at_pointer,Sem.run_pure,Result.andThen_ok,Bj hu p w]
end
end Go.Eg
namespace Go.Eg
open Go.RowKit
section
variable {P:Program} {κ:Cx} {e:Env} {L:List Res} {X:Act→World→Prop} {Q:Exit→Act→World→Prop} {d:Tmp} {ty:TypeId} {s:String} {af:Array Edge} {gd:Option (Nat × Bool)}
theorem rT {a:Act} {w w' : World} {L' : List Res} (h:St κ e L a w) (hd:Nat.blt d κ.N=true) (v:Value) (hw:WOK κ.S κ.w0 L' w'):St κ ((d,v) :: e) L' (a.put (some d) v) w' := by
 have:=h.put (show d<κ.N by simpa using hd) v;exact⟨this.defers,this.size,this.env,hw⟩
theorem G.loud {op:Op} (hd:Nat.blt d κ.N=true) (h:∀a w,St κ e L a w→∃v w' L',(execOp a.eval ⟨some d,op,ty,s,af,gd⟩).run P w=.ok (.value v) w' ∧ WOK κ.S κ.w0 L' w' ∧ G κ ((d,v) :: e) L' X) :
  G κ e L (owp κ.ρ P ⟨some d,op,ty,s,af,gd⟩ Q X):=fun a w hs=>by
 obtain⟨v,w',L',hr,hw,hg⟩:=h a w hs;exact uN hr (hg _ _ (rT hs hd v hw))
theorem ib (T:TypeId) (v:Value) (w:World):(newVar T v).run P w=.ok ⟨w.heap.size,0,none⟩ (w.alloc (.cells v.cells T)):=by
 rfl
theorem lN (w:World) (T:TypeId) (c:List Value):(Res.blk w.heap.size T c).sat (w.alloc (.cells c.toArray T)):=heap_alloc_new w _
theorem zK {T:TypeId} {c:List Value} [hz:Zr P T c] (hd:Nat.blt d κ.N=true) (h:∀b,G κ ((d,.pointer (some ⟨b,0,none⟩)) :: e) (.blk b T c :: L) X):G κ e L (owp κ.ρ P ⟨some d,.alloc T,ty,s,af,gd⟩ Q X) :=
 G.loud hd fun a w hs=>by
  obtain⟨v,hv,hc⟩:=hz.run w;refine⟨.pointer (some ⟨w.heap.size,0,none⟩),w.alloc (.cells c.toArray T),.blk w.heap.size T c :: L,?_,hs.wok.cons (Upd.alloc w _) _ (lN w T c) (by simp[Res.blk]),h _⟩;simp[execOp,Instr.alloc,hv,ib,hc]
theorem aq {T:TypeId} {x:Operand} {v:Value} {c:List Value} (hx:ev e x=some v) (hc:v.cells=c.toArray) (hd:Nat.blt d κ.N=true) (h:∀b,G κ ((d,.pointer (some ⟨b,0,none⟩)) :: e) (.blk b T c :: L) X):G κ e L (owp κ.ρ P ⟨some d,.box T x,ty,s,af,gd⟩ Q X) :=
 G.loud hd fun a w hs=>by
  refine⟨.pointer (some ⟨w.heap.size,0,none⟩),w.alloc (.cells c.toArray T),.blk w.heap.size T c :: L,?_,hs.wok.cons (Upd.alloc w _) _ (lN w T c) (by simp[Res.blk]),h _⟩;simp[execOp,Instr.box,hs.env.ev hx,ib,hc]
def ay (c:List Value) (off:Nat):List Value→List Value
 | []=>c
 | v :: vs=>ay (c.set off v) (off+1) vs
theorem wU (off:Nat) (vs:List Value):∀c:List Value,(ay c off vs).length=c.length:=by
 induction vs generalizing off with
 | nil=>intro c;rfl
 | cons v vs ih=>intro c;simp[ay,ih]
theorem xO {b T:Nat} (vs:List Value):∀(c:List Value) (off i:Nat) (w:World),(∀v∈vs,v.oneCell' = true)→off+i+vs.length≤c.length→(Res.blk b T c).sat w →
  ∃w',(storeCells ⟨b,off,none⟩ vs i).run P w=.ok () w' ∧ Upd [b] w w' ∧ (Res.blk b T (ay c (off+i) vs)).sat w' := by
 induction vs with
 | nil=>intro c off i w _ _ hs;exact⟨w,rfl,Upd.refl _ _,hs⟩
 | cons v vs ih =>
  intro c off i w h1 hle hs;simp only[List.length_cons] at hle;have hcell:w.cell? ⟨b,off+i,none⟩=some (c[off+i]'aK):=vC hs (List.getElem?_eq_getElem _);have hfr:w.frozen? ⟨b,off+i,none⟩=false:=frozen_of_row w b (off+i) _ T hs;have hst:(store ⟨b,off+i,none⟩ v).run P w=.ok () (w.setCell ⟨b,off+i,none⟩ v):=by
   rw[run_store P w _ v .plain (h1 v aM)];simp[hcell,hfr]
  have hs' : (Res.blk b T (c.set (off+i) v)).sat (w.setCell ⟨b,off+i,none⟩ v):=by
   have:=heap_setCell_same w b (off+i) c.toArray T v hs;simpa[Res.blk] using this
  obtain⟨w',hr,hu,hs2⟩:=ih (c.set (off+i) v) off (i+1) _ (fun u hu=>h1 u (by simp[hu])) aV hs';refine⟨w',?_,(Upd.setCell w ⟨b,off+i,none⟩ v).trans hu aM,hs2⟩;simp only[storeCells,yY,Sem.run_bind,hst,Result.andThen_ok];exact hr
theorem iB {i:Nat} {r:Res} (h:L[i]?=some r):i<L.length:=by
 rcases Nat.lt_or_ge i L.length with hl|hl
 ·exact hl
 rw[List.getElem?_eq_none hl] at h;cases h
theorem zI {T n b T' off:Nat} {x y:Operand} {v:Value} {c vs c' : List Value} {L' : List Res} {g:Bool} [ht:Ty P T g n] (hx:ev e x=some (.pointer (some ⟨b,off,none⟩))) (hy:ev e y=some v)
  (hv:v.cells=vs.toArray) (hn:vs.length=n) (h1:vs.all Value.oneCell' = true) [_hi:InL L b T' c] (hle:Nat.ble (off+n) c.length=true) (hc:ay c off vs=c') [hL:UpL L b T' c c' L']
  (h:G κ e L' X):G κ e L (owp κ.ρ P ⟨none,.store T x y,ty,s,af,gd⟩ Q X):=fun a w hs=>by
 obtain⟨i,hi',rfl⟩:=hL.at_;subst hc;subst hn;have hle' : off+vs.length≤c.length:=by simpa using hle
 obtain⟨w',hr,hu,hs'⟩:=xO (P:=P) (T:=T') vs c off 0 w (List.all_eq_true.1 h1) aK (hs.wok.sat i _ hi');have hw:=hs.wok.change hi' (.blk b T' (ay c off vs)) hu (by simpa using hs') (by simp[Res.blk]);have he:(execOp a.eval ⟨none,.store T x y,ty,s,af,gd⟩).run P w=.ok .skip w' := by
  simp[execOp,hs.env.ev hx,hs.env.ev hy,Instr.storeAt,Instr.sureAddr,storeVar,ht.size w,hv,hr]
 exact qF he (h _ _ ⟨hs.defers,hs.size,hs.env,hw⟩)
theorem iA:∀(vs p c:List Value),c.length=vs.length→ay (p++c) p.length vs=p++vs
 | [],p,c,h=>by have:c=[]:=List.eq_nil_of_length_eq_zero h;subst this;rfl
 | v :: vs,p,c,h=>by
  cases c with
  | nil=>simp at h
  | cons u c =>
   simp only[ay];have e1:(p++u :: c).set p.length v=(p++[v])++c:=by simp
   have:=iA vs (p++[v]) c (by simpa using h);rw[e1];simpa using this
theorem yH {vs c:List Value} (h:c.length=vs.length):ay c 0 vs=vs:=by simpa using iA vs [] c h
theorem zT {T n b T' : Nat} {x y:Operand} {vs c:List Value} {L' : List Res} [ht:Ty P T true n] (hx:ev e x=some (.pointer (some ⟨b,0,none⟩))) (hy:ev e y=some (.agg vs.toArray))
  (hn:Nat.beq vs.length n=true) (h1:vs.all Value.oneCell' = true) [_hi:InL L b T' c] (hle:Nat.beq c.length n=true) [hL:UpL L b T' c vs L']
  (h:G κ e L' X):G κ e L (owp κ.ρ P ⟨none,.store T x y,ty,s,af,gd⟩ Q X):=by
 have h1' : vs.length=n:=by simpa using hn
 have h2' : c.length=n:=by simpa using hle
 exact zI hx hy rfl h1' h1 (by simp[h2']) (yH aK) h
def Ret (P:Program) (f:FuncId) (args:List Value) (w:World) (R:Value→World→Prop):Prop:=Calls P f args.toArray w fun e w' => ∃v,e=.returned v∧R v w'
theorem Ret.mono {f:FuncId} {args:List Value} {w:World} {R R' : Value→World→Prop} (h:Ret P f args w R) (hr:∀v w',R v w' → R' v w'):Ret P f args w R' :=
 Calls.mono h fun _ _ ⟨v,he,hR⟩=>⟨v,he,hr v _ hR⟩
def gI (P:Program) (f:FuncId):Bool:=match P.funcs[f]? with|some fn=>fn.body.isSome && !(fn.name == "runtime.NumGoroutine")|none=>false
class HasB (P:Program) (f:FuncId):Prop where
 has:gI P f=true
theorem xY {f:FuncId} (hb:gI P f=true) (args:Array Value) (w:World):(callFunc f args).run P w=.ok (.enter f args) w:=by
 unfold gI at hb;cases hf:P.funcs[f]? with
 | none=>simp[hf] at hb
 | some fn =>
  simp only[hf,Bool.and_eq_true,Bool.not_eq_true'] at hb;obtain⟨h1,h2⟩:=hb;have h3:¬fn.body=none:=by intro hx;simp[hx] at h1
  have h4:¬fn.name = "runtime.NumGoroutine" := by simpa using h2
  simp[callFunc,Sem.run_bind,hf,h4,h3]
theorem ig {a:Act} (he:fL e a):∀(xs:List Operand) (vs:List Value),xs.map (ev e)=vs.map some→xs.map a.eval=vs
 | [],[],_=>rfl
 | [],_ :: _,h=>by simp at h
 | _ :: _,[],h=>by simp at h
 | x :: xs,v :: vs,h=>by
  simp at h;simp[he.ev h.1,ig he xs vs h.2]
theorem AT {f:FuncId} {xs:List Operand} {vs:List Value} {ts:Array TypeId} [hb:HasB P f] (hxs:xs.map (ev e)=vs.map some) (hd:Nat.blt d κ.N=true)
  (R:Value→World→Prop) (hf:∀w,WOK κ.S κ.w0 L w→Ret P f vs w (fun v w' => R v w' ∧ ∃L',WOK κ.S κ.w0 L' w' ∧ G κ ((d,v) :: e) L' X)):G κ e L (owp κ.ρ P ⟨some d,.call { callee:=.value (.func f),args:=xs.toArray,argTypes:=ts },ty,s,af,gd⟩ Q X):=fun a w hs=>by
 have he:(execOp a.eval ⟨some d,.call { callee:=.value (.func f),args:=xs.toArray,argTypes:=ts },ty,s,af,gd⟩).run P w=.ok (.enter f vs.toArray) w:=by
  have hm:=ig hs.env xs vs hxs;simp[execOp,resolve,Deferred.ofValue,invoke,Act.eval,hm,xY hb.has]
 refine mm he (Calls.mono (hf w hs.wok) ?_);rintro en w' ⟨v,rfl,_,L',hw,hg⟩;exact⟨v,rfl,hg _ _ (rT hs hd v hw)⟩
theorem qx {f:FuncId} {x:Operand} {xs:List Operand} {vs fst cap:List Value} {ts:Array TypeId} [hb:HasB P f] (hx:ev e x=some (.func (.func f) fst.toArray cap.toArray)) (hxs:xs.map (ev e)=vs.map some) (hd:Nat.blt d κ.N=true)
  (R:Value→World→Prop) (hf:∀w,WOK κ.S κ.w0 L w→Ret P f (fst++vs++cap) w (fun v w' => R v w' ∧ ∃L',WOK κ.S κ.w0 L' w' ∧ G κ ((d,v) :: e) L' X)):G κ e L (owp κ.ρ P ⟨some d,.call { callee:=.value x,args:=xs.toArray,argTypes:=ts },ty,s,af,gd⟩ Q X):=fun a w hs=>by
 have he:(execOp a.eval ⟨some d,.call { callee:=.value x,args:=xs.toArray,argTypes:=ts },ty,s,af,gd⟩).run P w=.ok (.enter f (fst++vs++cap).toArray) w:=by
  have hm:=ig hs.env xs vs hxs;have hx' := hs.env.ev hx;simp[execOp,resolve,Deferred.ofValue,invoke,hm,hx',xY hb.has]
 refine mm he (Calls.mono (hf w hs.wok) ?_);rintro en w' ⟨v,rfl,_,L',hw,hg⟩;exact⟨v,rfl,hg _ _ (rT hs hd v hw)⟩
def Pur (P:Program) (f:FuncId) (args:List Value) (w:World) (v:Value):Prop:=Ret P f args w fun u w' => u=v∧Upd [] w w'
theorem zH {f:FuncId} {xs:List Operand} {vs:List Value} {ts:Array TypeId} {v:Value} [hb:HasB P f] (hxs:xs.map (ev e)=vs.map some) (hf:∀w,WOK κ.S κ.w0 L w→Pur P f vs w v) (hd:Nat.blt d κ.N=true) (h:G κ ((d,v) :: e) L X) :
  G κ e L (owp κ.ρ P ⟨some d,.call { callee:=.value (.func f),args:=xs.toArray,argTypes:=ts },ty,s,af,gd⟩ Q X) :=
 AT hxs hd (fun _ _=>True) fun w hw=>(hf w hw).mono fun u w' ⟨hu,hup⟩=>by
  subst hu;exact⟨trivial,L,hw.more hup,h⟩
theorem enter {f:FuncId} {fn:Func} {c:Code} {args:List Value} {w:World} {R:Value→World→Prop} (hf:P.funcs[f]?=some fn) (hb:fn.body=some c) (n:Nat) (hn:fn.ntmps=n) (hle:args.length≤n)
  (e:Env) (he:∀k v,look e k=some v→(args++List.replicate (n-args.length) undef)[k]?=some v) (S:List Nat) (L:List Res) (hL:WOK S w L w)
  (h:G ⟨S,w,n,[],none⟩ e L (c.wpIn (FR none) 0 P (bodyPost P fn fun en w' => ∃v,en=.returned v∧R v w'))):Ret P f args w R:=by
 subst hn;refine callsIn_wide.1 (callsIn_of_wp (F:=Fence.wide) (n:=0) hf hb trivial (h _ _ ⟨rfl,?_,fun k v hk=>?_,hL⟩))
 ·simp;omega
 have:=he k v hk;have e:args.toArray++Array.replicate (fn.ntmps-args.toArray.size) undef=(args++List.replicate (fn.ntmps-args.length) undef).toArray:=by simp
 show(args.toArray++Array.replicate (fn.ntmps-args.toArray.size) undef)[k]?=some v;rw[e];simpa using this
theorem gc:∀(vs:List Value) (i:Nat) (k:Nat) (v:Value) (rest:List Value),look ((vs.zipIdx i).map fun p=>(p.2,p.1)) k=some v→i≤k∧(vs++rest)[k-i]?=some v
 | [],i,k,v,rest,h=>by simp[look] at h
 | u :: vs,i,k,v,rest,h=>by
  simp only[List.zipIdx_cons,List.map_cons,look] at h;by_cases hk:i=k
  ·subst hk;simp at h;subst h;simp
  rw[if_neg hk] at h;obtain⟨h1,h2⟩:=gc vs (i+1) k v rest h;refine⟨by omega,?_⟩;have e:k-i=(k-(i+1))+1:=by omega
  rw[e];simpa using h2
def lR (vs:List Value):Env:=(vs.zipIdx 0).map fun p=>(p.2,p.1)
theorem Cl {f:FuncId} {fn:Func} {c:Code} {args:List Value} {w:World} {R:Value→World→Prop} (hf:P.funcs[f]?=some fn) (hb:fn.body=some c) (n:Nat) (hn:fn.ntmps=n) (hle:args.length≤n)
  (S:List Nat) (L:List Res) (hL:WOK S w L w) (ea:Env) (hea:lR args=ea)
  (h:G ⟨S,w,n,[],none⟩ ea L (c.wpIn (FR none) 0 P (bodyPost P fn fun en w' => ∃v,en=.returned v∧R v w'))):Ret P f args w R:=by
 subst hea;exact enter hf hb n hn hle _ (fun k v hk=>by simpa using(gc args 0 k v _ hk).2) S L hL h
class Dz (κ:Cx):Prop where
 d:κ.D=[]
instance {S:List Nat} {w0:World} {N:Nat} {ρ:Option Nat}:Dz ⟨S,w0,N,[],ρ⟩:=⟨rfl⟩
inductive eo (P:Program) (κ:Cx) (e:Env) (L:List Res):ResultVar→Value→Prop
 | tmp {t:Tmp} {v:Value} (h:look e t=some v):eo P κ e L (.tmp t) v
 | cell1 {t:Tmp} {T n b T' off:Nat} {c:List Value} {v:Value} [ht:Ty P T false n] (h:look e t=some (.pointer (some ⟨b,off,none⟩))) [hi:InL L b T' c] (hv:c[off]?=some v):eo P κ e L (.cell t T) v
 | cellw {t:Tmp} {T n b T' : Nat} {c:List Value} [ht:Ty P T true n] (h:look e t=some (.pointer (some ⟨b,0,none⟩))) [hi:InL L b T' c] (hn:Nat.beq c.length n=true):eo P κ e L (.cell t T) (.agg c.toArray)
def rv (tmps:Array Value):ResultVar→Sem Value
 | .tmp t=>pure (tmps.getD t undef)
 | .cell a t=>do loadVar t (←asAddr (tmps.getD a undef))
theorem iJ (fn:Func) (tmps:Array Value):results fn tmps=(do let vs ←fn.results.mapM (rv tmps);pure (if h:vs.size=1 then vs[0] else .tuple vs)):=rfl
theorem uT {a:Act} {w:World} (he:fL e a) (hw:WOK κ.S κ.w0 L w) {r:ResultVar} {v:Value} (h:eo P κ e L r v):(rv a.tmps r).run P w=.ok v w:=by
 have key:∀t u,look e t=some u→a.tmps.getD t undef=u:=fun t u ht=>by simp[Array.getD_eq_getD_getElem?,he t u ht]
 cases h with
 | tmp h=>simp[rv,key _ _ h]
 | @cell1 _ _ _ _ _ _ _ _ ht h hi hv=>simp only[rv,key _ _ h];simp[asAddr,qT (ht:=ht) (vC (hi.sat hw) hv)]
 | @cellw _ _ _ _ _ _ ht h hi hn =>
  simp only[rv,key _ _ h];simp[asAddr,sE (p:=⟨_,0,none⟩) (ht:=ht) (by simpa using hn) (fun j v hv=>by rw[yY,Nat.zero_add];exact vC (hi.sat hw) hv)]
section
variable {fn:Func} {R:Value→World→Prop}
def jO (P:Program) (fn:Func) (R:Value→World→Prop):Exit→Act→World→Prop:=bodyPost P fn fun en w' => ∃v,en=.returned v∧R v w'
theorem lD [hD:Dz κ] {vs:List Value} {v:Value} (hv:(if h:vs.toArray.size=1 then vs.toArray[0] else .tuple vs.toArray)=v) (h1:∀a w,St κ e L a w→(fn.results.mapM (rv a.tmps)).run P w=.ok vs.toArray w) (hR:∀w,WOK κ.S κ.w0 L w→R v w) :
  ∀ex,ex=.ret∨ex=.normal→G κ e L (jO P fn R ex):=fun ex hex a w hs=>by
 have hr:(results fn a.tmps).run P w=.ok v w:=by
  rw[iJ,Sem.run_bind,h1 a w hs,←hv];rfl
 rcases hex with rfl|rfl<;>exact⟨hs.defers.trans hD.d,_,hr,_,rfl,hR w hs.wok⟩
theorem Hr [Dz κ] (h:fn.results = #[]) (hR:∀w,WOK κ.S κ.w0 L w→R (.tuple #[]) w):∀ex,ex=.ret∨ex=.normal→G κ e L (jO P fn R ex) :=
 lD (vs:=[]) rfl (fun a w _=>by simp[h]) hR
theorem eO [Dz κ] {r:ResultVar} {v:Value} (h:fn.results = #[r]) (h1:eo P κ e L r v) (hR:∀w,WOK κ.S κ.w0 L w→R v w):∀ex,ex=.ret∨ex=.normal→G κ e L (jO P fn R ex) :=
 lD (vs:=[v]) rfl (fun a w hs=>by simp[h,uT hs.env hs.wok h1]) hR
theorem AW [Dz κ] {r r' : ResultVar} {v v' : Value} (h:fn.results = #[r,r']) (h1:eo P κ e L r v) (h2:eo P κ e L r' v') (hR:∀w,WOK κ.S κ.w0 L w→R (.tuple [v,v'].toArray) w):∀ex,ex=.ret∨ex=.normal→G κ e L (jO P fn R ex) :=
 lD (vs:=[v,v']) rfl (fun a w hs=>by simp[h,uT hs.env hs.wok h1,uT hs.env hs.wok h2]) hR
theorem Hq [Dz κ] {r r' r'' : ResultVar} {v v' v'' : Value} (h:fn.results = #[r,r',r'']) (h1:eo P κ e L r v) (h2:eo P κ e L r' v') (h3:eo P κ e L r'' v'') (hR:∀w,WOK κ.S κ.w0 L w→R (.tuple [v,v',v''].toArray) w):∀ex,ex=.ret∨ex=.normal→G κ e L (jO P fn R ex) :=
 lD (vs:=[v,v',v'']) rfl (fun a w hs=>by simp[h,uT hs.env hs.wok h1,uT hs.env hs.wok h2,uT hs.env hs.wok h3]) hR
theorem dD [Dz κ] {t:Tmp} {v:Value} (h:fn.results = #[.tmp t]) (h1:look e t=some v) (hR:∀w,WOK κ.S κ.w0 L w→R v w) {ex:Exit} (hx:ex=.ret∨ex=.normal:=by first|exact .inl rfl|exact .inr rfl):G κ e L (jO P fn R ex):=eO h (.tmp h1) hR ex hx
theorem dE [Dz κ] {t t' : Tmp} {v v' : Value} (h:fn.results = #[.tmp t,.tmp t']) (h1:look e t=some v) (h2:look e t'=some v') (hR:∀w,WOK κ.S κ.w0 L w→R (.tuple [v,v'].toArray) w) {ex:Exit} (hx:ex=.ret∨ex=.normal:=by first|exact .inl rfl|exact .inr rfl):G κ e L (jO P fn R ex):=AW h (.tmp h1) (.tmp h2) hR ex hx
theorem dF [Dz κ] (h:fn.results = #[]) (hR:∀w,WOK κ.S κ.w0 L w→R (.tuple #[]) w) {ex:Exit} (hx:ex=.ret∨ex=.normal:=by first|exact .inl rfl|exact .inr rfl):G κ e L (jO P fn R ex):=Hr h hR ex hx
theorem dG [Dz κ] {r:ResultVar} {v:Value} (h:fn.results = #[r]) (h1:eo P κ e L r v) (hR:∀w,WOK κ.S κ.w0 L w→R v w) {ex:Exit} (hx:ex=.ret∨ex=.normal:=by first|exact .inl rfl|exact .inr rfl):G κ e L (jO P fn R ex):=eO h h1 hR ex hx
theorem dH [Dz κ] {r r' : ResultVar} {v v' : Value} (h:fn.results = #[r,r']) (h1:eo P κ e L r v) (h2:eo P κ e L r' v') (hR:∀w,WOK κ.S κ.w0 L w→R (.tuple [v,v'].toArray) w) {ex:Exit} (hx:ex=.ret∨ex=.normal:=by first|exact .inl rfl|exact .inr rfl):G κ e L (jO P fn R ex):=AW h h1 h2 hR ex hx
theorem dI [Dz κ] {r r' r'' : ResultVar} {v v' v'' : Value} (h:fn.results = #[r,r',r'']) (h1:eo P κ e L r v) (h2:eo P κ e L r' v') (h3:eo P κ e L r'' v'') (hR:∀w,WOK κ.S κ.w0 L w→R (.tuple [v,v',v''].toArray) w) {ex:Exit} (hx:ex=.ret∨ex=.normal:=by first|exact .inl rfl|exact .inr rfl):G κ e L (jO P fn R ex):=Hq h h1 h2 h3 hR ex hx
end
end
end Go.Eg
namespace Go.Eg
open Go.RowKit
class SlcF (P:Program) (T:Nat) (E k bt:outParam Nat):Prop where
 und:P.underlying T=some (.slice E)
 inf:((P.info? E).bind fun i=>i.zero.map fun z=>(i.size,i.bytes,z.cells.size))=some (k,bt,k)
 kpos:Nat.blt 0 k=true
 bpos:Nat.blt 0 bt=true
theorem SlcF.get {P:Program} {T E k bt:Nat} (h:SlcF P T E k bt):∃i z,P.info? E=some i∧i.zero=some z∧i.size=k∧i.bytes=bt∧z.cells.size=k∧0<k∧0<bt:=by
 obtain⟨i,hi,h1⟩:=Option.bind_eq_some_iff.1 h.inf;obtain⟨z,hz,h2⟩:=Option.map_eq_some_iff.1 h1;simp only[Prod.mk.injEq] at h2;exact⟨i,z,hi,hz,h2.1,h2.2.1,h2.2.2,by simpa using h.kpos,by simpa using h.bpos⟩
class InRow (L:List Res) (A:Option Addr) (n cap T k:outParam Nat) (els:outParam (List (List Value))):Prop where
 at_:∃i:Nat,L[i]?=some (.row A n cap T k els)
instance InRow.head {L:List Res} {A:Option Addr} {n cap T k:Nat} {els:List (List Value)}:InRow (.row A n cap T k els :: L) A n cap T k els:=⟨0,rfl⟩
instance InRow.tail {L:List Res} {r:Res} {A:Option Addr} {n cap T k:Nat} {els:List (List Value)} [h:InRow L A n cap T k els]:InRow (r :: L) A n cap T k els:=⟨h.at_.elim fun i hi=>⟨i+1,hi⟩⟩
class UpRow (L:List Res) (A:Option Addr) (n cap T k:outParam Nat) (els:outParam (List (List Value))) (r' : Res) (L' : outParam (List Res)):Prop where
 at_:∃i:Nat,L[i]?=some (.row A n cap T k els)∧L.set i r' = L'
instance UpRow.head {L:List Res} {A:Option Addr} {n cap T k:Nat} {els:List (List Value)} {r' : Res}:UpRow (.row A n cap T k els :: L) A n cap T k els r' (r' :: L):=⟨0,rfl,rfl⟩
instance UpRow.tail {L L' : List Res} {r r' : Res} {A:Option Addr} {n cap T k:Nat} {els:List (List Value)} [h:UpRow L A n cap T k els r' L']:UpRow (r :: L) A n cap T k els r' (r :: L') :=
 ⟨h.at_.elim fun i hi=>⟨i+1,hi.1,congrArg (r :: ·) hi.2⟩⟩
theorem InRow.rdb {κ:Cx} {L:List Res} {A:Option Addr} {n cap T k:Nat} {els:List (List Value)} [h:InRow L A n cap T k els] (h1:n=els.length) (h2:∀c∈els,c.length=k):Rdb κ L A n k els :=
 h.at_.elim fun i hi=>Rdb.row i hi h1 h2
theorem InL.rdb {κ:Cx} {L:List Res} {b T n k:Nat} {c:List Value} {els:List (List Value)} [h:InL L b T c] (h1:n=els.length) (h2:∀c∈els,c.length=k) (hc:els.flatten=c):Rdb κ L (some ⟨b,0,none⟩) n k els :=
 ⟨h1,h2,fun w hw _=>⟨rfl,fun j u hu=>by rw[hc] at hu;simpa using vC (h.sat hw) hu⟩⟩
section
variable {P:Program} (w:World)
theorem gO (t ty e:TypeId) (i:TypeInfo) (ht:P.underlying t=some (.slice e)) (hi:P.info? e=some i) (A B:Option Addr) (n cap c:Nat) (hle:n≤cap) :
  (Builtin.append_ #[t,t] ty #[.slice A n cap,.slice B 0 c]).run P w=.ok (.slice A n cap) w:=by
 cases A<;>cases B<;>simp[Builtin.append_,run_underlying ht,sizeOf,typeInfo,hi,Builtin.lenOf,Builtin.firstCells,loadCells,loadCellsFrom,hle,storeCells]
theorem np (t ty e:TypeId) {k bt:Nat} (hs:SlcF P t e k bt) {A B:Option Addr} {n cap m c:Nat} {els news:List (List Value)} (hr:(Res.row A n cap e k els).sat w)
  (hnl:m=news.length) (hnc:∀c∈news,c.length=k) (hn:0<m→∃ad,B=some ad∧∀j u,news.flatten[j]?=some u→w.cell? (ad.add j)=some u) (h1:∀c∈news,∀u∈c,u.oneCell' = true) (hb:(n+m)*bt≤140737488355328) :
  ∃A' cap' w',(Builtin.append_ #[t,t] ty #[.slice A n cap,.slice B m c]).run P w=.ok (.slice A' (n+m) cap') w' ∧ (Res.row A' (n+m) cap' e k (els++news)).sat w' ∧ Upd (Res.row A n cap e k els).fp w w' ∧
   ∀b∈(Res.row A' (n+m) cap' e k (els++news)).fp,b∈(Res.row A n cap e k els).fp∨w.heap.size≤b:=by
 obtain⟨i,z,hi,hz,hsz,hby,hzs,hk,hbp⟩:=hs.get;obtain⟨hnl',hcat,hr3⟩:=hr;have hle:n≤cap:=by rcases hr3 with⟨a,b⟩|⟨_,_,_,_,a,_⟩<;>omega
 have hcat' : ∀c∈els++news,c.length=k:=fun c hc=>(List.mem_append.1 hc).elim (hcat c) (hnc c);have hflat:(els++news).flatten.length=(n+m)*k:=by rw[xG hcat'];simp[hnl',hnl]
 have hlen:n+m=(els++news).length:=by simp[hnl',hnl]
 have hsmall:n+m≤140737488355328:=Nat.le_trans (Nat.le_mul_of_pos_right _ hbp) hb;have hmax:n+m≤maxLen:=by unfold maxLen;omega
 rcases Nat.eq_zero_or_pos m with hm|hm
 ·subst hm;have hnn:news=[]:=List.eq_nil_of_length_eq_zero hnl.symm;subst hnn;refine⟨A,cap,w,gO w t ty e i hs.und hi A B n cap c hle,?_,Upd.refl _ _,fun b hb=>.inl hb⟩;simpa using⟨hnl',hcat,hr3⟩
 obtain⟨ad,rfl,hcells⟩:=hn hm;have hfl:news.flatten.length=m*k:=by rw[xG hnc,hnl]
 have grown:∀old (oldc:List Value),oldc=els.flatten→old<n+m →
   (Res.row (some ⟨w.heap.size,0,none⟩) (n+m) (grownCap w (n+m) old e) e k (els++news)).sat (w.drew.alloc (.cells (oldc.toArray++news.flatten.toArray++Builtin.zeroCells z.cells (grownCap w (n+m) old e-(n+m))) e)):=by
  intro old oldc ho hlt;subst ho;have hge:=grownCap_ge w (n+m) old e;have hcm:grownCap w (n+m) old e≤maxLen:=grownCap_le_maxLen w (n+m) old e hmax;refine⟨hlen,hcat',.inr ⟨w.heap.size,_,rfl,heap_alloc_new w.drew _,hge,hcm,?_,?_⟩⟩
  ·have hel:els.flatten.length=n*k:=by rw[xG hcat,hnl']
   simp only[Array.size_append,List.size_toArray,size_zeroCells,hzs,hel,hfl,←Nat.add_mul]
   congr 1
   omega
  simp only[Array.toList_append,List.append_assoc];rw[←List.append_assoc,←List.flatten_append,←hflat];exact List.take_left
 have ups:∀S o,Upd S w (w.drew.alloc o):=fun S o=>(Upd.drew (Upd.refl S w)).trans (Upd.alloc w.drew o) aM;have hnz:¬(grownCap w (n+m) cap e=0):=by have:=grownCap_ge w (n+m) cap e;omega
 rcases hr3 with⟨h0,hc0⟩|⟨g,cur,rfl,hg,_,hcm,hcs,htk⟩
 ·subst h0;subst hc0;have hel:els=[]:=List.eq_nil_of_length_eq_zero hnl'.symm;subst hel;cases A with
  | none =>
   have hr:=run_append_nil (P:=P) w t ty e i z hs.und hi hz ad m c news.flatten (by rw[hfl,hsz]) hcells hm aK (by rw[hby];simp at hb;omega);have hg:=grown 0 [] rfl aK;simp only[Nat.zero_add,List.nil_append,Array.empty_append] at hr hg ⊢;exact⟨_,_,_,hr,hg,ups _ _,by simp[Res.row]⟩
  | some b =>
   have hr:=run_append_grow (P:=P) w t ty e i z hs.und hi hz b 0 0 [] aM aM ad m c news.flatten (by rw[hfl,hsz]) hcells aK aK (growslice_fits aK (by rw[hby];exact hb));have hg:=grown 0 [] rfl aK;exact⟨_,_,_,hr,hg,ups _ _,by simp[Res.row]⟩
 by_cases hroom:n+m≤cap
 ·have hfit:n*i.size+news.flatten.length≤cur.size:=by rw[hfl,hcs,hsz,←Nat.add_mul];exact Nat.mul_le_mul_right _ hroom
  have hr:=run_append_room (P:=P) w t ty e i hs.und hi g n cap cur hg ad m c news.flatten (by rw[hfl,hsz]) hcells (fun u hu=>by obtain⟨c,hc,hu⟩:=List.mem_flatten.1 hu;exact h1 c hc u hu) hroom hfit;have hcap:¬cap=0:=by omega
  refine⟨_,_,_,hr,⟨hlen,hcat',.inr ⟨g,_,rfl,setRow_heap w g cur _ e _ hg,hroom,hcm,?_,?_⟩⟩,⟨rfl,rfl,rfl,by simp,fun q _ hq=>setRow_other w g q _ (fun e=>hq (by simp[Res.row,hcap,e]))⟩,by simp[Res.row,hcap]⟩
  ·have hcur:cur.size=cap*k:=hcs;have hnk:n*k≤cap*k:=Nat.mul_le_mul_right _ hle;simp only[List.size_toArray,List.length_append,List.length_take,List.length_drop,Array.length_toList,hsz,hfl];rw[hsz,hfl,←Nat.add_mul] at hfit;rw[←hcur,Nat.min_eq_left aK,←Nat.add_mul];omega
  rw[hsz,htk,←hflat,List.flatten_append];exact List.take_left
 have holds:∀j u,els.flatten[j]?=some u→w.cell? ((⟨g,0,none⟩:Addr).add j)=some u:=fun j u hu=>by
  rw[yY,Nat.zero_add,cell_of_row w g j cur _ _ hg];rw[←htk,List.getElem?_take] at hu;split at hu
  ·simpa using hu
  cases hu
 have hr:=run_append_grow (P:=P) w t ty e i z hs.und hi hz ⟨g,0,none⟩ n cap els.flatten (by rw[xG hcat,hsz,hnl']) holds ad m c news.flatten (by rw[hfl,hsz]) hcells aK aK (growslice_fits aK (by rw[hby];exact hb));have hg:=grown cap els.flatten rfl aK;exact⟨_,_,_,hr,hg,ups _ _,by simp[Res.row]⟩
end
section
variable {P:Program} {κ:Cx} {e:Env} {L:List Res} {X:Act→World→Prop} {Q:Exit→Act→World→Prop} {d:Tmp} {ty:TypeId} {s:String} {af:Array Edge} {gd:Option (Nat × Bool)}
theorem xA (t T k:Nat) (h0:look e t=some (.slice none 0 0)) (h:∀A cap,cap=0→G κ ((t,.slice A 0 cap) :: e) (.row A 0 cap T k [] :: L) X):G κ e L X:=fun a w hs=>by
 refine h none 0 rfl a w ⟨hs.defers,hs.size,fun k v hk=>?_,hs.wok.cons (Upd.refl _ _) _ ⟨rfl,by simp,.inl ⟨rfl,rfl⟩⟩ (by simp[Res.row])⟩;simp only[look] at hk;by_cases h:t=k
 ·subst h;simp at hk;subst hk;exact hs.env t _ h0
 rw[if_neg h] at hk;exact hs.env k v hk
theorem zW {T E k bt n cap m c:Nat} {x y:Operand} {A B:Option Addr} {els news:List (List Value)} [hs:SlcF P T E k bt] (hx:ev e x=some (.slice A n cap)) (hy:ev e y=some (.slice B m c)) [hi:InRow L A n cap E k els]
  (hr:Rdb κ L B m k news) (h1:∀c∈news,∀u∈c,u.oneCell' = true) (hb:(n+m)*bt≤140737488355328) (hd:Nat.blt d κ.N=true)
  (h:∀A' cap',∃L',UpRow L A n cap E k els (.row A' (n+m) cap' E k (els++news)) L' ∧ G κ ((d,.slice A' (n+m) cap') :: e) L' X) :
  G κ e L (owp κ.ρ P ⟨some d,.call { callee:=.builtin .append,args := #[x,y],argTypes := #[T,T] },ty,s,af,gd⟩ Q X):=fun a w hst=>by
 obtain⟨i0,hi0⟩:=hi.at_;obtain⟨A',cap',w',hrun,hsat,hu,hfp⟩:=np (P:=P) w T ty E hs (hst.wok.sat i0 _ hi0) hr.len hr.cat (fun hm=>by
  obtain⟨h1,h2⟩:=hr.at_ w hst.wok hm;exact⟨_,h1,fun j u hu=>by rw[yY];exact h2 j u hu⟩) h1 hb (B:=B) (c:=c)
 obtain⟨L',hL,hg⟩:=h A' cap';obtain⟨i,hi',rfl⟩:=hL.at_;have he:(execOp a.eval ⟨some d,.call { callee:=.builtin .append,args := #[x,y],argTypes := #[T,T] },ty,s,af,gd⟩).run P w=.ok (.value (.slice A' (n+m) cap')) w' := by
  simp[execOp,resolve,invoke,builtin,hst.env.ev hx,hst.env.ev hy,hrun]
 exact uN he (hg _ _ (rT hst hd _ (hst.wok.change hi' _ hu hsat hfp)))
def iq (place:Nat→Option (Nat × Nat)) (c:List Value):List (Nat × Value)→Option (List Value)
 | []=>some c
 | (i,v) :: rest =>
  match place i with
  | none=>none
  | some (off,size)=>if v.cells.size=size∧off+size≤c.length then iq place (ay c off v.cells.toList) rest else none
theorem kW (vs:List Value):∀(off j:Nat) (c:List Value),((vs.zipIdx j).foldl (fun cs (p:Value × Nat)=>cs.setIfInBounds (off+p.2) p.1) c.toArray)=(ay c (off+j) vs).toArray:=by
 induction vs with
 | nil=>intro off j c;rfl
 | cons v vs ih =>
  intro off j c;simp only[List.zipIdx_cons,List.foldl_cons,ay];rw[List.setIfInBounds_toArray];exact ih off (j+1) _
theorem ga (place:Nat→Option (Nat × Nat)):∀(ps:List (Nat × Value)) (c c' : List Value),iq place c ps=some c' → Instr.fill place c.toArray ps=some c'.toArray
 | [],c,c',h=>by simp[iq] at h;subst h;rfl
 | (i,v) :: rest,c,c',h=>by
  simp only[iq] at h;simp only[Instr.fill];cases hp:place i with
  | none=>simp[hp] at h
  | some p =>
   obtain⟨off,size⟩:=p;simp only[hp] at h ⊢;split at h
   ·rename_i hc;have h1:¬(v.cells.size≠size || off+v.cells.size>c.toArray.size)=true:=by simp;omega
    rw[if_neg h1];have h2:(v.cells.zipIdx.foldl (fun cs (c,j)=>cs.setIfInBounds (off+j) c) c.toArray)=(ay c off v.cells.toList).toArray:=by
     rw[←Array.foldl_toList];have:=kW v.cells.toList off 0 c;simpa using this
    rw[h2];exact ga place rest _ _ h
   cases h
class Plc (P:Program) (T:Nat) (place:outParam (Nat→Option (Nat × Nat))) (z:outParam (List Value)):Prop where
 run:∀(w:World) (ps:List (Nat × Value)) (c:List Value),iq place z ps=some c→(Instr.build T ps.toArray).run P w=.ok (.agg c.toArray) w
def dX (l:List (Nat × Nat)):Nat→Option (Nat × Nat):=fun i=>l[i]?
theorem Plc.struct {P:Program} {T:Nat} {l:List (Nat × Nat)} {z:List Value} (hz:Zr P T z) (fs:Array Field) (hu:P.underlying T=some (.struct fs)) (hl:fs.toList.map (fun f=>(P.info? f.type).map fun i=>(f.offset,i.size))=l.map some):Plc P T (dX l) z:=by
 refine⟨fun w ps c hc=>?_⟩;obtain⟨v,hv,hcells⟩:=hz.run w;have hm:∀(gs:List Field) (l:List (Nat × Nat)),gs.map (fun f=>(P.info? f.type).map fun i=>(f.offset,i.size))=l.map some→(gs.mapM (fun f=>(do pure (f.offset,←sizeOf f.type):Sem (Nat × Nat)))).run P w=.ok l w:=by
  intro gs
  induction gs with
  | nil=>intro l h;cases l<;>simp at h;rfl
  | cons f gs ih =>
   intro l h;cases l with
   | nil=>simp at h
   | cons p l =>
    simp only[List.map_cons,List.cons.injEq] at h;obtain⟨i,hi,rfl⟩:=Option.map_eq_some_iff.1 h.1;have hso:(sizeOf f.type).run P w=.ok i.size w:=by simp[sizeOf,typeInfo,hi]
    simp only[List.mapM_cons,Sem.run_bind,hso,Result.andThen_ok,Sem.run_pure,ih l h.2]
 have hm' := hm fs.toList l hl;have hf:=ga (dX l) ps z c hc;have e1:(fs.mapM fun f=>(do pure (f.offset,←sizeOf f.type):Sem (Nat × Nat))).run P w=.ok l.toArray w:=by
  have:fs=fs.toList.toArray:=by simp
  rw[this,List.mapM_toArray,Sem.run_map,hm'];rfl
 have e2:(fun x=>l.toArray[x]?)=dX l:=by funext i;simp[dX]
 simp only[Instr.build,Sem.run_bind,hv,Result.andThen_ok,run_underlying hu,e1,hcells];simp only[e2,hf];rfl
theorem Plc.array {P:Program} {T E m k:Nat} {z:List Value} (hz:Zr P T z) (ha:Arr P T E m k):Plc P T (fun i=>some (i*k,k)) z:=by
 refine⟨fun w ps c hc=>?_⟩;obtain⟨v,hv,hcells⟩:=hz.run w;obtain⟨i,hi,rfl⟩:=Option.map_eq_some_iff.1 ha.siz;have hf:=ga _ ps z c hc;simp only[Instr.build,Sem.run_bind,hv,Result.andThen_ok,run_underlying ha.und,sizeOf,typeInfo,run_program,hi,Sem.run_pure,hcells];simp only[hf];rfl
def evP (e:Env):List (Nat × Operand)→Option (List (Nat × Value))
 | []=>some []
 | (i,x) :: r=>match ev e x with
  | some v=>match evP e r with
   | some vs=>some ((i,v) :: vs)
   | none=>none
  | none=>none
theorem lE {e:Env}:∀(ps:List (Nat × Operand)) (vs:List (Nat × Value)),evP e ps=some vs→ps.map (fun p=>(p.1,ev e p.2))=vs.map (fun p=>(p.1,some p.2))
 | [],vs,h=>by simp[evP] at h;subst h;rfl
 | (i,x) :: r,vs,h=>by
  simp only[evP] at h;cases hx:ev e x with
  | none=>simp[hx] at h
  | some v =>
   simp only[hx] at h;cases hr:evP e r with
   | none=>simp[hr] at h
   | some us =>
    simp only[hr,Option.some.injEq] at h;subst h;simp[hx,lE r us hr]
theorem kp {a:Act} (he:fL e a):∀(ps:List (Nat × Operand)) (vs:List (Nat × Value)),ps.map (fun p=>(p.1,ev e p.2))=vs.map (fun p=>(p.1,some p.2))→ps.map (fun p=>(p.1,a.eval p.2))=vs
 | [],[],_=>rfl
 | [],_ :: _,h=>by simp at h
 | _ :: _,[],h=>by simp at h
 | (i,x) :: ps,(j,v) :: vs,h=>by
  simp at h;simp[he.ev h.1.2,h.1.1,kp he ps vs h.2]
theorem yF {T:Nat} {pl:Nat→Option (Nat × Nat)} {z c:List Value} {ps:List (Nat × Operand)} {vs:List (Nat × Value)} [hp:Plc P T pl z] (hv:evP e ps=some vs) (hc:iq pl z vs=some c) :
  cf P κ e L ⟨some d,.build T ps.toArray,ty,s,af,gd⟩ (.agg c.toArray):=fun a w he _=>by
 have hm:=kp he ps vs (lE ps vs hv);have e1:(ps.toArray.map fun(i,x)=>(i,a.eval x))=vs.toArray:=by simp[←hm]
 simp[execOp,e1,hp.run w vs c hc]
theorem bg {T E k n:Nat} {z c:List Value} {ps:List (Nat × Operand)} {vs:List (Nat × Value)} [hs:Slc P T E k] [hz:Zr P E z] (hzk:Nat.beq z.length k=true) (hn:Nat.ble (n*k) 16777216=true) (hv:evP e ps=some vs)
  (hc:iq (fun i=>some (i*k,k)) (List.replicate n z).flatten vs=some c) (hd:Nat.blt d κ.N=true) (h:∀b,G κ ((d,.slice (some ⟨b,0,none⟩) n n) :: e) (.blk b E c :: L) X) :
  G κ e L (owp κ.ρ P ⟨some d,.buildSlice T n ps.toArray,ty,s,af,gd⟩ Q X):=G.loud hd fun a w hst=>by
 obtain⟨v,hv0,hcells⟩:=hz.run w;obtain⟨i,hi,rfl⟩:=Option.map_eq_some_iff.1 hs.siz;have hzk' : z.length=i.size:=by simpa using hzk
 have hn' : n*i.size≤16777216:=by simpa using hn
 have hm:=kp hst.env ps vs (lE ps vs hv);have e1:(ps.toArray.map fun(i,x)=>(i,a.eval x))=vs.toArray:=by simp[←hm]
 have hf:=ga _ vs _ _ hc;have hrep:n*i.size≠0→((Array.range (n*i.size)).map (fun j=>z.toArray[j%z.length]!))=(List.replicate n z).flatten.toArray:=fun h0=>by
  have hk:0<i.size:=Nat.pos_of_ne_zero fun h=>h0 (by simp[h]);apply Array.ext
  ·simp[hzk']
  intro j h1 h2;simp at h1;have hq:j/i.size<n:=by rw[Nat.div_lt_iff_lt_mul hk];exact h1
  have hr:j%i.size<i.size:=Nat.mod_lt _ hk;have hg:=tZ (els:=List.replicate n z) (k:=i.size) (fun c hc=>by rw[List.eq_of_mem_replicate hc];exact hzk') (i:=j/i.size) (o:=j%i.size) (cs:=z) (v:=z[j%i.size]'aK) (by rw[List.getElem?_replicate];simp[hq]) (List.getElem?_eq_getElem _);have ej:j/i.size*i.size+j%i.size=j:=by rw[Nat.mul_comm];exact Nat.div_add_mod _ _
  rw[ej] at hg;have h3:=(List.getElem?_eq_some_iff.1 hg).2;simp[hzk',h3];rw[List.getElem?_eq_getElem aK];rfl
 refine⟨.slice (some ⟨w.heap.size,0,none⟩) n n,w.alloc (.cells c.toArray E),.blk w.heap.size E c :: L,?_,hst.wok.cons (Upd.alloc w _) _ (lN w E c) (by simp[Res.blk]),h _⟩;have hnot:¬(16777216<n*i.size):=by omega
 by_cases h0:n*i.size=0
 ·have hz0:(List.replicate n z).flatten=[]:=by
   apply List.eq_nil_of_length_eq_zero;rw[xG (k:=i.size) (fun c hc=>by rw[List.eq_of_mem_replicate hc];exact hzk')];simpa using h0
  rw[hz0] at hf;simp only[execOp,Instr.buildSlice,Sem.run_bind,run_underlying hs.und,Result.andThen_ok,sizeOf,typeInfo,run_program,hi,Sem.run_pure,h0,e1];have er:∀f:Nat→Value,(Array.range 0).map f = #[]:=fun f=>by simp[Array.range_zero']
  simp only[er,hf,Nat.not_lt_zero,Nat.reducePow,gt_iff_lt,if_false,if_true];rfl
 have hr:=hrep h0;simp only[execOp,Instr.buildSlice,Sem.run_bind,run_underlying hs.und,Result.andThen_ok,sizeOf,typeInfo,run_program,hi,Sem.run_pure,e1];simp only[Nat.reducePow,gt_iff_lt,hnot,if_false,h0,Sem.run_bind,hv0,hcells,Result.andThen_ok,Sem.run_pure,List.size_toArray];rw[hr,hf];rfl
end
end Go.Eg
namespace Go.Eg
open Go.RowKit
section
variable {P:Program} {ops:Array Oper} {Q:Exit→Act→World→Prop} {md:Region.Mode} {C:World→Prop} {T:List Nat}
def fm (Q:Exit→Act→World→Prop):Exit→Act→World→Prop
 | .normal,a,w=>Q .normal a w
 | _,_,_=>False
theorem uz {o:Oper} {a:Act} {w:World} {K:Act→World→Prop} {Q' : Exit→Act→World→Prop} (h:∀ex a w,Q' ex a w→Q ex a w) (hh:o.wpIn (FR none) 0 P a w K Q'):o.wpIn (FR none) 0 P a w K Q:=by
 unfold Oper.wpIn at *;refine⟨hh.1,?_⟩;have hh:=hh.2;generalize (o.semAt (FR none).round a.eval).run P w=r at *;cases r with
 | ok n w' =>
  cases n<;>simp only[Oper.uponIn] at hh ⊢ <;> first
   | exact hh
   | exact⟨hh.1,CallsIn.mono hh.2 (fun e w'' he=>by
     cases e with
     | returned v=>exact he
     | panicked c=>exact h _ _ _ he
     | outgrown=>obtain⟨a,w,hq⟩:=he;exact⟨a,w,h _ _ _ hq⟩)⟩
   | exact⟨hh.1,RoundIn.mono hh.2 (fun e w'' he=>by
     cases e with
     | returned v=>exact he
     | panicked c=>exact h _ _ _ he
     | outgrown=>obtain⟨a,w,hq⟩:=he;exact⟨a,w,h _ _ _ hq⟩)⟩
 | halt x w' =>
  cases x<;>simp only[Oper.uponIn] at hh ⊢;exact h _ _ _ hh
theorem gl {i:Nat} {a:Act} {w:World} {K:Act→World→Prop} {Q' : Exit→Act→World→Prop} (h:∀ex a w,Q' ex a w→Q ex a w) (hh:wpOpIn (FR none) 0 P ops Q' i K a w):wpOpIn (FR none) 0 P ops Q i K a w:=by
 unfold wpOpIn at *;split
 ·simpa[*] using hh
 rename_i o ho;simp only[ho] at hh;split
 ·rename_i hw;simp only[hw,if_true] at hh;exact uz h hh
 rename_i hw;simp only[hw] at hh;exact hh
def fx (T:List Nat) (listed:Array Bool):Prop:=∀t∈T,listed.getD t false=false
def ca (P:Program) (ops:Array Oper) (T:List Nat) (C:World→Prop) (Q:Exit→Act→World→Prop):Nat→Array Bool→Act→World→Prop
 | 0,listed,a,w=>(fx T listed→C w)∧Region.ready .any ops listed=[]∧Q .normal a w
 | fuel+1,listed,a,w=>(fx T listed→C w)∧(Region.ready .any ops listed=[]→Q .normal a w) ∧
  ∀i∈Region.ready .any ops listed,wpOpIn (FR none) 0 P ops (fm Q) i (ca P ops T C Q fuel (listed.setIfInBounds i true)) a w
theorem gm:∀(fuel:Nat) (listed:Array Bool) (a:Act) (w:World),ca P ops T C Q fuel listed a w→wpAnyIn (FR none) 0 P .any ops Q fuel listed a w
 | 0,_,_,_,h=>⟨h.2.1,h.2.2⟩
 | fuel+1,_,_,_,h=>⟨h.2.1,fun i hi=>gl (fun ex a w hq=>by cases ex<;>first|exact hq|exact hq.elim) (wpOpIn_mono (fun a w=>gm fuel _ a w) (h.2.2 i hi))⟩
theorem pM {id:Nat} {a:Act} {w:World} (hm:P.follows .mixedOrders=true) (h:ca P ops T C Q ops.size (Array.replicate ops.size false) a w.drew):(Code.region id ops true).wpIn (FR none) 0 P Q a w :=
 wpIn_region_any hm (gm _ _ _ _ h)
def eU (P:Program) (ops:Array Oper) (C:World→Prop) (o:Oper) (v:Value) (a:Act):Prop :=
 (Region.wanted o (yielded ops a.tmps)=true∧∀w,C w→(execOp a.eval o).run P w=.ok (.value v) w)∨(Region.wanted o (yielded ops a.tmps)=false∧v=undef)
theorem eU.of_same {o:Oper} {v:Value} {a a' : Act} (hy:eU P ops C o v a) (he:execOp a'.eval o=execOp a.eval o)
  (hw:Region.wanted o (yielded ops a'.tmps)=Region.wanted o (yielded ops a.tmps)):eU P ops C o v a' := by
 unfold eU at *;rw[he,hw];exact hy
theorem eU.wpOp {i:Nat} {o:Oper} {v:Value} {a:Act} (hi:ops[i]?=some o) (hy:eU P ops C o v a) {K:Act→World→Prop} {w:World} (hC:C w) (h:K (a.put o.dst v) w):wpOpIn (FR none) 0 P ops Q i K a w:=by
 unfold Go.wpOpIn;simp only[hi];rcases hy with⟨hw,hv⟩|⟨hw,rfl⟩
 ·simp only[hw,if_true];exact uN (hv w hC) h
 simp only[hw,Bool.false_eq_true,if_false];exact⟨fun _ _=>trivial,h⟩
theorem jT {j:Nat} {oi oj:Oper} {v:Value} (hj:ops[j]?=some oj) (hap:oi.apart ops oj=true)
  (hsi:∀cs b,oi.op ≠ .select cs b) (hsj:∀cs b,oj.op ≠ .select cs b) {K:Act→World→Prop} {a:Act} {w:World}
  (hy:eU P ops C oi v a) (h:wpOpIn (FR none) 0 P ops (fm Q) j K (a.put oi.dst v) w) :
  wpOpIn (FR none) 0 P ops (fm Q) j (fun a' w' => eU P ops C oi v a' ∧ K (a'.put oi.dst v) w') a w:=by
 obtain⟨h1,h2,h3⟩:=Oper.apart_spec hap;have keep:∀(a:Act),eU P ops C oi v a→∀u,eU P ops C oi v (a.put oj.dst u):=fun a hy u =>
  hy.of_same (execOp_put oi hsi a oj.dst u h3) (wanted_put oi a oj.dst u h3)
 have keepD:∀d,eU P ops C oi v { a with defers:=d :: a.defers }:=fun d=>hy.of_same rfl rfl;unfold wpOpIn at *;simp only[hj] at *;rw[wanted_put oj a oi.dst v h1] at h;split
 ·rename_i hw;simp only[hw,if_true] at h;unfold Oper.wpIn at *;refine⟨fun _ _=>trivial,?_⟩;have h:=h.2;have e0:∀ ρ,oj.semAt (FR none).round ρ=execOp ρ oj:=fun ρ=>rfl;rw[e0,execOp_put oj hsj a oi.dst v h1] at h;rw[e0];generalize (execOp a.eval oj).run P w=r at *;cases r with
  | ok n w' =>
   cases n<;>simp only[Oper.uponIn] at h ⊢
   case value u=>exact⟨keep a hy u,by rw[←Act.put_comm a v u h2];exact h⟩
   case skip=>exact⟨keep a hy _,by rw[←Act.put_comm a v undef h2];exact h⟩
   case enter f args =>
    refine⟨h.1,CallsIn.mono h.2 fun e w'' he=>?_⟩;cases e with
    | returned u=>exact⟨keep a hy u,by rw[←Act.put_comm a v u h2];exact he⟩
    | panicked c=>exact he
    | outgrown=>exact he
   case round l f tmps assign body =>
    refine⟨h.1,RoundIn.mono h.2 fun e w'' he=>?_⟩;cases e with
    | returned u=>exact⟨keep a hy u,by rw[←Act.put_comm a v u h2];exact he⟩
    | panicked c=>exact he
    | outgrown=>exact he
   case defer d =>
    refine⟨(keepD d).of_same (execOp_put oi hsi _ oj.dst undef h3) (wanted_put oi _ oj.dst undef h3),?_⟩;rw[←Act.put_comm _ v undef h2];have e1:({ a with defers:=d :: a.defers }:Act).put oi.dst v={ a.put oi.dst v with defers:=d :: (a.put oi.dst v).defers }:=by
     cases oi.dst<;>rfl
    rw[e1];exact h
   case row row args =>
    exact⟨h.1,RowsIn.mono h.2 fun u w'' he=>⟨keep a hy u,by rw[←Act.put_comm a v u h2];exact he⟩⟩
  | halt x w' =>
   cases x<;>simp only[Oper.uponIn] at h ⊢;exact h
 rename_i hw;simp only[hw] at h;exact⟨fun _ _=>trivial,keep a hy _,by rw[←Act.put_comm a v undef h2];exact h.2⟩
theorem FO:∀{fuel:Nat} {listed:Array Bool} {a:Act} {w:World},ca P ops T C Q fuel listed a w→fx T listed→C w
 | 0,_,_,_,h,hn=>h.1 hn
 | _+1,_,_,_,h,hn=>h.1 hn
theorem oy {i:Nat} {oi:Oper} {v:Value} (hi:ops[i]?=some oi) (hsel:∀(j:Nat) (o:Oper) cs b,ops[j]?=some o→o.op ≠ .select cs b) (hiT:i∉T)
  (hT:∀t∈T,∀ot,ops[t]?=some ot→∃e∈ot.after,Region.binds .any e=true∧e.on=i) :
  ∀(fuel:Nat) (listed:Array Bool) (a:Act) (w:World),fx T listed →
   (∀j oj,ops[j]?=some oj→j≠i→listed.getD j true=false→(∀e∈oj.after,Region.binds .any e=true→e.on≠i)→oi.apart ops oj=true) →
   i∈Region.ready .any ops listed→eU P ops C oi v a→C w →
   ca P ops T C Q fuel (listed.setIfInBounds i true) (a.put oi.dst v) w→ca P ops T C Q (fuel+1) listed a w:=by
 intro fuel
 induction fuel with
 | zero =>
  intro listed a w _ _ hr hy hC H;refine⟨fun _=>hC,fun h=>(by rw[h] at hr;cases hr),fun j hj=>?_⟩;by_cases hji:j=i
  ·subst hji;exact hy.wpOp hi hC H
  have:=ready_mono hj hji;rw[H.2.1] at this;cases this
 | succ fuel ih =>
  intro listed a w hnt hfree hr hy hC H;refine⟨fun _=>hC,fun h=>(by rw[h] at hr;cases hr),fun j hj=>?_⟩;by_cases hji:j=i
  ·subst hji;exact hy.wpOp hi hC H
  have h1:=H.2.2 j (ready_mono hj hji);obtain⟨hjun,oj,hoj,hall⟩:=mem_ready.1 hj;have hi0:listed.getD i false=false:=by
   have h0:=(mem_ready.1 hr).1;rcases Nat.lt_or_ge i listed.size with h' | h'
   ·simp[h'] at h0 ⊢;exact h0
   simp[Array.getElem?_eq_none h'] at h0
  have hnot:∀e∈oj.after,Region.binds .any e=true→e.on≠i:=fun e he hb heq=>by
   have h1:=hall e he hb;rw[heq,hi0] at h1;cases h1
  have hjT:j∉T:=fun hm=>by
   obtain⟨e,he,hb,heq⟩:=hT j hm oj hoj;exact hnot e he hb heq
  have h2:=jT hoj (hfree j oj hoj hji hjun hnot) (fun cs b=>hsel i oi cs b hi) (fun cs b=>hsel j oj cs b hoj) hy h1;have hfree' : ∀k ok,ops[k]?=some ok→k≠i→(listed.setIfInBounds j true).getD k true=false →
    (∀e∈ok.after,Region.binds .any e=true→e.on≠i)→oi.apart ops ok=true:=fun k ok hk hki hun hno=>by
   refine hfree k ok hk hki ?_ hno;by_cases hjk:j=k
   ·subst hjk;exact hjun
   rw[getD_set_ne true hjk] at hun;exact hun
  have hnt1:fx T (listed.setIfInBounds j true):=fun t ht=>by
   rw[getD_set_ne false (fun e=>hjT (by rw[e];exact ht))];exact hnt t ht
  have hnt2:fx T ((listed.setIfInBounds i true).setIfInBounds j true):=fun t ht=>by
   rw[getD_set_ne false (fun e=>hjT (by rw[e];exact ht)),getD_set_ne false (fun e=>hiT (by rw[e];exact ht))];exact hnt t ht
  refine wpOpIn_mono (fun a' w' h3=>ih (listed.setIfInBounds j true) a' w' hnt1 hfree' (ready_mono hr (Ne.symm hji)) h3.1 (FO h3.2 hnt2) ?_) h2;rw[Array.setIfInBounds_comm _ _ hji];exact h3.2
def fX (ops:Array Oper) (T:List Nat) (listed:Array Bool) (i:Nat):Bool :=
 Region.noSelect ops && !T.contains i && T.all (fun t => !listed.getD t false) && T.all (fun t=>(ops[t]?).all fun ot=>ot.after.any fun e=>Region.binds .any e && e.on == i) &&
  Region.free .any ops listed i && (Region.ready .any ops listed).contains i
theorem pJ {i:Nat} {oi:Oper} {v:Value} {fuel:Nat} {listed:Array Bool} {a:Act} {w:World} (hi:ops[i]?=some oi) (hb:fX ops T listed i=true) (hy:eU P ops C oi v a) (hC:C w)
  (h:ca P ops T C Q fuel (listed.setIfInBounds i true) (a.put oi.dst v) w):ca P ops T C Q (fuel+1) listed a w:=by
 simp only[fX,Bool.and_eq_true] at hb;obtain⟨⟨⟨⟨⟨h1,h2⟩,h3⟩,h4⟩,h5⟩,h6⟩:=hb;refine oy hi (Region.noSelect_spec h1) (by simpa using h2) (fun t ht ot hot=>?_) fuel listed a w (fun t ht=>by simpa using List.all_eq_true.1 h3 t ht) (Region.free_spec hi h5) (by simpa using h6) hy hC h;have:=List.all_eq_true.1 h4 t ht;rw[hot] at this;simp only[Option.all_some,Array.any_eq_true] at this;obtain⟨k,hk,he⟩:=this;simp only[Bool.and_eq_true,beq_iff_eq] at he;exact⟨_,Array.getElem_mem hk,he.1,he.2⟩
end
section
variable {P:Program} {κ:Cx} {e:Env} {L:List Res} {ops:Array Oper} {Q:Exit→Act→World→Prop} {T:List Nat}
def Cls (κ:Cx) (L0:List Res):World→Prop:=WOK κ.S κ.w0 L0
theorem Af {id:Nat} {ops:Array Oper} (T:List Nat) (hm:P.follows .mixedOrders=true) {n:Nat} (hn:ops.size=n) {ls:Array Bool} (hl:Array.replicate n false=ls) (h:G κ e L (ca P ops T (Cls κ L) Q n ls)) :
  G κ e L ((Code.region id ops true).wpIn (FR none) 0 P Q):=fun a w hs=>by
 subst hn;subst hl;exact pM (C:=Cls κ L) (T:=T) hm (h a w.drew ⟨hs.defers,hs.size,hs.env,hs.wok.drew⟩)
theorem tz {id:Nat} {ops:Array Oper} {L0:List Res} (T:List Nat) (hm:P.follows .mixedOrders=true) {n:Nat} (hn:ops.size=n) {ls:Array Bool} (hl:Array.replicate n false=ls) (_hL:∀w,WOK κ.S κ.w0 L w→WOK κ.S κ.w0 L0 w) (h:G κ e L (ca P ops T (Cls κ L0) Q n ls)) :
  G κ e L ((Code.region id ops true).wpIn (FR none) 0 P Q):=fun a w hs=>by
 subst hn;subst hl;exact pM (C:=Cls κ L0) (T:=T) hm (h a w.drew ⟨hs.defers,hs.size,hs.env,hs.wok.drew⟩)
theorem d_q {L0:List Res} (i:Nat) {fuel:Nat} {ls ls' : Array Bool} {d:Nat} {op:Op} {t:TypeId} {s:String} {af:Array Edge} {v:Value} (hi:ops[i]?=some ⟨some d,op,t,s,af,none⟩) (hb:fX ops T ls i=true)
  (hq:cf P κ e L0 ⟨some d,op,t,s,af,none⟩ v) (hL:∀w,WOK κ.S κ.w0 L w→WOK κ.S κ.w0 L0 w) (hd:Nat.blt d κ.N=true) (hls:ls.setIfInBounds i true=ls') (h:G κ ((d,v) :: e) L (ca P ops T (Cls κ L0) Q fuel ls')):G κ e L (ca P ops T (Cls κ L0) Q (fuel+1) ls):=fun a w hs=>by
 subst hls;exact pJ hi hb (.inl ⟨rfl,fun w' hw' => hq a w' hs.env hw'⟩) (hL w hs.wok) (h _ _ (hs.put (by simpa using hd) v))
theorem GO {L0:List Res} (i:Nat) {fuel:Nat} {ls ls' : Array Bool} {d:Nat} {op:Op} {t:TypeId} {s:String} {af:Array Edge} {v:Value} {j:Nat} {b:Bool} {u:Tmp} (hi:ops[i]?=some ⟨some d,op,t,s,af,some (j,b)⟩) (hb:fX ops T ls i=true)
  (hq:cf P κ e L0 ⟨some d,op,t,s,af,some (j,b)⟩ v) (hj:(ops[j]?).bind (·.dst)=some u) (hu:look e u=some (.bool b)) (hL:∀w,WOK κ.S κ.w0 L w→WOK κ.S κ.w0 L0 w) (hd:Nat.blt d κ.N=true) (hls:ls.setIfInBounds i true=ls')
  (h:G κ ((d,v) :: e) L (ca P ops T (Cls κ L0) Q fuel ls')):G κ e L (ca P ops T (Cls κ L0) Q (fuel+1) ls):=fun a w hs=>by
 subst hls;obtain⟨oj,hoj,hdj⟩:=Option.bind_eq_some_iff.1 hj;exact pJ hi hb (.inl ⟨by rw[uF rfl hoj hdj (hs.env u _ hu)];simp,fun w' hw' => hq a w' hs.env hw'⟩) (hL w hs.wok) (h _ _ (hs.put (by simpa using hd) v))
theorem Ht {L0:List Res} (i:Nat) {fuel:Nat} {ls ls' : Array Bool} {d:Nat} {op:Op} {t:TypeId} {s:String} {af:Array Edge} {j:Nat} {b c:Bool} {u:Tmp} (hi:ops[i]?=some ⟨some d,op,t,s,af,some (j,b)⟩) (hb:fX ops T ls i=true)
  (hj:(ops[j]?).bind (·.dst)=some u) (hu:look e u=some (.bool c)) (hc:(c == b)=false) (hL:∀w,WOK κ.S κ.w0 L w→WOK κ.S κ.w0 L0 w) (hd:Nat.blt d κ.N=true) (hls:ls.setIfInBounds i true=ls')
  (h:G κ ((d,undef) :: e) L (ca P ops T (Cls κ L0) Q fuel ls')):G κ e L (ca P ops T (Cls κ L0) Q (fuel+1) ls):=fun a w hs=>by
 subst hls;obtain⟨oj,hoj,hdj⟩:=Option.bind_eq_some_iff.1 hj;exact pJ hi hb (.inr ⟨by rw[uF rfl hoj hdj (hs.env u _ hu)];exact hc,rfl⟩) (hL w hs.wok) (h _ _ (hs.put (by simpa using hd) undef))
theorem Hs {L0:List Res} (i:Nat) {fuel:Nat} {ls ls' : Array Bool} {d:Option Nat} {op:Op} {t:TypeId} {s:String} {af:Array Edge} (hi:ops[i]?=some ⟨d,op,t,s,af,none⟩) (hr:Region.ready .any ops ls=[i]) (hls:ls.setIfInBounds i true=ls')
  (hL:∀w,WOK κ.S κ.w0 L w→WOK κ.S κ.w0 L0 w) (h:G κ e L (owp none P ⟨d,op,t,s,af,none⟩ (fm Q) (ca P ops T (Cls κ L0) Q fuel ls'))):G κ e L (ca P ops T (Cls κ L0) Q (fuel+1) ls):=fun a w hs=>by
 subst hls;refine⟨fun _=>hL w hs.wok,fun h0=>(by rw[hr] at h0;cases h0),fun j hj=>?_⟩;rw[hr] at hj;simp at hj;subst hj;unfold wpOpIn;simp only[hi,Region.wanted,if_true];exact h a w hs
theorem GP {L0:List Res} (i:Nat) {fuel:Nat} {ls ls' : Array Bool} {d:Option Nat} {op:Op} {t:TypeId} {s:String} {af:Array Edge} {j:Nat} {b:Bool} {u:Tmp} (hi:ops[i]?=some ⟨d,op,t,s,af,some (j,b)⟩) (hr:Region.ready .any ops ls=[i]) (hls:ls.setIfInBounds i true=ls')
  (hj:(ops[j]?).bind (·.dst)=some u) (hu:look e u=some (.bool b))
  (hL:∀w,WOK κ.S κ.w0 L w→WOK κ.S κ.w0 L0 w) (h:G κ e L (owp none P ⟨d,op,t,s,af,some (j,b)⟩ (fm Q) (ca P ops T (Cls κ L0) Q fuel ls'))):G κ e L (ca P ops T (Cls κ L0) Q (fuel+1) ls):=fun a w hs=>by
 subst hls;refine⟨fun _=>hL w hs.wok,fun h0=>(by rw[hr] at h0;cases h0),fun k hk=>?_⟩;rw[hr] at hk;simp at hk;subst hk;obtain⟨oj,hoj,hdj⟩:=Option.bind_eq_some_iff.1 hj;have hw:Region.wanted (⟨d,op,t,s,af,some (j,b)⟩:Oper) (yielded ops a.tmps)=true:=by rw[uF rfl hoj hdj (hs.env u _ hu)];simp
 unfold wpOpIn;simp only[hi,hw,if_true];exact h a w hs
theorem FE {L0:List Res} (i:Nat) {fuel:Nat} {ls ls' : Array Bool} {d:Option Nat} {op:Op} {t:TypeId} {s:String} {af:Array Edge} (hi:ops[i]?=some ⟨d,op,t,s,af,none⟩) (hr:Region.ready .any ops ls=[i]) (hls:ls.setIfInBounds i true=ls') (ht:T.any (fun t=>ls.getD t false)=true)
  (h:G κ e L (owp none P ⟨d,op,t,s,af,none⟩ (fm Q) (ca P ops T (Cls κ L0) Q fuel ls'))):G κ e L (ca P ops T (Cls κ L0) Q (fuel+1) ls):=fun a w hs=>by
 subst hls;obtain⟨t0,ht0,ht1⟩:=List.any_eq_true.1 ht;refine⟨fun hn=>(by have:=hn t0 ht0;rw[this] at ht1;cases ht1),fun h0=>(by rw[hr] at h0;cases h0),fun j hj=>?_⟩;rw[hr] at hj;simp at hj;subst hj;unfold wpOpIn;simp only[hi,Region.wanted,if_true];exact h a w hs
theorem Dg {L0:List Res} {ls:Array Bool} (hr:Region.ready .any ops ls=[]) (hL:(T.any (fun t=>ls.getD t false)=true)∨∀w,WOK κ.S κ.w0 L w→WOK κ.S κ.w0 L0 w) (h:G κ e L (Q .normal)):G κ e L (ca P ops T (Cls κ L0) Q 0 ls):=fun a w hs=>by
 refine⟨fun hn=>?_,hr,h a w hs⟩;rcases hL with ht|hL
 ·obtain⟨t0,ht0,ht1⟩:=List.any_eq_true.1 ht;have:=hn t0 ht0;rw[this] at ht1;cases ht1
 exact hL w hs.wok
end
end Go.Eg
namespace Go.Eg
open Go.RowKit
def eqS:Nat→Value→Value→Option Bool
 | 0,.int _ a,.int _ b=>some (decide (a=b))
 | 1,.bool a,.bool b=>some (a == b)
 | 2,.string a,.string b=>some (a.toList == b.toList)
 | _,_,_=>none
def wj:Value→Value→Bool
 | .int k _,.int k' _=>decide (k=k')
 | _,_=>true
def eqL:List Nat→List Value→List Value→Option Bool
 | [],[],[]=>some true
 | k :: ks,x :: xs,y :: ys =>
  if wj x y then
   match eqS k x y,eqL ks xs ys with
   | some a,some b=>some (a && b)
   | _,_=>none
  else none
 | _,_,_=>none
def fu (P:Program) (T:Nat):Option Nat :=
 match P.underlying T with
 | some (.int _)=>some 0
 | some .bool=>some 1
 | some .string=>some 2
 | _=>none
section
variable {P:Program}
theorem px {d T k:Nat} (hk:fu P T=some k) {x y:Value} {b:Bool} (hs:wj x y=true) (h:eqS k x y=some b) (w:World):(Op.equalIn (d+1) T x y).run P w=.ok b w:=by
 unfold fu at hk;cases hu:P.underlying T with
 | none=>simp[hu] at hk
 | some u =>
  cases u<;>simp[hu] at hk<;>subst hk<;>cases x<;>cases y<;>simp[eqS] at h
  ·subst h;simp[Op.equalIn,run_underlying hu]
  ·subst h;simp[wj] at hs;subst hs;simp[Op.equalIn,run_underlying hu];rfl
  subst h;simp[Op.equalIn,run_underlying hu,beq_toListBytes]
theorem sJ {T k:Nat} (hk:fu P T=some k) {cs:List Value} {off:Nat} {v:Value} (hv:cs[off]?=some v) (w:World):(part T cs.toArray off).run P w=.ok v w:=by
 unfold fu at hk;cases hu:P.underlying T with
 | none=>simp[hu] at hk
 | some u =>
  have ha:(isAgg T).run P w=.ok false w:=by
   unfold isAgg;rw[Sem.run_bind,run_underlying hu w];cases u<;>simp[hu] at hk<;>rfl
  simp[part,Sem.run_bind,ha,hv]
theorem lG {d:Nat}:∀(fs:List Field) (i:Nat) (ks:List Nat) (xs ys:List Value) (b:Bool),(fs.zipIdx i).map (fun p=>if p.1.name != "_" && p.1.offset == p.2 then fu P p.1.type else none)=ks.map some →
    eqL ks (xs.drop i) (ys.drop i)=some b→∀w,(Op.eqFields (d+1) xs.toArray ys.toArray fs).run P w=.ok b w
  | [],i,ks,xs,ys,b,hf,h,w=>by
    cases ks with
    | cons k ks=>simp at hf
    | nil =>
      simp only[Op.eqFields];cases hx:xs.drop i<;>cases hy:ys.drop i<;>simp[hx,hy,eqL] at h;subst h;rfl
  | f :: fs,i,ks,xs,ys,b,hf,h,w=>by
    cases ks with
    | nil=>simp at hf
    | cons k ks =>
      simp only[List.zipIdx_cons,List.map_cons,List.cons.injEq] at hf;obtain⟨h1,h2⟩:=hf;split at h1
      · rename_i hc;simp only[Bool.and_eq_true,bne_iff_ne,ne_eq,beq_iff_eq] at hc;cases hx:xs.drop i with
        | nil=>simp[hx,eqL] at h
        | cons x xr =>
          cases hy:ys.drop i with
          | nil=>simp[hx,hy,eqL] at h
          | cons y yr =>
            simp only[hx,hy,eqL] at h;split at h
            · rename_i hsk;cases ha:eqS k x y with
              | none=>simp[ha] at h
              | some a =>
                cases hb:eqL ks xr yr with
                | none=>simp[ha,hb] at h
                | some c =>
                  simp only[ha,hb,Option.some.injEq] at h
                  have hxi : xs[i]? = some x := by have:(xs.drop i)[0]?=some x:=by rw[hx];rfl
                                                   simpa using this
                  have hyi : ys[i]? = some y := by have:(ys.drop i)[0]?=some y:=by rw[hy];rfl
                                                   simpa using this
                  have hxr:xs.drop (i+1)=xr:=by rw[←List.tail_drop,hx];rfl
                  have hyr:ys.drop (i+1)=yr:=by rw[←List.tail_drop,hy];rfl
                  have ih:=lG (d:=d) fs (i+1) ks xs ys c h2 (by rw[hxr,hyr];exact hb) w;have hne:f.name ≠ "_" := hc.1;rw[←hc.2] at hxi hyi;simp only[Op.eqFields,ne_eq,hne,not_false_eq_true,if_true,Sem.run_bind,sJ h1 hxi w,sJ h1 hyi w,Result.andThen_ok,px h1 hsk ha w];subst h;cases a
                  · simp
                  · simp[ih]
            · cases h
      · simp at h1
end
class EqT (P:Program) (T:Nat) (ks:outParam (List Nat)):Prop where
 und:P.underlying T=some (.struct (P.fieldsOf T))
 held:P.stoodInHeld T=false
 grd:P.eqGuardType P.depth T=false
 fld:((P.fieldsOf T).toList.zipIdx 0).map (fun p=>if p.1.name != "_" && p.1.offset == p.2 then fu P p.1.type else none)=ks.map some
section
variable {P:Program} {κ:Cx} {e:Env} {L:List Res} {d:Tmp} {ty:TypeId} {s:String} {af:Array Edge} {gd:Option (Nat × Bool)}
theorem pz {T T' : Nat} {x y:Operand} {cs ds:List Value} {ks:List Nat} {b:Bool} [h:EqT P T ks] (hx:ev e x=some (.agg cs.toArray)) (hy:ev e y=some (.agg ds.toArray)) (hb:eqL ks cs ds=some b) :
  cf P κ e L ⟨some d,.binOp .eql T x y T',ty,s,af,gd⟩ (.bool b):=fun a w he _=>by
 have hr:=lG (P:=P) (d:=9998) (P.fieldsOf T).toList 0 ks cs ds b h.fld (by simpa using hb) w;simp only[execOp,Sem.run_bind,he.ev hx,he.ev hy,run_eqGuard_agg w .eql T x y _ _ h.grd,Result.andThen_ok,run_eql_struct,run_equalIn_agg w 9999 T _ _ h.und h.held,hr,Sem.run_pure]
theorem yn {T T' : Nat} {x y:Operand} {cs ds:List Value} {ks:List Nat} {b:Bool} [h:EqT P T ks] (hx:ev e x=some (.agg cs.toArray)) (hy:ev e y=some (.agg ds.toArray)) (hb:eqL ks cs ds=some b) :
  cf P κ e L ⟨some d,.binOp .neq T x y T',ty,s,af,gd⟩ (.bool (!b)):=fun a w he _=>by
 have hr:=lG (P:=P) (d:=9998) (P.fieldsOf T).toList 0 ks cs ds b h.fld (by simpa using hb) w;simp only[execOp,Sem.run_bind,he.ev hx,he.ev hy,run_eqGuard_agg w .neq T x y _ _ h.grd,Result.andThen_ok,run_neq_struct,run_equalIn_agg w 9999 T _ _ h.und h.held,hr,Sem.run_pure]
end
end Go.Eg
namespace Go.Eg
open Go.RowKit Go.ChangeShapes Go.WideShapes Go.ChangeAt
def OKc (P:Program) (w:World):Nat→TypeId→List Value→Prop
 | 0,_,_=>False
 | f+1,T,cs =>
  match P.underlying T with
  | some .bool=>∃b,cs=[.bool b]
  | some (.int k)=>∃n,cs=[.int k n]∧(Lit.int k n).wf=true
  | some .string=>∃s:ByteArray,cs=[.string s]∧s.size≤maxLen
  | some (.slice e)=>∃A n cap els,cs=[.slice A n cap]∧n≤cap∧cap≤maxLen∧(0<P.cellsOf e→Old w A n (P.cellsOf e) els)∧n=els.length∧(∀c∈els,c.length=P.cellsOf e)∧∀c∈els,OKc P w f e c
  | some (.struct fs)=>cs.length=P.cellsOf T∧∀x∈fs.toList,OKc P w f x.type ((cs.drop x.offset).take (P.cellsOf x.type))
  | some (.array n e)=>cs.length=P.cellsOf T∧∀i,i<n→OKc P w f e ((cs.drop (i*P.cellsOf e)).take (P.cellsOf e))
  | _=>True
theorem rP {H:Type} {enc:TypeId × Value→H} {P:Program} {w:World} {spare:Nat→Bool} {held:Bool}:∀(fuel:Nat) (T:TypeId) (cs:List Value) (x:DataW H × List MemPlace),DataW.trod enc P w 0 spare held fuel T cs=some x→OKc P w fuel T cs
 | 0,T,cs,x,h=>by simp[DataW.trod] at h
 | fuel+1,T,cs,x,h=>by
  unfold OKc;cases hu:P.underlying T with
  | none=>trivial
  | some d =>
   cases d with
   | bool=>obtain⟨b,hb,_⟩:=DataW.trod_bool hu h;exact⟨b,hb⟩
   | int k=>obtain⟨n,hn,_,hw⟩:=DataW.trod_int hu h;exact⟨n,hn,hw⟩
   | string=>obtain⟨s,hs,_,hl⟩:=DataW.trod_string hu h;exact⟨s,hs,hl⟩
   | slice e =>
    rcases DataW.trod_slice hu h with⟨rfl,_⟩|⟨a,len,cap,elems,rest,n,hf,rfl,_,_,hle,hm,hlen,hel,_⟩
    ·exact⟨none,0,0,[],rfl,Nat.le_refl _,by simp,fun _=>⟨rfl,by simp,fun h=>absurd h aK⟩,rfl,by simp,by simp⟩
    have hf' : n=fuel:=by omega
    subst hf';have key:∀i,i<len→∃c,w.cells? 0 (a.add (i*P.cellsOf e)) (P.cellsOf e)=some c∧∃y,DataW.trod enc P w 0 spare held n e c=some y:=fun i hi=>by
     have h1:=hel i hi;rw[List.getElem?_eq_getElem aK] at h1;obtain⟨c,h2,h3⟩:=Option.bind_eq_some_iff.1 h1;exact⟨c,h2,_,h3⟩
    obtain⟨F,hF⟩:∃F:Nat→List Value,∀i,i<len→w.cells? 0 (a.add (i*P.cellsOf e)) (P.cellsOf e)=some (F i)∧∃y,DataW.trod enc P w 0 spare held n e (F i)=some y:=by
     refine⟨fun i=>(w.cells? 0 (a.add (i*P.cellsOf e)) (P.cellsOf e)).getD [],fun i hi=>?_⟩;obtain⟨c,h1,h2⟩:=key i hi;exact⟨by simp only[h1,Option.getD_some],by simpa only[h1,Option.getD_some] using h2⟩
    have hcat:∀c∈(List.range len).map F,c.length=P.cellsOf e:=fun c hc=>by
     obtain⟨i,hi,rfl⟩:=List.mem_map.1 hc;exact(World.cells?_some (hF i (List.mem_range.1 hi)).1).2.1
    refine⟨some a,len,cap,(List.range len).map F,rfl,hle,hm,fun hk=>⟨by simp,hcat,fun hn=>?_⟩,by simp,hcat,fun c hc=>?_⟩
    ·have hcell:∀i o,i<len→o<P.cellsOf e→w.cell? ((a.add (i*P.cellsOf e)).add o)=(F i)[o]?:=fun i o hi ho=>(World.cells?_some (hF i hi).1).2.2 o ho;have hlenF:∀i,i<len→(F i).length=P.cellsOf e:=fun i hi=>(World.cells?_some (hF i hi).1).2.1;have hspot:a.spot=none:=by
      have h0:=hcell 0 0 hn hk;rw[List.getElem?_eq_getElem (by rw[hlenF 0 hn];exact hk)] at h0;have:=World.cell?_spot h0;simpa[Addr.add] using this
     obtain⟨b,o,s⟩:=a;simp only at hspot;subst hspot;refine⟨rfl,fun j u hu=>?_⟩;have hjl:j<len*P.cellsOf e:=by
      have:j<(((List.range len).map F).flatten).length:=by
       rcases Nat.lt_or_ge j (((List.range len).map F).flatten).length with h|h
       ·exact h
       rw[List.getElem?_eq_none h] at hu;cases hu
      rw[xG hcat] at this;simpa using this
     have hi:j/P.cellsOf e<len:=by rw[Nat.div_lt_iff_lt_mul hk];exact hjl
     have ho:j%P.cellsOf e<P.cellsOf e:=Nat.mod_lt _ hk;have hj:j/P.cellsOf e*P.cellsOf e+j%P.cellsOf e=j:=by rw[Nat.mul_comm];exact Nat.div_add_mod _ _
     obtain⟨v,hv⟩:∃v,(F (j/P.cellsOf e))[j%P.cellsOf e]?=some v:=⟨_,List.getElem?_eq_getElem (by rw[hlenF _ hi];exact ho)⟩
     have hg:=tZ hcat (i:=j/P.cellsOf e) (o:=j%P.cellsOf e) (cs:=F (j/P.cellsOf e)) (v:=v) (by simp[hi]) hv;rw[hj] at hg;rw[hg] at hu;have h1:=hcell _ _ hi ho;rw[yY,yY,Nat.add_assoc,hj] at h1;simp only[sS,sI];rw[h1,hv];exact hu
    obtain⟨i,hi,rfl⟩:=List.mem_map.1 hc;obtain⟨_,y,hy⟩:=hF i (List.mem_range.1 hi);exact rP n e _ y hy
   | struct fs =>
    obtain⟨xs,n,hf,_,hl,hlen,hx⟩:=DataW.trod_struct hu h;have hf' : n=fuel:=by omega
    subst hf';refine⟨hl,fun f hf=>?_⟩;obtain⟨i,hi,rfl⟩:=List.getElem_of_mem hf;have hi' : i<fs.size:=by simpa using hi
    have h1:=hx i fs[i] (Array.getElem?_eq_getElem hi');rw[List.getElem?_eq_getElem aK] at h1;simpa using rP n _ _ _ h1
   | array m e =>
    obtain⟨xs,n,hf,_,hl,hlen,hx⟩:=DataW.trod_array hu h;have hf' : n=fuel:=by omega
    subst hf';refine⟨hl,fun i hi=>?_⟩;have h1:=hx i hi;rw[List.getElem?_eq_getElem aK] at h1;exact rP n _ _ _ h1
   | _=>trivial
def Arg (P:Program) (w:World) (T:TypeId) (v:Value):Prop:=(∃fuel,OKc P w fuel T v.cells.toList)∧match P.underlying T with|some (.struct _)|some (.array _ _)=>∃cs:List Value,v=.agg cs.toArray∧v.cells.toList=cs|some .bool|some (.int _)|some .string|some (.slice _)=>v.cells.toList=[v]|_=>True
theorem Arg.of {H:Type} {enc:TypeId × Value→H} {P:Program} {w:World} {spare:Nat→Bool} {held:Bool} {T:TypeId} {v:Value} {d:DataW H} {ps:List MemPlace} {r:Reach} {b:Nat} (h:DataW.Trod enc P w 0 spare held T v d ps) (hv:Value.okWide P w r b T v):Arg P w T v:=by
 obtain⟨fuel,hf⟩:=h;have ho:=rP fuel T _ _ hf;refine⟨⟨fuel,ho⟩,?_⟩;cases hu:P.underlying T with
 | none=>trivial
 | some u =>
  cases u<;>simp only
  case bool=>obtain⟨b,rfl⟩:=okWide_bool hu hv;rfl
  case int k=>obtain⟨b,rfl⟩:=okWide_int hu hv;rfl
  case string=>obtain⟨b,rfl⟩:=okWide_string hu hv;rfl
  case slice e=>obtain⟨a,b,c,rfl⟩:=okWide_slice hu hv;rfl
  case struct fs =>
   obtain⟨cs,rfl,_⟩:=okWide_struct hu hv;exact⟨cs.toList,by simp,rfl⟩
  case array n e =>
   unfold Value.okWide at hv;rw[hu] at hv;obtain⟨cs,rfl,_⟩:=hv;exact⟨cs.toList,by simp,rfl⟩
theorem Ce {k:IntKind} {n:Int} (h:(Lit.int k n).wf=true):k.min≤n∧n≤k.max:=by simpa[Lit.wf] using h
section
variable {P:Program} {w:World} {f T:Nat} {cs:List Value}
theorem OKc.int {k:IntKind} (hu:P.underlying T=some (.int k)) (h:OKc P w f T cs):∃n,cs=[.int k n]∧k.min≤n∧n≤k.max:=by
 cases f with
 | zero=>exact h.elim
 | succ f=>unfold OKc at h;rw[hu] at h;obtain⟨n,h1,h2⟩:=h;exact⟨n,h1,Ce h2⟩
theorem OKc.struct {fs:Array Field} (hu:P.underlying T=some (.struct fs)) (h:OKc P w f T cs):∃f',cs.length=P.cellsOf T∧∀x∈fs.toList,OKc P w f' x.type ((cs.drop x.offset).take (P.cellsOf x.type)):=by
 cases f with
 | zero=>exact h.elim
 | succ f=>unfold OKc at h;rw[hu] at h;exact⟨f,h⟩
theorem OKc.slice {e k:Nat} {α:Type} (c:α→List Value) (ok:α→Prop) (hu:P.underlying T=some (.slice e)) (hk:P.cellsOf e=k) (hkp:0<k) (he:∀f cs,OKc P w f e cs→∃x,cs=c x∧ok x) (h:OKc P w f T cs) :
  ∃A cap,∃l:List α,cs=[.slice A l.length cap]∧l.length≤cap∧cap≤maxLen∧Old w A l.length k (l.map c)∧∀x∈l,ok x:=by
 cases f with
 | zero=>exact h.elim
 | succ f =>
  unfold OKc at h;rw[hu] at h;obtain⟨A,n,cap,els,rfl,hle,hm,hold,hn,hcat,hels⟩:=h;obtain⟨l,hl,hok⟩:∃l:List α,els=l.map c∧∀x∈l,ok x:=by
   clear hold hn hcat
   induction els with
   | nil=>exact⟨[],rfl,by simp⟩
   | cons a r ih =>
    obtain⟨l,hl,hok⟩:=ih (fun b hb=>hels b (by simp[hb]));obtain⟨x,hx,hxo⟩:=he f a (hels a aM);exact⟨x :: l,by simp[hx,hl],by simpa using⟨hxo,hok⟩⟩
  subst hl;have hn' : n=l.length:=by simpa using hn
  subst hn';subst hk;exact⟨A,cap,l,rfl,hle,hm,hold hkp,hok⟩
theorem Arg.agg {v:Value} {fs:Array Field} (hu:P.underlying T=some (.struct fs)) (h:Arg P w T v):∃cs:List Value,v=.agg cs.toArray∧∃f,OKc P w f T cs:=by
 obtain⟨⟨f,ho⟩,hs⟩:=h;rw[hu] at hs;obtain⟨cs,hv,hc⟩:=hs;rw[hc] at ho;exact⟨cs,hv,f,ho⟩
theorem Arg.slice {v:Value} {e k:Nat} {α:Type} (c:α→List Value) (ok:α→Prop) (hu:P.underlying T=some (.slice e)) (hk:P.cellsOf e=k) (hkp:0<k) (he:∀f cs,OKc P w f e cs→∃x,cs=c x∧ok x) (h:Arg P w T v) :
  ∃A cap,∃l:List α,v=.slice A l.length cap∧l.length≤cap∧cap≤maxLen∧Old w A l.length k (l.map c)∧∀x∈l,ok x:=by
 obtain⟨⟨f,ho⟩,hs⟩:=h;rw[hu] at hs;simp only at hs;rw[hs] at ho;obtain⟨A,cap,l,h1,h2⟩:=OKc.slice c ok hu hk hkp he ho;exact⟨A,cap,l,by simpa using h1,h2⟩
end
end Go.Eg
namespace Go.Eg
open Go.RowKit
variable {P:Program} {κ:Cx} {e:Env} {L:List Res} {X:Act→World→Prop} {Q:Exit→Act→World→Prop} {d:Tmp} {ty:TypeId} {s:String} {af:Array Edge} {gd:Option (Nat × Bool)}
theorem uY {f:FuncId} {x:Operand} {xs:List Operand} {vs:List Value} {ts:Array TypeId} {v:Value} [hb:HasB P f] (hx:ev e x=some (.func (.func f) #[] #[])) (hxs:xs.map (ev e)=vs.map some) (hf:∀w,WOK κ.S κ.w0 L w→Pur P f vs w v) (hd:Nat.blt d κ.N=true) (h:G κ ((d,v) :: e) L X) :
  G κ e L (owp κ.ρ P ⟨some d,.call { callee:=.value x,args:=xs.toArray,argTypes:=ts },ty,s,af,gd⟩ Q X) :=
 qx (fst:=[]) (cap:=[]) hx hxs hd (fun _ _=>True) fun w hw=>by
  rw[List.nil_append,List.append_nil];exact(hf w hw).mono fun u w' ⟨hu,hup⟩=>by
   subst hu;exact⟨trivial,L,hw.more hup,h⟩
end Go.Eg
namespace Go.Eg
open Go.RowKit
variable {P:Program} {κ:Cx} {e:Env} {L:List Res} {X:Act→World→Prop} {Q:Exit→Act→World→Prop} {d:Tmp} {ty:TypeId} {s:String} {af:Array Edge} {gd:Option (Nat × Bool)}
theorem sR {w:World} {k:IntKind} {i y:Nat} {code:BoundsCode} (h:i≤y):(Instr.sliceBound (.int k (i:Int)) y code).run P w=.ok i w:=by
 rw[run_sliceBound w k i y code aK aK];simp
theorem xC {T E k n cap h:Nat} {kd:IntKind} {z:Int} {A:Option Addr} {x y:Operand} [ht:Slc P T E k] (hx:ev e x=some (.slice A n cap)) (hy:ev e y=some (.int kd z)) (hz:z=(h:Int)) (hh:h≤cap) :
  cf P κ e L ⟨some d,.slice T x none (some y) none,ty,s,af,gd⟩ (.slice (cz A cap 0 k) h cap):=fun a w he _=>by
 obtain⟨f,hf,rfl⟩:=Option.map_eq_some_iff.1 ht.siz;subst hz;simp[execOp,he.ev hx,he.ev hy,Instr.sliceAt,Instr.slice,Instr.sliceBounds,Sem.run_bind,run_underlying ht.und,sizeOf,typeInfo,hf,sR hh,cz]
theorem xB {T E k n cap l:Nat} {kd:IntKind} {z:Int} {A:Option Addr} {x y:Operand} [ht:Slc P T E k] (hx:ev e x=some (.slice A n cap)) (hy:ev e y=some (.int kd z)) (hz:z=(l:Int)) (hl:l≤n) :
  cf P κ e L ⟨some d,.slice T x (some y) none none,ty,s,af,gd⟩ (.slice (cz A cap l k) (n-l) (cap-l)):=fun a w he _=>by
 obtain⟨f,hf,rfl⟩:=Option.map_eq_some_iff.1 ht.siz;subst hz;simp[execOp,he.ev hx,he.ev hy,Instr.sliceAt,Instr.slice,Instr.sliceBounds,Sem.run_bind,run_underlying ht.und,sizeOf,typeInfo,hf,sR hl,cz]
theorem rE {T E k n cap l h:Nat} {kd kd' : IntKind} {z z' : Int} {A:Option Addr} {x y y' : Operand} [ht:Slc P T E k] (hx:ev e x=some (.slice A n cap)) (hy:ev e y=some (.int kd z)) (hy' : ev e y' = some (.int kd' z')) (hz:z=(l:Int)) (hz' : z' = (h:Int)) (hl:l≤h) (hh:h≤cap) :
  cf P κ e L ⟨some d,.slice T x (some y) (some y') none,ty,s,af,gd⟩ (.slice (cz A cap l k) (h-l) (cap-l)):=fun a w he _=>by
 obtain⟨f,hf,rfl⟩:=Option.map_eq_some_iff.1 ht.siz;subst hz;subst hz';simp[execOp,he.ev hx,he.ev hy,he.ev hy',Instr.sliceAt,Instr.slice,Instr.sliceBounds,Sem.run_bind,run_underlying ht.und,sizeOf,typeInfo,hf,sR hl,sR hh,cz]
theorem xL {t T k:Nat} {A:Option Addr} (h0:look e t=some (.slice A 0 0)) (h:∀B cap,cap=0→G κ ((t,.slice B 0 cap) :: e) (.row B 0 cap T k [] :: L) X):G κ e L X:=fun a w hs=>by
 refine h A 0 rfl a w ⟨hs.defers,hs.size,fun k v hk=>?_,hs.wok.cons (Upd.refl _ _) _ ⟨rfl,by simp,.inl ⟨rfl,rfl⟩⟩ (by simp[Res.row])⟩;simp only[look] at hk;by_cases h:t=k
 ·subst h;simp at hk;subst hk;exact hs.env t _ h0
 rw[if_neg h] at hk;exact hs.env k v hk
end Go.Eg
namespace Go.Eg
open Go.RowKit
theorem vU:∀(vs c:List Value) (off m:Nat),off+vs.length≤m→(ay c off vs).take m=ay (c.take m) off vs
 | [],_,_,_,_=>rfl
 | v :: vs,c,off,m,h=>by
  simp only[List.length_cons] at h;simp only[ay];rw[vU vs (c.set off v) (off+1) m aK,List.take_set]
theorem kG {k:Nat}:∀(els:List (List Value)) (i o:Nat) (v:Value) (cs:List Value),(∀c∈els,c.length=k)→els[i]?=some cs→o<k→els.flatten.set (i*k+o) v=(els.set i (cs.set o v)).flatten
 | [],i,o,v,cs,_,h,_=>by simp at h
 | c :: els,0,o,v,cs,hk,h,ho=>by
  have hc:=hk c aM;simp at h;subst h;simp only[List.flatten_cons,Nat.zero_mul,Nat.zero_add,List.set_cons_zero];rw[List.set_append_left _ _ aK]
 | c :: els,i+1,o,v,cs,hk,h,ho=>by
  have hc:=hk c aM;have e:(i+1)*k+o-c.length=i*k+o:=by rw[hc,Nat.succ_mul];omega
  have hge:c.length≤(i+1)*k+o:=by rw[hc,Nat.succ_mul];omega
  simp only[List.flatten_cons,List.set_cons_succ];rw[List.set_append_right _ _ hge,e,kG els i o v cs (fun c' hc' => hk c' (by simp[hc'])) (by simpa using h) ho]
theorem pX {k:Nat}:∀(vs:List Value) (els:List (List Value)) (i o:Nat) (cs:List Value),(∀c∈els,c.length=k)→els[i]?=some cs→o+vs.length≤k→ay els.flatten (i*k+o) vs=(els.set i (ay cs o vs)).flatten
 | [],els,i,o,cs,hk,h,ho=>by
  simp only[ay];have hlt:i<els.length:=(List.getElem?_eq_some_iff.1 h).1;have e:els.set i cs=els:=by
   apply List.ext_getElem?;intro j;rw[List.getElem?_set];split
   ·rename_i hj;subst hj;first|(rw[if_pos hlt];exact h.symm)|exact h.symm|simp_all
   rfl
  rw[e]
 | v :: vs,els,i,o,cs,hk,h,ho=>by
  simp only[List.length_cons] at ho;have hlt:i<els.length:=(List.getElem?_eq_some_iff.1 h).1;have hcs:cs.length=k:=hk cs (List.mem_of_getElem? h);simp only[ay];rw[kG els i o v cs hk h aK,Nat.add_assoc,pX vs (els.set i (cs.set o v)) i (o+1) (cs.set o v) (fun c hc=>by
   rcases List.mem_or_eq_of_mem_set hc with h1|h1
   ·exact hk c h1
   rw[h1];simpa using hcs) (by simp[hlt]) aK,List.set_set]
section
variable {P:Program} {κ:Cx} {e:Env} {L:List Res} {X:Act→World→Prop} {Q:Exit→Act→World→Prop} {d:Tmp} {ty:TypeId} {s:String} {af:Array Edge} {gd:Option (Nat × Bool)}
theorem yD {T n cap E k m i o off:Nat} {A:Option Addr} {els:List (List Value)} {x y:Operand} {v:Value} {cs vs cs' : List Value} {L' : List Res} {g:Bool} [ht:Ty P T g n] (hx:ev e x=some (.pointer (some ⟨bo A,off,none⟩))) (hy:ev e y=some v)
  (hv:v.cells=vs.toArray) (hn:vs.length=n) (h1:vs.all Value.oneCell' = true) [_hi:InRow L A m cap E k els] (hi:els[i]?=some cs) (hle:o+n≤k) (hoff:off=oo A+i*k+o) (hc:ay cs o vs=cs') [hL:UpRow L A m cap E k els (.row A m cap E k (els.set i cs')) L']
  (h:G κ e L' X):G κ e L (owp κ.ρ P ⟨none,.store T x y,ty,s,af,gd⟩ Q X):=fun a w hs=>by
 obtain⟨j,hj,rfl⟩:=hL.at_;subst hc;subst hn;obtain⟨hlen,hcat,hr⟩:=hs.wok.sat j _ hj;have hlt:i<els.length:=(List.getElem?_eq_some_iff.1 hi).1;have hcs:cs.length=k:=hcat cs (List.mem_of_getElem? hi);rcases hr with⟨h0,_⟩|⟨b,cur,rfl,hg,hmc,hcm,hsz,htk⟩
 ·omega
 have hik:(i+1)*k≤m*k:=Nat.mul_le_mul_right _ aK;have hmk:m*k≤cap*k:=Nat.mul_le_mul_right _ hmc;rw[Nat.succ_mul] at hik;have hcap:¬cap=0:=by omega
 have hoff' : off=i*k+o:=by simpa[oo] using hoff
 subst hoff';obtain⟨w',hrun,hu,hs'⟩:=xO (P:=P) (T:=E) vs cur.toList (i*k+o) 0 w (List.all_eq_true.1 h1) aV (by simpa[Res.blk] using hg);have hsat:(Res.row (some ⟨b,0,none⟩) m cap E k (els.set i (ay cs o vs))).sat w' := by
  refine⟨by simp[hlen],fun c hc=>?_,.inr ⟨b,_,rfl,hs',hmc,hcm,by simp[wU,hsz],?_⟩⟩
  ·rcases List.mem_or_eq_of_mem_set hc with h2|h2
   ·exact hcat c h2
   rw[h2,wU];exact hcs
  simp only[Nat.add_zero];rw[vU _ _ _ _ aK,htk,pX vs els i o cs hcat hi aK]
 have hw:=hs.wok.change hj (.row (some ⟨b,0,none⟩) m cap E k (els.set i (ay cs o vs))) (by simpa[Res.row,hcap] using hu) hsat (fun q hq=>.inl hq)
 have he:(execOp a.eval ⟨none,.store T x y,ty,s,af,gd⟩).run P w=.ok .skip w' := by
  have hx' := hs.env.ev hx;simp only[bo,Option.getD_some] at hx';simp[execOp,hx',hs.env.ev hy,Instr.storeAt,Instr.sureAddr,storeVar,ht.size w,hv,hrun]
 exact qF he (h _ _ ⟨hs.defers,hs.size,hs.env,hw⟩)
theorem jf (z:List Value) (n k:Nat) (hzk:z.length=k):(madeCells z.toArray (n*k)).toList=(List.replicate n z).flatten:=by
 subst hzk;have hr:(madeCells z.toArray (n*z.length))=(List.replicate n z).flatten.toArray:=by
  apply Array.ext
  ·simp[madeCells]
  intro j h1 h2;simp[madeCells] at h1;have hk:0<z.length:=Nat.pos_of_ne_zero fun h=>by rw[h] at h1;simp at h1
  have hq:j/z.length<n:=by rw[Nat.div_lt_iff_lt_mul hk];exact h1
  have hr:j%z.length<z.length:=Nat.mod_lt _ hk;have hg:=tZ (els:=List.replicate n z) (k:=z.length) (fun c hc=>by rw[List.eq_of_mem_replicate hc]) (i:=j/z.length) (o:=j%z.length) (cs:=z) (v:=z[j%z.length]) (by rw[List.getElem?_replicate];simp[hq]) (List.getElem?_eq_getElem _);have ej:j/z.length*z.length+j%z.length=j:=by rw[Nat.mul_comm];exact Nat.div_add_mod _ _
  rw[ej] at hg;have h3:=(List.getElem?_eq_some_iff.1 hg).2;simp[madeCells,h3];rw[List.getElem?_eq_getElem hr];rfl
 rw[hr]
theorem pD {T E k bt n:Nat} {kd kd' : IntKind} {x y:Operand} {a b:Int} {zc:List Value} [hs:SlcF P T E k bt] [hz:Zr P E zc] (hx:ev e x=some (.int kd a)) (hy:ev e y=some (.int kd' b)) (ha:a=(n:Int)) (hb:b=(n:Int)) (hn:bt*n≤281474976710656) (hd:Nat.blt d κ.N=true)
  (h:∀g,G κ ((d,.slice (some ⟨g,0,none⟩) n n) :: e) (.row (some ⟨g,0,none⟩) n n E k (List.replicate n zc) :: L) X) :
  G κ e L (owp κ.ρ P ⟨some d,.makeSlice T x y,ty,s,af,gd⟩ Q X):=G.loud hd fun ac w hst=>by
 obtain⟨i,z,hi,hz0,hsz,hby,hzs,hk,hbp⟩:=hs.get;obtain⟨v,hv,hcells⟩:=hz.run w;have hvz:v=z:=by
  have:(zeroValue E).run P w=.ok z w:=by simp[zeroValue,typeInfo,hi,hz0]
  rw[this] at hv;injection hv with h1 _;exact h1.symm
 subst hvz;subst ha;subst hb;have hzl:zc.length=k:=by rw[hcells] at hzs;simpa using hzs
 have hnm:n≤281474976710656:=Nat.le_trans (Nat.le_mul_of_pos_left _ hbp) hn;have hb' : (i.bytes:Int)*(n:Int)≤281474976710656:=by
  have h:((i.bytes*n:Nat):Int)≤281474976710656:=by rw[hby];omega
  rwa [Int.natCast_mul] at h
 have hr:=run_make (P:=P) w T E i v hs.und hi hz0 kd kd' n n aK (Int.le_refl _) hb' aK;simp only[Int.toNat_natCast] at hr;refine⟨.slice (some ⟨w.heap.size,0,none⟩) n n,w.alloc (.cells (madeCells v.cells (n*i.size)) E),.row (some ⟨w.heap.size,0,none⟩) n n E k (List.replicate n zc) :: L,?_,hst.wok.cons (Upd.alloc w _) _ ?_ ?_,h _⟩
 ·simp[execOp,hst.env.ev hx,hst.env.ev hy,hr]
 ·have hrep:=jf zc n k hzl;rw[hcells,hsz];refine⟨by simp,fun c hc=>by rw[List.eq_of_mem_replicate hc];exact hzl,.inr ⟨w.heap.size,_,rfl,heap_alloc_new w _,Nat.le_refl _,by unfold maxLen;omega,by simp[madeCells],?_⟩⟩;rw[hrep];rw[List.take_of_length_le];rw[xG (k:=k) (fun c hc=>by rw[List.eq_of_mem_replicate hc];exact hzl)];simp
 intro q hq;simp only[Res.row] at hq;split at hq
 ·simp at hq
 simp at hq;omega
end
end Go.Eg
namespace Go.Eg
open Go.RowKit
theorem hZ:∀(vs p c q:List Value),c.length=vs.length→ay (p++c++q) p.length vs=p++vs++q
 | [],p,c,q,h=>by
  have:c=[]:=List.eq_nil_of_length_eq_zero h;subst this;simp[ay]
 | v :: vs,p,c,q,h=>by
  cases c with
  | nil=>simp at h
  | cons u c =>
   simp only[ay];have e:(p++(u :: c)++q).set p.length v=(p++[v])++c++q:=by simp
   rw[e];have:=hZ vs (p++[v]) c q (by simpa using h);simp only[List.length_append,List.length_singleton] at this;rw[this];simp
theorem nA {k:Nat} {els news:List (List Value)} {l:Nat} (hk:∀c∈els,c.length=k) (hk' : ∀c∈news,c.length=k) (hl:l+news.length≤els.length) :
  ay els.flatten (l*k) news.flatten=(els.take l++news++els.drop (l+news.length)).flatten:=by
 have e:els.flatten=(els.take l).flatten++((els.drop l).take news.length).flatten++(els.drop (l+news.length)).flatten:=by
  rw[←List.flatten_append,←List.flatten_append]
  congr 1
  rw[List.append_assoc,←List.drop_drop,List.take_append_drop,List.take_append_drop]
 have h1:(els.take l).flatten.length=l*k:=by
  rw[xG fun c hc=>hk c (List.mem_of_mem_take hc),List.length_take,Nat.min_eq_left aK]
 have h2:((els.drop l).take news.length).flatten.length=news.flatten.length:=by
  rw[xG fun c hc=>hk c (List.mem_of_mem_drop (List.mem_of_mem_take hc)),xG hk',List.length_take,List.length_drop,Nat.min_eq_left aK]
 rw[e,←h1,hZ _ _ _ _ h2,List.flatten_append,List.flatten_append]
section
variable {P:Program} {κ:Cx} {e:Env} {L:List Res} {X:Act→World→Prop} {Q:Exit→Act→World→Prop} {d:Tmp} {ty:TypeId} {s:String} {af:Array Edge} {gd:Option (Nat × Bool)}
theorem kX {T T' E k bt:Nat} (hs:SlcF P T E k bt) (w:World) (D B:Option Addr) (dl dc m mc:Nat) (cs:List Value) (hlen:cs.length=min m dl*k)
  (hsrc:0<min m dl→∃ad,B=some ad∧∀j u,cs[j]?=some u→w.cell? (ad.add j)=some u) (hz:min m dl=0→cs=[]) :
  (Builtin.copy_ #[T,T'] ty #[.slice D dl dc,.slice B m mc]).run P w=match D with|some a=>((storeCells a cs).run P w).andThen fun _ w=>.ok (.int .i64 ((min m dl:Nat):Int)) w|none=>.ok (.int .i64 ((min m dl:Nat):Int)) w:=by
 obtain⟨i,z,hi,hz0,hsz,_⟩:=hs.get;have hfc:(Builtin.firstCells k (Nat.min m dl) (.slice B m mc)).run P w=.ok cs.toArray w:=by
  rcases Nat.eq_zero_or_pos (min m dl) with h0|h0
  ·have hcs:=hz h0;subst hcs;have h0' : Nat.min m dl=0:=h0;cases B with
   | none=>simp[Builtin.firstCells]
   | some a=>rw[h0'];simp[Builtin.firstCells,loadCells,loadCellsFrom]
  obtain⟨ad,rfl,hc⟩:=hsrc h0;have hl:=run_loadCells_list (P:=P) w ad cs hc;rw[hlen] at hl;exact hl
 cases D<;>simp[Builtin.copy_,run_underlying hs.und,Builtin.lenOf,sizeOf,typeInfo,hi,hsz,hfc,goInt]
end
section
variable {P:Program} {κ:Cx} {e:Env} {L:List Res} {X:Act→World→Prop} {Q:Exit→Act→World→Prop} {d:Tmp} {ty:TypeId} {s:String} {af:Array Edge} {gd:Option (Nat × Bool)}
theorem tY {T T' E k bt n cap l dl dc m mc:Nat} {A D B:Option Addr} {x y:Operand} {els news:List (List Value)} {L' : List Res} [hs:SlcF P T E k bt] (hx:ev e x=some (.slice D dl dc)) (hy:ev e y=some (.slice B m mc)) [_hi:InRow L A n cap E k els]
  (hD:0<min m dl→D=some ⟨bo A,oo A+l*k,none⟩) (hr:Rdb κ L B m k news) (hl:l+min m dl≤n) (h1:∀c∈news,∀u∈c,u.oneCell' = true) (hd:Nat.blt d κ.N=true)
  [hL:UpRow L A n cap E k els (.row A n cap E k (els.take l++news.take (min m dl)++els.drop (l+min m dl))) L'] (h:G κ ((d,.int .i64 ((min m dl:Nat):Int)) :: e) L' X) :
  G κ e L (owp κ.ρ P ⟨some d,.call { callee:=.builtin .copy,args := #[x,y],argTypes := #[T,T'] },ty,s,af,gd⟩ Q X):=G.loud hd fun a w hst=>by
 obtain⟨j,hj,rfl⟩:=hL.at_;have hnl:m=news.length:=hr.len;have hncat:∀c∈news.take (min m dl),c.length=k:=fun c hc=>hr.cat c (List.mem_of_mem_take hc);have hntl:(news.take (min m dl)).length=min m dl:=by rw[List.length_take];omega
 have hcl:(news.take (min m dl)).flatten.length=min m dl*k:=by rw[xG hncat,hntl]
 have hrun:=kX (T' := T') (ty:=ty) hs w D B dl dc m mc (news.take (min m dl)).flatten hcl (fun h0=>by
  obtain⟨g1,g2⟩:=hr.at_ w hst.wok aK;exact⟨_,g1,fun q u hu=>by
   rw[yY];apply g2;rw[pE hr.cat] at hu;rw[List.getElem?_take] at hu;split at hu
   ·exact hu
   cases hu⟩) (fun h0=>by rw[h0];simp)
 have hsat0:=hst.wok.sat j _ hj;rcases Nat.eq_zero_or_pos (min m dl) with h0|h0
 ·refine⟨.int .i64 ((min m dl:Nat):Int),w,L.set j (.row A n cap E k (els.take l++news.take (min m dl)++els.drop (l+min m dl))),?_,hst.wok.change hj _ (Upd.refl _ _) ?_ (fun q hq=>.inl hq),h⟩
  ·have:(news.take (min m dl)).flatten=[]:=by rw[h0];simp
   rw[this] at hrun;cases D<;>simp[execOp,resolve,invoke,builtin,hst.env.ev hx,hst.env.ev hy,hrun,storeCells]
  rw[h0];simpa using hsat0
 obtain⟨hlen,hcat,hrow⟩:=hsat0;rcases hrow with⟨q0,_⟩|⟨b,cur,rfl,hg,hmc,hcm,hsz,htk⟩
 ·omega
 have hlk:(l+min m dl)*k≤n*k:=Nat.mul_le_mul_right _ hl;have hnk:n*k≤cap*k:=Nat.mul_le_mul_right _ hmc;rw[Nat.add_mul] at hlk;have hcap:¬cap=0:=by omega
 have hD' := hD h0;simp only[sS,sI,Nat.zero_add] at hD';subst hD';obtain⟨w',hst',hu,hs'⟩:=xO (P:=P) (T:=E) (news.take (min m dl)).flatten cur.toList (l*k) 0 w (fun u hu=>by
  obtain⟨c,hc,hu⟩:=List.mem_flatten.1 hu;exact h1 c (List.mem_of_mem_take hc) u hu) (by rw[hcl];simp;omega) (by simpa[Res.blk] using hg)
 refine⟨.int .i64 ((min m dl:Nat):Int),w',L.set j (.row (some ⟨b,0,none⟩) n cap E k (els.take l++news.take (min m dl)++els.drop (l+min m dl))),?_,hst.wok.change hj _ (by simpa[Res.row,hcap] using hu) ?_ (fun q hq=>.inl hq),h⟩
 ·simp[execOp,resolve,invoke,builtin,hst.env.ev hx,hst.env.ev hy,hrun,hst']
 refine⟨by simp;omega,fun c hc=>?_,.inr ⟨b,_,rfl,hs',hmc,hcm,by simp[wU,hsz],?_⟩⟩
 ·rcases List.mem_append.1 hc with hc|hc
  ·rcases List.mem_append.1 hc with hc|hc
   ·exact hcat c (List.mem_of_mem_take hc)
   exact hncat c hc
  exact hcat c (List.mem_of_mem_drop hc)
 simp only[Nat.add_zero];rw[vU _ _ _ _ (by rw[hcl];omega),htk,nA hcat hncat (by rw[hntl];omega),hntl]
end
end Go.Eg
