/- A small separation logic over the model's walk: resources, a frame that is known slot by slot, and one rule for each operation. No program in sight. -/
import Derived.WalkKit
import Derived.WalkSpells
import Derived.WalkLawsBesides
import Derived.Deep.Quiet
import Derived.Deep.LoopGhost
import Derived.CallsIn
import Derived.OrdersIn
import Derived.TacticsIn
import Derived.ControlIn
import Derived.RangeFuncIn
import Derived.RangeFuncRecord
namespace Go.Eg
open Go.RowKit

/-! ### Frames: what a piece of code may have changed -/
structure Upd (S : List Nat) (w0 w : World) : Prop where
  os : w.os = w0.os
  tape : w.tape = w0.tape
  output : w.output = w0.output
  size : w0.heap.size ≤ w.heap.size
  block : ∀ k, k < w0.heap.size → k ∉ S → w.heap[k]? = w0.heap[k]?

theorem Upd.refl (S : List Nat) (w : World) : Upd S w w := ⟨rfl, rfl, rfl, Nat.le_refl _, fun _ _ _ => rfl⟩
theorem Upd.trans {S T : List Nat} {a b c : World} (h : Upd S a b) (k : Upd T b c) (hT : ∀ x ∈ T, a.heap.size ≤ x ∨ x ∈ S) : Upd S a c :=
  ⟨k.os.trans h.os, k.tape.trans h.tape, k.output.trans h.output, Nat.le_trans h.size k.size, fun i hi hn =>
    (k.block i (Nat.lt_of_lt_of_le hi h.size) (fun hm => by
      rcases hT i hm with h1 | h1
      · omega
      · exact hn h1)).trans (h.block i hi hn)⟩
theorem Upd.mono {S T : List Nat} {a b : World} (h : Upd S a b) (hs : ∀ x ∈ S, x ∈ T) : Upd T a b :=
  ⟨h.os, h.tape, h.output, h.size, fun k hk hn => h.block k hk fun hm => hn (hs k hm)⟩
theorem Upd.below {w0 w : World} (h : Upd [] w0 w) : Below w0.heap.size w0 w :=
  ⟨h.os, h.tape, h.output, h.size, fun k hk => h.block k hk (by simp)⟩
theorem Upd.of_below {w0 w : World} (h : Below w0.heap.size w0 w) : Upd [] w0 w := ⟨h.os, h.tape, h.output, h.size, fun k hk _ => h.block k hk⟩
theorem Upd.cell {S : List Nat} {w0 w : World} (h : Upd S w0 w) {p : Addr} (hp : p.block < w0.heap.size) (hn : p.block ∉ S) : w.cell? p = w0.cell? p :=
  World.cell?_of_block (w := w0) (h.block p.block hp hn)
theorem Upd.drew {S : List Nat} {a w : World} (h : Upd S a w) : Upd S a w.drew := ⟨h.os, h.tape, h.output, h.size, h.block⟩
theorem Upd.alloc (w : World) (o : Obj) : Upd [] w (w.alloc o) := ⟨rfl, rfl, rfl, by simp, fun k hk _ => Below.heap_alloc w o k hk⟩
theorem Upd.setCell (w : World) (p : Addr) (u : Value) : Upd [p.block] w (w.setCell p u) :=
  ⟨rfl, rfl, rfl, by simp [World.setCell], fun k _ hn => Below.heap_setCell w p u k (by simpa using hn)⟩

/-! ### Resources -/
structure Res where
  fp : List Nat
  sat : World → Prop
  loc : ∀ w w' : World, (∀ b ∈ fp, w'.heap[b]? = w.heap[b]?) → sat w → sat w'
  lt : ∀ w : World, sat w → ∀ b ∈ fp, b < w.heap.size

theorem lt_of_get {w : World} {b : Nat} {o : Obj} (h : w.heap[b]? = some o) : b < w.heap.size := by
  rcases Nat.lt_or_ge b w.heap.size with hlt | hge
  · exact hlt
  · rw [Array.getElem?_eq_none hge] at h; cases h

/-- Block b holds just these cells of element type T, none frozen. -/
def Res.blk (b : Nat) (T : TypeId) (c : List Value) : Res where
  fp := [b]
  sat w := w.heap[b]? = some (.cells c.toArray T (0, 0))
  loc w w' h hs := by rw [h b (by simp)]; exact hs
  lt w hs k hk := by simp at hk; subst hk; exact lt_of_get hs

structure WOK (S : List Nat) (w0 : World) (L : List Res) (w : World) : Prop where
  upd : Upd S w0 w
  sat : ∀ (i : Nat) (r : Res), L[i]? = some r → r.sat w
  nd : ∀ (i j : Nat) (r s : Res), i ≠ j → L[i]? = some r → L[j]? = some s → ∀ b ∈ r.fp, b ∉ s.fp
  fr : ∀ (i : Nat) (r : Res), L[i]? = some r → ∀ b ∈ r.fp, w0.heap.size ≤ b ∨ b ∈ S

theorem WOK.start (S : List Nat) (w : World) : WOK S w [] w := ⟨Upd.refl _ _, by simp, by simp, by simp⟩
theorem WOK.drew {S : List Nat} {w0 w : World} {L : List Res} (h : WOK S w0 L w) : WOK S w0 L w.drew :=
  ⟨h.upd.drew, fun i r hi => r.loc w _ (fun _ _ => rfl) (h.sat i r hi), h.nd, h.fr⟩
/-- A world that has changed nothing of what was there. -/
theorem WOK.more {S : List Nat} {w0 w w' : World} {L : List Res} (h : WOK S w0 L w) (hu : Upd [] w w') : WOK S w0 L w' :=
  ⟨h.upd.trans hu (by simp), fun i r hi => r.loc w _ (fun b hb => hu.block b (r.lt w (h.sat i r hi) b hb) (by simp)) (h.sat i r hi), h.nd, h.fr⟩
/-- One new resource in new blocks. -/
theorem WOK.cons {S : List Nat} {w0 w w' : World} {L : List Res} (h : WOK S w0 L w) (hu : Upd [] w w') (r : Res) (hs : r.sat w') (hf : ∀ b ∈ r.fp, w.heap.size ≤ b) : WOK S w0 (r :: L) w' := by
  have h' := h.more hu
  refine ⟨h'.upd, fun i s hi => ?_, fun i j s t hij hi hj b hb hc => ?_, fun i s hi b hb => ?_⟩
  · cases i with
    | zero => simp at hi; subst hi; exact hs
    | succ i => exact h'.sat i s (by simpa using hi)
  · cases i with
    | zero =>
      cases j with
      | zero => exact hij rfl
      | succ j =>
        simp at hi hj; subst hi
        have := t.lt w (h.sat j t hj) b hc
        have := hf b hb
        omega
    | succ i =>
      cases j with
      | zero =>
        simp at hi hj; subst hj
        have := s.lt w (h.sat i s hi) b hb
        have := hf b hc
        omega
      | succ j => exact h.nd i j s t (by omega) (by simpa using hi) (by simpa using hj) b hb hc
  · cases i with
    | zero => simp at hi; subst hi; exact .inl (Nat.le_trans h.upd.size (hf b hb))
    | succ i => exact h.fr i s (by simpa using hi) b hb
/-- One resource turned into another, in its own blocks or new ones. -/
theorem WOK.change {S : List Nat} {w0 w w' : World} {L : List Res} (h : WOK S w0 L w) {i : Nat} {r : Res} (hi : L[i]? = some r) (r' : Res) (hu : Upd r.fp w w') (hs : r'.sat w')
    (hf : ∀ b ∈ r'.fp, b ∈ r.fp ∨ w.heap.size ≤ b) : WOK S w0 (L.set i r') w' := by
  have hlen : i < L.length := by
    rcases Nat.lt_or_ge i L.length with hl | hl
    · exact hl
    · rw [List.getElem?_eq_none hl] at hi; cases hi
  have key : ∀ j s, j ≠ i → L[j]? = some s → s.sat w' := fun j s hj hs' =>
    s.loc w _ (fun b hb => hu.block b (s.lt w (h.sat j s hs') b hb) (h.nd j i s r hj hs' hi b hb)) (h.sat j s hs')
  have get : ∀ j s, (L.set i r')[j]? = some s → (j = i ∧ s = r') ∨ (j ≠ i ∧ L[j]? = some s) := fun j s hj => by
    by_cases e : i = j
    · subst e; rw [List.getElem?_set_self hlen] at hj; left; exact ⟨rfl, by simpa using hj.symm⟩
    · rw [List.getElem?_set_ne e] at hj; exact .inr ⟨fun h => e h.symm, hj⟩
  refine ⟨h.upd.trans hu (fun x hx => h.fr i r hi x hx), fun j s hj => ?_, fun j k s t hjk hj hk b hb hc => ?_, fun j s hj b hb => ?_⟩
  · rcases get j s hj with ⟨_, rfl⟩ | ⟨hne, hj⟩
    · exact hs
    · exact key j s hne hj
  · rcases get j s hj with ⟨rfl, rfl⟩ | ⟨hne, hj1⟩ <;> rcases get k t hk with ⟨rfl, rfl⟩ | ⟨hne', hk1⟩
    · exact hjk rfl
    · rcases hf b hb with hb' | hb'
      · exact h.nd j k r t hjk hi hk1 b hb' hc
      · have := t.lt w (h.sat k t hk1) b hc; omega
    · rcases hf b hc with hb' | hb'
      · exact h.nd j k s r hne hj1 hi b hb hb'
      · have := s.lt w (h.sat j s hj1) b hb; omega
    · exact h.nd j k s t hjk hj1 hk1 b hb hc
  · rcases get j s hj with ⟨_, rfl⟩ | ⟨_, hj⟩
    · rcases hf b hb with hb' | hb'
      · exact h.fr i r hi b hb'
      · exact .inl (Nat.le_trans h.upd.size hb')
    · exact h.fr j s hj b hb

/-- The resources at these places, and no others. -/
def pickL (L : List Res) : List Nat → List Res
  | [] => []
  | k :: ks => match L[k]? with | some r => r :: pickL L ks | none => pickL L ks
theorem pickL_get (L : List Res) : ∀ (ks : List Nat), (∀ k ∈ ks, k < L.length) → ∀ (i : Nat) (r : Res), (pickL L ks)[i]? = some r → ∃ k : Nat, ks[i]? = some k ∧ L[k]? = some r
  | [], _, i, r, h => by simp [pickL] at h
  | k :: ks, hb, i, r, h => by
    obtain ⟨u, hk⟩ : ∃ u, L[k]? = some u := ⟨_, List.getElem?_eq_getElem (hb k (by simp))⟩
    simp only [pickL, hk] at h
    cases i with
    | zero => exact ⟨k, rfl, by rw [hk]; simpa using h⟩
    | succ i => simpa using pickL_get L ks (fun k' hk' => hb k' (by simp [hk'])) i r (by simpa using h)
theorem WOK.pick {S : List Nat} {w0 w : World} {L : List Res} (h : WOK S w0 L w) (ks : List Nat) (hb : ks.all (fun k => decide (k < L.length)) = true) (hn : ks.Nodup) : WOK S w0 (pickL L ks) w := by
  have hb' : ∀ k ∈ ks, k < L.length := by simpa using hb
  refine ⟨h.upd, fun i r hi => ?_, fun i j r s hij hi hj b hb hc => ?_, fun i r hi => ?_⟩
  · obtain ⟨k, _, hk⟩ := pickL_get L ks hb' i r hi
    exact h.sat k r hk
  · obtain ⟨k, hp, hk⟩ := pickL_get L ks hb' i r hi
    obtain ⟨l, hq, hl⟩ := pickL_get L ks hb' j s hj
    refine h.nd k l r s (fun e => hij ?_) hk hl b hb hc
    subst e
    have h1 : i < ks.length := by
      rcases Nat.lt_or_ge i ks.length with h' | h'
      · exact h'
      · rw [List.getElem?_eq_none h'] at hp; cases hp
    have h2 : j < ks.length := by
      rcases Nat.lt_or_ge j ks.length with h' | h'
      · exact h'
      · rw [List.getElem?_eq_none h'] at hq; cases hq
    rw [List.getElem?_eq_getElem h1] at hp; rw [List.getElem?_eq_getElem h2] at hq
    simp at hp hq
    have hpw := List.pairwise_iff_getElem.1 hn
    rcases Nat.lt_trichotomy i j with hlt | heq | hlt
    · exact absurd (hp.trans hq.symm) (hpw i j h1 h2 hlt)
    · exact heq
    · exact absurd (hq.trans hp.symm) (hpw j i h2 h1 hlt)
  · obtain ⟨k, _, hk⟩ := pickL_get L ks hb' i r hi
    exact h.fr k r hk

/-! ### What is known of the slots -/
abbrev Env := List (Nat × Value)
def look : Env → Nat → Option Value
  | [], _ => none
  | (i, v) :: r, k => if i = k then some v else look r k
def EnvOK (e : Env) (a : Act) : Prop := ∀ k v, look e k = some v → a.tmps[k]? = some v
def ev (e : Env) : Operand → Option Value
  | .tmp t => look e t
  | .const v => some v
  | .global g => some (.pointer (some ⟨g, 0, none⟩))
  | .func f => some (.func (.func f) #[] #[])
theorem EnvOK.ev {e : Env} {a : Act} (h : EnvOK e a) {x : Operand} {v : Value} (hx : ev e x = some v) : a.eval x = v := by
  cases x with
  | tmp t => have := h t v hx; simp [Act.eval, Array.getD_eq_getD_getElem?, this]
  | const u => simp [Eg.ev] at hx; exact hx
  | global g => simp [Eg.ev] at hx; exact hx
  | func f => simp [Eg.ev] at hx; exact hx
theorem EnvOK.put {e : Env} {a : Act} (h : EnvOK e a) {d : Nat} (hd : d < a.tmps.size) (v : Value) : EnvOK ((d, v) :: e) (a.put (some d) v) := by
  intro k u hk
  simp only [look] at hk
  simp only [Act.put]
  by_cases hdk : d = k
  · subst hdk
    simp at hk; subst hk
    simp [hd]
  · rw [if_neg hdk] at hk
    rw [Array.getElem?_setIfInBounds_ne hdk]
    exact h k u hk
/-- Only these slots. -/
def pickE (e : Env) : List Nat → Env
  | [] => []
  | k :: ks => match look e k with | some v => (k, v) :: pickE e ks | none => pickE e ks
theorem look_pickE (e : Env) : ∀ (ks : List Nat) (k : Nat) (v : Value), look (pickE e ks) k = some v → look e k = some v
  | [], _, _, h => by simp [pickE, look] at h
  | j :: ks, k, v, h => by
    simp only [pickE] at h
    cases hj : look e j with
    | none => simp only [hj] at h; exact look_pickE e ks k v h
    | some u =>
      simp only [hj, look] at h
      by_cases hjk : j = k
      · subst hjk; simp at h; subst h; exact hj
      · rw [if_neg hjk] at h; exact look_pickE e ks k v h

/-! ### The state, and 'X holds in every such state' -/
/-- the fence of all functions; of an activation, or of a round -/
def FR (ρ : Option Nat) : Fence := { fn := fun _ => True, depth := none, alive := false, round := ρ }
theorem FR_none : FR none = Fence.wide := rfl
structure Cx where
  S : List Nat
  w0 : World
  N : Nat
  D : List Deferred
  ρ : Option Nat
structure St (κ : Cx) (e : Env) (L : List Res) (a : Act) (w : World) : Prop where
  defers : a.defers = κ.D
  size : a.tmps.size = κ.N
  env : EnvOK e a
  wok : WOK κ.S κ.w0 L w
def G (κ : Cx) (e : Env) (L : List Res) (X : Act → World → Prop) : Prop := ∀ a w, St κ e L a w → X a w

section
variable {κ : Cx} {e e' : Env} {L L' : List Res} {X : Act → World → Prop} {P : Program}
theorem G.weaken (ks is : List Nat) (hb : is.all (fun k => decide (k < L.length)) = true) (hn : is.Nodup) (he : pickE e ks = e') (hL : pickL L is = L') (h : G κ e' L' X) : G κ e L X := fun a w hs => by
  subst he; subst hL
  exact h a w ⟨hs.defers, hs.size, fun k v hk => hs.env k v (look_pickE e ks k v hk), hs.wok.pick is hb hn⟩
theorem G.wenv (ks : List Nat) (he : pickE e ks = e') (h : G κ e' L X) : G κ e L X := fun a w hs => by
  subst he
  exact h a w ⟨hs.defers, hs.size, fun k v hk => hs.env k v (look_pickE e ks k v hk), hs.wok⟩
theorem G.mono {Y : Act → World → Prop} (hxy : ∀ a w, X a w → Y a w) (h : G κ e L X) : G κ e L Y := fun a w hs => hxy a w (h a w hs)
theorem St.put {a : Act} {w : World} (h : St κ e L a w) {d : Nat} (hd : d < κ.N) (v : Value) : St κ ((d, v) :: e) L (a.put (some d) v) w :=
  ⟨h.defers, by simp [Act.put, h.size], h.env.put (by rw [h.size]; exact hd) v, h.wok⟩
theorem St.put_none {a : Act} {w : World} (h : St κ e L a w) (v : Value) : St κ e L (a.put none v) w := h
end

/-! ### Operations that leave the world alone -/
/-- In every state of this kind the operation yields v and leaves the world as it is. -/
def QRun (P : Program) (κ : Cx) (e : Env) (L : List Res) (o : Oper) (v : Value) : Prop :=
  ∀ a w, EnvOK e a → WOK κ.S κ.w0 L w → (execOp a.eval o).run P w = .ok (.value v) w
/-- One operation, then X. -/
def owp (ρ : Option Nat) (P : Program) (o : Oper) (Q : Exit → Act → World → Prop) (X : Act → World → Prop) : Act → World → Prop := fun a w => o.wpIn (FR ρ) 0 P a w X Q
theorem sem_value {ρ : Option Nat} {P : Program} {o : Oper} {a : Act} {w w' : World} {nx : Next} (h : (execOp a.eval o).run P w = .ok nx w') (hn : ∀ d, nx ≠ .defer d) : (o.semAt ρ a.eval).run P w = .ok nx w' := by
  rw [Oper.semAt_eq]
  · exact h
  · intro c hc
    unfold execOp at h
    rw [hc] at h
    simp only [Sem.run_bind] at h
    cases hr : (resolve a.eval c o.type).run P w with
    | ok d w1 => rw [hr] at h; simp only [Result.andThen] at h; injection h with h1 _; exact hn d h1.symm
    | halt x w1 => rw [hr] at h; simp only [Result.andThen] at h; cases h
theorem in_value {ρ : Option Nat} {P : Program} {o : Oper} {a : Act} {w w' : World} {v : Value} {X : Act → World → Prop} {Q : Exit → Act → World → Prop} (h : (execOp a.eval o).run P w = .ok (.value v) w') (hx : X (a.put o.dst v) w') : o.wpIn (FR ρ) 0 P a w X Q :=
  ⟨fun _ _ => trivial, by show o.uponIn (FR ρ) 0 P a X Q ((o.semAt ρ a.eval).run P w); rw [sem_value h (by intro d hd; cases hd)]; exact hx⟩
theorem in_skip {ρ : Option Nat} {P : Program} {o : Oper} {a : Act} {w w' : World} {X : Act → World → Prop} {Q : Exit → Act → World → Prop} (h : (execOp a.eval o).run P w = .ok .skip w') (hx : X (a.put o.dst undef) w') : o.wpIn (FR ρ) 0 P a w X Q :=
  ⟨fun _ _ => trivial, by show o.uponIn (FR ρ) 0 P a X Q ((o.semAt ρ a.eval).run P w); rw [sem_value h (by intro d hd; cases hd)]; exact hx⟩
theorem calls_in {ρ : Option Nat} {n : Nat} {P : Program} {f : FuncId} {args : Array Value} {w : World} {R : Ending → World → Prop} (h : Calls P f args w R) : CallsIn (FR ρ) n P f args w R := callsIn_wide.2 h
theorem in_enter {ρ : Option Nat} {P : Program} {o : Oper} {a : Act} {w w' : World} {f : FuncId} {args : Array Value} {X : Act → World → Prop} {Q : Exit → Act → World → Prop} (h : (execOp a.eval o).run P w = .ok (.enter f args) w') (hx : Calls P f args w' fun en w'' => ∃ v, en = .returned v ∧ X (a.put o.dst v) w'') : o.wpIn (FR ρ) 0 P a w X Q :=
  ⟨fun _ _ => trivial, by
    show o.uponIn (FR ρ) 0 P a X Q ((o.semAt ρ a.eval).run P w)
    rw [sem_value h (by intro d hd; cases hd)]
    refine ⟨fun hd => by simp [FR] at hd, calls_in (Calls.mono hx ?_)⟩
    rintro en w'' ⟨v, rfl, h⟩
    exact h⟩
theorem least_of {q : Nat → Prop} (h : ∃ n, q n) : ∃ m, q m ∧ ∀ k, q k → m ≤ k := by
  obtain ⟨n, hn⟩ := h
  induction n using Nat.strongRecOn with
  | _ n ih =>
    by_cases hk : ∃ k, k < n ∧ q k
    · obtain ⟨k, hk, hq⟩ := hk; exact ih k hk hq
    · exact ⟨n, hn, fun k hq => Nat.le_of_not_lt fun hlt => hk ⟨k, hlt, hq⟩⟩
theorem in_loop_ghost {ρ : Option Nat} {P : Program} {c : Code} {Q : Exit → Act → World → Prop} {a : Act} {w : World} (I : Nat → Act → World → Prop) (n : Nat) (h0 : I n a w)
    (round : ∀ n a w, I n a w → c.wpIn (FR ρ) 0 P (Exit.then (fun a' w' => ∃ m, m < n ∧ I m a' w') Q) a w) : (Code.loop c).wpIn (FR ρ) 0 P Q a w := by
  classical
  let J : Act → World → Prop := fun a w => ∃ n, I n a w
  let μ : Act → World → Nat := fun a w => if h : ∃ n, I n a w then Classical.choose (least_of h) else 0
  refine wpIn_loop J μ ⟨n, h0⟩ ?_
  intro a w hJ
  have hm : I (μ a w) a w := by
    show I (if h : ∃ n, I n a w then Classical.choose (least_of h) else 0) a w
    rw [dif_pos hJ]; exact (Classical.choose_spec (least_of hJ)).1
  refine Go.wpIn_mono (round _ a w hm) fun ex a' w' hq => ?_
  cases ex with
  | normal =>
    obtain ⟨m, hlt, hI⟩ := hq
    refine ⟨⟨m, hI⟩, Nat.lt_of_le_of_lt ?_ hlt⟩
    show (if h : ∃ n, I n a' w' then Classical.choose (least_of h) else 0) ≤ m
    rw [dif_pos ⟨m, hI⟩]; exact (Classical.choose_spec (least_of ⟨m, hI⟩)).2 m hI
  | _ => exact hq

section
variable {P : Program} {κ : Cx} {e : Env} {L : List Res} {X : Act → World → Prop} {Q : Exit → Act → World → Prop} {ops : Array Oper} {rest : List Oper}
theorem G.quiet {d : Nat} {op : Op} {t : TypeId} {s : String} {af : Array Edge} {gd : Option (Nat × Bool)} {v : Value} (hq : QRun P κ e L ⟨some d, op, t, s, af, gd⟩ v) (hd : Nat.blt d κ.N = true) (h : G κ ((d, v) :: e) L X) :
    G κ e L (owp κ.ρ P ⟨some d, op, t, s, af, gd⟩ Q X) := fun a w hs => by
  exact in_value (hq a w hs.env hs.wok) (h _ _ (hs.put (by simpa using hd) v))

/-- plain regions -/
theorem g_region {id : Nat} {l : List Oper} (h : G κ e L (wpListIn (FR κ.ρ) 0 P l.toArray Q l)) : G κ e L ((Code.region id l.toArray false).wpIn (FR κ.ρ) 0 P Q) := fun a w hs => wpIn_region_lit (h a w hs)
theorem g_nil (h : G κ e L (Q .normal)) : G κ e L (wpListIn (FR κ.ρ) 0 P ops Q []) := fun a w hs => wpListIn_nil (h a w hs)
theorem g_op {d : Option Nat} {op : Op} {t : TypeId} {s : String} {af : Array Edge} (h : G κ e L (owp κ.ρ P ⟨d, op, t, s, af, none⟩ Q (wpListIn (FR κ.ρ) 0 P ops Q rest))) : G κ e L (wpListIn (FR κ.ρ) 0 P ops Q (⟨d, op, t, s, af, none⟩ :: rest)) :=
  fun a w hs => wpListIn_plain rfl fun _ hK => Oper.wpIn_mono hK (h a w hs)
theorem wanted_of {j : Nat} {b c : Bool} {o oj : Oper} {t : Tmp} {a : Act} (hg : o.guard = some (j, b)) (hj : ops[j]? = some oj) (hd : oj.dst = some t) (ht : a.tmps[t]? = some (.bool c)) :
    Region.wanted o (yielded ops a.tmps) = (c == b) := by
  simp only [Region.wanted, hg, yielded, hj, Option.bind_some, hd, ht]
  cases b <;> cases c <;> rfl
theorem g_gt {d : Option Nat} {op : Op} {t : TypeId} {s : String} {af : Array Edge} {j : Nat} {b : Bool} {u : Tmp} (hj : (ops[j]?).bind (·.dst) = some u) (hu : look e u = some (.bool b))
    (h : G κ e L (owp κ.ρ P ⟨d, op, t, s, af, some (j, b)⟩ Q (wpListIn (FR κ.ρ) 0 P ops Q rest))) : G κ e L (wpListIn (FR κ.ρ) 0 P ops Q (⟨d, op, t, s, af, some (j, b)⟩ :: rest)) := fun a w hs => by
  obtain ⟨oj, hoj, hdj⟩ := Option.bind_eq_some_iff.1 hj
  refine wpListIn_step fun K hK => ?_
  rw [wanted_of rfl hoj hdj (hs.env u _ hu)]
  simp only [beq_self_eq_true, if_true]
  exact Oper.wpIn_mono hK (h a w hs)
theorem g_gf {d : Nat} {op : Op} {t : TypeId} {s : String} {af : Array Edge} {j : Nat} {b c : Bool} {u : Tmp} (hj : (ops[j]?).bind (·.dst) = some u) (hu : look e u = some (.bool c)) (hc : (c == b) = false) (hd : Nat.blt d κ.N = true)
    (h : G κ ((d, undef) :: e) L (wpListIn (FR κ.ρ) 0 P ops Q rest)) : G κ e L (wpListIn (FR κ.ρ) 0 P ops Q (⟨some d, op, t, s, af, some (j, b)⟩ :: rest)) := fun a w hs => by
  obtain ⟨oj, hoj, hdj⟩ := Option.bind_eq_some_iff.1 hj
  refine wpListIn_step fun K hK => ?_
  rw [wanted_of rfl hoj hdj (hs.env u _ hu), hc]
  simp only [Bool.false_eq_true, if_false]
  exact ⟨fun _ _ => trivial, hK _ _ (h _ _ (hs.put (by simpa using hd) undef))⟩
/-- A slot's Bool decided. -/
theorem g_split (u : Tmp) {c : Bool} (hu : look e u = some (.bool c)) (h1 : c = true → G κ ((u, .bool true) :: e) L X) (h2 : c = false → G κ ((u, .bool false) :: e) L X) : G κ e L X := by
  have key : ∀ b : Bool, c = b → G κ ((u, .bool b) :: e) L X → G κ e L X := fun b hb h a w hs => h a w ⟨hs.defers, hs.size, fun k v hk => by
    simp only [look] at hk
    by_cases hk' : u = k
    · subst hk'; simp at hk; subst hk; subst hb; exact hs.env u _ hu
    · rw [if_neg hk'] at hk; exact hs.env k v hk, hs.wok⟩
  cases c with
  | true => exact key true rfl (h1 rfl)
  | false => exact key false rfl (h2 rfl)

/-- the resources, spelled otherwise -/
theorem g_setL {L' : List Res} (hL : L = L') (h : G κ e L' X) : G κ e L X := hL ▸ h
/-- A slot's Bool that is known. -/
theorem g_litb (u : Tmp) {c b : Bool} (hu : look e u = some (.bool c)) (hc : c = b) (h : G κ ((u, .bool b) :: e) L X) : G κ e L X := by
  subst hc
  exact fun a w hs => h a w ⟨hs.defers, hs.size, fun k v hk => by
    simp only [look] at hk
    by_cases hk' : u = k
    · subst hk'; simp at hk; subst hk; exact hs.env u _ hu
    · rw [if_neg hk'] at hk; exact hs.env k v hk, hs.wok⟩
/-- A slot's value, spelled otherwise. -/
theorem g_val (u : Tmp) {v v' : Value} (hu : look e u = some v) (hv : v = v') (h : G κ ((u, v') :: e) L X) : G κ e L X := by
  subst hv
  exact fun a w hs => h a w ⟨hs.defers, hs.size, fun k x hk => by
    simp only [look] at hk
    by_cases hk' : u = k
    · subst hk'; simp at hk; subst hk; exact hs.env u _ hu
    · rw [if_neg hk'] at hk; exact hs.env k x hk, hs.wok⟩
/-- one quiet operation of a plain region -/
theorem s_q {d : Nat} {op : Op} {t : TypeId} {s : String} {af : Array Edge} {v : Value} (hq : QRun P κ e L ⟨some d, op, t, s, af, none⟩ v) (hd : Nat.blt d κ.N = true) (h : G κ ((d, v) :: e) L (wpListIn (FR κ.ρ) 0 P ops Q rest)) :
    G κ e L (wpListIn (FR κ.ρ) 0 P ops Q (⟨some d, op, t, s, af, none⟩ :: rest)) := g_op (G.quiet hq hd h)
/-- one quiet operation under a guard that holds -/
theorem s_qg {d : Nat} {op : Op} {t : TypeId} {s : String} {af : Array Edge} {v : Value} {j : Nat} {b : Bool} {u : Tmp} (hq : QRun P κ e L ⟨some d, op, t, s, af, some (j, b)⟩ v) (hd : Nat.blt d κ.N = true)
    (hj : (ops[j]?).bind (·.dst) = some u) (hu : look e u = some (.bool b)) (h : G κ ((d, v) :: e) L (wpListIn (FR κ.ρ) 0 P ops Q rest)) :
    G κ e L (wpListIn (FR κ.ρ) 0 P ops Q (⟨some d, op, t, s, af, some (j, b)⟩ :: rest)) := g_gt hj hu (G.quiet hq hd h)

/-! ### Code -/
theorem g_blk_n {id : Nat} (h : G κ e L (Q .normal)) : G κ e L (Exit.inBlock id Q .normal) := h
theorem g_blk_hit {id : Nat} (h : G κ e L (Q .normal)) : G κ e L (Exit.inBlock id Q (.exit id)) := by
  have e1 : Exit.inBlock id Q (.exit id) = Q .normal := by funext a w; simp [Exit.inBlock]
  rw [e1]; exact h
theorem g_blk_miss {id j : Nat} (hj : Nat.beq j id = false) (h : G κ e L (Q (.exit j))) : G κ e L (Exit.inBlock id Q (.exit j)) := by
  have hne : ¬ j = id := by intro e; subst e; simp at hj
  have e1 : Exit.inBlock id Q (.exit j) = Q (.exit j) := by funext a w; simp [Exit.inBlock, hne]
  rw [e1]; exact h
theorem g_blk_ret {id : Nat} (h : G κ e L (Q .ret)) : G κ e L (Exit.inBlock id Q .ret) := h
theorem g_then_x {j : Nat} {Z : Act → World → Prop} (h : G κ e L (Q (.exit j))) : G κ e L (Exit.then Z Q (.exit j)) := h
theorem g_then_ret {Z : Act → World → Prop} (h : G κ e L (Q .ret)) : G κ e L (Exit.then Z Q .ret) := h
theorem g_seq {x y : Code} (h : G κ e L (x.wpIn (FR κ.ρ) 0 P (Exit.then (y.wpIn (FR κ.ρ) 0 P Q) Q))) : G κ e L ((Code.seq x y).wpIn (FR κ.ρ) 0 P Q) := fun a w hs => wpIn_seq (h a w hs)
theorem g_then {Z : Act → World → Prop} (h : G κ e L Z) : G κ e L (Exit.then Z Q .normal) := h
theorem g_skip (h : G κ e L (Q .normal)) : G κ e L (Code.skip.wpIn (FR κ.ρ) 0 P Q) := fun a w hs => wpIn_skip (h a w hs)
theorem g_ret (h : G κ e L (Q .ret)) : G κ e L (Code.ret.wpIn (FR κ.ρ) 0 P Q) := fun a w hs => wpIn_ret (h a w hs)
theorem g_exit {id : Nat} (h : G κ e L (Q (.exit id))) : G κ e L ((Code.exit id).wpIn (FR κ.ρ) 0 P Q) := fun a w hs => wpIn_exit (h a w hs)
theorem g_block {id : Nat} {c : Code} (h : G κ e L (c.wpIn (FR κ.ρ) 0 P (Exit.inBlock id Q))) : G κ e L ((Code.block id c).wpIn (FR κ.ρ) 0 P Q) := fun a w hs => wpIn_block (h a w hs)
theorem g_cond {c : Operand} {x y : Code} {b : Bool} (hb : ev e c = some (.bool b)) (h1 : b = true → G κ e L (x.wpIn (FR κ.ρ) 0 P Q)) (h2 : b = false → G κ e L (y.wpIn (FR κ.ρ) 0 P Q)) : G κ e L ((Code.cond c x y).wpIn (FR κ.ρ) 0 P Q) :=
  fun a w hs => wpIn_cond_split (hs.env.ev hb) (fun hb => h1 hb a w hs) (fun hb => h2 hb a w hs)
theorem g_true {c : Operand} {x y : Code} (hb : ev e c = some (.bool true)) (h : G κ e L (x.wpIn (FR κ.ρ) 0 P Q)) : G κ e L ((Code.cond c x y).wpIn (FR κ.ρ) 0 P Q) :=
  fun a w hs => wpIn_cond_true (hs.env.ev hb) (h a w hs)
theorem g_false {c : Operand} {x y : Code} (hb : ev e c = some (.bool false)) (h : G κ e L (y.wpIn (FR κ.ρ) 0 P Q)) : G κ e L ((Code.cond c x y).wpIn (FR κ.ρ) 0 P Q) :=
  fun a w hs => wpIn_cond_false (hs.env.ev hb) (h a w hs)
/-- every slot of the first is known to the second -/
def subE : Env → Env → Prop
  | [], _ => True
  | (k, v) :: r, e => look e k = some v ∧ subE r e
theorem subE.look {e' : Env} : ∀ {e : Env}, subE e e' → ∀ k v, look e k = some v → look e' k = some v
  | [], _, _, _, h => by simp [Eg.look] at h
  | (j, u) :: r, hs, k, v, h => by
    simp only [Eg.look] at h
    by_cases hj : j = k
    · subst hj; simp at h; subst h; exact hs.1
    · rw [if_neg hj] at h; exact subE.look hs.2 k v h
theorem subE.app {e' : Env} : ∀ {a b : Env}, subE a e' → subE b e' → subE (a ++ b) e'
  | [], _, _, h => h
  | (_, _) :: _, _, h, h' => ⟨h.1, subE.app h.2 h'⟩
theorem subE.pick {e : Env} : ∀ ks, subE (pickE e ks) e
  | [] => trivial
  | k :: ks => by
    simp only [pickE]
    cases hk : Eg.look e k with
    | none => exact subE.pick ks
    | some v => exact ⟨hk, subE.pick ks⟩
/-- What is left behind: in such a state 'again' holds. -/
theorem St.sub {e' : Env} {L' : List Res} {a : Act} {w : World} (h : St κ e L a w) (he : subE e' e) (hL : ∀ w, WOK κ.S κ.w0 L w → WOK κ.S κ.w0 L' w) : St κ e' L' a w :=
  ⟨h.defers, h.size, fun k v hk => h.env k v (he.look k v hk), hL w h.wok⟩
/-- Slots by what is known of them now; resources as they lie, some of them left out. -/
theorem G.sub {e' : Env} {X : Act → World → Prop} (he : subE e' e) (h : G κ e' L X) : G κ e L X := fun a w hs => h a w (hs.sub he fun _ hw => hw)
/-- The goal at a round's end. -/
def Round {ι : Type} (κ : Cx) (E : ι → Env) (R : ι → List Res) (p : ι → Prop) (μ : ι → Nat) (x : ι) : Act → World → Prop := fun a w => ∃ y, p y ∧ μ y < μ x ∧ St κ (E y) (R y) a w
theorem g_again {ι : Type} {E : ι → Env} {R : ι → List Res} {p : ι → Prop} {μ : ι → Nat} {x : ι} (y : ι) (hp : p y) (hμ : μ y < μ x) (he : subE (E y) e) (hL : ∀ w, WOK κ.S κ.w0 L w → WOK κ.S κ.w0 (R y) w) : G κ e L (Exit.then (Round κ E R p μ x) Q .normal) :=
  fun _ _ hs => ⟨y, hp, hμ, hs.sub he hL⟩
/-- A loop: 'E x', 'R x': slots and resources at a round's head, for the ghost x. -/
theorem g_loop {ι : Type} {c : Code} (E : ι → Env) (R : ι → List Res) (p : ι → Prop) (μ : ι → Nat) (x0 : ι) (h0 : p x0) (he : subE (E x0) e) (hL : ∀ w, WOK κ.S κ.w0 L w → WOK κ.S κ.w0 (R x0) w)
    (round : ∀ x, p x → G κ (E x) (R x) (c.wpIn (FR κ.ρ) 0 P (Exit.then (Round κ E R p μ x) Q))) : G κ e L ((Code.loop c).wpIn (FR κ.ρ) 0 P Q) := fun a w hs => by
  refine in_loop_ghost (fun n a w => ∃ x, p x ∧ μ x = n ∧ St κ (E x) (R x) a w) (μ x0) ⟨x0, h0, rfl, hs.sub he hL⟩ ?_
  rintro n a w ⟨x, hx, rfl, hs⟩
  refine Go.wpIn_mono (round x hx a w hs) fun ex a w hq => ?_
  cases ex with
  | normal => obtain ⟨y, hy, hlt, hs'⟩ := hq; exact ⟨μ y, hlt, y, hy, rfl, hs'⟩
  | _ => exact hq
/-- The same, where the slots 'ks' stay as they are. -/
theorem g_loopk {ι : Type} {c : Code} (ks : List Nat) (E : ι → Env) (R : ι → List Res) (p : ι → Prop) (μ : ι → Nat) (x0 : ι) (h0 : p x0) {ek : Env} (hk : pickE e ks = ek) (he : subE (E x0) e) (hL : ∀ w, WOK κ.S κ.w0 L w → WOK κ.S κ.w0 (R x0) w)
    (round : ∀ x, p x → G κ (E x ++ ek) (R x) (c.wpIn (FR κ.ρ) 0 P (Exit.then (Round κ (fun x => E x ++ ek) R p μ x) Q))) : G κ e L ((Code.loop c).wpIn (FR κ.ρ) 0 P Q) := by
  subst hk
  exact g_loop (fun x => E x ++ pickE e ks) R p μ x0 h0 (he.app (subE.pick ks)) hL round
theorem wok_id {S : List Nat} {w0 : World} {L : List Res} : ∀ w, WOK S w0 L w → WOK S w0 L w := fun _ h => h
theorem wok_tail {S : List Nat} {w0 : World} {r : Res} {L L0 : List Res} (h : ∀ w, WOK S w0 L w → WOK S w0 L0 w) : ∀ w, WOK S w0 (r :: L) w → WOK S w0 L0 w := fun w hw => h w
  ⟨hw.upd, fun i r hi => hw.sat (i + 1) r (by simpa using hi), fun i j r s hij hi hj => hw.nd (i + 1) (j + 1) r s (by omega) (by simpa using hi) (by simpa using hj), fun i r hi => hw.fr (i + 1) r (by simpa using hi)⟩
theorem wok_pick {S : List Nat} {w0 : World} {L L' : List Res} (ks : List Nat) (hb : ks.all (fun k => decide (k < L.length)) = true) (hn : ks.Nodup) (hL : pickL L ks = L') : ∀ w, WOK S w0 L w → WOK S w0 L' w := fun _ h => by subst hL; exact h.pick ks hb hn
end
end Go.Eg
