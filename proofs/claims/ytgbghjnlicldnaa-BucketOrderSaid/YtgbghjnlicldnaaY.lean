/- Maps; a place in a row. No program in sight. -/
import Derived.Test.YtgbghjnlicldnaaX
import Derived.Maps.Keyed
import Derived.DeepKeys4
import Derived.Carry
namespace Go.Eg
open Go.RowKit
set_option linter.unusedVariables false
set_option linter.unusedSimpArgs false
def kvs (es : List MapEntry) : List (Value × Value) := es.map fun e => (e.key, e.val)
/-- Block b holds a map with these entries, in whatever order. -/
def Res.mp (b : Nat) (D : List (Value × Value)) : Res where
  fp := [b]
  sat w := ∃ es clock, w.heap[b]? = some (.map es clock) ∧ (kvs es.toList).Perm D
  loc w w' h hs := by
    obtain ⟨es, clock, h1, h2⟩ := hs
    exact ⟨es, clock, by rw [h b (by simp)]; exact h1, h2⟩
  lt w hs k hk := by
    obtain ⟨es, clock, h1, h2⟩ := hs
    simp at hk; subst hk; exact lt_of_get h1
class MpT (P : Program) (T : Nat) (K E : outParam Nat) : Prop where
  und : P.underlying T = some (.map K E)
  keyed : Maps.Keyed P K
class InMp (L : List Res) (b : Nat) (D : outParam (List (Value × Value))) : Prop where
  at_ : ∃ i : Nat, L[i]? = some (.mp b D)
instance InMp.tail {L : List Res} {r : Res} {b : Nat} {D : List (Value × Value)} [h : InMp L b D] : InMp (r :: L) b D := ⟨h.at_.elim fun i hi => ⟨i + 1, hi⟩⟩
instance InMp.head {L : List Res} {b : Nat} {D : List (Value × Value)} : InMp (.mp b D :: L) b D := ⟨0, rfl⟩
class UpMp (L : List Res) (b : Nat) (D : outParam (List (Value × Value))) (D' : List (Value × Value)) (L' : outParam (List Res)) : Prop where
  at_ : ∃ i : Nat, L[i]? = some (.mp b D) ∧ L.set i (.mp b D') = L'
instance UpMp.tail {L L' : List Res} {r : Res} {b : Nat} {D D' : List (Value × Value)} [h : UpMp L b D D' L'] : UpMp (r :: L) b D D' (r :: L') := ⟨h.at_.elim fun i hi => ⟨i + 1, hi.1, congrArg (r :: ·) hi.2⟩⟩
instance UpMp.head {L : List Res} {b : Nat} {D D' : List (Value × Value)} : UpMp (.mp b D :: L) b D D' (.mp b D' :: L) := ⟨0, rfl, rfl⟩
/-- a value that may be a key of type K -/
def Key (P : Program) (K : Nat) (v : Value) : Prop := ∃ l, keyOf P K v = some l
section
variable {P : Program} {κ : Cx} {e : Env} {L : List Res} {X : Act → World → Prop} {Q : Exit → Act → World → Prop} {d : Tmp} {ty : TypeId} {s : String} {af : Array Edge} {gd : Option (Nat × Bool)}
theorem g_makeMap {T : TypeId} (hd : Nat.blt d κ.N = true) (h : ∀ b, G κ ((d, .map (some b)) :: e) (.mp b [] :: L) X) : G κ e L (owp κ.ρ P ⟨some d, .makeMap T none, ty, s, af, gd⟩ Q X) :=
  G.loud hd fun a w hs => ⟨.map (some w.heap.size), w.alloc (.map #[] 0), .mp w.heap.size [] :: L, by simp [execOp, run_makeMap], hs.wok.cons (Upd.alloc w _) _ ⟨#[], 0, heap_alloc_new w _, .refl _⟩ (by simp [Res.mp]), h _⟩
theorem Upd.setBlock (w : World) (b : Nat) (o : Obj) : Upd [b] w (ChangeMaps.setBlock w b o) :=
  ⟨rfl, rfl, rfl, by simp [ChangeMaps.setBlock], fun k hk hn => by
    have hne : b ≠ k := fun h => hn (by simp [h])
    show (w.heap.setIfInBounds b o)[k]? = w.heap[k]?
    exact Array.getElem?_setIfInBounds_ne hne⟩
theorem setBlock_at {w : World} {b : Nat} {o o' : Obj} (h : w.heap[b]? = some o) : (ChangeMaps.setBlock w b o').heap[b]? = some o' := by
  have := lt_of_get h
  simp [ChangeMaps.setBlock, this]
theorem find_none {w : World} {K : Nat} (hK : Maps.Keyed P K) {kv : Value} (hk : Key P K kv) {es : List MapEntry} {D : List (Value × Value)} (hp : (kvs es).Perm D) (hD : ∀ p ∈ D, Key P K p.1) (hno : ∀ p ∈ D, p.1 ≠ kv) : (Instr.findKey K kv es).run P w = .ok none w := by
  obtain ⟨l, hl⟩ := hk
  rcases hK.find w hl es (fun x hx => hD (x.key, x.val) (hp.mem_iff.1 (List.mem_map.2 ⟨x, hx, rfl⟩))) with ⟨h1, _⟩ | ⟨j, x, _, h2, h3⟩
  · exact h1
  · exact absurd h3 (hno (x.key, x.val) (hp.mem_iff.1 (List.mem_map.2 ⟨x, List.mem_of_getElem? h2, rfl⟩)))
theorem find_some {w : World} {K : Nat} (hK : Maps.Keyed P K) {kv v : Value} (hk : Key P K kv) {es : List MapEntry} {D : List (Value × Value)} (hp : (kvs es).Perm D) (hD : ∀ p ∈ D, Key P K p.1) (hm : (kv, v) ∈ D) (hu : ∀ p ∈ D, p.1 = kv → p.2 = v) : ∃ j, (Instr.findKey K kv es).run P w = .ok (some (j, v)) w := by
  obtain ⟨l, hl⟩ := hk
  rcases hK.find w hl es (fun x hx => hD (x.key, x.val) (hp.mem_iff.1 (List.mem_map.2 ⟨x, hx, rfl⟩))) with ⟨_, h1⟩ | ⟨j, x, h1, h2, h3⟩
  · obtain ⟨x, hx, hxe⟩ := List.mem_map.1 (hp.mem_iff.2 hm)
    exact absurd (congrArg Prod.fst hxe) (h1 x hx)
  · have := hu (x.key, x.val) (hp.mem_iff.1 (List.mem_map.2 ⟨x, List.mem_of_getElem? h2, rfl⟩)) h3
    subst this
    exact ⟨j, h1⟩
/-- a new key's entry -/
theorem g_insert {ρ : Option Nat} {T K E b : Nat} {m k x : Operand} {kv xv : Value} {D : List (Value × Value)} {L' : List Res} [ht : MpT P T K E] (hm : ev e m = some (.map (some b))) (hk : ev e k = some kv) (hx : ev e x = some xv) [hi : InMp L b D]
    (hkl : Key P K kv) (hD : ∀ p ∈ D, Key P K p.1) (hno : ∀ p ∈ D, p.1 ≠ kv) [hL : UpMp L b D (D ++ [(kv, xv)]) L'] (h : G κ e L' X) : G κ e L (owp ρ P ⟨none, .insert T m k x, ty, s, af, gd⟩ Q X) := fun a w hs => by
  obtain ⟨i, hi', rfl⟩ := hL.at_
  obtain ⟨es, clock, hb, hp⟩ := hs.wok.sat i _ hi'
  have hf := find_none (w := w) ht.keyed hkl hp hD hno
  obtain ⟨l, hl⟩ := hkl
  have hck := ht.keyed.check w false hl
  have he : (execOp a.eval ⟨none, .insert T m k x, ty, s, af, gd⟩).run P w = .ok .skip (ChangeMaps.setBlock w b (.map (es.push ⟨kv, xv, clock⟩) (clock + 1))) := by
    simp [execOp, hs.env.ev hm, hs.env.ev hk, hs.env.ev hx, Instr.mapUpdate, run_underlying ht.und, MapKept.run_getObj_map hb, hck, hf, MapKept.run_setObj_map _ hb, Result.andThen, ChangeMaps.setBlock]
  exact in_skip he <| h _ _ ⟨hs.defers, hs.size, hs.env, hs.wok.change hi' _ (Upd.setBlock w b _) ⟨_, _, setBlock_at hb, by simpa [kvs] using hp.append_right [(kv, xv)]⟩ (by simp [Res.mp])⟩
/-- v, ok := m[k], found -/
theorem q_look_t {T K E b : Nat} {m k : Operand} {kv v : Value} {D : List (Value × Value)} [ht : MpT P T K E] (hm : ev e m = some (.map (some b))) (hk : ev e k = some kv) [hi : InMp L b D] (hkl : Key P K kv) (hD : ∀ p ∈ D, Key P K p.1) (hv : (kv, v) ∈ D) (hu : ∀ p ∈ D, p.1 = kv → p.2 = v) :
    QRun P κ e L ⟨some d, .lookup T m k true, ty, s, af, gd⟩ (.tuple [v, .bool true].toArray) := fun a w he hw => by
  obtain ⟨i, hi'⟩ := hi.at_
  obtain ⟨es, clock, hb, hp⟩ := hw.sat i _ hi'
  obtain ⟨j, hf⟩ := find_some (w := w) ht.keyed hkl hp hD hv hu
  obtain ⟨l, hl⟩ := hkl
  have hck := ht.keyed.check w es.isEmpty hl
  simp [execOp, he.ev hm, he.ev hk, Instr.lookup, run_underlying ht.und, MapKept.run_getObj_map hb, hck, hf, Result.andThen]
/-- v, ok := m[k], not found -/
theorem q_look_f {T K E b : Nat} {m k : Operand} {kv z : Value} {D : List (Value × Value)} [ht : MpT P T K E] (hm : ev e m = some (.map (some b))) (hk : ev e k = some kv) [hi : InMp L b D] (hkl : Key P K kv) (hD : ∀ p ∈ D, Key P K p.1) (hno : ∀ p ∈ D, p.1 ≠ kv) (hz : ∀ w : World, (zeroValue E).run P w = .ok z w) :
    QRun P κ e L ⟨some d, .lookup T m k true, ty, s, af, gd⟩ (.tuple [z, .bool false].toArray) := fun a w he hw => by
  obtain ⟨i, hi'⟩ := hi.at_
  obtain ⟨es, clock, hb, hp⟩ := hw.sat i _ hi'
  have hf := find_none (w := w) ht.keyed hkl hp hD hno
  obtain ⟨l, hl⟩ := hkl
  have hck := ht.keyed.check w es.isEmpty hl
  simp [execOp, he.ev hm, he.ev hk, Instr.lookup, run_underlying ht.und, MapKept.run_getObj_map hb, hck, hf, hz w, Result.andThen]
end

/-! ### the entries of a map literal, in whatever order they are put in -/
theorem nodup_len : ∀ {l m : List Nat}, l.Nodup → (∀ x ∈ l, x ∈ m) → l.length ≤ m.length
  | [], _, _, _ => by simp
  | a :: l, m, hn, hs => by
    obtain ⟨h1, h2⟩ := List.nodup_cons.1 hn
    have ha : a ∈ m := hs a (by simp)
    have := nodup_len (m := m.erase a) h2 fun x hx => (List.mem_erase_of_ne (fun h => by subst h; exact h1 hx)).2 (hs x (by simp [hx]))
    rw [List.length_erase_of_mem ha] at this
    have := List.length_pos_of_mem ha
    simp only [List.length_cons]; omega
theorem nodup_perm : ∀ {l m : List Nat}, l.Nodup → (∀ x ∈ l, x ∈ m) → m.length ≤ l.length → l.Perm m
  | [], m, _, _, h => by rw [List.eq_nil_of_length_eq_zero (show m.length = 0 by simpa using h)]
  | a :: l, m, hn, hs, h => by
    obtain ⟨h1, h2⟩ := List.nodup_cons.1 hn
    have ha : a ∈ m := hs a (by simp)
    have := nodup_perm (m := m.erase a) h2 (fun x hx => (List.mem_erase_of_ne (fun h => by subst h; exact h1 hx)).2 (hs x (by simp [hx]))) (by rw [List.length_erase_of_mem ha]; simp only [List.length_cons] at h; omega)
    exact (this.cons a).trans (List.perm_cons_erase ha).symm
def lsAll (ls : Array Bool) (J : List Nat) : Array Bool := J.foldl (fun l i => l.setIfInBounds i true) ls
theorem lsAll_size : ∀ (J : List Nat) (ls : Array Bool), (lsAll ls J).size = ls.size
  | [], _ => rfl
  | i :: J, ls => by
    show (lsAll (ls.setIfInBounds i true) J).size = ls.size
    rw [lsAll_size J]; simp
theorem lsAll_get : ∀ (J : List Nat) (ls : Array Bool) (k : Nat) (d : Bool), (lsAll ls J).getD k d = if k ∈ J ∧ k < ls.size then true else ls.getD k d
  | [], ls, k, d => by simp [lsAll]
  | i :: J, ls, k, d => by
    show (lsAll (ls.setIfInBounds i true) J).getD k d = _
    rw [lsAll_get J]
    simp only [Array.size_setIfInBounds, List.mem_cons]
    by_cases hk : k < ls.size
    · by_cases h1 : k ∈ J
      · simp [h1, hk]
      · by_cases h2 : k = i
        · subst h2; simp [h1, hk]
        · have : i ≠ k := fun h => h2 h.symm
          simp [h1, h2, hk, Array.getElem_setIfInBounds, this]
    · simp only [hk, and_false, if_false]
      have e1 : ls[k]? = none := Array.getElem?_eq_none (by omega)
      have e2 : (ls.setIfInBounds i true)[k]? = none := Array.getElem?_eq_none (by simp; omega)
      simp only [Array.getD_eq_getD_getElem?, e1, e2]
theorem lsAll_perm {J J' : List Nat} (h : ∀ k, k ∈ J ↔ k ∈ J') (ls : Array Bool) : lsAll ls J = lsAll ls J' := by
  apply Array.ext
  · rw [lsAll_size, lsAll_size]
  · intro k h1 h2
    have e1 := lsAll_get J ls k false
    have e2 := lsAll_get J' ls k false
    rw [lsAll_size] at h1
    simp only [h k] at e1
    rw [← e2] at e1
    simp only [Array.getD_eq_getD_getElem?] at e1
    rwa [Array.getElem?_eq_getElem (by rw [lsAll_size]; exact h1), Array.getElem?_eq_getElem (by rw [lsAll_size]; exact h1)] at e1
/-- operation i waits for all of J -/
def waitsAll (ops : Array Oper) (J : List Nat) (i : Nat) : Bool :=
  match ops[i]? with
  | some o => J.all fun j => o.after.any fun e => Region.binds .any e && e.on == j
  | none => true
/-- the operations of J may come up at once -/
def depsB (ops : Array Oper) (ls : Array Bool) (J : List Nat) : Bool := J.all fun j => !ls.getD j true && (ops[j]?).all fun o => o.after.all fun x => !Region.binds .any x || ls.getD x.on false
theorem depsB_spec {ops : Array Oper} {ls : Array Bool} {J : List Nat} (h : depsB ops ls J = true) : ∀ j ∈ J, ls.getD j true = false ∧ ∀ o, ops[j]? = some o → ∀ x ∈ o.after, Region.binds .any x = true → ls.getD x.on false = true := fun j hj => by
  have h1 := List.all_eq_true.1 h j hj
  simp only [Bool.and_eq_true, Bool.not_eq_true'] at h1
  refine ⟨h1.1, fun o ho x hx hb => ?_⟩
  have h2 := h1.2
  rw [ho] at h2
  simp only [Option.all_some] at h2
  rw [Array.all_eq_true'] at h2
  have h3 := h2 x hx
  rw [hb] at h3
  simpa using h3
section
variable {P : Program} {κ : Cx} {e : Env} {L : List Res} {ops : Array Oper} {Q : Exit → Act → World → Prop} {T : List Nat}
theorem d_inserts {L0 : List Res} (J : List Nat) (hJ : J.Nodup) {ls : Array Bool} (hsz : ls.size = ops.size) (hlt : ∀ j ∈ J, j < ops.size) {b : Nat} {mt K E : Nat} [ht : MpT P mt K E] (ent : Nat → Value × Value)
    (hop : ∀ j ∈ J, ∃ m k x t s af, ops[j]? = some ⟨none, .insert mt m k x, t, s, af, none⟩ ∧ ev e m = some (.map (some b)) ∧ ev e k = some (ent j).1 ∧ ev e x = some (ent j).2)
    (hkey : ∀ j ∈ J, Key P K (ent j).1) (hdis : ∀ i ∈ J, ∀ j ∈ J, i ≠ j → (ent i).1 ≠ (ent j).1)
    (hw : (List.range ops.size).all (fun i => J.contains i || ls.getD i true || waitsAll ops J i) = true)
    (hrb : depsB ops ls J = true)
    (hL : ∀ D, ∀ w, WOK κ.S κ.w0 (.mp b D :: L) w → WOK κ.S κ.w0 L0 w) {fuel : Nat}
    (h : G κ e (.mp b (J.map ent) :: L) (wpAnyC P ops T (Cls κ L0) Q fuel (lsAll ls J))) :
    G κ e (.mp b [] :: L) (wpAnyC P ops T (Cls κ L0) Q (J.length + fuel) ls) := by
  have hr := depsB_spec hrb
  have key : ∀ (n : Nat) (done : List Nat), done.Nodup → (∀ i ∈ done, i ∈ J) → done.length + n = J.length → G κ e (.mp b (done.map ent) :: L) (wpAnyC P ops T (Cls κ L0) Q (n + fuel) (lsAll ls done)) := by
    intro n
    induction n with
    | zero =>
      intro done hn hs hl
      have hp : done.Perm J := by
        refine nodup_perm hn hs (by omega)
      intro a w hst
      rw [lsAll_perm (fun k => hp.mem_iff) ls, Nat.zero_add]
      refine h a w ⟨hst.defers, hst.size, hst.env, ?_⟩
      exact hst.wok.less (fun h0 => by
        obtain ⟨es, clock, h1, h2⟩ := h0
        exact ⟨es, clock, h1, h2.trans (hp.map ent)⟩) (fun _ q hq => by simpa [Res.mp] using hq)
    | succ n ih =>
      intro done hn hs hl a w hst
      rw [show n + 1 + fuel = (n + fuel) + 1 by omega]
      have hgetT : ∀ k, (lsAll ls done).getD k true = false → k ∉ done ∧ ls.getD k true = false := fun k hk => by
        rw [lsAll_get] at hk
        split at hk
        · cases hk
        · rename_i hc
          refine ⟨fun hm => hc ⟨hm, ?_⟩, hk⟩
          rw [hsz]; exact hlt k (hs k hm)
      -- one of J is left
      obtain ⟨j0, hj0, hjd⟩ : ∃ j ∈ J, j ∉ done := by
        rcases Classical.em (∃ j ∈ J, j ∉ done) with h1 | h1
        · exact h1
        · exfalso
          have hsub : ∀ j ∈ J, j ∈ done := fun j hj => Classical.byContradiction fun hc => h1 ⟨j, hj, hc⟩
          have := nodup_len hJ hsub
          omega
      have hjready : ∀ j ∈ J, j ∉ done → j ∈ Region.ready .any ops (lsAll ls done) := fun j hj hjd => by
        rw [mem_ready]
        obtain ⟨h1, h2⟩ := hr j hj
        obtain ⟨m, k, x, t, s, af, ho, _⟩ := hop j hj
        refine ⟨by rw [lsAll_get, if_neg (fun hc => hjd hc.1)]; exact h1, _, ho, fun y hy hb => ?_⟩
        rw [lsAll_get]
        split
        · rfl
        · exact h2 _ ho y hy hb
      refine ⟨fun _ => hL _ w hst.wok, fun h0 => ?_, fun i hi => ?_⟩
      · have := hjready j0 hj0 hjd; rw [h0] at this; cases this
      · have hi' := hi
        rw [mem_ready] at hi
        obtain ⟨h1, o, ho, h2⟩ := hi
        have hio : i < ops.size := (Array.getElem?_eq_some_iff.1 ho).1
        obtain ⟨hid, hil⟩ := hgetT i h1
        have hiJ : i ∈ J := by
          rw [List.all_eq_true] at hw
          have := hw i (by simpa using hio)
          simp only [Bool.or_eq_true] at this
          rcases this with (h3 | h3) | h3
          · simpa using h3
          · rw [hil] at h3; cases h3
          · exfalso
            simp only [waitsAll, ho] at h3
            rw [List.all_eq_true] at h3
            have h4 := h3 j0 hj0
            rw [Array.any_eq_true'] at h4
            obtain ⟨x, hx, h5⟩ := h4
            simp only [Bool.and_eq_true, beq_iff_eq] at h5
            have h6 := h2 x hx h5.1
            rw [h5.2, lsAll_get] at h6
            rw [if_neg (fun hc => hjd hc.1)] at h6
            have h7 := (hr j0 hj0).1
            have hj0s : j0 < ls.size := by rw [hsz]; exact hlt j0 hj0
            simp [Array.getElem?_eq_getElem hj0s] at h6 h7
            rw [h6] at h7; cases h7
        obtain ⟨m, k, x, t, s, af, ho', hm, hk, hx⟩ := hop i hiJ
        unfold wpOpIn
        simp only [ho', Region.wanted, if_true]
        have hset : (lsAll ls done).setIfInBounds i true = lsAll ls (done ++ [i]) := by simp [lsAll]
        rw [hset]
        have ih' := ih (done ++ [i]) (List.nodup_append.2 ⟨hn, by simp, fun a ha b hb => by simp at hb; subst hb; intro hc; subst hc; exact hid ha⟩) (fun q hq => by
          rcases List.mem_append.1 hq with hq | hq
          · exact hs q hq
          · simp at hq; subst hq; exact hiJ) (by simp; omega)
        rw [List.map_append] at ih'
        refine g_insert (ht := ht) (kv := (ent i).1) (xv := (ent i).2) (D := done.map ent) hm hk hx (hkey i hiJ) (fun p hp => ?_) (fun p hp => ?_) ih' a w hst
        · obtain ⟨q, hq, rfl⟩ := List.mem_map.1 hp; exact hkey q (hs q hq)
        · obtain ⟨q, hq, rfl⟩ := List.mem_map.1 hp
          exact hdis q (hs q hq) i hiJ (fun hc => by subst hc; exact hid hq)
  exact key J.length [] (by simp) (by simp) (by simp)
end

/-! ### an operation that asks nothing of memory may be done first, whatever the tail -/
section
variable {P : Program} {ops : Array Oper} {Q : Exit → Act → World → Prop} {C : World → Prop} {T : List Nat}
theorem anyC_pure {i : Nat} {oi : Oper} {v : Value} (hi : ops[i]? = some oi) (hsel : ∀ (j : Nat) (o : Oper) cs b, ops[j]? = some o → o.op ≠ .select cs b) (hiT : i ∉ T) :
    ∀ (fuel : Nat) (listed : Array Bool) (a : Act) (w : World),
      (∀ j oj, ops[j]? = some oj → j ≠ i → listed.getD j true = false → (∀ e ∈ oj.after, Region.binds .any e = true → e.on ≠ i) → oi.apart ops oj = true) →
      i ∈ Region.ready .any ops listed → YieldsC P ops (fun _ => True) oi v a →
      wpAnyC P ops T C Q fuel (listed.setIfInBounds i true) (a.put oi.dst v) w → wpAnyC P ops T C Q (fuel + 1) listed a w := by
  have ntset : ∀ ls : Array Bool, NoTail T ls → NoTail T (ls.setIfInBounds i true) := fun ls h t ht => by
    rw [getD_set_ne false (fun e => hiT (by rw [e]; exact ht))]; exact h t ht
  intro fuel
  induction fuel with
  | zero =>
    intro listed a w _ hr hy H
    refine ⟨fun hn => H.1 (ntset _ hn), fun h => (by rw [h] at hr; cases hr), fun j hj => ?_⟩
    by_cases hji : j = i
    · subst hji; exact hy.wpOp hi trivial H
    · have := ready_mono hj hji
      rw [H.2.1] at this
      cases this
  | succ fuel ih =>
    intro listed a w hfree hr hy H
    refine ⟨fun hn => H.1 (ntset _ hn), fun h => (by rw [h] at hr; cases hr), fun j hj => ?_⟩
    by_cases hji : j = i
    · subst hji; exact hy.wpOp hi trivial H
    · have h1 := H.2.2 j (ready_mono hj hji)
      obtain ⟨hjun, oj, hoj, hall⟩ := mem_ready.1 hj
      have hi0 : listed.getD i false = false := by
        have h0 := (mem_ready.1 hr).1
        rcases Nat.lt_or_ge i listed.size with h' | h'
        · simp [h'] at h0 ⊢; exact h0
        · simp [Array.getElem?_eq_none h'] at h0
      have hnot : ∀ e ∈ oj.after, Region.binds .any e = true → e.on ≠ i := fun e he hb heq => by
        have h1 := hall e he hb
        rw [heq, hi0] at h1
        cases h1
      have h2 := wpOp_putC hoj (hfree j oj hoj hji hjun hnot) (fun cs b => hsel i oi cs b hi) (fun cs b => hsel j oj cs b hoj) hy h1
      have hfree' : ∀ k ok, ops[k]? = some ok → k ≠ i → (listed.setIfInBounds j true).getD k true = false →
          (∀ e ∈ ok.after, Region.binds .any e = true → e.on ≠ i) → oi.apart ops ok = true := fun k ok hk hki hun hno => by
        refine hfree k ok hk hki ?_ hno
        by_cases hjk : j = k
        · subst hjk; exact hjun
        · rw [getD_set_ne true hjk] at hun; exact hun
      refine wpOpIn_mono (fun a' w' h3 => ih (listed.setIfInBounds j true) a' w' hfree' (ready_mono hr (Ne.symm hji)) h3.1 ?_) h2
      rw [Array.setIfInBounds_comm _ _ hji]
      exact h3.2
def firstP (ops : Array Oper) (T : List Nat) (listed : Array Bool) (i : Nat) : Bool :=
  Region.noSelect ops && !T.contains i && Region.free .any ops listed i && (Region.ready .any ops listed).contains i
theorem anyC_takeP {i : Nat} {oi : Oper} {v : Value} {fuel : Nat} {listed : Array Bool} {a : Act} {w : World} (hi : ops[i]? = some oi) (hb : firstP ops T listed i = true) (hy : YieldsC P ops (fun _ => True) oi v a)
    (h : wpAnyC P ops T C Q fuel (listed.setIfInBounds i true) (a.put oi.dst v) w) : wpAnyC P ops T C Q (fuel + 1) listed a w := by
  simp only [firstP, Bool.and_eq_true] at hb
  obtain ⟨⟨⟨h1, h2⟩, h5⟩, h6⟩ := hb
  exact anyC_pure hi (Region.noSelect_spec h1) (by simpa using h2) fuel listed a w (Region.free_spec hi h5) (by simpa using h6) hy h
end
section
variable {P : Program} {κ : Cx} {e : Env} {L : List Res} {ops : Array Oper} {Q : Exit → Act → World → Prop} {T : List Nat}
theorem pureRun {o : Oper} {v : Value} (hq : ∀ κ' : Cx, QRun P κ' e [] o v) {a : Act} (he : EnvOK e a) (w : World) : (execOp a.eval o).run P w = .ok (.value v) w :=
  hq ⟨[], w, 0, [], none⟩ a w he (WOK.start _ _)
theorem d_p {C : World → Prop} (i : Nat) {fuel : Nat} {ls ls' : Array Bool} {d : Nat} {op : Op} {t : TypeId} {s : String} {af : Array Edge} {v : Value} (hi : ops[i]? = some ⟨some d, op, t, s, af, none⟩) (hb : firstP ops T ls i = true)
    (hq : ∀ κ' : Cx, QRun P κ' e [] ⟨some d, op, t, s, af, none⟩ v) (hd : Nat.blt d κ.N = true) (hls : ls.setIfInBounds i true = ls') (h : G κ ((d, v) :: e) L (wpAnyC P ops T C Q fuel ls')) : G κ e L (wpAnyC P ops T C Q (fuel + 1) ls) := fun a w hs => by
  subst hls
  exact anyC_takeP hi hb (.inl ⟨rfl, fun w' _ => pureRun hq hs.env w'⟩) (h _ _ (hs.put (by simpa using hd) v))
theorem d_pg {C : World → Prop} (i : Nat) {fuel : Nat} {ls ls' : Array Bool} {d : Nat} {op : Op} {t : TypeId} {s : String} {af : Array Edge} {v : Value} {j : Nat} {b : Bool} {u : Tmp} (hi : ops[i]? = some ⟨some d, op, t, s, af, some (j, b)⟩) (hb : firstP ops T ls i = true)
    (hq : ∀ κ' : Cx, QRun P κ' e [] ⟨some d, op, t, s, af, some (j, b)⟩ v) (hj : (ops[j]?).bind (·.dst) = some u) (hu : look e u = some (.bool b)) (hd : Nat.blt d κ.N = true) (hls : ls.setIfInBounds i true = ls')
    (h : G κ ((d, v) :: e) L (wpAnyC P ops T C Q fuel ls')) : G κ e L (wpAnyC P ops T C Q (fuel + 1) ls) := fun a w hs => by
  subst hls
  obtain ⟨oj, hoj, hdj⟩ := Option.bind_eq_some_iff.1 hj
  exact anyC_takeP hi hb (.inl ⟨by rw [wanted_of rfl hoj hdj (hs.env u _ hu)]; simp, fun w' _ => pureRun hq hs.env w'⟩) (h _ _ (hs.put (by simpa using hd) v))
theorem d_pgf {C : World → Prop} (i : Nat) {fuel : Nat} {ls ls' : Array Bool} {d : Nat} {op : Op} {t : TypeId} {s : String} {af : Array Edge} {j : Nat} {b c : Bool} {u : Tmp} (hi : ops[i]? = some ⟨some d, op, t, s, af, some (j, b)⟩) (hb : firstP ops T ls i = true)
    (hj : (ops[j]?).bind (·.dst) = some u) (hu : look e u = some (.bool c)) (hc : (c == b) = false) (hd : Nat.blt d κ.N = true) (hls : ls.setIfInBounds i true = ls')
    (h : G κ ((d, undef) :: e) L (wpAnyC P ops T C Q fuel ls')) : G κ e L (wpAnyC P ops T C Q (fuel + 1) ls) := fun a w hs => by
  subst hls
  obtain ⟨oj, hoj, hdj⟩ := Option.bind_eq_some_iff.1 hj
  exact anyC_takeP hi hb (.inr ⟨by rw [wanted_of rfl hoj hdj (hs.env u _ hu)]; exact hc, rfl⟩) (h _ _ (hs.put (by simpa using hd) undef))
end

section
variable {P : Program} {κ : Cx} {e : Env} {L : List Res} {d : Tmp} {ty : TypeId} {s : String} {af : Array Edge} {gd : Option (Nat × Bool)}
theorem q_funcL {fn : Fn} {fl cl : List Operand} {vf vc : List Value} (hf : evL e fl = some vf) (hc : evL e cl = some vc) (hm : ∀ w : World, (Instr.makeFunc fn vf.toArray vc.toArray).run P w = .ok (.func fn vf.toArray vc.toArray) w) :
    QRun P κ e L ⟨some d, .makeFunc fn fl.toArray cl.toArray, ty, s, af, gd⟩ (.func fn vf.toArray vc.toArray) :=
  q_func (by rw [List.map_toArray, List.map_toArray, evL_map hf]) (by rw [List.map_toArray, List.map_toArray, evL_map hc]) hm
end

/-- a[i] of an array's value -/
theorem q_idxval {P : Program} {κ : Cx} {e : Env} {L : List Res} {d : Tmp} {ty : TypeId} {s : String} {af : Array Edge} {gd : Option (Nat × Bool)} {T E m i : Nat} {kd : IntKind} {x y : Operand} {z : Int} {cs : List Value} {v : Value} [ht : Arr P T E m 1] [hg : Ty P E false 1] (hx : ev e x = some (.agg cs.toArray)) (hy : ev e y = some (.int kd z)) (hz : z = (i : Int)) (him : i < m) (hv : cs[i]? = some v) :
    QRun P κ e L ⟨some d, .index T x y, ty, s, af, gd⟩ v := fun a w he hw => by
  obtain ⟨f, hf, hs⟩ := Option.map_eq_some_iff.1 ht.siz
  subst hz
  simp [execOp, he.ev hx, he.ev hy, Instr.index, asIntOf, Sem.run_bind, run_underlying ht.und, sizeOf, typeInfo, hf, hs, him, part, hg.agg w, hv]

/-! ### a literal's block taken for a row -/
theorem WOK.blkRow {S : List Nat} {w0 w : World} {b T k : Nat} {c : List Value} {els : List (List Value)} {L : List Res} (h : WOK S w0 (.blk b T c :: L) w) (hk : ∀ x ∈ els, x.length = k) (hc : els.flatten = c) (hm : els.length ≤ 1000000) : WOK S w0 (.row (some ⟨b, 0, none⟩) els.length els.length T k els :: L) w :=
  h.less (fun h0 => ⟨rfl, hk, .inr ⟨b, _, rfl, h0, Nat.le_refl _, by unfold maxLen; omega, by rw [← hc]; simp [flat_len hk], by subst hc; show List.take _ els.flatten = _; rw [← flat_len hk, List.take_length]⟩⟩) fun _ q hq => by
    simp only [Res.row] at hq
    split at hq
    · simp at hq
    · simpa [Res.blk] using hq
theorem g_blkRow {κ : Cx} {e : Env} {L : List Res} {X : Act → World → Prop} {b T : Nat} {c : List Value} {L' : List Res} (k n : Nat) (els : List (List Value)) (hk : ∀ x ∈ els, x.length = k) (hn : els.length = n) (hc : els.flatten = c) (hm : n ≤ 1000000) [_hi : InL L b T c] [hs : Swap L [.blk b T c] [.row (some ⟨b, 0, none⟩) n n T k els] L'] (h : G κ e L' X) : G κ e L X := by
  subst hn
  exact g_swap1 (fun _ _ _ _ h => h.blkRow hk hc hm) hs h

/-! ### where a row lies -/
theorem g_rowA {κ : Cx} {e : Env} {L : List Res} {X : Act → World → Prop} (A : Option Addr) {n cap T k : Nat} {els : List (List Value)} [hi : InRow L A n cap T k els] (hn : 0 < n) (h : (A = some ⟨bo A, oo A, none⟩ ∧ oo A = 0) → n ≤ cap → cap ≤ maxLen → G κ e L X) : G κ e L X := fun a w hs => by
  obtain ⟨i, hi'⟩ := hi.at_
  obtain ⟨_, _, h3⟩ := hs.wok.sat i _ hi'
  rcases h3 with ⟨h4, _⟩ | ⟨g, cur, hA, _, hle, hm, _⟩
  · omega
  · subst hA
    exact h ⟨rfl, rfl⟩ hle hm a w hs
theorem subA_at {A : Option Addr} {cap l k : Nat} (hA : A = some ⟨bo A, oo A, none⟩) (hl : l < cap) : subA A cap l k = some ⟨bo A, oo A + l * k, none⟩ := by
  unfold subA
  rw [if_neg (by omega)]
  conv => lhs; rw [hA]
  simp [add_none]
end Go.Eg
