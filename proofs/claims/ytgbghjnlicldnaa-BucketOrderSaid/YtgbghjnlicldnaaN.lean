/- The general contract: a call that owns some of the caller's resources and hands others back. No program in sight. -/
import Derived.Test.YtgbghjnlicldnaaM
namespace Go.Eg
open Go.RowKit
set_option linter.unusedVariables false
def fps (L : List Res) : List Nat := L.flatMap Res.fp
theorem mem_fps {L : List Res} {b : Nat} : b ∈ fps L ↔ ∃ (i : Nat) (r : Res), L[i]? = some r ∧ b ∈ r.fp := by
  simp only [fps, List.mem_flatMap]
  constructor
  · rintro ⟨r, hr, hb⟩
    obtain ⟨i, hi⟩ := List.mem_iff_getElem?.1 hr
    exact ⟨i, r, hi, hb⟩
  · rintro ⟨i, r, hi, hb⟩
    exact ⟨r, List.mem_of_getElem? hi, hb⟩
theorem left_get {A B : List Res} {i : Nat} {r : Res} (h : A[i]? = some r) : (A ++ B)[i]? = some r := by
  have := (List.getElem?_eq_some_iff.1 h).1
  rw [List.getElem?_append_left this]; exact h
theorem right_get {A B : List Res} {i : Nat} {r : Res} (h : B[i]? = some r) : (A ++ B)[A.length + i]? = some r := by
  rw [List.getElem?_append_right (by omega)]; simpa using h
theorem app_get {A B : List Res} {i : Nat} {r : Res} (h : (A ++ B)[i]? = some r) : (i < A.length ∧ A[i]? = some r) ∨ ∃ j, i = A.length + j ∧ B[j]? = some r := by
  rcases Nat.lt_or_ge i A.length with hl | hl
  · rw [List.getElem?_append_left hl] at h; exact .inl ⟨hl, h⟩
  · rw [List.getElem?_append_right hl] at h; exact .inr ⟨i - A.length, by omega, h⟩
theorem WOK.own {S : List Nat} {w0 w : World} {Lin rest : List Res} (h : WOK S w0 (Lin ++ rest) w) : WOK (fps Lin) w Lin w :=
  ⟨Upd.refl _ _, fun i r hi => h.sat i r (left_get hi), fun i j r s hij hi hj => h.nd i j r s hij (left_get hi) (left_get hj), fun i r hi b hb => .inr (mem_fps.2 ⟨i, r, hi, hb⟩)⟩
theorem WOK.join {S : List Nat} {w0 w w' : World} {Lin Lout rest : List Res} (h : WOK S w0 (Lin ++ rest) w) (h' : WOK (fps Lin) w Lout w') : WOK S w0 (Lout ++ rest) w' := by
  have hin : ∀ b ∈ fps Lin, w0.heap.size ≤ b ∨ b ∈ S := fun b hb => by
    obtain ⟨i, r, hi, hb⟩ := mem_fps.1 hb
    exact h.fr i r (left_get hi) b hb
  have hno : ∀ (j : Nat) (s : Res), rest[j]? = some s → ∀ b ∈ s.fp, b ∉ fps Lin := fun j s hj b hb hm => by
    obtain ⟨i, r, hi, hb'⟩ := mem_fps.1 hm
    have hil := (List.getElem?_eq_some_iff.1 hi).1
    exact h.nd i (Lin.length + j) r s (by omega) (left_get hi) (right_get hj) b hb' hb
  have hlt : ∀ (j : Nat) (s : Res), rest[j]? = some s → ∀ b ∈ s.fp, b < w.heap.size := fun j s hj b hb => s.lt w (h.sat _ s (right_get hj)) b hb
  have hx : ∀ (i : Nat) (r : Res) (j : Nat) (s : Res), Lout[i]? = some r → rest[j]? = some s → ∀ b ∈ r.fp, b ∉ s.fp := fun i r j s hi hj b hb hc => by
    rcases h'.fr i r hi b hb with h1 | h1
    · have := hlt j s hj b hc; omega
    · exact hno j s hj b hc h1
  refine ⟨h.upd.trans h'.upd hin, fun i r hi => ?_, fun i j r s hij hi hj => ?_, fun i r hi b hb => ?_⟩
  · rcases app_get hi with ⟨_, hi⟩ | ⟨j, rfl, hj⟩
    · exact h'.sat i r hi
    · exact r.loc w _ (fun b hb => h'.upd.block b (hlt j r hj b hb) (hno j r hj b hb)) (h.sat _ r (right_get hj))
  · rcases app_get hi with ⟨_, hi1⟩ | ⟨i', ei, hi1⟩ <;> rcases app_get hj with ⟨_, hj1⟩ | ⟨j', ej, hj1⟩
    · exact h'.nd i j r s hij hi1 hj1
    · exact hx i r j' s hi1 hj1
    · exact fun b hb hc => hx j s i' r hj1 hi1 b hc hb
    · exact h.nd (Lin.length + i') (Lin.length + j') r s (by omega) (right_get hi1) (right_get hj1)
  · rcases app_get hi with ⟨_, hi⟩ | ⟨j, rfl, hj⟩
    · rcases h'.fr i r hi b hb with h1 | h1
      · exact .inl (Nat.le_trans h.upd.size h1)
      · exact hin b h1
    · exact h.fr _ r (right_get hj) b hb
section
variable {P : Program} {κ : Cx} {e : Env} {L : List Res} {X : Act → World → Prop} {Q : Exit → Act → World → Prop} {d : Tmp} {ty : TypeId} {s : String} {af : Array Edge} {gd : Option (Nat × Bool)}
/-- the callee owns Lin and leaves, for some x, the value val x and Lout x -/
def Own {ι : Type} (P : Program) (f : FuncId) (args : List Value) (w : World) (Lin : List Res) (p : ι → Prop) (val : ι → Value) (Lout : ι → List Res) : Prop :=
  Ret P f args w fun u w' => ∃ x, p x ∧ u = val x ∧ WOK (fps Lin) w (Lout x) w'
theorem g_own {ι : Type} {f : FuncId} {xs : List Operand} {vs : List Value} {ts : Array TypeId} (Lin rest : List Res) {p : ι → Prop} {val : ι → Value} {Lout : ι → List Res} [hb : HasB P f] (hxs : xs.map (ev e) = vs.map some)
    (hL : ∀ w, WOK κ.S κ.w0 L w → WOK κ.S κ.w0 (Lin ++ rest) w) (hf : ∀ w, WOK κ.S κ.w0 L w → WOK (fps Lin) w Lin w → Own P f vs w Lin p val Lout) (hd : Nat.blt d κ.N = true)
    (h : ∀ x, p x → G κ ((d, val x) :: e) (Lout x ++ rest) X) :
    G κ e L (owp κ.ρ P ⟨some d, .call { callee := .value (.func f), args := xs.toArray, argTypes := ts }, ty, s, af, gd⟩ Q X) :=
  g_call hxs hd (fun _ _ => True) fun w hw => (hf w hw (hL w hw).own).mono fun u w' ⟨x, hp, hu, hw'⟩ => by
    subst hu
    exact ⟨trivial, _, (hL w hw).join hw', h x hp⟩
end
end Go.Eg
