/- From the form's reading of an argument to what the walks ask; a law's frame. No program in sight. -/
import Derived.Test.YtgbghjnlicldnaaF
import Derived.ProofKit
import Derived.OpenShut
import Derived.ChangeOld
import Derived.ShutString
namespace Go.Eg
open Go.RowKit Go.ChangeShapes Go.WideShapes Go.ChangeAt

/-- What a reading of cells cs as a T tells: ints that fit, bools, strings, slices that read, struct by struct. -/
def OKc (P : Program) (w : World) : Nat → TypeId → List Value → Prop
  | 0, _, _ => False
  | f + 1, T, cs =>
    match P.underlying T with
    | some .bool => ∃ b, cs = [.bool b]
    | some (.int k) => ∃ n, cs = [.int k n] ∧ (Lit.int k n).wf = true
    | some .string => ∃ s : ByteArray, cs = [.string s] ∧ s.size ≤ maxLen
    | some (.slice e) => ∃ A n cap els, cs = [.slice A n cap] ∧ n ≤ cap ∧ cap ≤ maxLen ∧ (0 < P.cellsOf e → Old w A n (P.cellsOf e) els) ∧ n = els.length ∧ (∀ c ∈ els, c.length = P.cellsOf e) ∧ ∀ c ∈ els, OKc P w f e c
    | some (.struct fs) => cs.length = P.cellsOf T ∧ ∀ x ∈ fs.toList, OKc P w f x.type ((cs.drop x.offset).take (P.cellsOf x.type))
    | some (.array n e) => cs.length = P.cellsOf T ∧ ∀ i, i < n → OKc P w f e ((cs.drop (i * P.cellsOf e)).take (P.cellsOf e))
    | _ => True
theorem trod_OKc {H : Type} {enc : TypeId × Value → H} {P : Program} {w : World} {spare : Nat → Bool} {held : Bool} : ∀ (fuel : Nat) (T : TypeId) (cs : List Value) (x : DataW H × List MemPlace), DataW.trod enc P w 0 spare held fuel T cs = some x → OKc P w fuel T cs
  | 0, T, cs, x, h => by simp [DataW.trod] at h
  | fuel + 1, T, cs, x, h => by
    unfold OKc
    cases hu : P.underlying T with
    | none => trivial
    | some d =>
      cases d with
      | bool => obtain ⟨b, hb, _⟩ := DataW.trod_bool hu h; exact ⟨b, hb⟩
      | int k => obtain ⟨n, hn, _, hw⟩ := DataW.trod_int hu h; exact ⟨n, hn, hw⟩
      | string => obtain ⟨s, hs, _, hl⟩ := DataW.trod_string hu h; exact ⟨s, hs, hl⟩
      | slice e =>
        rcases DataW.trod_slice hu h with ⟨rfl, _⟩ | ⟨a, len, cap, elems, rest, n, hf, rfl, _, _, hle, hm, hlen, hel, _⟩
        · exact ⟨none, 0, 0, [], rfl, Nat.le_refl _, by simp, fun _ => ⟨rfl, by simp, fun h => absurd h (by omega)⟩, rfl, by simp, by simp⟩
        · have hf' : n = fuel := by omega
          subst hf'
          have key : ∀ i, i < len → ∃ c, w.cells? 0 (a.add (i * P.cellsOf e)) (P.cellsOf e) = some c ∧ ∃ y, DataW.trod enc P w 0 spare held n e c = some y := fun i hi => by
            have h1 := hel i hi
            rw [List.getElem?_eq_getElem (by omega)] at h1
            obtain ⟨c, h2, h3⟩ := Option.bind_eq_some_iff.1 h1
            exact ⟨c, h2, _, h3⟩
          obtain ⟨F, hF⟩ : ∃ F : Nat → List Value, ∀ i, i < len → w.cells? 0 (a.add (i * P.cellsOf e)) (P.cellsOf e) = some (F i) ∧ ∃ y, DataW.trod enc P w 0 spare held n e (F i) = some y := by
            refine ⟨fun i => (w.cells? 0 (a.add (i * P.cellsOf e)) (P.cellsOf e)).getD [], fun i hi => ?_⟩
            obtain ⟨c, h1, h2⟩ := key i hi
            exact ⟨by simp only [h1, Option.getD_some], by simpa only [h1, Option.getD_some] using h2⟩
          have hcat : ∀ c ∈ (List.range len).map F, c.length = P.cellsOf e := fun c hc => by
            obtain ⟨i, hi, rfl⟩ := List.mem_map.1 hc
            exact (World.cells?_some (hF i (List.mem_range.1 hi)).1).2.1
          refine ⟨some a, len, cap, (List.range len).map F, rfl, hle, hm, fun hk => ⟨by simp, hcat, fun hn => ?_⟩, by simp, hcat, fun c hc => ?_⟩
          · have hcell : ∀ i o, i < len → o < P.cellsOf e → w.cell? ((a.add (i * P.cellsOf e)).add o) = (F i)[o]? := fun i o hi ho => (World.cells?_some (hF i hi).1).2.2 o ho
            have hlenF : ∀ i, i < len → (F i).length = P.cellsOf e := fun i hi => (World.cells?_some (hF i hi).1).2.1
            have hspot : a.spot = none := by
              have h0 := hcell 0 0 hn hk
              rw [List.getElem?_eq_getElem (by rw [hlenF 0 hn]; exact hk)] at h0
              have := World.cell?_spot h0
              simpa [Addr.add] using this
            obtain ⟨b, o, s⟩ := a
            simp only at hspot
            subst hspot
            refine ⟨rfl, fun j u hu => ?_⟩
            have hjl : j < len * P.cellsOf e := by
              have : j < (((List.range len).map F).flatten).length := by
                rcases Nat.lt_or_ge j (((List.range len).map F).flatten).length with h | h
                · exact h
                · rw [List.getElem?_eq_none h] at hu; cases hu
              rw [flat_len hcat] at this
              simpa using this
            have hi : j / P.cellsOf e < len := by rw [Nat.div_lt_iff_lt_mul hk]; exact hjl
            have ho : j % P.cellsOf e < P.cellsOf e := Nat.mod_lt _ hk
            have hj : j / P.cellsOf e * P.cellsOf e + j % P.cellsOf e = j := by rw [Nat.mul_comm]; exact Nat.div_add_mod _ _
            obtain ⟨v, hv⟩ : ∃ v, (F (j / P.cellsOf e))[j % P.cellsOf e]? = some v := ⟨_, List.getElem?_eq_getElem (by rw [hlenF _ hi]; exact ho)⟩
            have hg := flat_get hcat (i := j / P.cellsOf e) (o := j % P.cellsOf e) (cs := F (j / P.cellsOf e)) (v := v) (by simp [hi]) hv
            rw [hj] at hg
            rw [hg] at hu
            have h1 := hcell _ _ hi ho
            rw [add_none, add_none, Nat.add_assoc, hj] at h1
            simp only [bo_some, oo_some]
            rw [h1, hv]; exact hu
          · obtain ⟨i, hi, rfl⟩ := List.mem_map.1 hc
            obtain ⟨_, y, hy⟩ := hF i (List.mem_range.1 hi)
            exact trod_OKc n e _ y hy
      | struct fs =>
        obtain ⟨xs, n, hf, _, hl, hlen, hx⟩ := DataW.trod_struct hu h
        have hf' : n = fuel := by omega
        subst hf'
        refine ⟨hl, fun f hf => ?_⟩
        obtain ⟨i, hi, rfl⟩ := List.getElem_of_mem hf
        have hi' : i < fs.size := by simpa using hi
        have h1 := hx i fs[i] (Array.getElem?_eq_getElem hi')
        rw [List.getElem?_eq_getElem (by omega)] at h1
        simpa using trod_OKc n _ _ _ h1
      | array m e =>
        obtain ⟨xs, n, hf, _, hl, hlen, hx⟩ := DataW.trod_array hu h
        have hf' : n = fuel := by omega
        subst hf'
        refine ⟨hl, fun i hi => ?_⟩
        have h1 := hx i hi
        rw [List.getElem?_eq_getElem (by omega)] at h1
        exact trod_OKc n _ _ _ h1
      | _ => trivial
/-- .. of an argument -/
def Arg (P : Program) (w : World) (T : TypeId) (v : Value) : Prop := (∃ fuel, OKc P w fuel T v.cells.toList) ∧ match P.underlying T with | some (.struct _) | some (.array _ _) => ∃ cs : List Value, v = .agg cs.toArray ∧ v.cells.toList = cs | some .bool | some (.int _) | some .string | some (.slice _) => v.cells.toList = [v] | _ => True
theorem Arg.of {H : Type} {enc : TypeId × Value → H} {P : Program} {w : World} {spare : Nat → Bool} {held : Bool} {T : TypeId} {v : Value} {d : DataW H} {ps : List MemPlace} {r : Reach} {b : Nat} (h : DataW.Trod enc P w 0 spare held T v d ps) (hv : Value.okWide P w r b T v) : Arg P w T v := by
  obtain ⟨fuel, hf⟩ := h
  have ho := trod_OKc fuel T _ _ hf
  refine ⟨⟨fuel, ho⟩, ?_⟩
  cases hu : P.underlying T with
  | none => trivial
  | some u =>
    cases u <;> simp only
    case bool => obtain ⟨b, rfl⟩ := okWide_bool hu hv; rfl
    case int k => obtain ⟨b, rfl⟩ := okWide_int hu hv; rfl
    case string => obtain ⟨b, rfl⟩ := okWide_string hu hv; rfl
    case slice e => obtain ⟨a, b, c, rfl⟩ := okWide_slice hu hv; rfl
    case struct fs =>
      obtain ⟨cs, rfl, _⟩ := okWide_struct hu hv
      exact ⟨cs.toList, by simp, rfl⟩
    case array n e =>
      unfold Value.okWide at hv
      rw [hu] at hv
      obtain ⟨cs, rfl, _⟩ := hv
      exact ⟨cs.toList, by simp, rfl⟩
theorem int_rng {k : IntKind} {n : Int} (h : (Lit.int k n).wf = true) : k.min ≤ n ∧ n ≤ k.max := by simpa [Lit.wf] using h
section
variable {P : Program} {w : World} {f T : Nat} {cs : List Value}
theorem OKc.int {k : IntKind} (hu : P.underlying T = some (.int k)) (h : OKc P w f T cs) : ∃ n, cs = [.int k n] ∧ k.min ≤ n ∧ n ≤ k.max := by
  cases f with
  | zero => exact h.elim
  | succ f => unfold OKc at h; rw [hu] at h; obtain ⟨n, h1, h2⟩ := h; exact ⟨n, h1, int_rng h2⟩
theorem OKc.bool (hu : P.underlying T = some .bool) (h : OKc P w f T cs) : ∃ b, cs = [.bool b] := by
  cases f with
  | zero => exact h.elim
  | succ f => unfold OKc at h; rw [hu] at h; exact h
theorem OKc.str (hu : P.underlying T = some .string) (h : OKc P w f T cs) : ∃ s : ByteArray, cs = [.string s] ∧ s.size ≤ maxLen := by
  cases f with
  | zero => exact h.elim
  | succ f => unfold OKc at h; rw [hu] at h; exact h
theorem OKc.struct {fs : Array Field} (hu : P.underlying T = some (.struct fs)) (h : OKc P w f T cs) : ∃ f', cs.length = P.cellsOf T ∧ ∀ x ∈ fs.toList, OKc P w f' x.type ((cs.drop x.offset).take (P.cellsOf x.type)) := by
  cases f with
  | zero => exact h.elim
  | succ f => unfold OKc at h; rw [hu] at h; exact ⟨f, h⟩
theorem OKc.array {n e : Nat} (hu : P.underlying T = some (.array n e)) (h : OKc P w f T cs) : ∃ f', cs.length = P.cellsOf T ∧ ∀ i, i < n → OKc P w f' e ((cs.drop (i * P.cellsOf e)).take (P.cellsOf e)) := by
  cases f with
  | zero => exact h.elim
  | succ f => unfold OKc at h; rw [hu] at h; exact ⟨f, h⟩
/-- a slice whose elements read as 'els = l.map c' for some l -/
theorem OKc.slice {e k : Nat} {α : Type} (c : α → List Value) (ok : α → Prop) (hu : P.underlying T = some (.slice e)) (hk : P.cellsOf e = k) (hkp : 0 < k) (he : ∀ f cs, OKc P w f e cs → ∃ x, cs = c x ∧ ok x) (h : OKc P w f T cs) :
    ∃ A cap, ∃ l : List α, cs = [.slice A l.length cap] ∧ l.length ≤ cap ∧ cap ≤ maxLen ∧ Old w A l.length k (l.map c) ∧ ∀ x ∈ l, ok x := by
  cases f with
  | zero => exact h.elim
  | succ f =>
    unfold OKc at h; rw [hu] at h
    obtain ⟨A, n, cap, els, rfl, hle, hm, hold, hn, hcat, hels⟩ := h
    obtain ⟨l, hl, hok⟩ : ∃ l : List α, els = l.map c ∧ ∀ x ∈ l, ok x := by
      clear hold hn hcat
      induction els with
      | nil => exact ⟨[], rfl, by simp⟩
      | cons a r ih =>
        obtain ⟨l, hl, hok⟩ := ih (fun b hb => hels b (by simp [hb]))
        obtain ⟨x, hx, hxo⟩ := he f a (hels a (by simp))
        exact ⟨x :: l, by simp [hx, hl], by simpa using ⟨hxo, hok⟩⟩
    subst hl
    have hn' : n = l.length := by simpa using hn
    subst hn'
    subst hk
    exact ⟨A, cap, l, rfl, hle, hm, hold hkp, hok⟩
theorem Arg.okc {v : Value} (h : Arg P w T v) : ∃ f, OKc P w f T v.cells.toList := h.1
theorem Arg.agg {v : Value} {fs : Array Field} (hu : P.underlying T = some (.struct fs)) (h : Arg P w T v) : ∃ cs : List Value, v = .agg cs.toArray ∧ ∃ f, OKc P w f T cs := by
  obtain ⟨⟨f, ho⟩, hs⟩ := h
  rw [hu] at hs
  obtain ⟨cs, hv, hc⟩ := hs
  rw [hc] at ho
  exact ⟨cs, hv, f, ho⟩
theorem Arg.arr {v : Value} {n e : Nat} (hu : P.underlying T = some (.array n e)) (h : Arg P w T v) : ∃ cs : List Value, v = .agg cs.toArray ∧ ∃ f, OKc P w f T cs := by
  obtain ⟨⟨f, ho⟩, hs⟩ := h
  rw [hu] at hs
  obtain ⟨cs, hv, hc⟩ := hs
  rw [hc] at ho
  exact ⟨cs, hv, f, ho⟩
theorem Arg.int {v : Value} {k : IntKind} (hu : P.underlying T = some (.int k)) (h : Arg P w T v) : ∃ n, v = .int k n ∧ k.min ≤ n ∧ n ≤ k.max := by
  obtain ⟨⟨f, ho⟩, hs⟩ := h
  rw [hu] at hs
  simp only at hs
  rw [hs] at ho
  obtain ⟨n, h1, h2⟩ := OKc.int hu ho
  exact ⟨n, by simpa using h1, h2⟩
theorem Arg.slice {v : Value} {e k : Nat} {α : Type} (c : α → List Value) (ok : α → Prop) (hu : P.underlying T = some (.slice e)) (hk : P.cellsOf e = k) (hkp : 0 < k) (he : ∀ f cs, OKc P w f e cs → ∃ x, cs = c x ∧ ok x) (h : Arg P w T v) :
    ∃ A cap, ∃ l : List α, v = .slice A l.length cap ∧ l.length ≤ cap ∧ cap ≤ maxLen ∧ Old w A l.length k (l.map c) ∧ ∀ x ∈ l, ok x := by
  obtain ⟨⟨f, ho⟩, hs⟩ := h
  rw [hu] at hs
  simp only at hs
  rw [hs] at ho
  obtain ⟨A, cap, l, h1, h2⟩ := OKc.slice c ok hu hk hkp he ho
  exact ⟨A, cap, l, by simpa using h1, h2⟩
end
end Go.Eg
