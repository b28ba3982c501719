/- rounds -/
import Derived.Test.YtmolaicpbaiioaaW9
import Derived.Test.YtmolaicpbaiioaaH
namespace Go.Proofs.Ytmolaicpbaiioaa
open Go.RowKit Go.Eg
set_option synthInstance.maxSize 3000
set_option linter.unusedSimpArgs false
set_option linter.unusedVariables false
set_option maxRecDepth 100000
structure Ro where
  fA : Option Addr
  fc : Nat
  f : List Int
  vA : Option Addr
  vc : Nat
  v : List Int
  lim : Int
def Ro.c (x : Ro) : List Value := [.slice x.fA x.f.length x.fc, .slice x.vA x.v.length x.vc, .int .u64 x.lim]
structure Ro.ok (w : World) (x : Ro) : Prop where
  f : Old w x.fA x.f.length 1 (x.f.map (fun v : Int => [Value.int .i64 v]))
  fc : x.f.length ≤ x.fc
  v : Old w x.vA x.v.length 1 (x.v.map (fun v : Int => [Value.int .i64 v]))
  vc : x.v.length ≤ x.vc
  lim : 0 ≤ x.lim ∧ x.lim ≤ 18446744073709551615
theorem openRo {w : World} (f : Nat) (cs : List Value) (h : OKc Try.prog w f 37 cs) : ∃ x : Ro, cs = x.c ∧ x.ok w := by
  obtain ⟨f, hl, h⟩ := OKc.struct Try.underlying37 h
  have hT : Try.prog.cellsOf 37 = 3 := by kernel_rfl
  have hcS : Try.prog.cellsOf 31 = 1 := by kernel_rfl
  have hcU : Try.prog.cellsOf 35 = 1 := by kernel_rfl
  rw [hT] at hl
  obtain ⟨c0, c1, c2, rfl⟩ : ∃ c0 c1 c2 : Value, cs = [c0, c1, c2] := by
    match cs, hl with
    | [c0, c1, c2], _ => exact ⟨_, _, _, rfl⟩
  simp only [List.mem_cons, List.not_mem_nil, or_false, forall_eq_or_imp, forall_eq, hcS, hcU, List.drop_zero, List.drop_succ_cons, List.take_succ_cons, List.take_zero] at h
  obtain ⟨h0, h1, h2⟩ := h
  obtain ⟨B, bc, l, e0, hle, hm, hold, _⟩ := OKc.slice (fun v : Int => [Value.int .i64 v]) (fun _ => True) Try.underlying31 (show Try.prog.cellsOf 3 = 1 by kernel_rfl) (by omega) (fun f cs h => by obtain ⟨x, hx, _⟩ := OKc.int Try.underlying3 h; exact ⟨x, hx, trivial⟩) h0
  obtain ⟨B2, bc2, l2, e1, hle2, hm2, hold2, _⟩ := OKc.slice (fun v : Int => [Value.int .i64 v]) (fun _ => True) Try.underlying31 (show Try.prog.cellsOf 3 = 1 by kernel_rfl) (by omega) (fun f cs h => by obtain ⟨x, hx, _⟩ := OKc.int Try.underlying3 h; exact ⟨x, hx, trivial⟩) h1
  obtain ⟨x2, e2, r2⟩ := OKc.int Try.underlying35 h2
  obtain rfl : c0 = _ := by simpa using e0
  obtain rfl : c1 = _ := by simpa using e1
  obtain rfl : c2 = _ := by simpa using e2
  exact ⟨⟨B, bc, l, B2, bc2, l2, x2⟩, rfl, hold, hle, hold2, hle2, r2⟩
def fewB (l : List Ro) : Bool := decide (l.length ≤ 40 ∧ ∀ r ∈ l, r.f.length ≤ 20 ∧ r.v.length ≤ 20)
def pushA (sz : Nat) (c : Int) (is : List Int) (q : LL) : LL := is.foldl (fun q i => pushL sz c i q) q
def pushR (sz : Nat) (r : Ro) (q : LL) : LL := pushA sz 1 r.v (pushA sz 0 r.f q)
theorem pushA_succ {sz : Nat} {c : Int} {is : List Int} {q : LL} {k : Nat} (h : k < is.length) : pushA sz c (is.take (k + 1)) q = pushL sz c is[k] (pushA sz c (is.take k) q) := by
  unfold pushA
  rw [← List.take_append_getElem h, List.foldl_append]; rfl
theorem pushA_len {sz : Nat} {c : Int} {is : List Int} {q : LL} (h : q.f.length ≤ sz ∧ q.v.length ≤ sz) : (pushA sz c is q).f.length ≤ sz ∧ (pushA sz c is q).v.length ≤ sz := by
  induction is generalizing q with
  | nil => exact h
  | cons i is ih => exact ih (pushL_len c i h)
theorem pushR_len {sz : Nat} {r : Ro} {q : LL} (h : q.f.length ≤ sz ∧ q.v.length ≤ sz) : (pushR sz r q).f.length ≤ sz ∧ (pushR sz r q).v.length ≤ sz := pushA_len (pushA_len h)
theorem stepR_len {W : List Int} {e lim : Int} {q : LL} {m : R} {sz : Nat} (h : q.f.length ≤ sz ∧ q.v.length ≤ sz) : (stepR W e lim q m).2.1.f.length ≤ sz ∧ (stepR W e lim q m).2.1.v.length ≤ sz := by
  suffices h3 : ∀ {n : Nat} {q : LL} {m : R} {out : List As}, (stepF W e n q m out).2.1.f.length ≤ q.f.length ∧ (stepF W e n q m out).2.1.v.length ≤ q.v.length by
    have := h3 (n := lenL q + 1) (q := q) (m := m.grant lim) (out := [])
    unfold stepR; omega
  intro n
  induction n with
  | zero => intro q m out; simp [stepF]
  | succ n ih =>
    intro q m out
    unfold stepF
    split
    · simp
    · split
      · simp
      · have h1 := ih (q := popL q) (m := m.take (ofW W (headI q))) (out := out ++ [⟨headI q, headC q, e + 1⟩])
        have h2 := popL_len q
        omega
end Go.Proofs.Ytmolaicpbaiioaa
