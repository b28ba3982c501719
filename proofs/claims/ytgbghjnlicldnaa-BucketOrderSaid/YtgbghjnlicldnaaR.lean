/- The ring's plain law: what the slots stand for. No program in sight. -/
import Derived.Test.YtgbghjnlicldnaaS
namespace Go.Eg
open Go.RowKit
/-- a ring's struct: slots, size, first, n -/
structure Rg where
  A : Option Addr
  cap : Nat
  size : Nat
  first : Nat
  n : Nat
  s : List (List Value)
def Rg.c (g : Rg) : List Value := [.slice g.A g.s.length g.cap, .int .i64 g.size, .int .i64 g.first, .int .i64 g.n]
/-- .. stands for the list l of elements of k cells -/
structure Rg.Rep (g : Rg) (k : Nat) (l : List (List Value)) : Prop where
  len : l.length = g.n
  le : g.n ≤ g.s.length
  sz : g.s.length ≤ g.size
  hi : g.size ≤ 1048576
  fst : g.first < g.s.length ∨ (g.s.length = 0 ∧ g.first = 0)
  get : ∀ j, j < g.n → g.s[(g.first + j) % g.s.length]? = l[j]?
  cp : g.s.length ≤ g.cap
  one : ∀ c ∈ g.s, c.length = k ∧ ∀ u ∈ c, u.oneCell' = true
def Rg.grown (g : Rg) (A : Option Addr) (z : List Value) : Rg :=
  { g with A := A, cap := min g.size (2 * g.s.length + 1), first := 0, s := g.s.drop g.first ++ g.s.take g.first ++ List.replicate (min g.size (2 * g.s.length + 1) - g.s.length) z }
theorem Rg.Rep.grown {g : Rg} {k : Nat} {l : List (List Value)} (h : g.Rep k l) (A : Option Addr) {z : List Value} (hz : z.length = k ∧ ∀ u ∈ z, u.oneCell' = true) (hn : g.n = g.s.length) (hs : g.n < g.size) : (g.grown A z).Rep k l ∧ (g.grown A z).n < (g.grown A z).s.length := by
  have h1 := h.le; have h2 := h.sz; have h3 := h.hi; have h4 := h.fst
  have hlen : (g.grown A z).s.length = min g.size (2 * g.s.length + 1) := by simp [Rg.grown]; omega
  refine ⟨⟨h.len, ?_, ?_, h.hi, .inl ?_, fun j hj => ?_, ?_, fun c hc => ?_⟩, ?_⟩
  · rw [hlen]; simp only [Rg.grown]; omega
  · rw [hlen]; simp only [Rg.grown]; omega
  · rw [hlen]; simp only [Rg.grown]; omega
  · rw [hlen]
    have hj' : j < g.n := hj
    rw [← h.get j hj']
    simp only [Rg.grown, Nat.zero_add]
    rw [Nat.mod_eq_of_lt (by omega), List.append_assoc]
    by_cases hjd : j < g.s.length - g.first
    · rw [List.getElem?_append_left (by simp; omega), List.getElem?_drop, Nat.mod_eq_of_lt (by omega)]
    · rw [List.getElem?_append_right (by simp; omega), List.getElem?_append_left (by simp; omega)]
      have e : (g.first + j) % g.s.length = g.first + j - g.s.length := by
        rw [Nat.mod_eq_sub_mod (by omega), Nat.mod_eq_of_lt (by omega)]
      rw [e, List.getElem?_take, if_pos (by simp; omega)]
      congr 1
      simp; omega
  · rw [hlen]; simp [Rg.grown]
  · simp only [Rg.grown, List.mem_append, List.mem_replicate] at hc
    rcases hc with (hc | hc) | hc
    · exact h.one c (List.mem_of_mem_drop hc)
    · exact h.one c (List.mem_of_mem_take hc)
    · rw [hc.2]; exact hz
  · rw [hlen]; simp only [Rg.grown]; omega
theorem mod_two {a m : Nat} (h : a < 2 * m) : a % m = if a < m then a else a - m := by
  split
  · exact Nat.mod_eq_of_lt (by omega)
  · rw [Nat.mod_eq_sub_mod (by omega), Nat.mod_eq_of_lt (by omega)]
def Rg.put (g : Rg) (x : List Value) : Rg := { g with n := g.n + 1, s := g.s.set ((g.first + g.n) % g.s.length) x }
theorem Rg.Rep.put {g : Rg} {k : Nat} {l : List (List Value)} (h : g.Rep k l) {x : List Value} (hx : x.length = k ∧ ∀ u ∈ x, u.oneCell' = true) (hn : g.n < g.s.length) : (g.put x).Rep k (l ++ [x]) := by
  have h4 := h.fst
  have hl : (g.put x).s.length = g.s.length := by simp [Rg.put]
  refine ⟨by simp [Rg.put, h.len], by rw [hl]; exact hn, by rw [hl]; exact h.sz, h.hi, by rw [hl]; exact .inl (by simp only [Rg.put]; omega), fun j hj => ?_, by rw [hl]; exact h.cp, fun c hc => ?_⟩
  · rw [hl]
    simp only [Rg.put] at hj ⊢
    have e1 := mod_two (a := g.first + j) (m := g.s.length) (by omega)
    have e2 := mod_two (a := g.first + g.n) (m := g.s.length) (by omega)
    rw [List.getElem?_set]
    by_cases hjn : j = g.n
    · subst hjn
      rw [if_pos rfl, if_pos (Nat.mod_lt _ (by omega)), List.getElem?_append_right (by rw [h.len]; omega)]
      simp [h.len]
    · rw [if_neg (by rw [e1, e2]; split <;> split <;> omega), h.get j (by omega), List.getElem?_append_left (by rw [h.len]; omega)]
  · rcases List.mem_or_eq_of_mem_set hc with h1 | h1
    · exact h.one c h1
    · rw [h1]; exact hx
def Rg.pop (g : Rg) (z : List Value) : Rg := { g with first := (g.first + 1) % g.s.length, n := g.n - 1, s := g.s.set g.first z }
theorem Rg.Rep.pop {g : Rg} {k : Nat} {x : List Value} {l : List (List Value)} (h : g.Rep k (x :: l)) {z : List Value} (hz : z.length = k ∧ ∀ u ∈ z, u.oneCell' = true) : (g.pop z).Rep k l := by
  have h4 := h.fst
  have h5 := h.len
  have h6 := h.le
  simp only [List.length_cons] at h5
  have hl : (g.pop z).s.length = g.s.length := by simp [Rg.pop]
  refine ⟨by simp only [Rg.pop]; omega, by rw [hl]; simp only [Rg.pop]; omega, by rw [hl]; exact h.sz, h.hi, by rw [hl]; exact .inl (Nat.mod_lt _ (by omega)), fun j hj => ?_, by rw [hl]; exact h.cp, fun c hc => ?_⟩
  · rw [hl]
    simp only [Rg.pop] at hj ⊢
    have e0 := mod_two (a := g.first + 1) (m := g.s.length) (by omega)
    have e1 := mod_two (a := g.first + (j + 1)) (m := g.s.length) (by omega)
    have e2 := mod_two (a := (g.first + 1) % g.s.length + j) (m := g.s.length) (by rw [e0]; split <;> omega)
    have e3 : ((g.first + 1) % g.s.length + j) % g.s.length = (g.first + (j + 1)) % g.s.length := by
      rw [Nat.add_mod, Nat.mod_mod, ← Nat.add_mod]; congr 1; omega
    rw [e3, List.getElem?_set, if_neg (by rw [e1]; split <;> omega), h.get (j + 1) (by omega)]
    simp
  · rcases List.mem_or_eq_of_mem_set hc with h1 | h1
    · exact h.one c h1
    · rw [h1]; exact hz
theorem Rg.Rep.head {g : Rg} {k : Nat} {l : List (List Value)} (h : g.Rep k l) {i : Nat} (hi : i < g.n) : (g.first + i) % g.s.length < g.s.length ∧ ∃ x, g.s[(g.first + i) % g.s.length]? = some x ∧ l[i]? = some x := by
  have h1 := h.le
  have h2 := h.len
  refine ⟨Nat.mod_lt _ (by omega), l[i]'(by omega), ?_, ?_⟩
  · rw [h.get i hi]; exact List.getElem?_eq_getElem _
  · exact List.getElem?_eq_getElem _
def Rg.init (n : Nat) : Rg := ⟨none, 0, n, 0, 0, []⟩
theorem Rg.Rep.init {n k : Nat} (h2 : n ≤ 1048576) : (Rg.init n).Rep k [] :=
  ⟨rfl, Nat.le_refl _, Nat.zero_le _, h2, .inr ⟨rfl, rfl⟩, fun j hj => absurd hj (Nat.not_lt_zero _), Nat.zero_le _, by simp [Rg.init]⟩
def Rg.clear (g : Rg) : Rg := { g with A := none, cap := 0, first := 0, n := 0, s := [] }
theorem Rg.Rep.clear {g : Rg} {k : Nat} {l : List (List Value)} (h : g.Rep k l) : (g.clear).Rep k [] :=
  ⟨rfl, Nat.le_refl _, Nat.zero_le _, h.hi, .inr ⟨rfl, rfl⟩, fun j hj => absurd hj (Nat.not_lt_zero _), Nat.zero_le _, by simp [Rg.clear]⟩
theorem Rg.Rep.at {g : Rg} {k : Nat} {α : Type} {c : α → List Value} {l : List α} (h : g.Rep k (l.map c)) {i : Nat} (hi : i < l.length) : g.s[(g.first + i) % g.s.length]? = some (c l[i]) := by
  have hn : i < g.n := by rw [← h.len]; simpa using hi
  rw [h.get i hn]; exact map_get hi
theorem Rg.Rep.idx {g : Rg} {k : Nat} {α : Type} {c : α → List Value} {l : List α} (h : g.Rep k (l.map c)) {i : Nat} (hi : i < l.length) : (g.first + i) % g.s.length < g.s.length := by
  have hn : i < g.n := by rw [← h.len]; simpa using hi
  exact (h.head hn).1
theorem Rg.Rep.num {g : Rg} {k : Nat} {α : Type} {c : α → List Value} {l : List α} (h : g.Rep k (l.map c)) : g.n = l.length := by rw [← h.len]; simp
/-- the element at i -/
def pk {α : Type} (l : List α) (i : Int) : Option α := if 0 ≤ i then l[i.toNat]? else none
theorem pk_nat {α : Type} (l : List α) (i : Nat) : pk l (i : Int) = l[i]? := by simp [pk]
theorem Rg.Rep.hd {g : Rg} {k : Nat} {α : Type} {c : α → List Value} {x : α} {l : List α} (h : g.Rep k ((x :: l).map c)) : g.first < g.s.length ∧ g.s[g.first]? = some (c x) ∧ g.n = l.length + 1 := by
  have h1 := h.num
  have h2 := h.fst
  have h3 := h.le
  simp only [List.length_cons] at h1
  have h4 : g.first < g.s.length := by omega
  refine ⟨h4, ?_, h1⟩
  have := h.at (i := 0) (by simp)
  rw [Nat.add_zero, Nat.mod_eq_of_lt h4] at this
  simpa using this
end Go.Eg
