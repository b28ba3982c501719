/- the order of assignments -/
import Derived.Test.YtmolaicpbaiioaaWB
namespace Go.Proofs.Ytmolaicpbaiioaa
open Go.RowKit Go.Eg
set_option synthInstance.maxSize 3000
set_option linter.unusedSimpArgs false
set_option linter.unusedVariables false
set_option maxRecDepth 100000
def cls (c : Int) (l : List As) : List Int := (l.filter fun a => decide (a.c = c)).map fun a => a.i
theorem cls_app {c : Int} {a b : List As} : cls c (a ++ b) = cls c a ++ cls c b := by simp [cls]
theorem cls_yes {c i e : Int} : cls c [⟨i, c, e⟩] = [i] := by simp [cls]
theorem cls_no {c d i e : Int} (h : d ≠ c) : cls c [⟨i, d, e⟩] = [] := by simp [cls, h]
theorem cls_take {c : Int} {l : List As} {j : Nat} (hj : j < l.length) : cls c (l.take (j + 1)) = cls c (l.take j) ++ cls c [l[j]] := by rw [← List.take_append_getElem hj, cls_app]
theorem cls_one {c : Int} {a : As} (h : a.c = c) : cls c [a] = [a.i] := by obtain ⟨i, d, e⟩ := a; simp only at h; subst h; exact cls_yes
theorem cls_oth {c : Int} {a : As} (h : a.c ≠ c) : cls c [a] = [] := by obtain ⟨i, d, e⟩ := a; exact cls_no h
theorem stepMF_cls {W : List Int} {e : Int} : ∀ {n : Nat} {q : LL} {m : M} {out : List As}, cls 0 (stepMF W e n q m out).1 ++ (stepMF W e n q m out).2.1.f = cls 0 out ++ q.f ∧ cls 1 (stepMF W e n q m out).1 ++ (stepMF W e n q m out).2.1.v = cls 1 out ++ q.v
  | 0, _, _, _ => ⟨rfl, rfl⟩
  | n + 1, q, m, out => by
    unfold stepMF
    split
    · exact ⟨rfl, rfl⟩
    · rename_i hB
      split
      · exact ⟨rfl, rfl⟩
      · obtain ⟨h1, h2⟩ := stepMF_cls (W := W) (e := e) (n := n) (q := popL q) (m := m.take (ofW W (headI q))) (out := out ++ [⟨headI q, headC q, e + 1⟩])
        rw [h1, h2, cls_app, cls_app]
        obtain ⟨f, v⟩ := q
        match f, v, hB with
        | x :: f, v, _ => exact ⟨by simp [headI, headC, popL, cls_yes], by simp [headI, headC, popL, cls_no]⟩
        | [], y :: v, _ => exact ⟨by simp [headI, headC, popL, cls_no], by simp [headI, headC, popL, cls_yes]⟩
        | [], [], hB => exact absurd rfl hB
theorem stepMF_el {W : List Int} {e : Int} : ∀ {n : Nat} {q : LL} {m : M} {out : List As}, (∀ a ∈ out, (a.c = 0 ∨ a.c = 1) ∧ a.e = e + 1) → ∀ a ∈ (stepMF W e n q m out).1, (a.c = 0 ∨ a.c = 1) ∧ a.e = e + 1
  | 0, _, _, _, h => h
  | n + 1, q, m, out, h => by
    unfold stepMF
    split
    · exact h
    · split
      · exact h
      · refine stepMF_el fun a ha => ?_
        rcases List.mem_append.1 ha with ha | ha
        · exact h a ha
        · simp at ha; subst ha
          refine ⟨?_, rfl⟩
          obtain ⟨f, v⟩ := q
          cases f <;> cases v <;> simp [headC]
theorem stepM_el {W : List Int} {e lim : Int} {q : LL} {m : M} {st : List As × LL × M} (hst : stepM W e lim q m = st) : ∀ a ∈ st.1, (a.c = 0 ∨ a.c = 1) ∧ a.e = e + 1 := by
  subst hst
  exact stepMF_el (by simp)
theorem pushA0 {sz : Nat} : ∀ {is : List Int} {q : LL}, (pushA sz 0 is q).v = q.v ∧ (q.f.length + is.length ≤ sz → (pushA sz 0 is q).f = q.f ++ is)
  | [], q => by simp [pushA]
  | i :: is, q => by
    have h := pushA0 (sz := sz) (is := is) (q := pushL sz 0 i q)
    have e : pushA sz 0 (i :: is) q = pushA sz 0 is (pushL sz 0 i q) := rfl
    rw [e]
    refine ⟨by rw [h.1]; unfold pushL; rw [if_pos rfl]; split <;> rfl, fun hl => ?_⟩
    simp only [List.length_cons] at hl
    have e2 : pushL sz 0 i q = ⟨q.f ++ [i], q.v⟩ := by simp [pushL, show q.f.length < sz by omega]
    rw [h.2 (by rw [e2]; simp; omega), e2]; simp
theorem pushA1 {sz : Nat} : ∀ {is : List Int} {q : LL}, (pushA sz 1 is q).f = q.f ∧ (q.v.length + is.length ≤ sz → (pushA sz 1 is q).v = q.v ++ is)
  | [], q => by simp [pushA]
  | i :: is, q => by
    have h := pushA1 (sz := sz) (is := is) (q := pushL sz 1 i q)
    have e : pushA sz 1 (i :: is) q = pushA sz 1 is (pushL sz 1 i q) := rfl
    rw [e]
    have n1 : ¬ ((1 : Int) = 0) := by decide
    refine ⟨by rw [h.1]; unfold pushL; rw [if_neg n1, if_pos rfl]; split <;> rfl, fun hl => ?_⟩
    simp only [List.length_cons] at hl
    have e2 : pushL sz 1 i q = ⟨q.f, q.v ++ [i]⟩ := by simp [pushL, show q.v.length < sz by omega]
    rw [h.2 (by rw [e2]; simp; omega), e2]; simp
theorem ord_next {W : List Int} {e lim : Int} {q : LL} {m : M} {r : Ro} {pu : LL} {st : List As × LL × M} {P0 Q0 P1 Q1 : List Int} (hpu : pushR 500 r q = pu) (hst : stepM W e lim pu m = st) (h0 : P0.length ≤ 500 → P0 = Q0 ++ q.f) (h1 : P1.length ≤ 500 → P1 = Q1 ++ q.v) :
    ((P0 ++ r.f).length ≤ 500 → P0 ++ r.f = (Q0 ++ cls 0 st.1) ++ st.2.1.f) ∧ ((P1 ++ r.v).length ≤ 500 → P1 ++ r.v = (Q1 ++ cls 1 st.1) ++ st.2.1.v) := by
  subst hst
  have hc := stepMF_cls (W := W) (e := e) (n := lenL pu + 1) (q := pu) (m := m.grant lim) (out := [])
  unfold stepM
  have e0 : pu.f = (pushA 500 0 r.f q).f := by rw [← hpu]; exact pushA1.1
  have e1 : pu.v = (pushA 500 1 r.v (pushA 500 0 r.f q)).v := by rw [← hpu]; rfl
  constructor
  · intro hl
    simp only [List.length_append] at hl
    have h2 := h0 (by omega)
    have h3 := congrArg List.length h2
    simp only [List.length_append] at h3
    rw [List.append_assoc, hc.1, e0, (pushA0 (sz := 500)).2 (by omega), h2]
    simp [cls]
  · intro hl
    simp only [List.length_append] at hl
    have h2 := h1 (by omega)
    have h3 := congrArg List.length h2
    simp only [List.length_append] at h3
    rw [List.append_assoc, hc.2, e1, (pushA1 (sz := 500)).2 (by rw [(pushA0 (sz := 500)).1]; omega), (pushA0 (sz := 500)).1, h2]
    simp [cls]
theorem rdb_take {κ : Cx} {L : List Res} {A : Option Addr} {cap : Nat} {l : List Int} {h : Nat} (hr : Rdb κ L A l.length 1 (l.map fun v : Int => [Value.int .i64 v])) (hh : h ≤ l.length) (hc : l.length ≤ cap) : Rdb κ L (subA A cap 0 1) h 1 ((l.take h).map fun v : Int => [Value.int .i64 v]) := by
  have h8 := Rdb.sub hr (cap := cap) (l := 0) (h := h) (Nat.zero_le _) hh hc
  rw [Nat.sub_zero, List.drop_zero, ← List.map_take] at h8
  exact h8
theorem ord_end {P Q f : List Int} (h : P = Q ++ f) : Q.length ≤ P.length ∧ Q = P.take Q.length := by
  subst h; simp
end Go.Proofs.Ytmolaicpbaiioaa
