/- sums of a step -/
import Derived.Test.YtmolaicpbaiioaaWQ
namespace Go.Proofs.Ytmolaicpbaiioaa
open Go.RowKit Go.Eg
set_option synthInstance.maxSize 3000
set_option linter.unusedSimpArgs false
set_option linter.unusedVariables false
set_option maxRecDepth 100000
theorem bal_rng (m : M) : 0 ≤ m.bal ∧ m.bal ≤ 18446744073709551615 := by simp only [M.bal, UU_eq]; omega
theorem take_bal {m : M} (h : m.ok) {x : Int} (h0 : 0 ≤ x) (hx : ¬ m.bal < x) : (m.take x).bal = m.bal - x ∧ (m.take x).spent = UU (m.spent + x) := by
  obtain ⟨h1, h2, h3, h4⟩ := h
  unfold M.take
  rw [if_neg hx]
  simp only [M.bal, M.spent, UU_eq] at *
  omega
theorem drop_bal {m : M} (h : m.ok) : m.drop.bal = 0 ∧ m.drop.spent = m.spent := by
  obtain ⟨h1, h2, h3, h4⟩ := h
  refine ⟨?_, rfl⟩
  simp only [M.drop, M.bal, UU_eq]; omega
theorem grant_bal {m : M} (h : m.ok) {x : Int} (h0 : 0 ≤ x) (hx : m.bal + x ≤ 18446744073709551615) : (m.grant x).bal = m.bal + x ∧ (m.grant x).spent = 0 := by
  obtain ⟨h1, h2, h3, h4⟩ := h
  simp only [M.grant, M.bal, M.spent, UU_eq] at *
  omega
def sumW (W : List Int) (l : List As) : Int := (l.map fun a => ofW W a.i).sum
theorem sumW_app {W : List Int} {a b : List As} : sumW W (a ++ b) = sumW W a + sumW W b := by simp [sumW, List.sum_append]
theorem sumW_nn {W : List Int} (hW : ∀ x ∈ W, 0 ≤ x) (l : List As) : 0 ≤ sumW W l := by
  induction l with
  | nil => simp [sumW]
  | cons a l ih =>
    have := ofW_nn hW a.i
    simp only [sumW, List.map_cons, List.sum_cons] at *
    omega
theorem sumW_take {W : List Int} (hW : ∀ x ∈ W, 0 ≤ x) {l : List As} {j : Nat} (hj : j < l.length) : sumW W (l.take (j + 1)) = sumW W (l.take j) + ofW W l[j].i ∧ sumW W (l.take (j + 1)) ≤ sumW W l ∧ 0 ≤ sumW W (l.take j) ∧ 0 ≤ ofW W l[j].i := by
  refine ⟨?_, ?_, sumW_nn hW _, ofW_nn hW _⟩
  · rw [← List.take_append_getElem hj, sumW_app]; simp [sumW]
  · have e : sumW W l = sumW W (l.take (j + 1)) + sumW W (l.drop (j + 1)) := by rw [← sumW_app, List.take_append_drop]
    have := sumW_nn hW (l.drop (j + 1))
    omega
theorem stepMF_sum {W : List Int} {e : Int} (hW : ∀ x ∈ W, 0 ≤ x) : ∀ {n : Nat} {q : LL} {m : M} {out : List As}, m.ok → lenL q < n →
    ∃ S, sumW W (stepMF W e n q m out).1 = sumW W out + S ∧ 0 ≤ S ∧ S ≤ m.bal ∧ (stepMF W e n q m out).2.2.spent = UU (m.spent + S) ∧ (headB (stepMF W e n q m out).2.1 = true → (stepMF W e n q m out).2.2.bal = m.bal - S ∧ (stepMF W e n q m out).2.2.bal < ofW W (headI (stepMF W e n q m out).2.1)) ∧
      (headB (stepMF W e n q m out).2.1 = false → (stepMF W e n q m out).2.2.bal = 0) ∧ (stepMF W e n q m out).2.2.bal ≤ m.bal
  | 0, q, m, out, _, h => by omega
  | n + 1, q, m, out, h, hn => by
    have hb := bal_rng m
    have hs : UU (m.spent + 0) = m.spent := by simp only [M.spent, UU_eq]; omega
    cases hB : headB q with
    | false =>
      rw [stepMF_end hB]
      obtain ⟨d1, d2⟩ := drop_bal h
      exact ⟨0, by simp, by omega, by omega, by rw [hs, d2], fun hc => by rw [hB] at hc; exact absurd hc (by decide), fun _ => d1, by rw [d1]; omega⟩
    | true =>
      by_cases hT : m.bal < ofW W (headI q)
      · rw [stepMF_stop hB hT]
        exact ⟨0, by simp, by omega, by omega, by rw [hs], fun _ => ⟨by show m.bal = _; omega, hT⟩, fun hc => by rw [hB] at hc; exact absurd hc (by decide), Int.le_refl _⟩
      · rw [stepMF_go hB hT]
        have hw := ofW_nn hW (headI q)
        obtain ⟨t1, t2⟩ := take_bal h hw hT
        have hl := popL_lt hB
        obtain ⟨S, s1, s2, s3, s4, s5, s6, s7⟩ := stepMF_sum hW (e := e) (n := n) (q := popL q) (m := m.take (ofW W (headI q))) (out := out ++ [⟨headI q, headC q, e + 1⟩]) (take_ok h _) (by omega)
        refine ⟨S + ofW W (headI q), ?_, by omega, by omega, ?_, ?_, s6, by omega⟩
        · rw [s1, sumW_app]; simp [sumW]; omega
        · rw [s4, t2]; simp only [UU_eq]; omega
        · intro hc
          obtain ⟨c1, c2⟩ := s5 hc
          exact ⟨by omega, c2⟩
theorem stepM_sum {W : List Int} {e lim : Int} {q : LL} {m : M} {st : List As × LL × M} (hst : stepM W e lim q m = st) (hW : ∀ x ∈ W, 0 ≤ x) (h : m.ok) (hl : 0 ≤ lim) (hb : m.bal + lim ≤ 1000000000000000000) :
    0 ≤ sumW W st.1 ∧ sumW W st.1 ≤ m.bal + lim ∧ st.2.2.spent = sumW W st.1 ∧ (headB st.2.1 = true → st.2.2.bal < ofW W (headI st.2.1)) ∧ (headB st.2.1 = false → st.2.2.bal = 0) ∧ st.2.2.bal ≤ m.bal + lim ∧ st.2.2.ok := by
  obtain ⟨g1, g2⟩ := grant_bal h hl (by omega)
  have hok := (stepM_of (W := W) (e := e) (lim := lim) (q := q) hW hl h).2
  subst hst
  unfold stepM at hok ⊢
  obtain ⟨S, s1, s2, s3, s4, s5, s6, s7⟩ := stepMF_sum hW (e := e) (n := lenL q + 1) (q := q) (m := m.grant lim) (out := []) (grant_ok h lim) (by omega)
  have hb2 := bal_rng m
  have s1' : sumW W (stepMF W e (lenL q + 1) q (m.grant lim) []).1 = S := by rw [s1]; simp [sumW]
  rw [s1']
  refine ⟨s2, by omega, ?_, fun hc => (s5 hc).2, s6, by omega, hok⟩
  rw [s4, g2]
  simp only [UU_eq]; omega
theorem stepM_cnt {W : List Int} {q : LL} {m : M} {e lim : Int} {st : List As × LL × M} (hst : stepM W e lim q m = st) : st.1.length ≤ lenL q + 1 := by
  subst hst
  have := stepMF_len (W := W) (e := e) (n := lenL q + 1) (q := q) (m := m.grant lim) (out := [])
  unfold stepM; simp only [List.length_nil] at this; omega
end Go.Proofs.Ytmolaicpbaiioaa
