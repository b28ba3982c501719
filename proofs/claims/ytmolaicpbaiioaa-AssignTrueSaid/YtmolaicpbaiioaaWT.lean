/- a forecast comes true -/
import Derived.Test.YtmolaicpbaiioaaWB
import Derived.Test.YtmolaicpbaiioaaWF
namespace Go.Proofs.Ytmolaicpbaiioaa
open Go.RowKit Go.Eg
set_option synthInstance.maxSize 3000
set_option linter.unusedSimpArgs false
set_option linter.unusedVariables false
set_option maxRecDepth 100000
def rg (n : Nat) : List Int := (List.range n).map fun i => ((i : Nat) : Int)
theorem rg_len (n : Nat) : (rg n).length = n := by simp [rg]
theorem rg_succ (n : Nat) : rg (n + 1) = rg n ++ [((n : Nat) : Int)] := by simp [rg, List.range_succ]
theorem rg_drop {n i : Nat} (h : i < n) : (rg n).drop i = ((i : Nat) : Int) :: (rg n).drop (i + 1) := by
  have h2 : i < (rg n).length := by rw [rg_len]; exact h
  rw [List.drop_eq_getElem_cons h2]
  simp [rg]
theorem rg_push {k : Nat} (h : k < 30) : pushE 30 1 (LL.mk [] (rg k)) = 0 ∧ pushL 30 1 ((k : Nat) : Int) (LL.mk [] (rg k)) = LL.mk [] (rg (k + 1)) := by
  have h2 := rg_len k
  have n1 : ¬ ((1 : Int) = 0) := by decide
  constructor
  · unfold pushE; rw [if_neg n1, if_pos rfl, if_pos (by show (rg k).length < 30; omega)]
  · unfold pushL; rw [if_neg n1, if_pos rfl, if_pos (by show (rg k).length < 30; omega), rg_succ]
def asr (e : Int) (a n : Nat) : List As := (List.range' a n).map fun i => As.mk ((i : Nat) : Int) 1 (e + 1)
theorem stepMF_true {ws : List Int} (hW : ∀ x ∈ ws, 0 ≤ x) {e lim k : Int} (hl : 0 ≤ lim) (hk : 0 < k ∧ k < 2147483648) : ∀ {n nx : Nat} {m : M} {out : List As}, nx ≤ ws.length → ws.length - nx < n → m.ok →
    ∃ j, nx ≤ j ∧ j ≤ ws.length ∧ (stepMF ws e n (LL.mk [] ((rg ws.length).drop nx)) m out).1 = out ++ asr e nx (j - nx) ∧ (stepMF ws e n (LL.mk [] ((rg ws.length).drop nx)) m out).2.1 = LL.mk [] ((rg ws.length).drop j) ∧
      fcF lim (ws.drop nx) k m.bal = List.replicate (j - nx) k ++ fcF lim (ws.drop j) (k + 1) ((stepMF ws e n (LL.mk [] ((rg ws.length).drop nx)) m out).2.2.bal + lim) ∧ (stepMF ws e n (LL.mk [] ((rg ws.length).drop nx)) m out).2.2.bal ≤ m.bal ∧ (stepMF ws e n (LL.mk [] ((rg ws.length).drop nx)) m out).2.2.ok
  | 0, nx, m, out, _, h, _ => by omega
  | n + 1, nx, m, out, hx, hn, hm => by
    have hb := bal_rng m
    by_cases hlt : nx < ws.length
    · have hB : headB (LL.mk [] ((rg ws.length).drop nx)) = true := by rw [rg_drop hlt]; rfl
      have hI : headI (LL.mk [] ((rg ws.length).drop nx)) = ((nx : Nat) : Int) := by rw [rg_drop hlt]; rfl
      have hC : headC (LL.mk [] ((rg ws.length).drop nx)) = 1 := by rw [rg_drop hlt]; rfl
      have hP : popL (LL.mk [] ((rg ws.length).drop nx)) = LL.mk [] ((rg ws.length).drop (nx + 1)) := by rw [rg_drop hlt]; rfl
      have hw : ofW ws ((nx : Nat) : Int) = ws[nx] := ofW_hi hlt
      have h0 := hW ws[nx] (List.getElem_mem hlt)
      by_cases hT : m.bal < ws[nx]
      · rw [stepMF_stop hB (by rw [hI, hw]; exact hT)]
        refine ⟨nx, Nat.le_refl _, hx, by simp [asr], rfl, ?_, Int.le_refl _, hm⟩
        rw [Nat.sub_self, List.replicate_zero, List.nil_append]
        refine fc_skip hl hk fun w hw => ?_
        rw [List.drop_eq_getElem_cons hlt] at hw
        have h9 := Option.some.inj hw
        show m.bal < w
        omega
      · rw [stepMF_go hB (by rw [hI, hw]; exact hT), hP, hI, hC, hw]
        obtain ⟨t1, _⟩ := take_bal hm h0 hT
        obtain ⟨j, j1, j2, j3, j4, j5, j6, j7⟩ := stepMF_true hW (e := e) hl hk (n := n) (nx := nx + 1) (m := m.take ws[nx]) (out := out ++ [⟨((nx : Nat) : Int), 1, e + 1⟩]) hlt (by omega) (take_ok hm _)
        refine ⟨j, by omega, j2, ?_, j4, ?_, by omega, j7⟩
        · rw [j3]
          have e1 : j - nx = (j - (nx + 1)) + 1 := by omega
          rw [e1]
          simp [asr, List.range'_succ]
        · rw [fc_c hlt hk.1 (by omega), ← t1, j5]
          have e1 : j - nx = (j - (nx + 1)) + 1 := by omega
          rw [e1, List.replicate_succ]; rfl
    · obtain rfl : nx = ws.length := by omega
      have hd : (rg ws.length).drop ws.length = [] := List.drop_eq_nil_of_le (by rw [rg_len]; exact Nat.le_refl _)
      rw [hd, stepMF_end rfl]
      obtain ⟨d1, _⟩ := drop_bal hm
      refine ⟨ws.length, Nat.le_refl _, Nat.le_refl _, by simp [asr], by rw [hd], ?_, by show m.drop.bal ≤ _; omega, drop_ok hm⟩
      rw [List.drop_length, Nat.sub_self]; rfl
theorem step_true {ws wnt : List Int} (hW : ∀ x ∈ ws, 0 ≤ x) {e lim k : Int} {nx : Nat} {m : M} {st : List As × LL × M} (hst : stepM ws e lim (LL.mk [] ((rg ws.length).drop nx)) m = st) (hl : 0 ≤ lim) (hk : 0 < k ∧ k < 2147483648) (hx : nx ≤ ws.length) (hm : m.ok) (hb : m.bal + lim ≤ 1000000000000000000)
    (hw : wnt.drop nx = fcF lim (ws.drop nx) k (m.bal + lim)) :
    st.2.1 = LL.mk [] ((rg ws.length).drop (nx + st.1.length)) ∧ nx + st.1.length ≤ ws.length ∧ (∀ a : Nat, (h : a < st.1.length) → st.1[a].i = ((nx + a : Nat) : Int)) ∧ (∀ a : Nat, a < st.1.length → wnt[nx + a]? = some k) ∧ wnt.drop (nx + st.1.length) = fcF lim (ws.drop (nx + st.1.length)) (k + 1) (st.2.2.bal + lim) ∧ st.2.2.bal ≤ m.bal + lim ∧ st.2.2.ok := by
  obtain ⟨g1, _⟩ := grant_bal hm hl (by omega)
  have hlen : lenL (LL.mk [] ((rg ws.length).drop nx)) = ws.length - nx := by simp [lenL, rg_len]
  obtain ⟨j, j1, j2, j3, j4, j5, j6, j7⟩ := stepMF_true hW (e := e) hl hk (n := lenL (LL.mk [] ((rg ws.length).drop nx)) + 1) (nx := nx) (m := m.grant lim) (out := []) hx (by omega) (grant_ok hm lim)
  subst hst
  unfold stepM
  rw [g1] at j5 j6
  have e1 : (stepMF ws e (lenL (LL.mk [] ((rg ws.length).drop nx)) + 1) (LL.mk [] ((rg ws.length).drop nx)) (m.grant lim) []).1.length = j - nx := by rw [j3]; simp [asr]
  have e2 : nx + (j - nx) = j := by omega
  have hw2 : wnt.drop nx = List.replicate (j - nx) k ++ fcF lim (ws.drop j) (k + 1) ((stepMF ws e (lenL (LL.mk [] ((rg ws.length).drop nx)) + 1) (LL.mk [] ((rg ws.length).drop nx)) (m.grant lim) []).2.2.bal + lim) := by rw [hw, j5]
  refine ⟨?_, ?_, ?_, ?_, ?_, j6, j7⟩
  · rw [e1, e2]; exact j4
  · rw [e1]; omega
  · intro a h
    have h2 : a < j - nx := by rw [e1] at h; exact h
    have h3 : (stepMF ws e (lenL (LL.mk [] ((rg ws.length).drop nx)) + 1) (LL.mk [] ((rg ws.length).drop nx)) (m.grant lim) []).1[a]? = some ⟨((nx + a : Nat) : Int), 1, e + 1⟩ := by
      rw [j3]; simp [asr, h2]
    rw [List.getElem?_eq_getElem h] at h3
    rw [Option.some.inj h3]
  · intro a h
    rw [e1] at h
    rw [← List.getElem?_drop, hw2, List.getElem?_append_left (by simpa using h)]
    simp [h]
  · rw [e1, e2]
    have h4 : wnt.drop j = (wnt.drop nx).drop (j - nx) := by rw [List.drop_drop, e2]
    rw [h4, hw2, List.drop_left' (by simp)]
end Go.Proofs.Ytmolaicpbaiioaa
