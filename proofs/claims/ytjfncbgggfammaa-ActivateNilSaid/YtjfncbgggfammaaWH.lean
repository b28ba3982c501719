/- the limit of a batch -/
import Derived.Test.YtjfncbgggfammaaWG
namespace Go.Proofs.Ytjfncbgggfammaa
open Go.RowKit Go.Eg
set_option synthInstance.maxSize 3000
set_option linter.unusedSimpArgs false
set_option linter.unusedVariables false
set_option maxRecDepth 100000
theorem bat_at {lim : Int} {ws l : List Int} (h : okU ws) : ∀ k, k ≤ (batF lim ws l 0 true).length → batF lim ws l 0 true = l.take k ++ batF lim ws (l.drop k) (sumN ws l k) (decide (k = 0)) ∧ (1 < k → addB ((l.take k).map (ofW ws)) = true ∧ addV ((l.take k).map (ofW ws)) ≤ lim)
  | 0, _ => ⟨rfl, fun h => absurd h (by omega)⟩
  | k + 1, hk => by
    obtain ⟨e, _⟩ := bat_at (lim := lim) (l := l) h k (by omega)
    have hkl : k < l.length := by have := bat_len lim ws l 0 true; omega
    by_cases hb : k = 0 ∨ (addB ((l.take (k + 1)).map (ofW ws)) = true ∧ addV ((l.take (k + 1)).map (ofW ws)) ≤ lim)
    · refine ⟨by rw [e, rstep_go h hkl hb, ← List.take_append_getElem hkl, List.append_assoc]; rfl, fun h1 => ?_⟩
      rcases hb with hb | hb
      · omega
      · exact hb
    · have hz := rstep_stop (lim := lim) h hkl (fun c => hb (.inl c)) (fun c => hb (.inr c))
      rw [hz, List.append_nil] at e
      have := congrArg List.length e
      simp at this; omega
theorem bat_fit {lim : Int} {ws l : List Int} (h : okU ws) (hl : 0 ≤ lim) (h1 : (batF lim ws l 0 true).length ≠ 1) : addB ((batF lim ws l 0 true).map (ofW ws)) = true ∧ addV ((batF lim ws l 0 true).map (ofW ws)) ≤ lim := by
  by_cases h0 : (batF lim ws l 0 true).length = 0
  · rw [List.length_eq_zero_iff.1 h0]
    exact ⟨rfl, hl⟩
  · have := (bat_at (lim := lim) (l := l) h _ (Nat.le_refl _)).2 (by omega)
    rw [← bat_pre] at this
    exact this
theorem bat_more {lim : Int} {ws l : List Int} (h : okU ws) (hn : (batF lim ws l 0 true).length < l.length) (hf : addB ((batF lim ws l 0 true ++ (l.drop (batF lim ws l 0 true).length).take (min (l.drop (batF lim ws l 0 true).length).length 1)).map (ofW ws)) = true) : ¬ addV ((batF lim ws l 0 true ++ (l.drop (batF lim ws l 0 true).length).take (min (l.drop (batF lim ws l 0 true).length).length 1)).map (ofW ws)) ≤ lim := fun hc => by
  have e : batF lim ws l 0 true ++ (l.drop (batF lim ws l 0 true).length).take (min (l.drop (batF lim ws l 0 true).length).length 1) = l.take ((batF lim ws l 0 true).length + 1) := by
    conv => lhs; arg 1; rw [bat_pre]
    rw [List.take_add, show min (l.drop (batF lim ws l 0 true).length).length 1 = 1 from by simp; omega]
  rw [e] at hf hc
  have h1 := (bat_at (lim := lim) (l := l) h _ (Nat.le_refl _)).1
  have h2 := rstep_go (lim := lim) h hn (.inr ⟨hf, hc⟩)
  rw [h2] at h1
  have := congrArg List.length h1
  simp at this
  omega
end Go.Proofs.Ytjfncbgggfammaa
