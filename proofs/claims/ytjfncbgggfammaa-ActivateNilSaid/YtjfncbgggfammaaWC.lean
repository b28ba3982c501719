/- drains -/
import Derived.Test.YtjfncbgggfammaaWB
namespace Go.Proofs.Ytjfncbgggfammaa
open Go.RowKit Go.Eg
set_option synthInstance.maxSize 3000
set_option linter.unusedSimpArgs false
set_option linter.unusedVariables false
set_option maxRecDepth 100000
theorem bat_ge (lim : Int) (ws l : List Int) (h : l ≠ []) : 1 ≤ (batF lim ws l 0 true).length := by
  cases l with
  | nil => exact absurd rfl h
  | cons a t => rw [batF, if_pos (by simp [budB])]; simp
theorem bat_cat (lim : Int) (ws l : List Int) (k : Nat) : l.take k ++ batF lim ws (l.drop k) 0 true = l.take (k + (batF lim ws (l.drop k) 0 true).length) := by
  conv => lhs; rw [bat_pre]
  rw [List.take_add]
theorem bat_dl (lim : Int) (ws l : List Int) (k : Nat) : (l.drop k).drop (batF lim ws (l.drop k) 0 true).length = l.drop (k + (batF lim ws (l.drop k) 0 true).length) := by rw [List.drop_drop]
theorem bat_dn (lim : Int) (ws l : List Int) (k : Nat) (hk : k ≤ l.length) : k + (batF lim ws (l.drop k) 0 true).length ≤ l.length ∧ (k < l.length → 1 ≤ (batF lim ws (l.drop k) 0 true).length) := by
  have h := bat_len lim ws (l.drop k) 0 true
  simp only [List.length_drop] at h
  refine ⟨by omega, fun hl => bat_ge _ _ _ fun hc => ?_⟩
  have := congrArg List.length hc
  simp at this; omega
end Go.Proofs.Ytjfncbgggfammaa
