/- the count and the steps -/
import Derived.Test.YtjfncbgggfammaaWD
namespace Go.Proofs.Ytjfncbgggfammaa
open Go.RowKit Go.Eg
set_option synthInstance.maxSize 3000
set_option linter.unusedSimpArgs false
set_option linter.unusedVariables false
set_option maxRecDepth 100000
theorem cnt_le (lim : Int) : ∀ (vs : List Int) (st : WSt), (vs.foldl (wstep lim) st).k ≤ st.k + vs.length
  | [], st => by simp
  | v :: vs, st => by
    have h1 : (wstep lim st v).k ≤ st.k + 1 := by unfold wstep; split <;> simp <;> omega
    have h2 := cnt_le lim vs (wstep lim st v)
    rw [List.foldl_cons, List.length_cons]; omega
theorem wait_rng (lim : Int) (ws l : List Int) (w : Int) : 1 ≤ waitV lim ws l w ∧ waitV lim ws l w ≤ (l.length : Int) + 1 := by
  rw [wait_cnt]
  have h1 := cnt_ge lim (l.map (ofW ws) ++ [w]) ⟨1, 0, true⟩
  refine ⟨h1, ?_⟩
  have h0 : ∀ v, (wstep lim ⟨1, 0, true⟩ v).k = 1 := fun v => by unfold wstep; rw [if_pos (by simp [budB])]
  cases l with
  | nil => simp only [List.map_nil, List.nil_append, List.foldl_cons, List.foldl_nil]; rw [h0]; simp
  | cons a t =>
    have h2 := cnt_le lim (t.map (ofW ws) ++ [w]) (wstep lim ⟨1, 0, true⟩ (ofW ws a))
    rw [h0] at h2
    rw [List.map_cons, List.cons_append, List.foldl_cons]
    simp only [List.length_append, List.length_map, List.length_cons, List.length_nil] at *
    omega
theorem wait_app (lim : Int) (ws l : List Int) : waitV lim ws l (ofW ws 0) = cntV lim ws (l ++ [0]) 1 0 true := by
  rw [wait_cnt]; unfold cntV; rw [List.map_append]; rfl
theorem cnt_go {lim : Int} {ws xs : List Int} {k K : Int} (hK : K = cntV lim ws xs k 0 true) (hlt : k < K) : xs.drop (batF lim ws xs 0 true).length ≠ [] ∧ K = cntV lim ws (xs.drop (batF lim ws xs 0 true).length) (k + 1) 0 true := by
  rw [cnt_cut] at hK
  split at hK
  · omega
  · exact ⟨by assumption, hK⟩
theorem cnt_end {lim : Int} {ws xs : List Int} {K : Int} (hK : K = cntV lim ws xs K 0 true) : xs.drop (batF lim ws xs 0 true).length = [] := by
  rw [cnt_cut] at hK
  split at hK
  · assumption
  · have h := cnt_ge lim ((xs.drop (batF lim ws xs 0 true).length).map (ofW ws)) ⟨K + 1, 0, true⟩
    unfold cntV at hK
    simp only at h
    omega
end Go.Proofs.Ytjfncbgggfammaa
