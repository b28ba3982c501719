/- the count of boundaries -/
import Derived.Test.YtjfncbgggfammaaWC
namespace Go.Proofs.Ytjfncbgggfammaa
open Go.RowKit Go.Eg
set_option synthInstance.maxSize 3000
set_option linter.unusedSimpArgs false
set_option linter.unusedVariables false
set_option maxRecDepth 100000
def cntV (lim : Int) (ws xs : List Int) (k s : Int) (f : Bool) : Int := ((xs.map (ofW ws)).foldl (wstep lim) ⟨k, s, f⟩).k
theorem cnt_cut (lim : Int) (ws : List Int) : ∀ (xs : List Int) (k s : Int) (f : Bool), cntV lim ws xs k s f = if xs.drop (batF lim ws xs s f).length = [] then k else cntV lim ws (xs.drop (batF lim ws xs s f).length) (k + 1) 0 true
  | [], k, s, f => by simp [cntV]
  | i :: r, k, s, f => by
    have h0 : budB lim 0 true (ofW ws i) true = true := by simp [budB]
    by_cases h : budB lim s f (ofW ws i) true = true
    · have e : batF lim ws (i :: r) s f = i :: batF lim ws r (budS lim s f (ofW ws i) true) (budF lim s f (ofW ws i) true) := by rw [batF, if_pos h]
      have e2 : cntV lim ws (i :: r) k s f = cntV lim ws r k (budS lim s f (ofW ws i) true) (budF lim s f (ofW ws i) true) := by
        unfold cntV
        rw [List.map_cons, List.foldl_cons, wstep, if_pos h]
      rw [e2, e, List.length_cons, List.drop_succ_cons]
      exact cnt_cut lim ws r _ _ _
    · have e : batF lim ws (i :: r) s f = [] := by rw [batF, if_neg h]
      rw [e, List.length_nil, List.drop_zero, if_neg (by simp)]
      unfold cntV
      rw [List.map_cons, List.foldl_cons, List.foldl_cons, wstep, if_neg h, wstep, if_pos h0]
theorem wait_cnt (lim : Int) (ws l : List Int) (w : Int) : waitV lim ws l w = ((l.map (ofW ws) ++ [w]).foldl (wstep lim) ⟨1, 0, true⟩).k := by
  rw [List.foldl_append]
  unfold waitV waitL
  simp only [List.foldl_cons, List.foldl_nil, wstep]
  split <;> rfl
theorem wstep_ge (lim : Int) (st : WSt) (w : Int) : st.k ≤ (wstep lim st w).k := by
  unfold wstep; split <;> simp <;> omega
theorem cnt_ge (lim : Int) : ∀ (vs : List Int) (st : WSt), st.k ≤ (vs.foldl (wstep lim) st).k
  | [], st => by simp
  | v :: vs, st => by
    have h1 := wstep_ge lim st v
    have h2 := cnt_ge lim vs (wstep lim st v)
    rw [List.foldl_cons]; omega
end Go.Proofs.Ytjfncbgggfammaa
