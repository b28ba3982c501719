/- prefixes -/
import Derived.Test.YtjfncbgggfammaaWA
namespace Go.Proofs.Ytjfncbgggfammaa
open Go.RowKit Go.Eg
set_option synthInstance.maxSize 3000
set_option linter.unusedSimpArgs false
set_option linter.unusedVariables false
set_option maxRecDepth 100000
theorem bat_pre (lim : Int) (ws : List Int) : ∀ (l : List Int) (s : Int) (f : Bool), batF lim ws l s f = l.take (batF lim ws l s f).length
  | [], _, _ => by simp [batF]
  | i :: l, s, f => by
    have ih := bat_pre lim ws l (budS lim s f (ofW ws i) true) (budF lim s f (ofW ws i) true)
    by_cases h : budB lim s f (ofW ws i) true = true
    · have e : batF lim ws (i :: l) s f = i :: batF lim ws l (budS lim s f (ofW ws i) true) (budF lim s f (ofW ws i) true) := by rw [batF, if_pos h]
      rw [e, List.length_cons, List.take_succ_cons, ← ih]
    · have e : batF lim ws (i :: l) s f = [] := by rw [batF, if_neg h]
      rw [e]; rfl
theorem rdb_drop14 {κ : Cx} {L : List Res} {A : Option Addr} {cap : Nat} {l : List Int} {n : Nat} (hr : Rdb κ L A l.length 1 (l.map fun v : Int => [Value.int .i64 v])) (hh : n ≤ l.length) (hc : l.length ≤ cap) : Rdb κ L (subA A cap n 1) (l.length - n) 1 ((l.drop n).map fun v : Int => [Value.int .i64 v]) := by
  have h8 := Rdb.sub hr (cap := cap) (l := n) (h := l.length) hh (Nat.le_refl _) hc
  rw [← List.map_drop, List.take_of_length_le (by simp)] at h8
  exact h8
end Go.Proofs.Ytjfncbgggfammaa
