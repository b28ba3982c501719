/- the reference wait -/
import Derived.Test.YtjfncbgggfammaaWE
namespace Go.Proofs.Ytjfncbgggfammaa
open Go.RowKit Go.Eg
set_option synthInstance.maxSize 3000
set_option linter.unusedSimpArgs false
set_option linter.unusedVariables false
set_option maxRecDepth 100000
def rgI (n : Nat) : List Int := (List.range n).map fun i : Nat => (i : Int)
theorem rgI_succ (n : Nat) : rgI n ++ [(n : Int)] = rgI (n + 1) := by unfold rgI; rw [List.range_succ, List.map_append]; rfl
theorem rgI_len (n : Nat) : (rgI n).length = n := by simp [rgI]
theorem rgI_of (A : List Int) : (rgI A.length).map (ofW A) = A := by
  refine List.ext_getElem (by simp [rgI]) fun i h1 h2 => ?_
  simp only [rgI, List.getElem_map, List.getElem_range]
  exact ofW_hi h2
theorem wait_ref (lim : Int) (ws l : List Int) (w : Int) : waitV lim ws l w = cntV lim (l.map (ofW ws) ++ [w]) (rgI (l.length + 1)) 1 0 true := by
  have h := rgI_of (l.map (ofW ws) ++ [w])
  simp only [List.length_append, List.length_map, List.length_cons, List.length_nil] at h
  rw [wait_cnt]; unfold cntV; rw [h]
theorem rdb_drop14n {κ : Cx} {L : List Res} {A : Option Addr} {cap : Nat} {l : List Int} {n : Nat} (hr : Rdb κ L A l.length 1 (l.map fun v : Int => [Value.int .i64 v])) (hh : n ≤ l.length) (hc : l.length ≤ cap) : Rdb κ L (subA A cap n 1) (l.drop n).length 1 ((l.drop n).map fun v : Int => [Value.int .i64 v]) := by
  rw [List.length_drop]; exact rdb_drop14 hr hh hc
theorem subA_zero (A : Option Addr) (cap : Nat) : subA A cap 0 1 = A := by
  unfold subA
  split
  · rfl
  · cases A <;> simp [Addr.add]
theorem subA_sub (A : Option Addr) (c d n : Nat) (h : d + n < c) : subA (subA A c d 1) (c - d) n 1 = subA A c (d + n) 1 := by
  unfold subA
  rw [if_neg (by omega), if_neg (by omega), if_neg (by omega)]
  cases A with
  | none => rfl
  | some a =>
    simp only [Option.map_some, Addr.add, Nat.mul_one]
    congr 1
    by_cases h1 : d = 0 <;> by_cases h2 : n = 0 <;> simp [h1, h2, Nat.add_assoc]
end Go.Proofs.Ytjfncbgggfammaa
