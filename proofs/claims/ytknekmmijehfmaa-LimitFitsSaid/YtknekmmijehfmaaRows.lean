/-
  No cell of these rows narrows 'for every input' (looked for: loops, veiled, ifaces, maps, wideKeys, modest, calm, conditions, laid).
  DERIVED. THE GIVEN ROWS OF THIS SEAT. 6 by the template 'for every input the law returns true; each argument reads behind the call as it read before'; 0 by the template 'total and deterministic' (their statements: YtknekmmijehfmaaTotals.lean).
  GIVEN WITH THE SEED: the statements are not yours to turn. If you find one false, say at which input.
  Laid BY PROGRAM, IN A SANDBOX (cutbox-rows.mjs): the forced cells as the released guide's own fill.sh prints them over the translation 0faf86259bbc9cce… (all of the seat's roots in one cut). By AI agents, Wed Nov 11 2026. No macro, syntax, notation, axiom, sorry.
-/
import Derived.Test.YtknekmmijehfmaaChecked
import GoSem.Claim
import GoSem.ClaimJoined
import GoSem.ClaimMapViews
import Derived.JoinedTies
import Derived.KernelRfl
namespace Go.Proofs.Ytknekmmijehfmaa
/- THE CELL 'sum', in the pinned program and in every row, IS THE sha256 OF THE DUMP (.gsa) THAT YtknekmmijehfmaaProg.lean LOADS. Nothing in Lean hashes anything: it is a label: what it is worth is what the hold of that sum in a sandbox is worth. -/
noncomputable def Try.pinned : Pinned := { name := "ytknekmmijehfmaa", sum := "0faf86259bbc9cce743c7483337855e9d05e8c8dd0b0e47b8a4631850c23d5af", checked := Try.checked }
namespace Rows
def none {H : Type} : Left H := { results := [], args := [] }

/-- 'egresslaw10.LimitChurn': WHATEVER THE INPUT: true; the input reads as it did. -/
def limitChurnSpec : ChangeSpec := { name := "limitChurn", fn := fun _ => fun
  | [d1, d2, d3] => { results := [.lit (.bool true)], args := [d1, d2, d3] }
  | _ => none }
def limitChurnRow : OpenClaim := { program := "ytknekmmijehfmaa", sum := "0faf86259bbc9cce743c7483337855e9d05e8c8dd0b0e47b8a4631850c23d5af", func := "egress/egresslaw10.LimitChurn", spec := "limitChurn", apart := false }
def LimitChurnSaid : Prop := limitChurnRow.holds Try.pinned (OpenSpec.ofChange limitChurnSpec)

/-- ITS FALSE NEIGHBOUR: 'it returns false'. Refute it at one input. -/
def limitChurnWrong : ChangeSpec := { name := "limitChurn", fn := fun _ => fun
  | [d1, d2, d3] => { results := [.lit (.bool false)], args := [d1, d2, d3] }
  | _ => none }
def LimitChurnWrongFalsely : Prop := limitChurnRow.holds Try.pinned (OpenSpec.ofChange limitChurnWrong)

/-- 'egresslaw10.LimitRises': WHATEVER THE INPUT: true; the input reads as it did. -/
def limitRisesSpec : ChangeSpec := { name := "limitRises", fn := fun _ => fun
  | [d1, d2] => { results := [.lit (.bool true)], args := [d1, d2] }
  | _ => none }
def limitRisesRow : OpenClaim := { program := "ytknekmmijehfmaa", sum := "0faf86259bbc9cce743c7483337855e9d05e8c8dd0b0e47b8a4631850c23d5af", func := "egress/egresslaw10.LimitRises", spec := "limitRises", apart := false }
def LimitRisesSaid : Prop := limitRisesRow.holds Try.pinned (OpenSpec.ofChange limitRisesSpec)

/-- ITS FALSE NEIGHBOUR: 'it returns false'. Refute it at one input. -/
def limitRisesWrong : ChangeSpec := { name := "limitRises", fn := fun _ => fun
  | [d1, d2] => { results := [.lit (.bool false)], args := [d1, d2] }
  | _ => none }
def LimitRisesWrongFalsely : Prop := limitRisesRow.holds Try.pinned (OpenSpec.ofChange limitRisesWrong)

/-- 'egresslaw10.LimitEpochs': WHATEVER THE INPUT: true; the input reads as it did. -/
def limitEpochsSpec : ChangeSpec := { name := "limitEpochs", fn := fun _ => fun
  | [d1, d2] => { results := [.lit (.bool true)], args := [d1, d2] }
  | _ => none }
def limitEpochsRow : OpenClaim := { program := "ytknekmmijehfmaa", sum := "0faf86259bbc9cce743c7483337855e9d05e8c8dd0b0e47b8a4631850c23d5af", func := "egress/egresslaw10.LimitEpochs", spec := "limitEpochs", apart := false }
def LimitEpochsSaid : Prop := limitEpochsRow.holds Try.pinned (OpenSpec.ofChange limitEpochsSpec)

/-- ITS FALSE NEIGHBOUR: 'it returns false'. Refute it at one input. -/
def limitEpochsWrong : ChangeSpec := { name := "limitEpochs", fn := fun _ => fun
  | [d1, d2] => { results := [.lit (.bool false)], args := [d1, d2] }
  | _ => none }
def LimitEpochsWrongFalsely : Prop := limitEpochsRow.holds Try.pinned (OpenSpec.ofChange limitEpochsWrong)

/-- 'egresslaw10.LimitSpreads': WHATEVER THE INPUT: true; the input reads as it did. -/
def limitSpreadsSpec : ChangeSpec := { name := "limitSpreads", fn := fun _ => fun
  | [d1, d2] => { results := [.lit (.bool true)], args := [d1, d2] }
  | _ => none }
def limitSpreadsRow : OpenClaim := { program := "ytknekmmijehfmaa", sum := "0faf86259bbc9cce743c7483337855e9d05e8c8dd0b0e47b8a4631850c23d5af", func := "egress/egresslaw10.LimitSpreads", spec := "limitSpreads", apart := false }
def LimitSpreadsSaid : Prop := limitSpreadsRow.holds Try.pinned (OpenSpec.ofChange limitSpreadsSpec)

/-- ITS FALSE NEIGHBOUR: 'it returns false'. Refute it at one input. -/
def limitSpreadsWrong : ChangeSpec := { name := "limitSpreads", fn := fun _ => fun
  | [d1, d2] => { results := [.lit (.bool false)], args := [d1, d2] }
  | _ => none }
def LimitSpreadsWrongFalsely : Prop := limitSpreadsRow.holds Try.pinned (OpenSpec.ofChange limitSpreadsWrong)

/-- 'egresslaw10.LimitSplits': WHATEVER THE INPUT: true; the input reads as it did. -/
def limitSplitsSpec : ChangeSpec := { name := "limitSplits", fn := fun _ => fun
  | [d1, d2] => { results := [.lit (.bool true)], args := [d1, d2] }
  | _ => none }
def limitSplitsRow : OpenClaim := { program := "ytknekmmijehfmaa", sum := "0faf86259bbc9cce743c7483337855e9d05e8c8dd0b0e47b8a4631850c23d5af", func := "egress/egresslaw10.LimitSplits", spec := "limitSplits", unfollowed := true, recurses := true, apart := false }
def LimitSplitsSaid : Prop := limitSplitsRow.holds Try.pinned (OpenSpec.ofChange limitSplitsSpec)

/-- ITS FALSE NEIGHBOUR: 'it returns false'. Refute it at one input. -/
def limitSplitsWrong : ChangeSpec := { name := "limitSplits", fn := fun _ => fun
  | [d1, d2] => { results := [.lit (.bool false)], args := [d1, d2] }
  | _ => none }
def LimitSplitsWrongFalsely : Prop := limitSplitsRow.holds Try.pinned (OpenSpec.ofChange limitSplitsWrong)

/-- 'egresslaw10.LimitFits': WHATEVER THE INPUT: true; the input reads as it did. -/
def limitFitsSpec : ChangeSpec := { name := "limitFits", fn := fun _ => fun
  | [d1, d2] => { results := [.lit (.bool true)], args := [d1, d2] }
  | _ => none }
def limitFitsRow : OpenClaim := { program := "ytknekmmijehfmaa", sum := "0faf86259bbc9cce743c7483337855e9d05e8c8dd0b0e47b8a4631850c23d5af", func := "egress/egresslaw10.LimitFits", spec := "limitFits", unfollowed := true, recurses := true, apart := false }
def LimitFitsSaid : Prop := limitFitsRow.holds Try.pinned (OpenSpec.ofChange limitFitsSpec)

/-- ITS FALSE NEIGHBOUR: 'it returns false'. Refute it at one input. -/
def limitFitsWrong : ChangeSpec := { name := "limitFits", fn := fun _ => fun
  | [d1, d2] => { results := [.lit (.bool false)], args := [d1, d2] }
  | _ => none }
def LimitFitsWrongFalsely : Prop := limitFitsRow.holds Try.pinned (OpenSpec.ofChange limitFitsWrong)

/- THE SECOND FORM. 'bulk': how many values and letters a reading holds, each counted each time it is reached (what is shared counts as often as it is met; a slice's spare places count too). A statement '..UptoSaid' is the law's where the arguments, and the package variables that the reading takes, are together of bulk at most 1048576: NARROWER than '..Said'. Prove '..Said' where nothing that the law and all that it calls make is longer than what came in: it says more and counts as full. Else prove '..UptoSaid'. A law counts once. -/
mutual
def uptoBulk {H : Type} : DataW H → Nat
  | .lit (.string bytes) => bytes.length + 1
  | .lit _ => 1
  | .nil => 1
  | .ptr d => uptoBulk d + 1
  | .slice elems spare => uptoBulkAll elems + uptoBulkAll spare + 1
  | .agg parts => uptoBulkAll parts + 1
  | .iface _ d => uptoBulk d + 1
  | .map entries => uptoBulkEntries entries + 1
  | .held _ => 1
def uptoBulkAll {H : Type} : List (DataW H) → Nat
  | [] => 0
  | d :: r => uptoBulk d + uptoBulkAll r
def uptoBulkEntries {H : Type} : List (Lit × DataW H) → Nat
  | [] => 0
  | x :: r => uptoBulkEntry x + uptoBulkEntries r
def uptoBulkEntry {H : Type} : Lit × DataW H → Nat
  | (.string bytes, d) => bytes.length + uptoBulk d + 1
  | (_, d) => uptoBulk d + 1
 end
def uptoSmall : (H : Type) → List (DataW H) → Bool := fun _ ds => decide (uptoBulkAll ds ≤ 1048576)
def OpenSpec.upto (s : _root_.Go.ChangeSpec) : _root_.Go.OpenSpec := { _root_.Go.OpenSpec.ofChange s with cond := some uptoSmall }

/-- 'egresslaw10.LimitChurn', WHERE WHAT IT READS IS OF BULK AT MOST 1048576: true; the input reads as it did. -/
def limitChurnUptoRow : OpenClaim := { program := "ytknekmmijehfmaa", sum := "0faf86259bbc9cce743c7483337855e9d05e8c8dd0b0e47b8a4631850c23d5af", func := "egress/egresslaw10.LimitChurn", spec := "limitChurn", apart := false, narrowed := true }
def LimitChurnUptoSaid : Prop := limitChurnUptoRow.holds Try.pinned (OpenSpec.upto limitChurnSpec)

/-- 'egresslaw10.LimitRises', WHERE WHAT IT READS IS OF BULK AT MOST 1048576: true; the input reads as it did. -/
def limitRisesUptoRow : OpenClaim := { program := "ytknekmmijehfmaa", sum := "0faf86259bbc9cce743c7483337855e9d05e8c8dd0b0e47b8a4631850c23d5af", func := "egress/egresslaw10.LimitRises", spec := "limitRises", apart := false, narrowed := true }
def LimitRisesUptoSaid : Prop := limitRisesUptoRow.holds Try.pinned (OpenSpec.upto limitRisesSpec)

/-- 'egresslaw10.LimitEpochs', WHERE WHAT IT READS IS OF BULK AT MOST 1048576: true; the input reads as it did. -/
def limitEpochsUptoRow : OpenClaim := { program := "ytknekmmijehfmaa", sum := "0faf86259bbc9cce743c7483337855e9d05e8c8dd0b0e47b8a4631850c23d5af", func := "egress/egresslaw10.LimitEpochs", spec := "limitEpochs", apart := false, narrowed := true }
def LimitEpochsUptoSaid : Prop := limitEpochsUptoRow.holds Try.pinned (OpenSpec.upto limitEpochsSpec)

/-- 'egresslaw10.LimitSpreads', WHERE WHAT IT READS IS OF BULK AT MOST 1048576: true; the input reads as it did. -/
def limitSpreadsUptoRow : OpenClaim := { program := "ytknekmmijehfmaa", sum := "0faf86259bbc9cce743c7483337855e9d05e8c8dd0b0e47b8a4631850c23d5af", func := "egress/egresslaw10.LimitSpreads", spec := "limitSpreads", apart := false, narrowed := true }
def LimitSpreadsUptoSaid : Prop := limitSpreadsUptoRow.holds Try.pinned (OpenSpec.upto limitSpreadsSpec)

/-- 'egresslaw10.LimitSplits', WHERE WHAT IT READS IS OF BULK AT MOST 1048576: true; the input reads as it did. -/
def limitSplitsUptoRow : OpenClaim := { program := "ytknekmmijehfmaa", sum := "0faf86259bbc9cce743c7483337855e9d05e8c8dd0b0e47b8a4631850c23d5af", func := "egress/egresslaw10.LimitSplits", spec := "limitSplits", unfollowed := true, recurses := true, apart := false, narrowed := true }
def LimitSplitsUptoSaid : Prop := limitSplitsUptoRow.holds Try.pinned (OpenSpec.upto limitSplitsSpec)

/-- 'egresslaw10.LimitFits', WHERE WHAT IT READS IS OF BULK AT MOST 1048576: true; the input reads as it did. -/
def limitFitsUptoRow : OpenClaim := { program := "ytknekmmijehfmaa", sum := "0faf86259bbc9cce743c7483337855e9d05e8c8dd0b0e47b8a4631850c23d5af", func := "egress/egresslaw10.LimitFits", spec := "limitFits", unfollowed := true, recurses := true, apart := false, narrowed := true }
def LimitFitsUptoSaid : Prop := limitFitsUptoRow.holds Try.pinned (OpenSpec.upto limitFitsSpec)

end Rows
end Go.Proofs.Ytknekmmijehfmaa
