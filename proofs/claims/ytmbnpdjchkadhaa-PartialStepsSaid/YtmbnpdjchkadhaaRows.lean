/-
  No cell of these rows narrows 'for every input' (looked for: loops, veiled, ifaces, maps, wideKeys, modest, calm, conditions, laid).
  DERIVED. THE GIVEN ROWS OF THIS SEAT. 6 by the template 'for every input the law returns true; each argument reads behind the call as it read before'; 0 by the template 'total and deterministic' (their statements: YtmbnpdjchkadhaaTotals.lean).
  GIVEN WITH THE SEED: the statements are not yours to turn. If you find one false, say at which input.
  Laid BY PROGRAM, IN A SANDBOX (cutbox-rows.mjs): the forced cells as the released guide's own fill.sh prints them over the translation be8d66b29a337cb0… (all of the seat's roots in one cut). By AI agents, Wed Nov 11 2026. No macro, syntax, notation, axiom, sorry.
-/
import Derived.Test.YtmbnpdjchkadhaaChecked
import GoSem.Claim
import GoSem.ClaimJoined
import GoSem.ClaimMapViews
import Derived.JoinedTies
import Derived.KernelRfl
namespace Go.Proofs.Ytmbnpdjchkadhaa
/- THE CELL 'sum', in the pinned program and in every row, IS THE sha256 OF THE DUMP (.gsa) THAT YtmbnpdjchkadhaaProg.lean LOADS. Nothing in Lean hashes anything: it is a label: what it is worth is what the hold of that sum in a sandbox is worth. -/
noncomputable def Try.pinned : Pinned := { name := "ytmbnpdjchkadhaa", sum := "be8d66b29a337cb0b2f7009bddc9ce8386460f1a0ff83f5da9359aaeb56b54d5", checked := Try.checked }
namespace Rows
def none {H : Type} : Left H := { results := [], args := [] }

/-- 'egresslaw17.PartialApplies': WHATEVER THE INPUT: true; the input reads as it did. -/
def partialAppliesSpec : ChangeSpec := { name := "partialApplies", fn := fun _ => fun
  | [d1, d2, d3] => { results := [.lit (.bool true)], args := [d1, d2, d3] }
  | _ => none }
def partialAppliesRow : OpenClaim := { program := "ytmbnpdjchkadhaa", sum := "be8d66b29a337cb0b2f7009bddc9ce8386460f1a0ff83f5da9359aaeb56b54d5", func := "egress/egresslaw17.PartialApplies", spec := "partialApplies", apart := false }
def PartialAppliesSaid : Prop := partialAppliesRow.holds Try.pinned (OpenSpec.ofChange partialAppliesSpec)

/-- ITS FALSE NEIGHBOUR: 'it returns false'. Refute it at one input. -/
def partialAppliesWrong : ChangeSpec := { name := "partialApplies", fn := fun _ => fun
  | [d1, d2, d3] => { results := [.lit (.bool false)], args := [d1, d2, d3] }
  | _ => none }
def PartialAppliesWrongFalsely : Prop := partialAppliesRow.holds Try.pinned (OpenSpec.ofChange partialAppliesWrong)

/-- 'egresslaw17.PartialParts': WHATEVER THE INPUT: true; the input reads as it did. -/
def partialPartsSpec : ChangeSpec := { name := "partialParts", fn := fun _ => fun
  | [d1, d2, d3] => { results := [.lit (.bool true)], args := [d1, d2, d3] }
  | _ => none }
def partialPartsRow : OpenClaim := { program := "ytmbnpdjchkadhaa", sum := "be8d66b29a337cb0b2f7009bddc9ce8386460f1a0ff83f5da9359aaeb56b54d5", func := "egress/egresslaw17.PartialParts", spec := "partialParts", apart := false }
def PartialPartsSaid : Prop := partialPartsRow.holds Try.pinned (OpenSpec.ofChange partialPartsSpec)

/-- ITS FALSE NEIGHBOUR: 'it returns false'. Refute it at one input. -/
def partialPartsWrong : ChangeSpec := { name := "partialParts", fn := fun _ => fun
  | [d1, d2, d3] => { results := [.lit (.bool false)], args := [d1, d2, d3] }
  | _ => none }
def PartialPartsWrongFalsely : Prop := partialPartsRow.holds Try.pinned (OpenSpec.ofChange partialPartsWrong)

/-- 'egresslaw17.PartialChecks': WHATEVER THE INPUT: true; the input reads as it did. -/
def partialChecksSpec : ChangeSpec := { name := "partialChecks", fn := fun _ => fun
  | [d1, d2] => { results := [.lit (.bool true)], args := [d1, d2] }
  | _ => none }
def partialChecksRow : OpenClaim := { program := "ytmbnpdjchkadhaa", sum := "be8d66b29a337cb0b2f7009bddc9ce8386460f1a0ff83f5da9359aaeb56b54d5", func := "egress/egresslaw17.PartialChecks", spec := "partialChecks", apart := false }
def PartialChecksSaid : Prop := partialChecksRow.holds Try.pinned (OpenSpec.ofChange partialChecksSpec)

/-- ITS FALSE NEIGHBOUR: 'it returns false'. Refute it at one input. -/
def partialChecksWrong : ChangeSpec := { name := "partialChecks", fn := fun _ => fun
  | [d1, d2] => { results := [.lit (.bool false)], args := [d1, d2] }
  | _ => none }
def PartialChecksWrongFalsely : Prop := partialChecksRow.holds Try.pinned (OpenSpec.ofChange partialChecksWrong)

/-- 'egresslaw17.PartialMinimum': WHATEVER THE INPUT: true; the input reads as it did. -/
def partialMinimumSpec : ChangeSpec := { name := "partialMinimum", fn := fun _ => fun
  | [d1, d2, d3] => { results := [.lit (.bool true)], args := [d1, d2, d3] }
  | _ => none }
def partialMinimumRow : OpenClaim := { program := "ytmbnpdjchkadhaa", sum := "be8d66b29a337cb0b2f7009bddc9ce8386460f1a0ff83f5da9359aaeb56b54d5", func := "egress/egresslaw17.PartialMinimum", spec := "partialMinimum", unfollowed := true, recurses := true, apart := false }
def PartialMinimumSaid : Prop := partialMinimumRow.holds Try.pinned (OpenSpec.ofChange partialMinimumSpec)

/-- ITS FALSE NEIGHBOUR: 'it returns false'. Refute it at one input. -/
def partialMinimumWrong : ChangeSpec := { name := "partialMinimum", fn := fun _ => fun
  | [d1, d2, d3] => { results := [.lit (.bool false)], args := [d1, d2, d3] }
  | _ => none }
def PartialMinimumWrongFalsely : Prop := partialMinimumRow.holds Try.pinned (OpenSpec.ofChange partialMinimumWrong)

/-- 'egresslaw17.PartialConserves': WHATEVER THE INPUT: true; the input reads as it did. -/
def partialConservesSpec : ChangeSpec := { name := "partialConserves", fn := fun _ => fun
  | [d1, d2, d3] => { results := [.lit (.bool true)], args := [d1, d2, d3] }
  | _ => none }
def partialConservesRow : OpenClaim := { program := "ytmbnpdjchkadhaa", sum := "be8d66b29a337cb0b2f7009bddc9ce8386460f1a0ff83f5da9359aaeb56b54d5", func := "egress/egresslaw17.PartialConserves", spec := "partialConserves", unfollowed := true, recurses := true, apart := false }
def PartialConservesSaid : Prop := partialConservesRow.holds Try.pinned (OpenSpec.ofChange partialConservesSpec)

/-- ITS FALSE NEIGHBOUR: 'it returns false'. Refute it at one input. -/
def partialConservesWrong : ChangeSpec := { name := "partialConserves", fn := fun _ => fun
  | [d1, d2, d3] => { results := [.lit (.bool false)], args := [d1, d2, d3] }
  | _ => none }
def PartialConservesWrongFalsely : Prop := partialConservesRow.holds Try.pinned (OpenSpec.ofChange partialConservesWrong)

/-- 'egresslaw17.PartialSteps': WHATEVER THE INPUT: true; the input reads as it did. -/
def partialStepsSpec : ChangeSpec := { name := "partialSteps", fn := fun _ => fun
  | [d1, d2, d3] => { results := [.lit (.bool true)], args := [d1, d2, d3] }
  | _ => none }
def partialStepsRow : OpenClaim := { program := "ytmbnpdjchkadhaa", sum := "be8d66b29a337cb0b2f7009bddc9ce8386460f1a0ff83f5da9359aaeb56b54d5", func := "egress/egresslaw17.PartialSteps", spec := "partialSteps", unfollowed := true, recurses := true, apart := false }
def PartialStepsSaid : Prop := partialStepsRow.holds Try.pinned (OpenSpec.ofChange partialStepsSpec)

/-- ITS FALSE NEIGHBOUR: 'it returns false'. Refute it at one input. -/
def partialStepsWrong : ChangeSpec := { name := "partialSteps", fn := fun _ => fun
  | [d1, d2, d3] => { results := [.lit (.bool false)], args := [d1, d2, d3] }
  | _ => none }
def PartialStepsWrongFalsely : Prop := partialStepsRow.holds Try.pinned (OpenSpec.ofChange partialStepsWrong)

/- THE SECOND FORM. 'bulk': how many values and letters a reading holds, each counted each time it is reached (what is shared counts as often as it is met; a slice's spare places count too). A statement '..UptoSaid' is the law's where the arguments, and the package variables that the reading takes, are together of bulk at most 1048576: NARROWER than '..Said'. Prove '..Said' where nothing that the law and all that it calls make is longer than what came in: it says more and counts as full. Else prove '..UptoSaid'. A law counts once. -/
mutual
def uptoBulk {H : Type} : DataW H → Nat
  | .lit (.string bytes) => bytes.length + 1
  | .lit _ => 1
  | .nil => 1
  | .ptr d => uptoBulk d + 1
  | .slice elems spare => uptoBulkAll elems + uptoBulkAll spare + 1
  | .agg parts => uptoBulkAll parts + 1
  | .iface _ d => uptoBulk d + 1
  | .map entries => uptoBulkEntries entries + 1
  | .held _ => 1
def uptoBulkAll {H : Type} : List (DataW H) → Nat
  | [] => 0
  | d :: r => uptoBulk d + uptoBulkAll r
def uptoBulkEntries {H : Type} : List (Lit × DataW H) → Nat
  | [] => 0
  | x :: r => uptoBulkEntry x + uptoBulkEntries r
def uptoBulkEntry {H : Type} : Lit × DataW H → Nat
  | (.string bytes, d) => bytes.length + uptoBulk d + 1
  | (_, d) => uptoBulk d + 1
 end
def uptoSmall : (H : Type) → List (DataW H) → Bool := fun _ ds => decide (uptoBulkAll ds ≤ 1048576)
def OpenSpec.upto (s : _root_.Go.ChangeSpec) : _root_.Go.OpenSpec := { _root_.Go.OpenSpec.ofChange s with cond := some uptoSmall }

/-- 'egresslaw17.PartialApplies', WHERE WHAT IT READS IS OF BULK AT MOST 1048576: true; the input reads as it did. -/
def partialAppliesUptoRow : OpenClaim := { program := "ytmbnpdjchkadhaa", sum := "be8d66b29a337cb0b2f7009bddc9ce8386460f1a0ff83f5da9359aaeb56b54d5", func := "egress/egresslaw17.PartialApplies", spec := "partialApplies", apart := false, narrowed := true }
def PartialAppliesUptoSaid : Prop := partialAppliesUptoRow.holds Try.pinned (OpenSpec.upto partialAppliesSpec)

/-- 'egresslaw17.PartialParts', WHERE WHAT IT READS IS OF BULK AT MOST 1048576: true; the input reads as it did. -/
def partialPartsUptoRow : OpenClaim := { program := "ytmbnpdjchkadhaa", sum := "be8d66b29a337cb0b2f7009bddc9ce8386460f1a0ff83f5da9359aaeb56b54d5", func := "egress/egresslaw17.PartialParts", spec := "partialParts", apart := false, narrowed := true }
def PartialPartsUptoSaid : Prop := partialPartsUptoRow.holds Try.pinned (OpenSpec.upto partialPartsSpec)

/-- 'egresslaw17.PartialChecks', WHERE WHAT IT READS IS OF BULK AT MOST 1048576: true; the input reads as it did. -/
def partialChecksUptoRow : OpenClaim := { program := "ytmbnpdjchkadhaa", sum := "be8d66b29a337cb0b2f7009bddc9ce8386460f1a0ff83f5da9359aaeb56b54d5", func := "egress/egresslaw17.PartialChecks", spec := "partialChecks", apart := false, narrowed := true }
def PartialChecksUptoSaid : Prop := partialChecksUptoRow.holds Try.pinned (OpenSpec.upto partialChecksSpec)

/-- 'egresslaw17.PartialMinimum', WHERE WHAT IT READS IS OF BULK AT MOST 1048576: true; the input reads as it did. -/
def partialMinimumUptoRow : OpenClaim := { program := "ytmbnpdjchkadhaa", sum := "be8d66b29a337cb0b2f7009bddc9ce8386460f1a0ff83f5da9359aaeb56b54d5", func := "egress/egresslaw17.PartialMinimum", spec := "partialMinimum", unfollowed := true, recurses := true, apart := false, narrowed := true }
def PartialMinimumUptoSaid : Prop := partialMinimumUptoRow.holds Try.pinned (OpenSpec.upto partialMinimumSpec)

/-- 'egresslaw17.PartialConserves', WHERE WHAT IT READS IS OF BULK AT MOST 1048576: true; the input reads as it did. -/
def partialConservesUptoRow : OpenClaim := { program := "ytmbnpdjchkadhaa", sum := "be8d66b29a337cb0b2f7009bddc9ce8386460f1a0ff83f5da9359aaeb56b54d5", func := "egress/egresslaw17.PartialConserves", spec := "partialConserves", unfollowed := true, recurses := true, apart := false, narrowed := true }
def PartialConservesUptoSaid : Prop := partialConservesUptoRow.holds Try.pinned (OpenSpec.upto partialConservesSpec)

/-- 'egresslaw17.PartialSteps', WHERE WHAT IT READS IS OF BULK AT MOST 1048576: true; the input reads as it did. -/
def partialStepsUptoRow : OpenClaim := { program := "ytmbnpdjchkadhaa", sum := "be8d66b29a337cb0b2f7009bddc9ce8386460f1a0ff83f5da9359aaeb56b54d5", func := "egress/egresslaw17.PartialSteps", spec := "partialSteps", unfollowed := true, recurses := true, apart := false, narrowed := true }
def PartialStepsUptoSaid : Prop := partialStepsUptoRow.holds Try.pinned (OpenSpec.upto partialStepsSpec)

end Rows
end Go.Proofs.Ytmbnpdjchkadhaa
