/-
  No cell of these rows narrows 'for every input' (looked for: loops, veiled, ifaces, maps, wideKeys, modest, calm, conditions, laid).
  DERIVED. THE GIVEN ROWS OF THIS SEAT. 6 by the template 'for every input the law returns true; each argument reads behind the call as it read before'; 0 by the template 'total and deterministic' (their statements: YtljdhdlemakcaaaTotals.lean).
  GIVEN WITH THE SEED: the statements are not yours to turn. If you find one false, say at which input.
  Laid BY PROGRAM, IN A SANDBOX (cutbox-rows.mjs): the forced cells as the released guide's own fill.sh prints them over the translation a2497617805ad4f2… (all of the seat's roots in one cut). By AI agents, Wed Nov 11 2026. No macro, syntax, notation, axiom, sorry.
-/
import Derived.Test.YtljdhdlemakcaaaChecked
import GoSem.Claim
import GoSem.ClaimJoined
import GoSem.ClaimMapViews
import Derived.JoinedTies
import Derived.KernelRfl
namespace Go.Proofs.Ytljdhdlemakcaaa
/- THE CELL 'sum', in the pinned program and in every row, IS THE sha256 OF THE DUMP (.gsa) THAT YtljdhdlemakcaaaProg.lean LOADS. Nothing in Lean hashes anything: it is a label: what it is worth is what the hold of that sum in a sandbox is worth. -/
noncomputable def Try.pinned : Pinned := { name := "ytljdhdlemakcaaa", sum := "a2497617805ad4f299b0d81cf8dc8905384ec526469dd75d9be4b1d9cf34f87c", checked := Try.checked }
namespace Rows
def none {H : Type} : Left H := { results := [], args := [] }

/-- 'egresslaw16.MergeChecks': WHATEVER THE INPUT: true; the input reads as it did. -/
def mergeChecksSpec : ChangeSpec := { name := "mergeChecks", fn := fun _ => fun
  | [d1, d2, d3] => { results := [.lit (.bool true)], args := [d1, d2, d3] }
  | _ => none }
def mergeChecksRow : OpenClaim := { program := "ytljdhdlemakcaaa", sum := "a2497617805ad4f299b0d81cf8dc8905384ec526469dd75d9be4b1d9cf34f87c", func := "egress/egresslaw16.MergeChecks", spec := "mergeChecks", unfollowed := true, recurses := true, plainKeys := false, apart := false }
def MergeChecksSaid : Prop := mergeChecksRow.holds Try.pinned (OpenSpec.ofChange mergeChecksSpec)

/-- ITS FALSE NEIGHBOUR: 'it returns false'. Refute it at one input. -/
def mergeChecksWrong : ChangeSpec := { name := "mergeChecks", fn := fun _ => fun
  | [d1, d2, d3] => { results := [.lit (.bool false)], args := [d1, d2, d3] }
  | _ => none }
def MergeChecksWrongFalsely : Prop := mergeChecksRow.holds Try.pinned (OpenSpec.ofChange mergeChecksWrong)

/-- 'egresslaw16.MergeRequests': WHATEVER THE INPUT: true; the input reads as it did. -/
def mergeRequestsSpec : ChangeSpec := { name := "mergeRequests", fn := fun _ => fun
  | [d1, d2, d3] => { results := [.lit (.bool true)], args := [d1, d2, d3] }
  | _ => none }
def mergeRequestsRow : OpenClaim := { program := "ytljdhdlemakcaaa", sum := "a2497617805ad4f299b0d81cf8dc8905384ec526469dd75d9be4b1d9cf34f87c", func := "egress/egresslaw16.MergeRequests", spec := "mergeRequests", unfollowed := true, recurses := true, plainKeys := false, apart := false }
def MergeRequestsSaid : Prop := mergeRequestsRow.holds Try.pinned (OpenSpec.ofChange mergeRequestsSpec)

/-- ITS FALSE NEIGHBOUR: 'it returns false'. Refute it at one input. -/
def mergeRequestsWrong : ChangeSpec := { name := "mergeRequests", fn := fun _ => fun
  | [d1, d2, d3] => { results := [.lit (.bool false)], args := [d1, d2, d3] }
  | _ => none }
def MergeRequestsWrongFalsely : Prop := mergeRequestsRow.holds Try.pinned (OpenSpec.ofChange mergeRequestsWrong)

/-- 'egresslaw16.MergeChains': WHATEVER THE INPUT: true; the input reads as it did. -/
def mergeChainsSpec : ChangeSpec := { name := "mergeChains", fn := fun _ => fun
  | [d1, d2, d3] => { results := [.lit (.bool true)], args := [d1, d2, d3] }
  | _ => none }
def mergeChainsRow : OpenClaim := { program := "ytljdhdlemakcaaa", sum := "a2497617805ad4f299b0d81cf8dc8905384ec526469dd75d9be4b1d9cf34f87c", func := "egress/egresslaw16.MergeChains", spec := "mergeChains", unfollowed := true, recurses := true, plainKeys := false, apart := false }
def MergeChainsSaid : Prop := mergeChainsRow.holds Try.pinned (OpenSpec.ofChange mergeChainsSpec)

/-- ITS FALSE NEIGHBOUR: 'it returns false'. Refute it at one input. -/
def mergeChainsWrong : ChangeSpec := { name := "mergeChains", fn := fun _ => fun
  | [d1, d2, d3] => { results := [.lit (.bool false)], args := [d1, d2, d3] }
  | _ => none }
def MergeChainsWrongFalsely : Prop := mergeChainsRow.holds Try.pinned (OpenSpec.ofChange mergeChainsWrong)

/-- 'egresslaw16.MergeConserves': WHATEVER THE INPUT: true; the input reads as it did. -/
def mergeConservesSpec : ChangeSpec := { name := "mergeConserves", fn := fun _ => fun
  | [d1, d2, d3] => { results := [.lit (.bool true)], args := [d1, d2, d3] }
  | _ => none }
def mergeConservesRow : OpenClaim := { program := "ytljdhdlemakcaaa", sum := "a2497617805ad4f299b0d81cf8dc8905384ec526469dd75d9be4b1d9cf34f87c", func := "egress/egresslaw16.MergeConserves", spec := "mergeConserves", unfollowed := true, recurses := true, plainKeys := false, apart := false }
def MergeConservesSaid : Prop := mergeConservesRow.holds Try.pinned (OpenSpec.ofChange mergeConservesSpec)

/-- ITS FALSE NEIGHBOUR: 'it returns false'. Refute it at one input. -/
def mergeConservesWrong : ChangeSpec := { name := "mergeConserves", fn := fun _ => fun
  | [d1, d2, d3] => { results := [.lit (.bool false)], args := [d1, d2, d3] }
  | _ => none }
def MergeConservesWrongFalsely : Prop := mergeConservesRow.holds Try.pinned (OpenSpec.ofChange mergeConservesWrong)

/-- 'egresslaw16.MergeLimits': WHATEVER THE INPUT: true; the input reads as it did. -/
def mergeLimitsSpec : ChangeSpec := { name := "mergeLimits", fn := fun _ => fun
  | [d1, d2, d3] => { results := [.lit (.bool true)], args := [d1, d2, d3] }
  | _ => none }
def mergeLimitsRow : OpenClaim := { program := "ytljdhdlemakcaaa", sum := "a2497617805ad4f299b0d81cf8dc8905384ec526469dd75d9be4b1d9cf34f87c", func := "egress/egresslaw16.MergeLimits", spec := "mergeLimits", unfollowed := true, recurses := true, plainKeys := false, apart := false }
def MergeLimitsSaid : Prop := mergeLimitsRow.holds Try.pinned (OpenSpec.ofChange mergeLimitsSpec)

/-- ITS FALSE NEIGHBOUR: 'it returns false'. Refute it at one input. -/
def mergeLimitsWrong : ChangeSpec := { name := "mergeLimits", fn := fun _ => fun
  | [d1, d2, d3] => { results := [.lit (.bool false)], args := [d1, d2, d3] }
  | _ => none }
def MergeLimitsWrongFalsely : Prop := mergeLimitsRow.holds Try.pinned (OpenSpec.ofChange mergeLimitsWrong)

/-- 'egresslaw16.MergeSteps': WHATEVER THE INPUT: true; the input reads as it did. -/
def mergeStepsSpec : ChangeSpec := { name := "mergeSteps", fn := fun _ => fun
  | [d1, d2, d3] => { results := [.lit (.bool true)], args := [d1, d2, d3] }
  | _ => none }
def mergeStepsRow : OpenClaim := { program := "ytljdhdlemakcaaa", sum := "a2497617805ad4f299b0d81cf8dc8905384ec526469dd75d9be4b1d9cf34f87c", func := "egress/egresslaw16.MergeSteps", spec := "mergeSteps", unfollowed := true, recurses := true, plainKeys := false, apart := false }
def MergeStepsSaid : Prop := mergeStepsRow.holds Try.pinned (OpenSpec.ofChange mergeStepsSpec)

/-- ITS FALSE NEIGHBOUR: 'it returns false'. Refute it at one input. -/
def mergeStepsWrong : ChangeSpec := { name := "mergeSteps", fn := fun _ => fun
  | [d1, d2, d3] => { results := [.lit (.bool false)], args := [d1, d2, d3] }
  | _ => none }
def MergeStepsWrongFalsely : Prop := mergeStepsRow.holds Try.pinned (OpenSpec.ofChange mergeStepsWrong)

/- THE SECOND FORM. 'bulk': how many values and letters a reading holds, each counted each time it is reached (what is shared counts as often as it is met; a slice's spare places count too). A statement '..UptoSaid' is the law's where the arguments, and the package variables that the reading takes, are together of bulk at most 1048576: NARROWER than '..Said'. Prove '..Said' where nothing that the law and all that it calls make is longer than what came in: it says more and counts as full. Else prove '..UptoSaid'. A law counts once. -/
mutual
def uptoBulk {H : Type} : DataW H → Nat
  | .lit (.string bytes) => bytes.length + 1
  | .lit _ => 1
  | .nil => 1
  | .ptr d => uptoBulk d + 1
  | .slice elems spare => uptoBulkAll elems + uptoBulkAll spare + 1
  | .agg parts => uptoBulkAll parts + 1
  | .iface _ d => uptoBulk d + 1
  | .map entries => uptoBulkEntries entries + 1
  | .held _ => 1
def uptoBulkAll {H : Type} : List (DataW H) → Nat
  | [] => 0
  | d :: r => uptoBulk d + uptoBulkAll r
def uptoBulkEntries {H : Type} : List (Lit × DataW H) → Nat
  | [] => 0
  | x :: r => uptoBulkEntry x + uptoBulkEntries r
def uptoBulkEntry {H : Type} : Lit × DataW H → Nat
  | (.string bytes, d) => bytes.length + uptoBulk d + 1
  | (_, d) => uptoBulk d + 1
 end
def uptoSmall : (H : Type) → List (DataW H) → Bool := fun _ ds => decide (uptoBulkAll ds ≤ 1048576)
def OpenSpec.upto (s : _root_.Go.ChangeSpec) : _root_.Go.OpenSpec := { _root_.Go.OpenSpec.ofChange s with cond := some uptoSmall }

/-- 'egresslaw16.MergeChecks', WHERE WHAT IT READS IS OF BULK AT MOST 1048576: true; the input reads as it did. -/
def mergeChecksUptoRow : OpenClaim := { program := "ytljdhdlemakcaaa", sum := "a2497617805ad4f299b0d81cf8dc8905384ec526469dd75d9be4b1d9cf34f87c", func := "egress/egresslaw16.MergeChecks", spec := "mergeChecks", unfollowed := true, recurses := true, plainKeys := false, apart := false, narrowed := true }
def MergeChecksUptoSaid : Prop := mergeChecksUptoRow.holds Try.pinned (OpenSpec.upto mergeChecksSpec)

/-- 'egresslaw16.MergeRequests', WHERE WHAT IT READS IS OF BULK AT MOST 1048576: true; the input reads as it did. -/
def mergeRequestsUptoRow : OpenClaim := { program := "ytljdhdlemakcaaa", sum := "a2497617805ad4f299b0d81cf8dc8905384ec526469dd75d9be4b1d9cf34f87c", func := "egress/egresslaw16.MergeRequests", spec := "mergeRequests", unfollowed := true, recurses := true, plainKeys := false, apart := false, narrowed := true }
def MergeRequestsUptoSaid : Prop := mergeRequestsUptoRow.holds Try.pinned (OpenSpec.upto mergeRequestsSpec)

/-- 'egresslaw16.MergeChains', WHERE WHAT IT READS IS OF BULK AT MOST 1048576: true; the input reads as it did. -/
def mergeChainsUptoRow : OpenClaim := { program := "ytljdhdlemakcaaa", sum := "a2497617805ad4f299b0d81cf8dc8905384ec526469dd75d9be4b1d9cf34f87c", func := "egress/egresslaw16.MergeChains", spec := "mergeChains", unfollowed := true, recurses := true, plainKeys := false, apart := false, narrowed := true }
def MergeChainsUptoSaid : Prop := mergeChainsUptoRow.holds Try.pinned (OpenSpec.upto mergeChainsSpec)

/-- 'egresslaw16.MergeConserves', WHERE WHAT IT READS IS OF BULK AT MOST 1048576: true; the input reads as it did. -/
def mergeConservesUptoRow : OpenClaim := { program := "ytljdhdlemakcaaa", sum := "a2497617805ad4f299b0d81cf8dc8905384ec526469dd75d9be4b1d9cf34f87c", func := "egress/egresslaw16.MergeConserves", spec := "mergeConserves", unfollowed := true, recurses := true, plainKeys := false, apart := false, narrowed := true }
def MergeConservesUptoSaid : Prop := mergeConservesUptoRow.holds Try.pinned (OpenSpec.upto mergeConservesSpec)

/-- 'egresslaw16.MergeLimits', WHERE WHAT IT READS IS OF BULK AT MOST 1048576: true; the input reads as it did. -/
def mergeLimitsUptoRow : OpenClaim := { program := "ytljdhdlemakcaaa", sum := "a2497617805ad4f299b0d81cf8dc8905384ec526469dd75d9be4b1d9cf34f87c", func := "egress/egresslaw16.MergeLimits", spec := "mergeLimits", unfollowed := true, recurses := true, plainKeys := false, apart := false, narrowed := true }
def MergeLimitsUptoSaid : Prop := mergeLimitsUptoRow.holds Try.pinned (OpenSpec.upto mergeLimitsSpec)

/-- 'egresslaw16.MergeSteps', WHERE WHAT IT READS IS OF BULK AT MOST 1048576: true; the input reads as it did. -/
def mergeStepsUptoRow : OpenClaim := { program := "ytljdhdlemakcaaa", sum := "a2497617805ad4f299b0d81cf8dc8905384ec526469dd75d9be4b1d9cf34f87c", func := "egress/egresslaw16.MergeSteps", spec := "mergeSteps", unfollowed := true, recurses := true, plainKeys := false, apart := false, narrowed := true }
def MergeStepsUptoSaid : Prop := mergeStepsUptoRow.holds Try.pinned (OpenSpec.upto mergeStepsSpec)

end Rows
end Go.Proofs.Ytljdhdlemakcaaa
