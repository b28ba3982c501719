/-
  No cell of these rows narrows 'for every input' (looked for: loops, veiled, ifaces, maps, wideKeys, modest, calm, conditions, laid).
  DERIVED. THE GIVEN ROWS OF THIS SEAT. 6 by the template 'for every input the law returns true; each argument reads behind the call as it read before'; 0 by the template 'total and deterministic' (their statements: YthdkbocfkbnpaaaTotals.lean).
  GIVEN WITH THE SEED: the statements are not yours to turn. If you find one false, say at which input.
  Laid BY PROGRAM, IN A SANDBOX (cutbox-rows.mjs): the forced cells as the released guide's own fill.sh prints them over the translation e0678d8a7614d0f5… (all of the seat's roots in one cut). By AI agents, Wed Nov 11 2026. No macro, syntax, notation, axiom, sorry.
-/
import Derived.Test.YthdkbocfkbnpaaaChecked
import GoSem.Claim
import GoSem.ClaimJoined
import GoSem.ClaimMapViews
import Derived.JoinedTies
import Derived.KernelRfl
namespace Go.Proofs.Ythdkbocfkbnpaaa
/- THE CELL 'sum', in the pinned program and in every row, IS THE sha256 OF THE DUMP (.gsa) THAT YthdkbocfkbnpaaaProg.lean LOADS. Nothing in Lean hashes anything: it is a label: what it is worth is what the hold of that sum in a sandbox is worth. -/
noncomputable def Try.pinned : Pinned := { name := "ythdkbocfkbnpaaa", sum := "e0678d8a7614d0f5db4fbdcc9a98f33692aa6af713aadd335827a7e086f69dd1", checked := Try.checked }
namespace Rows
def none {H : Type} : Left H := { results := [], args := [] }

/-- 'egresslaw18.DeadlineMatches': WHATEVER THE INPUT: true; the input reads as it did. -/
def deadlineMatchesSpec : ChangeSpec := { name := "deadlineMatches", fn := fun _ => fun
  | [d1, d2] => { results := [.lit (.bool true)], args := [d1, d2] }
  | _ => none }
def deadlineMatchesRow : OpenClaim := { program := "ythdkbocfkbnpaaa", sum := "e0678d8a7614d0f5db4fbdcc9a98f33692aa6af713aadd335827a7e086f69dd1", func := "egress/egresslaw18.DeadlineMatches", spec := "deadlineMatches", unfollowed := true, recurses := true, apart := false }
def DeadlineMatchesSaid : Prop := deadlineMatchesRow.holds Try.pinned (OpenSpec.ofChange deadlineMatchesSpec)

/-- ITS FALSE NEIGHBOUR: 'it returns false'. Refute it at one input. -/
def deadlineMatchesWrong : ChangeSpec := { name := "deadlineMatches", fn := fun _ => fun
  | [d1, d2] => { results := [.lit (.bool false)], args := [d1, d2] }
  | _ => none }
def DeadlineMatchesWrongFalsely : Prop := deadlineMatchesRow.holds Try.pinned (OpenSpec.ofChange deadlineMatchesWrong)

/-- 'egresslaw18.DeadlineRises': WHATEVER THE INPUT: true; the input reads as it did. -/
def deadlineRisesSpec : ChangeSpec := { name := "deadlineRises", fn := fun _ => fun
  | [d1, d2, d3] => { results := [.lit (.bool true)], args := [d1, d2, d3] }
  | _ => none }
def deadlineRisesRow : OpenClaim := { program := "ythdkbocfkbnpaaa", sum := "e0678d8a7614d0f5db4fbdcc9a98f33692aa6af713aadd335827a7e086f69dd1", func := "egress/egresslaw18.DeadlineRises", spec := "deadlineRises", unfollowed := true, recurses := true, apart := false }
def DeadlineRisesSaid : Prop := deadlineRisesRow.holds Try.pinned (OpenSpec.ofChange deadlineRisesSpec)

/-- ITS FALSE NEIGHBOUR: 'it returns false'. Refute it at one input. -/
def deadlineRisesWrong : ChangeSpec := { name := "deadlineRises", fn := fun _ => fun
  | [d1, d2, d3] => { results := [.lit (.bool false)], args := [d1, d2, d3] }
  | _ => none }
def DeadlineRisesWrongFalsely : Prop := deadlineRisesRow.holds Try.pinned (OpenSpec.ofChange deadlineRisesWrong)

/-- 'egresslaw18.DeadlineSteps': WHATEVER THE INPUT: true; the input reads as it did. -/
def deadlineStepsSpec : ChangeSpec := { name := "deadlineSteps", fn := fun _ => fun
  | [d1, d2] => { results := [.lit (.bool true)], args := [d1, d2] }
  | _ => none }
def deadlineStepsRow : OpenClaim := { program := "ythdkbocfkbnpaaa", sum := "e0678d8a7614d0f5db4fbdcc9a98f33692aa6af713aadd335827a7e086f69dd1", func := "egress/egresslaw18.DeadlineSteps", spec := "deadlineSteps", unfollowed := true, recurses := true, apart := false }
def DeadlineStepsSaid : Prop := deadlineStepsRow.holds Try.pinned (OpenSpec.ofChange deadlineStepsSpec)

/-- ITS FALSE NEIGHBOUR: 'it returns false'. Refute it at one input. -/
def deadlineStepsWrong : ChangeSpec := { name := "deadlineSteps", fn := fun _ => fun
  | [d1, d2] => { results := [.lit (.bool false)], args := [d1, d2] }
  | _ => none }
def DeadlineStepsWrongFalsely : Prop := deadlineStepsRow.holds Try.pinned (OpenSpec.ofChange deadlineStepsWrong)

/-- 'egresslaw18.DeadlineAssigns': WHATEVER THE INPUT: true; the input reads as it did. -/
def deadlineAssignsSpec : ChangeSpec := { name := "deadlineAssigns", fn := fun _ => fun
  | [d1, d2] => { results := [.lit (.bool true)], args := [d1, d2] }
  | _ => none }
def deadlineAssignsRow : OpenClaim := { program := "ythdkbocfkbnpaaa", sum := "e0678d8a7614d0f5db4fbdcc9a98f33692aa6af713aadd335827a7e086f69dd1", func := "egress/egresslaw18.DeadlineAssigns", spec := "deadlineAssigns", unfollowed := true, recurses := true, apart := false }
def DeadlineAssignsSaid : Prop := deadlineAssignsRow.holds Try.pinned (OpenSpec.ofChange deadlineAssignsSpec)

/-- ITS FALSE NEIGHBOUR: 'it returns false'. Refute it at one input. -/
def deadlineAssignsWrong : ChangeSpec := { name := "deadlineAssigns", fn := fun _ => fun
  | [d1, d2] => { results := [.lit (.bool false)], args := [d1, d2] }
  | _ => none }
def DeadlineAssignsWrongFalsely : Prop := deadlineAssignsRow.holds Try.pinned (OpenSpec.ofChange deadlineAssignsWrong)

/-- 'egresslaw18.DeadlineSweeps': WHATEVER THE INPUT: true; the input reads as it did. -/
def deadlineSweepsSpec : ChangeSpec := { name := "deadlineSweeps", fn := fun _ => fun
  | [d1, d2, d3] => { results := [.lit (.bool true)], args := [d1, d2, d3] }
  | _ => none }
def deadlineSweepsRow : OpenClaim := { program := "ythdkbocfkbnpaaa", sum := "e0678d8a7614d0f5db4fbdcc9a98f33692aa6af713aadd335827a7e086f69dd1", func := "egress/egresslaw18.DeadlineSweeps", spec := "deadlineSweeps", unfollowed := true, recurses := true, apart := false }
def DeadlineSweepsSaid : Prop := deadlineSweepsRow.holds Try.pinned (OpenSpec.ofChange deadlineSweepsSpec)

/-- ITS FALSE NEIGHBOUR: 'it returns false'. Refute it at one input. -/
def deadlineSweepsWrong : ChangeSpec := { name := "deadlineSweeps", fn := fun _ => fun
  | [d1, d2, d3] => { results := [.lit (.bool false)], args := [d1, d2, d3] }
  | _ => none }
def DeadlineSweepsWrongFalsely : Prop := deadlineSweepsRow.holds Try.pinned (OpenSpec.ofChange deadlineSweepsWrong)

/-- 'egresslaw18.DeadlineLimits': WHATEVER THE INPUT: true; the input reads as it did. -/
def deadlineLimitsSpec : ChangeSpec := { name := "deadlineLimits", fn := fun _ => fun
  | [d1, d2] => { results := [.lit (.bool true)], args := [d1, d2] }
  | _ => none }
def deadlineLimitsRow : OpenClaim := { program := "ythdkbocfkbnpaaa", sum := "e0678d8a7614d0f5db4fbdcc9a98f33692aa6af713aadd335827a7e086f69dd1", func := "egress/egresslaw18.DeadlineLimits", spec := "deadlineLimits", unfollowed := true, recurses := true, apart := false }
def DeadlineLimitsSaid : Prop := deadlineLimitsRow.holds Try.pinned (OpenSpec.ofChange deadlineLimitsSpec)

/-- ITS FALSE NEIGHBOUR: 'it returns false'. Refute it at one input. -/
def deadlineLimitsWrong : ChangeSpec := { name := "deadlineLimits", fn := fun _ => fun
  | [d1, d2] => { results := [.lit (.bool false)], args := [d1, d2] }
  | _ => none }
def DeadlineLimitsWrongFalsely : Prop := deadlineLimitsRow.holds Try.pinned (OpenSpec.ofChange deadlineLimitsWrong)

/- THE SECOND FORM. 'bulk': how many values and letters a reading holds, each counted each time it is reached (what is shared counts as often as it is met; a slice's spare places count too). A statement '..UptoSaid' is the law's where the arguments, and the package variables that the reading takes, are together of bulk at most 1048576: NARROWER than '..Said'. Prove '..Said' where nothing that the law and all that it calls make is longer than what came in: it says more and counts as full. Else prove '..UptoSaid'. A law counts once. -/
mutual
def uptoBulk {H : Type} : DataW H → Nat
  | .lit (.string bytes) => bytes.length + 1
  | .lit _ => 1
  | .nil => 1
  | .ptr d => uptoBulk d + 1
  | .slice elems spare => uptoBulkAll elems + uptoBulkAll spare + 1
  | .agg parts => uptoBulkAll parts + 1
  | .iface _ d => uptoBulk d + 1
  | .map entries => uptoBulkEntries entries + 1
  | .held _ => 1
def uptoBulkAll {H : Type} : List (DataW H) → Nat
  | [] => 0
  | d :: r => uptoBulk d + uptoBulkAll r
def uptoBulkEntries {H : Type} : List (Lit × DataW H) → Nat
  | [] => 0
  | x :: r => uptoBulkEntry x + uptoBulkEntries r
def uptoBulkEntry {H : Type} : Lit × DataW H → Nat
  | (.string bytes, d) => bytes.length + uptoBulk d + 1
  | (_, d) => uptoBulk d + 1
 end
def uptoSmall : (H : Type) → List (DataW H) → Bool := fun _ ds => decide (uptoBulkAll ds ≤ 1048576)
def OpenSpec.upto (s : _root_.Go.ChangeSpec) : _root_.Go.OpenSpec := { _root_.Go.OpenSpec.ofChange s with cond := some uptoSmall }

/-- 'egresslaw18.DeadlineMatches', WHERE WHAT IT READS IS OF BULK AT MOST 1048576: true; the input reads as it did. -/
def deadlineMatchesUptoRow : OpenClaim := { program := "ythdkbocfkbnpaaa", sum := "e0678d8a7614d0f5db4fbdcc9a98f33692aa6af713aadd335827a7e086f69dd1", func := "egress/egresslaw18.DeadlineMatches", spec := "deadlineMatches", unfollowed := true, recurses := true, apart := false, narrowed := true }
def DeadlineMatchesUptoSaid : Prop := deadlineMatchesUptoRow.holds Try.pinned (OpenSpec.upto deadlineMatchesSpec)

/-- 'egresslaw18.DeadlineRises', WHERE WHAT IT READS IS OF BULK AT MOST 1048576: true; the input reads as it did. -/
def deadlineRisesUptoRow : OpenClaim := { program := "ythdkbocfkbnpaaa", sum := "e0678d8a7614d0f5db4fbdcc9a98f33692aa6af713aadd335827a7e086f69dd1", func := "egress/egresslaw18.DeadlineRises", spec := "deadlineRises", unfollowed := true, recurses := true, apart := false, narrowed := true }
def DeadlineRisesUptoSaid : Prop := deadlineRisesUptoRow.holds Try.pinned (OpenSpec.upto deadlineRisesSpec)

/-- 'egresslaw18.DeadlineSteps', WHERE WHAT IT READS IS OF BULK AT MOST 1048576: true; the input reads as it did. -/
def deadlineStepsUptoRow : OpenClaim := { program := "ythdkbocfkbnpaaa", sum := "e0678d8a7614d0f5db4fbdcc9a98f33692aa6af713aadd335827a7e086f69dd1", func := "egress/egresslaw18.DeadlineSteps", spec := "deadlineSteps", unfollowed := true, recurses := true, apart := false, narrowed := true }
def DeadlineStepsUptoSaid : Prop := deadlineStepsUptoRow.holds Try.pinned (OpenSpec.upto deadlineStepsSpec)

/-- 'egresslaw18.DeadlineAssigns', WHERE WHAT IT READS IS OF BULK AT MOST 1048576: true; the input reads as it did. -/
def deadlineAssignsUptoRow : OpenClaim := { program := "ythdkbocfkbnpaaa", sum := "e0678d8a7614d0f5db4fbdcc9a98f33692aa6af713aadd335827a7e086f69dd1", func := "egress/egresslaw18.DeadlineAssigns", spec := "deadlineAssigns", unfollowed := true, recurses := true, apart := false, narrowed := true }
def DeadlineAssignsUptoSaid : Prop := deadlineAssignsUptoRow.holds Try.pinned (OpenSpec.upto deadlineAssignsSpec)

/-- 'egresslaw18.DeadlineSweeps', WHERE WHAT IT READS IS OF BULK AT MOST 1048576: true; the input reads as it did. -/
def deadlineSweepsUptoRow : OpenClaim := { program := "ythdkbocfkbnpaaa", sum := "e0678d8a7614d0f5db4fbdcc9a98f33692aa6af713aadd335827a7e086f69dd1", func := "egress/egresslaw18.DeadlineSweeps", spec := "deadlineSweeps", unfollowed := true, recurses := true, apart := false, narrowed := true }
def DeadlineSweepsUptoSaid : Prop := deadlineSweepsUptoRow.holds Try.pinned (OpenSpec.upto deadlineSweepsSpec)

/-- 'egresslaw18.DeadlineLimits', WHERE WHAT IT READS IS OF BULK AT MOST 1048576: true; the input reads as it did. -/
def deadlineLimitsUptoRow : OpenClaim := { program := "ythdkbocfkbnpaaa", sum := "e0678d8a7614d0f5db4fbdcc9a98f33692aa6af713aadd335827a7e086f69dd1", func := "egress/egresslaw18.DeadlineLimits", spec := "deadlineLimits", unfollowed := true, recurses := true, apart := false, narrowed := true }
def DeadlineLimitsUptoSaid : Prop := deadlineLimitsUptoRow.holds Try.pinned (OpenSpec.upto deadlineLimitsSpec)

end Rows
end Go.Proofs.Ythdkbocfkbnpaaa
