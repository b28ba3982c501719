/-
  No cell of these rows narrows 'for every input' (looked for: loops, veiled, ifaces, maps, wideKeys, modest, calm, conditions, laid).
  DERIVED. THE GIVEN ROWS OF THIS SEAT. 6 by the template 'for every input the law returns true; each argument reads behind the call as it read before'; 0 by the template 'total and deterministic' (their statements: YtjfncbgggfammaaTotals.lean).
  GIVEN WITH THE SEED: the statements are not yours to turn. If you find one false, say at which input.
  Laid BY PROGRAM, IN A SANDBOX (cutbox-rows.mjs): the forced cells as the released guide's own fill.sh prints them over the translation 15479f977853faea… (all of the seat's roots in one cut). By AI agents, Wed Nov 11 2026. No macro, syntax, notation, axiom, sorry.
-/
import Derived.Test.YtjfncbgggfammaaChecked
import GoSem.Claim
import GoSem.ClaimJoined
import GoSem.ClaimMapViews
import Derived.JoinedTies
import Derived.KernelRfl
namespace Go.Proofs.Ytjfncbgggfammaa
/- THE CELL 'sum', in the pinned program and in every row, IS THE sha256 OF THE DUMP (.gsa) THAT YtjfncbgggfammaaProg.lean LOADS. Nothing in Lean hashes anything: it is a label: what it is worth is what the hold of that sum in a sandbox is worth. -/
noncomputable def Try.pinned : Pinned := { name := "ytjfncbgggfammaa", sum := "15479f977853faea3bdc31dd7f8799674a1c9d30391879c1486d92b6238ccb5b", checked := Try.checked }
namespace Rows
def none {H : Type} : Left H := { results := [], args := [] }

/-- 'egresslaw14.ActivateSteps': WHATEVER THE INPUT: true; the input reads as it did. -/
def activateStepsSpec : ChangeSpec := { name := "activateSteps", fn := fun _ => fun
  | [d1, d2, d3] => { results := [.lit (.bool true)], args := [d1, d2, d3] }
  | _ => none }
def activateStepsRow : OpenClaim := { program := "ytjfncbgggfammaa", sum := "15479f977853faea3bdc31dd7f8799674a1c9d30391879c1486d92b6238ccb5b", func := "egress/egresslaw14.ActivateSteps", spec := "activateSteps", unfollowed := true, recurses := true, apart := false }
def ActivateStepsSaid : Prop := activateStepsRow.holds Try.pinned (OpenSpec.ofChange activateStepsSpec)

/-- ITS FALSE NEIGHBOUR: 'it returns false'. Refute it at one input. -/
def activateStepsWrong : ChangeSpec := { name := "activateSteps", fn := fun _ => fun
  | [d1, d2, d3] => { results := [.lit (.bool false)], args := [d1, d2, d3] }
  | _ => none }
def ActivateStepsWrongFalsely : Prop := activateStepsRow.holds Try.pinned (OpenSpec.ofChange activateStepsWrong)

/-- 'egresslaw14.ActivateDrains': WHATEVER THE INPUT: true; the input reads as it did. -/
def activateDrainsSpec : ChangeSpec := { name := "activateDrains", fn := fun _ => fun
  | [d1, d2, d3] => { results := [.lit (.bool true)], args := [d1, d2, d3] }
  | _ => none }
def activateDrainsRow : OpenClaim := { program := "ytjfncbgggfammaa", sum := "15479f977853faea3bdc31dd7f8799674a1c9d30391879c1486d92b6238ccb5b", func := "egress/egresslaw14.ActivateDrains", spec := "activateDrains", unfollowed := true, recurses := true, apart := false }
def ActivateDrainsSaid : Prop := activateDrainsRow.holds Try.pinned (OpenSpec.ofChange activateDrainsSpec)

/-- ITS FALSE NEIGHBOUR: 'it returns false'. Refute it at one input. -/
def activateDrainsWrong : ChangeSpec := { name := "activateDrains", fn := fun _ => fun
  | [d1, d2, d3] => { results := [.lit (.bool false)], args := [d1, d2, d3] }
  | _ => none }
def ActivateDrainsWrongFalsely : Prop := activateDrainsRow.holds Try.pinned (OpenSpec.ofChange activateDrainsWrong)

/-- 'egresslaw14.ActivateLimits': WHATEVER THE INPUT: true; the input reads as it did. -/
def activateLimitsSpec : ChangeSpec := { name := "activateLimits", fn := fun _ => fun
  | [d1, d2, d3] => { results := [.lit (.bool true)], args := [d1, d2, d3] }
  | _ => none }
def activateLimitsRow : OpenClaim := { program := "ytjfncbgggfammaa", sum := "15479f977853faea3bdc31dd7f8799674a1c9d30391879c1486d92b6238ccb5b", func := "egress/egresslaw14.ActivateLimits", spec := "activateLimits", unfollowed := true, recurses := true, apart := false }
def ActivateLimitsSaid : Prop := activateLimitsRow.holds Try.pinned (OpenSpec.ofChange activateLimitsSpec)

/-- ITS FALSE NEIGHBOUR: 'it returns false'. Refute it at one input. -/
def activateLimitsWrong : ChangeSpec := { name := "activateLimits", fn := fun _ => fun
  | [d1, d2, d3] => { results := [.lit (.bool false)], args := [d1, d2, d3] }
  | _ => none }
def ActivateLimitsWrongFalsely : Prop := activateLimitsRow.holds Try.pinned (OpenSpec.ofChange activateLimitsWrong)

/-- 'egresslaw14.ActivateWaits': WHATEVER THE INPUT: true; the input reads as it did. -/
def activateWaitsSpec : ChangeSpec := { name := "activateWaits", fn := fun _ => fun
  | [d1, d2, d3] => { results := [.lit (.bool true)], args := [d1, d2, d3] }
  | _ => none }
def activateWaitsRow : OpenClaim := { program := "ytjfncbgggfammaa", sum := "15479f977853faea3bdc31dd7f8799674a1c9d30391879c1486d92b6238ccb5b", func := "egress/egresslaw14.ActivateWaits", spec := "activateWaits", unfollowed := true, recurses := true, apart := false }
def ActivateWaitsSaid : Prop := activateWaitsRow.holds Try.pinned (OpenSpec.ofChange activateWaitsSpec)

/-- ITS FALSE NEIGHBOUR: 'it returns false'. Refute it at one input. -/
def activateWaitsWrong : ChangeSpec := { name := "activateWaits", fn := fun _ => fun
  | [d1, d2, d3] => { results := [.lit (.bool false)], args := [d1, d2, d3] }
  | _ => none }
def ActivateWaitsWrongFalsely : Prop := activateWaitsRow.holds Try.pinned (OpenSpec.ofChange activateWaitsWrong)

/-- 'egresslaw14.ActivateTrue': WHATEVER THE INPUT: true; the input reads as it did. -/
def activateTrueSpec : ChangeSpec := { name := "activateTrue", fn := fun _ => fun
  | [d1, d2, d3] => { results := [.lit (.bool true)], args := [d1, d2, d3] }
  | _ => none }
def activateTrueRow : OpenClaim := { program := "ytjfncbgggfammaa", sum := "15479f977853faea3bdc31dd7f8799674a1c9d30391879c1486d92b6238ccb5b", func := "egress/egresslaw14.ActivateTrue", spec := "activateTrue", unfollowed := true, recurses := true, apart := false }
def ActivateTrueSaid : Prop := activateTrueRow.holds Try.pinned (OpenSpec.ofChange activateTrueSpec)

/-- ITS FALSE NEIGHBOUR: 'it returns false'. Refute it at one input. -/
def activateTrueWrong : ChangeSpec := { name := "activateTrue", fn := fun _ => fun
  | [d1, d2, d3] => { results := [.lit (.bool false)], args := [d1, d2, d3] }
  | _ => none }
def ActivateTrueWrongFalsely : Prop := activateTrueRow.holds Try.pinned (OpenSpec.ofChange activateTrueWrong)

/-- 'egresslaw14.ActivateNil': WHATEVER THE INPUT: true; the input reads as it did. -/
def activateNilSpec : ChangeSpec := { name := "activateNil", fn := fun _ => fun
  | [d1, d2] => { results := [.lit (.bool true)], args := [d1, d2] }
  | _ => none }
def activateNilRow : OpenClaim := { program := "ytjfncbgggfammaa", sum := "15479f977853faea3bdc31dd7f8799674a1c9d30391879c1486d92b6238ccb5b", func := "egress/egresslaw14.ActivateNil", spec := "activateNil", unfollowed := true, recurses := true, apart := false }
def ActivateNilSaid : Prop := activateNilRow.holds Try.pinned (OpenSpec.ofChange activateNilSpec)

/-- ITS FALSE NEIGHBOUR: 'it returns false'. Refute it at one input. -/
def activateNilWrong : ChangeSpec := { name := "activateNil", fn := fun _ => fun
  | [d1, d2] => { results := [.lit (.bool false)], args := [d1, d2] }
  | _ => none }
def ActivateNilWrongFalsely : Prop := activateNilRow.holds Try.pinned (OpenSpec.ofChange activateNilWrong)

/- THE SECOND FORM. 'bulk': how many values and letters a reading holds, each counted each time it is reached (what is shared counts as often as it is met; a slice's spare places count too). A statement '..UptoSaid' is the law's where the arguments, and the package variables that the reading takes, are together of bulk at most 1048576: NARROWER than '..Said'. Prove '..Said' where nothing that the law and all that it calls make is longer than what came in: it says more and counts as full. Else prove '..UptoSaid'. A law counts once. -/
mutual
def uptoBulk {H : Type} : DataW H → Nat
  | .lit (.string bytes) => bytes.length + 1
  | .lit _ => 1
  | .nil => 1
  | .ptr d => uptoBulk d + 1
  | .slice elems spare => uptoBulkAll elems + uptoBulkAll spare + 1
  | .agg parts => uptoBulkAll parts + 1
  | .iface _ d => uptoBulk d + 1
  | .map entries => uptoBulkEntries entries + 1
  | .held _ => 1
def uptoBulkAll {H : Type} : List (DataW H) → Nat
  | [] => 0
  | d :: r => uptoBulk d + uptoBulkAll r
def uptoBulkEntries {H : Type} : List (Lit × DataW H) → Nat
  | [] => 0
  | x :: r => uptoBulkEntry x + uptoBulkEntries r
def uptoBulkEntry {H : Type} : Lit × DataW H → Nat
  | (.string bytes, d) => bytes.length + uptoBulk d + 1
  | (_, d) => uptoBulk d + 1
 end
def uptoSmall : (H : Type) → List (DataW H) → Bool := fun _ ds => decide (uptoBulkAll ds ≤ 1048576)
def OpenSpec.upto (s : _root_.Go.ChangeSpec) : _root_.Go.OpenSpec := { _root_.Go.OpenSpec.ofChange s with cond := some uptoSmall }

/-- 'egresslaw14.ActivateSteps', WHERE WHAT IT READS IS OF BULK AT MOST 1048576: true; the input reads as it did. -/
def activateStepsUptoRow : OpenClaim := { program := "ytjfncbgggfammaa", sum := "15479f977853faea3bdc31dd7f8799674a1c9d30391879c1486d92b6238ccb5b", func := "egress/egresslaw14.ActivateSteps", spec := "activateSteps", unfollowed := true, recurses := true, apart := false, narrowed := true }
def ActivateStepsUptoSaid : Prop := activateStepsUptoRow.holds Try.pinned (OpenSpec.upto activateStepsSpec)

/-- 'egresslaw14.ActivateDrains', WHERE WHAT IT READS IS OF BULK AT MOST 1048576: true; the input reads as it did. -/
def activateDrainsUptoRow : OpenClaim := { program := "ytjfncbgggfammaa", sum := "15479f977853faea3bdc31dd7f8799674a1c9d30391879c1486d92b6238ccb5b", func := "egress/egresslaw14.ActivateDrains", spec := "activateDrains", unfollowed := true, recurses := true, apart := false, narrowed := true }
def ActivateDrainsUptoSaid : Prop := activateDrainsUptoRow.holds Try.pinned (OpenSpec.upto activateDrainsSpec)

/-- 'egresslaw14.ActivateLimits', WHERE WHAT IT READS IS OF BULK AT MOST 1048576: true; the input reads as it did. -/
def activateLimitsUptoRow : OpenClaim := { program := "ytjfncbgggfammaa", sum := "15479f977853faea3bdc31dd7f8799674a1c9d30391879c1486d92b6238ccb5b", func := "egress/egresslaw14.ActivateLimits", spec := "activateLimits", unfollowed := true, recurses := true, apart := false, narrowed := true }
def ActivateLimitsUptoSaid : Prop := activateLimitsUptoRow.holds Try.pinned (OpenSpec.upto activateLimitsSpec)

/-- 'egresslaw14.ActivateWaits', WHERE WHAT IT READS IS OF BULK AT MOST 1048576: true; the input reads as it did. -/
def activateWaitsUptoRow : OpenClaim := { program := "ytjfncbgggfammaa", sum := "15479f977853faea3bdc31dd7f8799674a1c9d30391879c1486d92b6238ccb5b", func := "egress/egresslaw14.ActivateWaits", spec := "activateWaits", unfollowed := true, recurses := true, apart := false, narrowed := true }
def ActivateWaitsUptoSaid : Prop := activateWaitsUptoRow.holds Try.pinned (OpenSpec.upto activateWaitsSpec)

/-- 'egresslaw14.ActivateTrue', WHERE WHAT IT READS IS OF BULK AT MOST 1048576: true; the input reads as it did. -/
def activateTrueUptoRow : OpenClaim := { program := "ytjfncbgggfammaa", sum := "15479f977853faea3bdc31dd7f8799674a1c9d30391879c1486d92b6238ccb5b", func := "egress/egresslaw14.ActivateTrue", spec := "activateTrue", unfollowed := true, recurses := true, apart := false, narrowed := true }
def ActivateTrueUptoSaid : Prop := activateTrueUptoRow.holds Try.pinned (OpenSpec.upto activateTrueSpec)

/-- 'egresslaw14.ActivateNil', WHERE WHAT IT READS IS OF BULK AT MOST 1048576: true; the input reads as it did. -/
def activateNilUptoRow : OpenClaim := { program := "ytjfncbgggfammaa", sum := "15479f977853faea3bdc31dd7f8799674a1c9d30391879c1486d92b6238ccb5b", func := "egress/egresslaw14.ActivateNil", spec := "activateNil", unfollowed := true, recurses := true, apart := false, narrowed := true }
def ActivateNilUptoSaid : Prop := activateNilUptoRow.holds Try.pinned (OpenSpec.upto activateNilSpec)

end Rows
end Go.Proofs.Ytjfncbgggfammaa
