/-
  No cell of these rows narrows 'for every input' (looked for: loops, veiled, ifaces, maps, wideKeys, modest, calm, conditions, laid).
  DERIVED. THE GIVEN ROWS OF THIS SEAT. 6 by the template 'for every input the law returns true; each argument reads behind the call as it read before'; 0 by the template 'total and deterministic' (their statements: YtmolaicpbaiioaaTotals.lean).
  GIVEN WITH THE SEED: the statements are not yours to turn. If you find one false, say at which input.
  Laid BY PROGRAM, IN A SANDBOX (cutbox-rows.mjs): the forced cells as the released guide's own fill.sh prints them over the translation 07dc0b84eeca3413… (all of the seat's roots in one cut). By AI agents, Wed Nov 11 2026. No macro, syntax, notation, axiom, sorry.
-/
import Derived.Test.YtmolaicpbaiioaaChecked
import GoSem.Claim
import GoSem.ClaimJoined
import GoSem.ClaimMapViews
import Derived.JoinedTies
import Derived.KernelRfl
namespace Go.Proofs.Ytmolaicpbaiioaa
/- THE CELL 'sum', in the pinned program and in every row, IS THE sha256 OF THE DUMP (.gsa) THAT YtmolaicpbaiioaaProg.lean LOADS. Nothing in Lean hashes anything: it is a label: what it is worth is what the hold of that sum in a sandbox is worth. -/
noncomputable def Try.pinned : Pinned := { name := "ytmolaicpbaiioaa", sum := "07dc0b84eeca341316e18b61789347217a0f4baca2cdd530e6a3132dfbfa3330", checked := Try.checked }
namespace Rows
def none {H : Type} : Left H := { results := [], args := [] }

/-- 'egresslaw13.AssignOrder': WHATEVER THE INPUT: true; the input reads as it did. -/
def assignOrderSpec : ChangeSpec := { name := "assignOrder", fn := fun _ => fun
  | [d1, d2] => { results := [.lit (.bool true)], args := [d1, d2] }
  | _ => none }
def assignOrderRow : OpenClaim := { program := "ytmolaicpbaiioaa", sum := "07dc0b84eeca341316e18b61789347217a0f4baca2cdd530e6a3132dfbfa3330", func := "egress/egresslaw13.AssignOrder", spec := "assignOrder", unfollowed := true, recurses := true, apart := false }
def AssignOrderSaid : Prop := assignOrderRow.holds Try.pinned (OpenSpec.ofChange assignOrderSpec)

/-- ITS FALSE NEIGHBOUR: 'it returns false'. Refute it at one input. -/
def assignOrderWrong : ChangeSpec := { name := "assignOrder", fn := fun _ => fun
  | [d1, d2] => { results := [.lit (.bool false)], args := [d1, d2] }
  | _ => none }
def AssignOrderWrongFalsely : Prop := assignOrderRow.holds Try.pinned (OpenSpec.ofChange assignOrderWrong)

/-- 'egresslaw13.AssignForecast': WHATEVER THE INPUT: true; the input reads as it did. -/
def assignForecastSpec : ChangeSpec := { name := "assignForecast", fn := fun _ => fun
  | [d1, d2, d3] => { results := [.lit (.bool true)], args := [d1, d2, d3] }
  | _ => none }
def assignForecastRow : OpenClaim := { program := "ytmolaicpbaiioaa", sum := "07dc0b84eeca341316e18b61789347217a0f4baca2cdd530e6a3132dfbfa3330", func := "egress/egresslaw13.AssignForecast", spec := "assignForecast", unfollowed := true, recurses := true, apart := false }
def AssignForecastSaid : Prop := assignForecastRow.holds Try.pinned (OpenSpec.ofChange assignForecastSpec)

/-- ITS FALSE NEIGHBOUR: 'it returns false'. Refute it at one input. -/
def assignForecastWrong : ChangeSpec := { name := "assignForecast", fn := fun _ => fun
  | [d1, d2, d3] => { results := [.lit (.bool false)], args := [d1, d2, d3] }
  | _ => none }
def AssignForecastWrongFalsely : Prop := assignForecastRow.holds Try.pinned (OpenSpec.ofChange assignForecastWrong)

/-- 'egresslaw13.AssignTrue': WHATEVER THE INPUT: true; the input reads as it did. -/
def assignTrueSpec : ChangeSpec := { name := "assignTrue", fn := fun _ => fun
  | [d1, d2] => { results := [.lit (.bool true)], args := [d1, d2] }
  | _ => none }
def assignTrueRow : OpenClaim := { program := "ytmolaicpbaiioaa", sum := "07dc0b84eeca341316e18b61789347217a0f4baca2cdd530e6a3132dfbfa3330", func := "egress/egresslaw13.AssignTrue", spec := "assignTrue", unfollowed := true, recurses := true, apart := false }
def AssignTrueSaid : Prop := assignTrueRow.holds Try.pinned (OpenSpec.ofChange assignTrueSpec)

/-- ITS FALSE NEIGHBOUR: 'it returns false'. Refute it at one input. -/
def assignTrueWrong : ChangeSpec := { name := "assignTrue", fn := fun _ => fun
  | [d1, d2] => { results := [.lit (.bool false)], args := [d1, d2] }
  | _ => none }
def AssignTrueWrongFalsely : Prop := assignTrueRow.holds Try.pinned (OpenSpec.ofChange assignTrueWrong)

/-- 'egresslaw13.AssignBounds': WHATEVER THE INPUT: true; the input reads as it did. -/
def assignBoundsSpec : ChangeSpec := { name := "assignBounds", fn := fun _ => fun
  | [d1, d2] => { results := [.lit (.bool true)], args := [d1, d2] }
  | _ => none }
def assignBoundsRow : OpenClaim := { program := "ytmolaicpbaiioaa", sum := "07dc0b84eeca341316e18b61789347217a0f4baca2cdd530e6a3132dfbfa3330", func := "egress/egresslaw13.AssignBounds", spec := "assignBounds", unfollowed := true, recurses := true, apart := false }
def AssignBoundsSaid : Prop := assignBoundsRow.holds Try.pinned (OpenSpec.ofChange assignBoundsSpec)

/-- ITS FALSE NEIGHBOUR: 'it returns false'. Refute it at one input. -/
def assignBoundsWrong : ChangeSpec := { name := "assignBounds", fn := fun _ => fun
  | [d1, d2] => { results := [.lit (.bool false)], args := [d1, d2] }
  | _ => none }
def AssignBoundsWrongFalsely : Prop := assignBoundsRow.holds Try.pinned (OpenSpec.ofChange assignBoundsWrong)

/-- 'egresslaw13.AssignPlays': WHATEVER THE INPUT: true; the input reads as it did. -/
def assignPlaysSpec : ChangeSpec := { name := "assignPlays", fn := fun _ => fun
  | [d1, d2] => { results := [.lit (.bool true)], args := [d1, d2] }
  | _ => none }
def assignPlaysRow : OpenClaim := { program := "ytmolaicpbaiioaa", sum := "07dc0b84eeca341316e18b61789347217a0f4baca2cdd530e6a3132dfbfa3330", func := "egress/egresslaw13.AssignPlays", spec := "assignPlays", unfollowed := true, recurses := true, apart := false }
def AssignPlaysSaid : Prop := assignPlaysRow.holds Try.pinned (OpenSpec.ofChange assignPlaysSpec)

/-- ITS FALSE NEIGHBOUR: 'it returns false'. Refute it at one input. -/
def assignPlaysWrong : ChangeSpec := { name := "assignPlays", fn := fun _ => fun
  | [d1, d2] => { results := [.lit (.bool false)], args := [d1, d2] }
  | _ => none }
def AssignPlaysWrongFalsely : Prop := assignPlaysRow.holds Try.pinned (OpenSpec.ofChange assignPlaysWrong)

/-- 'egresslaw13.AssignWeight': WHATEVER THE INPUT: true; the input reads as it did. -/
def assignWeightSpec : ChangeSpec := { name := "assignWeight", fn := fun _ => fun
  | [d1, d2] => { results := [.lit (.bool true)], args := [d1, d2] }
  | _ => none }
def assignWeightRow : OpenClaim := { program := "ytmolaicpbaiioaa", sum := "07dc0b84eeca341316e18b61789347217a0f4baca2cdd530e6a3132dfbfa3330", func := "egress/egresslaw13.AssignWeight", spec := "assignWeight", unfollowed := true, recurses := true, apart := false }
def AssignWeightSaid : Prop := assignWeightRow.holds Try.pinned (OpenSpec.ofChange assignWeightSpec)

/-- ITS FALSE NEIGHBOUR: 'it returns false'. Refute it at one input. -/
def assignWeightWrong : ChangeSpec := { name := "assignWeight", fn := fun _ => fun
  | [d1, d2] => { results := [.lit (.bool false)], args := [d1, d2] }
  | _ => none }
def AssignWeightWrongFalsely : Prop := assignWeightRow.holds Try.pinned (OpenSpec.ofChange assignWeightWrong)

/- THE SECOND FORM. 'bulk': how many values and letters a reading holds, each counted each time it is reached (what is shared counts as often as it is met; a slice's spare places count too). A statement '..UptoSaid' is the law's where the arguments, and the package variables that the reading takes, are together of bulk at most 1048576: NARROWER than '..Said'. Prove '..Said' where nothing that the law and all that it calls make is longer than what came in: it says more and counts as full. Else prove '..UptoSaid'. A law counts once. -/
mutual
def uptoBulk {H : Type} : DataW H → Nat
  | .lit (.string bytes) => bytes.length + 1
  | .lit _ => 1
  | .nil => 1
  | .ptr d => uptoBulk d + 1
  | .slice elems spare => uptoBulkAll elems + uptoBulkAll spare + 1
  | .agg parts => uptoBulkAll parts + 1
  | .iface _ d => uptoBulk d + 1
  | .map entries => uptoBulkEntries entries + 1
  | .held _ => 1
def uptoBulkAll {H : Type} : List (DataW H) → Nat
  | [] => 0
  | d :: r => uptoBulk d + uptoBulkAll r
def uptoBulkEntries {H : Type} : List (Lit × DataW H) → Nat
  | [] => 0
  | x :: r => uptoBulkEntry x + uptoBulkEntries r
def uptoBulkEntry {H : Type} : Lit × DataW H → Nat
  | (.string bytes, d) => bytes.length + uptoBulk d + 1
  | (_, d) => uptoBulk d + 1
 end
def uptoSmall : (H : Type) → List (DataW H) → Bool := fun _ ds => decide (uptoBulkAll ds ≤ 1048576)
def OpenSpec.upto (s : _root_.Go.ChangeSpec) : _root_.Go.OpenSpec := { _root_.Go.OpenSpec.ofChange s with cond := some uptoSmall }

/-- 'egresslaw13.AssignOrder', WHERE WHAT IT READS IS OF BULK AT MOST 1048576: true; the input reads as it did. -/
def assignOrderUptoRow : OpenClaim := { program := "ytmolaicpbaiioaa", sum := "07dc0b84eeca341316e18b61789347217a0f4baca2cdd530e6a3132dfbfa3330", func := "egress/egresslaw13.AssignOrder", spec := "assignOrder", unfollowed := true, recurses := true, apart := false, narrowed := true }
def AssignOrderUptoSaid : Prop := assignOrderUptoRow.holds Try.pinned (OpenSpec.upto assignOrderSpec)

/-- 'egresslaw13.AssignForecast', WHERE WHAT IT READS IS OF BULK AT MOST 1048576: true; the input reads as it did. -/
def assignForecastUptoRow : OpenClaim := { program := "ytmolaicpbaiioaa", sum := "07dc0b84eeca341316e18b61789347217a0f4baca2cdd530e6a3132dfbfa3330", func := "egress/egresslaw13.AssignForecast", spec := "assignForecast", unfollowed := true, recurses := true, apart := false, narrowed := true }
def AssignForecastUptoSaid : Prop := assignForecastUptoRow.holds Try.pinned (OpenSpec.upto assignForecastSpec)

/-- 'egresslaw13.AssignTrue', WHERE WHAT IT READS IS OF BULK AT MOST 1048576: true; the input reads as it did. -/
def assignTrueUptoRow : OpenClaim := { program := "ytmolaicpbaiioaa", sum := "07dc0b84eeca341316e18b61789347217a0f4baca2cdd530e6a3132dfbfa3330", func := "egress/egresslaw13.AssignTrue", spec := "assignTrue", unfollowed := true, recurses := true, apart := false, narrowed := true }
def AssignTrueUptoSaid : Prop := assignTrueUptoRow.holds Try.pinned (OpenSpec.upto assignTrueSpec)

/-- 'egresslaw13.AssignBounds', WHERE WHAT IT READS IS OF BULK AT MOST 1048576: true; the input reads as it did. -/
def assignBoundsUptoRow : OpenClaim := { program := "ytmolaicpbaiioaa", sum := "07dc0b84eeca341316e18b61789347217a0f4baca2cdd530e6a3132dfbfa3330", func := "egress/egresslaw13.AssignBounds", spec := "assignBounds", unfollowed := true, recurses := true, apart := false, narrowed := true }
def AssignBoundsUptoSaid : Prop := assignBoundsUptoRow.holds Try.pinned (OpenSpec.upto assignBoundsSpec)

/-- 'egresslaw13.AssignPlays', WHERE WHAT IT READS IS OF BULK AT MOST 1048576: true; the input reads as it did. -/
def assignPlaysUptoRow : OpenClaim := { program := "ytmolaicpbaiioaa", sum := "07dc0b84eeca341316e18b61789347217a0f4baca2cdd530e6a3132dfbfa3330", func := "egress/egresslaw13.AssignPlays", spec := "assignPlays", unfollowed := true, recurses := true, apart := false, narrowed := true }
def AssignPlaysUptoSaid : Prop := assignPlaysUptoRow.holds Try.pinned (OpenSpec.upto assignPlaysSpec)

/-- 'egresslaw13.AssignWeight', WHERE WHAT IT READS IS OF BULK AT MOST 1048576: true; the input reads as it did. -/
def assignWeightUptoRow : OpenClaim := { program := "ytmolaicpbaiioaa", sum := "07dc0b84eeca341316e18b61789347217a0f4baca2cdd530e6a3132dfbfa3330", func := "egress/egresslaw13.AssignWeight", spec := "assignWeight", unfollowed := true, recurses := true, apart := false, narrowed := true }
def AssignWeightUptoSaid : Prop := assignWeightUptoRow.holds Try.pinned (OpenSpec.upto assignWeightSpec)

end Rows
end Go.Proofs.Ytmolaicpbaiioaa
