/-
  No cell of these rows narrows 'for every input' (looked for: loops, veiled, ifaces, maps, wideKeys, modest, calm, conditions, laid).
  DERIVED. THE GIVEN ROWS OF THIS SEAT. 6 by the template 'for every input the law returns true; each argument reads behind the call as it read before'; 0 by the template 'total and deterministic' (their statements: YtjhamghjnilgfaaTotals.lean).
  GIVEN WITH THE SEED: the statements are not yours to turn. If you find one false, say at which input.
  Laid BY PROGRAM, IN A SANDBOX (cutbox-rows.mjs): the forced cells as the released guide's own fill.sh prints them over the translation 039530490bebf857… (all of the seat's roots in one cut). By AI agents, Wed Nov 11 2026. No macro, syntax, notation, axiom, sorry.
-/
import Derived.Test.YtjhamghjnilgfaaChecked
import GoSem.Claim
import GoSem.ClaimJoined
import GoSem.ClaimMapViews
import Derived.JoinedTies
import Derived.KernelRfl
namespace Go.Proofs.Ytjhamghjnilgfaa
/- THE CELL 'sum', in the pinned program and in every row, IS THE sha256 OF THE DUMP (.gsa) THAT YtjhamghjnilgfaaProg.lean LOADS. Nothing in Lean hashes anything: it is a label: what it is worth is what the hold of that sum in a sandbox is worth. -/
noncomputable def Try.pinned : Pinned := { name := "ytjhamghjnilgfaa", sum := "039530490bebf857ce610887cdddcdff89b1d4141e6129c11b0fa5d5a0ace7f4", checked := Try.checked }
namespace Rows
def none {H : Type} : Left H := { results := [], args := [] }

/-- 'egresslaw04.RingBounds': WHATEVER THE INPUT: true; the input reads as it did. -/
def ringBoundsSpec : ChangeSpec := { name := "ringBounds", fn := fun _ => fun
  | [d1, d2, d3] => { results := [.lit (.bool true)], args := [d1, d2, d3] }
  | _ => none }
def ringBoundsRow : OpenClaim := { program := "ytjhamghjnilgfaa", sum := "039530490bebf857ce610887cdddcdff89b1d4141e6129c11b0fa5d5a0ace7f4", func := "egress/egresslaw04.RingBounds", spec := "ringBounds", apart := false }
def RingBoundsSaid : Prop := ringBoundsRow.holds Try.pinned (OpenSpec.ofChange ringBoundsSpec)

/-- ITS FALSE NEIGHBOUR: 'it returns false'. Refute it at one input. -/
def ringBoundsWrong : ChangeSpec := { name := "ringBounds", fn := fun _ => fun
  | [d1, d2, d3] => { results := [.lit (.bool false)], args := [d1, d2, d3] }
  | _ => none }
def RingBoundsWrongFalsely : Prop := ringBoundsRow.holds Try.pinned (OpenSpec.ofChange ringBoundsWrong)

/-- 'egresslaw04.RingOrder': WHATEVER THE INPUT: true; the input reads as it did. -/
def ringOrderSpec : ChangeSpec := { name := "ringOrder", fn := fun _ => fun
  | [d1, d2, d3] => { results := [.lit (.bool true)], args := [d1, d2, d3] }
  | _ => none }
def ringOrderRow : OpenClaim := { program := "ytjhamghjnilgfaa", sum := "039530490bebf857ce610887cdddcdff89b1d4141e6129c11b0fa5d5a0ace7f4", func := "egress/egresslaw04.RingOrder", spec := "ringOrder", apart := false }
def RingOrderSaid : Prop := ringOrderRow.holds Try.pinned (OpenSpec.ofChange ringOrderSpec)

/-- ITS FALSE NEIGHBOUR: 'it returns false'. Refute it at one input. -/
def ringOrderWrong : ChangeSpec := { name := "ringOrder", fn := fun _ => fun
  | [d1, d2, d3] => { results := [.lit (.bool false)], args := [d1, d2, d3] }
  | _ => none }
def RingOrderWrongFalsely : Prop := ringOrderRow.holds Try.pinned (OpenSpec.ofChange ringOrderWrong)

/-- 'egresslaw04.RingTypes': WHATEVER THE INPUT: true; the input reads as it did. -/
def ringTypesSpec : ChangeSpec := { name := "ringTypes", fn := fun _ => fun
  | [d] => { results := [.lit (.bool true)], args := [d] }
  | _ => none }
def ringTypesRow : OpenClaim := { program := "ytjhamghjnilgfaa", sum := "039530490bebf857ce610887cdddcdff89b1d4141e6129c11b0fa5d5a0ace7f4", func := "egress/egresslaw04.RingTypes", spec := "ringTypes", apart := false }
def RingTypesSaid : Prop := ringTypesRow.holds Try.pinned (OpenSpec.ofChange ringTypesSpec)

/-- ITS FALSE NEIGHBOUR: 'it returns false'. Refute it at one input. -/
def ringTypesWrong : ChangeSpec := { name := "ringTypes", fn := fun _ => fun
  | [d] => { results := [.lit (.bool false)], args := [d] }
  | _ => none }
def RingTypesWrongFalsely : Prop := ringTypesRow.holds Try.pinned (OpenSpec.ofChange ringTypesWrong)

/-- 'egresslaw04.RingKeeps': WHATEVER THE INPUT: true; the input reads as it did. -/
def ringKeepsSpec : ChangeSpec := { name := "ringKeeps", fn := fun _ => fun
  | [d] => { results := [.lit (.bool true)], args := [d] }
  | _ => none }
def ringKeepsRow : OpenClaim := { program := "ytjhamghjnilgfaa", sum := "039530490bebf857ce610887cdddcdff89b1d4141e6129c11b0fa5d5a0ace7f4", func := "egress/egresslaw04.RingKeeps", spec := "ringKeeps", apart := false }
def RingKeepsSaid : Prop := ringKeepsRow.holds Try.pinned (OpenSpec.ofChange ringKeepsSpec)

/-- ITS FALSE NEIGHBOUR: 'it returns false'. Refute it at one input. -/
def ringKeepsWrong : ChangeSpec := { name := "ringKeeps", fn := fun _ => fun
  | [d] => { results := [.lit (.bool false)], args := [d] }
  | _ => none }
def RingKeepsWrongFalsely : Prop := ringKeepsRow.holds Try.pinned (OpenSpec.ofChange ringKeepsWrong)

/-- 'egresslaw04.RingPlays': WHATEVER THE INPUT: true; the input reads as it did. -/
def ringPlaysSpec : ChangeSpec := { name := "ringPlays", fn := fun _ => fun
  | [d1, d2] => { results := [.lit (.bool true)], args := [d1, d2] }
  | _ => none }
def ringPlaysRow : OpenClaim := { program := "ytjhamghjnilgfaa", sum := "039530490bebf857ce610887cdddcdff89b1d4141e6129c11b0fa5d5a0ace7f4", func := "egress/egresslaw04.RingPlays", spec := "ringPlays", apart := false }
def RingPlaysSaid : Prop := ringPlaysRow.holds Try.pinned (OpenSpec.ofChange ringPlaysSpec)

/-- ITS FALSE NEIGHBOUR: 'it returns false'. Refute it at one input. -/
def ringPlaysWrong : ChangeSpec := { name := "ringPlays", fn := fun _ => fun
  | [d1, d2] => { results := [.lit (.bool false)], args := [d1, d2] }
  | _ => none }
def RingPlaysWrongFalsely : Prop := ringPlaysRow.holds Try.pinned (OpenSpec.ofChange ringPlaysWrong)

/-- 'egresslaw04.RingPeeks': WHATEVER THE INPUT: true; the input reads as it did. -/
def ringPeeksSpec : ChangeSpec := { name := "ringPeeks", fn := fun _ => fun
  | [d1, d2, d3] => { results := [.lit (.bool true)], args := [d1, d2, d3] }
  | _ => none }
def ringPeeksRow : OpenClaim := { program := "ytjhamghjnilgfaa", sum := "039530490bebf857ce610887cdddcdff89b1d4141e6129c11b0fa5d5a0ace7f4", func := "egress/egresslaw04.RingPeeks", spec := "ringPeeks", apart := false }
def RingPeeksSaid : Prop := ringPeeksRow.holds Try.pinned (OpenSpec.ofChange ringPeeksSpec)

/-- ITS FALSE NEIGHBOUR: 'it returns false'. Refute it at one input. -/
def ringPeeksWrong : ChangeSpec := { name := "ringPeeks", fn := fun _ => fun
  | [d1, d2, d3] => { results := [.lit (.bool false)], args := [d1, d2, d3] }
  | _ => none }
def RingPeeksWrongFalsely : Prop := ringPeeksRow.holds Try.pinned (OpenSpec.ofChange ringPeeksWrong)

/- THE SECOND FORM. 'bulk': how many values and letters a reading holds, each counted each time it is reached (what is shared counts as often as it is met; a slice's spare places count too). A statement '..UptoSaid' is the law's where the arguments, and the package variables that the reading takes, are together of bulk at most 1048576: NARROWER than '..Said'. Prove '..Said' where nothing that the law and all that it calls make is longer than what came in: it says more and counts as full. Else prove '..UptoSaid'. A law counts once. -/
mutual
def uptoBulk {H : Type} : DataW H → Nat
  | .lit (.string bytes) => bytes.length + 1
  | .lit _ => 1
  | .nil => 1
  | .ptr d => uptoBulk d + 1
  | .slice elems spare => uptoBulkAll elems + uptoBulkAll spare + 1
  | .agg parts => uptoBulkAll parts + 1
  | .iface _ d => uptoBulk d + 1
  | .map entries => uptoBulkEntries entries + 1
  | .held _ => 1
def uptoBulkAll {H : Type} : List (DataW H) → Nat
  | [] => 0
  | d :: r => uptoBulk d + uptoBulkAll r
def uptoBulkEntries {H : Type} : List (Lit × DataW H) → Nat
  | [] => 0
  | x :: r => uptoBulkEntry x + uptoBulkEntries r
def uptoBulkEntry {H : Type} : Lit × DataW H → Nat
  | (.string bytes, d) => bytes.length + uptoBulk d + 1
  | (_, d) => uptoBulk d + 1
 end
def uptoSmall : (H : Type) → List (DataW H) → Bool := fun _ ds => decide (uptoBulkAll ds ≤ 1048576)
def OpenSpec.upto (s : _root_.Go.ChangeSpec) : _root_.Go.OpenSpec := { _root_.Go.OpenSpec.ofChange s with cond := some uptoSmall }

/-- 'egresslaw04.RingBounds', WHERE WHAT IT READS IS OF BULK AT MOST 1048576: true; the input reads as it did. -/
def ringBoundsUptoRow : OpenClaim := { program := "ytjhamghjnilgfaa", sum := "039530490bebf857ce610887cdddcdff89b1d4141e6129c11b0fa5d5a0ace7f4", func := "egress/egresslaw04.RingBounds", spec := "ringBounds", apart := false, narrowed := true }
def RingBoundsUptoSaid : Prop := ringBoundsUptoRow.holds Try.pinned (OpenSpec.upto ringBoundsSpec)

/-- 'egresslaw04.RingOrder', WHERE WHAT IT READS IS OF BULK AT MOST 1048576: true; the input reads as it did. -/
def ringOrderUptoRow : OpenClaim := { program := "ytjhamghjnilgfaa", sum := "039530490bebf857ce610887cdddcdff89b1d4141e6129c11b0fa5d5a0ace7f4", func := "egress/egresslaw04.RingOrder", spec := "ringOrder", apart := false, narrowed := true }
def RingOrderUptoSaid : Prop := ringOrderUptoRow.holds Try.pinned (OpenSpec.upto ringOrderSpec)

/-- 'egresslaw04.RingTypes', WHERE WHAT IT READS IS OF BULK AT MOST 1048576: true; the input reads as it did. -/
def ringTypesUptoRow : OpenClaim := { program := "ytjhamghjnilgfaa", sum := "039530490bebf857ce610887cdddcdff89b1d4141e6129c11b0fa5d5a0ace7f4", func := "egress/egresslaw04.RingTypes", spec := "ringTypes", apart := false, narrowed := true }
def RingTypesUptoSaid : Prop := ringTypesUptoRow.holds Try.pinned (OpenSpec.upto ringTypesSpec)

/-- 'egresslaw04.RingKeeps', WHERE WHAT IT READS IS OF BULK AT MOST 1048576: true; the input reads as it did. -/
def ringKeepsUptoRow : OpenClaim := { program := "ytjhamghjnilgfaa", sum := "039530490bebf857ce610887cdddcdff89b1d4141e6129c11b0fa5d5a0ace7f4", func := "egress/egresslaw04.RingKeeps", spec := "ringKeeps", apart := false, narrowed := true }
def RingKeepsUptoSaid : Prop := ringKeepsUptoRow.holds Try.pinned (OpenSpec.upto ringKeepsSpec)

/-- 'egresslaw04.RingPlays', WHERE WHAT IT READS IS OF BULK AT MOST 1048576: true; the input reads as it did. -/
def ringPlaysUptoRow : OpenClaim := { program := "ytjhamghjnilgfaa", sum := "039530490bebf857ce610887cdddcdff89b1d4141e6129c11b0fa5d5a0ace7f4", func := "egress/egresslaw04.RingPlays", spec := "ringPlays", apart := false, narrowed := true }
def RingPlaysUptoSaid : Prop := ringPlaysUptoRow.holds Try.pinned (OpenSpec.upto ringPlaysSpec)

/-- 'egresslaw04.RingPeeks', WHERE WHAT IT READS IS OF BULK AT MOST 1048576: true; the input reads as it did. -/
def ringPeeksUptoRow : OpenClaim := { program := "ytjhamghjnilgfaa", sum := "039530490bebf857ce610887cdddcdff89b1d4141e6129c11b0fa5d5a0ace7f4", func := "egress/egresslaw04.RingPeeks", spec := "ringPeeks", apart := false, narrowed := true }
def RingPeeksUptoSaid : Prop := ringPeeksUptoRow.holds Try.pinned (OpenSpec.upto ringPeeksSpec)

end Rows
end Go.Proofs.Ytjhamghjnilgfaa
