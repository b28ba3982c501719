/-
  No cell of these rows narrows 'for every input' (looked for: loops, veiled, ifaces, maps, wideKeys, modest, calm, conditions, laid).
  DERIVED. THE GIVEN ROWS OF THIS SEAT. 6 by the template 'for every input the law returns true; each argument reads behind the call as it read before'; 0 by the template 'total and deterministic' (their statements: YtgbghjnlicldnaaTotals.lean).
  GIVEN WITH THE SEED: the statements are not yours to turn. If you find one false, say at which input.
  Laid BY PROGRAM, IN A SANDBOX (cutbox-rows.mjs): the forced cells as the released guide's own fill.sh prints them over the translation f634f5b39fbebcba… (all of the seat's roots in one cut). By AI agents, Wed Nov 11 2026. No macro, syntax, notation, axiom, sorry.
-/
import Derived.Test.YtgbghjnlicldnaaChecked
import GoSem.Claim
import GoSem.ClaimJoined
import GoSem.ClaimMapViews
import Derived.JoinedTies
import Derived.KernelRfl
namespace Go.Proofs.Ytgbghjnlicldnaa
/- THE CELL 'sum', in the pinned program and in every row, IS THE sha256 OF THE DUMP (.gsa) THAT YtgbghjnlicldnaaProg.lean LOADS. Nothing in Lean hashes anything: it is a label: what it is worth is what the hold of that sum in a sandbox is worth. -/
noncomputable def Try.pinned : Pinned := { name := "ytgbghjnlicldnaa", sum := "f634f5b39fbebcba6b0b3a279b1a7dd9b071b8973381c3e74ba273692f550e59", checked := Try.checked }
namespace Rows
def none {H : Type} : Left H := { results := [], args := [] }

/-- 'egresslaw08.BucketPlays': WHATEVER THE INPUT: true; the input reads as it did. -/
def bucketPlaysSpec : ChangeSpec := { name := "bucketPlays", fn := fun _ => fun
  | [d1, d2] => { results := [.lit (.bool true)], args := [d1, d2] }
  | _ => none }
def bucketPlaysRow : OpenClaim := { program := "ytgbghjnlicldnaa", sum := "f634f5b39fbebcba6b0b3a279b1a7dd9b071b8973381c3e74ba273692f550e59", func := "egress/egresslaw08.BucketPlays", spec := "bucketPlays", unfollowed := true, recurses := true, apart := false }
def BucketPlaysSaid : Prop := bucketPlaysRow.holds Try.pinned (OpenSpec.ofChange bucketPlaysSpec)

/-- ITS FALSE NEIGHBOUR: 'it returns false'. Refute it at one input. -/
def bucketPlaysWrong : ChangeSpec := { name := "bucketPlays", fn := fun _ => fun
  | [d1, d2] => { results := [.lit (.bool false)], args := [d1, d2] }
  | _ => none }
def BucketPlaysWrongFalsely : Prop := bucketPlaysRow.holds Try.pinned (OpenSpec.ofChange bucketPlaysWrong)

/-- 'egresslaw08.BucketLoads': WHATEVER THE INPUT: true; the input reads as it did. -/
def bucketLoadsSpec : ChangeSpec := { name := "bucketLoads", fn := fun _ => fun
  | [d1, d2, d3] => { results := [.lit (.bool true)], args := [d1, d2, d3] }
  | _ => none }
def bucketLoadsRow : OpenClaim := { program := "ytgbghjnlicldnaa", sum := "f634f5b39fbebcba6b0b3a279b1a7dd9b071b8973381c3e74ba273692f550e59", func := "egress/egresslaw08.BucketLoads", spec := "bucketLoads", unfollowed := true, recurses := true, apart := false }
def BucketLoadsSaid : Prop := bucketLoadsRow.holds Try.pinned (OpenSpec.ofChange bucketLoadsSpec)

/-- ITS FALSE NEIGHBOUR: 'it returns false'. Refute it at one input. -/
def bucketLoadsWrong : ChangeSpec := { name := "bucketLoads", fn := fun _ => fun
  | [d1, d2, d3] => { results := [.lit (.bool false)], args := [d1, d2, d3] }
  | _ => none }
def BucketLoadsWrongFalsely : Prop := bucketLoadsRow.holds Try.pinned (OpenSpec.ofChange bucketLoadsWrong)

/-- 'egresslaw08.BucketDrains': WHATEVER THE INPUT: true; the input reads as it did. -/
def bucketDrainsSpec : ChangeSpec := { name := "bucketDrains", fn := fun _ => fun
  | [d1, d2] => { results := [.lit (.bool true)], args := [d1, d2] }
  | _ => none }
def bucketDrainsRow : OpenClaim := { program := "ytgbghjnlicldnaa", sum := "f634f5b39fbebcba6b0b3a279b1a7dd9b071b8973381c3e74ba273692f550e59", func := "egress/egresslaw08.BucketDrains", spec := "bucketDrains", unfollowed := true, recurses := true, apart := false }
def BucketDrainsSaid : Prop := bucketDrainsRow.holds Try.pinned (OpenSpec.ofChange bucketDrainsSpec)

/-- ITS FALSE NEIGHBOUR: 'it returns false'. Refute it at one input. -/
def bucketDrainsWrong : ChangeSpec := { name := "bucketDrains", fn := fun _ => fun
  | [d1, d2] => { results := [.lit (.bool false)], args := [d1, d2] }
  | _ => none }
def BucketDrainsWrongFalsely : Prop := bucketDrainsRow.holds Try.pinned (OpenSpec.ofChange bucketDrainsWrong)

/-- 'egresslaw08.BucketOrder': WHATEVER THE INPUT: true; the input reads as it did. -/
def bucketOrderSpec : ChangeSpec := { name := "bucketOrder", fn := fun _ => fun
  | [d1, d2] => { results := [.lit (.bool true)], args := [d1, d2] }
  | _ => none }
def bucketOrderRow : OpenClaim := { program := "ytgbghjnlicldnaa", sum := "f634f5b39fbebcba6b0b3a279b1a7dd9b071b8973381c3e74ba273692f550e59", func := "egress/egresslaw08.BucketOrder", spec := "bucketOrder", unfollowed := true, recurses := true, apart := false }
def BucketOrderSaid : Prop := bucketOrderRow.holds Try.pinned (OpenSpec.ofChange bucketOrderSpec)

/-- ITS FALSE NEIGHBOUR: 'it returns false'. Refute it at one input. -/
def bucketOrderWrong : ChangeSpec := { name := "bucketOrder", fn := fun _ => fun
  | [d1, d2] => { results := [.lit (.bool false)], args := [d1, d2] }
  | _ => none }
def BucketOrderWrongFalsely : Prop := bucketOrderRow.holds Try.pinned (OpenSpec.ofChange bucketOrderWrong)

/-- 'egresslaw08.BucketLength': WHATEVER THE INPUT: true; the input reads as it did. -/
def bucketLengthSpec : ChangeSpec := { name := "bucketLength", fn := fun _ => fun
  | [d1, d2, d3] => { results := [.lit (.bool true)], args := [d1, d2, d3] }
  | _ => none }
def bucketLengthRow : OpenClaim := { program := "ytgbghjnlicldnaa", sum := "f634f5b39fbebcba6b0b3a279b1a7dd9b071b8973381c3e74ba273692f550e59", func := "egress/egresslaw08.BucketLength", spec := "bucketLength", unfollowed := true, recurses := true, apart := false }
def BucketLengthSaid : Prop := bucketLengthRow.holds Try.pinned (OpenSpec.ofChange bucketLengthSpec)

/-- ITS FALSE NEIGHBOUR: 'it returns false'. Refute it at one input. -/
def bucketLengthWrong : ChangeSpec := { name := "bucketLength", fn := fun _ => fun
  | [d1, d2, d3] => { results := [.lit (.bool false)], args := [d1, d2, d3] }
  | _ => none }
def BucketLengthWrongFalsely : Prop := bucketLengthRow.holds Try.pinned (OpenSpec.ofChange bucketLengthWrong)

/-- 'egresslaw08.BucketNil': WHATEVER THE INPUT: true; the input reads as it did. -/
def bucketNilSpec : ChangeSpec := { name := "bucketNil", fn := fun _ => fun
  | [d1, d2] => { results := [.lit (.bool true)], args := [d1, d2] }
  | _ => none }
def bucketNilRow : OpenClaim := { program := "ytgbghjnlicldnaa", sum := "f634f5b39fbebcba6b0b3a279b1a7dd9b071b8973381c3e74ba273692f550e59", func := "egress/egresslaw08.BucketNil", spec := "bucketNil", unfollowed := true, recurses := true, apart := false }
def BucketNilSaid : Prop := bucketNilRow.holds Try.pinned (OpenSpec.ofChange bucketNilSpec)

/-- ITS FALSE NEIGHBOUR: 'it returns false'. Refute it at one input. -/
def bucketNilWrong : ChangeSpec := { name := "bucketNil", fn := fun _ => fun
  | [d1, d2] => { results := [.lit (.bool false)], args := [d1, d2] }
  | _ => none }
def BucketNilWrongFalsely : Prop := bucketNilRow.holds Try.pinned (OpenSpec.ofChange bucketNilWrong)

/- THE SECOND FORM. 'bulk': how many values and letters a reading holds, each counted each time it is reached (what is shared counts as often as it is met; a slice's spare places count too). A statement '..UptoSaid' is the law's where the arguments, and the package variables that the reading takes, are together of bulk at most 1048576: NARROWER than '..Said'. Prove '..Said' where nothing that the law and all that it calls make is longer than what came in: it says more and counts as full. Else prove '..UptoSaid'. A law counts once. -/
mutual
def uptoBulk {H : Type} : DataW H → Nat
  | .lit (.string bytes) => bytes.length + 1
  | .lit _ => 1
  | .nil => 1
  | .ptr d => uptoBulk d + 1
  | .slice elems spare => uptoBulkAll elems + uptoBulkAll spare + 1
  | .agg parts => uptoBulkAll parts + 1
  | .iface _ d => uptoBulk d + 1
  | .map entries => uptoBulkEntries entries + 1
  | .held _ => 1
def uptoBulkAll {H : Type} : List (DataW H) → Nat
  | [] => 0
  | d :: r => uptoBulk d + uptoBulkAll r
def uptoBulkEntries {H : Type} : List (Lit × DataW H) → Nat
  | [] => 0
  | x :: r => uptoBulkEntry x + uptoBulkEntries r
def uptoBulkEntry {H : Type} : Lit × DataW H → Nat
  | (.string bytes, d) => bytes.length + uptoBulk d + 1
  | (_, d) => uptoBulk d + 1
 end
def uptoSmall : (H : Type) → List (DataW H) → Bool := fun _ ds => decide (uptoBulkAll ds ≤ 1048576)
def OpenSpec.upto (s : _root_.Go.ChangeSpec) : _root_.Go.OpenSpec := { _root_.Go.OpenSpec.ofChange s with cond := some uptoSmall }

/-- 'egresslaw08.BucketPlays', WHERE WHAT IT READS IS OF BULK AT MOST 1048576: true; the input reads as it did. -/
def bucketPlaysUptoRow : OpenClaim := { program := "ytgbghjnlicldnaa", sum := "f634f5b39fbebcba6b0b3a279b1a7dd9b071b8973381c3e74ba273692f550e59", func := "egress/egresslaw08.BucketPlays", spec := "bucketPlays", unfollowed := true, recurses := true, apart := false, narrowed := true }
def BucketPlaysUptoSaid : Prop := bucketPlaysUptoRow.holds Try.pinned (OpenSpec.upto bucketPlaysSpec)

/-- 'egresslaw08.BucketLoads', WHERE WHAT IT READS IS OF BULK AT MOST 1048576: true; the input reads as it did. -/
def bucketLoadsUptoRow : OpenClaim := { program := "ytgbghjnlicldnaa", sum := "f634f5b39fbebcba6b0b3a279b1a7dd9b071b8973381c3e74ba273692f550e59", func := "egress/egresslaw08.BucketLoads", spec := "bucketLoads", unfollowed := true, recurses := true, apart := false, narrowed := true }
def BucketLoadsUptoSaid : Prop := bucketLoadsUptoRow.holds Try.pinned (OpenSpec.upto bucketLoadsSpec)

/-- 'egresslaw08.BucketDrains', WHERE WHAT IT READS IS OF BULK AT MOST 1048576: true; the input reads as it did. -/
def bucketDrainsUptoRow : OpenClaim := { program := "ytgbghjnlicldnaa", sum := "f634f5b39fbebcba6b0b3a279b1a7dd9b071b8973381c3e74ba273692f550e59", func := "egress/egresslaw08.BucketDrains", spec := "bucketDrains", unfollowed := true, recurses := true, apart := false, narrowed := true }
def BucketDrainsUptoSaid : Prop := bucketDrainsUptoRow.holds Try.pinned (OpenSpec.upto bucketDrainsSpec)

/-- 'egresslaw08.BucketOrder', WHERE WHAT IT READS IS OF BULK AT MOST 1048576: true; the input reads as it did. -/
def bucketOrderUptoRow : OpenClaim := { program := "ytgbghjnlicldnaa", sum := "f634f5b39fbebcba6b0b3a279b1a7dd9b071b8973381c3e74ba273692f550e59", func := "egress/egresslaw08.BucketOrder", spec := "bucketOrder", unfollowed := true, recurses := true, apart := false, narrowed := true }
def BucketOrderUptoSaid : Prop := bucketOrderUptoRow.holds Try.pinned (OpenSpec.upto bucketOrderSpec)

/-- 'egresslaw08.BucketLength', WHERE WHAT IT READS IS OF BULK AT MOST 1048576: true; the input reads as it did. -/
def bucketLengthUptoRow : OpenClaim := { program := "ytgbghjnlicldnaa", sum := "f634f5b39fbebcba6b0b3a279b1a7dd9b071b8973381c3e74ba273692f550e59", func := "egress/egresslaw08.BucketLength", spec := "bucketLength", unfollowed := true, recurses := true, apart := false, narrowed := true }
def BucketLengthUptoSaid : Prop := bucketLengthUptoRow.holds Try.pinned (OpenSpec.upto bucketLengthSpec)

/-- 'egresslaw08.BucketNil', WHERE WHAT IT READS IS OF BULK AT MOST 1048576: true; the input reads as it did. -/
def bucketNilUptoRow : OpenClaim := { program := "ytgbghjnlicldnaa", sum := "f634f5b39fbebcba6b0b3a279b1a7dd9b071b8973381c3e74ba273692f550e59", func := "egress/egresslaw08.BucketNil", spec := "bucketNil", unfollowed := true, recurses := true, apart := false, narrowed := true }
def BucketNilUptoSaid : Prop := bucketNilUptoRow.holds Try.pinned (OpenSpec.upto bucketNilSpec)

end Rows
end Go.Proofs.Ytgbghjnlicldnaa
