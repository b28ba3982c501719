/-
  No cell of these rows narrows 'for every input' (looked for: loops, veiled, ifaces, maps, wideKeys, modest, calm, conditions, laid).
  DERIVED. THE GIVEN ROWS OF THIS SEAT. 6 by the template 'for every input the law returns true; each argument reads behind the call as it read before'; 0 by the template 'total and deterministic' (their statements: YtdkedinnijobiaaTotals.lean).
  GIVEN WITH THE SEED: the statements are not yours to turn. If you find one false, say at which input.
  Laid BY PROGRAM, IN A SANDBOX (cutbox-rows.mjs): the forced cells as the released guide's own fill.sh prints them over the translation 218543dedf6d93df… (all of the seat's roots in one cut). By AI agents, Wed Nov 11 2026. No macro, syntax, notation, axiom, sorry.
-/
import Derived.Test.YtdkedinnijobiaaChecked
import GoSem.Claim
import GoSem.ClaimJoined
import GoSem.ClaimMapViews
import Derived.JoinedTies
import Derived.KernelRfl
namespace Go.Proofs.Ytdkedinnijobiaa
/- THE CELL 'sum', in the pinned program and in every row, IS THE sha256 OF THE DUMP (.gsa) THAT YtdkedinnijobiaaProg.lean LOADS. Nothing in Lean hashes anything: it is a label: what it is worth is what the hold of that sum in a sandbox is worth. -/
noncomputable def Try.pinned : Pinned := { name := "ytdkedinnijobiaa", sum := "218543dedf6d93dfce508868feb1e8276272b9e73319e0ee9adeb3e01024864c", checked := Try.checked }
namespace Rows
def none {H : Type} : Left H := { results := [], args := [] }

/-- 'egresslaw12.LanesForcedFirst': WHATEVER THE INPUT: true; the input reads as it did. -/
def lanesForcedFirstSpec : ChangeSpec := { name := "lanesForcedFirst", fn := fun _ => fun
  | [d1, d2] => { results := [.lit (.bool true)], args := [d1, d2] }
  | _ => none }
def lanesForcedFirstRow : OpenClaim := { program := "ytdkedinnijobiaa", sum := "218543dedf6d93dfce508868feb1e8276272b9e73319e0ee9adeb3e01024864c", func := "egress/egresslaw12.LanesForcedFirst", spec := "lanesForcedFirst", apart := false }
def LanesForcedFirstSaid : Prop := lanesForcedFirstRow.holds Try.pinned (OpenSpec.ofChange lanesForcedFirstSpec)

/-- ITS FALSE NEIGHBOUR: 'it returns false'. Refute it at one input. -/
def lanesForcedFirstWrong : ChangeSpec := { name := "lanesForcedFirst", fn := fun _ => fun
  | [d1, d2] => { results := [.lit (.bool false)], args := [d1, d2] }
  | _ => none }
def LanesForcedFirstWrongFalsely : Prop := lanesForcedFirstRow.holds Try.pinned (OpenSpec.ofChange lanesForcedFirstWrong)

/-- 'egresslaw12.LanesOrder': WHATEVER THE INPUT: true; the input reads as it did. -/
def lanesOrderSpec : ChangeSpec := { name := "lanesOrder", fn := fun _ => fun
  | [d1, d2] => { results := [.lit (.bool true)], args := [d1, d2] }
  | _ => none }
def lanesOrderRow : OpenClaim := { program := "ytdkedinnijobiaa", sum := "218543dedf6d93dfce508868feb1e8276272b9e73319e0ee9adeb3e01024864c", func := "egress/egresslaw12.LanesOrder", spec := "lanesOrder", apart := false }
def LanesOrderSaid : Prop := lanesOrderRow.holds Try.pinned (OpenSpec.ofChange lanesOrderSpec)

/-- ITS FALSE NEIGHBOUR: 'it returns false'. Refute it at one input. -/
def lanesOrderWrong : ChangeSpec := { name := "lanesOrder", fn := fun _ => fun
  | [d1, d2] => { results := [.lit (.bool false)], args := [d1, d2] }
  | _ => none }
def LanesOrderWrongFalsely : Prop := lanesOrderRow.holds Try.pinned (OpenSpec.ofChange lanesOrderWrong)

/-- 'egresslaw12.LanesAhead': WHATEVER THE INPUT: true; the input reads as it did. -/
def lanesAheadSpec : ChangeSpec := { name := "lanesAhead", fn := fun _ => fun
  | [d1, d2, d3] => { results := [.lit (.bool true)], args := [d1, d2, d3] }
  | _ => none }
def lanesAheadRow : OpenClaim := { program := "ytdkedinnijobiaa", sum := "218543dedf6d93dfce508868feb1e8276272b9e73319e0ee9adeb3e01024864c", func := "egress/egresslaw12.LanesAhead", spec := "lanesAhead", apart := false }
def LanesAheadSaid : Prop := lanesAheadRow.holds Try.pinned (OpenSpec.ofChange lanesAheadSpec)

/-- ITS FALSE NEIGHBOUR: 'it returns false'. Refute it at one input. -/
def lanesAheadWrong : ChangeSpec := { name := "lanesAhead", fn := fun _ => fun
  | [d1, d2, d3] => { results := [.lit (.bool false)], args := [d1, d2, d3] }
  | _ => none }
def LanesAheadWrongFalsely : Prop := lanesAheadRow.holds Try.pinned (OpenSpec.ofChange lanesAheadWrong)

/-- 'egresslaw12.LanesBounds': WHATEVER THE INPUT: true; the input reads as it did. -/
def lanesBoundsSpec : ChangeSpec := { name := "lanesBounds", fn := fun _ => fun
  | [d1, d2, d3] => { results := [.lit (.bool true)], args := [d1, d2, d3] }
  | _ => none }
def lanesBoundsRow : OpenClaim := { program := "ytdkedinnijobiaa", sum := "218543dedf6d93dfce508868feb1e8276272b9e73319e0ee9adeb3e01024864c", func := "egress/egresslaw12.LanesBounds", spec := "lanesBounds", apart := false }
def LanesBoundsSaid : Prop := lanesBoundsRow.holds Try.pinned (OpenSpec.ofChange lanesBoundsSpec)

/-- ITS FALSE NEIGHBOUR: 'it returns false'. Refute it at one input. -/
def lanesBoundsWrong : ChangeSpec := { name := "lanesBounds", fn := fun _ => fun
  | [d1, d2, d3] => { results := [.lit (.bool false)], args := [d1, d2, d3] }
  | _ => none }
def LanesBoundsWrongFalsely : Prop := lanesBoundsRow.holds Try.pinned (OpenSpec.ofChange lanesBoundsWrong)

/-- 'egresslaw12.LanesPlay': WHATEVER THE INPUT: true; the input reads as it did. -/
def lanesPlaySpec : ChangeSpec := { name := "lanesPlay", fn := fun _ => fun
  | [d1, d2] => { results := [.lit (.bool true)], args := [d1, d2] }
  | _ => none }
def lanesPlayRow : OpenClaim := { program := "ytdkedinnijobiaa", sum := "218543dedf6d93dfce508868feb1e8276272b9e73319e0ee9adeb3e01024864c", func := "egress/egresslaw12.LanesPlay", spec := "lanesPlay", apart := false }
def LanesPlaySaid : Prop := lanesPlayRow.holds Try.pinned (OpenSpec.ofChange lanesPlaySpec)

/-- ITS FALSE NEIGHBOUR: 'it returns false'. Refute it at one input. -/
def lanesPlayWrong : ChangeSpec := { name := "lanesPlay", fn := fun _ => fun
  | [d1, d2] => { results := [.lit (.bool false)], args := [d1, d2] }
  | _ => none }
def LanesPlayWrongFalsely : Prop := lanesPlayRow.holds Try.pinned (OpenSpec.ofChange lanesPlayWrong)

/-- 'egresslaw12.LanesNil': WHATEVER THE INPUT: true; the input reads as it did. -/
def lanesNilSpec : ChangeSpec := { name := "lanesNil", fn := fun _ => fun
  | [d1, d2] => { results := [.lit (.bool true)], args := [d1, d2] }
  | _ => none }
def lanesNilRow : OpenClaim := { program := "ytdkedinnijobiaa", sum := "218543dedf6d93dfce508868feb1e8276272b9e73319e0ee9adeb3e01024864c", func := "egress/egresslaw12.LanesNil", spec := "lanesNil", apart := false }
def LanesNilSaid : Prop := lanesNilRow.holds Try.pinned (OpenSpec.ofChange lanesNilSpec)

/-- ITS FALSE NEIGHBOUR: 'it returns false'. Refute it at one input. -/
def lanesNilWrong : ChangeSpec := { name := "lanesNil", fn := fun _ => fun
  | [d1, d2] => { results := [.lit (.bool false)], args := [d1, d2] }
  | _ => none }
def LanesNilWrongFalsely : Prop := lanesNilRow.holds Try.pinned (OpenSpec.ofChange lanesNilWrong)

/- THE SECOND FORM. 'bulk': how many values and letters a reading holds, each counted each time it is reached (what is shared counts as often as it is met; a slice's spare places count too). A statement '..UptoSaid' is the law's where the arguments, and the package variables that the reading takes, are together of bulk at most 1048576: NARROWER than '..Said'. Prove '..Said' where nothing that the law and all that it calls make is longer than what came in: it says more and counts as full. Else prove '..UptoSaid'. A law counts once. -/
mutual
def uptoBulk {H : Type} : DataW H → Nat
  | .lit (.string bytes) => bytes.length + 1
  | .lit _ => 1
  | .nil => 1
  | .ptr d => uptoBulk d + 1
  | .slice elems spare => uptoBulkAll elems + uptoBulkAll spare + 1
  | .agg parts => uptoBulkAll parts + 1
  | .iface _ d => uptoBulk d + 1
  | .map entries => uptoBulkEntries entries + 1
  | .held _ => 1
def uptoBulkAll {H : Type} : List (DataW H) → Nat
  | [] => 0
  | d :: r => uptoBulk d + uptoBulkAll r
def uptoBulkEntries {H : Type} : List (Lit × DataW H) → Nat
  | [] => 0
  | x :: r => uptoBulkEntry x + uptoBulkEntries r
def uptoBulkEntry {H : Type} : Lit × DataW H → Nat
  | (.string bytes, d) => bytes.length + uptoBulk d + 1
  | (_, d) => uptoBulk d + 1
 end
def uptoSmall : (H : Type) → List (DataW H) → Bool := fun _ ds => decide (uptoBulkAll ds ≤ 1048576)
def OpenSpec.upto (s : _root_.Go.ChangeSpec) : _root_.Go.OpenSpec := { _root_.Go.OpenSpec.ofChange s with cond := some uptoSmall }

/-- 'egresslaw12.LanesForcedFirst', WHERE WHAT IT READS IS OF BULK AT MOST 1048576: true; the input reads as it did. -/
def lanesForcedFirstUptoRow : OpenClaim := { program := "ytdkedinnijobiaa", sum := "218543dedf6d93dfce508868feb1e8276272b9e73319e0ee9adeb3e01024864c", func := "egress/egresslaw12.LanesForcedFirst", spec := "lanesForcedFirst", apart := false, narrowed := true }
def LanesForcedFirstUptoSaid : Prop := lanesForcedFirstUptoRow.holds Try.pinned (OpenSpec.upto lanesForcedFirstSpec)

/-- 'egresslaw12.LanesOrder', WHERE WHAT IT READS IS OF BULK AT MOST 1048576: true; the input reads as it did. -/
def lanesOrderUptoRow : OpenClaim := { program := "ytdkedinnijobiaa", sum := "218543dedf6d93dfce508868feb1e8276272b9e73319e0ee9adeb3e01024864c", func := "egress/egresslaw12.LanesOrder", spec := "lanesOrder", apart := false, narrowed := true }
def LanesOrderUptoSaid : Prop := lanesOrderUptoRow.holds Try.pinned (OpenSpec.upto lanesOrderSpec)

/-- 'egresslaw12.LanesAhead', WHERE WHAT IT READS IS OF BULK AT MOST 1048576: true; the input reads as it did. -/
def lanesAheadUptoRow : OpenClaim := { program := "ytdkedinnijobiaa", sum := "218543dedf6d93dfce508868feb1e8276272b9e73319e0ee9adeb3e01024864c", func := "egress/egresslaw12.LanesAhead", spec := "lanesAhead", apart := false, narrowed := true }
def LanesAheadUptoSaid : Prop := lanesAheadUptoRow.holds Try.pinned (OpenSpec.upto lanesAheadSpec)

/-- 'egresslaw12.LanesBounds', WHERE WHAT IT READS IS OF BULK AT MOST 1048576: true; the input reads as it did. -/
def lanesBoundsUptoRow : OpenClaim := { program := "ytdkedinnijobiaa", sum := "218543dedf6d93dfce508868feb1e8276272b9e73319e0ee9adeb3e01024864c", func := "egress/egresslaw12.LanesBounds", spec := "lanesBounds", apart := false, narrowed := true }
def LanesBoundsUptoSaid : Prop := lanesBoundsUptoRow.holds Try.pinned (OpenSpec.upto lanesBoundsSpec)

/-- 'egresslaw12.LanesPlay', WHERE WHAT IT READS IS OF BULK AT MOST 1048576: true; the input reads as it did. -/
def lanesPlayUptoRow : OpenClaim := { program := "ytdkedinnijobiaa", sum := "218543dedf6d93dfce508868feb1e8276272b9e73319e0ee9adeb3e01024864c", func := "egress/egresslaw12.LanesPlay", spec := "lanesPlay", apart := false, narrowed := true }
def LanesPlayUptoSaid : Prop := lanesPlayUptoRow.holds Try.pinned (OpenSpec.upto lanesPlaySpec)

/-- 'egresslaw12.LanesNil', WHERE WHAT IT READS IS OF BULK AT MOST 1048576: true; the input reads as it did. -/
def lanesNilUptoRow : OpenClaim := { program := "ytdkedinnijobiaa", sum := "218543dedf6d93dfce508868feb1e8276272b9e73319e0ee9adeb3e01024864c", func := "egress/egresslaw12.LanesNil", spec := "lanesNil", apart := false, narrowed := true }
def LanesNilUptoSaid : Prop := lanesNilUptoRow.holds Try.pinned (OpenSpec.upto lanesNilSpec)

end Rows
end Go.Proofs.Ytdkedinnijobiaa
