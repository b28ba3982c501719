/-
  No cell of these rows narrows 'for every input' (looked for: loops, veiled, ifaces, maps, wideKeys, modest, calm, conditions, laid).
  DERIVED. THE GIVEN ROWS OF THIS SEAT. 5 by the template 'for every input the law returns true; each argument reads behind the call as it read before'; 0 by the template 'total and deterministic' (their statements: YtdddiilocbbkkaaGreatTotals.lean).
  GIVEN WITH THE SEED: the statements are not yours to turn. If you find one false, say at which input.
  Laid BY PROGRAM, IN A SANDBOX (cutbox-rows.mjs): the forced cells as the released guide's own fill.sh prints them over the translation dd6bc374f3f179e1… (all of the seat's roots in one cut). By AI agents, Wed Nov 11 2026. No macro, syntax, notation, axiom, sorry.
-/
import Derived.Test.YtdddiilocbbkkaaGreatChecked
import GoSem.Claim
import GoSem.ClaimJoined
import GoSem.ClaimMapViews
import Derived.JoinedTies
import Derived.KernelRfl
namespace Go.Proofs.YtdddiilocbbkkaaGreat
/- THE CELL 'sum', in the pinned program and in every row, IS THE sha256 OF THE DUMP (.gsa) THAT YtdddiilocbbkkaaGreatProg.lean LOADS. Nothing in Lean hashes anything: it is a label: what it is worth is what the hold of that sum in a sandbox is worth. -/
noncomputable def Tryz.pinned : Pinned := { name := "ytdddiilocbbkkaagreat", sum := "dd6bc374f3f179e1e0b341cffdbfc218fe13f0e10fe652b0d867581a0e5baa5a", checked := Tryz.checked }
namespace Rows
def none {H : Type} : Left H := { results := [], args := [] }

/-- 'egresstop.TopOnce': WHATEVER THE INPUT: true; the input reads as it did. -/
def topOnceSpec : ChangeSpec := { name := "topOnce", fn := fun _ => fun
  | [d1, d2] => { results := [.lit (.bool true)], args := [d1, d2] }
  | _ => none }
def topOnceRow : OpenClaim := { program := "ytdddiilocbbkkaagreat", sum := "dd6bc374f3f179e1e0b341cffdbfc218fe13f0e10fe652b0d867581a0e5baa5a", func := "egress/egresstop.TopOnce", spec := "topOnce", unfollowed := true, recurses := true, named := ["math/bits.divideError", "math/bits.overflowError"], plainKeys := false, apart := false }
def TopOnceSaid : Prop := topOnceRow.holds Tryz.pinned (OpenSpec.ofChange topOnceSpec)

/-- ITS FALSE NEIGHBOUR: 'it returns false'. Refute it at one input. -/
def topOnceWrong : ChangeSpec := { name := "topOnce", fn := fun _ => fun
  | [d1, d2] => { results := [.lit (.bool false)], args := [d1, d2] }
  | _ => none }
def TopOnceWrongFalsely : Prop := topOnceRow.holds Tryz.pinned (OpenSpec.ofChange topOnceWrong)

/-- 'egresstop.TopForced': WHATEVER THE INPUT: true; the input reads as it did. -/
def topForcedSpec : ChangeSpec := { name := "topForced", fn := fun _ => fun
  | [d1, d2] => { results := [.lit (.bool true)], args := [d1, d2] }
  | _ => none }
def topForcedRow : OpenClaim := { program := "ytdddiilocbbkkaagreat", sum := "dd6bc374f3f179e1e0b341cffdbfc218fe13f0e10fe652b0d867581a0e5baa5a", func := "egress/egresstop.TopForced", spec := "topForced", unfollowed := true, recurses := true, named := ["math/bits.divideError", "math/bits.overflowError"], plainKeys := false, apart := false }
def TopForcedSaid : Prop := topForcedRow.holds Tryz.pinned (OpenSpec.ofChange topForcedSpec)

/-- ITS FALSE NEIGHBOUR: 'it returns false'. Refute it at one input. -/
def topForcedWrong : ChangeSpec := { name := "topForced", fn := fun _ => fun
  | [d1, d2] => { results := [.lit (.bool false)], args := [d1, d2] }
  | _ => none }
def TopForcedWrongFalsely : Prop := topForcedRow.holds Tryz.pinned (OpenSpec.ofChange topForcedWrong)

/-- 'egresstop.TopModel': WHATEVER THE INPUT: true; the input reads as it did. -/
def topModelSpec : ChangeSpec := { name := "topModel", fn := fun _ => fun
  | [d1, d2] => { results := [.lit (.bool true)], args := [d1, d2] }
  | _ => none }
def topModelRow : OpenClaim := { program := "ytdddiilocbbkkaagreat", sum := "dd6bc374f3f179e1e0b341cffdbfc218fe13f0e10fe652b0d867581a0e5baa5a", func := "egress/egresstop.TopModel", spec := "topModel", unfollowed := true, recurses := true, named := ["math/bits.divideError", "math/bits.overflowError"], plainKeys := false, apart := false }
def TopModelSaid : Prop := topModelRow.holds Tryz.pinned (OpenSpec.ofChange topModelSpec)

/-- ITS FALSE NEIGHBOUR: 'it returns false'. Refute it at one input. -/
def topModelWrong : ChangeSpec := { name := "topModel", fn := fun _ => fun
  | [d1, d2] => { results := [.lit (.bool false)], args := [d1, d2] }
  | _ => none }
def TopModelWrongFalsely : Prop := topModelRow.holds Tryz.pinned (OpenSpec.ofChange topModelWrong)

/-- 'egresstop.TopRing': WHATEVER THE INPUT: true; the input reads as it did. -/
def topRingSpec : ChangeSpec := { name := "topRing", fn := fun _ => fun
  | [d1, d2, d3] => { results := [.lit (.bool true)], args := [d1, d2, d3] }
  | _ => none }
def topRingRow : OpenClaim := { program := "ytdddiilocbbkkaagreat", sum := "dd6bc374f3f179e1e0b341cffdbfc218fe13f0e10fe652b0d867581a0e5baa5a", func := "egress/egresstop.TopRing", spec := "topRing", unfollowed := true, recurses := true, named := ["math/bits.divideError", "math/bits.overflowError"], plainKeys := false, apart := false }
def TopRingSaid : Prop := topRingRow.holds Tryz.pinned (OpenSpec.ofChange topRingSpec)

/-- ITS FALSE NEIGHBOUR: 'it returns false'. Refute it at one input. -/
def topRingWrong : ChangeSpec := { name := "topRing", fn := fun _ => fun
  | [d1, d2, d3] => { results := [.lit (.bool false)], args := [d1, d2, d3] }
  | _ => none }
def TopRingWrongFalsely : Prop := topRingRow.holds Tryz.pinned (OpenSpec.ofChange topRingWrong)

/-- 'egresstop.TopDrains': WHATEVER THE INPUT: true; the input reads as it did. -/
def topDrainsSpec : ChangeSpec := { name := "topDrains", fn := fun _ => fun
  | [d1, d2] => { results := [.lit (.bool true)], args := [d1, d2] }
  | _ => none }
def topDrainsRow : OpenClaim := { program := "ytdddiilocbbkkaagreat", sum := "dd6bc374f3f179e1e0b341cffdbfc218fe13f0e10fe652b0d867581a0e5baa5a", func := "egress/egresstop.TopDrains", spec := "topDrains", unfollowed := true, recurses := true, named := ["math/bits.divideError", "math/bits.overflowError"], plainKeys := false, apart := false }
def TopDrainsSaid : Prop := topDrainsRow.holds Tryz.pinned (OpenSpec.ofChange topDrainsSpec)

/-- ITS FALSE NEIGHBOUR: 'it returns false'. Refute it at one input. -/
def topDrainsWrong : ChangeSpec := { name := "topDrains", fn := fun _ => fun
  | [d1, d2] => { results := [.lit (.bool false)], args := [d1, d2] }
  | _ => none }
def TopDrainsWrongFalsely : Prop := topDrainsRow.holds Tryz.pinned (OpenSpec.ofChange topDrainsWrong)

/- THE SECOND FORM. 'bulk': how many values and letters a reading holds, each counted each time it is reached (what is shared counts as often as it is met; a slice's spare places count too). A statement '..UptoSaid' is the law's where the arguments, and the package variables that the reading takes, are together of bulk at most 1048576: NARROWER than '..Said'. Prove '..Said' where nothing that the law and all that it calls make is longer than what came in: it says more and counts as full. Else prove '..UptoSaid'. A law counts once. -/
mutual
def uptoBulk {H : Type} : DataW H → Nat
  | .lit (.string bytes) => bytes.length + 1
  | .lit _ => 1
  | .nil => 1
  | .ptr d => uptoBulk d + 1
  | .slice elems spare => uptoBulkAll elems + uptoBulkAll spare + 1
  | .agg parts => uptoBulkAll parts + 1
  | .iface _ d => uptoBulk d + 1
  | .map entries => uptoBulkEntries entries + 1
  | .held _ => 1
def uptoBulkAll {H : Type} : List (DataW H) → Nat
  | [] => 0
  | d :: r => uptoBulk d + uptoBulkAll r
def uptoBulkEntries {H : Type} : List (Lit × DataW H) → Nat
  | [] => 0
  | x :: r => uptoBulkEntry x + uptoBulkEntries r
def uptoBulkEntry {H : Type} : Lit × DataW H → Nat
  | (.string bytes, d) => bytes.length + uptoBulk d + 1
  | (_, d) => uptoBulk d + 1
 end
def uptoSmall : (H : Type) → List (DataW H) → Bool := fun _ ds => decide (uptoBulkAll ds ≤ 1048576)
def OpenSpec.upto (s : _root_.Go.ChangeSpec) : _root_.Go.OpenSpec := { _root_.Go.OpenSpec.ofChange s with cond := some uptoSmall }

/-- 'egresstop.TopOnce', WHERE WHAT IT READS IS OF BULK AT MOST 1048576: true; the input reads as it did. -/
def topOnceUptoRow : OpenClaim := { program := "ytdddiilocbbkkaagreat", sum := "dd6bc374f3f179e1e0b341cffdbfc218fe13f0e10fe652b0d867581a0e5baa5a", func := "egress/egresstop.TopOnce", spec := "topOnce", unfollowed := true, recurses := true, named := ["math/bits.divideError", "math/bits.overflowError"], plainKeys := false, apart := false, narrowed := true }
def TopOnceUptoSaid : Prop := topOnceUptoRow.holds Tryz.pinned (OpenSpec.upto topOnceSpec)

/-- 'egresstop.TopForced', WHERE WHAT IT READS IS OF BULK AT MOST 1048576: true; the input reads as it did. -/
def topForcedUptoRow : OpenClaim := { program := "ytdddiilocbbkkaagreat", sum := "dd6bc374f3f179e1e0b341cffdbfc218fe13f0e10fe652b0d867581a0e5baa5a", func := "egress/egresstop.TopForced", spec := "topForced", unfollowed := true, recurses := true, named := ["math/bits.divideError", "math/bits.overflowError"], plainKeys := false, apart := false, narrowed := true }
def TopForcedUptoSaid : Prop := topForcedUptoRow.holds Tryz.pinned (OpenSpec.upto topForcedSpec)

/-- 'egresstop.TopModel', WHERE WHAT IT READS IS OF BULK AT MOST 1048576: true; the input reads as it did. -/
def topModelUptoRow : OpenClaim := { program := "ytdddiilocbbkkaagreat", sum := "dd6bc374f3f179e1e0b341cffdbfc218fe13f0e10fe652b0d867581a0e5baa5a", func := "egress/egresstop.TopModel", spec := "topModel", unfollowed := true, recurses := true, named := ["math/bits.divideError", "math/bits.overflowError"], plainKeys := false, apart := false, narrowed := true }
def TopModelUptoSaid : Prop := topModelUptoRow.holds Tryz.pinned (OpenSpec.upto topModelSpec)

/-- 'egresstop.TopRing', WHERE WHAT IT READS IS OF BULK AT MOST 1048576: true; the input reads as it did. -/
def topRingUptoRow : OpenClaim := { program := "ytdddiilocbbkkaagreat", sum := "dd6bc374f3f179e1e0b341cffdbfc218fe13f0e10fe652b0d867581a0e5baa5a", func := "egress/egresstop.TopRing", spec := "topRing", unfollowed := true, recurses := true, named := ["math/bits.divideError", "math/bits.overflowError"], plainKeys := false, apart := false, narrowed := true }
def TopRingUptoSaid : Prop := topRingUptoRow.holds Tryz.pinned (OpenSpec.upto topRingSpec)

/-- 'egresstop.TopDrains', WHERE WHAT IT READS IS OF BULK AT MOST 1048576: true; the input reads as it did. -/
def topDrainsUptoRow : OpenClaim := { program := "ytdddiilocbbkkaagreat", sum := "dd6bc374f3f179e1e0b341cffdbfc218fe13f0e10fe652b0d867581a0e5baa5a", func := "egress/egresstop.TopDrains", spec := "topDrains", unfollowed := true, recurses := true, named := ["math/bits.divideError", "math/bits.overflowError"], plainKeys := false, apart := false, narrowed := true }
def TopDrainsUptoSaid : Prop := topDrainsUptoRow.holds Tryz.pinned (OpenSpec.upto topDrainsSpec)

end Rows
end Go.Proofs.YtdddiilocbbkkaaGreat
