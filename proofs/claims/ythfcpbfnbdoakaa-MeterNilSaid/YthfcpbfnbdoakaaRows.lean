/-
  No cell of these rows narrows 'for every input' (looked for: loops, veiled, ifaces, maps, wideKeys, modest, calm, conditions, laid).
  DERIVED. THE GIVEN ROWS OF THIS SEAT. 6 by the template 'for every input the law returns true; each argument reads behind the call as it read before'; 0 by the template 'total and deterministic' (their statements: YthfcpbfnbdoakaaTotals.lean).
  GIVEN WITH THE SEED: the statements are not yours to turn. If you find one false, say at which input.
  Laid BY PROGRAM, IN A SANDBOX (cutbox-rows.mjs): the forced cells as the released guide's own fill.sh prints them over the translation 71e9108452324187… (all of the seat's roots in one cut). By AI agents, Wed Nov 11 2026. No macro, syntax, notation, axiom, sorry.
-/
import Derived.Test.YthfcpbfnbdoakaaChecked
import GoSem.Claim
import GoSem.ClaimJoined
import GoSem.ClaimMapViews
import Derived.JoinedTies
import Derived.KernelRfl
namespace Go.Proofs.Ythfcpbfnbdoakaa
/- THE CELL 'sum', in the pinned program and in every row, IS THE sha256 OF THE DUMP (.gsa) THAT YthfcpbfnbdoakaaProg.lean LOADS. Nothing in Lean hashes anything: it is a label: what it is worth is what the hold of that sum in a sandbox is worth. -/
noncomputable def Try.pinned : Pinned := { name := "ythfcpbfnbdoakaa", sum := "71e910845232418743f306ecb7802aa2d010ab57da048bc701a8e7772a66c4b4", checked := Try.checked }
namespace Rows
def none {H : Type} : Left H := { results := [], args := [] }

/-- 'egresslaw11.MeterCarries': WHATEVER THE INPUT: true; the input reads as it did. -/
def meterCarriesSpec : ChangeSpec := { name := "meterCarries", fn := fun _ => fun
  | [d1, d2] => { results := [.lit (.bool true)], args := [d1, d2] }
  | _ => none }
def meterCarriesRow : OpenClaim := { program := "ythfcpbfnbdoakaa", sum := "71e910845232418743f306ecb7802aa2d010ab57da048bc701a8e7772a66c4b4", func := "egress/egresslaw11.MeterCarries", spec := "meterCarries", apart := false }
def MeterCarriesSaid : Prop := meterCarriesRow.holds Try.pinned (OpenSpec.ofChange meterCarriesSpec)

/-- ITS FALSE NEIGHBOUR: 'it returns false'. Refute it at one input. -/
def meterCarriesWrong : ChangeSpec := { name := "meterCarries", fn := fun _ => fun
  | [d1, d2] => { results := [.lit (.bool false)], args := [d1, d2] }
  | _ => none }
def MeterCarriesWrongFalsely : Prop := meterCarriesRow.holds Try.pinned (OpenSpec.ofChange meterCarriesWrong)

/-- 'egresslaw11.MeterSpends': WHATEVER THE INPUT: true; the input reads as it did. -/
def meterSpendsSpec : ChangeSpec := { name := "meterSpends", fn := fun _ => fun
  | [d1, d2, d3] => { results := [.lit (.bool true)], args := [d1, d2, d3] }
  | _ => none }
def meterSpendsRow : OpenClaim := { program := "ythfcpbfnbdoakaa", sum := "71e910845232418743f306ecb7802aa2d010ab57da048bc701a8e7772a66c4b4", func := "egress/egresslaw11.MeterSpends", spec := "meterSpends", apart := false }
def MeterSpendsSaid : Prop := meterSpendsRow.holds Try.pinned (OpenSpec.ofChange meterSpendsSpec)

/-- ITS FALSE NEIGHBOUR: 'it returns false'. Refute it at one input. -/
def meterSpendsWrong : ChangeSpec := { name := "meterSpends", fn := fun _ => fun
  | [d1, d2, d3] => { results := [.lit (.bool false)], args := [d1, d2, d3] }
  | _ => none }
def MeterSpendsWrongFalsely : Prop := meterSpendsRow.holds Try.pinned (OpenSpec.ofChange meterSpendsWrong)

/-- 'egresslaw11.MeterPlays': WHATEVER THE INPUT: true; the input reads as it did. -/
def meterPlaysSpec : ChangeSpec := { name := "meterPlays", fn := fun _ => fun
  | [d] => { results := [.lit (.bool true)], args := [d] }
  | _ => none }
def meterPlaysRow : OpenClaim := { program := "ythfcpbfnbdoakaa", sum := "71e910845232418743f306ecb7802aa2d010ab57da048bc701a8e7772a66c4b4", func := "egress/egresslaw11.MeterPlays", spec := "meterPlays", apart := false }
def MeterPlaysSaid : Prop := meterPlaysRow.holds Try.pinned (OpenSpec.ofChange meterPlaysSpec)

/-- ITS FALSE NEIGHBOUR: 'it returns false'. Refute it at one input. -/
def meterPlaysWrong : ChangeSpec := { name := "meterPlays", fn := fun _ => fun
  | [d] => { results := [.lit (.bool false)], args := [d] }
  | _ => none }
def MeterPlaysWrongFalsely : Prop := meterPlaysRow.holds Try.pinned (OpenSpec.ofChange meterPlaysWrong)

/-- 'egresslaw11.MeterConserves': WHATEVER THE INPUT: true; the input reads as it did. -/
def meterConservesSpec : ChangeSpec := { name := "meterConserves", fn := fun _ => fun
  | [d] => { results := [.lit (.bool true)], args := [d] }
  | _ => none }
def meterConservesRow : OpenClaim := { program := "ythfcpbfnbdoakaa", sum := "71e910845232418743f306ecb7802aa2d010ab57da048bc701a8e7772a66c4b4", func := "egress/egresslaw11.MeterConserves", spec := "meterConserves", apart := false }
def MeterConservesSaid : Prop := meterConservesRow.holds Try.pinned (OpenSpec.ofChange meterConservesSpec)

/-- ITS FALSE NEIGHBOUR: 'it returns false'. Refute it at one input. -/
def meterConservesWrong : ChangeSpec := { name := "meterConserves", fn := fun _ => fun
  | [d] => { results := [.lit (.bool false)], args := [d] }
  | _ => none }
def MeterConservesWrongFalsely : Prop := meterConservesRow.holds Try.pinned (OpenSpec.ofChange meterConservesWrong)

/-- 'egresslaw11.MeterRejects': WHATEVER THE INPUT: true; the input reads as it did. -/
def meterRejectsSpec : ChangeSpec := { name := "meterRejects", fn := fun _ => fun
  | [d1, d2] => { results := [.lit (.bool true)], args := [d1, d2] }
  | _ => none }
def meterRejectsRow : OpenClaim := { program := "ythfcpbfnbdoakaa", sum := "71e910845232418743f306ecb7802aa2d010ab57da048bc701a8e7772a66c4b4", func := "egress/egresslaw11.MeterRejects", spec := "meterRejects", apart := false }
def MeterRejectsSaid : Prop := meterRejectsRow.holds Try.pinned (OpenSpec.ofChange meterRejectsSpec)

/-- ITS FALSE NEIGHBOUR: 'it returns false'. Refute it at one input. -/
def meterRejectsWrong : ChangeSpec := { name := "meterRejects", fn := fun _ => fun
  | [d1, d2] => { results := [.lit (.bool false)], args := [d1, d2] }
  | _ => none }
def MeterRejectsWrongFalsely : Prop := meterRejectsRow.holds Try.pinned (OpenSpec.ofChange meterRejectsWrong)

/-- 'egresslaw11.MeterNil': WHATEVER THE INPUT: true; the input reads as it did. -/
def meterNilSpec : ChangeSpec := { name := "meterNil", fn := fun _ => fun
  | [d] => { results := [.lit (.bool true)], args := [d] }
  | _ => none }
def meterNilRow : OpenClaim := { program := "ythfcpbfnbdoakaa", sum := "71e910845232418743f306ecb7802aa2d010ab57da048bc701a8e7772a66c4b4", func := "egress/egresslaw11.MeterNil", spec := "meterNil", apart := false }
def MeterNilSaid : Prop := meterNilRow.holds Try.pinned (OpenSpec.ofChange meterNilSpec)

/-- ITS FALSE NEIGHBOUR: 'it returns false'. Refute it at one input. -/
def meterNilWrong : ChangeSpec := { name := "meterNil", fn := fun _ => fun
  | [d] => { results := [.lit (.bool false)], args := [d] }
  | _ => none }
def MeterNilWrongFalsely : Prop := meterNilRow.holds Try.pinned (OpenSpec.ofChange meterNilWrong)

/- THE SECOND FORM. 'bulk': how many values and letters a reading holds, each counted each time it is reached (what is shared counts as often as it is met; a slice's spare places count too). A statement '..UptoSaid' is the law's where the arguments, and the package variables that the reading takes, are together of bulk at most 1048576: NARROWER than '..Said'. Prove '..Said' where nothing that the law and all that it calls make is longer than what came in: it says more and counts as full. Else prove '..UptoSaid'. A law counts once. -/
mutual
def uptoBulk {H : Type} : DataW H → Nat
  | .lit (.string bytes) => bytes.length + 1
  | .lit _ => 1
  | .nil => 1
  | .ptr d => uptoBulk d + 1
  | .slice elems spare => uptoBulkAll elems + uptoBulkAll spare + 1
  | .agg parts => uptoBulkAll parts + 1
  | .iface _ d => uptoBulk d + 1
  | .map entries => uptoBulkEntries entries + 1
  | .held _ => 1
def uptoBulkAll {H : Type} : List (DataW H) → Nat
  | [] => 0
  | d :: r => uptoBulk d + uptoBulkAll r
def uptoBulkEntries {H : Type} : List (Lit × DataW H) → Nat
  | [] => 0
  | x :: r => uptoBulkEntry x + uptoBulkEntries r
def uptoBulkEntry {H : Type} : Lit × DataW H → Nat
  | (.string bytes, d) => bytes.length + uptoBulk d + 1
  | (_, d) => uptoBulk d + 1
 end
def uptoSmall : (H : Type) → List (DataW H) → Bool := fun _ ds => decide (uptoBulkAll ds ≤ 1048576)
def OpenSpec.upto (s : _root_.Go.ChangeSpec) : _root_.Go.OpenSpec := { _root_.Go.OpenSpec.ofChange s with cond := some uptoSmall }

/-- 'egresslaw11.MeterCarries', WHERE WHAT IT READS IS OF BULK AT MOST 1048576: true; the input reads as it did. -/
def meterCarriesUptoRow : OpenClaim := { program := "ythfcpbfnbdoakaa", sum := "71e910845232418743f306ecb7802aa2d010ab57da048bc701a8e7772a66c4b4", func := "egress/egresslaw11.MeterCarries", spec := "meterCarries", apart := false, narrowed := true }
def MeterCarriesUptoSaid : Prop := meterCarriesUptoRow.holds Try.pinned (OpenSpec.upto meterCarriesSpec)

/-- 'egresslaw11.MeterSpends', WHERE WHAT IT READS IS OF BULK AT MOST 1048576: true; the input reads as it did. -/
def meterSpendsUptoRow : OpenClaim := { program := "ythfcpbfnbdoakaa", sum := "71e910845232418743f306ecb7802aa2d010ab57da048bc701a8e7772a66c4b4", func := "egress/egresslaw11.MeterSpends", spec := "meterSpends", apart := false, narrowed := true }
def MeterSpendsUptoSaid : Prop := meterSpendsUptoRow.holds Try.pinned (OpenSpec.upto meterSpendsSpec)

/-- 'egresslaw11.MeterPlays', WHERE WHAT IT READS IS OF BULK AT MOST 1048576: true; the input reads as it did. -/
def meterPlaysUptoRow : OpenClaim := { program := "ythfcpbfnbdoakaa", sum := "71e910845232418743f306ecb7802aa2d010ab57da048bc701a8e7772a66c4b4", func := "egress/egresslaw11.MeterPlays", spec := "meterPlays", apart := false, narrowed := true }
def MeterPlaysUptoSaid : Prop := meterPlaysUptoRow.holds Try.pinned (OpenSpec.upto meterPlaysSpec)

/-- 'egresslaw11.MeterConserves', WHERE WHAT IT READS IS OF BULK AT MOST 1048576: true; the input reads as it did. -/
def meterConservesUptoRow : OpenClaim := { program := "ythfcpbfnbdoakaa", sum := "71e910845232418743f306ecb7802aa2d010ab57da048bc701a8e7772a66c4b4", func := "egress/egresslaw11.MeterConserves", spec := "meterConserves", apart := false, narrowed := true }
def MeterConservesUptoSaid : Prop := meterConservesUptoRow.holds Try.pinned (OpenSpec.upto meterConservesSpec)

/-- 'egresslaw11.MeterRejects', WHERE WHAT IT READS IS OF BULK AT MOST 1048576: true; the input reads as it did. -/
def meterRejectsUptoRow : OpenClaim := { program := "ythfcpbfnbdoakaa", sum := "71e910845232418743f306ecb7802aa2d010ab57da048bc701a8e7772a66c4b4", func := "egress/egresslaw11.MeterRejects", spec := "meterRejects", apart := false, narrowed := true }
def MeterRejectsUptoSaid : Prop := meterRejectsUptoRow.holds Try.pinned (OpenSpec.upto meterRejectsSpec)

/-- 'egresslaw11.MeterNil', WHERE WHAT IT READS IS OF BULK AT MOST 1048576: true; the input reads as it did. -/
def meterNilUptoRow : OpenClaim := { program := "ythfcpbfnbdoakaa", sum := "71e910845232418743f306ecb7802aa2d010ab57da048bc701a8e7772a66c4b4", func := "egress/egresslaw11.MeterNil", spec := "meterNil", apart := false, narrowed := true }
def MeterNilUptoSaid : Prop := meterNilUptoRow.holds Try.pinned (OpenSpec.upto meterNilSpec)

end Rows
end Go.Proofs.Ythfcpbfnbdoakaa
