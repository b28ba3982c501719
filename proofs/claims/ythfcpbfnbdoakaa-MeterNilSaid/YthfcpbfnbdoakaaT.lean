/- The facts of the program's tables that the walks use: closed. -/
import Derived.Test.YthfcpbfnbdoakaaRows
import Derived.Test.YthfcpbfnbdoakaaF
namespace Go.Proofs.Ythfcpbfnbdoakaa
open Go.Eg
instance ty3 : Ty Try.prog 3 false 1 := Ty.of (by kernel_rfl) (by kernel_rfl)
instance ty23 : Ty Try.prog 23 false 1 := Ty.of (by kernel_rfl) (by kernel_rfl)
instance ty27 : Ty Try.prog 27 false 1 := Ty.of (by kernel_rfl) (by kernel_rfl)
instance ty28 : Ty Try.prog 28 false 1 := Ty.of (by kernel_rfl) (by kernel_rfl)
instance ty33 : Ty Try.prog 33 false 1 := Ty.of (by kernel_rfl) (by kernel_rfl)
instance ty35 : Ty Try.prog 35 false 1 := Ty.of (by kernel_rfl) (by kernel_rfl)
instance ty38 : Ty Try.prog 38 true 5 := Ty.of (by kernel_rfl) (by kernel_rfl)
instance ty40 : Ty Try.prog 40 true 2 := Ty.of (by kernel_rfl) (by kernel_rfl)
instance ty43 : Ty Try.prog 43 true 3 := Ty.of (by kernel_rfl) (by kernel_rfl)
instance ty50 : Ty Try.prog 50 true 4 := Ty.of (by kernel_rfl) (by kernel_rfl)
instance zr3 : Zr Try.prog 3 [.int .i64 0] := Zr.of (by kernel_rfl)
instance zr23 : Zr Try.prog 23 [.slice none 0 0] := Zr.of (by kernel_rfl)
instance zr27 : Zr Try.prog 27 [.int .u64 0] := Zr.of (by kernel_rfl)
instance zr28 : Zr Try.prog 28 [.int .u16 0] := Zr.of (by kernel_rfl)
instance zr33 : Zr Try.prog 33 [.slice none 0 0] := Zr.of (by kernel_rfl)
instance zr35 : Zr Try.prog 35 [.slice none 0 0] := Zr.of (by kernel_rfl)
instance zr38 : Zr Try.prog 38 [.int .u64 0, .int .u64 0, .int .u64 0, .int .u64 0, .int .u64 0] := Zr.of (by kernel_rfl)
instance zr40 : Zr Try.prog 40 [.int .i64 0, .int .u64 0] := Zr.of (by kernel_rfl)
instance zr43 : Zr Try.prog 43 [.int .u64 0, .int .u64 0, .int .u64 0] := Zr.of (by kernel_rfl)
instance zr50 : Zr Try.prog 50 [.int .u64 0, .int .u64 0, .int .u64 0, .int .u64 0] := Zr.of (by kernel_rfl)
instance fl38_0 : Fl Try.prog 38 0 0 := Fl.of (by kernel_rfl)
instance fl38_1 : Fl Try.prog 38 1 1 := Fl.of (by kernel_rfl)
instance fl38_2 : Fl Try.prog 38 2 2 := Fl.of (by kernel_rfl)
instance fl38_3 : Fl Try.prog 38 3 3 := Fl.of (by kernel_rfl)
instance fl38_4 : Fl Try.prog 38 4 4 := Fl.of (by kernel_rfl)
instance fl40_0 : Fl Try.prog 40 0 0 := Fl.of (by kernel_rfl)
instance fl40_1 : Fl Try.prog 40 1 1 := Fl.of (by kernel_rfl)
instance fl43_0 : Fl Try.prog 43 0 0 := Fl.of (by kernel_rfl)
instance fl43_1 : Fl Try.prog 43 1 1 := Fl.of (by kernel_rfl)
instance fl43_2 : Fl Try.prog 43 2 2 := Fl.of (by kernel_rfl)
instance fl48_0 : Fl Try.prog 48 0 0 := Fl.of (by kernel_rfl)
instance fl50_0 : Fl Try.prog 50 0 0 := Fl.of (by kernel_rfl)
instance fl50_1 : Fl Try.prog 50 1 3 := Fl.of (by kernel_rfl)
instance slc23 : Slc Try.prog 23 28 1 := ⟨by kernel_rfl, by kernel_rfl⟩
instance slc33 : Slc Try.prog 33 27 1 := ⟨by kernel_rfl, by kernel_rfl⟩
instance slc35 : Slc Try.prog 35 40 2 := ⟨by kernel_rfl, by kernel_rfl⟩
instance ui3 : UInt' Try.prog 3 .i64 := ⟨by kernel_rfl⟩
instance ui22 : UInt' Try.prog 22 .u32 := ⟨by kernel_rfl⟩
instance ui27 : UInt' Try.prog 27 .u64 := ⟨by kernel_rfl⟩
instance ui28 : UInt' Try.prog 28 .u16 := ⟨by kernel_rfl⟩
instance ptr25 : Ptr Try.prog 25 := ⟨by kernel_rfl⟩
instance hb9 : HasB Try.prog 9 := ⟨by kernel_rfl⟩
instance hb10 : HasB Try.prog 10 := ⟨by kernel_rfl⟩
instance hb11 : HasB Try.prog 11 := ⟨by kernel_rfl⟩
instance hb12 : HasB Try.prog 12 := ⟨by kernel_rfl⟩
instance hb13 : HasB Try.prog 13 := ⟨by kernel_rfl⟩
instance hb14 : HasB Try.prog 14 := ⟨by kernel_rfl⟩
instance hb15 : HasB Try.prog 15 := ⟨by kernel_rfl⟩
instance hb16 : HasB Try.prog 16 := ⟨by kernel_rfl⟩
instance hb17 : HasB Try.prog 17 := ⟨by kernel_rfl⟩
instance hb18 : HasB Try.prog 18 := ⟨by kernel_rfl⟩
instance hb19 : HasB Try.prog 19 := ⟨by kernel_rfl⟩
instance hb20 : HasB Try.prog 20 := ⟨by kernel_rfl⟩
instance hb21 : HasB Try.prog 21 := ⟨by kernel_rfl⟩
instance hb22 : HasB Try.prog 22 := ⟨by kernel_rfl⟩
instance hb23 : HasB Try.prog 23 := ⟨by kernel_rfl⟩
instance hb24 : HasB Try.prog 24 := ⟨by kernel_rfl⟩
instance pl38 : Plc Try.prog 38 (placeL [(0, 1), (1, 1), (2, 1), (3, 1), (4, 1)]) [.int .u64 0, .int .u64 0, .int .u64 0, .int .u64 0, .int .u64 0] := Plc.struct zr38 (Try.prog.fieldsOf 38) (by kernel_rfl) (by kernel_rfl)
instance pl43 : Plc Try.prog 43 (placeL [(0, 1), (1, 1), (2, 1)]) [.int .u64 0, .int .u64 0, .int .u64 0] := Plc.struct zr43 (Try.prog.fieldsOf 43) (by kernel_rfl) (by kernel_rfl)
instance pl50 : Plc Try.prog 50 (placeL [(0, 3), (3, 1)]) [.int .u64 0, .int .u64 0, .int .u64 0, .int .u64 0] := Plc.struct zr50 (Try.prog.fieldsOf 50) (by kernel_rfl) (by kernel_rfl)
instance eq43 : EqT Try.prog 43 [0, 0, 0] := ⟨by kernel_rfl, by kernel_rfl, by kernel_rfl, by kernel_rfl⟩
theorem mixed : Try.prog.follows .mixedOrders = true := by kernel_rfl
end Go.Proofs.Ythfcpbfnbdoakaa
