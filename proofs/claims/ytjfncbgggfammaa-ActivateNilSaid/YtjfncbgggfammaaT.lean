/- The facts of the program's tables that the walks use: closed. -/
import Derived.Test.YtjfncbgggfammaaRows
import Derived.Test.YtjfncbgggfammaaY
namespace Go.Proofs.Ytjfncbgggfammaa
open Go.Eg
instance ty3 : Ty Try.prog 3 false 1 := Ty.of (by kernel_rfl) (by kernel_rfl)
instance ty4 : Ty Try.prog 4 false 1 := Ty.of (by kernel_rfl) (by kernel_rfl)
instance ty22 : Ty Try.prog 22 false 1 := Ty.of (by kernel_rfl) (by kernel_rfl)
instance ty23 : Ty Try.prog 23 false 1 := Ty.of (by kernel_rfl) (by kernel_rfl)
instance ty24 : Ty Try.prog 24 false 1 := Ty.of (by kernel_rfl) (by kernel_rfl)
instance ty26 : Ty Try.prog 26 false 1 := Ty.of (by kernel_rfl) (by kernel_rfl)
instance ty50 : Ty Try.prog 50 true 4 := Ty.of (by kernel_rfl) (by kernel_rfl)
instance zr3 : Zr Try.prog 3 [.int .i64 0] := Zr.of (by kernel_rfl)
instance zr4 : Zr Try.prog 4 [.bool false] := Zr.of (by kernel_rfl)
instance zr22 : Zr Try.prog 22 [.slice none 0 0] := Zr.of (by kernel_rfl)
instance zr23 : Zr Try.prog 23 [.int .u64 0] := Zr.of (by kernel_rfl)
instance zr24 : Zr Try.prog 24 [.slice none 0 0] := Zr.of (by kernel_rfl)
instance zr26 : Zr Try.prog 26 [.pointer none] := Zr.of (by kernel_rfl)
instance zr50 : Zr Try.prog 50 [.slice none 0 0, .int .i64 0, .int .i64 0, .int .i64 0] := Zr.of (by kernel_rfl)
instance fl50_0 : Fl Try.prog 50 0 0 := Fl.of (by kernel_rfl)
instance fl50_1 : Fl Try.prog 50 1 1 := Fl.of (by kernel_rfl)
instance fl50_2 : Fl Try.prog 50 2 2 := Fl.of (by kernel_rfl)
instance fl50_3 : Fl Try.prog 50 3 3 := Fl.of (by kernel_rfl)
instance slc22 : Slc Try.prog 22 3 1 := ⟨by kernel_rfl, by kernel_rfl⟩
instance slc24 : Slc Try.prog 24 23 1 := ⟨by kernel_rfl, by kernel_rfl⟩
instance ptr26 : Ptr Try.prog 26 := ⟨by kernel_rfl⟩
instance hb9 : HasB Try.prog 9 := ⟨by kernel_rfl⟩
instance hb10 : HasB Try.prog 10 := ⟨by kernel_rfl⟩
instance hb11 : HasB Try.prog 11 := ⟨by kernel_rfl⟩
instance hb12 : HasB Try.prog 12 := ⟨by kernel_rfl⟩
instance hb13 : HasB Try.prog 13 := ⟨by kernel_rfl⟩
instance hb14 : HasB Try.prog 14 := ⟨by kernel_rfl⟩
instance hb15 : HasB Try.prog 15 := ⟨by kernel_rfl⟩
instance hb16 : HasB Try.prog 16 := ⟨by kernel_rfl⟩
instance hb17 : HasB Try.prog 17 := ⟨by kernel_rfl⟩
instance hb18 : HasB Try.prog 18 := ⟨by kernel_rfl⟩
instance hb19 : HasB Try.prog 19 := ⟨by kernel_rfl⟩
instance hb20 : HasB Try.prog 20 := ⟨by kernel_rfl⟩
instance hb21 : HasB Try.prog 21 := ⟨by kernel_rfl⟩
instance hb22 : HasB Try.prog 22 := ⟨by kernel_rfl⟩
instance hb23 : HasB Try.prog 23 := ⟨by kernel_rfl⟩
instance hb24 : HasB Try.prog 24 := ⟨by kernel_rfl⟩
instance hb25 : HasB Try.prog 25 := ⟨by kernel_rfl⟩
instance hb26 : HasB Try.prog 26 := ⟨by kernel_rfl⟩
instance hb27 : HasB Try.prog 27 := ⟨by kernel_rfl⟩
instance hb28 : HasB Try.prog 28 := ⟨by kernel_rfl⟩
instance hb29 : HasB Try.prog 29 := ⟨by kernel_rfl⟩
instance hb30 : HasB Try.prog 30 := ⟨by kernel_rfl⟩
instance hb31 : HasB Try.prog 31 := ⟨by kernel_rfl⟩
instance hb32 : HasB Try.prog 32 := ⟨by kernel_rfl⟩
instance hb33 : HasB Try.prog 33 := ⟨by kernel_rfl⟩
instance hb34 : HasB Try.prog 34 := ⟨by kernel_rfl⟩
instance hb35 : HasB Try.prog 35 := ⟨by kernel_rfl⟩
instance hb36 : HasB Try.prog 36 := ⟨by kernel_rfl⟩
instance pl50 : Plc Try.prog 50 (placeL [(0, 1), (1, 1), (2, 1), (3, 1)]) [.slice none 0 0, .int .i64 0, .int .i64 0, .int .i64 0] := Plc.struct zr50 (Try.prog.fieldsOf 50) (by kernel_rfl) (by kernel_rfl)
instance sf22 : SlcF Try.prog 22 3 1 8 := ⟨by kernel_rfl, by kernel_rfl, rfl, rfl⟩
instance sf24 : SlcF Try.prog 24 23 1 8 := ⟨by kernel_rfl, by kernel_rfl, rfl, rfl⟩
theorem mixed : Try.prog.follows .mixedOrders = true := by kernel_rfl
end Go.Proofs.Ytjfncbgggfammaa
