/- The facts of the program's tables that the walks use: closed. -/
import Derived.Test.YtknekmmijehfmaaRows
import Derived.Test.YtknekmmijehfmaaF
namespace Go.Proofs.Ytknekmmijehfmaa
open Go.Eg
instance ty22 : Ty Try.prog 22 false 1 := Ty.of (by kernel_rfl) (by kernel_rfl)
instance ty26 : Ty Try.prog 26 true 2 := Ty.of (by kernel_rfl) (by kernel_rfl)
instance ty31 : Ty Try.prog 31 false 1 := Ty.of (by kernel_rfl) (by kernel_rfl)
instance zr22 : Zr Try.prog 22 [.int .u64 0] := Zr.of (by kernel_rfl)
instance zr26 : Zr Try.prog 26 [.int .u64 0, .int .u64 0] := Zr.of (by kernel_rfl)
instance zr31 : Zr Try.prog 31 [.slice none 0 0] := Zr.of (by kernel_rfl)
instance slc31 : Slc Try.prog 31 22 1 := ⟨by kernel_rfl, by kernel_rfl⟩
instance arr26 : Arr Try.prog 26 22 2 1 := ⟨by kernel_rfl, by kernel_rfl⟩
instance ui3 : UInt' Try.prog 3 .i64 := ⟨by kernel_rfl⟩
instance ui22 : UInt' Try.prog 22 .u64 := ⟨by kernel_rfl⟩
instance hb9 : HasB Try.prog 9 := ⟨by kernel_rfl⟩
instance hb10 : HasB Try.prog 10 := ⟨by kernel_rfl⟩
instance hb11 : HasB Try.prog 11 := ⟨by kernel_rfl⟩
instance hb12 : HasB Try.prog 12 := ⟨by kernel_rfl⟩
instance hb13 : HasB Try.prog 13 := ⟨by kernel_rfl⟩
instance hb14 : HasB Try.prog 14 := ⟨by kernel_rfl⟩
instance hb15 : HasB Try.prog 15 := ⟨by kernel_rfl⟩
instance hb16 : HasB Try.prog 16 := ⟨by kernel_rfl⟩
instance hb17 : HasB Try.prog 17 := ⟨by kernel_rfl⟩
instance hb18 : HasB Try.prog 18 := ⟨by kernel_rfl⟩
instance hb19 : HasB Try.prog 19 := ⟨by kernel_rfl⟩
instance hb20 : HasB Try.prog 20 := ⟨by kernel_rfl⟩
instance hb21 : HasB Try.prog 21 := ⟨by kernel_rfl⟩
instance hb22 : HasB Try.prog 22 := ⟨by kernel_rfl⟩
instance sf31 : SlcF Try.prog 31 22 1 8 := ⟨by kernel_rfl, by kernel_rfl, rfl, rfl⟩
theorem mixed : Try.prog.follows .mixedOrders = true := by kernel_rfl
end Go.Proofs.Ytknekmmijehfmaa
