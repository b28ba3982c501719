/- Half of a number by a shift. No program in sight. -/
import Derived.Test.YtgbghjnlicldnaaZ
import Derived.Laws.Bits64b
namespace Go.Eg
open Go.RowKit
variable {P : Program} {κ : Cx} {e : Env} {L : List Res} {d : Tmp} {ty : TypeId} {s : String} {af : Array Edge} {gd : Option (Nat × Bool)} {x y : Operand} {T T' : Nat} {a : Nat}
theorem q_shr1 (hx : ev e x = some (.int .u64 (a : Int))) (hy : ev e y = some (.int .u64 1)) : QRun P κ e L ⟨some d, .binOp .shr T x y T', ty, s, af, gd⟩ (.int .u64 ((a / 2 : Nat) : Int)) := fun ac w he _ => by
  have h : Op.shift .shr .u64 (a : Int) .u64 1 = pure (.int .u64 ((a : Int) / 2 ^ (1 : Int).toNat)) := shift_shr .u64 .u64 a 1 (by decide) (by decide)
  simp only [execOp, he.ev hx, he.ev hy]
  simp [eqGuard_at_int, binOp_shr, h]
end Go.Eg
