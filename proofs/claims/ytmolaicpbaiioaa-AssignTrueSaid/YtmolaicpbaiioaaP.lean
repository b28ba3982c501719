/- A shift to the left by 31. No program in sight. -/
import Derived.Test.YtmolaicpbaiioaaQ
namespace Go.Eg
open Go.RowKit
variable {P : Program} {κ : Cx} {e : Env} {L : List Res} {d : Tmp} {ty : TypeId} {s : String} {af : Array Edge} {gd : Option (Nat × Bool)} {x y : Operand} {T T' : Nat} {a : Nat}
theorem q_shl31 (hx : ev e x = some (.int .u64 (a : Int))) (hy : ev e y = some (.int .u64 31)) (ha : a < 8589934592) : QRun P κ e L ⟨some d, .binOp .shl T x y T', ty, s, af, gd⟩ (.int .u64 ((a : Int) * 2147483648)) := fun ac w he _ => by
  have h : Op.shift .shl .u64 (a : Int) .u64 31 = pure (.int .u64 (IntKind.u64.wrap ((a : Int) * 2 ^ (31 : Int).toNat))) := shift_shl .u64 .u64 a 31 (by decide) (by decide)
  have h2 : IntKind.u64.wrap ((a : Int) * 2 ^ (31 : Int).toNat) = (a : Int) * 2147483648 := by
    rw [show (2 : Int) ^ (31 : Int).toNat = 2147483648 by decide, IntKind.wrap_u64]; omega
  rw [h2] at h
  simp only [execOp, he.ev hx, he.ev hy]
  simp [eqGuard_at_int, binOp_shl, h]
end Go.Eg
