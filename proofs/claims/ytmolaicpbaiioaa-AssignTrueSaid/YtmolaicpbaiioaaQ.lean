/- Halves of 32 bits: what math/bits.Mul64 does. No program in sight. -/
import Derived.Test.YtmolaicpbaiioaaY
import Derived.Lib.Mul64
import Derived.Laws.Bits64b
namespace Go.Eg
open Go.RowKit
variable {P : Program} {κ : Cx} {e : Env} {L : List Res} {d : Tmp} {ty : TypeId} {s : String} {af : Array Edge} {gd : Option (Nat × Bool)} {x y : Operand} {T T' : Nat} {a b : Nat}
theorem and_mask (a : Nat) (ha : a < 18446744073709551616) : bits .and .u64 (a : Int) 4294967295 = ((a % 4294967296 : Nat) : Int) := by
  have h := bits_and_u64_nat a 4294967295 ha (by omega)
  have e : a &&& 4294967295 = a % 4294967296 := Nat.and_two_pow_sub_one_eq_mod a 32
  rw [e] at h
  exact h
theorem q_and32 (hx : ev e x = some (.int .u64 (a : Int))) (hy : ev e y = some (.int .u64 4294967295)) (ha : a < 18446744073709551616) : QRun P κ e L ⟨some d, .binOp .and T x y T', ty, s, af, gd⟩ (.int .u64 ((a % 4294967296 : Nat) : Int)) := fun ac w he _ => by
  simp only [execOp, he.ev hx, he.ev hy]
  simp [eqGuard_at_int, binOp_and, intBits_and, and_mask a ha]
theorem q_shr32 (hx : ev e x = some (.int .u64 (a : Int))) (hy : ev e y = some (.int .u64 32)) : QRun P κ e L ⟨some d, .binOp .shr T x y T', ty, s, af, gd⟩ (.int .u64 ((a / 4294967296 : Nat) : Int)) := fun ac w he _ => by
  have h : Op.shift .shr .u64 (a : Int) .u64 32 = pure (.int .u64 ((a : Int) / 2 ^ (32 : Int).toNat)) := shift_shr .u64 .u64 a 32 (by decide) (by decide)
  simp only [execOp, he.ev hx, he.ev hy]
  simp [eqGuard_at_int, binOp_shr, h]
theorem q_mulu (hx : ev e x = some (.int .u64 (a : Int))) (hy : ev e y = some (.int .u64 (b : Int))) (hz : a * b < 18446744073709551616) : QRun P κ e L ⟨some d, .binOp .mul T x y T', ty, s, af, gd⟩ (.int .u64 ((a * b : Nat) : Int)) :=
  q_mulz hx hy (by rw [← Int.natCast_mul, IntKind.wrap_u64]; omega)
theorem q_addu (hx : ev e x = some (.int .u64 (a : Int))) (hy : ev e y = some (.int .u64 (b : Int))) (hz : a + b < 18446744073709551616) : QRun P κ e L ⟨some d, .binOp .add T x y T', ty, s, af, gd⟩ (.int .u64 ((a + b : Nat) : Int)) :=
  q_addz hx hy (by rw [← Int.natCast_add, IntKind.wrap_u64]; omega)
theorem q_mullo (hx : ev e x = some (.int .u64 (a : Int))) (hy : ev e y = some (.int .u64 (b : Int))) : QRun P κ e L ⟨some d, .binOp .mul T x y T', ty, s, af, gd⟩ (.int .u64 ((a * b % 18446744073709551616 : Nat) : Int)) :=
  q_mulz hx hy (by rw [← Int.natCast_mul, IntKind.wrap_u64]; omega)
/-- make([]E, 0, n) -/
theorem g_make0 {X : Act → World → Prop} {Q : Exit → Act → World → Prop} {T E k bt n : Nat} {kd kd' : IntKind} {x y : Operand} {a b : Int} {zc : List Value} [hs : SlcF P T E k bt] [hz : Zr P E zc] (hx : ev e x = some (.int kd a)) (hy : ev e y = some (.int kd' b)) (ha : a = 0) (hb : b = (n : Int)) (hn : bt * n ≤ 281474976710656) (hd : Nat.blt d κ.N = true)
    (h : ∀ g, G κ ((d, .slice (some ⟨g, 0, none⟩) 0 n) :: e) (.row (some ⟨g, 0, none⟩) 0 n E k [] :: L) X) :
    G κ e L (owp P ⟨some d, .makeSlice T x y, ty, s, af, gd⟩ Q X) := G.loud hd fun ac w hst => by
  obtain ⟨i, z, hi, hz0, hsz, hby, hzs, hk, hbp⟩ := hs.get
  obtain ⟨v, hv, hcells⟩ := hz.run w
  have hvz : v = z := by
    have : (zeroValue E).run P w = .ok z w := by simp [zeroValue, typeInfo, hi, hz0]
    rw [this] at hv; injection hv with h1 _; exact h1.symm
  subst hvz
  subst ha; subst hb
  have hzl : zc.length = k := by rw [hcells] at hzs; simpa using hzs
  have hnm : n ≤ 281474976710656 := Nat.le_trans (Nat.le_mul_of_pos_left _ hbp) hn
  have hb' : (i.bytes : Int) * (n : Int) ≤ 281474976710656 := by
    have h : ((i.bytes * n : Nat) : Int) ≤ 281474976710656 := by rw [hby]; omega
    rwa [Int.natCast_mul] at h
  have hr := run_make (P := P) w T E i v hs.und hi hz0 kd kd' 0 n (by omega) (by omega) hb' (by omega)
  simp only [Int.toNat_natCast, Int.toNat_zero] at hr
  refine ⟨.slice (some ⟨w.heap.size, 0, none⟩) 0 n, w.alloc (.cells (madeCells v.cells (n * i.size)) E), .row (some ⟨w.heap.size, 0, none⟩) 0 n E k [] :: L, ?_, hst.wok.cons (Upd.alloc w _) _ ?_ ?_, h _⟩
  · simp [execOp, hst.env.ev hx, hst.env.ev hy, hr]
  · rw [hcells, hsz]
    refine ⟨by simp, fun c hc => by simp at hc, .inr ⟨w.heap.size, _, rfl, heap_alloc_new w _, Nat.zero_le _, by unfold maxLen; omega, by simp [madeCells], by simp⟩⟩
  · intro q hq
    simp only [Res.row] at hq
    split at hq
    · simp at hq
    · simp at hq; omega
end Go.Eg
