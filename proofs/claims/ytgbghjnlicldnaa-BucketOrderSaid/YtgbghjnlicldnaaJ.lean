/- Slice expressions; a block taken for a row. No program in sight. -/
import Derived.Test.YtgbghjnlicldnaaI
namespace Go.Eg
open Go.RowKit
variable {P : Program} {κ : Cx} {e : Env} {L : List Res} {X : Act → World → Prop} {Q : Exit → Act → World → Prop} {d : Tmp} {ty : TypeId} {s : String} {af : Array Edge} {gd : Option (Nat × Bool)}
theorem bound_nat {w : World} {k : IntKind} {i y : Nat} {code : BoundsCode} (h : i ≤ y) : (Instr.sliceBound (.int k (i : Int)) y code).run P w = .ok i w := by
  rw [run_sliceBound w k i y code (by omega) (by omega)]; simp
/-- s[:h] -/
theorem q_slice_h {T E k n cap h : Nat} {kd : IntKind} {z : Int} {A : Option Addr} {x y : Operand} [ht : Slc P T E k] (hx : ev e x = some (.slice A n cap)) (hy : ev e y = some (.int kd z)) (hz : z = (h : Int)) (hh : h ≤ cap) :
    QRun P κ e L ⟨some d, .slice T x none (some y) none, ty, s, af, gd⟩ (.slice (subA A cap 0 k) h cap) := fun a w he _ => by
  obtain ⟨f, hf, rfl⟩ := Option.map_eq_some_iff.1 ht.siz
  subst hz
  simp [execOp, he.ev hx, he.ev hy, Instr.sliceAt, Instr.slice, Instr.sliceBounds, Sem.run_bind, run_underlying ht.und, sizeOf, typeInfo, hf, bound_nat hh, subA]
/-- s[l:] -/
theorem q_slice_l {T E k n cap l : Nat} {kd : IntKind} {z : Int} {A : Option Addr} {x y : Operand} [ht : Slc P T E k] (hx : ev e x = some (.slice A n cap)) (hy : ev e y = some (.int kd z)) (hz : z = (l : Int)) (hl : l ≤ n) :
    QRun P κ e L ⟨some d, .slice T x (some y) none none, ty, s, af, gd⟩ (.slice (subA A cap l k) (n - l) (cap - l)) := fun a w he _ => by
  obtain ⟨f, hf, rfl⟩ := Option.map_eq_some_iff.1 ht.siz
  subst hz
  simp [execOp, he.ev hx, he.ev hy, Instr.sliceAt, Instr.slice, Instr.sliceBounds, Sem.run_bind, run_underlying ht.und, sizeOf, typeInfo, hf, bound_nat hl, subA]
/-- s[l:h] -/
theorem q_slice_lh {T E k n cap l h : Nat} {kd kd' : IntKind} {z z' : Int} {A : Option Addr} {x y y' : Operand} [ht : Slc P T E k] (hx : ev e x = some (.slice A n cap)) (hy : ev e y = some (.int kd z)) (hy' : ev e y' = some (.int kd' z')) (hz : z = (l : Int)) (hz' : z' = (h : Int)) (hl : l ≤ h) (hh : h ≤ cap) :
    QRun P κ e L ⟨some d, .slice T x (some y) (some y') none, ty, s, af, gd⟩ (.slice (subA A cap l k) (h - l) (cap - l)) := fun a w he _ => by
  obtain ⟨f, hf, rfl⟩ := Option.map_eq_some_iff.1 ht.siz
  subst hz; subst hz'
  simp [execOp, he.ev hx, he.ev hy, he.ev hy', Instr.sliceAt, Instr.slice, Instr.sliceBounds, Sem.run_bind, run_underlying ht.und, sizeOf, typeInfo, hf, bound_nat hl, bound_nat hh, subA]
/-- s[l:h:m] -/
theorem q_slice_lhm {T E k n cap l h m : Nat} {kd kd' kd'' : IntKind} {z z' z'' : Int} {A : Option Addr} {x y y' y'' : Operand} [ht : Slc P T E k] (hx : ev e x = some (.slice A n cap)) (hy : ev e y = some (.int kd z)) (hy' : ev e y' = some (.int kd' z')) (hy'' : ev e y'' = some (.int kd'' z''))
    (hz : z = (l : Int)) (hz' : z' = (h : Int)) (hz'' : z'' = (m : Int)) (hl : l ≤ h) (hh : h ≤ m) (hm : m ≤ cap) :
    QRun P κ e L ⟨some d, .slice T x (some y) (some y') (some y''), ty, s, af, gd⟩ (.slice (subA A m l k) (h - l) (m - l)) := fun a w he _ => by
  obtain ⟨f, hf, rfl⟩ := Option.map_eq_some_iff.1 ht.siz
  subst hz; subst hz'; subst hz''
  simp [execOp, he.ev hx, he.ev hy, he.ev hy', he.ev hy'', Instr.sliceAt, Instr.slice, Instr.sliceBounds, Sem.run_bind, run_underlying ht.und, sizeOf, typeInfo, hf, bound_nat hl, bound_nat hh, bound_nat hm, subA]
/-- an empty slice, wherever it points, taken for a row of our own (it has no room) -/
theorem g_norow {t T k : Nat} {A : Option Addr} (h0 : look e t = some (.slice A 0 0)) (h : ∀ B cap, cap = 0 → G κ ((t, .slice B 0 cap) :: e) (.row B 0 cap T k [] :: L) X) : G κ e L X := fun a w hs => by
  refine h A 0 rfl a w ⟨hs.defers, hs.size, fun k v hk => ?_, hs.wok.cons (Upd.refl _ _) _ ⟨rfl, by simp, .inl ⟨rfl, rfl⟩⟩ (by simp [Res.row])⟩
  simp only [look] at hk
  by_cases h : t = k
  · subst h; simp at hk; subst hk; exact hs.env t _ h0
  · rw [if_neg h] at hk; exact hs.env k v hk
end Go.Eg
