/- Comparisons of arrays of plain elements. No program in sight. -/
import Derived.Test.YtgbghjnlicldnaaS
import Derived.ChangeKeysEq
namespace Go.Eg
open Go.RowKit
set_option linter.unusedVariables false
set_option linter.unusedSimpArgs false
/-- an array type of m plain elements -/
class EqA (P : Program) (T : Nat) (E k m : outParam Nat) : Prop where
  und : P.underlying T = some (.array m E)
  knd : kindOf P E = some k
  inf : (P.info? E).isSome = true
  cel : P.cellsOf E = 1
  grd : P.eqGuardType P.depth T = false
section
variable {P : Program}
theorem eqItems_run {d E k : Nat} (hk : kindOf P E = some k) : ∀ (n i : Nat) (xs ys : List Value) (b : Bool), eqL (List.replicate n k) (xs.drop i) (ys.drop i) = some b → ∀ w : World, (Op.eqItems (d + 1) E 1 xs.toArray ys.toArray (List.range' i n)).run P w = .ok b w
  | 0, i, xs, ys, b, h, w => by
    cases hx : xs.drop i <;> cases hy : ys.drop i <;> simp [hx, hy, eqL] at h
    subst h
    simp [Op.eqItems]
  | n + 1, i, xs, ys, b, h, w => by
    rw [List.replicate_succ] at h
    cases hx : xs.drop i with
    | nil => simp [hx, eqL] at h
    | cons x xr =>
      cases hy : ys.drop i with
      | nil => simp [hx, hy, eqL] at h
      | cons y yr =>
        simp only [hx, hy, eqL] at h
        split at h
        · rename_i hsk
          cases ha : eqS k x y with
          | none => simp [ha] at h
          | some a =>
            cases hb : eqL (List.replicate n k) xr yr with
            | none => simp [ha, hb] at h
            | some c =>
              simp only [ha, hb, Option.some.injEq] at h
              have hxi : xs[i]? = some x := by have : (xs.drop i)[0]? = some x := by rw [hx]; rfl
                                               simpa using this
              have hyi : ys[i]? = some y := by have : (ys.drop i)[0]? = some y := by rw [hy]; rfl
                                               simpa using this
              have hxr : xs.drop (i + 1) = xr := by rw [← List.tail_drop, hx]; rfl
              have hyr : ys.drop (i + 1) = yr := by rw [← List.tail_drop, hy]; rfl
              have ih := eqItems_run (d := d) hk n (i + 1) xs ys c (by rw [hxr, hyr]; exact hb) w
              rw [List.range'_succ]
              simp only [Op.eqItems, Nat.mul_one, Sem.run_bind, kind_part hk hxi w, kind_part hk hyi w, Result.andThen_ok, run_eqS hk hsk ha w]
              subst h
              cases a
              · simp
              · simp [ih]
        · cases h
end
section
variable {P : Program} {κ : Cx} {e : Env} {L : List Res} {d : Tmp} {ty : TypeId} {s : String} {af : Array Edge} {gd : Option (Nat × Bool)}
theorem eqA_run {T E k m : Nat} [h : EqA P T E k m] {cs ds : List Value} {b : Bool} (hb : eqL (List.replicate m k) cs ds = some b) (w : World) : (Op.equalIn 10000 T (.agg cs.toArray) (.agg ds.toArray)).run P w = .ok b w := by
  obtain ⟨i, hi⟩ := Option.isSome_iff_exists.1 h.inf
  have := run_equalIn_array (P := P) w 9999 cs.toArray ds.toArray h.und hi
  rw [show (10000 : Nat) = 9999 + 1 from rfl, this, h.cel, List.range_eq_range']
  exact eqItems_run (d := 9998) h.knd m 0 cs ds b (by simpa using hb) w
theorem q_eqa {T T' E k m : Nat} {x y : Operand} {cs ds : List Value} {b : Bool} [h : EqA P T E k m] (hx : ev e x = some (.agg cs.toArray)) (hy : ev e y = some (.agg ds.toArray)) (hb : eqL (List.replicate m k) cs ds = some b) :
    QRun P κ e L ⟨some d, .binOp .eql T x y T', ty, s, af, gd⟩ (.bool b) := fun a w he _ => by
  simp only [execOp, Sem.run_bind, he.ev hx, he.ev hy, run_eqGuard_agg w .eql T x y _ _ h.grd, Result.andThen_ok, run_eql_struct, eqA_run hb w, Sem.run_pure]
theorem q_nea {T T' E k m : Nat} {x y : Operand} {cs ds : List Value} {b : Bool} [h : EqA P T E k m] (hx : ev e x = some (.agg cs.toArray)) (hy : ev e y = some (.agg ds.toArray)) (hb : eqL (List.replicate m k) cs ds = some b) :
    QRun P κ e L ⟨some d, .binOp .neq T x y T', ty, s, af, gd⟩ (.bool (!b)) := fun a w he _ => by
  simp only [execOp, Sem.run_bind, he.ev hx, he.ev hy, run_eqGuard_agg w .neq T x y _ _ h.grd, Result.andThen_ok, run_neq_struct, eqA_run hb w, Sem.run_pure]
end
end Go.Eg
