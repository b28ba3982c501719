/- Comparisons of structs of plain fields and of arrays of plain elements. No program in sight. -/
import Derived.Test.YtgbghjnlicldnaaE
namespace Go.Eg
open Go.RowKit

def eqS : Nat → Value → Value → Option Bool
  | 0, .int _ a, .int _ b => some (decide (a = b))
  | 1, .bool a, .bool b => some (a == b)
  | 2, .string a, .string b => some (a.toList == b.toList)
  | _, _, _ => none
def sameK : Value → Value → Bool
  | .int k _, .int k' _ => decide (k = k')
  | _, _ => true
def eqL : List Nat → List Value → List Value → Option Bool
  | [], [], [] => some true
  | k :: ks, x :: xs, y :: ys =>
    if sameK x y then
      match eqS k x y, eqL ks xs ys with
      | some a, some b => some (a && b)
      | _, _ => none
    else none
  | _, _, _ => none
def kindOf (P : Program) (T : Nat) : Option Nat :=
  match P.underlying T with
  | some (.int _) => some 0
  | some .bool => some 1
  | some .string => some 2
  | _ => none
section
variable {P : Program}
theorem run_eqS {d T k : Nat} (hk : kindOf P T = some k) {x y : Value} {b : Bool} (hs : sameK x y = true) (h : eqS k x y = some b) (w : World) : (Op.equalIn (d + 1) T x y).run P w = .ok b w := by
  unfold kindOf at hk
  cases hu : P.underlying T with
  | none => simp [hu] at hk
  | some u =>
    cases u <;> simp [hu] at hk <;> subst hk <;> cases x <;> cases y <;> simp [eqS] at h
    · subst h; simp [Op.equalIn, run_underlying hu]
    · subst h
      simp [sameK] at hs; subst hs
      simp [Op.equalIn, run_underlying hu]
      rfl
    · subst h; simp [Op.equalIn, run_underlying hu, beq_toListBytes]
theorem kind_part {T k : Nat} (hk : kindOf P T = some k) {cs : List Value} {off : Nat} {v : Value} (hv : cs[off]? = some v) (w : World) : (part T cs.toArray off).run P w = .ok v w := by
  unfold kindOf at hk
  cases hu : P.underlying T with
  | none => simp [hu] at hk
  | some u =>
    have ha : (isAgg T).run P w = .ok false w := by
      unfold isAgg
      rw [Sem.run_bind, run_underlying hu w]
      cases u <;> simp [hu] at hk <;> rfl
    simp [part, Sem.run_bind, ha, hv]
theorem eqL_run {d : Nat} : ∀ (fs : List Field) (i : Nat) (ks : List Nat) (xs ys : List Value) (b : Bool), (fs.zipIdx i).map (fun p => if p.1.name != "_" && p.1.offset == p.2 then kindOf P p.1.type else none) = ks.map some →
    eqL ks (xs.drop i) (ys.drop i) = some b → ∀ w, (Op.eqFields (d + 1) xs.toArray ys.toArray fs).run P w = .ok b w
  | [], i, ks, xs, ys, b, hf, h, w => by
    cases ks with
    | cons k ks => simp at hf
    | nil =>
      simp only [Op.eqFields]
      cases hx : xs.drop i <;> cases hy : ys.drop i <;> simp [hx, hy, eqL] at h
      subst h; rfl
  | f :: fs, i, ks, xs, ys, b, hf, h, w => by
    cases ks with
    | nil => simp at hf
    | cons k ks =>
      simp only [List.zipIdx_cons, List.map_cons, List.cons.injEq] at hf
      obtain ⟨h1, h2⟩ := hf
      split at h1
      · rename_i hc
        simp only [Bool.and_eq_true, bne_iff_ne, ne_eq, beq_iff_eq] at hc
        cases hx : xs.drop i with
        | nil => simp [hx, eqL] at h
        | cons x xr =>
          cases hy : ys.drop i with
          | nil => simp [hx, hy, eqL] at h
          | cons y yr =>
            simp only [hx, hy, eqL] at h
            split at h
            · rename_i hsk
              cases ha : eqS k x y with
              | none => simp [ha] at h
              | some a =>
                cases hb : eqL ks xr yr with
                | none => simp [ha, hb] at h
                | some c =>
                  simp only [ha, hb, Option.some.injEq] at h
                  have hxi : xs[i]? = some x := by have : (xs.drop i)[0]? = some x := by rw [hx]; rfl
                                                   simpa using this
                  have hyi : ys[i]? = some y := by have : (ys.drop i)[0]? = some y := by rw [hy]; rfl
                                                   simpa using this
                  have hxr : xs.drop (i + 1) = xr := by rw [← List.tail_drop, hx]; rfl
                  have hyr : ys.drop (i + 1) = yr := by rw [← List.tail_drop, hy]; rfl
                  have ih := eqL_run (d := d) fs (i + 1) ks xs ys c h2 (by rw [hxr, hyr]; exact hb) w
                  have hne : f.name ≠ "_" := hc.1
                  rw [← hc.2] at hxi hyi
                  simp only [Op.eqFields, ne_eq, hne, not_false_eq_true, if_true, Sem.run_bind, kind_part h1 hxi w, kind_part h1 hyi w, Result.andThen_ok, run_eqS h1 hsk ha w]
                  subst h
                  cases a
                  · simp
                  · simp [ih]
            · cases h
      · simp at h1
end
/-- A struct type all of whose fields are plain. -/
class EqT (P : Program) (T : Nat) (ks : outParam (List Nat)) : Prop where
  und : P.underlying T = some (.struct (P.fieldsOf T))
  held : P.stoodInHeld T = false
  grd : P.eqGuardType P.depth T = false
  fld : ((P.fieldsOf T).toList.zipIdx 0).map (fun p => if p.1.name != "_" && p.1.offset == p.2 then kindOf P p.1.type else none) = ks.map some
section
variable {P : Program} {κ : Cx} {e : Env} {L : List Res} {d : Tmp} {ty : TypeId} {s : String} {af : Array Edge} {gd : Option (Nat × Bool)}
theorem q_eqs {T T' : Nat} {x y : Operand} {cs ds : List Value} {ks : List Nat} {b : Bool} [h : EqT P T ks] (hx : ev e x = some (.agg cs.toArray)) (hy : ev e y = some (.agg ds.toArray)) (hb : eqL ks cs ds = some b) :
    QRun P κ e L ⟨some d, .binOp .eql T x y T', ty, s, af, gd⟩ (.bool b) := fun a w he _ => by
  have hr := eqL_run (P := P) (d := 9998) (P.fieldsOf T).toList 0 ks cs ds b h.fld (by simpa using hb) w
  simp only [execOp, Sem.run_bind, he.ev hx, he.ev hy, run_eqGuard_agg w .eql T x y _ _ h.grd, Result.andThen_ok, run_eql_struct, run_equalIn_agg w 9999 T _ _ h.und h.held, hr, Sem.run_pure]
theorem q_nes {T T' : Nat} {x y : Operand} {cs ds : List Value} {ks : List Nat} {b : Bool} [h : EqT P T ks] (hx : ev e x = some (.agg cs.toArray)) (hy : ev e y = some (.agg ds.toArray)) (hb : eqL ks cs ds = some b) :
    QRun P κ e L ⟨some d, .binOp .neq T x y T', ty, s, af, gd⟩ (.bool (!b)) := fun a w he _ => by
  have hr := eqL_run (P := P) (d := 9998) (P.fieldsOf T).toList 0 ks cs ds b h.fld (by simpa using hb) w
  simp only [execOp, Sem.run_bind, he.ev hx, he.ev hy, run_eqGuard_agg w .neq T x y _ _ h.grd, Result.andThen_ok, run_neq_struct, run_equalIn_agg w 9999 T _ _ h.und h.held, hr, Sem.run_pure]
end
end Go.Eg
