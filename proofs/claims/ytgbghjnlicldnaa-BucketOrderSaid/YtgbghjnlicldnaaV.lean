/- Scopes and labels. No program in sight. -/
import Derived.Test.YtgbghjnlicldnaaU
import Derived.Scope
namespace Go.Eg
open Go.RowKit
section
variable {P : Program} {κ : Cx} {e : Env} {L : List Res} {X : Act → World → Prop} {Q : Exit → Act → World → Prop}
theorem g_scope {c : Code} (h : G κ e L (c.wpIn (FR none) 0 P (Exit.noGoto Q))) : G κ e L ((Code.scope c).wpIn (FR none) 0 P Q) := fun a w hs => (wpIn_wide (n := 0)).2 (wp_scope_straight ((wpIn_wide (n := 0)).1 (h a w hs)))
theorem g_label {l : Nat} (h : G κ e L (Q .normal)) : G κ e L ((Code.label l).wpIn (FR κ.ρ) 0 P Q) := fun a w hs => wpIn_label (h a w hs)
theorem g_ng_n (h : G κ e L (Q .normal)) : G κ e L (Exit.noGoto Q .normal) := h
theorem g_ng_ret (h : G κ e L (Q .ret)) : G κ e L (Exit.noGoto Q .ret) := h
theorem g_ng_x {j : Nat} (h : G κ e L (Q (.exit j))) : G κ e L (Exit.noGoto Q (.exit j)) := h
end
/-! ### operations whose guard was itself passed over -/
theorem wanted_undef {ops : Array Oper} {j : Nat} {b : Bool} {o oj : Oper} {t : Tmp} {a : Act} (hg : o.guard = some (j, b)) (hj : ops[j]? = some oj) (hd : oj.dst = some t) (ht : a.tmps[t]? = some undef) : Region.wanted o (yielded ops a.tmps) = false := by
  simp only [Region.wanted, hg, yielded, hj, Option.bind_some, hd, ht]
  cases b <;> rfl
section
variable {P : Program} {κ : Cx} {e : Env} {L : List Res} {ops : Array Oper} {rest : List Oper} {Q : Exit → Act → World → Prop} {T : List Nat}
theorem g_gu {d : Nat} {op : Op} {t : TypeId} {s : String} {af : Array Edge} {j : Nat} {b : Bool} {u : Tmp} (hj : (ops[j]?).bind (·.dst) = some u) (hu : look e u = some undef) (hd : Nat.blt d κ.N = true)
    (h : G κ ((d, undef) :: e) L (wpListIn (FR κ.ρ) 0 P ops Q rest)) : G κ e L (wpListIn (FR κ.ρ) 0 P ops Q (⟨some d, op, t, s, af, some (j, b)⟩ :: rest)) := fun a w hs => by
  obtain ⟨oj, hoj, hdj⟩ := Option.bind_eq_some_iff.1 hj
  refine wpListIn_step fun K hK => ?_
  rw [wanted_undef rfl hoj hdj (hs.env u _ hu)]
  simp only [Bool.false_eq_true, if_false]
  exact ⟨fun _ _ => trivial, hK _ _ (h _ _ (hs.put (by simpa using hd) undef))⟩
theorem d_gu {L0 : List Res} (i : Nat) {fuel : Nat} {ls ls' : Array Bool} {d : Nat} {op : Op} {t : TypeId} {s : String} {af : Array Edge} {j : Nat} {b : Bool} {u : Tmp} (hi : ops[i]? = some ⟨some d, op, t, s, af, some (j, b)⟩) (hb : firstB ops T ls i = true)
    (hj : (ops[j]?).bind (·.dst) = some u) (hu : look e u = some undef) (hL : ∀ w, WOK κ.S κ.w0 L w → WOK κ.S κ.w0 L0 w) (hd : Nat.blt d κ.N = true) (hls : ls.setIfInBounds i true = ls') (h : G κ ((d, undef) :: e) L (wpAnyC P ops T (Cls κ L0) Q fuel ls')) : G κ e L (wpAnyC P ops T (Cls κ L0) Q (fuel + 1) ls) := fun a w hs => by
  subst hls
  obtain ⟨oj, hoj, hdj⟩ := Option.bind_eq_some_iff.1 hj
  exact anyC_take hi hb (.inr ⟨wanted_undef rfl hoj hdj (hs.env u _ hu), rfl⟩) (hL w hs.wok) (h _ _ (hs.put (by simpa using hd) undef))
end
theorem g_noresL {κ : Cx} {e : Env} {L : List Res} {X : Act → World → Prop} (A : Option Addr) (T k : Nat) (els : List (List Value)) (he : els = []) (h : G κ e (.row A 0 0 T k els :: L) X) : G κ e L X := by
  subst he; exact g_nores A T k h
end Go.Eg
