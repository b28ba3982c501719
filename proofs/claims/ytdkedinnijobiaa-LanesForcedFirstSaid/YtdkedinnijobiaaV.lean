/- Scopes and labels. No program in sight. -/
import Derived.Test.YtdkedinnijobiaaU
import Derived.Scope
namespace Go.Eg
section
variable {P : Program} {κ : Cx} {e : Env} {L : List Res} {X : Act → World → Prop} {Q : Exit → Act → World → Prop}
theorem g_scope {c : Code} (h : G κ e L (c.wp P (Exit.noGoto Q))) : G κ e L ((Code.scope c).wp P Q) := fun a w hs => wp_scope_straight (h a w hs)
theorem g_label {l : Nat} (h : G κ e L (Q .normal)) : G κ e L ((Code.label l).wp P Q) := fun a w hs => wp_label (h a w hs)
theorem g_ng_n (h : G κ e L (Q .normal)) : G κ e L (Exit.noGoto Q .normal) := h
theorem g_ng_ret (h : G κ e L (Q .ret)) : G κ e L (Exit.noGoto Q .ret) := h
theorem g_ng_x {j : Nat} (h : G κ e L (Q (.exit j))) : G κ e L (Exit.noGoto Q (.exit j)) := h
end
end Go.Eg
