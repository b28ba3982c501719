/- Calls that return a slice of their own. No program in sight. -/
import Derived.Test.YtgbghjnlicldnaaH
import Derived.Test.YtgbghjnlicldnaaF
import Derived.Test.YtgbghjnlicldnaaE
namespace Go.Eg
open Go.RowKit
variable {P : Program} {κ : Cx} {e : Env} {L : List Res} {X : Act → World → Prop} {Q : Exit → Act → World → Prop} {d : Tmp} {ty : TypeId} {s : String} {af : Array Edge} {gd : Option (Nat × Bool)}
/-- the value is mk of a slice that is new; nothing that was there is written -/
def NewRow (P : Program) (f : FuncId) (args : List Value) (w : World) (mk : Value → Value) (T k : Nat) (els : List (List Value)) : Prop :=
  Ret P f args w fun u w' => ∃ A cap, u = mk (.slice A els.length cap) ∧ (Res.row A els.length cap T k els).sat w' ∧ Upd [] w w' ∧ ∀ b ∈ (Res.row A els.length cap T k els).fp, w.heap.size ≤ b
theorem g_newrow {f : FuncId} {xs : List Operand} {vs : List Value} {ts : Array TypeId} {mk : Value → Value} {T k : Nat} {els : List (List Value)} [hb : HasB P f] (hxs : xs.map (ev e) = vs.map some) (hf : ∀ w, WOK κ.S κ.w0 L w → NewRow P f vs w mk T k els) (hd : Nat.blt d κ.N = true)
    (h : ∀ A cap, G κ ((d, mk (.slice A els.length cap)) :: e) (.row A els.length cap T k els :: L) X) :
    G κ e L (owp κ.ρ P ⟨some d, .call { callee := .value (.func f), args := xs.toArray, argTypes := ts }, ty, s, af, gd⟩ Q X) :=
  g_call hxs hd (fun _ _ => True) fun w hw => (hf w hw).mono fun u w' ⟨A, cap, hu, hs, hup, hle⟩ => by
    subst hu
    exact ⟨trivial, _, hw.cons hup _ hs hle, h A cap⟩
/-- a call of a function's value that changes nothing -/
theorem g_purev {f : FuncId} {x : Operand} {xs : List Operand} {vs : List Value} {ts : Array TypeId} {v : Value} [hb : HasB P f] (hx : ev e x = some (.func (.func f) #[] #[])) (hxs : xs.map (ev e) = vs.map some) (hf : ∀ w, WOK κ.S κ.w0 L w → Pur P f vs w v) (hd : Nat.blt d κ.N = true) (h : G κ ((d, v) :: e) L X) :
    G κ e L (owp κ.ρ P ⟨some d, .call { callee := .value x, args := xs.toArray, argTypes := ts }, ty, s, af, gd⟩ Q X) :=
  g_callv (fst := []) (cap := []) hx hxs hd (fun _ _ => True) fun w hw => by
    rw [List.nil_append, List.append_nil]
    exact (hf w hw).mono fun u w' ⟨hu, hup⟩ => by
      subst hu
      exact ⟨trivial, L, hw.more hup, h⟩
end Go.Eg
