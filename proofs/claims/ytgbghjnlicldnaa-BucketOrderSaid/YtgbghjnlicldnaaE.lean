/- Regions that draw their order: whatever is done quietly may be done first. No program in sight. -/
import Derived.Test.YtgbghjnlicldnaaD
namespace Go.Eg
open Go.RowKit

section
variable {P : Program} {ops : Array Oper} {Q : Exit → Act → World → Prop} {md : Region.Mode} {C : World → Prop} {T : List Nat}
def onlyN (Q : Exit → Act → World → Prop) : Exit → Act → World → Prop
  | .normal, a, w => Q .normal a w
  | _, _, _ => False
theorem wp_monoQ {o : Oper} {a : Act} {w : World} {K : Act → World → Prop} {Q' : Exit → Act → World → Prop} (h : ∀ ex a w, Q' ex a w → Q ex a w) (hh : o.wpIn (FR none) 0 P a w K Q') : o.wpIn (FR none) 0 P a w K Q := by
  unfold Oper.wpIn at *
  refine ⟨hh.1, ?_⟩
  have hh := hh.2
  generalize (o.semAt (FR none).round a.eval).run P w = r at *
  cases r with
  | ok n w' =>
    cases n <;> simp only [Oper.uponIn] at hh ⊢ <;> first
      | exact hh
      | exact ⟨hh.1, CallsIn.mono hh.2 (fun e w'' he => by
          cases e with
          | returned v => exact he
          | panicked c => exact h _ _ _ he
          | outgrown => obtain ⟨a, w, hq⟩ := he; exact ⟨a, w, h _ _ _ hq⟩)⟩
      | exact ⟨hh.1, RoundIn.mono hh.2 (fun e w'' he => by
          cases e with
          | returned v => exact he
          | panicked c => exact h _ _ _ he
          | outgrown => obtain ⟨a, w, hq⟩ := he; exact ⟨a, w, h _ _ _ hq⟩)⟩
  | halt x w' =>
    cases x <;> simp only [Oper.uponIn] at hh ⊢
    exact h _ _ _ hh
theorem wpOp_monoQ {i : Nat} {a : Act} {w : World} {K : Act → World → Prop} {Q' : Exit → Act → World → Prop} (h : ∀ ex a w, Q' ex a w → Q ex a w) (hh : wpOpIn (FR none) 0 P ops Q' i K a w) : wpOpIn (FR none) 0 P ops Q i K a w := by
  unfold wpOpIn at *
  split
  · simpa [*] using hh
  · rename_i o ho
    simp only [ho] at hh
    split
    · rename_i hw
      simp only [hw, if_true] at hh
      exact wp_monoQ h hh
    · rename_i hw; simp only [hw] at hh; exact hh
/-- no operation of the tail has been carried out -/
def NoTail (T : List Nat) (listed : Array Bool) : Prop := ∀ t ∈ T, listed.getD t false = false
/-- Whatever order is picked from here on; till the tail begins the world is of the class. -/
def wpAnyC (P : Program) (ops : Array Oper) (T : List Nat) (C : World → Prop) (Q : Exit → Act → World → Prop) : Nat → Array Bool → Act → World → Prop
  | 0, listed, a, w => (NoTail T listed → C w) ∧ Region.ready .any ops listed = [] ∧ Q .normal a w
  | fuel + 1, listed, a, w => (NoTail T listed → C w) ∧ (Region.ready .any ops listed = [] → Q .normal a w) ∧
    ∀ i ∈ Region.ready .any ops listed, wpOpIn (FR none) 0 P ops (onlyN Q) i (wpAnyC P ops T C Q fuel (listed.setIfInBounds i true)) a w
theorem wpAny_of_C : ∀ (fuel : Nat) (listed : Array Bool) (a : Act) (w : World), wpAnyC P ops T C Q fuel listed a w → wpAnyIn (FR none) 0 P .any ops Q fuel listed a w
  | 0, _, _, _, h => ⟨h.2.1, h.2.2⟩
  | fuel + 1, _, _, _, h => ⟨h.2.1, fun i hi => wpOp_monoQ (fun ex a w hq => by cases ex <;> first | exact hq | exact hq.elim) (wpOpIn_mono (fun a w => wpAny_of_C fuel _ a w) (h.2.2 i hi))⟩
theorem wp_region_C {id : Nat} {a : Act} {w : World} (hm : P.follows .mixedOrders = true) (h : wpAnyC P ops T C Q ops.size (Array.replicate ops.size false) a w.drew) : (Code.region id ops true).wpIn (FR none) 0 P Q a w :=
  wpIn_region_any hm (wpAny_of_C _ _ _ _ h)
def YieldsC (P : Program) (ops : Array Oper) (C : World → Prop) (o : Oper) (v : Value) (a : Act) : Prop :=
  (Region.wanted o (yielded ops a.tmps) = true ∧ ∀ w, C w → (execOp a.eval o).run P w = .ok (.value v) w) ∨ (Region.wanted o (yielded ops a.tmps) = false ∧ v = undef)
theorem YieldsC.of_same {o : Oper} {v : Value} {a a' : Act} (hy : YieldsC P ops C o v a) (he : execOp a'.eval o = execOp a.eval o)
    (hw : Region.wanted o (yielded ops a'.tmps) = Region.wanted o (yielded ops a.tmps)) : YieldsC P ops C o v a' := by
  unfold YieldsC at *
  rw [he, hw]
  exact hy
theorem YieldsC.wpOp {i : Nat} {o : Oper} {v : Value} {a : Act} (hi : ops[i]? = some o) (hy : YieldsC P ops C o v a) {K : Act → World → Prop} {w : World} (hC : C w) (h : K (a.put o.dst v) w) : wpOpIn (FR none) 0 P ops Q i K a w := by
  unfold Go.wpOpIn
  simp only [hi]
  rcases hy with ⟨hw, hv⟩ | ⟨hw, rfl⟩
  · simp only [hw, if_true]; exact in_value (hv w hC) h
  · simp only [hw, Bool.false_eq_true, if_false]; exact ⟨fun _ _ => trivial, h⟩
theorem wpOp_putC {j : Nat} {oi oj : Oper} {v : Value} (hj : ops[j]? = some oj) (hap : oi.apart ops oj = true)
    (hsi : ∀ cs b, oi.op ≠ .select cs b) (hsj : ∀ cs b, oj.op ≠ .select cs b) {K : Act → World → Prop} {a : Act} {w : World}
    (hy : YieldsC P ops C oi v a) (h : wpOpIn (FR none) 0 P ops (onlyN Q) j K (a.put oi.dst v) w) :
    wpOpIn (FR none) 0 P ops (onlyN Q) j (fun a' w' => YieldsC P ops C oi v a' ∧ K (a'.put oi.dst v) w') a w := by
  obtain ⟨h1, h2, h3⟩ := Oper.apart_spec hap
  have keep : ∀ (a : Act), YieldsC P ops C oi v a → ∀ u, YieldsC P ops C oi v (a.put oj.dst u) := fun a hy u =>
    hy.of_same (execOp_put oi hsi a oj.dst u h3) (wanted_put oi a oj.dst u h3)
  have keepD : ∀ d, YieldsC P ops C oi v { a with defers := d :: a.defers } := fun d => hy.of_same rfl rfl
  unfold wpOpIn at *
  simp only [hj] at *
  rw [wanted_put oj a oi.dst v h1] at h
  split
  · rename_i hw
    simp only [hw, if_true] at h
    unfold Oper.wpIn at *
    refine ⟨fun _ _ => trivial, ?_⟩
    have h := h.2
    have e0 : ∀ ρ, oj.semAt (FR none).round ρ = execOp ρ oj := fun ρ => rfl
    rw [e0, execOp_put oj hsj a oi.dst v h1] at h
    rw [e0]
    generalize (execOp a.eval oj).run P w = r at *
    cases r with
    | ok n w' =>
      cases n <;> simp only [Oper.uponIn] at h ⊢
      case value u => exact ⟨keep a hy u, by rw [← Act.put_comm a v u h2]; exact h⟩
      case skip => exact ⟨keep a hy _, by rw [← Act.put_comm a v undef h2]; exact h⟩
      case enter f args =>
        refine ⟨h.1, CallsIn.mono h.2 fun e w'' he => ?_⟩
        cases e with
        | returned u => exact ⟨keep a hy u, by rw [← Act.put_comm a v u h2]; exact he⟩
        | panicked c => exact he
        | outgrown => exact he
      case round l f tmps assign body =>
        refine ⟨h.1, RoundIn.mono h.2 fun e w'' he => ?_⟩
        cases e with
        | returned u => exact ⟨keep a hy u, by rw [← Act.put_comm a v u h2]; exact he⟩
        | panicked c => exact he
        | outgrown => exact he
      case defer d =>
        refine ⟨(keepD d).of_same (execOp_put oi hsi _ oj.dst undef h3) (wanted_put oi _ oj.dst undef h3), ?_⟩
        rw [← Act.put_comm _ v undef h2]
        have e1 : ({ a with defers := d :: a.defers } : Act).put oi.dst v = { a.put oi.dst v with defers := d :: (a.put oi.dst v).defers } := by
          cases oi.dst <;> rfl
        rw [e1]; exact h
      case row row args =>
        exact ⟨h.1, RowsIn.mono h.2 fun u w'' he => ⟨keep a hy u, by rw [← Act.put_comm a v u h2]; exact he⟩⟩
    | halt x w' =>
      cases x <;> simp only [Oper.uponIn] at h ⊢
      exact h
  · rename_i hw
    simp only [hw] at h
    exact ⟨fun _ _ => trivial, keep a hy _, by rw [← Act.put_comm a v undef h2]; exact h.2⟩
theorem anyC_C : ∀ {fuel : Nat} {listed : Array Bool} {a : Act} {w : World}, wpAnyC P ops T C Q fuel listed a w → NoTail T listed → C w
  | 0, _, _, _, h, hn => h.1 hn
  | _ + 1, _, _, _, h, hn => h.1 hn
/-- An operation of the body that may come up now and that yields its value in every world of the class may be taken first. -/
theorem anyC_first {i : Nat} {oi : Oper} {v : Value} (hi : ops[i]? = some oi) (hsel : ∀ (j : Nat) (o : Oper) cs b, ops[j]? = some o → o.op ≠ .select cs b) (hiT : i ∉ T)
    (hT : ∀ t ∈ T, ∀ ot, ops[t]? = some ot → ∃ e ∈ ot.after, Region.binds .any e = true ∧ e.on = i) :
    ∀ (fuel : Nat) (listed : Array Bool) (a : Act) (w : World), NoTail T listed →
      (∀ j oj, ops[j]? = some oj → j ≠ i → listed.getD j true = false → (∀ e ∈ oj.after, Region.binds .any e = true → e.on ≠ i) → oi.apart ops oj = true) →
      i ∈ Region.ready .any ops listed → YieldsC P ops C oi v a → C w →
      wpAnyC P ops T C Q fuel (listed.setIfInBounds i true) (a.put oi.dst v) w → wpAnyC P ops T C Q (fuel + 1) listed a w := by
  intro fuel
  induction fuel with
  | zero =>
    intro listed a w _ _ hr hy hC H
    refine ⟨fun _ => hC, fun h => (by rw [h] at hr; cases hr), fun j hj => ?_⟩
    by_cases hji : j = i
    · subst hji; exact hy.wpOp hi hC H
    · have := ready_mono hj hji
      rw [H.2.1] at this
      cases this
  | succ fuel ih =>
    intro listed a w hnt hfree hr hy hC H
    refine ⟨fun _ => hC, fun h => (by rw [h] at hr; cases hr), fun j hj => ?_⟩
    by_cases hji : j = i
    · subst hji; exact hy.wpOp hi hC H
    · have h1 := H.2.2 j (ready_mono hj hji)
      obtain ⟨hjun, oj, hoj, hall⟩ := mem_ready.1 hj
      have hi0 : listed.getD i false = false := by
        have h0 := (mem_ready.1 hr).1
        rcases Nat.lt_or_ge i listed.size with h' | h'
        · simp [h'] at h0 ⊢; exact h0
        · simp [Array.getElem?_eq_none h'] at h0
      have hnot : ∀ e ∈ oj.after, Region.binds .any e = true → e.on ≠ i := fun e he hb heq => by
        have h1 := hall e he hb
        rw [heq, hi0] at h1
        cases h1
      have hjT : j ∉ T := fun hm => by
        obtain ⟨e, he, hb, heq⟩ := hT j hm oj hoj
        exact hnot e he hb heq
      have h2 := wpOp_putC hoj (hfree j oj hoj hji hjun hnot) (fun cs b => hsel i oi cs b hi) (fun cs b => hsel j oj cs b hoj) hy h1
      have hfree' : ∀ k ok, ops[k]? = some ok → k ≠ i → (listed.setIfInBounds j true).getD k true = false →
          (∀ e ∈ ok.after, Region.binds .any e = true → e.on ≠ i) → oi.apart ops ok = true := fun k ok hk hki hun hno => by
        refine hfree k ok hk hki ?_ hno
        by_cases hjk : j = k
        · subst hjk; exact hjun
        · rw [getD_set_ne true hjk] at hun; exact hun
      have hnt1 : NoTail T (listed.setIfInBounds j true) := fun t ht => by
        rw [getD_set_ne false (fun e => hjT (by rw [e]; exact ht))]; exact hnt t ht
      have hnt2 : NoTail T ((listed.setIfInBounds i true).setIfInBounds j true) := fun t ht => by
        rw [getD_set_ne false (fun e => hjT (by rw [e]; exact ht)), getD_set_ne false (fun e => hiT (by rw [e]; exact ht))]; exact hnt t ht
      refine wpOpIn_mono (fun a' w' h3 => ih (listed.setIfInBounds j true) a' w' hnt1 hfree' (ready_mono hr (Ne.symm hji)) h3.1 (anyC_C h3.2 hnt2) ?_) h2
      rw [Array.setIfInBounds_comm _ _ hji]
      exact h3.2
/-- The checks of 'anyC_first', reckoned. -/
def firstB (ops : Array Oper) (T : List Nat) (listed : Array Bool) (i : Nat) : Bool :=
  Region.noSelect ops && !T.contains i && T.all (fun t => !listed.getD t false) && T.all (fun t => (ops[t]?).all fun ot => ot.after.any fun e => Region.binds .any e && e.on == i) &&
    Region.free .any ops listed i && (Region.ready .any ops listed).contains i
theorem anyC_take {i : Nat} {oi : Oper} {v : Value} {fuel : Nat} {listed : Array Bool} {a : Act} {w : World} (hi : ops[i]? = some oi) (hb : firstB ops T listed i = true) (hy : YieldsC P ops C oi v a) (hC : C w)
    (h : wpAnyC P ops T C Q fuel (listed.setIfInBounds i true) (a.put oi.dst v) w) : wpAnyC P ops T C Q (fuel + 1) listed a w := by
  simp only [firstB, Bool.and_eq_true] at hb
  obtain ⟨⟨⟨⟨⟨h1, h2⟩, h3⟩, h4⟩, h5⟩, h6⟩ := hb
  refine anyC_first hi (Region.noSelect_spec h1) (by simpa using h2) (fun t ht ot hot => ?_) fuel listed a w (fun t ht => by simpa using List.all_eq_true.1 h3 t ht) (Region.free_spec hi h5) (by simpa using h6) hy hC h
  have := List.all_eq_true.1 h4 t ht
  rw [hot] at this
  simp only [Option.all_some, Array.any_eq_true] at this
  obtain ⟨k, hk, he⟩ := this
  simp only [Bool.and_eq_true, beq_iff_eq] at he
  exact ⟨_, Array.getElem_mem hk, he.1, he.2⟩
end

/-! ### The same over what is known of the state -/
section
variable {P : Program} {κ : Cx} {e : Env} {L : List Res} {ops : Array Oper} {Q : Exit → Act → World → Prop} {T : List Nat}
def Cls (κ : Cx) (L0 : List Res) : World → Prop := WOK κ.S κ.w0 L0
/-- the region begins: 'L0': the resources of which nothing is written before the tail -/
theorem d_region {id : Nat} {ops : Array Oper} (T : List Nat) (hm : P.follows .mixedOrders = true) {n : Nat} (hn : ops.size = n) {ls : Array Bool} (hl : Array.replicate n false = ls) (h : G κ e L (wpAnyC P ops T (Cls κ L) Q n ls)) :
    G κ e L ((Code.region id ops true).wpIn (FR none) 0 P Q) := fun a w hs => by
  subst hn; subst hl
  exact wp_region_C (C := Cls κ L) (T := T) hm (h a w.drew ⟨hs.defers, hs.size, hs.env, hs.wok.drew⟩)
/-- .. where some of the resources are written before the tail -/
theorem d_regionL {id : Nat} {ops : Array Oper} {L0 : List Res} (T : List Nat) (hm : P.follows .mixedOrders = true) {n : Nat} (hn : ops.size = n) {ls : Array Bool} (hl : Array.replicate n false = ls) (_hL : ∀ w, WOK κ.S κ.w0 L w → WOK κ.S κ.w0 L0 w) (h : G κ e L (wpAnyC P ops T (Cls κ L0) Q n ls)) :
    G κ e L ((Code.region id ops true).wpIn (FR none) 0 P Q) := fun a w hs => by
  subst hn; subst hl
  exact wp_region_C (C := Cls κ L0) (T := T) hm (h a w.drew ⟨hs.defers, hs.size, hs.env, hs.wok.drew⟩)
theorem anyC_mono {C C' : World → Prop} (hc : ∀ w, C' w → C w) : ∀ (fuel : Nat) (listed : Array Bool) (a : Act) (w : World), wpAnyC P ops T C' Q fuel listed a w → wpAnyC P ops T C Q fuel listed a w
  | 0, _, _, _, h => ⟨fun hn => hc _ (h.1 hn), h.2⟩
  | fuel + 1, _, _, _, h => ⟨fun hn => hc _ (h.1 hn), h.2.1, fun i hi => wpOpIn_mono (fun a w => anyC_mono hc fuel _ a w) (h.2.2 i hi)⟩
/-- from here on more is known to stay -/
theorem d_cls {L0 L1 : List Res} {fuel : Nat} {ls : Array Bool} (hL : ∀ w, WOK κ.S κ.w0 L1 w → WOK κ.S κ.w0 L0 w) (h : G κ e L (wpAnyC P ops T (Cls κ L1) Q fuel ls)) : G κ e L (wpAnyC P ops T (Cls κ L0) Q fuel ls) :=
  fun a w hs => anyC_mono hL fuel ls a w (h a w hs)
/-- a quiet operation taken first -/
theorem d_q {L0 : List Res} (i : Nat) {fuel : Nat} {ls ls' : Array Bool} {d : Nat} {op : Op} {t : TypeId} {s : String} {af : Array Edge} {v : Value} (hi : ops[i]? = some ⟨some d, op, t, s, af, none⟩) (hb : firstB ops T ls i = true)
    (hq : QRun P κ e L0 ⟨some d, op, t, s, af, none⟩ v) (hL : ∀ w, WOK κ.S κ.w0 L w → WOK κ.S κ.w0 L0 w) (hd : Nat.blt d κ.N = true) (hls : ls.setIfInBounds i true = ls') (h : G κ ((d, v) :: e) L (wpAnyC P ops T (Cls κ L0) Q fuel ls')) : G κ e L (wpAnyC P ops T (Cls κ L0) Q (fuel + 1) ls) := fun a w hs => by
  subst hls
  exact anyC_take hi hb (.inl ⟨rfl, fun w' hw' => hq a w' hs.env hw'⟩) (hL w hs.wok) (h _ _ (hs.put (by simpa using hd) v))
/-- .. under a guard that holds -/
theorem d_qg {L0 : List Res} (i : Nat) {fuel : Nat} {ls ls' : Array Bool} {d : Nat} {op : Op} {t : TypeId} {s : String} {af : Array Edge} {v : Value} {j : Nat} {b : Bool} {u : Tmp} (hi : ops[i]? = some ⟨some d, op, t, s, af, some (j, b)⟩) (hb : firstB ops T ls i = true)
    (hq : QRun P κ e L0 ⟨some d, op, t, s, af, some (j, b)⟩ v) (hj : (ops[j]?).bind (·.dst) = some u) (hu : look e u = some (.bool b)) (hL : ∀ w, WOK κ.S κ.w0 L w → WOK κ.S κ.w0 L0 w) (hd : Nat.blt d κ.N = true) (hls : ls.setIfInBounds i true = ls')
    (h : G κ ((d, v) :: e) L (wpAnyC P ops T (Cls κ L0) Q fuel ls')) : G κ e L (wpAnyC P ops T (Cls κ L0) Q (fuel + 1) ls) := fun a w hs => by
  subst hls
  obtain ⟨oj, hoj, hdj⟩ := Option.bind_eq_some_iff.1 hj
  exact anyC_take hi hb (.inl ⟨by rw [wanted_of rfl hoj hdj (hs.env u _ hu)]; simp, fun w' hw' => hq a w' hs.env hw'⟩) (hL w hs.wok) (h _ _ (hs.put (by simpa using hd) v))
/-- .. under a guard that does not hold -/
theorem d_gf {L0 : List Res} (i : Nat) {fuel : Nat} {ls ls' : Array Bool} {d : Nat} {op : Op} {t : TypeId} {s : String} {af : Array Edge} {j : Nat} {b c : Bool} {u : Tmp} (hi : ops[i]? = some ⟨some d, op, t, s, af, some (j, b)⟩) (hb : firstB ops T ls i = true)
    (hj : (ops[j]?).bind (·.dst) = some u) (hu : look e u = some (.bool c)) (hc : (c == b) = false) (hL : ∀ w, WOK κ.S κ.w0 L w → WOK κ.S κ.w0 L0 w) (hd : Nat.blt d κ.N = true) (hls : ls.setIfInBounds i true = ls')
    (h : G κ ((d, undef) :: e) L (wpAnyC P ops T (Cls κ L0) Q fuel ls')) : G κ e L (wpAnyC P ops T (Cls κ L0) Q (fuel + 1) ls) := fun a w hs => by
  subst hls
  obtain ⟨oj, hoj, hdj⟩ := Option.bind_eq_some_iff.1 hj
  exact anyC_take hi hb (.inr ⟨by rw [wanted_of rfl hoj hdj (hs.env u _ hu)]; exact hc, rfl⟩) (hL w hs.wok) (h _ _ (hs.put (by simpa using hd) undef))
/-- one operation alone may come up: carried out, whatever it does; the class is kept till the tail begins -/
theorem d_op {L0 : List Res} (i : Nat) {fuel : Nat} {ls ls' : Array Bool} {d : Option Nat} {op : Op} {t : TypeId} {s : String} {af : Array Edge} (hi : ops[i]? = some ⟨d, op, t, s, af, none⟩) (hr : Region.ready .any ops ls = [i]) (hls : ls.setIfInBounds i true = ls')
    (hL : ∀ w, WOK κ.S κ.w0 L w → WOK κ.S κ.w0 L0 w) (h : G κ e L (owp none P ⟨d, op, t, s, af, none⟩ (onlyN Q) (wpAnyC P ops T (Cls κ L0) Q fuel ls'))) : G κ e L (wpAnyC P ops T (Cls κ L0) Q (fuel + 1) ls) := fun a w hs => by
  subst hls
  refine ⟨fun _ => hL w hs.wok, fun h0 => (by rw [hr] at h0; cases h0), fun j hj => ?_⟩
  rw [hr] at hj
  simp at hj; subst hj
  unfold wpOpIn
  simp only [hi, Region.wanted, if_true]
  exact h a w hs
theorem d_opg {L0 : List Res} (i : Nat) {fuel : Nat} {ls ls' : Array Bool} {d : Option Nat} {op : Op} {t : TypeId} {s : String} {af : Array Edge} {j : Nat} {b : Bool} {u : Tmp} (hi : ops[i]? = some ⟨d, op, t, s, af, some (j, b)⟩) (hr : Region.ready .any ops ls = [i]) (hls : ls.setIfInBounds i true = ls')
    (hj : (ops[j]?).bind (·.dst) = some u) (hu : look e u = some (.bool b))
    (hL : ∀ w, WOK κ.S κ.w0 L w → WOK κ.S κ.w0 L0 w) (h : G κ e L (owp none P ⟨d, op, t, s, af, some (j, b)⟩ (onlyN Q) (wpAnyC P ops T (Cls κ L0) Q fuel ls'))) : G κ e L (wpAnyC P ops T (Cls κ L0) Q (fuel + 1) ls) := fun a w hs => by
  subst hls
  refine ⟨fun _ => hL w hs.wok, fun h0 => (by rw [hr] at h0; cases h0), fun k hk => ?_⟩
  rw [hr] at hk
  simp at hk; subst hk
  obtain ⟨oj, hoj, hdj⟩ := Option.bind_eq_some_iff.1 hj
  have hw : Region.wanted (⟨d, op, t, s, af, some (j, b)⟩ : Oper) (yielded ops a.tmps) = true := by rw [wanted_of rfl hoj hdj (hs.env u _ hu)]; simp
  unfold wpOpIn
  simp only [hi, hw, if_true]
  exact h a w hs
/-- once the tail has begun the class is asked no more -/
theorem d_tail {L0 : List Res} (i : Nat) {fuel : Nat} {ls ls' : Array Bool} {d : Option Nat} {op : Op} {t : TypeId} {s : String} {af : Array Edge} (hi : ops[i]? = some ⟨d, op, t, s, af, none⟩) (hr : Region.ready .any ops ls = [i]) (hls : ls.setIfInBounds i true = ls') (ht : T.any (fun t => ls.getD t false) = true)
    (h : G κ e L (owp none P ⟨d, op, t, s, af, none⟩ (onlyN Q) (wpAnyC P ops T (Cls κ L0) Q fuel ls'))) : G κ e L (wpAnyC P ops T (Cls κ L0) Q (fuel + 1) ls) := fun a w hs => by
  subst hls
  obtain ⟨t0, ht0, ht1⟩ := List.any_eq_true.1 ht
  refine ⟨fun hn => (by have := hn t0 ht0; rw [this] at ht1; cases ht1), fun h0 => (by rw [hr] at h0; cases h0), fun j hj => ?_⟩
  rw [hr] at hj
  simp at hj; subst hj
  unfold wpOpIn
  simp only [hi, Region.wanted, if_true]
  exact h a w hs
/-- two may come up: both orders -/
theorem d_two {L0 : List Res} (i j : Nat) {fuel : Nat} {ls ls1 ls2 : Array Bool} {d1 d2 : Option Nat} {op1 op2 : Op} {t1 t2 : TypeId} {s1 s2 : String} {af1 af2 : Array Edge} (hi : ops[i]? = some ⟨d1, op1, t1, s1, af1, none⟩) (hj : ops[j]? = some ⟨d2, op2, t2, s2, af2, none⟩)
    (hr : Region.ready .any ops ls = [i, j]) (hls1 : ls.setIfInBounds i true = ls1) (hls2 : ls.setIfInBounds j true = ls2) (hL : ∀ w, WOK κ.S κ.w0 L w → WOK κ.S κ.w0 L0 w)
    (h1 : G κ e L (owp none P ⟨d1, op1, t1, s1, af1, none⟩ (onlyN Q) (wpAnyC P ops T (Cls κ L0) Q fuel ls1))) (h2 : G κ e L (owp none P ⟨d2, op2, t2, s2, af2, none⟩ (onlyN Q) (wpAnyC P ops T (Cls κ L0) Q fuel ls2))) :
    G κ e L (wpAnyC P ops T (Cls κ L0) Q (fuel + 1) ls) := fun a w hs => by
  subst hls1; subst hls2
  refine ⟨fun _ => hL w hs.wok, fun h0 => (by rw [hr] at h0; cases h0), fun k hk => ?_⟩
  rw [hr] at hk
  simp at hk
  rcases hk with rfl | rfl
  · unfold wpOpIn; simp only [hi, Region.wanted, if_true]; exact h1 a w hs
  · unfold wpOpIn; simp only [hj, Region.wanted, if_true]; exact h2 a w hs
/-- the region's end -/
theorem d_end {L0 : List Res} {ls : Array Bool} (hr : Region.ready .any ops ls = []) (hL : (T.any (fun t => ls.getD t false) = true) ∨ ∀ w, WOK κ.S κ.w0 L w → WOK κ.S κ.w0 L0 w) (h : G κ e L (Q .normal)) : G κ e L (wpAnyC P ops T (Cls κ L0) Q 0 ls) := fun a w hs => by
  refine ⟨fun hn => ?_, hr, h a w hs⟩
  rcases hL with ht | hL
  · obtain ⟨t0, ht0, ht1⟩ := List.any_eq_true.1 ht
    have := hn t0 ht0; rw [this] at ht1; cases ht1
  · exact hL w hs.wok
end
end Go.Eg
