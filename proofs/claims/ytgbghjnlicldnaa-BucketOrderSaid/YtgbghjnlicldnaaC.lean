/- The rules for operations that make or write memory, for calls, results, and regions that draw their order. No program in sight. -/
import Derived.Test.YtgbghjnlicldnaaB
namespace Go.Eg
open Go.RowKit

section
variable {P : Program} {κ : Cx} {e : Env} {L : List Res} {X : Act → World → Prop} {Q : Exit → Act → World → Prop} {d : Tmp} {ty : TypeId} {s : String} {af : Array Edge} {gd : Option (Nat × Bool)}

theorem st_next {a : Act} {w w' : World} {L' : List Res} (h : St κ e L a w) (hd : Nat.blt d κ.N = true) (v : Value) (hw : WOK κ.S κ.w0 L' w') : St κ ((d, v) :: e) L' (a.put (some d) v) w' := by
  have := h.put (show d < κ.N by simpa using hd) v
  exact ⟨this.defers, this.size, this.env, hw⟩

/-- an operation that is carried out at once, whatever it does to memory -/
theorem G.loud {op : Op} (hd : Nat.blt d κ.N = true) (h : ∀ a w, St κ e L a w → ∃ v w' L', (execOp a.eval ⟨some d, op, ty, s, af, gd⟩).run P w = .ok (.value v) w' ∧ WOK κ.S κ.w0 L' w' ∧ G κ ((d, v) :: e) L' X) :
    G κ e L (owp κ.ρ P ⟨some d, op, ty, s, af, gd⟩ Q X) := fun a w hs => by
  obtain ⟨v, w', L', hr, hw, hg⟩ := h a w hs
  exact in_value hr (hg _ _ (st_next hs hd v hw))
theorem newVar_run (T : TypeId) (v : Value) (w : World) : (newVar T v).run P w = .ok ⟨w.heap.size, 0, none⟩ (w.alloc (.cells v.cells T)) := by
  rfl
theorem blk_new (w : World) (T : TypeId) (c : List Value) : (Res.blk w.heap.size T c).sat (w.alloc (.cells c.toArray T)) := heap_alloc_new w _
theorem g_alloc {T : TypeId} {c : List Value} [hz : Zr P T c] (hd : Nat.blt d κ.N = true) (h : ∀ b, G κ ((d, .pointer (some ⟨b, 0, none⟩)) :: e) (.blk b T c :: L) X) : G κ e L (owp κ.ρ P ⟨some d, .alloc T, ty, s, af, gd⟩ Q X) :=
  G.loud hd fun a w hs => by
    obtain ⟨v, hv, hc⟩ := hz.run w
    refine ⟨.pointer (some ⟨w.heap.size, 0, none⟩), w.alloc (.cells c.toArray T), .blk w.heap.size T c :: L, ?_, hs.wok.cons (Upd.alloc w _) _ (blk_new w T c) (by simp [Res.blk]), h _⟩
    simp [execOp, Instr.alloc, hv, newVar_run, hc]
theorem g_box {T : TypeId} {x : Operand} {v : Value} {c : List Value} (hx : ev e x = some v) (hc : v.cells = c.toArray) (hd : Nat.blt d κ.N = true) (h : ∀ b, G κ ((d, .pointer (some ⟨b, 0, none⟩)) :: e) (.blk b T c :: L) X) : G κ e L (owp κ.ρ P ⟨some d, .box T x, ty, s, af, gd⟩ Q X) :=
  G.loud hd fun a w hs => by
    refine ⟨.pointer (some ⟨w.heap.size, 0, none⟩), w.alloc (.cells c.toArray T), .blk w.heap.size T c :: L, ?_, hs.wok.cons (Upd.alloc w _) _ (blk_new w T c) (by simp [Res.blk]), h _⟩
    simp [execOp, Instr.box, hs.env.ev hx, newVar_run, hc]

/-! ### stores -/
/-- cells cs written into c from off on -/
def splice (c : List Value) (off : Nat) : List Value → List Value
  | [] => c
  | v :: vs => splice (c.set off v) (off + 1) vs
theorem splice_length (off : Nat) (vs : List Value) : ∀ c : List Value, (splice c off vs).length = c.length := by
  induction vs generalizing off with
  | nil => intro c; rfl
  | cons v vs ih => intro c; simp [splice, ih]
theorem run_storeCells_blk {b T : Nat} (vs : List Value) : ∀ (c : List Value) (off i : Nat) (w : World), (∀ v ∈ vs, v.oneCell' = true) → off + i + vs.length ≤ c.length → (Res.blk b T c).sat w →
    ∃ w', (storeCells ⟨b, off, none⟩ vs i).run P w = .ok () w' ∧ Upd [b] w w' ∧ (Res.blk b T (splice c (off + i) vs)).sat w' := by
  induction vs with
  | nil => intro c off i w _ _ hs; exact ⟨w, rfl, Upd.refl _ _, hs⟩
  | cons v vs ih =>
    intro c off i w h1 hle hs
    simp only [List.length_cons] at hle
    have hcell : w.cell? ⟨b, off + i, none⟩ = some (c[off + i]'(by omega)) := blk_cell hs (List.getElem?_eq_getElem _)
    have hfr : w.frozen? ⟨b, off + i, none⟩ = false := frozen_of_row w b (off + i) _ T hs
    have hst : (store ⟨b, off + i, none⟩ v).run P w = .ok () (w.setCell ⟨b, off + i, none⟩ v) := by
      rw [run_store P w _ v .plain (h1 v (by simp))]
      simp [hcell, hfr]
    have hs' : (Res.blk b T (c.set (off + i) v)).sat (w.setCell ⟨b, off + i, none⟩ v) := by
      have := heap_setCell_same w b (off + i) c.toArray T v hs
      simpa [Res.blk] using this
    obtain ⟨w', hr, hu, hs2⟩ := ih (c.set (off + i) v) off (i + 1) _ (fun u hu => h1 u (by simp [hu])) (by simp; omega) hs'
    refine ⟨w', ?_, (Upd.setCell w ⟨b, off + i, none⟩ v).trans hu (by simp), hs2⟩
    simp only [storeCells, add_none, Sem.run_bind, hst, Result.andThen_ok]
    exact hr
theorem set_lookup {i : Nat} {r : Res} (h : L[i]? = some r) : i < L.length := by
  rcases Nat.lt_or_ge i L.length with hl | hl
  · exact hl
  · rw [List.getElem?_eq_none hl] at h; cases h
/-- a store into a block of our own -/
theorem g_store {T n b T' off : Nat} {x y : Operand} {v : Value} {c vs c' : List Value} {L' : List Res} {g : Bool} [ht : Ty P T g n] (hx : ev e x = some (.pointer (some ⟨b, off, none⟩))) (hy : ev e y = some v)
    (hv : v.cells = vs.toArray) (hn : vs.length = n) (h1 : vs.all Value.oneCell' = true) [_hi : InL L b T' c] (hle : Nat.ble (off + n) c.length = true) (hc : splice c off vs = c') [hL : UpL L b T' c c' L']
    (h : G κ e L' X) : G κ e L (owp κ.ρ P ⟨none, .store T x y, ty, s, af, gd⟩ Q X) := fun a w hs => by
  obtain ⟨i, hi', rfl⟩ := hL.at_
  subst hc; subst hn
  have hle' : off + vs.length ≤ c.length := by simpa using hle
  obtain ⟨w', hr, hu, hs'⟩ := run_storeCells_blk (P := P) (T := T') vs c off 0 w (List.all_eq_true.1 h1) (by omega) (hs.wok.sat i _ hi')
  have hw := hs.wok.change hi' (.blk b T' (splice c off vs)) hu (by simpa using hs') (by simp [Res.blk])
  have he : (execOp a.eval ⟨none, .store T x y, ty, s, af, gd⟩).run P w = .ok .skip w' := by
    simp [execOp, hs.env.ev hx, hs.env.ev hy, Instr.storeAt, Instr.sureAddr, storeVar, ht.size w, hv, hr]
  exact in_skip he (h _ _ ⟨hs.defers, hs.size, hs.env, hw⟩)

theorem splice_app : ∀ (vs p c : List Value), c.length = vs.length → splice (p ++ c) p.length vs = p ++ vs
  | [], p, c, h => by have : c = [] := List.eq_nil_of_length_eq_zero h; subst this; rfl
  | v :: vs, p, c, h => by
    cases c with
    | nil => simp at h
    | cons u c =>
      simp only [splice]
      have e1 : (p ++ u :: c).set p.length v = (p ++ [v]) ++ c := by simp
      have := splice_app vs (p ++ [v]) c (by simpa using h)
      rw [e1]
      simpa using this
theorem splice_all {vs c : List Value} (h : c.length = vs.length) : splice c 0 vs = vs := by simpa using splice_app vs [] c h
/-- a store over a whole block -/
theorem g_storew {T n b T' : Nat} {x y : Operand} {vs c : List Value} {L' : List Res} [ht : Ty P T true n] (hx : ev e x = some (.pointer (some ⟨b, 0, none⟩))) (hy : ev e y = some (.agg vs.toArray))
    (hn : Nat.beq vs.length n = true) (h1 : vs.all Value.oneCell' = true) [_hi : InL L b T' c] (hle : Nat.beq c.length n = true) [hL : UpL L b T' c vs L']
    (h : G κ e L' X) : G κ e L (owp κ.ρ P ⟨none, .store T x y, ty, s, af, gd⟩ Q X) := by
  have h1' : vs.length = n := by simpa using hn
  have h2' : c.length = n := by simpa using hle
  exact g_store hx hy rfl h1' h1 (by simp [h2']) (splice_all (by omega)) h

/-! ### calls -/
/-- What a call hands back: a value and a world of which R holds; nothing else. -/
def Ret (P : Program) (f : FuncId) (args : List Value) (w : World) (R : Value → World → Prop) : Prop := Calls P f args.toArray w fun e w' => ∃ v, e = .returned v ∧ R v w'
theorem Ret.mono {f : FuncId} {args : List Value} {w : World} {R R' : Value → World → Prop} (h : Ret P f args w R) (hr : ∀ v w', R v w' → R' v w') : Ret P f args w R' :=
  Calls.mono h fun _ _ ⟨v, he, hR⟩ => ⟨v, he, hr v _ hR⟩
def hasBody (P : Program) (f : FuncId) : Bool := match P.funcs[f]? with | some fn => fn.body.isSome && !(fn.name == "runtime.NumGoroutine") | none => false
class HasB (P : Program) (f : FuncId) : Prop where
  has : hasBody P f = true
theorem callFunc_run {f : FuncId} (hb : hasBody P f = true) (args : Array Value) (w : World) : (callFunc f args).run P w = .ok (.enter f args) w := by
  unfold hasBody at hb
  cases hf : P.funcs[f]? with
  | none => simp [hf] at hb
  | some fn =>
    simp only [hf, Bool.and_eq_true, Bool.not_eq_true'] at hb
    obtain ⟨h1, h2⟩ := hb
    have h3 : ¬ fn.body = none := by intro hx; simp [hx] at h1
    have h4 : ¬ fn.name = "runtime.NumGoroutine" := by simpa using h2
    simp [callFunc, Sem.run_bind, hf, h4, h3]
theorem map_ev {a : Act} (he : EnvOK e a) : ∀ (xs : List Operand) (vs : List Value), xs.map (ev e) = vs.map some → xs.map a.eval = vs
  | [], [], _ => rfl
  | [], _ :: _, h => by simp at h
  | _ :: _, [], h => by simp at h
  | x :: xs, v :: vs, h => by
    simp at h
    simp [he.ev h.1, map_ev he xs vs h.2]
/-- a call of a function that is named -/
theorem g_call {f : FuncId} {xs : List Operand} {vs : List Value} {ts : Array TypeId} [hb : HasB P f] (hxs : xs.map (ev e) = vs.map some) (hd : Nat.blt d κ.N = true)
    (R : Value → World → Prop) (hf : ∀ w, WOK κ.S κ.w0 L w → Ret P f vs w (fun v w' => R v w' ∧ ∃ L', WOK κ.S κ.w0 L' w' ∧ G κ ((d, v) :: e) L' X)) : G κ e L (owp κ.ρ P ⟨some d, .call { callee := .value (.func f), args := xs.toArray, argTypes := ts }, ty, s, af, gd⟩ Q X) := fun a w hs => by
  have he : (execOp a.eval ⟨some d, .call { callee := .value (.func f), args := xs.toArray, argTypes := ts }, ty, s, af, gd⟩).run P w = .ok (.enter f vs.toArray) w := by
    have hm := map_ev hs.env xs vs hxs
    simp [execOp, resolve, Deferred.ofValue, invoke, Act.eval, hm, callFunc_run hb.has]
  refine in_enter he (Calls.mono (hf w hs.wok) ?_)
  rintro en w' ⟨v, rfl, _, L', hw, hg⟩
  exact ⟨v, rfl, hg _ _ (st_next hs hd v hw)⟩
/-- a call of a function value -/
theorem g_callv {f : FuncId} {x : Operand} {xs : List Operand} {vs fst cap : List Value} {ts : Array TypeId} [hb : HasB P f] (hx : ev e x = some (.func (.func f) fst.toArray cap.toArray)) (hxs : xs.map (ev e) = vs.map some) (hd : Nat.blt d κ.N = true)
    (R : Value → World → Prop) (hf : ∀ w, WOK κ.S κ.w0 L w → Ret P f (fst ++ vs ++ cap) w (fun v w' => R v w' ∧ ∃ L', WOK κ.S κ.w0 L' w' ∧ G κ ((d, v) :: e) L' X)) : G κ e L (owp κ.ρ P ⟨some d, .call { callee := .value x, args := xs.toArray, argTypes := ts }, ty, s, af, gd⟩ Q X) := fun a w hs => by
  have he : (execOp a.eval ⟨some d, .call { callee := .value x, args := xs.toArray, argTypes := ts }, ty, s, af, gd⟩).run P w = .ok (.enter f (fst ++ vs ++ cap).toArray) w := by
    have hm := map_ev hs.env xs vs hxs
    have hx' := hs.env.ev hx
    simp [execOp, resolve, Deferred.ofValue, invoke, hm, hx', callFunc_run hb.has]
  refine in_enter he (Calls.mono (hf w hs.wok) ?_)
  rintro en w' ⟨v, rfl, _, L', hw, hg⟩
  exact ⟨v, rfl, hg _ _ (st_next hs hd v hw)⟩

/-- THE PLAIN CONTRACT: the call leaves what was there alone and hands back what R says. -/
def Pur (P : Program) (f : FuncId) (args : List Value) (w : World) (v : Value) : Prop := Ret P f args w fun u w' => u = v ∧ Upd [] w w'
theorem g_pure {f : FuncId} {xs : List Operand} {vs : List Value} {ts : Array TypeId} {v : Value} [hb : HasB P f] (hxs : xs.map (ev e) = vs.map some) (hf : ∀ w, WOK κ.S κ.w0 L w → Pur P f vs w v) (hd : Nat.blt d κ.N = true) (h : G κ ((d, v) :: e) L X) :
    G κ e L (owp κ.ρ P ⟨some d, .call { callee := .value (.func f), args := xs.toArray, argTypes := ts }, ty, s, af, gd⟩ Q X) :=
  g_call hxs hd (fun _ _ => True) fun w hw => (hf w hw).mono fun u w' ⟨hu, hup⟩ => by
    subst hu
    exact ⟨trivial, L, hw.more hup, h⟩

/-- A METHOD: block b is written, nothing else that was there. -/
def Meth (P : Program) (f : FuncId) (args : List Value) (w : World) (b T : Nat) (v : Value) (c' : List Value) : Prop := Ret P f args w fun u w' => u = v ∧ (Res.blk b T c').sat w' ∧ Upd [b] w w'
theorem g_meth {f : FuncId} {xs : List Operand} {vs : List Value} {ts : Array TypeId} {b T : Nat} {c c' : List Value} {v : Value} {L' : List Res} [hb : HasB P f] (hxs : xs.map (ev e) = vs.map some) (hf : ∀ w, (Res.blk b T c).sat w → Meth P f vs w b T v c') [_hi : InL L b T c] [hL : UpL L b T c c' L'] (hd : Nat.blt d κ.N = true) (h : G κ ((d, v) :: e) L' X) :
    G κ e L (owp κ.ρ P ⟨some d, .call { callee := .value (.func f), args := xs.toArray, argTypes := ts }, ty, s, af, gd⟩ Q X) :=
  g_call hxs hd (fun _ _ => True) fun w hw => by
    obtain ⟨i, hi, rfl⟩ := hL.at_
    refine (hf w (hw.sat i _ hi)).mono fun u w' ⟨hu, hs, hup⟩ => ?_
    subst hu
    exact ⟨trivial, _, hw.change hi _ hup hs (by simp [Res.blk]), h⟩
/-- several resources turned, each in its own blocks -/
theorem WOK.upd_all {S : List Nat} {w0 w w' : World} {L L' : List Res} (h : WOK S w0 L w) {Fs : List Nat} (hu : Upd Fs w w') (hF : ∀ x ∈ Fs, ∃ (i : Nat) (r : Res), L[i]? = some r ∧ x ∈ r.fp)
    (hs : ∀ (i : Nat) (r : Res), L'[i]? = some r → (L[i]? = some r ∧ ∀ b ∈ r.fp, b ∉ Fs) ∨ (r.sat w' ∧ ∃ r0, L[i]? = some r0 ∧ ∀ b ∈ r.fp, b ∈ r0.fp)) : WOK S w0 L' w' := by
  have get : ∀ (i : Nat) (r : Res), L'[i]? = some r → ∃ r0, L[i]? = some r0 ∧ ∀ b ∈ r.fp, b ∈ r0.fp := fun i r hi => by
    rcases hs i r hi with ⟨h1, _⟩ | ⟨_, r0, h1, h2⟩
    · exact ⟨r, h1, fun _ h => h⟩
    · exact ⟨r0, h1, h2⟩
  refine ⟨h.upd.trans hu (fun x hx => ?_), fun i r hi => ?_, fun i j r s hij hi hj b hb hc => ?_, fun i r hi b hb => ?_⟩
  · obtain ⟨i, r, hi, hr⟩ := hF x hx
    exact h.fr i r hi x hr
  · rcases hs i r hi with ⟨h1, h2⟩ | ⟨h1, _⟩
    · exact r.loc w _ (fun b hb => hu.block b (r.lt w (h.sat i r h1) b hb) (h2 b hb)) (h.sat i r h1)
    · exact h1
  · obtain ⟨r0, h1, h2⟩ := get i r hi
    obtain ⟨s0, h3, h4⟩ := get j s hj
    exact h.nd i j r0 s0 hij h1 h3 b (h2 b hb) (h4 b hc)
  · obtain ⟨r0, h1, h2⟩ := get i r hi
    exact h.fr i r0 h1 b (h2 b hb)
/-- two blocks are written -/
def Meth2 (P : Program) (f : FuncId) (args : List Value) (w : World) (b T b' T' : Nat) (v : Value) (c c' : List Value) : Prop := Ret P f args w fun u w' => u = v ∧ (Res.blk b T c).sat w' ∧ (Res.blk b' T' c').sat w' ∧ Upd [b, b'] w w'
theorem g_meth2 {f : FuncId} {xs : List Operand} {vs : List Value} {ts : Array TypeId} {b T b' T' : Nat} {c c' d1 d2 : List Value} {v : Value} {L1 L' : List Res} [hb : HasB P f] (hxs : xs.map (ev e) = vs.map some)
    (hf : ∀ w, (Res.blk b T c).sat w → (Res.blk b' T' c').sat w → b ≠ b' → Meth2 P f vs w b T b' T' v d1 d2) [_hi : InL L b T c] [_hi' : InL L b' T' c'] (hbb : ∀ w, WOK κ.S κ.w0 L w → b ≠ b') [hL : UpL L b T c d1 L1] [hL' : UpL L1 b' T' c' d2 L'] (hd : Nat.blt d κ.N = true) (h : G κ ((d, v) :: e) L' X) :
    G κ e L (owp κ.ρ P ⟨some d, .call { callee := .value (.func f), args := xs.toArray, argTypes := ts }, ty, s, af, gd⟩ Q X) :=
  g_call hxs hd (fun _ _ => True) fun w hw => by
    obtain ⟨i, hi, rfl⟩ := hL.at_
    obtain ⟨j, hj, rfl⟩ := hL'.at_
    have hne := hbb w hw
    have hlen : i < L.length := set_lookup hi
    have hij : i ≠ j := fun e => by
      subst e
      rw [List.getElem?_set_self hlen] at hj
      simp only [Option.some.injEq] at hj
      have : (Res.blk b T d1).fp = (Res.blk b' T' c').fp := by rw [hj]
      simp [Res.blk] at this
      exact hne this
    have hj0 : L[j]? = some (.blk b' T' c') := by rwa [List.getElem?_set_ne hij] at hj
    refine (hf w (hw.sat i _ hi) (hw.sat j _ hj0) hne).mono fun u w' ⟨hu, hs, hs', hup⟩ => ?_
    subst hu
    refine ⟨trivial, _, hw.upd_all hup (fun x hx => ?_) (fun k r hk => ?_), h⟩
    · simp at hx
      rcases hx with rfl | rfl
      · exact ⟨i, _, hi, by simp [Res.blk]⟩
      · exact ⟨j, _, hj0, by simp [Res.blk]⟩
    · by_cases hkj : j = k
      · subst hkj
        rw [List.getElem?_set_self (by simpa using set_lookup hj0)] at hk
        simp only [Option.some.injEq] at hk
        subst hk
        exact .inr ⟨hs', _, hj0, by simp [Res.blk]⟩
      · rw [List.getElem?_set_ne hkj] at hk
        by_cases hki : i = k
        · subst hki
          rw [List.getElem?_set_self hlen] at hk
          simp only [Option.some.injEq] at hk
          subst hk
          exact .inr ⟨hs, _, hi, by simp [Res.blk]⟩
        · rw [List.getElem?_set_ne hki] at hk
          refine .inl ⟨hk, fun x hx hm => ?_⟩
          simp at hm
          rcases hm with rfl | rfl
          · exact hw.nd k i _ _ (fun e => hki e.symm) hk hi x hx (by simp [Res.blk])
          · exact hw.nd k j _ _ (fun e => hkj e.symm) hk hj0 x hx (by simp [Res.blk])
theorem InL.ne {b b' T T' : Nat} {c c' : List Value} {S : List Nat} {w0 w : World} {L : List Res} [h : InL L b T c] [h' : InL L b' T' c'] (hT : Nat.beq T T' = false) (hw : WOK S w0 L w) : b ≠ b' := fun e => by
  subst e
  obtain ⟨i, hi⟩ := h.at_
  obtain ⟨j, hj⟩ := h'.at_
  have h1 : w.heap[b]? = some (.cells c.toArray T (0, 0)) := hw.sat i _ hi
  have h2 : w.heap[b]? = some (.cells c'.toArray T' (0, 0)) := hw.sat j _ hj
  rw [h1] at h2
  injection h2 with h2
  injection h2 with _ h3
  subst h3
  simp at hT
/-- a call that hands back a new block -/
def New (P : Program) (f : FuncId) (args : List Value) (w : World) (T : Nat) (c : List Value) : Prop := Ret P f args w fun u w' => ∃ b, u = .pointer (some ⟨b, 0, none⟩) ∧ (Res.blk b T c).sat w' ∧ Upd [] w w' ∧ w.heap.size ≤ b
theorem g_new {f : FuncId} {xs : List Operand} {vs : List Value} {ts : Array TypeId} {T : Nat} {c : List Value} [hb : HasB P f] (hxs : xs.map (ev e) = vs.map some) (hf : ∀ w, WOK κ.S κ.w0 L w → New P f vs w T c) (hd : Nat.blt d κ.N = true) (h : ∀ b, G κ ((d, .pointer (some ⟨b, 0, none⟩)) :: e) (.blk b T c :: L) X) :
    G κ e L (owp κ.ρ P ⟨some d, .call { callee := .value (.func f), args := xs.toArray, argTypes := ts }, ty, s, af, gd⟩ Q X) :=
  g_call hxs hd (fun _ _ => True) fun w hw => (hf w hw).mono fun u w' ⟨b, hu, hs, hup, hle⟩ => by
    subst hu
    exact ⟨trivial, _, hw.cons hup _ hs (by simpa [Res.blk] using hle), h b⟩
theorem WOK.start1 {b T : Nat} {c : List Value} {w : World} (h : (Res.blk b T c).sat w) : WOK [b] w [.blk b T c] w := by
  refine ⟨Upd.refl _ _, fun i r hi => ?_, fun i j r s hij hi hj => ?_, fun i r hi => ?_⟩
  · cases i <;> simp at hi; subst hi; exact h
  · cases i <;> cases j <;> simp at hi hj; exact absurd rfl hij
  · cases i <;> simp at hi; subst hi; intro k hk; right; simpa [Res.blk] using hk
/-- a block that has only been read -/
theorem Upd.same1 {b T : Nat} {c : List Value} {w w' : World} (hu : Upd [b] w w') (h : (Res.blk b T c).sat w) (h' : (Res.blk b T c).sat w') : Upd [] w w' :=
  ⟨hu.os, hu.tape, hu.output, hu.size, fun k hk _ => by
    by_cases hb : k = b
    · subst hb; exact Eq.trans h' (Eq.symm h)
    · exact hu.block k hk (by simpa using hb)⟩
theorem WOK.start2 {b b' T T' : Nat} {c c' : List Value} {w : World} (h : (Res.blk b T c).sat w) (h' : (Res.blk b' T' c').sat w) (hne : b ≠ b') : WOK [b, b'] w [.blk b T c, .blk b' T' c'] w := by
  refine ⟨Upd.refl _ _, fun i r hi => ?_, fun i j r s hij hi hj k hk hk' => ?_, fun i r hi => ?_⟩
  · match i, hi with
    | 0, hi => simp at hi; subst hi; exact h
    | 1, hi => simp at hi; subst hi; exact h'
    | n + 2, hi => simp at hi
  · match i, j, hi, hj with
    | 0, 0, _, _ => exact hij rfl
    | 1, 1, _, _ => exact hij rfl
    | 0, 1, hi, hj => simp at hi hj; subst hi; subst hj; simp [Res.blk] at hk hk'; omega
    | 1, 0, hi, hj => simp at hi hj; subst hi; subst hj; simp [Res.blk] at hk hk'; omega
    | n + 2, _, hi, _ => simp at hi
    | _, n + 2, _, hj => simp at hj
  · match i, hi with
    | 0, hi => simp at hi; subst hi; intro k hk; right; simp [Res.blk] at hk; simp [hk]
    | 1, hi => simp at hi; subst hi; intro k hk; right; simp [Res.blk] at hk; simp [hk]
    | n + 2, hi => simp at hi

/-! ### the body of a function, and its end -/
theorem enter {f : FuncId} {fn : Func} {c : Code} {args : List Value} {w : World} {R : Value → World → Prop} (hf : P.funcs[f]? = some fn) (hb : fn.body = some c) (n : Nat) (hn : fn.ntmps = n) (hle : args.length ≤ n)
    (e : Env) (he : ∀ k v, look e k = some v → (args ++ List.replicate (n - args.length) undef)[k]? = some v) (S : List Nat) (L : List Res) (hL : WOK S w L w)
    (h : G ⟨S, w, n, [], none⟩ e L (c.wpIn (FR none) 0 P (bodyPost P fn fun en w' => ∃ v, en = .returned v ∧ R v w'))) : Ret P f args w R := by
  subst hn
  refine callsIn_wide.1 (callsIn_of_wp (F := Fence.wide) (n := 0) hf hb trivial (h _ _ ⟨rfl, ?_, fun k v hk => ?_, hL⟩))
  · simp; omega
  · have := he k v hk
    have e : args.toArray ++ Array.replicate (fn.ntmps - args.toArray.size) undef = (args ++ List.replicate (fn.ntmps - args.length) undef).toArray := by simp
    show (args.toArray ++ Array.replicate (fn.ntmps - args.toArray.size) undef)[k]? = some v
    rw [e]; simpa using this
theorem envArgs : ∀ (vs : List Value) (i : Nat) (k : Nat) (v : Value) (rest : List Value), look ((vs.zipIdx i).map fun p => (p.2, p.1)) k = some v → i ≤ k ∧ (vs ++ rest)[k - i]? = some v
  | [], i, k, v, rest, h => by simp [look] at h
  | u :: vs, i, k, v, rest, h => by
    simp only [List.zipIdx_cons, List.map_cons, look] at h
    by_cases hk : i = k
    · subst hk; simp at h; subst h; simp
    · rw [if_neg hk] at h
      obtain ⟨h1, h2⟩ := envArgs vs (i + 1) k v rest h
      refine ⟨by omega, ?_⟩
      have e : k - i = (k - (i + 1)) + 1 := by omega
      rw [e]; simpa using h2
def argEnv (vs : List Value) : Env := (vs.zipIdx 0).map fun p => (p.2, p.1)
/-- enter, with just the arguments known -/
theorem g_start {f : FuncId} {fn : Func} {c : Code} {args : List Value} {w : World} {R : Value → World → Prop} (hf : P.funcs[f]? = some fn) (hb : fn.body = some c) (n : Nat) (hn : fn.ntmps = n) (hle : args.length ≤ n)
    (S : List Nat) (L : List Res) (hL : WOK S w L w) (ea : Env) (hea : argEnv args = ea)
    (h : G ⟨S, w, n, [], none⟩ ea L (c.wpIn (FR none) 0 P (bodyPost P fn fun en w' => ∃ v, en = .returned v ∧ R v w'))) : Ret P f args w R := by
  subst hea
  exact enter hf hb n hn hle _ (fun k v hk => by simpa using (envArgs args 0 k v _ hk).2) S L hL h
/-- no call waits for the function's end -/
class Dz (κ : Cx) : Prop where
  d : κ.D = []
instance {S : List Nat} {w0 : World} {N : Nat} {ρ : Option Nat} : Dz ⟨S, w0, N, [], ρ⟩ := ⟨rfl⟩
/-- results that lie in slots -/
inductive ResOK (P : Program) (κ : Cx) (e : Env) (L : List Res) : ResultVar → Value → Prop
  | tmp {t : Tmp} {v : Value} (h : look e t = some v) : ResOK P κ e L (.tmp t) v
  | cell1 {t : Tmp} {T n b T' off : Nat} {c : List Value} {v : Value} [ht : Ty P T false n] (h : look e t = some (.pointer (some ⟨b, off, none⟩))) [hi : InL L b T' c] (hv : c[off]? = some v) : ResOK P κ e L (.cell t T) v
  | cellw {t : Tmp} {T n b T' : Nat} {c : List Value} [ht : Ty P T true n] (h : look e t = some (.pointer (some ⟨b, 0, none⟩))) [hi : InL L b T' c] (hn : Nat.beq c.length n = true) : ResOK P κ e L (.cell t T) (.agg c.toArray)
def rv (tmps : Array Value) : ResultVar → Sem Value
  | .tmp t => pure (tmps.getD t undef)
  | .cell a t => do loadVar t (← asAddr (tmps.getD a undef))
theorem results_rv (fn : Func) (tmps : Array Value) : results fn tmps = (do let vs ← fn.results.mapM (rv tmps); pure (if h : vs.size = 1 then vs[0] else .tuple vs)) := rfl
theorem resRun {a : Act} {w : World} (he : EnvOK e a) (hw : WOK κ.S κ.w0 L w) {r : ResultVar} {v : Value} (h : ResOK P κ e L r v) : (rv a.tmps r).run P w = .ok v w := by
  have key : ∀ t u, look e t = some u → a.tmps.getD t undef = u := fun t u ht => by simp [Array.getD_eq_getD_getElem?, he t u ht]
  cases h with
  | tmp h => simp [rv, key _ _ h]
  | @cell1 _ _ _ _ _ _ _ _ ht h hi hv => simp only [rv, key _ _ h]; simp [asAddr, run_load1 (ht := ht) (blk_cell (hi.sat hw) hv)]
  | @cellw _ _ _ _ _ _ ht h hi hn =>
    simp only [rv, key _ _ h]
    simp [asAddr, run_loadN (p := ⟨_, 0, none⟩) (ht := ht) (by simpa using hn) (fun j v hv => by rw [add_none, Nat.zero_add]; exact blk_cell (hi.sat hw) hv)]
section
variable {fn : Func} {R : Value → World → Prop}
def Post (P : Program) (fn : Func) (R : Value → World → Prop) : Exit → Act → World → Prop := bodyPost P fn fun en w' => ∃ v, en = .returned v ∧ R v w'
theorem fin_of [hD : Dz κ] {vs : List Value} {v : Value} (hv : (if h : vs.toArray.size = 1 then vs.toArray[0] else .tuple vs.toArray) = v) (h1 : ∀ a w, St κ e L a w → (fn.results.mapM (rv a.tmps)).run P w = .ok vs.toArray w) (hR : ∀ w, WOK κ.S κ.w0 L w → R v w) :
    ∀ ex, ex = .ret ∨ ex = .normal → G κ e L (Post P fn R ex) := fun ex hex a w hs => by
  have hr : (results fn a.tmps).run P w = .ok v w := by
    rw [results_rv, Sem.run_bind, h1 a w hs, ← hv]
    rfl
  rcases hex with rfl | rfl <;> exact ⟨hs.defers.trans hD.d, _, hr, _, rfl, hR w hs.wok⟩
theorem fin0 [Dz κ] (h : fn.results = #[]) (hR : ∀ w, WOK κ.S κ.w0 L w → R (.tuple #[]) w) : ∀ ex, ex = .ret ∨ ex = .normal → G κ e L (Post P fn R ex) :=
  fin_of (vs := []) rfl (fun a w _ => by simp [h]) hR
theorem fin1 [Dz κ] {r : ResultVar} {v : Value} (h : fn.results = #[r]) (h1 : ResOK P κ e L r v) (hR : ∀ w, WOK κ.S κ.w0 L w → R v w) : ∀ ex, ex = .ret ∨ ex = .normal → G κ e L (Post P fn R ex) :=
  fin_of (vs := [v]) rfl (fun a w hs => by simp [h, resRun hs.env hs.wok h1]) hR
theorem fin2 [Dz κ] {r r' : ResultVar} {v v' : Value} (h : fn.results = #[r, r']) (h1 : ResOK P κ e L r v) (h2 : ResOK P κ e L r' v') (hR : ∀ w, WOK κ.S κ.w0 L w → R (.tuple [v, v'].toArray) w) : ∀ ex, ex = .ret ∨ ex = .normal → G κ e L (Post P fn R ex) :=
  fin_of (vs := [v, v']) rfl (fun a w hs => by simp [h, resRun hs.env hs.wok h1, resRun hs.env hs.wok h2]) hR
theorem fin3 [Dz κ] {r r' r'' : ResultVar} {v v' v'' : Value} (h : fn.results = #[r, r', r'']) (h1 : ResOK P κ e L r v) (h2 : ResOK P κ e L r' v') (h3 : ResOK P κ e L r'' v'') (hR : ∀ w, WOK κ.S κ.w0 L w → R (.tuple [v, v', v''].toArray) w) : ∀ ex, ex = .ret ∨ ex = .normal → G κ e L (Post P fn R ex) :=
  fin_of (vs := [v, v', v'']) rfl (fun a w hs => by simp [h, resRun hs.env hs.wok h1, resRun hs.env hs.wok h2, resRun hs.env hs.wok h3]) hR
end
end
end Go.Eg
