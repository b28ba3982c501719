/- A range over a function: yield in the iterator, the statement in the caller. No program in sight. -/
import Derived.Test.YtgbghjnlicldnaaY
import Derived.RangeFuncLeaves
import Derived.RangeFuncSeq
namespace Go.Eg
open Go.RowKit
set_option linter.unusedVariables false
set_option linter.unusedSimpArgs false
def Res.obj (b : Nat) (o : Obj) : Res where
  fp := [b]
  sat w := w.heap[b]? = some o
  loc w w' h hs := by rw [h b (by simp)]; exact hs
  lt w hs k hk := by simp at hk; subst hk; exact lt_of_get hs
/-- what a round promises: it goes on; the caller's state (one resource) after what has come -/
def YOK {α : Type} (P : Program) (l : Nat) (enc : α → Value) (B : List α → Res → Prop) (all : List α) : Prop :=
  ∀ (pre : List α) (x : α) (r : Res) (w : World), pre ++ [x] <+: all → B pre r → WOK (fps [r]) w [r] w →
    YieldAt (FR none) 0 P l #[enc x] w fun en w' => en = .returned (.bool true) ∧ ∃ r', B (pre ++ [x]) r' ∧ WOK (fps [r]) w [r'] w'
/-- the iterator's contract -/
def SeqOwn {α : Type} (P : Program) (gf : FuncId) (fst cap : List Value) (S0 : List Nat) (w00 w : World) (Lin : List Res) (enc : α → Value) (all : List α) (Lout : List Res) : Prop :=
  ∀ (l : Nat) (B : List α → Res → Prop) (r : Res), YOK P l enc B all → B [] r → WOK S0 w00 (Lin ++ [r]) w → WOK (fps (Lin ++ [r])) w (Lin ++ [r]) w →
    Ret P gf (fst ++ [.func (.yield l) #[] #[]] ++ cap) w fun _ w' => ∃ r', B all r' ∧ WOK (fps (Lin ++ [r])) w (Lout ++ [r']) w'
section
variable {P : Program} {κ : Cx} {e : Env} {L : List Res} {X : Act → World → Prop} {Q : Exit → Act → World → Prop} {d : Tmp} {ty : TypeId} {s : String} {af : Array Edge} {gd : Option (Nat × Bool)}
theorem g_yield {α : Type} {l : Nat} {enc : α → Value} {B : List α → Res → Prop} {all pre : List α} {x0 : Operand} {xs : List Operand} {ts : Array TypeId} {a : α} {r : Res} (hY : YOK P l enc B all) (hpre : pre ++ [a] <+: all) (hB : B pre r)
    (hx : ev e x0 = some (.func (.yield l) #[] #[])) (hxs : evL e xs = some [enc a]) [hs : Sub L [r]] (hd : Nat.blt d κ.N = true) (h : ∀ r', B (pre ++ [a]) r' → ∃ L', Swap L [r] [r'] L' ∧ G κ ((d, .bool true) :: e) L' X) :
    G κ e L (owp κ.ρ P ⟨some d, .call { callee := .value x0, args := xs.toArray, argTypes := ts }, ty, s, af, gd⟩ Q X) := fun ac w hst => by
  obtain ⟨fn, tmps, assign, body, hy, hR⟩ := hY pre a r w hpre hB (hst.wok.own' hs)
  have he : (execOp ac.eval ⟨some d, .call { callee := .value x0, args := xs.toArray, argTypes := ts }, ty, s, af, gd⟩).run P w = .ok (.round l fn tmps assign body) w := by
    have hm := map_ev hst.env xs [enc a] (evL_map hxs)
    have hx' := hst.env.ev hx
    simp [execOp, resolve, Deferred.ofValue, invoke, hm, hx', hy]
  refine ⟨fun _ _ => trivial, ?_⟩
  show Oper.uponIn (FR κ.ρ) 0 P _ ac X Q ((Oper.semAt κ.ρ ac.eval _).run P w)
  rw [sem_value he (by intro d hd; cases hd)]
  have hR' : RoundIn (FR κ.ρ) 0 P l fn tmps assign body w _ := hR
  refine ⟨fun hd => by simp [FR] at hd, RoundIn.mono hR' ?_⟩
  rintro en w' ⟨rfl, r', hB', hw'⟩
  obtain ⟨L', hL, hg⟩ := h r' hB'
  exact hg _ _ (st_next hst hd _ (hst.wok.swap [] hL (by simpa using hw')))

/-! ### a round -/
def RoundQ (X : World → Prop) : Exit → Act → World → Prop
  | .normal, _, w => X w
  | _, _, _ => False
def AsgQ (κ : Cx) (e : Env) (L : List Res) : Exit → Act → World → Prop
  | .normal, a, w => St κ e L a w
  | _, _, _ => False
theorem g_asg {e' : Env} {L' : List Res} (he : subE e' e) (hL : ∀ w, WOK κ.S κ.w0 L w → WOK κ.S κ.w0 L' w) : G κ e L (AsgQ κ e' L' .normal) := fun _ _ hs => hs.sub he hL
theorem g_round {X : World → Prop} (h : ∀ w, WOK κ.S κ.w0 L w → X w) : G κ e L (RoundQ X .normal) := fun _ w hs => h w hs.wok
theorem Upd.putObj {w : World} (l : Nat) (o : Obj) : Upd [l] w (w.putObj l o) :=
  ⟨rfl, rfl, rfl, by simp, fun k _ hn => World.putObj_heap_other (fun e => hn (by simp [e]))⟩
theorem wok_fresh {S : List Nat} {w0 w : World} {L : List Res} (h : WOK S w0 L w) : WOK (fps L) w L w :=
  WOK.of (Upd.refl _ _) h.allsat h.pw fun r hr b hb => .inr (mem_fps'.2 ⟨r, hr, hb⟩)
/-- another block, beside these -/
theorem WOK.past {S : List Nat} {w0 w w' : World} {L : List Res} {l : Nat} (h : WOK S w0 L w) (hl : ∀ r ∈ L, l ∉ r.fp) (hS : w0.heap.size ≤ l ∨ l ∈ S) (hu : Upd [l] w w') : WOK S w0 L w' :=
  WOK.of (h.upd.trans hu (by simpa using hS)) (fun r hr => r.loc w _ (fun b hb => hu.block b (r.lt w (h.allsat r hr) b hb) (by simp; intro hc; subst hc; exact hl r hr hb)) (h.allsat r hr)) h.pw h.allfr
theorem yok_of {α ι : Type} {l m : Nat} {fn : FuncId} {tmps : Array Value} {t : Tmp} {assign body : Code} {enc : α → Value} {all : List α} {N : Nat} {e : Env} (htm : tmps.size = N) (ht : Nat.blt t N = true) (hev : EnvOK e { tmps := tmps, defers := [] }) (R : ι → List Res) (p : List α → ι → Prop) (e1 : α → Env)
    (hA : ∀ pre x y w0, pre ++ [x] <+: all → p pre y → G ⟨fps (R y), w0, N, [], some l⟩ ((t, enc x) :: e) (R y) (assign.wpIn (FR (some l)) 0 P (AsgQ ⟨fps (R y), w0, N, [], some l⟩ (e1 x) (R y))))
    (hB : ∀ pre x y w0, pre ++ [x] <+: all → p pre y → G ⟨fps (R y), w0, N, [], some l⟩ (e1 x) (R y) (body.wpIn (FR (some l)) 0 P (RoundQ fun w => ∃ y', p (pre ++ [x]) y' ∧ WOK (fps (R y)) w0 (R y') w))) :
    YOK P l enc (fun pre r => ∃ y, p pre y ∧ r = .star (.obj l (.loop { state := .ready, pending := none, fn := fn, tmps := tmps, params := #[t], assign := assign, body := body, defers := m }) :: .obj m (.deferred (some [])) :: R y)) all := by
  rintro pre x r w hpre ⟨y, hp, rfl⟩ hw
  have hop : WOK (fps [Res.star (.obj l (.loop { state := .ready, pending := none, fn := fn, tmps := tmps, params := #[t], assign := assign, body := body, defers := m }) :: .obj m (.deferred (some [])) :: R y)]) w
      (.obj l (.loop { state := .ready, pending := none, fn := fn, tmps := tmps, params := #[t], assign := assign, body := body, defers := m }) :: .obj m (.deferred (some [])) :: R y) w := by
    have := hw.opened; simpa using this
  have hl : w.heap[l]? = some (.loop { state := .ready, pending := none, fn := fn, tmps := tmps, params := #[t], assign := assign, body := body, defers := m }) := hop.allsat (.obj l _) (by simp)
  have hpw := hop.pw
  rw [List.pairwise_cons, List.pairwise_cons] at hpw
  obtain ⟨hd1, hd2, hd3⟩ := hpw
  have hlR : ∀ r ∈ R y, l ∉ r.fp := fun r hr hc => hd1 r (by simp [hr]) l (by simp [Res.obj]) hc
  have hmR : ∀ r ∈ R y, m ∉ r.fp := fun r hr hc => hd2 r hr m (by simp [Res.obj]) hc
  have hlm : l ≠ m := fun hc => hd1 (.obj m (.deferred (some []))) (by simp) l (by simp [Res.obj]) (by simp [Res.obj, hc])
  have hm : w.heap[m]? = some (.deferred (some [])) := hop.allsat (.obj m _) (by simp)
  have hwR : WOK (fps (R y)) w (R y) w := WOK.of (Upd.refl _ _) (fun r hr => hop.allsat r (by simp [hr])) hd3 fun r hr b hb => .inr (mem_fps'.2 ⟨r, hr, hb⟩)
  have hll : l < w.heap.size := lt_of_get hl
  have hml : m < w.heap.size := lt_of_get hm
  refine ⟨fn, tmps.setIfInBounds t (enc x), assign, body, ?_, ?_⟩
  · rw [run_yield hl (by simp)]; simp
  · refine roundIn_of_wpIn (F := FR none) trivial ?_
    have hEnv : EnvOK ((t, enc x) :: e) { tmps := tmps.setIfInBounds t (enc x), defers := [] } := by
      have := hev.put (d := t) (by rw [htm]; simpa using ht) (enc x)
      exact this
    have hSt : St ⟨fps (R y), w, N, [], some l⟩ ((t, enc x) :: e) (R y) { tmps := tmps.setIfInBounds t (enc x), defers := [] } w := ⟨rfl, by simpa using htm, hEnv, hwR⟩
    refine Go.wpIn_mono (hA pre x y w hpre hp _ _ hSt) fun ex a w1 hq => ?_
    cases ex with
    | normal =>
      have hq : St ⟨fps (R y), w, N, [], some l⟩ (e1 x) (R y) a w1 := hq
      have hl1 : w1.heap[l]? = some (.loop { state := .ready, pending := none, fn := fn, tmps := tmps, params := #[t], assign := assign, body := body, defers := m }) :=
        (hq.wok.upd.block l hll (fun hc => by obtain ⟨r, hr, hb⟩ := mem_fps'.1 hc; exact hlR r hr hb)).trans hl
      refine ⟨_, run_beginRound hl1 rfl, ?_⟩
      have hu1 : Upd [l] w1 (w1.putObj l (.loop { state := .busy, pending := none, fn := fn, tmps := tmps, params := #[t], assign := assign, body := body, defers := m })) := Upd.putObj l _
      have hw1 : WOK (l :: fps (R y)) w (R y) (w1.putObj l (.loop { state := .busy, pending := none, fn := fn, tmps := tmps, params := #[t], assign := assign, body := body, defers := m })) :=
        (WOK.of (hq.wok.upd.mono fun x hx => by simp [hx]) hq.wok.allsat hq.wok.pw fun r hr b hb => by rcases hq.wok.allfr r hr b hb with h | h; exact .inl h; exact .inr (by simp [h]) : WOK (l :: fps (R y)) w (R y) w1).past hlR (.inr (by simp)) hu1
      have hfresh := wok_fresh hw1
      refine Go.wpIn_mono (hB pre x y (w1.putObj l (.loop { state := .busy, pending := none, fn := fn, tmps := tmps, params := #[t], assign := assign, body := body, defers := m })) hpre hp a _ ⟨hq.defers, hq.size, hq.env, hfresh⟩) fun ex a2 w3 hq2 => ?_
      cases ex with
      | normal =>
        obtain ⟨y', hp', hw3⟩ := hq2
        have hl2 : (w1.putObj l (.loop { state := .busy, pending := none, fn := fn, tmps := tmps, params := #[t], assign := assign, body := body, defers := m })).heap[l]? = some (.loop { state := .busy, pending := none, fn := fn, tmps := tmps, params := #[t], assign := assign, body := body, defers := m }) := World.putObj_heap_same (lt_of_get hl1)
        have hnl : l ∉ fps (R y) := fun hc => by obtain ⟨r, hr, hb⟩ := mem_fps'.1 hc; exact hlR r hr hb
        have hnm : m ∉ fps (R y) := fun hc => by obtain ⟨r, hr, hb⟩ := mem_fps'.1 hc; exact hmR r hr hb
        have hl3 := (hw3.upd.block l (lt_of_get hl2) hnl).trans hl2
        refine ⟨_, _, run_endRound none hl3, rfl, ?_⟩
        refine ⟨_, ⟨y', hp', rfl⟩, ?_⟩
        have hs1 : w.heap.size ≤ w1.heap.size := hq.wok.upd.size
        have hs2 : w1.heap.size ≤ (w1.putObj l (.loop { state := .busy, pending := none, fn := fn, tmps := tmps, params := #[t], assign := assign, body := body, defers := m })).heap.size := hu1.size
        have hnew : ∀ r ∈ R y', ∀ b ∈ r.fp, (w.heap.size ≤ b ∨ b ∈ fps (R y)) := fun r hr b hb => by
          rcases hw3.allfr r hr b hb with h | h
          · exact .inl (by omega)
          · exact .inr h
        have hlR' : ∀ r ∈ R y', l ∉ r.fp := fun r hr hc => by
          rcases hnew r hr l hc with h | h
          · omega
          · exact hnl h
        have hmR' : ∀ r ∈ R y', m ∉ r.fp := fun r hr hc => by
          rcases hnew r hr m hc with h | h
          · omega
          · exact hnm h
        have hu2 := Upd.putObj (w := w3) l (.loop { state := .ready, pending := none, fn := fn, tmps := tmps, params := #[t], assign := assign, body := body, defers := m })
        have hm3 : w3.heap[m]? = some (.deferred (some [])) := by
          rw [hw3.upd.block m (by omega) hnm, hu1.block m (by omega) (by simp; exact fun hc => hlm hc.symm), hq.wok.upd.block m hml hnm]; exact hm
        have hT : ∀ x ∈ fps (R y), x ∈ l :: m :: fps (R y) := fun x hx => by simp [hx]
        have hU : Upd (l :: m :: fps (R y)) w (w3.putObj l (.loop { state := .ready, pending := none, fn := fn, tmps := tmps, params := #[t], assign := assign, body := body, defers := m })) :=
          (((hq.wok.upd.mono hT).trans hu1 (fun x hx => .inr (by simp at hx; simp [hx]))).trans hw3.upd (fun x hx => .inr (hT x hx))).trans hu2 (fun x hx => .inr (by simp at hx; simp [hx]))
        have hfp : fps [Res.star (.obj l (.loop { state := .ready, pending := none, fn := fn, tmps := tmps, params := #[t], assign := assign, body := body, defers := m }) :: .obj m (.deferred (some [])) :: R y)] = l :: m :: fps (R y) := by
          rw [fps_star]; simp [fps, Res.obj]
        rw [hfp]
        refine WOK.closed (L := []) ?_
        rw [List.append_nil]
        refine WOK.of hU (fun r hr => ?_) ?_ (fun r hr b hb => ?_)
        · rcases List.mem_cons.1 hr with rfl | hr
          · exact World.putObj_heap_same (lt_of_get hl3)
          · rcases List.mem_cons.1 hr with rfl | hr
            · exact (hu2.block m (lt_of_get hm3) (by simp; exact fun hc => hlm hc.symm)).trans hm3
            · exact r.loc w3 _ (fun b hb => hu2.block b (r.lt w3 (hw3.allsat r hr) b hb) (by simp; exact fun hc => hlR' r hr (hc ▸ hb))) (hw3.allsat r hr)
        · rw [List.pairwise_cons, List.pairwise_cons]
          refine ⟨fun r hr b hb hc => ?_, fun r hr b hb hc => ?_, hw3.pw⟩
          · simp [Res.obj] at hb; subst hb
            rcases List.mem_cons.1 hr with rfl | hr
            · simp [Res.obj] at hc; exact hlm hc
            · exact hlR' r hr hc
          · simp [Res.obj] at hb; subst hb
            exact hmR' r hr hc
        · rcases List.mem_cons.1 hr with rfl | hr
          · simp [Res.obj] at hb; subst hb; exact .inr (by simp)
          · rcases List.mem_cons.1 hr with rfl | hr
            · simp [Res.obj] at hb; subst hb; exact .inr (by simp)
            · rcases hnew r hr b hb with h | h
              · exact .inl h
              · exact .inr (hT b h)
      | _ => exact hq2.elim
    | _ => exact hq.elim
/-- the mark of the block for the rounds' deferred calls -/
def markD (m : Nat) : Deferred := { target := .collected m, args := #[] }
/-- for x := range g { .. }, where no round leaves the loop -/
theorem g_rangeFunc {α ι : Type} {S : List Nat} {w0 : World} {N : Nat} {g : Operand} {t : Tmp} {assign body : Code} {gf : FuncId} {fst cap : List Value} {enc : α → Value} {all : List α} [hb : HasB P gf]
    (hx : ev e g = some (.func (.func gf) fst.toArray cap.toArray)) (ht : Nat.blt t N = true) (Lin Lout rest : List Res) (R : ι → List Res) (p : List α → ι → Prop) (y0 : ι) (h0 : p [] y0)
    (hL : ∀ w, WOK S w0 L w → WOK S w0 (Lin ++ (R y0 ++ rest)) w) (hSeq : ∀ w, WOK S w0 L w → SeqOwn P gf fst cap S w0 w Lin enc all Lout) (e1 : α → Env)
    (hA : ∀ (l : Nat) (pre : List α) (x : α) (y : ι) (w1 : World), pre ++ [x] <+: all → p pre y → G ⟨fps (R y), w1, N, [], some l⟩ ((t, enc x) :: e) (R y) (assign.wpIn (FR (some l)) 0 P (AsgQ ⟨fps (R y), w1, N, [], some l⟩ (e1 x) (R y))))
    (hB : ∀ (l : Nat) (pre : List α) (x : α) (y : ι) (w1 : World), pre ++ [x] <+: all → p pre y → G ⟨fps (R y), w1, N, [], some l⟩ (e1 x) (R y) (body.wpIn (FR (some l)) 0 P (RoundQ fun w => ∃ y', p (pre ++ [x]) y' ∧ WOK (fps (R y)) w1 (R y') w)))
    (next : ∀ y, p all y → ∀ m, G ⟨S, w0, N, [markD m], none⟩ e (Res.obj m (.deferred (some [])) :: (Lout ++ (R y ++ rest))) (Q .normal)) :
    G ⟨S, w0, N, [], none⟩ e L ((Code.rangeFunc g #[t] assign body).wpIn (FR none) 0 P Q) := fun a w hs => by
  have hg := hs.env.ev hx
  refine wpIn_rangeFunc (F := FR none) fun fn _ => ?_
  obtain ⟨w1, hw1⟩ : ∃ w1, w1 = (w.alloc (.deferred (some []))).alloc (.loop { state := .ready, pending := none, fn := fn, tmps := a.tmps, params := #[t], assign := assign, body := body, defers := w.heap.size }) := ⟨_, rfl⟩
  have hwL := hL w hs.wok
  have hd : (Res.obj w.heap.size (.deferred (some []))).sat (w.alloc (.deferred (some []))) := World.alloc_heap_new w _
  have hl : (Res.obj (w.heap.size + 1) (.loop { state := .ready, pending := none, fn := fn, tmps := a.tmps, params := #[t], assign := assign, body := body, defers := w.heap.size })).sat w1 := by
    rw [hw1]; have := World.alloc_heap_new (w.alloc (.deferred (some []))) (.loop { state := .ready, pending := none, fn := fn, tmps := a.tmps, params := #[t], assign := assign, body := body, defers := w.heap.size })
    simpa [Res.obj] using this
  have hok1 := hwL.cons (Upd.alloc w _) (.obj w.heap.size (.deferred (some []))) hd (by simp [Res.obj])
  have hok2 := hok1.cons (Upd.alloc _ (.loop { state := .ready, pending := none, fn := fn, tmps := a.tmps, params := #[t], assign := assign, body := body, defers := w.heap.size })) (.obj (w.heap.size + 1) (.loop { state := .ready, pending := none, fn := fn, tmps := a.tmps, params := #[t], assign := assign, body := body, defers := w.heap.size })) (by rw [← hw1]; exact hl) (by simp [Res.obj])
  rw [← hw1] at hok2
  have hS1 : WOK S w0 L w1 := by rw [hw1]; exact (hs.wok.more (Upd.alloc w _)).more (Upd.alloc _ _)
  have hstar : WOK S w0 ((Lin ++ [Res.star (.obj (w.heap.size + 1) (.loop { state := .ready, pending := none, fn := fn, tmps := a.tmps, params := #[t], assign := assign, body := body, defers := w.heap.size }) :: .obj w.heap.size (.deferred (some [])) :: R y0)]) ++ rest) w1 := by
    have h1 : WOK S w0 ((.obj (w.heap.size + 1) (.loop { state := .ready, pending := none, fn := fn, tmps := a.tmps, params := #[t], assign := assign, body := body, defers := w.heap.size }) :: .obj w.heap.size (.deferred (some [])) :: R y0) ++ (Lin ++ rest)) w1 := hok2.perm (by
      show (Res.obj _ _ :: Res.obj _ _ :: (Lin ++ (R y0 ++ rest))).Perm (Res.obj _ _ :: Res.obj _ _ :: (R y0 ++ (Lin ++ rest)))
      exact ((List.perm_append_comm_assoc Lin (R y0) rest).cons _).cons _)
    refine h1.closed.perm ?_
    rw [List.append_assoc]
    exact List.perm_middle.symm
  have hY : YOK P (w.heap.size + 1) enc (fun pre r => ∃ y, p pre y ∧ r = .star (.obj (w.heap.size + 1) (.loop { state := .ready, pending := none, fn := fn, tmps := a.tmps, params := #[t], assign := assign, body := body, defers := w.heap.size }) :: .obj w.heap.size (.deferred (some [])) :: R y)) all :=
    yok_of (m := w.heap.size) (fn := fn) hs.size ht (fun k v hk => hs.env k v hk) R p e1 (hA _) (hB _)
  have hcall := hSeq w1 hS1 (w.heap.size + 1) _ (.star (.obj (w.heap.size + 1) (.loop { state := .ready, pending := none, fn := fn, tmps := a.tmps, params := #[t], assign := assign, body := body, defers := w.heap.size }) :: .obj w.heap.size (.deferred (some [])) :: R y0)) hY ⟨y0, h0, rfl⟩ hstar.left hstar.own
  refine ⟨w.heap.size + 1, [markD w.heap.size], w1, { target := .fn (.func gf) cap.toArray, args := (fst ++ [Value.func (.yield (w.heap.size + 1)) #[] #[]]).toArray }, w1, gf, (fst ++ [Value.func (.yield (w.heap.size + 1)) #[] #[]] ++ cap).toArray, w1, ?_, ?_, fun _ _ => trivial, ?_, fun hd => by simp [FR] at hd, ?_⟩
  · rw [hw1]; exact run_enterLoop_outer fn a.tmps #[t] assign body
  · simp only [resolve, rangeCall, hg]
    simp [Deferred.ofValue, Act.eval]
  · simp [invoke, callFunc_run hb.has]
  · refine calls_in (Calls.mono hcall ?_)
    rintro en w2 ⟨v, rfl, r', ⟨y, hpy, rfl⟩, hw2⟩
    have h3 : WOK S w0 ((.obj (w.heap.size + 1) (.loop { state := .ready, pending := none, fn := fn, tmps := a.tmps, params := #[t], assign := assign, body := body, defers := w.heap.size }) :: .obj w.heap.size (.deferred (some [])) :: R y) ++ (Lout ++ rest)) w2 := by
      refine WOK.opened ((hstar.join hw2).perm ?_)
      rw [List.append_assoc]
      exact List.perm_middle
    have hl2 : w2.heap[w.heap.size + 1]? = some (.loop { state := .ready, pending := none, fn := fn, tmps := a.tmps, params := #[t], assign := assign, body := body, defers := w.heap.size }) := h3.allsat (.obj (w.heap.size + 1) (.loop { state := .ready, pending := none, fn := fn, tmps := a.tmps, params := #[t], assign := assign, body := body, defers := w.heap.size })) (by simp)
    refine ⟨none, _, run_endLoop hl2 (by simp), ?_⟩
    have h4 : WOK S w0 (Res.obj w.heap.size (.deferred (some [])) :: (Lout ++ (R y ++ rest))) w2 := by
      have h5 : WOK S w0 (Res.obj w.heap.size (.deferred (some [])) :: (R y ++ (Lout ++ rest))) w2 := wok_tail (fun _ h => h) w2 h3
      exact h5.perm ((List.perm_append_comm_assoc (R y) Lout rest).cons _)
    have hpw := h3.pw
    have hnot : ∀ r ∈ (Res.obj w.heap.size (.deferred (some [])) :: (Lout ++ (R y ++ rest))), w.heap.size + 1 ∉ r.fp := fun r hr hc => by
      have h6 := (List.pairwise_cons.1 hpw).1 r (by
        rcases List.mem_cons.1 hr with rfl | hr
        · simp
        · simp only [List.mem_append] at hr
          rcases hr with hr | hr | hr <;> simp [hr])
      exact h6 (w.heap.size + 1) (by simp [Res.obj]) hc
    have h7 := h4.past hnot (.inl (Nat.le_succ_of_le hs.wok.upd.size)) (Upd.putObj (w.heap.size + 1) (.loop { state := .exhausted, pending := none, fn := fn, tmps := a.tmps, params := #[t], assign := assign, body := body, defers := w.heap.size }))
    exact next y hpy w.heap.size { a with defers := [markD w.heap.size] ++ a.defers } _ ⟨by show [markD _] ++ a.defers = _; rw [hs.defers]; rfl, hs.size, fun k v hk => hs.env k v hk, h7⟩
end
/-! ### a function that holds such a loop: its begin and its end -/
section
variable {P : Program}
theorem enterM {f : FuncId} {fn : Func} {c : Code} {args : List Value} {w : World} {R : Value → World → Prop} (hf : P.funcs[f]? = some fn) (hb : fn.body = some c) (n : Nat) (hn : fn.ntmps = n) (hle : args.length ≤ n)
    (e : Env) (he : ∀ k v, look e k = some v → (args ++ List.replicate (n - args.length) undef)[k]? = some v) (S : List Nat) (L : List Res) (hL : WOK S w L w)
    (h : G ⟨S, w, n, [], none⟩ e L (c.wpIn (FR none) 0 P (bodyPostM (FR none) 0 P fn fun en w' => ∃ v, en = .returned v ∧ R v w'))) : Ret P f args w R := by
  subst hn
  refine callsIn_wide.1 (callsIn_of_wp_marks (F := Fence.wide) (n := 0) hf hb trivial (h _ _ ⟨rfl, ?_, fun k v hk => ?_, hL⟩))
  · simp; omega
  · have := he k v hk
    have e : args.toArray ++ Array.replicate (fn.ntmps - args.toArray.size) undef = (args ++ List.replicate (fn.ntmps - args.length) undef).toArray := by simp
    show (args.toArray ++ Array.replicate (fn.ntmps - args.toArray.size) undef)[k]? = some v
    rw [e]; simpa using this
theorem g_startM {f : FuncId} {fn : Func} {c : Code} {args : List Value} {w : World} {R : Value → World → Prop} (hf : P.funcs[f]? = some fn) (hb : fn.body = some c) (n : Nat) (hn : fn.ntmps = n) (hle : args.length ≤ n)
    (S : List Nat) (L : List Res) (hL : WOK S w L w) (ea : Env) (hea : argEnv args = ea)
    (h : G ⟨S, w, n, [], none⟩ ea L (c.wpIn (FR none) 0 P (bodyPostM (FR none) 0 P fn fun en w' => ∃ v, en = .returned v ∧ R v w'))) : Ret P f args w R := by
  subst hea
  exact enterM hf hb n hn hle _ (fun k v hk => by simpa using (envArgs args 0 k v _ hk).2) S L hL h
/-- a list without one of its resources -/
class DropR (L : List Res) (r : Res) (L' : outParam (List Res)) : Prop where
  p : L.Perm (r :: L')
instance DropR.tail {L L' : List Res} {r s : Res} [h : DropR L r L'] : DropR (s :: L) r (s :: L') := ⟨(h.p.cons s).trans (.swap _ _ _)⟩
instance DropR.head {L : List Res} {r : Res} : DropR (r :: L) r L := ⟨.refl _⟩
class EndD (P : Program) (κ : Cx) (L : List Res) (L' : outParam (List Res)) : Prop where
  go : ∀ (w : World) (fn : Func) (tmps : Array Value) (R : Ending → World → Prop), WOK κ.S κ.w0 L w → (∀ w', WOK κ.S κ.w0 L' w' → LeavesInM (FR none) 0 P fn tmps R [] .returning w') → LeavesInM (FR none) 0 P fn tmps R κ.D .returning w
instance EndD.none {S : List Nat} {w0 : World} {N : Nat} {ρ : Option Nat} {L : List Res} : EndD P ⟨S, w0, N, [], ρ⟩ L L := ⟨fun w _ _ _ hw h => h w hw⟩
instance EndD.mark {S : List Nat} {w0 : World} {N : Nat} {ρ : Option Nat} {L L' : List Res} {m : Nat} [hs : DropR L (Res.obj m (.deferred (some []))) L'] : EndD P ⟨S, w0, N, [markD m], ρ⟩ L L' := ⟨fun w fn tmps R hw h => by
  have h3 := hw.perm hs.p
  have hm : w.heap[m]? = some (.deferred (some [])) := h3.allsat (.obj m (.deferred (some []))) (by simp)
  have h4 : WOK S w0 L' w := wok_tail (fun _ h => h) w h3
  refine ⟨by simp, .inl ⟨m, _, rfl, run_takeDeferred hm, h _ ?_⟩⟩
  refine h4.past (fun r hr hc => ?_) (h3.allfr (.obj m (.deferred (some []))) (by simp) m (by simp [Res.obj])) (Upd.putObj m _)
  have h5 := (List.pairwise_cons.1 h3.pw).1 r hr
  exact h5 m (by simp [Res.obj]) hc⟩
variable {κ : Cx} {e : Env} {L L' : List Res} {fn : Func} {R : Value → World → Prop}
def PostM (P : Program) (fn : Func) (R : Value → World → Prop) : Exit → Act → World → Prop := bodyPostM (FR none) 0 P fn fun en w' => ∃ v, en = .returned v ∧ R v w'
theorem finM_of [hE : EndD P κ L L'] {vs : List Value} {v : Value} (hv : (if h : vs.toArray.size = 1 then vs.toArray[0] else .tuple vs.toArray) = v) (h1 : ∀ a w, EnvOK e a → WOK κ.S κ.w0 L' w → (fn.results.mapM (rv a.tmps)).run P w = .ok vs.toArray w) (hR : ∀ w, WOK κ.S κ.w0 L' w → R v w) :
    ∀ ex, ex = .ret ∨ ex = .normal → G κ e L (PostM P fn R ex) := fun ex hex a w hs => by
  have hr : LeavesInM (FR none) 0 P fn a.tmps (fun en w' => ∃ v, en = .returned v ∧ R v w') a.defers .returning w := by
    rw [hs.defers]
    refine hE.go w fn a.tmps _ hs.wok fun w' hw' => ?_
    have h2 : (results fn a.tmps).run P w' = .ok v w' := by
      rw [results_rv, Sem.run_bind, h1 a w' hs.env hw', ← hv]; rfl
    exact ⟨_, h2, _, rfl, hR w' hw'⟩
  rcases hex with rfl | rfl <;> exact hr
theorem finM0 [EndD P κ L L'] (h : fn.results = #[]) (hR : ∀ w, WOK κ.S κ.w0 L' w → R (.tuple #[]) w) : ∀ ex, ex = .ret ∨ ex = .normal → G κ e L (PostM P fn R ex) :=
  finM_of (vs := []) rfl (fun a w _ _ => by simp [h]) hR
theorem finM1 [EndD P κ L L'] {r : ResultVar} {v : Value} (h : fn.results = #[r]) (h1 : ResOK P κ e L' r v) (hR : ∀ w, WOK κ.S κ.w0 L' w → R v w) : ∀ ex, ex = .ret ∨ ex = .normal → G κ e L (PostM P fn R ex) :=
  finM_of (vs := [v]) rfl (fun a w he hw => by simp [h, resRun he hw h1]) hR
theorem finM2 [EndD P κ L L'] {r r' : ResultVar} {v v' : Value} (h : fn.results = #[r, r']) (h1 : ResOK P κ e L' r v) (h2 : ResOK P κ e L' r' v') (hR : ∀ w, WOK κ.S κ.w0 L' w → R (.tuple [v, v'].toArray) w) : ∀ ex, ex = .ret ∨ ex = .normal → G κ e L (PostM P fn R ex) :=
  finM_of (vs := [v, v']) rfl (fun a w he hw => by simp [h, resRun he hw h1, resRun he hw h2]) hR
end
end Go.Eg
