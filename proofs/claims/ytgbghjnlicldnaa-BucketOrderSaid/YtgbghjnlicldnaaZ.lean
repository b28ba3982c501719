/- Many rows held as one: open one, read one, close it. No program in sight. -/
import Derived.Test.YtgbghjnlicldnaaG
namespace Go.Eg
open Go.RowKit
set_option linter.unusedVariables false
set_option linter.unusedSimpArgs false
/-- a slice among many, with its elements -/
structure Bk (α : Type) where
  A : Option Addr
  cap : Nat
  els : List α
def Bk.v {α : Type} (k : Bk α) : Value := .slice k.A k.els.length k.cap
def Bk.res {α : Type} (T n : Nat) (c : α → List Value) (k : Bk α) : Res := .row k.A k.els.length k.cap T n (k.els.map c)
def bks {α : Type} (T n : Nat) (c : α → List Value) (bs : List (Bk α)) : Res := .star (bs.map (Bk.res T n c))
theorem erase_perm {α : Type} : ∀ (l : List α) (i : Nat) (h : i < l.length), (l[i] :: l.eraseIdx i).Perm l
  | [], i, h => absurd h (by simp)
  | a :: l, 0, _ => .refl _
  | a :: l, i + 1, h => by
    have hi : i < l.length := by simpa using h
    have ih := erase_perm l i hi
    show (l[i] :: a :: l.eraseIdx i).Perm (a :: l)
    exact (List.Perm.swap _ _ _).trans (ih.cons a)
theorem set_perm {α : Type} (x : α) : ∀ (l : List α) (i : Nat) (h : i < l.length), (l.set i x).Perm (x :: l.eraseIdx i)
  | [], i, h => absurd h (by simp)
  | a :: l, 0, _ => .refl _
  | a :: l, i + 1, h => by
    have ih := set_perm x l i (by simpa using h)
    show (a :: l.set i x).Perm (x :: a :: l.eraseIdx i)
    exact (ih.cons a).trans (List.Perm.swap _ _ _)
section
variable {κ : Cx} {e : Env} {L : List Res} {X : Act → World → Prop}
theorem WOK.starOpen {S : List Nat} {w0 w : World} {Ls rest L : List Res} {r : Res} (hp : Ls.Perm (r :: rest)) (h : WOK S w0 (.star Ls :: L) w) : WOK S w0 (r :: .star rest :: L) w := by
  have h1 : WOK S w0 ((r :: rest) ++ L) w := h.opened.perm (hp.append_right L)
  have h2 : WOK S w0 (rest ++ (r :: L)) w := h1.perm (by
    show (r :: (rest ++ L)).Perm (rest ++ (r :: L))
    exact List.perm_middle.symm)
  exact h2.closed.perm (.swap _ _ _)
theorem WOK.starClose {S : List Nat} {w0 w : World} {Ls rest L : List Res} {r : Res} (hp : (r :: rest).Perm Ls) (h : WOK S w0 (r :: .star rest :: L) w) : WOK S w0 (.star Ls :: L) w := by
  have h1 : WOK S w0 (rest ++ (r :: L)) w := (h.perm (.swap _ _ _)).opened
  have h2 : WOK S w0 ((r :: rest) ++ L) w := h1.perm List.perm_middle
  exact (h2.perm (hp.append_right L)).closed
theorem g_starOpen {Ls rest : List Res} {r : Res} {L' : List Res} (hp : Ls.Perm (r :: rest)) [hs : Swap L [.star Ls] [.star rest] L'] (h : G κ e (r :: L') X) : G κ e L X := fun a w hst => by
  obtain ⟨R, h1, h2⟩ := hs.ex
  refine h a w ⟨hst.defers, hst.size, hst.env, ?_⟩
  have h3 : WOK κ.S κ.w0 (r :: .star rest :: R) w := WOK.starOpen hp (hst.wok.perm h1)
  exact h3.perm ((h2.symm).cons r)
theorem g_starClose {Ls rest : List Res} {r : Res} {L1 L' : List Res} (hp : (r :: rest).Perm Ls) [hd : DropR L r L1] [hs : Swap L1 [.star rest] [.star Ls] L'] (h : G κ e L' X) : G κ e L X := fun a w hst => by
  obtain ⟨R, h1, h2⟩ := hs.ex
  refine h a w ⟨hst.defers, hst.size, hst.env, ?_⟩
  have h3 : WOK κ.S κ.w0 (r :: .star rest :: R) w := (hst.wok.perm hd.p).perm (h1.cons r)
  exact (WOK.starClose hp h3).perm h2.symm
variable {α : Type} {T n : Nat} {c : α → List Value} {bs : List (Bk α)}
theorem g_bkOpen (i : Nat) {A : Option Addr} {cap : Nat} {els : List α} {L' : List Res} (hk : bs[i]? = some ⟨A, cap, els⟩) [hs : Swap L [bks T n c bs] [bks T n c (bs.eraseIdx i)] L'] (h : G κ e (.row A els.length cap T n (els.map c) :: L') X) : G κ e L X := by
  obtain ⟨hi, hk⟩ := List.getElem?_eq_some_iff.1 hk
  refine g_starOpen (Ls := bs.map (Bk.res T n c)) (rest := (bs.eraseIdx i).map (Bk.res T n c)) (r := .row A els.length cap T n (els.map c)) (L' := L') ?_ (hs := hs) h
  have hp := (erase_perm bs i hi).symm.map (Bk.res T n c)
  rw [hk] at hp
  exact hp
theorem g_bkClose (i : Nat) (hi : i < bs.length) (A : Option Addr) (m cap : Nat) (els : List α) {L1 L' : List Res} (hm : m = els.length) [hd : DropR L (.row A m cap T n (els.map c)) L1] [hs : Swap L1 [bks T n c (bs.eraseIdx i)] [bks T n c (bs.set i ⟨A, cap, els⟩)] L'] (h : G κ e L' X) : G κ e L X := by
  subst hm
  refine g_starClose (Ls := (bs.set i ⟨A, cap, els⟩).map (Bk.res T n c)) (rest := (bs.eraseIdx i).map (Bk.res T n c)) (r := .row A els.length cap T n (els.map c)) (L1 := L1) (L' := L') ?_ (hd := hd) (hs := hs) h
  exact ((set_perm (⟨A, cap, els⟩ : Bk α) bs i hi).map (Bk.res T n c)).symm
theorem WOK.bkNil {S : List Nat} {w0 w : World} (T n : Nat) (c : α → List Value) (m : Nat) (h : WOK S w0 L w) : WOK S w0 (bks T n c (List.replicate m ⟨none, 0, []⟩) :: L) w := by
  have hall : ∀ r ∈ (List.replicate m (⟨none, 0, []⟩ : Bk α)).map (Bk.res T n c), r = Bk.res T n c ⟨none, 0, []⟩ := fun r hr => by
    obtain ⟨k, hk, rfl⟩ := List.mem_map.1 hr
    rw [List.eq_of_mem_replicate hk]
  refine h.cons (Upd.refl _ _) _ ⟨fun r hr => ?_, ?_⟩ (fun b hb => ?_)
  · rw [hall r hr]
    exact ⟨rfl, by simp, .inl ⟨rfl, rfl⟩⟩
  · refine List.pairwise_iff_getElem.2 fun i j hi hj _ b hb => ?_
    rw [hall _ (List.getElem_mem hi)] at hb
    simp [Bk.res, Res.row] at hb
  · obtain ⟨r, hr, hb⟩ := mem_fps'.1 (show b ∈ fps ((List.replicate m (⟨none, 0, []⟩ : Bk α)).map (Bk.res T n c)) from hb)
    rw [hall r hr] at hb
    simp [Bk.res, Res.row] at hb
theorem g_bkNil (T n : Nat) (c : α → List Value) (m : Nat) (h : G κ e (bks T n c (List.replicate m ⟨none, 0, []⟩) :: L) X) : G κ e L X := fun a w hs => h a w ⟨hs.defers, hs.size, hs.env, hs.wok.bkNil T n c m⟩
theorem bk_sat {S : List Nat} {w0 w : World} [hs : Sub L [bks T n c bs]] (hw : WOK S w0 L w) {i : Nat} {A : Option Addr} {cap : Nat} {els : List α} (hk : bs[i]? = some ⟨A, cap, els⟩) : (Res.row A els.length cap T n (els.map c)).sat w := by
  obtain ⟨rest, hp⟩ := hs.ex
  have h0 : (bks T n c bs).sat w := (hw.perm hp).allsat _ (by simp)
  exact h0.1 _ (List.mem_map.2 ⟨⟨A, cap, els⟩, List.mem_of_getElem? hk, rfl⟩)
theorem Rdb.bk (T : Nat) [hs : Sub L [bks T n c bs]] (hc : ∀ x, (c x).length = n) {i : Nat} {A : Option Addr} {cap : Nat} {els : List α} (hk : bs[i]? = some ⟨A, cap, els⟩) : Rdb κ L A els.length n (els.map c) :=
  ⟨by simp, map_cat hc els, fun w hw hn => (row_old (bk_sat (T := T) (n := n) (c := c) hw hk)).at_ hn⟩
end
section
variable {P : Program} {κ : Cx} {e : Env} {L : List Res} {X : Act → World → Prop} {Q : Exit → Act → World → Prop}
/-! ### a range over a function whose loop variable lies in a block of its own -/
def AsgX {ζ : Type} (κ : Cx) (e : ζ → Env) (L : ζ → List Res) : Exit → Act → World → Prop
  | .normal, a, w => ∃ z, St κ (e z) (L z) a w
  | _, _, _ => False
theorem g_asgx {ζ : Type} {e1 : ζ → Env} {L1 : ζ → List Res} (z : ζ) (he : subE (e1 z) e) (hL : ∀ w, WOK κ.S κ.w0 L w → WOK κ.S κ.w0 (L1 z) w) : G κ e L (AsgX κ e1 L1 .normal) := fun _ _ hs => ⟨z, hs.sub he hL⟩
theorem yok_of2 {α ι ζ : Type} {l m : Nat} {fn : FuncId} {tmps : Array Value} {t : Tmp} {assign body : Code} {enc : α → Value} {all : List α} {N : Nat} {e : Env} (htm : tmps.size = N) (ht : Nat.blt t N = true) (hev : EnvOK e { tmps := tmps, defers := [] }) (R : ι → List Res) (p : List α → ι → Prop) (e1 : α → ι → ζ → Env) (R1 : α → ι → ζ → List Res)
    (hA : ∀ pre x y w0, pre ++ [x] <+: all → p pre y → G ⟨fps (R y), w0, N, [], some l⟩ ((t, enc x) :: e) (R y) (assign.wpIn (FR (some l)) 0 P (AsgX ⟨fps (R y), w0, N, [], some l⟩ (e1 x y) (R1 x y))))
    (hB : ∀ pre x y z w0, pre ++ [x] <+: all → p pre y → G ⟨fps (R1 x y z), w0, N, [], some l⟩ (e1 x y z) (R1 x y z) (body.wpIn (FR (some l)) 0 P (RoundQ fun w => ∃ y', p (pre ++ [x]) y' ∧ WOK (fps (R1 x y z)) w0 (R y') w))) :
    YOK P l enc (fun pre r => ∃ y, p pre y ∧ r = .star (.obj l (.loop { state := .ready, pending := none, fn := fn, tmps := tmps, params := #[t], assign := assign, body := body, defers := m }) :: .obj m (.deferred (some [])) :: R y)) all := by
  rintro pre x r w hpre ⟨y, hp, rfl⟩ hw
  have hop : WOK (fps [Res.star (.obj l (.loop { state := .ready, pending := none, fn := fn, tmps := tmps, params := #[t], assign := assign, body := body, defers := m }) :: .obj m (.deferred (some [])) :: R y)]) w
      (.obj l (.loop { state := .ready, pending := none, fn := fn, tmps := tmps, params := #[t], assign := assign, body := body, defers := m }) :: .obj m (.deferred (some [])) :: R y) w := by
    have := hw.opened; simpa using this
  have hl : w.heap[l]? = some (.loop { state := .ready, pending := none, fn := fn, tmps := tmps, params := #[t], assign := assign, body := body, defers := m }) := hop.allsat (.obj l _) (by simp)
  have hpw := hop.pw
  rw [List.pairwise_cons, List.pairwise_cons] at hpw
  obtain ⟨hd1, hd2, hd3⟩ := hpw
  have hlR : ∀ r ∈ R y, l ∉ r.fp := fun r hr hc => hd1 r (by simp [hr]) l (by simp [Res.obj]) hc
  have hmR : ∀ r ∈ R y, m ∉ r.fp := fun r hr hc => hd2 r hr m (by simp [Res.obj]) hc
  have hlm : l ≠ m := fun hc => hd1 (.obj m (.deferred (some []))) (by simp) l (by simp [Res.obj]) (by simp [Res.obj, hc])
  have hm : w.heap[m]? = some (.deferred (some [])) := hop.allsat (.obj m _) (by simp)
  have hwR : WOK (fps (R y)) w (R y) w := WOK.of (Upd.refl _ _) (fun r hr => hop.allsat r (by simp [hr])) hd3 fun r hr b hb => .inr (mem_fps'.2 ⟨r, hr, hb⟩)
  have hll : l < w.heap.size := lt_of_get hl
  have hml : m < w.heap.size := lt_of_get hm
  refine ⟨fn, tmps.setIfInBounds t (enc x), assign, body, ?_, ?_⟩
  · rw [run_yield hl (by simp)]; simp
  · refine roundIn_of_wpIn (F := FR none) trivial ?_
    have hEnv : EnvOK ((t, enc x) :: e) { tmps := tmps.setIfInBounds t (enc x), defers := [] } := by
      have := hev.put (d := t) (by rw [htm]; simpa using ht) (enc x)
      exact this
    have hSt : St ⟨fps (R y), w, N, [], some l⟩ ((t, enc x) :: e) (R y) { tmps := tmps.setIfInBounds t (enc x), defers := [] } w := ⟨rfl, by simpa using htm, hEnv, hwR⟩
    refine Go.wpIn_mono (hA pre x y w hpre hp _ _ hSt) fun ex a w1 hq => ?_
    cases ex with
    | normal =>
      obtain ⟨z, hq⟩ : ∃ z, St ⟨fps (R y), w, N, [], some l⟩ (e1 x y z) (R1 x y z) a w1 := hq
      have hfr1 : ∀ b ∈ fps (R1 x y z), w.heap.size ≤ b ∨ b ∈ fps (R y) := fun b hb => by
        obtain ⟨r, hr, hb⟩ := mem_fps'.1 hb
        exact hq.wok.allfr r hr b hb
      have hnl1 : l ∉ fps (R1 x y z) := fun hc => by
        rcases hfr1 l hc with h | h
        · omega
        · obtain ⟨r, hr, hb⟩ := mem_fps'.1 h
          exact hlR r hr hb
      have hnm1 : m ∉ fps (R1 x y z) := fun hc => by
        rcases hfr1 m hc with h | h
        · omega
        · obtain ⟨r, hr, hb⟩ := mem_fps'.1 h
          exact hmR r hr hb
      have hlR1 : ∀ r ∈ R1 x y z, l ∉ r.fp := fun r hr hc => hnl1 (mem_fps'.2 ⟨r, hr, hc⟩)
      have hl1 : w1.heap[l]? = some (.loop { state := .ready, pending := none, fn := fn, tmps := tmps, params := #[t], assign := assign, body := body, defers := m }) :=
        (hq.wok.upd.block l hll (fun hc => by obtain ⟨r, hr, hb⟩ := mem_fps'.1 hc; exact hlR r hr hb)).trans hl
      refine ⟨_, run_beginRound hl1 rfl, ?_⟩
      have hu1 : Upd [l] w1 (w1.putObj l (.loop { state := .busy, pending := none, fn := fn, tmps := tmps, params := #[t], assign := assign, body := body, defers := m })) := Upd.putObj l _
      have hw1 : WOK (l :: fps (R y)) w (R1 x y z) (w1.putObj l (.loop { state := .busy, pending := none, fn := fn, tmps := tmps, params := #[t], assign := assign, body := body, defers := m })) :=
        (WOK.of (hq.wok.upd.mono fun x hx => by simp [hx]) hq.wok.allsat hq.wok.pw fun r hr b hb => by rcases hq.wok.allfr r hr b hb with h | h; exact .inl h; exact .inr (by simp [h]) : WOK (l :: fps (R y)) w (R1 x y z) w1).past hlR1 (.inr (by simp)) hu1
      have hfresh := wok_fresh hw1
      refine Go.wpIn_mono (hB pre x y z (w1.putObj l (.loop { state := .busy, pending := none, fn := fn, tmps := tmps, params := #[t], assign := assign, body := body, defers := m })) hpre hp a _ ⟨hq.defers, hq.size, hq.env, hfresh⟩) fun ex a2 w3 hq2 => ?_
      cases ex with
      | normal =>
        obtain ⟨y', hp', hw3⟩ := hq2
        have hl2 : (w1.putObj l (.loop { state := .busy, pending := none, fn := fn, tmps := tmps, params := #[t], assign := assign, body := body, defers := m })).heap[l]? = some (.loop { state := .busy, pending := none, fn := fn, tmps := tmps, params := #[t], assign := assign, body := body, defers := m }) := World.putObj_heap_same (lt_of_get hl1)
        have hnl : l ∉ fps (R y) := fun hc => by obtain ⟨r, hr, hb⟩ := mem_fps'.1 hc; exact hlR r hr hb
        have hnm : m ∉ fps (R y) := fun hc => by obtain ⟨r, hr, hb⟩ := mem_fps'.1 hc; exact hmR r hr hb
        have hl3 := (hw3.upd.block l (lt_of_get hl2) hnl1).trans hl2
        refine ⟨_, _, run_endRound none hl3, rfl, ?_⟩
        refine ⟨_, ⟨y', hp', rfl⟩, ?_⟩
        have hs1 : w.heap.size ≤ w1.heap.size := hq.wok.upd.size
        have hs2 : w1.heap.size ≤ (w1.putObj l (.loop { state := .busy, pending := none, fn := fn, tmps := tmps, params := #[t], assign := assign, body := body, defers := m })).heap.size := hu1.size
        have hnew : ∀ r ∈ R y', ∀ b ∈ r.fp, (w.heap.size ≤ b ∨ b ∈ fps (R y)) := fun r hr b hb => by
          rcases hw3.allfr r hr b hb with h | h
          · exact .inl (by omega)
          · exact hfr1 b h
        have hlR' : ∀ r ∈ R y', l ∉ r.fp := fun r hr hc => by
          rcases hnew r hr l hc with h | h
          · omega
          · exact hnl h
        have hmR' : ∀ r ∈ R y', m ∉ r.fp := fun r hr hc => by
          rcases hnew r hr m hc with h | h
          · omega
          · exact hnm h
        have hu2 := Upd.putObj (w := w3) l (.loop { state := .ready, pending := none, fn := fn, tmps := tmps, params := #[t], assign := assign, body := body, defers := m })
        have hm3 : w3.heap[m]? = some (.deferred (some [])) := by
          rw [hw3.upd.block m (by omega) hnm1, hu1.block m (by omega) (by simp; exact fun hc => hlm hc.symm), hq.wok.upd.block m hml hnm]; exact hm
        have hT : ∀ x ∈ fps (R y), x ∈ l :: m :: fps (R y) := fun x hx => by simp [hx]
        have hU : Upd (l :: m :: fps (R y)) w (w3.putObj l (.loop { state := .ready, pending := none, fn := fn, tmps := tmps, params := #[t], assign := assign, body := body, defers := m })) :=
          (((hq.wok.upd.mono hT).trans hu1 (fun x hx => .inr (by simp at hx; simp [hx]))).trans hw3.upd (fun x hx => (hfr1 x hx).elim .inl (fun h => .inr (hT x h)))).trans hu2 (fun x hx => .inr (by simp at hx; simp [hx]))
        have hfp : fps [Res.star (.obj l (.loop { state := .ready, pending := none, fn := fn, tmps := tmps, params := #[t], assign := assign, body := body, defers := m }) :: .obj m (.deferred (some [])) :: R y)] = l :: m :: fps (R y) := by
          rw [fps_star]; simp [fps, Res.obj]
        rw [hfp]
        refine WOK.closed (L := []) ?_
        rw [List.append_nil]
        refine WOK.of hU (fun r hr => ?_) ?_ (fun r hr b hb => ?_)
        · rcases List.mem_cons.1 hr with rfl | hr
          · exact World.putObj_heap_same (lt_of_get hl3)
          · rcases List.mem_cons.1 hr with rfl | hr
            · exact (hu2.block m (lt_of_get hm3) (by simp; exact fun hc => hlm hc.symm)).trans hm3
            · exact r.loc w3 _ (fun b hb => hu2.block b (r.lt w3 (hw3.allsat r hr) b hb) (by simp; exact fun hc => hlR' r hr (hc ▸ hb))) (hw3.allsat r hr)
        · rw [List.pairwise_cons, List.pairwise_cons]
          refine ⟨fun r hr b hb hc => ?_, fun r hr b hb hc => ?_, hw3.pw⟩
          · simp [Res.obj] at hb; subst hb
            rcases List.mem_cons.1 hr with rfl | hr
            · simp [Res.obj] at hc; exact hlm hc
            · exact hlR' r hr hc
          · simp [Res.obj] at hb; subst hb
            exact hmR' r hr hc
        · rcases List.mem_cons.1 hr with rfl | hr
          · simp [Res.obj] at hb; subst hb; exact .inr (by simp)
          · rcases List.mem_cons.1 hr with rfl | hr
            · simp [Res.obj] at hb; subst hb; exact .inr (by simp)
            · rcases hnew r hr b hb with h | h
              · exact .inl h
              · exact .inr (hT b h)
      | _ => exact hq2.elim
    | _ => exact hq.elim
/-- for x := range g { .. }, where no round leaves the loop -/
theorem g_rangeFunc2 {α ι ζ : Type} {S : List Nat} {w0 : World} {N : Nat} {g : Operand} {t : Tmp} {assign body : Code} {gf : FuncId} {fst cap : List Value} {enc : α → Value} {all : List α} [hb : HasB P gf]
    (hx : ev e g = some (.func (.func gf) fst.toArray cap.toArray)) (ht : Nat.blt t N = true) (Lin Lout rest : List Res) (R : ι → List Res) (p : List α → ι → Prop) (y0 : ι) (h0 : p [] y0)
    (hL : ∀ w, WOK S w0 L w → WOK S w0 (Lin ++ (R y0 ++ rest)) w) (hSeq : ∀ w, WOK S w0 L w → SeqOwn P gf fst cap S w0 w Lin enc all Lout) (e1 : α → ι → ζ → Env) (R1 : α → ι → ζ → List Res)
    (hA : ∀ (l : Nat) (pre : List α) (x : α) (y : ι) (w1 : World), pre ++ [x] <+: all → p pre y → G ⟨fps (R y), w1, N, [], some l⟩ ((t, enc x) :: e) (R y) (assign.wpIn (FR (some l)) 0 P (AsgX ⟨fps (R y), w1, N, [], some l⟩ (e1 x y) (R1 x y))))
    (hB : ∀ (l : Nat) (pre : List α) (x : α) (y : ι) (z : ζ) (w1 : World), pre ++ [x] <+: all → p pre y → G ⟨fps (R1 x y z), w1, N, [], some l⟩ (e1 x y z) (R1 x y z) (body.wpIn (FR (some l)) 0 P (RoundQ fun w => ∃ y', p (pre ++ [x]) y' ∧ WOK (fps (R1 x y z)) w1 (R y') w)))
    (next : ∀ y, p all y → ∀ m, G ⟨S, w0, N, [markD m], none⟩ e (Res.obj m (.deferred (some [])) :: (Lout ++ (R y ++ rest))) (Q .normal)) :
    G ⟨S, w0, N, [], none⟩ e L ((Code.rangeFunc g #[t] assign body).wpIn (FR none) 0 P Q) := fun a w hs => by
  have hg := hs.env.ev hx
  refine wpIn_rangeFunc (F := FR none) fun fn _ => ?_
  obtain ⟨w1, hw1⟩ : ∃ w1, w1 = (w.alloc (.deferred (some []))).alloc (.loop { state := .ready, pending := none, fn := fn, tmps := a.tmps, params := #[t], assign := assign, body := body, defers := w.heap.size }) := ⟨_, rfl⟩
  have hwL := hL w hs.wok
  have hd : (Res.obj w.heap.size (.deferred (some []))).sat (w.alloc (.deferred (some []))) := World.alloc_heap_new w _
  have hl : (Res.obj (w.heap.size + 1) (.loop { state := .ready, pending := none, fn := fn, tmps := a.tmps, params := #[t], assign := assign, body := body, defers := w.heap.size })).sat w1 := by
    rw [hw1]; have := World.alloc_heap_new (w.alloc (.deferred (some []))) (.loop { state := .ready, pending := none, fn := fn, tmps := a.tmps, params := #[t], assign := assign, body := body, defers := w.heap.size })
    simpa [Res.obj] using this
  have hok1 := hwL.cons (Upd.alloc w _) (.obj w.heap.size (.deferred (some []))) hd (by simp [Res.obj])
  have hok2 := hok1.cons (Upd.alloc _ (.loop { state := .ready, pending := none, fn := fn, tmps := a.tmps, params := #[t], assign := assign, body := body, defers := w.heap.size })) (.obj (w.heap.size + 1) (.loop { state := .ready, pending := none, fn := fn, tmps := a.tmps, params := #[t], assign := assign, body := body, defers := w.heap.size })) (by rw [← hw1]; exact hl) (by simp [Res.obj])
  rw [← hw1] at hok2
  have hS1 : WOK S w0 L w1 := by rw [hw1]; exact (hs.wok.more (Upd.alloc w _)).more (Upd.alloc _ _)
  have hstar : WOK S w0 ((Lin ++ [Res.star (.obj (w.heap.size + 1) (.loop { state := .ready, pending := none, fn := fn, tmps := a.tmps, params := #[t], assign := assign, body := body, defers := w.heap.size }) :: .obj w.heap.size (.deferred (some [])) :: R y0)]) ++ rest) w1 := by
    have h1 : WOK S w0 ((.obj (w.heap.size + 1) (.loop { state := .ready, pending := none, fn := fn, tmps := a.tmps, params := #[t], assign := assign, body := body, defers := w.heap.size }) :: .obj w.heap.size (.deferred (some [])) :: R y0) ++ (Lin ++ rest)) w1 := hok2.perm (by
      show (Res.obj _ _ :: Res.obj _ _ :: (Lin ++ (R y0 ++ rest))).Perm (Res.obj _ _ :: Res.obj _ _ :: (R y0 ++ (Lin ++ rest)))
      exact ((List.perm_append_comm_assoc Lin (R y0) rest).cons _).cons _)
    refine h1.closed.perm ?_
    rw [List.append_assoc]
    exact List.perm_middle.symm
  have hY : YOK P (w.heap.size + 1) enc (fun pre r => ∃ y, p pre y ∧ r = .star (.obj (w.heap.size + 1) (.loop { state := .ready, pending := none, fn := fn, tmps := a.tmps, params := #[t], assign := assign, body := body, defers := w.heap.size }) :: .obj w.heap.size (.deferred (some [])) :: R y)) all :=
    yok_of2 (m := w.heap.size) (fn := fn) hs.size ht (fun k v hk => hs.env k v hk) R p e1 R1 (hA _) (hB _)
  have hcall := hSeq w1 hS1 (w.heap.size + 1) _ (.star (.obj (w.heap.size + 1) (.loop { state := .ready, pending := none, fn := fn, tmps := a.tmps, params := #[t], assign := assign, body := body, defers := w.heap.size }) :: .obj w.heap.size (.deferred (some [])) :: R y0)) hY ⟨y0, h0, rfl⟩ hstar.left hstar.own
  refine ⟨w.heap.size + 1, [markD w.heap.size], w1, { target := .fn (.func gf) cap.toArray, args := (fst ++ [Value.func (.yield (w.heap.size + 1)) #[] #[]]).toArray }, w1, gf, (fst ++ [Value.func (.yield (w.heap.size + 1)) #[] #[]] ++ cap).toArray, w1, ?_, ?_, fun _ _ => trivial, ?_, fun hd => by simp [FR] at hd, ?_⟩
  · rw [hw1]; exact run_enterLoop_outer fn a.tmps #[t] assign body
  · simp only [resolve, rangeCall, hg]
    simp [Deferred.ofValue, Act.eval]
  · simp [invoke, callFunc_run hb.has]
  · refine calls_in (Calls.mono hcall ?_)
    rintro en w2 ⟨v, rfl, r', ⟨y, hpy, rfl⟩, hw2⟩
    have h3 : WOK S w0 ((.obj (w.heap.size + 1) (.loop { state := .ready, pending := none, fn := fn, tmps := a.tmps, params := #[t], assign := assign, body := body, defers := w.heap.size }) :: .obj w.heap.size (.deferred (some [])) :: R y) ++ (Lout ++ rest)) w2 := by
      refine WOK.opened ((hstar.join hw2).perm ?_)
      rw [List.append_assoc]
      exact List.perm_middle
    have hl2 : w2.heap[w.heap.size + 1]? = some (.loop { state := .ready, pending := none, fn := fn, tmps := a.tmps, params := #[t], assign := assign, body := body, defers := w.heap.size }) := h3.allsat (.obj (w.heap.size + 1) (.loop { state := .ready, pending := none, fn := fn, tmps := a.tmps, params := #[t], assign := assign, body := body, defers := w.heap.size })) (by simp)
    refine ⟨none, _, run_endLoop hl2 (by simp), ?_⟩
    have h4 : WOK S w0 (Res.obj w.heap.size (.deferred (some [])) :: (Lout ++ (R y ++ rest))) w2 := by
      have h5 : WOK S w0 (Res.obj w.heap.size (.deferred (some [])) :: (R y ++ (Lout ++ rest))) w2 := wok_tail (fun _ h => h) w2 h3
      exact h5.perm ((List.perm_append_comm_assoc (R y) Lout rest).cons _)
    have hpw := h3.pw
    have hnot : ∀ r ∈ (Res.obj w.heap.size (.deferred (some [])) :: (Lout ++ (R y ++ rest))), w.heap.size + 1 ∉ r.fp := fun r hr hc => by
      have h6 := (List.pairwise_cons.1 hpw).1 r (by
        rcases List.mem_cons.1 hr with rfl | hr
        · simp
        · simp only [List.mem_append] at hr
          rcases hr with hr | hr | hr <;> simp [hr])
      exact h6 (w.heap.size + 1) (by simp [Res.obj]) hc
    have h7 := h4.past hnot (.inl (Nat.le_succ_of_le hs.wok.upd.size)) (Upd.putObj (w.heap.size + 1) (.loop { state := .exhausted, pending := none, fn := fn, tmps := a.tmps, params := #[t], assign := assign, body := body, defers := w.heap.size }))
    exact next y hpy w.heap.size { a with defers := [markD w.heap.size] ++ a.defers } _ ⟨by show [markD _] ++ a.defers = _; rw [hs.defers]; rfl, hs.size, fun k v hk => hs.env k v hk, h7⟩
end
end Go.Eg
