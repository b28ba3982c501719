/- Resources up to order, found by their names; contracts over them; slices that are only read. No program in sight. -/
import Derived.Test.YtgbghjnlicldnaaN
namespace Go.Eg
open Go.RowKit
set_option linter.unusedVariables false
set_option linter.unusedSimpArgs false

def Dj (r s : Res) : Prop := ∀ b ∈ r.fp, b ∉ s.fp
theorem Dj.symm {r s : Res} (h : Dj r s) : Dj s r := fun b hb hc => h b hc hb
theorem WOK.pw {S : List Nat} {w0 w : World} {L : List Res} (h : WOK S w0 L w) : L.Pairwise Dj :=
  List.pairwise_iff_getElem.2 fun i j hi hj hij => h.nd i j _ _ (by omega) (List.getElem?_eq_getElem hi) (List.getElem?_eq_getElem hj)
theorem WOK.allsat {S : List Nat} {w0 w : World} {L : List Res} (h : WOK S w0 L w) : ∀ r ∈ L, r.sat w := fun r hr => by
  obtain ⟨i, hi⟩ := List.mem_iff_getElem?.1 hr
  exact h.sat i r hi
theorem WOK.allfr {S : List Nat} {w0 w : World} {L : List Res} (h : WOK S w0 L w) : ∀ r ∈ L, ∀ b ∈ r.fp, w0.heap.size ≤ b ∨ b ∈ S := fun r hr => by
  obtain ⟨i, hi⟩ := List.mem_iff_getElem?.1 hr
  exact h.fr i r hi
theorem WOK.of {S : List Nat} {w0 w : World} {L : List Res} (hu : Upd S w0 w) (hs : ∀ r ∈ L, r.sat w) (hp : L.Pairwise Dj) (hf : ∀ r ∈ L, ∀ b ∈ r.fp, w0.heap.size ≤ b ∨ b ∈ S) : WOK S w0 L w := by
  refine ⟨hu, fun i r hi => hs r (List.mem_of_getElem? hi), fun i j r s hij hi hj => ?_, fun i r hi => hf r (List.mem_of_getElem? hi)⟩
  obtain ⟨hi', rfl⟩ := List.getElem?_eq_some_iff.1 hi
  obtain ⟨hj', rfl⟩ := List.getElem?_eq_some_iff.1 hj
  rcases Nat.lt_or_gt_of_ne hij with h | h
  · exact List.pairwise_iff_getElem.1 hp i j hi' hj' h
  · exact Dj.symm (List.pairwise_iff_getElem.1 hp j i hj' hi' h)
theorem WOK.perm {S : List Nat} {w0 w : World} {L L' : List Res} (h : WOK S w0 L w) (hp : L.Perm L') : WOK S w0 L' w :=
  WOK.of h.upd (fun r hr => h.allsat r (hp.mem_iff.2 hr)) ((hp.pairwise_iff Dj.symm).1 h.pw) fun r hr => h.allfr r (hp.mem_iff.2 hr)
theorem WOK.left {S : List Nat} {w0 w : World} {A B : List Res} (h : WOK S w0 (A ++ B) w) : WOK S w0 A w :=
  WOK.of h.upd (fun r hr => h.allsat r (by simp [hr])) (List.pairwise_append.1 h.pw).1 fun r hr => h.allfr r (by simp [hr])

/-! ### pulling resources out of a list by their names, and putting others in their places -/
inductive Mk where
  | inl (r : Res)
  | inr (r : Res)
def Mk.un : List Mk → List Res
  | [] => []
  | .inl r :: M => r :: Mk.un M
  | .inr _ :: M => Mk.un M
def Mk.re : List Mk → List Res
  | [] => []
  | .inl _ :: M => Mk.re M
  | .inr r :: M => r :: Mk.re M
class Mark (L : List Res) (M : outParam (List Mk)) : Prop where
  un : Mk.un M = L
  re : Mk.re M = []
instance Mark.nil : Mark [] [] := ⟨rfl, rfl⟩
instance Mark.cons {r : Res} {L : List Res} {M : List Mk} [h : Mark L M] : Mark (r :: L) (.inl r :: M) := ⟨by simp [Mk.un, h.un], by simp [Mk.re, h.re]⟩
class Unmark (M : List Mk) (L : outParam (List Res)) : Prop where
  p : L.Perm (Mk.re M ++ Mk.un M)
instance Unmark.nil : Unmark [] [] := ⟨.refl _⟩
instance Unmark.l {r : Res} {L : List Res} {M : List Mk} [h : Unmark M L] : Unmark (.inl r :: M) (r :: L) := ⟨(h.p.cons r).trans List.perm_middle.symm⟩
instance Unmark.r {r : Res} {L : List Res} {M : List Mk} [h : Unmark M L] : Unmark (.inr r :: M) (r :: L) := ⟨h.p.cons r⟩
class Swap1 (M : List Mk) (r r' : Res) (M' : outParam (List Mk)) : Prop where
  un : (Mk.un M).Perm (r :: Mk.un M')
  re : (Mk.re M').Perm (r' :: Mk.re M)
instance Swap1.tail {x : Mk} {r r' : Res} {M M' : List Mk} [h : Swap1 M r r' M'] : Swap1 (x :: M) r r' (x :: M') := by
  cases x with
  | inl s => exact ⟨(h.un.cons s).trans (.swap _ _ _), h.re⟩
  | inr s => exact ⟨h.un, (h.re.cons s).trans (.swap _ _ _)⟩
instance Swap1.head {r r' : Res} {M : List Mk} : Swap1 (.inl r :: M) r r' (.inr r' :: M) := ⟨.refl _, .refl _⟩
class SwapM (M : List Mk) (Lin Lrep : List Res) (M' : outParam (List Mk)) : Prop where
  un : (Mk.un M).Perm (Lin ++ Mk.un M')
  re : (Mk.re M').Perm (Lrep ++ Mk.re M)
instance SwapM.nil {M : List Mk} : SwapM M [] [] M := ⟨.refl _, .refl _⟩
instance SwapM.cons {M M1 M' : List Mk} {r r' : Res} {Lin Lrep : List Res} [h1 : Swap1 M r r' M1] [h2 : SwapM M1 Lin Lrep M'] : SwapM M (r :: Lin) (r' :: Lrep) M' :=
  ⟨h1.un.trans (h2.un.cons r), h2.re.trans ((List.Perm.append_left Lrep h1.re).trans List.perm_middle)⟩
/-- L' is L with Lrep in the places of Lin -/
class Swap (L Lin Lrep : List Res) (L' : outParam (List Res)) : Prop where
  ex : ∃ rest, L.Perm (Lin ++ rest) ∧ L'.Perm (Lrep ++ rest)
instance Swap.mk' {L Lin Lrep L' : List Res} {M M' : List Mk} [h1 : Mark L M] [h2 : SwapM M Lin Lrep M'] [h3 : Unmark M' L'] : Swap L Lin Lrep L' :=
  ⟨Mk.un M', h1.un ▸ h2.un, by
    have := h2.re
    rw [h1.re, List.append_nil] at this
    exact h3.p.trans (List.Perm.append_right _ this)⟩
/-- A ++ B, spelled out -/
class App (A B : List Res) (C : outParam (List Res)) : Prop where
  eq : A ++ B = C
instance App.nil {B : List Res} : App [] B B := ⟨rfl⟩
instance App.cons {r : Res} {A B C : List Res} [h : App A B C] : App (r :: A) B (r :: C) := ⟨by rw [← h.eq]; rfl⟩
/-- L' is part of L -/
class Sub (L L' : List Res) : Prop where
  ex : ∃ rest, L.Perm (L' ++ rest)
instance Sub.mk' {L L' L'' : List Res} [h : Swap L L' L' L''] : Sub L L' := ⟨h.ex.elim fun r h => ⟨r, h.1⟩⟩
theorem wok_sub {S : List Nat} {w0 : World} {L L' : List Res} [h : Sub L L'] : ∀ w, WOK S w0 L w → WOK S w0 L' w := fun _ hw => h.ex.elim fun _ hp => (hw.perm hp).left
theorem Sub.of_swap {L Lin Lrep L' : List Res} (h : Swap L Lin Lrep L') : Sub L Lin := ⟨h.ex.elim fun r h => ⟨r, h.1⟩⟩
theorem WOK.own' {S : List Nat} {w0 w : World} {L Lin : List Res} (h : WOK S w0 L w) (hs : Sub L Lin) : WOK (fps Lin) w Lin w := hs.ex.elim fun _ hp => (h.perm hp).own
theorem WOK.swap {S : List Nat} {w0 w w' : World} {L Lin Lrep L' : List Res} (Lnew : List Res) (h : WOK S w0 L w) (hs : Swap L Lin Lrep L') (h' : WOK (fps Lin) w (Lnew ++ Lrep) w') : WOK S w0 (Lnew ++ L') w' := by
  obtain ⟨rest, h1, h2⟩ := hs.ex
  have := (h.perm h1).join h'
  rw [List.append_assoc] at this
  exact this.perm (List.Perm.append_left Lnew h2.symm)

/-- the arguments' values, reckoned -/
def evL (e : Env) : List Operand → Option (List Value)
  | [] => some []
  | x :: r => match ev e x with
    | some v => match evL e r with
      | some vs => some (v :: vs)
      | none => none
    | none => none
theorem evL_map {e : Env} : ∀ {xs : List Operand} {vs : List Value}, evL e xs = some vs → xs.map (ev e) = vs.map some
  | [], vs, h => by simp [evL] at h; subst h; rfl
  | x :: r, vs, h => by
    simp only [evL] at h
    cases hx : ev e x with
    | none => simp [hx] at h
    | some v =>
      simp only [hx] at h
      cases hr : evL e r with
      | none => simp [hr] at h
      | some us =>
        simp only [hr, Option.some.injEq] at h
        subst h
        simp [hx, evL_map hr]
/-- the contract: new resources Lnew x, and Lrep x for what was owned -/
def Own2 {ι : Type} (P : Program) (f : FuncId) (args : List Value) (w : World) (Lin : List Res) (p : ι → Prop) (val : ι → Value) (Lnew Lrep : ι → List Res) : Prop := Own P f args w Lin p val (fun x => Lnew x ++ Lrep x)
section
variable {P : Program} {κ : Cx} {e : Env} {L : List Res} {X : Act → World → Prop} {Q : Exit → Act → World → Prop} {d : Tmp} {ty : TypeId} {s : String} {af : Array Edge} {gd : Option (Nat × Bool)}
/-- resources, others out of them -/
theorem g_sub {L' : List Res} [Sub L L'] (h : G κ e L' X) : G κ e L X := fun a w hs => h a w ⟨hs.defers, hs.size, hs.env, wok_sub w hs.wok⟩
/-- A call that owns Lin: new resources Lnew x, and Lrep x in the places of Lin. -/
theorem g_ownS {ι : Type} {f : FuncId} {xs : List Operand} {vs : List Value} {ts : Array TypeId} (Lin : List Res) {p : ι → Prop} {val : ι → Value} {Lnew Lrep : ι → List Res} [hb : HasB P f] [hs : Sub L Lin] (hxs : evL e xs = some vs)
    (hf : ∀ w, WOK κ.S κ.w0 L w → WOK (fps Lin) w Lin w → Own2 P f vs w Lin p val Lnew Lrep) (hd : Nat.blt d κ.N = true)
    (h : ∀ x, p x → ∃ L' L'', Swap L Lin (Lrep x) L' ∧ App (Lnew x) L' L'' ∧ G κ ((d, val x) :: e) L'' X) :
    G κ e L (owp κ.ρ P ⟨some d, .call { callee := .value (.func f), args := xs.toArray, argTypes := ts }, ty, s, af, gd⟩ Q X) :=
  g_call (evL_map hxs) hd (fun _ _ => True) fun w hw => Ret.mono (hf w hw (hw.own' hs)) fun u w' ⟨x, hp, hu, hw'⟩ => by
    subst hu
    obtain ⟨L', L'', hL, ha, hg⟩ := h x hp
    exact ⟨trivial, _, ha.eq ▸ hw.swap (Lnew x) hL hw', hg⟩
/-- .. of a function's value -/
theorem g_ownV {ι : Type} {f : FuncId} {x0 : Operand} {xs : List Operand} {vs fst cap : List Value} {ts : Array TypeId} (Lin : List Res) {p : ι → Prop} {val : ι → Value} {Lnew Lrep : ι → List Res} [hb : HasB P f] [hs : Sub L Lin] (hx : ev e x0 = some (.func (.func f) fst.toArray cap.toArray)) (hxs : evL e xs = some vs)
    (hf : ∀ w, WOK κ.S κ.w0 L w → WOK (fps Lin) w Lin w → Own2 P f (fst ++ vs ++ cap) w Lin p val Lnew Lrep) (hd : Nat.blt d κ.N = true)
    (h : ∀ x, p x → ∃ L' L'', Swap L Lin (Lrep x) L' ∧ App (Lnew x) L' L'' ∧ G κ ((d, val x) :: e) L'' X) :
    G κ e L (owp κ.ρ P ⟨some d, .call { callee := .value x0, args := xs.toArray, argTypes := ts }, ty, s, af, gd⟩ Q X) :=
  g_callv hx (evL_map hxs) hd (fun _ _ => True) fun w hw => Ret.mono (hf w hw (hw.own' hs)) fun u w' ⟨x, hp, hu, hw'⟩ => by
    subst hu
    obtain ⟨L', L'', hL, ha, hg⟩ := h x hp
    exact ⟨trivial, _, ha.eq ▸ hw.swap (Lnew x) hL hw', hg⟩
end
/-- the callee's resources are those of before: just one outcome -/
def Keep (P : Program) (f : FuncId) (args : List Value) (w : World) (Lin : List Res) (v : Value) : Prop := Own2 (ι := Unit) P f args w Lin (fun _ => True) (fun _ => v) (fun _ => []) (fun _ => Lin)
section
variable {P : Program} {κ : Cx} {e : Env} {L : List Res} {X : Act → World → Prop} {Q : Exit → Act → World → Prop} {d : Tmp} {ty : TypeId} {s : String} {af : Array Edge} {gd : Option (Nat × Bool)}
theorem Swap.self {L Lin : List Res} (h : Sub L Lin) : Swap L Lin Lin L := h.ex.elim fun r hp => ⟨⟨r, hp, hp⟩⟩
theorem g_keep {f : FuncId} {xs : List Operand} {vs : List Value} {ts : Array TypeId} (Lin : List Res) {v : Value} [hb : HasB P f] [hs : Sub L Lin] (hxs : evL e xs = some vs)
    (hf : ∀ w, WOK κ.S κ.w0 L w → WOK (fps Lin) w Lin w → Keep P f vs w Lin v) (hd : Nat.blt d κ.N = true) (h : G κ ((d, v) :: e) L X) :
    G κ e L (owp κ.ρ P ⟨some d, .call { callee := .value (.func f), args := xs.toArray, argTypes := ts }, ty, s, af, gd⟩ Q X) :=
  g_ownS (ι := Unit) (Lnew := fun _ => []) (Lrep := fun _ => Lin) Lin hxs hf hd fun _ _ => ⟨L, L, Swap.self hs, inferInstance, h⟩
theorem g_keepV {f : FuncId} {x0 : Operand} {xs : List Operand} {vs fst cap : List Value} {ts : Array TypeId} (Lin : List Res) {v : Value} [hb : HasB P f] [hs : Sub L Lin] (hx : ev e x0 = some (.func (.func f) fst.toArray cap.toArray)) (hxs : evL e xs = some vs)
    (hf : ∀ w, WOK κ.S κ.w0 L w → WOK (fps Lin) w Lin w → Keep P f (fst ++ vs ++ cap) w Lin v) (hd : Nat.blt d κ.N = true) (h : G κ ((d, v) :: e) L X) :
    G κ e L (owp κ.ρ P ⟨some d, .call { callee := .value x0, args := xs.toArray, argTypes := ts }, ty, s, af, gd⟩ Q X) :=
  g_ownV (ι := Unit) (Lnew := fun _ => []) (Lrep := fun _ => Lin) Lin hx hxs hf hd fun _ _ => ⟨L, L, Swap.self hs, inferInstance, h⟩
/-- a call that writes nothing that was there -/
theorem Keep.of_pur {f : FuncId} {args : List Value} {w : World} {Lin : List Res} {v : Value} (hw : WOK (fps Lin) w Lin w) (h : Pur P f args w v) : Keep P f args w Lin v :=
  Ret.mono h fun u w' ⟨hu, hup⟩ => ⟨(), trivial, hu, hw.more hup⟩
end

/-! ### many resources as one -/
def Res.star (Ls : List Res) : Res where
  fp := fps Ls
  sat w := (∀ r ∈ Ls, r.sat w) ∧ Ls.Pairwise Dj
  loc w w' h hs := ⟨fun r hr => r.loc w w' (fun b hb => h b (by
    obtain ⟨i, hi⟩ := List.mem_iff_getElem?.1 hr
    exact mem_fps.2 ⟨i, r, hi, hb⟩)) (hs.1 r hr), hs.2⟩
  lt w hs b hb := by
    obtain ⟨i, r, hi, hb⟩ := mem_fps.1 hb
    exact r.lt w (hs.1 r (List.mem_of_getElem? hi)) b hb
theorem mem_fps' {L : List Res} {b : Nat} : b ∈ fps L ↔ ∃ r ∈ L, b ∈ r.fp := by simp [fps, List.mem_flatMap]
theorem WOK.opened {S : List Nat} {w0 w : World} {Ls L : List Res} (h : WOK S w0 (.star Ls :: L) w) : WOK S w0 (Ls ++ L) w := by
  have hs : (Res.star Ls).sat w := h.allsat _ (by simp)
  have hp := List.pairwise_cons.1 h.pw
  refine WOK.of h.upd (fun r hr => ?_) (List.pairwise_append.2 ⟨hs.2, hp.2, fun r hr s hs' b hb => ?_⟩) fun r hr b hb => ?_
  · rcases List.mem_append.1 hr with hr | hr
    · exact hs.1 r hr
    · exact h.allsat r (by simp [hr])
  · exact hp.1 s hs' b (mem_fps'.2 ⟨r, hr, hb⟩)
  · rcases List.mem_append.1 hr with hr | hr
    · exact h.allfr (.star Ls) (by simp) b (mem_fps'.2 ⟨r, hr, hb⟩)
    · exact h.allfr r (by simp [hr]) b hb
theorem WOK.closed {S : List Nat} {w0 w : World} {Ls L : List Res} (h : WOK S w0 (Ls ++ L) w) : WOK S w0 (.star Ls :: L) w := by
  have hp := List.pairwise_append.1 h.pw
  refine WOK.of h.upd (fun r hr => ?_) (List.pairwise_cons.2 ⟨fun s hs b hb => ?_, hp.2.1⟩) fun r hr b hb => ?_
  · rcases List.mem_cons.1 hr with rfl | hr
    · exact ⟨fun s hs => h.allsat s (by simp [hs]), hp.1⟩
    · exact h.allsat r (by simp [hr])
  · obtain ⟨r, hr, hb⟩ := mem_fps'.1 hb
    exact hp.2.2 r hr s hs b hb
  · rcases List.mem_cons.1 hr with rfl | hr
    · obtain ⟨r, hr, hb⟩ := mem_fps'.1 hb
      exact h.allfr r (by simp [hr]) b hb
    · exact h.allfr r (by simp [hr]) b hb
theorem fps_star {Ls : List Res} : fps [.star Ls] = fps Ls := by simp [fps, Res.star]

/-! ### slices that are only read -/
def Res.ro (A : Option Addr) (n k : Nat) (els : List (List Value)) : Res where
  fp := if els.flatten = [] then [] else [bo A]
  sat w := Old w A n k els
  loc w w' h hs := ⟨hs.len, hs.cat, fun hn => by
    obtain ⟨h1, h2⟩ := hs.at_ hn
    refine ⟨h1, fun j u hu => ?_⟩
    have hne : ¬ els.flatten = [] := by intro e; rw [e] at hu; simp at hu
    rw [← h2 j u hu]
    exact World.cell?_of_block (w := w) (h (bo A) (by simp only [if_neg hne]; simp))⟩
  lt w hs b hb := by
    split at hb
    · simp at hb
    · rename_i hne
      have hb' : b = bo A := by simpa using hb
      subst hb'
      have hpos : 0 < els.flatten.length := List.length_pos_iff.2 hne
      have hn : 0 < n := by
        rw [hs.len]
        rcases Nat.eq_zero_or_pos els.length with h0 | h0
        · rw [List.eq_nil_of_length_eq_zero h0] at hne; simp at hne
        · exact h0
      exact block_lt_of_cell (a := ⟨bo A, oo A + 0, none⟩) ((hs.at_ hn).2 0 _ (List.getElem?_eq_getElem hpos))
class InRo (L : List Res) (A : Option Addr) (n k : outParam Nat) (els : outParam (List (List Value))) : Prop where
  at_ : Res.ro A n k els ∈ L
instance InRo.tail {L : List Res} {r : Res} {A : Option Addr} {n k : Nat} {els : List (List Value)} [h : InRo L A n k els] : InRo (r :: L) A n k els := ⟨by simp [h.at_]⟩
instance InRo.head {L : List Res} {A : Option Addr} {n k : Nat} {els : List (List Value)} : InRo (.ro A n k els :: L) A n k els := ⟨by simp⟩
theorem Rdb.ro {κ : Cx} {L : List Res} {A : Option Addr} {n k : Nat} {els : List (List Value)} [h : InRo L A n k els] (h1 : n = els.length) (h2 : ∀ c ∈ els, c.length = k) : Rdb κ L A n k els :=
  ⟨h1, h2, fun w hw hn => Old.at_ (hw.allsat _ h.at_ : Old w A n k els) hn⟩
theorem row_fp_bo {A : Option Addr} {n cap T k : Nat} {els : List (List Value)} {w : World} (h : (Res.row A n cap T k els).sat w) (hn : 0 < n) : bo A ∈ (Res.row A n cap T k els).fp := by
  obtain ⟨_, _, h3⟩ := h
  rcases h3 with ⟨h4, _⟩ | ⟨g, cur, rfl, _, hle, _⟩
  · omega
  · simp only [Res.row, if_neg (show ¬ cap = 0 by omega)]; simp
theorem row_old {A : Option Addr} {n cap T k : Nat} {els : List (List Value)} {w : World} (h : (Res.row A n cap T k els).sat w) : Old w A n k els := by
  refine ⟨h.1, h.2.1, fun hn => ?_⟩
  obtain ⟨_, _, h3⟩ := h
  rcases h3 with ⟨h4, _⟩ | ⟨g, cur, hA, hg, hle, _, hsz, htk⟩
  · omega
  · subst hA
    refine ⟨rfl, fun j u hu => ?_⟩
    rw [← htk] at hu
    simp only [bo_some, oo_some, Nat.zero_add]
    rw [cell_of_row w g j cur _ _ hg]
    rw [List.getElem?_take] at hu
    split at hu
    · simpa using hu
    · cases hu
theorem blk_old {b T n k : Nat} {c : List Value} {els : List (List Value)} {w : World} (h : (Res.blk b T c).sat w) (h1 : n = els.length) (h2 : ∀ c ∈ els, c.length = k) (hc : els.flatten = c) : Old w (some ⟨b, 0, none⟩) n k els :=
  ⟨h1, h2, fun _ => ⟨rfl, fun j u hu => by rw [hc] at hu; simpa using blk_cell h hu⟩⟩
theorem pos_of_flat {els : List (List Value)} (h : ¬ els.flatten = []) : 0 < els.length := by
  rcases Nat.eq_zero_or_pos els.length with h0 | h0
  · rw [List.eq_nil_of_length_eq_zero h0] at h; simp at h
  · exact h0
/-- one resource turned into one that says less -/
theorem WOK.less {S : List Nat} {w0 w : World} {r r' : Res} {L : List Res} (h : WOK S w0 (r :: L) w) (hs : r.sat w → r'.sat w) (hf : r.sat w → ∀ b ∈ r'.fp, b ∈ r.fp) : WOK S w0 (r' :: L) w := by
  have h0 : r.sat w := h.allsat r (by simp)
  have := h.change (i := 0) (r := r) rfl r' (Upd.refl _ _) (hs h0) fun b hb => .inl (hf h0 b hb)
  simpa using this
/-- a row of our own, from now on only read -/
theorem WOK.toRo {S : List Nat} {w0 w : World} {A : Option Addr} {n cap T k : Nat} {els : List (List Value)} {L : List Res} (h : WOK S w0 (.row A n cap T k els :: L) w) : WOK S w0 (.ro A n k els :: L) w :=
  h.less row_old fun h0 b hb => by
    simp only [Res.ro] at hb
    split at hb
    · simp at hb
    · rename_i hne
      have : b = bo A := by simpa using hb
      subst this
      exact row_fp_bo h0 (by rw [h0.1]; exact pos_of_flat hne)
/-- a literal's block, from now on only read -/
theorem WOK.blkRo {S : List Nat} {w0 w : World} {b T n k : Nat} {c : List Value} {els : List (List Value)} {L : List Res} (h : WOK S w0 (.blk b T c :: L) w) (h1 : n = els.length) (h2 : ∀ c ∈ els, c.length = k) (hc : els.flatten = c) : WOK S w0 (.ro (some ⟨b, 0, none⟩) n k els :: L) w :=
  h.less (fun h0 => blk_old h0 h1 h2 hc) fun h0 q hq => by
    simp only [Res.ro] at hq
    split at hq
    · simp at hq
    · simpa [Res.blk] using hq
theorem old_sub {w : World} {A : Option Addr} {n k : Nat} {els : List (List Value)} (hr : Old w A n k els) {cap l h : Nat} (hl : l ≤ h) (hh : h ≤ n) (hc : n ≤ cap) : Old w (subA A cap l k) (h - l) k ((els.drop l).take (h - l)) :=
  (Rdb.sub (Old.rdb (S := []) (N := 0) (D := []) (ρ := none) (L := []) hr rfl) hl hh hc).toOld (WOK.start [] w)
theorem bo_subA {A : Option Addr} {b o : Nat} (hA : A = some ⟨b, o, none⟩) (cap l k : Nat) : bo (subA A cap l k) = bo A := by
  subst hA
  unfold subA
  split
  · rfl
  · simp [add_none]
theorem WOK.roSub {S : List Nat} {w0 w : World} {A : Option Addr} {n k : Nat} {els : List (List Value)} {L : List Res} (h : WOK S w0 (.ro A n k els :: L) w) {cap l m : Nat} (hl : l ≤ m) (hh : m ≤ n) (hc : n ≤ cap) : WOK S w0 (.ro (subA A cap l k) (m - l) k ((els.drop l).take (m - l)) :: L) w :=
  h.less (fun h0 => old_sub h0 hl hh hc) fun h0 b hb => by
    have ho : Old w A n k els := h0
    simp only [Res.ro] at hb ⊢
    split at hb
    · simp at hb
    · rename_i hne
      have hpos := pos_of_flat hne
      simp only [List.length_take, List.length_drop, ← ho.len] at hpos
      have h1 := (ho.at_ (by omega)).1
      rw [bo_subA h1] at hb
      have hne' : ¬ els.flatten = [] := by
        intro e
        apply hne
        have hall : ∀ c ∈ els, c = [] := by simpa using e
        simp only [List.flatten_eq_nil_iff]
        exact fun c hc => hall c (List.mem_of_mem_drop (List.mem_of_mem_take hc))
      rw [if_neg hne']
      exact hb
/-- what a callee may ask of a slice that it only reads: it reads so now, and lies outside of what the callee owns -/
structure Rd (w : World) (Lin : List Res) (A : Option Addr) (n k : Nat) (els : List (List Value)) : Prop where
  old : Old w A n k els
  away : 0 < n → bo A ∉ fps Lin
theorem Rd.rdb {w : World} {Lin L : List Res} {A : Option Addr} {n k N : Nat} {D : List Deferred} {ρ : Option Nat} {els : List (List Value)} (h : Rd w Lin A n k els) : Rdb ⟨fps Lin, w, N, D, ρ⟩ L A n k els := Rdb.old h.old h.away
theorem Rd.zero {w : World} {Lin : List Res} {A : Option Addr} {k : Nat} : Rd w Lin A 0 k [] := ⟨⟨rfl, by simp, by simp⟩, by simp⟩
theorem Rd.ofOld {κ : Cx} {L Lin : List Res} {w : World} {A : Option Addr} {n k : Nat} {els : List (List Value)} [hs : Sub L Lin] (hw : WOK κ.S κ.w0 L w) (h : Old κ.w0 A n k els) (hk : 0 < k) (hS : 0 < n → bo A ∉ κ.S) : Rd w Lin A n k els := by
  have hr : Rdb κ L A n k els := Rdb.old h hS
  refine ⟨hr.toOld hw, fun hn hm => ?_⟩
  obtain ⟨r, hr', hb⟩ := mem_fps'.1 hm
  obtain ⟨rest, hp⟩ := hs.ex
  have hf := hw.allfr r (hp.mem_iff.2 (by simp [hr'])) _ hb
  have hpos : 0 < els.flatten.length := by
    rw [flat_len h.cat]
    exact Nat.mul_pos (by rw [← h.len]; exact hn) hk
  have hlt : bo A < κ.w0.heap.size := block_lt_of_cell (a := ⟨bo A, oo A + 0, none⟩) ((h.at_ hn).2 0 _ (List.getElem?_eq_getElem hpos))
  rcases hf with hf | hf
  · omega
  · exact hS hn hf
theorem Rd.ofRd {w0 w : World} {L0 L Lin : List Res} {A : Option Addr} {n k : Nat} {els : List (List Value)} [hs : Sub L Lin] (hw : WOK (fps L0) w0 L w) (h : Rd w0 L0 A n k els) (hk : 0 < k) : Rd w Lin A n k els :=
  Rd.ofOld (κ := ⟨fps L0, w0, 0, [], none⟩) hw h.old hk h.away
theorem Rd.ofRes {S : List Nat} {w0 w : World} {L Lin : List Res} {r : Res} {A : Option Addr} {n k : Nat} {els : List (List Value)} (hs : Sub L (r :: Lin)) (hw : WOK S w0 L w) (ho : r.sat w → Old w A n k els) (hb : r.sat w → 0 < n → bo A ∈ r.fp) : Rd w Lin A n k els := by
  obtain ⟨rest, hp⟩ := hs.ex
  have hw' := hw.perm hp
  have h0 : r.sat w := hw'.allsat r (by simp)
  refine ⟨ho h0, fun hn hm => ?_⟩
  obtain ⟨s, hs', hb'⟩ := mem_fps'.1 hm
  have h1 := (List.pairwise_cons.1 (show (r :: (Lin ++ rest)).Pairwise Dj from hw'.pw)).1 s (by simp [hs'])
  exact h1 _ (hb h0 hn) hb'
theorem Rd.ofRow {S : List Nat} {w0 w : World} {L Lin : List Res} {A : Option Addr} {n cap T k : Nat} {els : List (List Value)} [hi : InRow L A n cap T k els] [hs : Sub L (.row A n cap T k els :: Lin)] (hw : WOK S w0 L w) : Rd w Lin A n k els :=
  Rd.ofRes hs hw row_old row_fp_bo
theorem Rd.ofRo {S : List Nat} {w0 w : World} {L Lin : List Res} {A : Option Addr} {n k : Nat} {els : List (List Value)} [hi : InRo L A n k els] [hs : Sub L (.ro A n k els :: Lin)] (hw : WOK S w0 L w) (hk : 0 < k) : Rd w Lin A n k els :=
  Rd.ofRes hs hw (fun h => h) fun h hn => by
    have ho : Old w A n k els := h
    have hne : ¬ els.flatten = [] := by
      intro e
      have := flat_len ho.cat
      rw [e, ← ho.len] at this
      have := Nat.mul_pos hn hk
      simp at *
      omega
    simp only [Res.ro, if_neg hne]; simp
theorem Rd.ofBlk {S : List Nat} {w0 w : World} {L Lin : List Res} {b T n k : Nat} {c : List Value} {els : List (List Value)} [hi : InL L b T c] [hs : Sub L (.blk b T c :: Lin)] (hw : WOK S w0 L w) (h1 : n = els.length) (h2 : ∀ c ∈ els, c.length = k) (hc : els.flatten = c) : Rd w Lin (some ⟨b, 0, none⟩) n k els :=
  Rd.ofRes hs hw (fun h => blk_old h h1 h2 hc) fun _ _ => by simp [Res.blk]
theorem Rd.sub {w : World} {Lin : List Res} {A : Option Addr} {n k : Nat} {els : List (List Value)} (h : Rd w Lin A n k els) {cap l m : Nat} (hl : l ≤ m) (hh : m ≤ n) (hc : n ≤ cap) : Rd w Lin (subA A cap l k) (m - l) k ((els.drop l).take (m - l)) :=
  ⟨old_sub h.old hl hh hc, fun hn => by
    rw [bo_subA (h.old.at_ (by omega)).1]
    exact h.away (by omega)⟩

/-! ### respelling; numbers that are natural; lists -/
section
variable {P : Program} {κ : Cx} {e : Env} {L : List Res} {X : Act → World → Prop} {Q : Exit → Act → World → Prop} {d : Tmp} {ty : TypeId} {s : String} {af : Array Edge} {gd : Option (Nat × Bool)}
theorem g_rowels {A : Option Addr} {n cap T k : Nat} {els : List (List Value)} {L' : List Res} (els' : List (List Value)) (he : els = els') [_hi : InRow L A n cap T k els] [hL : UpRow L A n cap T k els (.row A n cap T k els') L'] (h : G κ e L' X) : G κ e L X := by
  subst he
  obtain ⟨i, hi, hL⟩ := hL.at_
  have : L = L' := by
    rw [← hL]
    apply List.ext_getElem?
    intro j
    rw [List.getElem?_set]
    have hlt := (List.getElem?_eq_some_iff.1 hi).1
    split
    · rename_i hj; subst hj; first | (rw [if_pos hlt]; exact hi) | exact hi | simp_all
    · rfl
  exact this ▸ h
theorem g_blkc {b T : Nat} {c : List Value} {L' : List Res} (c' : List Value) [_hi : InL L b T c] (he : c = c') [hL : UpL L b T c c' L'] (h : G κ e L' X) : G κ e L X := by
  subst he
  obtain ⟨i, hi, hL⟩ := hL.at_
  have : L = L' := by
    rw [← hL]
    apply List.ext_getElem?
    intro j
    rw [List.getElem?_set]
    have hlt := (List.getElem?_eq_some_iff.1 hi).1
    split
    · rename_i hj; subst hj; first | (rw [if_pos hlt]; exact hi) | exact hi | simp_all
    · rfl
  exact this ▸ h
section
variable {T T' : Nat} {x y : Operand} {a b : Nat}
theorem q_addn (hx : ev e x = some (.int .i64 (a : Int))) (hy : ev e y = some (.int .i64 (b : Int))) (h : a + b < 9223372036854775808) : QRun P κ e L ⟨some d, .binOp .add T x y T', ty, s, af, gd⟩ (.int .i64 ((a + b : Nat) : Int)) :=
  q_addz hx hy (by rw [wi64 (by omega) (by omega)]; omega)
theorem q_subn (hx : ev e x = some (.int .i64 (a : Int))) (hy : ev e y = some (.int .i64 (b : Int))) (h : b ≤ a) (ha : a < 9223372036854775808) : QRun P κ e L ⟨some d, .binOp .sub T x y T', ty, s, af, gd⟩ (.int .i64 ((a - b : Nat) : Int)) :=
  q_subz hx hy (by rw [wi64 (by omega) (by omega)]; omega)
theorem q_remn (hx : ev e x = some (.int .i64 (a : Int))) (hy : ev e y = some (.int .i64 (b : Int))) (h : 0 < b) : QRun P κ e L ⟨some d, .binOp .rem T x y T', ty, s, af, gd⟩ (.int .i64 ((a % b : Nat) : Int)) :=
  q_rem hx hy (by omega)
theorem q_quon (hx : ev e x = some (.int .i64 (a : Int))) (hy : ev e y = some (.int .i64 (b : Int))) (h : 0 < b) (ha : a < 9223372036854775808) : QRun P κ e L ⟨some d, .binOp .quo T x y T', ty, s, af, gd⟩ (.int .i64 ((a / b : Nat) : Int)) := by
  have h1 := q_quo (P := P) (κ := κ) (L := L) (d := d) (ty := ty) (s := s) (af := af) (gd := gd) (T := T) (T' := T') hx hy (by omega)
  have e1 : IntKind.i64.wrap (((a : Nat) : Int).tdiv ((b : Nat) : Int)) = ((a / b : Nat) : Int) := by
    have h2 : ((a : Nat) : Int).tdiv ((b : Nat) : Int) = ((a / b : Nat) : Int) := rfl
    have h3 : a / b ≤ a := Nat.div_le_self _ _
    rw [h2]
    generalize a / b = q at h3 ⊢
    rw [wi64 (by omega) (by omega)]
  rwa [e1] at h1
theorem q_minn {ts : Array TypeId} (hx : ev e x = some (.int .i64 (a : Int))) (hy : ev e y = some (.int .i64 (b : Int))) : QRun P κ e L ⟨some d, .call { callee := .builtin .min, args := #[x, y], argTypes := ts }, ty, s, af, gd⟩ (.int .i64 ((min a b : Nat) : Int)) := by
  have h := q_min (P := P) (κ := κ) (L := L) (d := d) (ty := ty) (s := s) (af := af) (gd := gd) (ts := ts) hx hy
  have e1 : min (a : Int) (b : Int) = ((min a b : Nat) : Int) := by omega
  rwa [e1] at h
theorem q_maxn {ts : Array TypeId} (hx : ev e x = some (.int .i64 (a : Int))) (hy : ev e y = some (.int .i64 (b : Int))) : QRun P κ e L ⟨some d, .call { callee := .builtin .max, args := #[x, y], argTypes := ts }, ty, s, af, gd⟩ (.int .i64 ((max a b : Nat) : Int)) := by
  have h := q_max (P := P) (κ := κ) (L := L) (d := d) (ty := ty) (s := s) (af := af) (gd := gd) (ts := ts) hx hy
  have e1 : max (a : Int) (b : Int) = ((max a b : Nat) : Int) := by omega
  rwa [e1] at h
end
end
theorem map_get {α : Type} {c : α → List Value} {l : List α} {i : Nat} (h : i < l.length) : (l.map c)[i]? = some (c l[i]) := by simp [h]
theorem take_get {α : Type} {c : α → List Value} {l : List α} {i m : Nat} (h : i < m) (h' : i < l.length) : ((l.map c).take m)[i]? = some (c l[i]) := by
  rw [List.getElem?_take, if_pos h]; exact map_get h'
theorem map_cat {α : Type} {c : α → List Value} {k : Nat} (h : ∀ x, (c x).length = k) (l : List α) : ∀ y ∈ l.map c, y.length = k := fun y hy => by
  obtain ⟨x, _, rfl⟩ := List.mem_map.1 hy; exact h x
theorem map_take_succ {α : Type} {c : α → List Value} {l : List α} {i : Nat} (h : i < l.length) : (l.take i).map c ++ [c l[i]] = (l.take (i + 1)).map c := by
  rw [← List.take_append_getElem h, List.map_append]; rfl
theorem Rdb.h {κ : Cx} {L : List Res} {A : Option Addr} {n k : Nat} {els : List (List Value)} (hr : Rdb κ L A n k els) {cap h : Nat} (hh : h ≤ n) (hc : n ≤ cap) : Rdb κ L (subA A cap 0 k) h k (els.take h) := by
  have := hr.sub (cap := cap) (l := 0) (h := h) (Nat.zero_le _) hh hc
  simpa using this
theorem Rdb.l {κ : Cx} {L : List Res} {A : Option Addr} {n k : Nat} {els : List (List Value)} (hr : Rdb κ L A n k els) {cap l : Nat} (hl : l ≤ n) (hc : n ≤ cap) : Rdb κ L (subA A cap l k) (n - l) k (els.drop l) := by
  have := hr.sub (cap := cap) (l := l) (h := n) hl (Nat.le_refl _) hc
  have e : (els.drop l).take (n - l) = els.drop l := List.take_of_length_le (by simp [hr.len])
  rwa [e] at this
theorem Rd.h {w : World} {Lin : List Res} {A : Option Addr} {n k : Nat} {els : List (List Value)} (hr : Rd w Lin A n k els) {cap h : Nat} (hh : h ≤ n) (hc : n ≤ cap) : Rd w Lin (subA A cap 0 k) h k (els.take h) := by
  have := hr.sub (cap := cap) (l := 0) (m := h) (Nat.zero_le _) hh hc
  simpa using this
/-- a row that is empty and has no room costs nothing -/
theorem WOK.nores {S : List Nat} {w0 w : World} {L : List Res} (h : WOK S w0 L w) (A : Option Addr) (T k : Nat) : WOK S w0 (.row A 0 0 T k [] :: L) w :=
  h.cons (Upd.refl _ _) _ ⟨rfl, by simp, .inl ⟨rfl, rfl⟩⟩ (by simp [Res.row])
theorem g_nores {κ : Cx} {e : Env} {L : List Res} {X : Act → World → Prop} (A : Option Addr) (T k : Nat) (h : G κ e (.row A 0 0 T k [] :: L) X) : G κ e L X := fun a w hs => h a w ⟨hs.defers, hs.size, hs.env, hs.wok.nores A T k⟩
theorem app_take_succ {α : Type} {c : α → List Value} {l m : List α} {i : Nat} (h : i < m.length) : (l ++ m.take i).map c ++ [c m[i]] = (l ++ m.take (i + 1)).map c := by
  rw [← List.take_append_getElem h]
  simp only [List.map_append, List.append_assoc, List.map_cons, List.map_nil]

/-! ### regions that draw their order: more rules -/
section
variable {P : Program} {κ : Cx} {e : Env} {L : List Res} {ops : Array Oper} {Q : Exit → Act → World → Prop} {T : List Nat}
/-- from here on all that is held stays -/
theorem d_clsL {L0 : List Res} {fuel : Nat} {ls : Array Bool} (hL : ∀ w, WOK κ.S κ.w0 L w → WOK κ.S κ.w0 L0 w) (h : G κ e L (wpAnyC P ops T (Cls κ L) Q fuel ls)) : G κ e L (wpAnyC P ops T (Cls κ L0) Q fuel ls) := d_cls hL h
def Pick (P : Program) (ops : Array Oper) (Q : Exit → Act → World → Prop) (κ : Cx) (e : Env) (L : List Res) (K : Array Bool → Act → World → Prop) (ls : Array Bool) (i : Nat) : Prop :=
  G κ e L (wpOpIn (FR none) 0 P ops (onlyN Q) i (K (ls.setIfInBounds i true)))
def AllOf (p : Nat → Prop) : List Nat → Prop
  | [] => True
  | i :: r => p i ∧ AllOf p r
theorem AllOf.get {p : Nat → Prop} : ∀ {is : List Nat}, AllOf p is → ∀ i ∈ is, p i
  | [], _, i, h => by simp at h
  | j :: r, h, i, hi => by
    rcases List.mem_cons.1 hi with rfl | hi
    · exact h.1
    · exact AllOf.get h.2 i hi
/-- several may come up: each of them -/
theorem d_many {L0 : List Res} (is : List Nat) {fuel : Nat} {ls : Array Bool} (hr : Region.ready .any ops ls = is) (hne : is ≠ []) (hL : ∀ w, WOK κ.S κ.w0 L w → WOK κ.S κ.w0 L0 w) (h : AllOf (Pick P ops Q κ e L (wpAnyC P ops T (Cls κ L0) Q fuel) ls) is) :
    G κ e L (wpAnyC P ops T (Cls κ L0) Q (fuel + 1) ls) := fun a w hs => by
  refine ⟨fun _ => hL w hs.wok, fun h0 => absurd (hr.symm.trans h0) hne, fun j hj => ?_⟩
  rw [hr] at hj
  exact h.get j hj a w hs
theorem d_pick {i : Nat} {K : Array Bool → Act → World → Prop} {ls ls' : Array Bool} {d : Option Nat} {op : Op} {t : TypeId} {s : String} {af : Array Edge} (hi : ops[i]? = some ⟨d, op, t, s, af, none⟩) (hls : ls.setIfInBounds i true = ls')
    (h : G κ e L (owp none P ⟨d, op, t, s, af, none⟩ (onlyN Q) (K ls'))) : Pick P ops Q κ e L K ls i := fun a w hs => by
  subst hls
  unfold wpOpIn
  simp only [hi, Region.wanted, if_true]
  exact h a w hs
theorem d_pickg {i : Nat} {K : Array Bool → Act → World → Prop} {ls ls' : Array Bool} {d : Option Nat} {op : Op} {t : TypeId} {s : String} {af : Array Edge} {j : Nat} {b : Bool} {u : Tmp} (hi : ops[i]? = some ⟨d, op, t, s, af, some (j, b)⟩) (hls : ls.setIfInBounds i true = ls')
    (hj : (ops[j]?).bind (·.dst) = some u) (hu : look e u = some (.bool b)) (h : G κ e L (owp none P ⟨d, op, t, s, af, some (j, b)⟩ (onlyN Q) (K ls'))) : Pick P ops Q κ e L K ls i := fun a w hs => by
  subst hls
  obtain ⟨oj, hoj, hdj⟩ := Option.bind_eq_some_iff.1 hj
  have hw : Region.wanted (⟨d, op, t, s, af, some (j, b)⟩ : Oper) (yielded ops a.tmps) = true := by rw [wanted_of rfl hoj hdj (hs.env u _ hu)]; simp
  unfold wpOpIn
  simp only [hi, hw, if_true]
  exact h a w hs
end
theorem pre_succ {α : Type} {l1 l2 : List α} {k : Nat} (h : ∀ j, j < k → l1[j]? = l2[j]?) (hk : l1[k]? = l2[k]?) : ∀ j, j < k + 1 → l1[j]? = l2[j]? := fun j hj => by
  rcases Nat.lt_or_ge j k with hj1 | hj1
  · exact h j hj1
  · obtain rfl : j = k := by omega
    exact hk
theorem pre_all {α : Type} {l1 l2 : List α} {k : Nat} (h : ∀ j, j < k → l1[j]? = l2[j]?) (h1 : l1.length ≤ k) (h2 : l2.length ≤ k) : l1 = l2 := List.ext_getElem? fun j => by
  rcases Nat.lt_or_ge j k with hj1 | hj1
  · exact h j hj1
  · rw [List.getElem?_eq_none (by omega), List.getElem?_eq_none (by omega)]

/-! ### rows: facts, respelling, from now on only read -/
section
variable {κ : Cx} {e : Env} {L : List Res} {X : Act → World → Prop}
theorem row_le {S : List Nat} {w0 w : World} {L : List Res} {A : Option Addr} {n cap T k : Nat} {els : List (List Value)} [hi : InRow L A n cap T k els] (hw : WOK S w0 L w) : n ≤ cap := by
  obtain ⟨i, h⟩ := hi.at_
  obtain ⟨_, _, h3⟩ := hw.sat i _ h
  rcases h3 with ⟨h4, _⟩ | ⟨_, _, _, _, hle, _⟩ <;> omega
theorem g_rowfact (A : Option Addr) {n cap T k : Nat} {els : List (List Value)} [hi : InRow L A n cap T k els] (h : n ≤ cap → cap ≤ maxLen → n = els.length → G κ e L X) : G κ e L X := fun a w hs => by
  obtain ⟨i, hi'⟩ := hi.at_
  obtain ⟨h1, _, h3⟩ := hs.wok.sat i _ hi'
  have hc : cap ≤ maxLen := by rcases h3 with ⟨h4, h5⟩ | ⟨_, _, _, _, _, hm, _⟩ <;> omega
  exact h (row_le (A := A) hs.wok) hc h1 a w hs
theorem g_swap1 {r r' : Res} {L' : List Res} (hr : ∀ S w0 w rest, WOK S w0 (r :: rest) w → WOK S w0 (r' :: rest) w) (hs : Swap L [r] [r'] L') (h : G κ e L' X) : G κ e L X := fun a w hst => by
  obtain ⟨rest, h1, h2⟩ := hs.ex
  exact h a w ⟨hst.defers, hst.size, hst.env, (hr _ _ _ rest (hst.wok.perm h1)).perm h2.symm⟩
theorem g_rown {A : Option Addr} {n cap T k : Nat} {els : List (List Value)} {L' : List Res} (n' : Nat) (hn : n = n') [_hi : InRow L A n cap T k els] [hs : Swap L [.row A n cap T k els] [.row A n' cap T k els] L'] (h : G κ e L' X) : G κ e L X := by
  subst hn; exact g_swap1 (fun _ _ _ _ h => h) hs h
/-- a row of our own, from now on only read -/
theorem g_toRo {A : Option Addr} {n cap T k : Nat} {els : List (List Value)} {L' : List Res} (n' : Nat) (els' : List (List Value)) (hn : n = n') (he : els = els') [_hi : InRow L A n cap T k els] [hs : Swap L [.row A n cap T k els] [.ro A n' k els'] L'] (h : G κ e L' X) : G κ e L X := by
  subst hn; subst he
  exact g_swap1 (fun _ _ _ _ h => h.toRo) hs h
theorem g_roEq {A : Option Addr} {n k : Nat} {els : List (List Value)} {L' : List Res} (n' : Nat) (els' : List (List Value)) (hn : n = n') (he : els = els') [_hi : InRo L A n k els] [hs : Swap L [.ro A n k els] [.ro A n' k els'] L'] (h : G κ e L' X) : G κ e L X := by
  subst hn; subst he
  exact g_swap1 (fun _ _ _ _ h => h) hs h
theorem g_roSub {A : Option Addr} {n k : Nat} {els : List (List Value)} {L' : List Res} (cap l m n' : Nat) (els' : List (List Value)) (hl : l ≤ m) (hh : m ≤ n) (hc : n ≤ cap) (hn : m - l = n') (he : (els.drop l).take (m - l) = els') [_hi : InRo L A n k els] [hs : Swap L [.ro A n k els] [.ro (subA A cap l k) n' k els'] L'] (h : G κ e L' X) : G κ e L X := by
  subst hn; subst he
  exact g_swap1 (fun _ _ _ _ h => h.roSub hl hh hc) hs h
/-- an empty slice that is only read -/
theorem WOK.roNil {S : List Nat} {w0 w : World} {L : List Res} (h : WOK S w0 L w) (A : Option Addr) (k : Nat) : WOK S w0 (.ro A 0 k [] :: L) w :=
  h.cons (Upd.refl _ _) _ (show Old w A 0 k [] from ⟨rfl, by simp, by simp⟩) (by simp [Res.ro])
theorem g_roNil (A : Option Addr) (k : Nat) (h : G κ e (.ro A 0 k [] :: L) X) : G κ e L X := fun a w hs => h a w ⟨hs.defers, hs.size, hs.env, hs.wok.roNil A k⟩
end
theorem map_one {α : Type} {c : α → List Value} (h : ∀ x, ∀ u ∈ c x, u.oneCell' = true) (l : List α) : ∀ y ∈ l.map c, ∀ u ∈ y, u.oneCell' = true := fun y hy => by
  obtain ⟨x, _, rfl⟩ := List.mem_map.1 hy; exact h x
theorem Rdb.nil {κ : Cx} {L : List Res} {A : Option Addr} {k : Nat} : Rdb κ L A 0 k [] := ⟨rfl, by simp, fun _ _ h => absurd h (by omega)⟩
theorem row_max {S : List Nat} {w0 w : World} {L : List Res} {A : Option Addr} {n cap T k : Nat} {els : List (List Value)} [hi : InRow L A n cap T k els] (hw : WOK S w0 L w) : n ≤ 9223372036854775807 := by
  obtain ⟨i, h⟩ := hi.at_
  obtain ⟨_, _, h3⟩ := hw.sat i _ h
  rcases h3 with ⟨h4, _⟩ | ⟨_, _, _, _, hle, hm, _⟩
  · omega
  · unfold maxLen at hm; omega
end Go.Eg
