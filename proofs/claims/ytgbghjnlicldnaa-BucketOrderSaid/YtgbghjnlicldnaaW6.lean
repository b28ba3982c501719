/- sorted lists of entries; the comparison -/
import Derived.Test.YtgbghjnlicldnaaW4
import Derived.Test.YtgbghjnlicldnaaZB
namespace Go.Proofs.Ytgbghjnlicldnaa
open Go.RowKit Go.Eg
set_option synthInstance.maxSize 3000
set_option linter.unusedSimpArgs false
set_option linter.unusedVariables false
set_option maxRecDepth 100000
def flt (e : Int) (l : List En) : List En := l.filter fun x => decide (x.e = e)
theorem flt_app (e : Int) (a b : List En) : flt e (a ++ b) = flt e a ++ flt e b := by simp [flt]
def Srt (l : List En) : Prop := l.Pairwise fun x y => x.e ≤ y.e
def Same (a b : List En) : Prop := ∀ e, flt e a = flt e b
theorem Same.rfl' {a : List En} : Same a a := fun _ => rfl
theorem Same.symm {a b : List En} (h : Same a b) : Same b a := fun e => (h e).symm
theorem Same.trans {a b c : List En} (h : Same a b) (k : Same b c) : Same a c := fun e => (h e).trans (k e)
theorem Same.app {a b c d : List En} (h : Same a b) (k : Same c d) : Same (a ++ c) (b ++ d) := fun e => by rw [flt_app, flt_app, h e, k e]
theorem mem_flt {x : En} {l : List En} : x ∈ l ↔ x ∈ flt x.e l := by simp [flt]
theorem Same.mem {a b : List En} (h : Same a b) (x : En) : x ∈ a ↔ x ∈ b := by rw [mem_flt, h x.e, ← mem_flt]
theorem flt_none {e : Int} {l : List En} (h : ∀ x ∈ l, ¬ x.e = e) : flt e l = [] := List.filter_eq_nil_iff.2 fun x hx => by simp [h x hx]
/-- two blocks with no epoch in common may change places -/
theorem Same.swap {a b : List En} (h : ∀ x ∈ a, ∀ y ∈ b, ¬ x.e = y.e) : Same (a ++ b) (b ++ a) := fun e => by
  rw [flt_app, flt_app]
  by_cases ha : ∃ x ∈ a, x.e = e
  · obtain ⟨x, hx, rfl⟩ := ha
    have : flt x.e b = [] := flt_none fun y hy hc => h x hx y hy hc.symm
    rw [this]; simp
  · have : flt e a = [] := flt_none fun x hx hc => ha ⟨x, hx, hc⟩
    rw [this]; simp
theorem srt_app {a b : List En} : Srt (a ++ b) ↔ Srt a ∧ Srt b ∧ ∀ x ∈ a, ∀ y ∈ b, x.e ≤ y.e := List.pairwise_append
theorem Srt.nil : Srt [] := List.Pairwise.nil
theorem Srt.one (x : En) : Srt [x] := List.pairwise_singleton _ _
theorem Srt.take {l : List En} (h : Srt l) (n : Nat) : Srt (l.take n) := List.Pairwise.sublist (List.take_sublist _ _) h
theorem Srt.drop {l : List En} (h : Srt l) (n : Nat) : Srt (l.drop n) := List.Pairwise.sublist (List.drop_sublist _ _) h
theorem Srt.get {l : List En} (h : Srt l) {i j : Nat} (hj : j < l.length) (hij : i ≤ j) : (l[i]'(by omega)).e ≤ l[j].e := by
  rcases Nat.lt_or_eq_of_le hij with h1 | h1
  · exact List.pairwise_iff_getElem.1 h i j (by omega) hj h1
  · subst h1; exact Int.le_refl _
/-- sorted lists with the same elements of each epoch are one -/
theorem Srt.eq : ∀ {a b : List En}, Srt a → Srt b → Same a b → a = b
  | [], [], _, _, _ => rfl
  | [], y :: b, _, _, h => by have := (h.mem y).2 (by simp); simp at this
  | x :: a, [], _, _, h => by have := (h.mem x).1 (by simp); simp at this
  | x :: a, y :: b, ha, hb, h => by
    have ha' := List.pairwise_cons.1 ha
    have hb' := List.pairwise_cons.1 hb
    have h1 : x.e ≤ y.e := by
      rcases List.mem_cons.1 ((h.mem y).2 (by simp)) with e | e
      · rw [e]; exact Int.le_refl _
      · exact ha'.1 y e
    have h2 : y.e ≤ x.e := by
      rcases List.mem_cons.1 ((h.mem x).1 (by simp)) with e | e
      · rw [e]; exact Int.le_refl _
      · exact hb'.1 x e
    have h3 := h x.e
    have e1 : flt x.e (x :: a) = x :: flt x.e a := by simp [flt]
    have e2 : flt x.e (y :: b) = y :: flt x.e b := by
      have : y.e = x.e := by omega
      simp [flt, this]
    rw [e1, e2] at h3
    injection h3 with hxy _
    subst hxy
    rw [Srt.eq ha'.2 hb'.2 fun e => by
      have := h e
      have e3 : ∀ l, flt e (x :: l) = (if x.e = e then [x] else []) ++ flt e l := fun l => by
        unfold flt; rw [List.filter_cons]; by_cases hx : x.e = e <;> simp [hx]
      rw [e3, e3] at this
      exact List.append_cancel_left this]
/-- one step of an insertion -/
theorem ins_done {B1 B2 : List En} {x : En} (h : Srt (B1 ++ B2)) (h2 : ∀ y ∈ B2, x.e < y.e) (h1 : ∀ z, B1.getLast? = some z → z.e ≤ x.e) : Srt (B1 ++ x :: B2) ∧ Same (B1 ++ x :: B2) (B1 ++ B2 ++ [x]) := by
  obtain ⟨s1, s2, s12⟩ := srt_app.1 h
  constructor
  · refine srt_app.2 ⟨s1, List.pairwise_cons.2 ⟨fun y hy => Int.le_of_lt (h2 y hy), s2⟩, fun y hy z hz => ?_⟩
    rcases List.mem_cons.1 hz with rfl | hz
    · have hne : B1 ≠ [] := fun e => by subst e; simp at hy
      have hl := h1 _ (List.getLast?_eq_some_getLast hne)
      have hle : y.e ≤ (B1.getLast hne).e := by
        have e := List.dropLast_concat_getLast hne
        replace hy : y ∈ B1.dropLast ++ [B1.getLast hne] := by rw [e]; exact hy
        replace s1 : Srt (B1.dropLast ++ [B1.getLast hne]) := by rw [e]; exact s1
        rcases List.mem_append.1 hy with hy | hy
        · exact (srt_app.1 s1).2.2 y hy _ (by simp)
        · simp at hy; rw [hy]; exact Int.le_refl _
      omega
    · exact s12 y hy z hz
  · rw [List.append_assoc]
    refine Same.app Same.rfl' ?_
    exact Same.swap (a := [x]) (b := B2) fun u hu y hy => by simp at hu; subst hu; have := h2 y hy; omega
theorem swap_at {U V W : List En} {x y : En} : ((U ++ x :: (V ++ y :: W)).set U.length y).set (U.length + 1 + V.length) x = U ++ y :: (V ++ x :: W) := by
  rw [List.set_append_right _ _ (Nat.le_refl _), Nat.sub_self, List.set_cons_zero, List.set_append_right _ _ (by omega), show U.length + 1 + V.length - U.length = V.length + 1 from by omega, List.set_cons_succ, List.set_append_right _ _ (Nat.le_refl _), Nat.sub_self, List.set_cons_zero]
theorem get_at1 {U W : List En} {x : En} : (U ++ x :: W)[U.length]? = some x := by simp
theorem get_at2 {U V W : List En} {x y : En} : (U ++ x :: (V ++ y :: W))[U.length + 1 + V.length]? = some y := by
  rw [List.getElem?_append_right (by omega), show U.length + 1 + V.length - U.length = V.length + 1 from by omega, List.getElem?_cons_succ]; simp

/-! swapRange -/
def swR (P X M Y S : List En) (i : Nat) : List En := P ++ (Y.take i ++ (X.drop i ++ (M ++ (X.take i ++ (Y.drop i ++ S)))))
theorem swR_len {P X M Y S : List En} (h : X.length = Y.length) (i : Nat) : (swR P X M Y S i).length = (P ++ (X ++ (M ++ (Y ++ S)))).length := by
  simp [swR]; omega
theorem swR_step {P X M Y S d : List En} {i a b : Nat} (hd : d = swR P X M Y S i) (hX : i < X.length) (hY : i < Y.length) (ha : P.length = a) (hb : a + X.length + M.length = b) (h1 : a + i < d.length) (h2 : b + i < d.length) :
    (d.set (a + i) d[b + i]).set (b + i) d[a + i] = swR P X M Y S (i + 1) := by
  have e : swR P X M Y S i = (P ++ Y.take i) ++ X[i] :: ((X.drop (i + 1) ++ (M ++ X.take i)) ++ Y[i] :: (Y.drop (i + 1) ++ S)) := by
    unfold swR; rw [List.drop_eq_getElem_cons hX, List.drop_eq_getElem_cons hY]; simp only [List.append_assoc, List.cons_append]
  have hU : (P ++ Y.take i).length = a + i := by simp; omega
  have hV : (P ++ Y.take i).length + 1 + (X.drop (i + 1) ++ (M ++ X.take i)).length = b + i := by simp; omega
  have g1 : d[a + i] = X[i] := by
    have h := get_at1 (U := P ++ Y.take i) (x := X[i]) (W := (X.drop (i + 1) ++ (M ++ X.take i)) ++ Y[i] :: (Y.drop (i + 1) ++ S))
    rw [← e, ← hd, hU] at h
    exact (List.getElem?_eq_some_iff.1 h).2
  have g2 : d[b + i] = Y[i] := by
    have h := get_at2 (U := P ++ Y.take i) (V := X.drop (i + 1) ++ (M ++ X.take i)) (x := X[i]) (y := Y[i]) (W := Y.drop (i + 1) ++ S)
    rw [← e, ← hd, hV] at h
    exact (List.getElem?_eq_some_iff.1 h).2
  rw [g1, g2, hd, e]
  have h := swap_at (U := P ++ Y.take i) (V := X.drop (i + 1) ++ (M ++ X.take i)) (x := X[i]) (y := Y[i]) (W := Y.drop (i + 1) ++ S)
  rw [hV, hU] at h
  rw [h]
  unfold swR
  rw [← List.take_append_getElem hX, ← List.take_append_getElem hY]
  simp only [List.append_assoc, List.cons_append, List.nil_append]
theorem swR_zero (P X M Y S : List En) : swR P X M Y S 0 = P ++ (X ++ (M ++ (Y ++ S))) := by simp [swR]
theorem swR_end {P X M Y S : List En} {m : Nat} (hX : X.length = m) (hY : Y.length = m) : swR P X M Y S m = P ++ (Y ++ (M ++ (X ++ S))) := by
  unfold swR
  rw [List.take_of_length_le (by omega), List.take_of_length_le (by omega), List.drop_eq_nil_of_le (by omega), List.drop_eq_nil_of_le (by omega)]; simp
/-! one element on its way -/
theorem step_left {P B1 B2 W d : List En} {x z : En} {j : Nat} (hd : d = P ++ ((B1 ++ [z]) ++ (x :: B2 ++ W))) (hj : P.length + (B1 ++ [z]).length = j) (h1 : j < d.length) :
    d[j] = x ∧ d[j - 1] = z ∧ (d.set j d[j - 1]).set (j - 1) d[j] = P ++ (B1 ++ (x :: (z :: B2) ++ W)) := by
  have e : d = (P ++ B1) ++ z :: ([] ++ x :: (B2 ++ W)) := by rw [hd]; simp
  have hU : (P ++ B1).length = j - 1 := by simp at hj ⊢; omega
  have hV : (P ++ B1).length + 1 + ([] : List En).length = j := by simp at hj ⊢; omega
  have g1 : d[j - 1] = z := by
    have h := get_at1 (U := P ++ B1) (x := z) (W := [] ++ x :: (B2 ++ W))
    rw [← e, hU] at h
    exact (List.getElem?_eq_some_iff.1 h).2
  have g2 : d[j] = x := by
    have h := get_at2 (U := P ++ B1) (V := []) (x := z) (y := x) (W := B2 ++ W)
    rw [← e, hV] at h
    exact (List.getElem?_eq_some_iff.1 h).2
  refine ⟨g2, g1, ?_⟩
  have h := swap_at (U := P ++ B1) (V := []) (x := z) (y := x) (W := B2 ++ W)
  rw [← e, hV, hU] at h
  rw [g1, g2, List.set_comm _ _ (by simp at hj; omega), h]; simp
theorem here {P B1 B2 W d : List En} {x : En} {j : Nat} (hd : d = P ++ (B1 ++ (x :: B2 ++ W))) (hj : P.length + B1.length = j) (h1 : j < d.length) : d[j] = x := by
  have e : d = (P ++ B1) ++ x :: (B2 ++ W) := by rw [hd]; simp
  have hU : (P ++ B1).length = j := by simpa using hj
  have h := get_at1 (U := P ++ B1) (x := x) (W := B2 ++ W)
  rw [← e, hU] at h
  exact (List.getElem?_eq_some_iff.1 h).2
theorem last_of {B : List En} (h : 0 < B.length) : ∃ B1 z, B = B1 ++ [z] := by
  have hne : B ≠ [] := List.length_pos_iff.1 h
  exact ⟨B.dropLast, B.getLast hne, (List.dropLast_concat_getLast hne).symm⟩
theorem step_right {P B1 B2 W d : List En} {x z : En} {j : Nat} (hd : d = P ++ (B1 ++ (x :: (z :: B2) ++ W))) (hj : P.length + B1.length = j) (h1 : j + 1 < d.length) :
    (d.set j d[j + 1]).set (j + 1) d[j] = P ++ ((B1 ++ [z]) ++ (x :: B2 ++ W)) := by
  have e : d = (P ++ B1) ++ x :: ([] ++ z :: (B2 ++ W)) := by rw [hd]; simp
  have hU : (P ++ B1).length = j := by simpa using hj
  have hV : (P ++ B1).length + 1 + ([] : List En).length = j + 1 := by simp at hj ⊢; omega
  have g1 : d[j] = x := by
    have h := get_at1 (U := P ++ B1) (x := x) (W := [] ++ z :: (B2 ++ W))
    rw [← e, hU] at h
    exact (List.getElem?_eq_some_iff.1 h).2
  have g2 : d[j + 1] = z := by
    have h := get_at2 (U := P ++ B1) (V := []) (x := x) (y := z) (W := B2 ++ W)
    rw [← e, hV] at h
    exact (List.getElem?_eq_some_iff.1 h).2
  have h := swap_at (U := P ++ B1) (V := []) (x := x) (y := z) (W := B2 ++ W)
  rw [← e, hV, hU] at h
  rw [g1, g2, h]; simp
/-! searches in sorted lists, and merges -/
theorem take_lt {R : List En} (hs : Srt R) {k : Nat} (hk : k < R.length) {c : Int} (h : R[k].e < c) : ∀ y ∈ R.take (k + 1), y.e < c := fun y hy => by
  obtain ⟨i, hi, rfl⟩ := List.getElem_of_mem hy
  rw [List.getElem_take]
  have := hs.get hk (show i ≤ k by simp at hi; omega)
  omega
theorem take_le {R : List En} (hs : Srt R) {k : Nat} (hk : k < R.length) {c : Int} (h : R[k].e ≤ c) : ∀ y ∈ R.take (k + 1), y.e ≤ c := fun y hy => by
  obtain ⟨i, hi, rfl⟩ := List.getElem_of_mem hy
  rw [List.getElem_take]
  have := hs.get hk (show i ≤ k by simp at hi; omega)
  omega
theorem drop_le {R : List En} (hs : Srt R) {k : Nat} (hk : k < R.length) {c : Int} (h : c ≤ R[k].e) : ∀ y ∈ R.drop k, c ≤ y.e := fun y hy => by
  obtain ⟨i, hi, rfl⟩ := List.getElem_of_mem hy
  rw [List.getElem_drop]
  have := hs.get (i := k) (j := k + i) (by simp at hi; omega) (by omega)
  omega
theorem drop_lt {R : List En} (hs : Srt R) {k : Nat} (hk : k < R.length) {c : Int} (h : c < R[k].e) : ∀ y ∈ R.drop k, c < y.e := fun y hy => by
  obtain ⟨i, hi, rfl⟩ := List.getElem_of_mem hy
  rw [List.getElem_drop]
  have := hs.get (i := k) (j := k + i) (by simp at hi; omega) (by omega)
  omega
theorem getL {P L R S d : List En} {a c : Nat} (hd : d = P ++ (L ++ (R ++ S))) (ha : P.length = a) (h1 : a ≤ c) (h2 : c - a < L.length) (hc : c < d.length) : d[c] = L[c - a] := by
  subst hd
  rw [List.getElem_append_right (by omega), List.getElem_append_left (by omega)]
  congr 1; omega
theorem getR {P L R S d : List En} {a m c : Nat} (hd : d = P ++ (L ++ (R ++ S))) (ha : P.length = a) (hm : a + L.length = m) (h1 : m ≤ c) (h2 : c - m < R.length) (hc : c < d.length) : d[c] = R[c - m] := by
  subst hd
  rw [List.getElem_append_right (by omega), List.getElem_append_right (by omega), List.getElem_append_left (by omega)]
  congr 1; omega
theorem one_left {x : En} {R : List En} (hs : Srt R) (k : Nat) (h1 : ∀ y ∈ R.take k, y.e < x.e) (h2 : ∀ y ∈ R.drop k, x.e ≤ y.e) : Srt (R.take k ++ x :: R.drop k) ∧ Same (R.take k ++ x :: R.drop k) ([x] ++ R) := by
  constructor
  · refine srt_app.2 ⟨hs.take k, List.pairwise_cons.2 ⟨h2, hs.drop k⟩, fun y hy z hz => ?_⟩
    have := h1 y hy
    rcases List.mem_cons.1 hz with rfl | hz
    · omega
    · have := h2 z hz; omega
  · have e : Same (R.take k ++ x :: R.drop k) ((R.take k ++ [x]) ++ R.drop k) := fun e => by rw [List.append_assoc]; rfl
    have e2 : Same ([x] ++ R) (([x] ++ R.take k) ++ R.drop k) := fun e => by rw [List.append_assoc, List.take_append_drop]
    refine e.trans (Same.trans (Same.app ?_ Same.rfl') e2.symm)
    exact Same.swap fun y hy z hz => by simp at hz; subst hz; have := h1 y hy; omega
theorem one_right {x : En} {L : List En} (hs : Srt L) (k : Nat) (h1 : ∀ y ∈ L.take k, y.e ≤ x.e) (h2 : ∀ y ∈ L.drop k, x.e < y.e) : Srt (L.take k ++ x :: L.drop k) ∧ Same (L.take k ++ x :: L.drop k) (L ++ [x]) := by
  constructor
  · refine srt_app.2 ⟨hs.take k, List.pairwise_cons.2 ⟨fun y hy => Int.le_of_lt (h2 y hy), hs.drop k⟩, fun y hy z hz => ?_⟩
    have := h1 y hy
    rcases List.mem_cons.1 hz with rfl | hz
    · omega
    · have := h2 z hz; omega
  · have e2 : Same (L ++ [x]) (L.take k ++ (L.drop k ++ [x])) := fun e => by rw [← List.append_assoc, List.take_append_drop]
    refine Same.trans (Same.app Same.rfl' ?_) e2.symm
    exact Same.swap (a := [x]) (b := L.drop k) fun y hy z hz => by simp at hy; subst hy; have := h2 z hz; omega
theorem two_halves {L R M1 M2 : List En} (hL : Srt L) (hR : Srt R) (k q : Nat) (h1 : ∀ y ∈ L.take k, ∀ z ∈ R.drop q, y.e ≤ z.e) (h2 : ∀ y ∈ L.drop k, ∀ z ∈ R.take q, z.e < y.e)
    (s1 : Srt M1) (s2 : Srt M2) (e1 : Same M1 (L.take k ++ R.take q)) (e2 : Same M2 (L.drop k ++ R.drop q)) : Srt (M1 ++ M2) ∧ Same (M1 ++ M2) (L ++ R) := by
  have hLs := (srt_app (a := L.take k) (b := L.drop k)).1 (by rw [List.take_append_drop]; exact hL)
  have hRs := (srt_app (a := R.take q) (b := R.drop q)).1 (by rw [List.take_append_drop]; exact hR)
  constructor
  · refine srt_app.2 ⟨s1, s2, fun y hy z hz => ?_⟩
    rcases List.mem_append.1 ((e1.mem y).1 hy) with hy | hy <;> rcases List.mem_append.1 ((e2.mem z).1 hz) with hz | hz
    · exact hLs.2.2 y hy z hz
    · exact h1 y hy z hz
    · exact Int.le_of_lt (h2 z hz y hy)
    · exact hRs.2.2 y hy z hz
  · refine (Same.app e1 e2).trans ?_
    have a1 : Same ((L.take k ++ R.take q) ++ (L.drop k ++ R.drop q)) (L.take k ++ ((R.take q ++ L.drop k) ++ R.drop q)) := fun e => by simp only [List.append_assoc]
    have a2 : Same (L ++ R) (L.take k ++ ((L.drop k ++ R.take q) ++ R.drop q)) := fun e => by
      rw [List.append_assoc, ← List.append_assoc (L.take k), List.take_append_drop, List.take_append_drop]
    refine a1.trans (Same.trans (Same.app Same.rfl' (Same.app ?_ Same.rfl')) a2.symm)
    exact Same.swap fun y hy z hz => by have := h2 z hz y hy; omega
/-! blocks -/
def Sb (w : Nat) (l : List En) : Prop := ∀ k, Srt ((l.drop (k * w)).take w)
theorem Sb.snoc {w q : Nat} {D M : List En} (h : Sb w D) (hD : D.length = q * w) (hM : M.length ≤ w) (hs : Srt M) : Sb w (D ++ M) := fun k => by
  rcases Nat.lt_or_ge k q with h1 | h1
  · have h2 : (k + 1) * w ≤ q * w := Nat.mul_le_mul_right _ h1
    rw [Nat.succ_mul] at h2
    rw [List.drop_append_of_le_length (by omega), List.take_append_of_le_length (by simp; omega)]
    exact h k
  · have h2 : q * w ≤ k * w := Nat.mul_le_mul_right _ h1
    rw [List.drop_append, List.drop_eq_nil_of_le (by omega), List.nil_append]
    exact (hs.drop _).take _
theorem Sb.nil (w : Nat) : Sb w [] := fun k => by simp [Srt.nil]
theorem Sb.head {w : Nat} {R : List En} (h : Sb w R) : Srt (R.take w) := by have := h 0; simpa using this
theorem Sb.drop {w : Nat} {R : List En} (h : Sb w R) : Sb w (R.drop w) := fun k => by
  have := h (k + 1)
  rw [List.drop_drop, show w + k * w = (k + 1) * w from by rw [Nat.succ_mul]; omega]
  exact this

def cmpE (a b : Int) : Int := if a < b then -1 else if b < a then 1 else 0
theorem cmp_lt {a b : Int} : cmpE a b < 0 ↔ a < b := by unfold cmpE; split <;> (try split) <;> omega
theorem srt_take1 (M : List En) : Srt (M.take 1) := by
  cases M with
  | nil => exact Srt.nil
  | cons x M => exact Srt.one x

set_option maxHeartbeats 400000 in
theorem isnan_any (a : Int) (w : World)  : Pur Try.prog 38 [.int .i64 a] w (.bool false) := by
  refine g_start Try.func38 rfl 6 rfl (by simp) ([]) [] (WOK.start _ _) _ rfl ?_
  refine g_seq ?_
  refine g_region ?_
  refine s_q (q_assign rfl) rfl ?_
  refine g_nil ?_
  refine g_then ?_
  refine g_seq ?_
  refine g_region ?_
  refine s_q (q_move rfl) rfl ?_
  refine s_q (q_move rfl) rfl ?_
  refine s_q (q_neq rfl rfl) rfl ?_
  refine s_q (q_assign rfl) rfl ?_
  refine g_nil ?_
  refine g_then ?_
  refine g_ret ?_
  exact fin1 rfl (.tmp rfl) (fun w' hw' => ⟨by simp, hw'.upd⟩) _ (.inl rfl)

set_option maxHeartbeats 400000 in
theorem compare_any (a b : Int) (w : World)  : Pur Try.prog 33 [.int .i64 a, .int .i64 b] w (.int .i64 (cmpE a b)) := by
  refine g_start Try.func33 rfl 20 rfl (by simp) ([]) [] (WOK.start _ _) _ rfl ?_
  refine g_seq ?_
  refine g_region ?_
  refine s_q (q_assign rfl) rfl ?_
  refine g_nil ?_
  refine g_then ?_
  refine g_seq ?_
  refine g_region ?_
  refine s_q (q_move rfl) rfl ?_
  refine g_op (g_pure rfl (fun w1 hw1 => isnan_any _ w1) rfl ?_)
  refine s_q (q_assign rfl) rfl ?_
  refine g_nil ?_
  refine g_then ?_
  refine g_seq ?_
  refine g_region ?_
  refine s_q (q_move rfl) rfl ?_
  refine g_op (g_pure rfl (fun w1 hw1 => isnan_any _ w1) rfl ?_)
  refine s_q (q_assign rfl) rfl ?_
  refine g_nil ?_
  refine g_then ?_
  refine g_seq ?_
  refine g_seq ?_
  refine g_region ?_
  refine s_q (q_move rfl) rfl ?_
  refine g_nil ?_
  refine g_then ?_
  refine g_false rfl ?_
  refine g_skip ?_
  refine g_then ?_
  refine g_seq ?_
  refine g_seq ?_
  refine g_region ?_
  refine s_q (q_move rfl) rfl ?_
  refine g_nil ?_
  refine g_then ?_
  refine g_false rfl ?_
  refine g_skip ?_
  refine g_then ?_
  refine g_seq ?_
  refine g_seq ?_
  refine g_region ?_
  refine s_q (q_move rfl) rfl ?_
  refine s_q (q_move rfl) rfl ?_
  refine s_q (q_lss rfl rfl) rfl ?_
  refine g_nil ?_
  refine g_then ?_
  refine g_cond rfl (fun h1 => ?_) (fun h1 => ?_)
  · refine g_seq ?_
    refine g_region ?_
    refine s_q (q_assign rfl) rfl ?_
    refine g_nil ?_
    refine g_then ?_
    refine g_ret ?_
    refine g_then_ret ?_
    exact fin1 rfl (.tmp rfl) (fun w' hw' => ⟨by first | (simp_all [cmpE]; done) | (simp_all [cmpE]; omega), hw'.upd⟩) _ (.inl rfl)
  · refine g_skip ?_
    refine g_then ?_
    refine g_seq ?_
    refine g_seq ?_
    refine g_region ?_
    refine s_q (q_move rfl) rfl ?_
    refine s_q (q_move rfl) rfl ?_
    refine s_q (q_gtr rfl rfl) rfl ?_
    refine g_nil ?_
    refine g_then ?_
    refine g_cond rfl (fun h2 => ?_) (fun h2 => ?_)
    · refine g_seq ?_
      refine g_region ?_
      refine s_q (q_assign rfl) rfl ?_
      refine g_nil ?_
      refine g_then ?_
      refine g_ret ?_
      refine g_then_ret ?_
      exact fin1 rfl (.tmp rfl) (fun w' hw' => ⟨by first | (simp_all [cmpE]; done) | (simp_all [cmpE]; omega), hw'.upd⟩) _ (.inl rfl)
    · refine g_skip ?_
      refine g_then ?_
      refine g_seq ?_
      refine g_region ?_
      refine s_q (q_assign rfl) rfl ?_
      refine g_nil ?_
      refine g_then ?_
      refine g_ret ?_
      exact fin1 rfl (.tmp rfl) (fun w' hw' => ⟨by first | (simp_all [cmpE]; done) | (simp_all [cmpE]; omega), hw'.upd⟩) _ (.inl rfl)

set_option maxHeartbeats 400000 in
theorem cmp_any (x1 y1 : En) (w : World)  : Pur Try.prog 32 [.agg x1.c.toArray, .agg y1.c.toArray] w (.int .i64 (cmpE x1.e y1.e)) := by
  refine g_start Try.func32 rfl 10 rfl (by simp) ([]) [] (WOK.start _ _) _ rfl ?_
  refine g_seq ?_
  refine g_region ?_
  refine g_op (g_box rfl rfl rfl fun b2 => ?_)
  refine g_op (g_box rfl rfl rfl fun b3 => ?_)
  refine s_q (q_assign rfl) rfl ?_
  refine g_nil ?_
  refine g_then ?_
  refine g_seq ?_
  refine g_region ?_
  refine s_q (q_field rfl) rfl ?_
  refine s_q (q_load rfl rfl) rfl ?_
  refine s_q (q_field rfl) rfl ?_
  refine s_q (q_load rfl rfl) rfl ?_
  refine g_op (g_pure rfl (fun w1 hw1 => compare_any _ _ w1) rfl ?_)
  refine s_q (q_assign rfl) rfl ?_
  refine g_nil ?_
  refine g_then ?_
  refine g_ret ?_
  exact fin1 rfl (.tmp rfl) (fun w' hw' => ⟨by rfl, hw'.upd⟩) _ (.inl rfl)
end Go.Proofs.Ytgbghjnlicldnaa
