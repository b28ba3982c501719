/- plain law of the assignment -/
import Derived.Test.YthdkbocfkbnpaaaW7
namespace Go.Proofs.Ythdkbocfkbnpaaa
open Go.RowKit Go.Eg
set_option synthInstance.maxSize 3000
set_option linter.unusedSimpArgs false
set_option linter.unusedVariables false
theorem ofW_app {W : List Int} {w i : Int} (h : 0 ≤ i ∧ i < (W.length : Int)) : ofW (W ++ [w]) i = ofW W i := by
  obtain ⟨j, rfl⟩ : ∃ j : Nat, i = j := ⟨i.toNat, by omega⟩
  rw [ofW_hi (show j < W.length by omega), ofW_hi (show j < (W ++ [w]).length by simp; omega), List.getElem_append_left]
theorem ofW_last {W : List Int} {w : Int} : ofW (W ++ [w]) ((W.length : Nat) : Int) = w := by
  rw [ofW_hi (show W.length < (W ++ [w]).length by simp)]; simp
theorem ofW_pos {W : List Int} (h : ∀ x ∈ W, 0 ≤ x ∧ x ≤ 255) (i : Int) : 0 ≤ ofW W i ∧ ofW W i ≤ 255 := by
  unfold ofW
  split
  · omega
  · rename_i hi
    have hj : i.toNat < W.length := by omega
    rw [List.getElem?_eq_getElem hj]
    exact h _ (List.getElem_mem hj)
def els (q : LL) : List Int := q.f ++ q.v
def remW (W : List Int) (q : LL) : Int := ((els q).map (ofW W)).sum
theorem pop_els {q : LL} (h : headB q = true) : els q = headI q :: els (popL q) := by
  obtain ⟨f, v⟩ := q
  cases f <;> cases v <;> simp_all [headB, headI, popL, els]
theorem remW_pop {W : List Int} {q : LL} (h : headB q = true) : remW W q = ofW W (headI q) + remW W (popL q) := by
  unfold remW
  rw [pop_els h]; simp
theorem remW_pos {W : List Int} (h : ∀ x ∈ W, 0 ≤ x ∧ x ≤ 255) (q : LL) : 0 ≤ remW W q ∧ remW W q ≤ 255 * (lenL q : Int) := by
  have e : lenL q = (els q).length := by simp [lenL, els]
  unfold remW
  rw [e]
  generalize els q = l
  induction l with
  | nil => simp
  | cons a l ih =>
    have := ofW_pos h a
    simp only [List.map_cons, List.sum_cons, List.length_cons]
    omega
theorem sum_map_congr {f g : Int → Int} : ∀ {l : List Int}, (∀ i ∈ l, f i = g i) → (l.map f).sum = (l.map g).sum
  | [], _ => rfl
  | a :: l, h => by
    have ih := sum_map_congr (l := l) fun i hi => h i (List.mem_cons_of_mem _ hi)
    simp only [List.map_cons, List.sum_cons, h a (by simp), ih]
structure PreI (W : List Int) (q : LL) : Prop where
  pos : ∀ x ∈ W, 0 ≤ x ∧ x ≤ 255
  idx : ∀ i ∈ els q, 0 ≤ i ∧ i < (W.length : Int)
theorem push_els {q : LL} {c i : Int} (hc : c = 0 ∨ c = 1) (hl : lenL q < 100) : ∃ a b, els q = a ++ b ∧ els (pushL 100 c i q) = a ++ i :: b := by
  obtain ⟨f, v⟩ := q
  simp only [lenL] at hl
  rcases hc with rfl | rfl
  · exact ⟨f, v, rfl, by simp [pushL, els, show f.length < 100 by omega]⟩
  · exact ⟨f ++ v, [], by simp [els], by simp [pushL, els, show v.length < 100 by omega]⟩
theorem PreI.push {W : List Int} {q : LL} {c i w : Int} (h : PreI W q) (hc : c = 0 ∨ c = 1) (hl : lenL q < 100) (hi : i = (W.length : Int)) (hw : 0 ≤ w ∧ w ≤ 255) :
    PreI (W ++ [w]) (pushL 100 c i q) ∧ remW (W ++ [w]) (pushL 100 c i q) = remW W q + w ∧ lenL (pushL 100 c i q) = lenL q + 1 ∧ (∀ j ∈ els q, j ∈ els (pushL 100 c i q)) ∧ i ∈ els (pushL 100 c i q) := by
  obtain ⟨a, b, e1, e2⟩ := push_els (q := q) (i := i) hc hl
  obtain ⟨hp, hx⟩ := h
  have e0 : ∀ q : LL, lenL q = (els q).length := fun q => by simp [lenL, els]
  refine ⟨⟨?_, ?_⟩, ?_, ?_, ?_, ?_⟩
  · intro x hxm
    rcases List.mem_append.1 hxm with hxm | hxm
    · exact hp x hxm
    · simp at hxm; subst hxm; exact hw
  · intro j hj
    rw [e2] at hj
    have hj2 : j ∈ els q ∨ j = i := by
      rw [e1]
      simp only [List.mem_append, List.mem_cons] at hj ⊢
      rcases hj with hj | rfl | hj <;> simp [*]
    simp only [List.length_append, List.length_cons, List.length_nil]
    rcases hj2 with hj2 | rfl
    · have := hx j hj2; omega
    · omega
  · unfold remW
    rw [e2, e1]
    rw [e1] at hx
    have s1 : (a.map (ofW (W ++ [w]))).sum = (a.map (ofW W)).sum := sum_map_congr fun j hj => ofW_app (hx j (by simp [hj]))
    have s2 : (b.map (ofW (W ++ [w]))).sum = (b.map (ofW W)).sum := sum_map_congr fun j hj => ofW_app (hx j (by simp [hj]))
    have s3 : ofW (W ++ [w]) i = w := by rw [hi]; exact ofW_last
    simp only [List.map_append, List.map_cons, List.sum_append, List.sum_cons, s1, s2, s3]
    omega
  · rw [e0, e0, e2, e1]; simp; omega
  · intro j hj
    rw [e1] at hj; rw [e2]
    simp only [List.mem_append, List.mem_cons] at hj ⊢
    rcases hj with hj | hj <;> simp [hj]
  · rw [e2]; simp
theorem UU_id {n : Int} (h : 0 ≤ n ∧ n ≤ 18446744073709551615) : UU n = n := wu64 h.1 (by omega)
/-- a step that does not assign `own` -/
theorem stepF_own {W : List Int} {e own : Int} (hW : ∀ x ∈ W, 0 ≤ x ∧ x ≤ 255) : ∀ {n : Nat} {q : LL} {m : R} {out : List As}, own ∈ els q → lenL q < n → (0 ≤ m.b ∧ m.b ≤ 18446744073709551615) → (∀ a ∈ (stepF W e n q m out).1, a.i ≠ own) →
    own ∈ els (stepF W e n q m out).2.1 ∧ headB (stepF W e n q m out).2.1 = true ∧ (stepF W e n q m out).2.2.b < ofW W (headI (stepF W e n q m out).2.1) ∧ 0 ≤ (stepF W e n q m out).2.2.b ∧
      (stepF W e n q m out).2.2.b - remW W (stepF W e n q m out).2.1 = m.b - remW W q ∧ (∀ j ∈ els (stepF W e n q m out).2.1, j ∈ els q) ∧ lenL (stepF W e n q m out).2.1 ≤ lenL q
  | 0, q, m, out, _, hn, _, _ => by omega
  | n + 1, q, m, out, ho, hn, hm, hx => by
    have hB : headB q = true := by
      obtain ⟨f, v⟩ := q
      cases f <;> cases v <;> simp_all [headB, els]
    by_cases hT : m.b < ofW W (headI q)
    · rw [stepF_stop hB hT] at hx ⊢
      exact ⟨ho, hB, hT, hm.1, rfl, fun _ h => h, Nat.le_refl _⟩
    · rw [stepF_go hB hT] at hx ⊢
      have hp := ofW_pos hW (headI q)
      have hmb : (m.take (ofW W (headI q))).b = m.b - ofW W (headI q) := by
        unfold R.take; rw [if_neg hT]; exact UU_id ⟨by omega, by omega⟩
      have hl := popL_lt hB
      have hne : own ≠ headI q := by
        intro he
        have hmem : ∀ {n : Nat} {q : LL} {m : R} {out : List As} {a : As}, a ∈ out → a ∈ (stepF W e n q m out).1 := by
          intro n
          induction n with
          | zero => intro q m out a ha; exact ha
          | succ n ih =>
            intro q m out a ha
            unfold stepF
            split
            · exact ha
            · split
              · exact ha
              · exact ih (by simp [ha])
        exact hx ⟨headI q, headC q, e + 1⟩ (hmem (by simp)) he.symm
      have ho2 : own ∈ els (popL q) := by
        rw [pop_els hB] at ho
        rcases List.mem_cons.1 ho with h | h
        · exact absurd h hne
        · exact h
      obtain ⟨r1, r2, r3, r4, r5, r6, r7⟩ := stepF_own hW (n := n) (q := popL q) (m := m.take (ofW W (headI q))) (out := out ++ [⟨headI q, headC q, e + 1⟩]) ho2 (by omega) (by rw [hmb]; omega) hx
      have hr := remW_pop (W := W) hB
      rw [hmb] at r5
      exact ⟨r1, r2, r3, r4, by omega, fun j hj => by rw [pop_els hB]; exact List.mem_cons_of_mem _ (r6 j hj), by omega⟩
theorem stepF_e {W : List Int} {e : Int} : ∀ {n : Nat} {q : LL} {m : R} {out : List As}, (∀ a ∈ out, a.e = e + 1) → ∀ a ∈ (stepF W e n q m out).1, a.e = e + 1
  | 0, _, _, _, h => h
  | n + 1, q, m, out, h => by
    unfold stepF
    split
    · exact h
    · split
      · exact h
      · refine stepF_e fun a ha => ?_
        rcases List.mem_append.1 ha with ha | ha
        · exact h a ha
        · simp at ha; subst ha; rfl
theorem stepF_len {W : List Int} {e : Int} : ∀ {n : Nat} {q : LL} {m : R} {out : List As}, (stepF W e n q m out).2.1.f.length ≤ q.f.length ∧ (stepF W e n q m out).2.1.v.length ≤ q.v.length ∧ (stepF W e n q m out).1.length ≤ out.length + n
  | 0, _, _, _ => by simp [stepF]
  | n + 1, q, m, out => by
    unfold stepF
    split
    · simp
    · split
      · simp
      · have h1 := stepF_len (W := W) (e := e) (n := n) (q := popL q) (m := m.take (ofW W (headI q))) (out := out ++ [⟨headI q, headC q, e + 1⟩])
        have h2 := popL_len q
        simp only [List.length_append, List.length_cons, List.length_nil] at h1
        omega
theorem stepR_len {W : List Int} {e lim : Int} {q : LL} {m : R} {sz : Nat} (h : q.f.length ≤ sz ∧ q.v.length ≤ sz) : (stepR W e lim q m).2.1.f.length ≤ sz ∧ (stepR W e lim q m).2.1.v.length ≤ sz := by
  have := stepF_len (W := W) (e := e) (n := lenL q + 1) (q := q) (m := m.grant lim) (out := [])
  unfold stepR; omega
def gr (c : C) (e : Nat) : Int := ((e : Int) - 1) * c.minch
theorem gr_succ (c : C) (e : Nat) : gr c (e + 1) = gr c e + c.minch := by
  unfold gr
  rw [show (((e + 1 : Nat) : Int) - 1) = ((e : Int) - 1) + 1 by omega, Int.add_mul, Int.one_mul]
theorem gr_one (c : C) : gr c 1 = 0 := by simp [gr]
theorem gr_le {c : C} (hm : 0 ≤ c.minch) {e k : Nat} (h : e ≤ k) : gr c e ≤ gr c k := by
  unfold gr
  exact Int.mul_le_mul_of_nonneg_right (by omega) hm
theorem exit_asg {a b : Int} {c : C} (hc : Cok c) (ha : 0 ≤ a ∧ a ≤ 10000) (hb : 0 ≤ b ∧ b ≤ 255) (hm : 16 ≤ c.minch) (hf : c.fcap ≤ 10000) :
    bdsB 0 a b c [] = true ∧ ∃ K : Nat, bdsV 0 a b c [] = ((K + 1 : Nat) : Int) ∧ 1 ≤ K ∧ K ≤ 30000 ∧ a + b + c.fcap ≤ gr c (K + 1) ∧ gr c (K + 1) ≤ 4611686018427387904 := by
  have h0 := hc.fcap
  have hm2 := hc.minch
  have s1 : ([a, b, c.fcap] : List Int).sum ≤ 18446744073709551615 := by simp only [List.sum_cons, List.sum_nil]; omega
  obtain ⟨s2, s3⟩ := add_fits s1
  obtain ⟨s, hs⟩ : ∃ s, s = addV [a, b, c.fcap] := ⟨_, rfl⟩
  have hs1 : s = a + b + c.fcap := by rw [hs, s3]; simp only [List.sum_cons, List.sum_nil]; omega
  have d0 : ¬ c.minch = 0 := by omega
  have c1 := ceil_mul (a := s) (d := c.minch) (by omega) (by omega)
  have c2 : 0 ≤ ceilV s c.minch ∧ ceilV s c.minch ≤ s ∧ ceilV s c.minch * c.minch ≤ s + c.minch := by
    unfold ceilV
    rw [if_neg d0]
    by_cases hz : s = 0
    · rw [if_pos hz]; omega
    · rw [if_neg hz]
      have q1 : 0 ≤ (s - 1) / c.minch := Int.ediv_nonneg (by omega) (by omega)
      have q2 : (s - 1) / c.minch ≤ s - 1 := Int.ediv_le_self _ (by omega)
      have q3 := Int.ediv_mul_le (s - 1) d0
      rw [Int.add_mul, Int.one_mul]
      omega
  have s4 : epoB s c.minch = true := by simp [epoB, d0]; omega
  have s5 : bndB a b c = true := by simp only [bndB, s2, ← hs, s4, Bool.and_self]
  have s6 : bndV a b c = max (ceilV s c.minch) 1 := by unfold bndV; rw [if_pos s5, ← hs]; unfold epoV; rw [if_pos s4]
  have s7 : latB (0 :: ([bndV a b c, 1] ++ [])) = true := by
    unfold latB
    refine decide_eq_true ⟨?_, ?_⟩
    · intro x hx
      simp only [List.append_nil, List.mem_cons, List.not_mem_nil, or_false] at hx
      rcases hx with rfl | rfl | rfl <;> omega
    · simp only [List.append_nil, List.sum_cons, List.sum_nil]; omega
  refine ⟨by simp only [bdsB, s5, s7, Bool.and_self], (max (ceilV s c.minch) 1).toNat, ?_, ?_, ?_, ?_, ?_⟩
  · unfold bdsV latV
    rw [if_pos s5, if_pos s7, s6]
    simp only [List.append_nil, List.sum_cons, List.sum_nil]; omega
  · omega
  · omega
  · unfold gr
    rw [show (((max (ceilV s c.minch) 1).toNat + 1 : Nat) : Int) - 1 = max (ceilV s c.minch) 1 by omega]
    rcases Int.le_total (ceilV s c.minch) 1 with h | h
    · rw [Int.max_eq_right h]
      have : ceilV s c.minch * c.minch ≤ 1 * c.minch := Int.mul_le_mul_of_nonneg_right h (by omega)
      omega
    · rw [Int.max_eq_left h]; omega
  · unfold gr
    rw [show (((max (ceilV s c.minch) 1).toNat + 1 : Nat) : Int) - 1 = max (ceilV s c.minch) 1 by omega]
    rcases Int.le_total (ceilV s c.minch) 1 with h | h
    · rw [Int.max_eq_right h]; omega
    · rw [Int.max_eq_left h]; omega
theorem asg_next {W : List Int} {q : LL} {m : R} {own e lim G T : Int} {st : List As × LL × R} (hst : stepR W e lim q m = st) (hI : PreI W q) (ho : own ∈ els q) (hb : m.b = G - T + remW W q) (hmb : 0 ≤ m.b) (hl : 0 ≤ lim) (hg : 0 ≤ G ∧ G + lim ≤ 4611686018427387904) (hT : 0 ≤ T) (hlen : lenL q ≤ 1000) (hx : ∀ a ∈ st.1, a.i ≠ own) :
    PreI W st.2.1 ∧ own ∈ els st.2.1 ∧ st.2.2.b = G + lim - T + remW W st.2.1 ∧ 0 ≤ st.2.2.b ∧ st.2.2.b < ofW W (headI st.2.1) ∧ headB st.2.1 = true ∧ lenL st.2.1 ≤ lenL q := by
  have hr := remW_pos hI.pos q
  have hgb : (m.grant lim).b = m.b + lim := by
    show UU (m.b + min lim (UU (18446744073709551615 - m.b))) = _
    rw [UU_id (n := 18446744073709551615 - m.b) (by omega), UU_id (by omega)]; omega
  subst hst
  obtain ⟨r1, r2, r3, r4, r5, r6, r7⟩ := stepF_own (e := e) (own := own) hI.pos (n := lenL q + 1) (m := m.grant lim) (out := []) ho (by omega) (by rw [hgb]; omega) hx
  rw [hgb] at r5
  unfold stepR
  exact ⟨⟨hI.pos, fun i hi => hI.idx i (r6 i hi)⟩, r1, by omega, r4, r3, r2, r7⟩
theorem asg_end {W : List Int} {q : LL} {b G T s : Int} (hI : PreI W q) (hb : b = G - T + remW W q) (hlt : b < ofW W (headI q)) (hB : headB q = true) (hT : T ≤ s) (hs : s ≤ G) : False := by
  have h1 := remW_pop (W := W) hB
  have h2 := remW_pos hI.pos (popL q)
  omega
theorem stepR_e {W : List Int} {q : LL} {m : R} {e lim : Int} {st : List As × LL × R} (hst : stepR W e lim q m = st) : ∀ a ∈ st.1, a.e = e + 1 := by
  subst hst
  exact stepF_e (by simp)
theorem stepR_cnt {W : List Int} {q : LL} {m : R} {e lim : Int} {st : List As × LL × R} (hst : stepR W e lim q m = st) : st.1.length ≤ lenL q + 1 := by
  subst hst
  have := stepF_len (W := W) (e := e) (n := lenL q + 1) (q := q) (m := m.grant lim) (out := [])
  unfold stepR; simp only [List.length_nil] at this; omega
end Go.Proofs.Ythdkbocfkbnpaaa
