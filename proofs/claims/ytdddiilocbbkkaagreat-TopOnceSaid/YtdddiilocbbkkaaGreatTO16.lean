/- TopOnce: for every configuration and all operations the law returns true. No condition. Part 16 of 27. -/
import Derived.Test.YtdddiilocbbkkaaGreatTO15
set_option linter.unusedVariables false
set_option linter.unusedSimpArgs false
namespace Go.Proofs.YtdddiilocbbkkaaGreat
open Go.RowKit Go.Eg
set_option maxHeartbeats 4000000
set_option synthInstance.maxSize 3000
set_option maxRecDepth 100000
theorem vT (W : List Int) (e : Int) : ∀ (n : Nat) (q : LL) (m : M) (out : List As), ∃ a b : Nat, (stepMF W e n q m out).1 = out ++ ((q.f.take a).map (fun i => As.mk i 0 (e + 1)) ++ (q.v.take b).map (fun i => As.mk i 1 (e + 1)))
  ∧ a ≤ q.f.length ∧ b ≤ q.v.length ∧ (0 < b → a = q.f.length) ∧ (stepMF W e n q m out).2.1 = ⟨q.f.drop a, q.v.drop b⟩
 | 0, q, m, out => ⟨0, 0, by simp [stepMF], by omega, by omega, by omega, by simp [stepMF]⟩
 | n + 1, q, m, out => by
  by_cases hB : headB q = false
  ·refine ⟨0, 0, ?_, by omega, by omega, by omega, ?_⟩ <;> rw [qV hB] <;> simp
  replace hB : headB q = true := by simpa using hB
  by_cases hT : m.bal < ofW W (headI q)
  ·refine ⟨0, 0, ?_, by omega, by omega, by omega, ?_⟩ <;> rw [rO hB hT] <;> simp
  rw [stepMF_go hB hT]
  obtain ⟨f, v⟩ := q
  cases f with
  | cons x f =>
   obtain ⟨a, b, h1, h2, h3, h4, h5⟩ := vT W e n (popL ⟨x :: f, v⟩) (m.take (ofW W (headI ⟨x :: f, v⟩))) (out ++ [⟨headI ⟨x :: f, v⟩, headC ⟨x :: f, v⟩, e + 1⟩])
   simp only [popL] at h1 h2 h3 h4 h5
   refine ⟨a + 1, b, ?_, by simp; omega, h3, fun hb => by simp; exact h4 hb, ?_⟩
   ·simp only [popL]; rw [h1]; simp [headI, headC]
   ·simp only [popL]; rw [h5]; simp
  | nil =>
   cases v with
   | nil => simp [headB] at hB
   | cons y v =>
    obtain ⟨a, b, h1, h2, h3, h4, h5⟩ := vT W e n (popL ⟨[], y :: v⟩) (m.take (ofW W (headI ⟨[], y :: v⟩))) (out ++ [⟨headI ⟨[], y :: v⟩, headC ⟨[], y :: v⟩, e + 1⟩])
    simp only [popL, List.tail_cons] at h1 h2 h3 h4 h5
    refine ⟨a, b + 1, ?_, h2, by simp; omega, fun _ => by simp at h2 ⊢; omega, ?_⟩
    ·simp only [popL, List.tail_cons]; rw [h1]; simp [headI, headC]
    ·simp only [popL, List.tail_cons]; rw [h5]; simp
theorem swp_ok {rd : List Bool} {n pays : Nat} (hn : 0 < n) (a0 : Nat) : ∀ (k at_ : Nat) (paid : List Int) (made : Nat), at_ % n = (a0 + made) % n → made + k ≤ n → (∀ x ∈ paid, ∃ j, j < made ∧ x = (((a0 + j) % n : Nat) : Int) ∧ rd[(a0 + j) % n]? = some true) → paid.Nodup →
  (∀ x ∈ (swp rd n pays k at_ paid made).2.1, ∃ j : Nat, x = j ∧ rd[j]? = some true) ∧ (swp rd n pays k at_ paid made).2.1.Nodup
 | 0, at_, paid, made, _, _, hp, hd => ⟨fun x hx => by obtain ⟨j, _, h1, h2⟩ := hp x hx; exact ⟨_, h1, h2⟩, hd⟩
 | k + 1, at_, paid, made, ha, hk, hp, hd => by
  unfold swp
  split
  ·exact ⟨fun x hx => by obtain ⟨j, _, h1, h2⟩ := hp x hx; exact ⟨_, h1, h2⟩, hd⟩
  ·have hne : ∀ j, j < made → (a0 + j) % n ≠ (a0 + made) % n := fun j hj hc => by
    have h1 := Nat.sub_mod_eq_zero_of_mod_eq hc.symm
    rw [show a0 + made - (a0 + j) = made - j by omega, Nat.mod_eq_of_lt (by omega)] at h1
    omega
   refine swp_ok hn a0 k _ _ _ ?_ (by omega) ?_ ?_
   ·rw [Nat.mod_mod, ha, Nat.mod_add_mod, Nat.add_assoc]
   ·intro x hx
    split at hx
    ·rename_i hr
     rcases List.mem_append.1 hx with hx | hx
     ·obtain ⟨j, h1, h2, h3⟩ := hp x hx; exact ⟨j, by omega, h2, h3⟩
     ·simp only [List.mem_cons, List.not_mem_nil, or_false] at hx
      exact ⟨made, by omega, by rw [hx, ha], by rw [← ha]; exact hr⟩
    ·obtain ⟨j, h1, h2, h3⟩ := hp x hx; exact ⟨j, by omega, h2, h3⟩
   ·split
    ·refine List.nodup_append.2 ⟨hd, by simp, fun x hx y hy => ?_⟩
     simp only [List.mem_cons, List.not_mem_nil, or_false] at hy
     obtain ⟨j, h1, h2, _⟩ := hp x hx
     rw [hy, h2, ha]
     exact fun hc => hne j h1 (by exact_mod_cast hc)
    ·exact hd
theorem qP (at_ : Nat) (rd : List Bool) (visits pays : Int) : (∀ x ∈ (sweepS at_ rd visits pays).2.1, ∃ j : Nat, x = j ∧ rd[j]? = some true) ∧ (sweepS at_ rd visits pays).2.1.Nodup := by
 unfold sweepS
 split
 ·simp
 ·exact swp_ok (by omega) at_ _ _ _ _ (by simp) (by omega) (by simp) (by simp)
theorem xG {l : List V} {i : Int} (h : hasV l i = true) : ∃ k : Nat, i = k ∧ k < l.length := by
 have h := of_decide_eq_true h
 exact ⟨i.toNat, by omega, by omega⟩
theorem hasV_of {l : List V} {k : Nat} (h : k < l.length) : hasV l (k : Int) = true := decide_eq_true (by omega)
theorem hasV_set (l : List V) (k : Nat) (v : V) (j : Int) : hasV (l.set k v) j = hasV l j := by simp [hasV]
theorem got_set {l : List V} {k : Nat} (h : k < l.length) (v : V) (j : Int) : gotV (l.set k v) j = if j = k then v else gotV l j := by
 unfold gotV
 by_cases hj : 0 ≤ j
 ·rw [if_pos hj, if_pos hj, List.getElem?_set]
  by_cases e : k = j.toNat
  ·rw [if_pos e, if_pos h, if_pos (by omega)]; rfl
  ·rw [if_neg e, if_neg (by omega)]
 ·rw [if_neg hj, if_neg hj, if_neg (by omega)]
theorem wR (l : List V) (i : Int) (v : V) : (setV l i v).length = l.length := by unfold setV; split <;> simp
theorem pW (l : List V) (i : Int) (v : V) (j : Int) : hasV (setV l i v) j = hasV l j := by unfold setV; split <;> simp [hasV]
theorem yV (l : List V) (i : Int) (v : V) (j : Int) : gotV (setV l i v) j = if hasV l i = true ∧ j = i then v else gotV l j := by
 unfold setV
 by_cases h : hasV l i = true
 ·obtain ⟨k, rfl, hk⟩ := xG h
  rw [if_pos h, Int.toNat_natCast, got_set hk]
  by_cases e : j = k
  ·rw [if_pos e, if_pos ⟨h, e⟩]
  ·rw [if_neg e, if_neg (fun hc => e hc.2)]
 ·rw [if_neg h, if_neg (fun hc => h hc.1)]
theorem evV_eq (l : List V) (i e : Int) : evV l i e = if nxt (gotV l i).st e ≠ 0 then setV l i { gotV l i with st := nxt (gotV l i).st e } else l := by
 unfold evV setV
 by_cases h : hasV l i = true <;> by_cases h2 : nxt (gotV l i).st e ≠ 0 <;> simp [h, h2]
theorem len_ev (l : List V) (i e : Int) : (evV l i e).length = l.length := by
 rw [evV_eq]; split
 ·exact wR _ _ _
 ·rfl
theorem has_ev (l : List V) (i e j : Int) : hasV (evV l i e) j = hasV l j := by unfold hasV; rw [len_ev]
theorem pO {e : Int} (he : 1 ≤ e ∧ e ≤ 5) (s : Int) : nxt s e = if s = e then e + 1 else 0 := by
 unfold nxt
 rw [if_neg (by omega), if_neg (by omega)]
 by_cases h : s = e
 ·rw [if_pos ⟨he.1, he.2, h⟩, if_pos h, h]
 ·rw [if_neg (by omega), if_neg h]
theorem got_ev {e : Int} (he : 1 ≤ e ∧ e ≤ 5) (l : List V) (i j : Int) : gotV (evV l i e) j = if j = i ∧ hasV l j = true ∧ (gotV l j).st = e then { gotV l j with st := e + 1 } else gotV l j := by
 rw [evV_eq, pO he]
 by_cases h : (gotV l i).st = e
 ·rw [if_pos h, if_pos (by omega), yV]
  by_cases h2 : hasV l i = true ∧ j = i
  ·obtain ⟨h2, rfl⟩ := h2
   rw [if_pos ⟨h2, rfl⟩, if_pos ⟨rfl, h2, h⟩]
  ·rw [if_neg h2, if_neg (show ¬ (j = i ∧ hasV l j = true ∧ (gotV l j).st = e) from fun hc => h2 ⟨hc.1 ▸ hc.2.1, hc.1⟩)]
 ·rw [if_neg h, if_neg (by omega), if_neg (show ¬ (j = i ∧ hasV l j = true ∧ (gotV l j).st = e) from fun hc => h (hc.1 ▸ hc.2.2))]
theorem uA {e : Int} (he : 1 ≤ e ∧ e ≤ 5) : ∀ (is : List Int) (l : List V), (is.foldl (fun l i => evV l i e) l).length = l.length ∧
  ∀ j, gotV (is.foldl (fun l i => evV l i e) l) j = if j ∈ is ∧ hasV l j = true ∧ (gotV l j).st = e then { gotV l j with st := e + 1 } else gotV l j
 | [], l => ⟨rfl, fun j => by simp⟩
 | i :: is, l => by
  obtain ⟨h1, h2⟩ := uA he is (evV l i e)
  refine ⟨by rw [List.foldl_cons, h1, len_ev], fun j => ?_⟩
  rw [List.foldl_cons, h2 j, has_ev]
  have hg := got_ev he l i j
  by_cases hj : j = i ∧ hasV l j = true ∧ (gotV l j).st = e
  ·rw [if_pos hj] at hg
   rw [hg, if_neg (by rintro ⟨_, _, h⟩; simp only at h; omega), if_pos ⟨by simp [hj.1], hj.2⟩]
  ·rw [if_neg hj] at hg
   rw [hg]
   by_cases hm : j ∈ is ∧ hasV l j = true ∧ (gotV l j).st = e
   ·rw [if_pos hm, if_pos ⟨by simp [hm.1], hm.2⟩]
   ·rw [if_neg hm, if_neg]
    rintro ⟨h1, h2⟩
    rcases List.mem_cons.1 h1 with h | h
    ·exact hj ⟨h, h2⟩
    ·exact hm ⟨h, h2⟩
theorem putE_in {bo : List En} {e i : Int} (h : 0 ≤ e ∧ e ≤ 1099511627776) : putE bo e i = bo ++ [⟨e, i⟩] := if_pos (decide_eq_true h)
theorem wd_ev {e : Int} (he : 1 ≤ e ∧ e ≤ 5) (l : List V) (i j : Int) : (gotV (evV l i e) j).wd = (gotV l j).wd := by
 rw [got_ev he]; split <;> rfl
theorem rip_hi {e : Int} {l : List V} {bo : List En} {i : Int} (h : e < (gotV l i).wd) : ripS e (l, bo) i = (l, putE bo (gotV l i).wd i) := if_pos h
theorem rip_lo {e : Int} {l : List V} {bo : List En} {i : Int} (h : ¬ e < (gotV l i).wd) : ripS e (l, bo) i = (evV l i 4, bo) := if_neg h
theorem pB {e : Int} (he : 0 ≤ e) : ∀ (is : List Int) (l : List V) (bo : List En), (∀ j, (gotV l j).wd ≤ 1099511627776) →
  (is.foldl (ripS e) (l, bo)).1.length = l.length ∧
  (∀ j, gotV (is.foldl (ripS e) (l, bo)).1 j = if j ∈ is ∧ hasV l j = true ∧ (gotV l j).wd ≤ e ∧ (gotV l j).st = 4 then { gotV l j with st := 5 } else gotV l j) ∧
  (is.foldl (ripS e) (l, bo)).2 = bo ++ (is.filter fun i => decide (e < (gotV l i).wd)).map fun i => ⟨(gotV l i).wd, i⟩
 | [], l, bo, _ => ⟨rfl, fun j => by simp, by simp⟩
 | i :: is, l, bo, hw => by
  rw [List.foldl_cons]
  by_cases hi : e < (gotV l i).wd
  ·obtain ⟨h1, h2, h3⟩ := pB he is l (putE bo (gotV l i).wd i) hw
   rw [rip_hi hi]
   refine ⟨h1, fun j => ?_, ?_⟩
   ·rw [h2 j]
    by_cases hj : j = i
    ·subst hj; rw [if_neg (by omega), if_neg (by omega)]
    ·simp [hj]
   ·rw [h3, putE_in ⟨by omega, hw i⟩, List.filter_cons, if_pos (decide_eq_true hi), List.map_cons, List.append_assoc, List.singleton_append]
  ·have hw' : ∀ j, (gotV (evV l i 4) j).wd ≤ 1099511627776 := fun j => by rw [wd_ev (by omega)]; exact hw j
   obtain ⟨h1, h2, h3⟩ := pB he is (evV l i 4) bo hw'
   rw [rip_lo hi]
   refine ⟨by rw [h1, len_ev], fun j => ?_, ?_⟩
   ·rw [h2 j, has_ev, wd_ev (by omega)]
    have hg := got_ev (e := 4) (by omega) l i j
    by_cases hj : j = i ∧ hasV l j = true ∧ (gotV l j).st = 4
    ·rw [if_pos hj] at hg
     rw [hg, if_neg (by rintro ⟨_, _, _, h⟩; simp at h), if_pos ⟨by simp [hj.1], hj.2.1, by rw [hj.1]; omega, hj.2.2⟩]; rfl
    ·rw [if_neg hj] at hg
     rw [hg]
     by_cases hm : j ∈ is ∧ hasV l j = true ∧ (gotV l j).wd ≤ e ∧ (gotV l j).st = 4
     ·rw [if_pos hm, if_pos ⟨by simp [hm.1], hm.2⟩]
     ·rw [if_neg hm, if_neg]
      rintro ⟨h1, h2, h3, h4⟩
      rcases List.mem_cons.1 h1 with h | h
      ·exact hj ⟨h, h2, h4⟩
      ·exact hm ⟨h, h2, h3, h4⟩
   ·rw [h3, List.filter_cons, if_neg (by simpa using hi)]
    simp only [wd_ev (show (1 : Int) ≤ 4 ∧ (4 : Int) ≤ 5 by omega)]
theorem got_has {l : List V} {i : Int} (h : hasV l i = true) : gotV l i ∈ l := by
 obtain ⟨k, rfl, hk⟩ := xG h
 rw [yT hk]; exact List.getElem_mem hk
theorem tH {l : List V} {v : V} (h : v ∈ l) : ∃ i, hasV l i = true ∧ gotV l i = v := by
 obtain ⟨k, hk, rfl⟩ := List.getElem_of_mem h
 exact ⟨k, hasV_of hk, yT hk⟩
theorem all_got {p : V → Prop} {l : List V} : (∀ v ∈ l, p v) ↔ ∀ i, hasV l i = true → p (gotV l i) :=
 ⟨fun h i hi => h _ (got_has hi), fun h v hv => by obtain ⟨i, hi, rfl⟩ := tH hv; exact h i hi⟩
theorem got_no {l : List V} {i : Int} (h : hasV l i = false) : (gotV l i).st = 0 := by rw [sR h]; rfl
theorem yU {l : List V} {i : Int} (h : (gotV l i).st ≠ 0) : hasV l i = true := by
 rcases Bool.eq_false_or_eq_true (hasV l i) with h1 | h1
 ·exact h1
 ·exact absurd (got_no h1) h
theorem xJ {l l' : List V} (h : l'.length = l.length) (i : Int) : hasV l' i = hasV l i := by unfold hasV; rw [h]
structure VO (v : V) : Prop where
 b : 0 ≤ v.bal
 s : 1 ≤ v.st ∧ v.st ≤ 7
 r : -1 ≤ v.rq ∧ v.rq ≤ 1099511627776
 x : -1 ≤ v.ex ∧ v.ex ≤ 1099511627776
 w : -1 ≤ v.wd ∧ v.wd ≤ 1099511627776
 d : -1 ≤ v.dl ∧ v.dl ≤ 1099511627776
structure Sm (l l' : List V) : Prop where
 st : ∀ i, 3 ≤ (gotV l' i).st → (gotV l' i).st ≤ 5 → gotV l i = gotV l' i
 ts : ∀ i, (gotV l i).st = 3 ∨ (gotV l i).st = 4 → gotV l' i = gotV l i
 nx : ∀ i, (gotV l' i).st = 1 ∨ (gotV l' i).st = 2 → (gotV l' i).ex = -1 ∨ ((gotV l i).st = 1 ∨ (gotV l i).st = 2) ∧ (gotV l' i).ex = (gotV l i).ex
structure InvE (ep : Int) (l : List V) (q : LL) (bo : List En) (lv : List Int) : Prop where
 lnd : (q.f ++ q.v).Nodup
 lan : ∀ i, i ∈ q.f ++ q.v ↔ (gotV l i).st = 3 ∧ (gotV l i).ex = -1
 vnd : lv.Nodup
 lvs : ∀ i, i ∈ lv ↔ (gotV l i).st = 3 ∧ (gotV l i).ex ≠ -1
 lex : ∀ i ∈ lv, (gotV l i).ex = ep + 1
 bnd : (bo.map En.i).Nodup
 bon : ∀ i, i ∈ bo.map En.i ↔ (gotV l i).st = 4 ∨ (gotV l i).st = 3 ∧ (gotV l i).ex ≠ -1
 bep : ∀ x ∈ bo, ep + 1 ≤ x.e ∧ x.e ≤ (gotV l x.i).wd ∧ ((gotV l x.i).st = 3 → ep + 2 ≤ x.e)
 nex : ∀ i, (gotV l i).st = 1 ∨ (gotV l i).st = 2 → (gotV l i).ex = -1
 rdy : ∀ i, (gotV l i).st = 5 → (gotV l i).wd ≤ ep
theorem Sm.iff {l l' : List V} (h : Sm l l') (p : V → Prop) (i : Int) (n : Int) (hn : n = 3 ∨ n = 4) : ((gotV l' i).st = n ∧ p (gotV l' i)) ↔ ((gotV l i).st = n ∧ p (gotV l i)) := by
 constructor
 ·rintro ⟨h1, h2⟩
  rw [h.st i (by omega) (by omega)]; exact ⟨h1, h2⟩
 ·rintro ⟨h1, h2⟩
  rw [h.ts i (by omega)]; exact ⟨h1, h2⟩
theorem Sm.iff1 {l l' : List V} (h : Sm l l') (i : Int) (n : Int) (hn : n = 3 ∨ n = 4) : (gotV l' i).st = n ↔ (gotV l i).st = n := by
 have := h.iff (fun _ => True) i n hn; simpa using this
theorem InvE.sm {ep : Int} {l l' : List V} {q : LL} {bo : List En} {lv : List Int} (h : InvE ep l q bo lv) (hs : Sm l l') : InvE ep l' q bo lv := by
 have h3 : ∀ i, (gotV l i).st = 3 ∨ (gotV l i).st = 4 → gotV l' i = gotV l i := hs.ts
 refine ⟨h.lnd, fun i => ?_, h.vnd, fun i => ?_, fun i hi => ?_, h.bnd, fun i => ?_, fun x hx => ?_, fun i hi => ?_, fun i hi => ?_⟩
 ·rw [h.lan i, hs.iff (fun v => v.ex = -1) i 3 (.inl rfl)]
 ·rw [h.lvs i, hs.iff (fun v => v.ex ≠ -1) i 3 (.inl rfl)]
 ·rw [h3 i (.inl ((h.lvs i).1 hi).1)]; exact h.lex i hi
 ·rw [h.bon i, hs.iff (fun v => v.ex ≠ -1) i 3 (.inl rfl), hs.iff1 i 4 (.inr rfl)]
 ·have h4 := (h.bon x.i).1 (List.mem_map.2 ⟨x, hx, rfl⟩)
  rw [h3 x.i (by rcases h4 with h4 | h4; exact .inr h4; exact .inl h4.1)]; exact h.bep x hx
 ·rcases hs.nx i hi with h4 | ⟨h4, h5⟩
  ·exact h4
  ·rw [h5]; exact h.nex i h4
 ·rw [← hs.st i (by omega) (by omega)]
  exact h.rdy i (by rw [hs.st i (by omega) (by omega)]; exact hi)
theorem Sm.of {l l' : List V} (h : ∀ j, gotV l' j = gotV l j ∨ ((gotV l j).st ≠ 3 ∧ (gotV l j).st ≠ 4 ∧ (gotV l' j).st ≠ 3 ∧ (gotV l' j).st ≠ 4 ∧ (gotV l' j).st ≠ 5 ∧ ((gotV l' j).st = 1 ∨ (gotV l' j).st = 2 → (gotV l' j).ex = -1 ∨ ((gotV l j).st = 1 ∨ (gotV l j).st = 2) ∧ (gotV l' j).ex = (gotV l j).ex))) : Sm l l' := by
 refine ⟨fun i h1 h2 => ?_, fun i h1 => ?_, fun i h1 => ?_⟩
 ·rcases h i with h3 | h3
  ·exact h3.symm
  ·omega
 ·rcases h i with h3 | h3
  ·exact h3
  ·omega
 ·rcases h i with h3 | h3
  ·exact .inr ⟨by rw [← h3]; exact h1, by rw [h3]⟩
  ·exact h3.2.2.2.2.2 h1
theorem got_app (l : List V) (v : V) (j : Int) : gotV (l ++ [v]) j = if j = (l.length : Int) then v else gotV l j := by
 unfold gotV
 by_cases hj : 0 ≤ j
 ·rw [if_pos hj, if_pos hj]
  obtain ⟨k, rfl⟩ : ∃ k : Nat, j = k := ⟨j.toNat, by omega⟩
  simp only [Int.toNat_natCast]
  by_cases hk : k < l.length
  ·rw [List.getElem?_append_left hk, if_neg (by omega)]
  ·rw [List.getElem?_append_right (by omega)]
   by_cases hk2 : k = l.length
   ·subst hk2; simp
   ·rw [if_neg (by omega), List.getElem?_eq_none (by simp; omega), List.getElem?_eq_none (by omega)]
 ·rw [if_neg hj, if_neg hj, if_neg (by omega)]
theorem Sm.app {l : List V} {v : V} (h : v.st = 1) (hx : v.ex = -1) : Sm l (l ++ [v]) := Sm.of fun j => by
 rw [got_app]
 split
 ·rename_i e
  have h0 : (gotV l j).st = 0 := got_no (by rw [e]; exact decide_eq_false (by omega))
  right
  refine ⟨by omega, by omega, by omega, by omega, by omega, fun _ => .inl hx⟩
 ·exact .inl rfl
theorem rJ {l : List V} {i : Int} {v : V} (h : v.bal = (gotV l i).bal) : bals (setV l i v) = bals l := by
 unfold setV
 split
 ·rename_i hh
  obtain ⟨k, rfl, hk⟩ := xG hh
  rw [yT hk] at h
  simp only [Int.toNat_natCast, bals, List.map_set, h]
  apply List.ext_getElem?
  intro j
  rw [List.getElem?_set]
  split
  ·rename_i hj; subst hj; simp [hk]
  ·rfl
 ·rfl
theorem vJ (l : List V) (i : Int) (v : V) (h : hasV l i = true) : (bals (setV l i v)).sum = (bals l).sum - (gotV l i).bal + v.bal := by
 obtain ⟨k, rfl, hk⟩ := xG h
 unfold setV
 rw [if_pos h, yT hk]
 exact sum_set hk v
theorem bals_ev (l : List V) (i e : Int) : bals (evV l i e) = bals l := by
 rw [evV_eq]
 split
 ·exact rJ rfl
 ·rfl
theorem wA (e : Int) : ∀ (is : List Int) (l : List V), bals (is.foldl (fun l i => evV l i e) l) = bals l
 | [], _ => rfl
 | i :: is, l => by rw [List.foldl_cons, wA e is, bals_ev]
theorem bals_rip (e : Int) : ∀ (is : List Int) (s : List V × List En), bals (is.foldl (ripS e) s).1 = bals s.1
 | [], _ => rfl
 | i :: is, s => by
  rw [List.foldl_cons, bals_rip e is]
  unfold ripS
  split
  ·rfl
  ·exact bals_ev _ _ _
structure Mid (e d : Int) (l : List V) (q : LL) (bo : List En) : Prop where
 lnd : (q.f ++ q.v).Nodup
 lan : ∀ i, i ∈ q.f ++ q.v ↔ (gotV l i).st = 3
 lax : ∀ i, (gotV l i).st = 3 → (gotV l i).ex = -1
 bnd : (bo.map En.i).Nodup
 bon : ∀ i, i ∈ bo.map En.i ↔ (gotV l i).st = 4
 bep : ∀ x ∈ bo, d ≤ x.e ∧ x.e ≤ (gotV l x.i).wd
 nex : ∀ i, (gotV l i).st = 1 ∨ (gotV l i).st = 2 → (gotV l i).ex = -1
 rdy : ∀ i, (gotV l i).st = 5 → (gotV l i).wd ≤ e
theorem uW {e : Int} (he : 1 ≤ e ∧ e ≤ 5) (is : List Int) (l : List V) (j : Int) :
  gotV (is.foldl (fun l i => evV l i e) l) j = if j ∈ is ∧ (gotV l j).st = e then { gotV l j with st := e + 1 } else gotV l j := by
 rw [(uA he is l).2 j]
 by_cases h : (gotV l j).st = e
 ·have hh : hasV l j = true := yU (by omega)
  simp [hh]
 ·simp [h]
theorem InvE.mid {e : Int} {l : List V} {q : LL} {bo : List En} {lv : List Int} (h : InvE (e - 1) l q bo lv) : Mid e e (lv.foldl (fun l i => evV l i 3) l) q bo := by
 have g := uW (e := 3) (by omega) lv l
 have g3 : ∀ j, (gotV l j).st = 3 → (gotV l j).ex ≠ -1 → gotV (lv.foldl (fun l i => evV l i 3) l) j = { gotV l j with st := 4 } := fun j h1 h2 => by rw [g j, if_pos ⟨(h.lvs j).2 ⟨h1, h2⟩, h1⟩]; rfl
 have g0 : ∀ j, ¬ ((gotV l j).st = 3 ∧ (gotV l j).ex ≠ -1) → gotV (lv.foldl (fun l i => evV l i 3) l) j = gotV l j := fun j h1 => by rw [g j, if_neg (fun hc => h1 ((h.lvs j).1 hc.1))]
 refine ⟨h.lnd, fun i => ?_, fun i hi => ?_, h.bnd, fun i => ?_, fun x hx => ?_, fun i hi => ?_, fun i hi => ?_⟩
 ·rw [h.lan i]
  by_cases hc : (gotV l i).st = 3 ∧ (gotV l i).ex ≠ -1
  ·rw [g3 i hc.1 hc.2]; simp [hc]
  ·rw [g0 i hc]
   constructor
   ·exact fun h1 => h1.1
   ·exact fun h1 => ⟨h1, Classical.byContradiction fun h2 => hc ⟨h1, h2⟩⟩
 ·by_cases hc : (gotV l i).st = 3 ∧ (gotV l i).ex ≠ -1
  ·rw [g3 i hc.1 hc.2] at hi; simp at hi
  ·rw [g0 i hc] at hi ⊢
   exact Classical.byContradiction fun h2 => hc ⟨hi, h2⟩
 ·rw [h.bon i]
  by_cases hc : (gotV l i).st = 3 ∧ (gotV l i).ex ≠ -1
  ·rw [g3 i hc.1 hc.2]; simp [hc]
  ·rw [g0 i hc]
   constructor
   ·rintro (h1 | h1)
    ·exact h1
    ·exact absurd h1 hc
   ·exact .inl
 ·obtain ⟨h1, h2, h3⟩ := h.bep x hx
  by_cases hc : (gotV l x.i).st = 3 ∧ (gotV l x.i).ex ≠ -1
  ·rw [g3 x.i hc.1 hc.2]; exact ⟨by have := h3 hc.1; omega, h2⟩
  ·rw [g0 x.i hc]; exact ⟨by omega, h2⟩
 ·by_cases hc : (gotV l i).st = 3 ∧ (gotV l i).ex ≠ -1
  ·rw [g3 i hc.1 hc.2] at hi; simp at hi
  ·rw [g0 i hc] at hi ⊢; exact h.nex i hi
 ·by_cases hc : (gotV l i).st = 3 ∧ (gotV l i).ex ≠ -1
  ·rw [g3 i hc.1 hc.2] at hi; simp at hi
  ·rw [g0 i hc] at hi ⊢
   have := h.rdy i hi; omega
theorem due_mem {e : Int} {bo : List En} {j : Int} : j ∈ dueO e bo ↔ ∃ x ∈ bo, x.e = e ∧ x.i = j := by
 simp only [dueO, List.mem_map, List.mem_filter, decide_eq_true_eq]
 constructor
 ·rintro ⟨x, ⟨h1, h2⟩, h3⟩; exact ⟨x, h1, h2, h3⟩
 ·rintro ⟨x, h1, h2, h3⟩; exact ⟨x, ⟨h1, h2⟩, h3⟩
theorem keep_mem {e : Int} {bo : List En} {x : En} : x ∈ keepE e bo ↔ x ∈ bo ∧ x.e ≠ e := by simp [keepE]
structure Rip (e : Int) (l l' : List V) (bo : List En) : Prop where
 len : l'.length = l.length
 got : ∀ j, gotV l' j = if j ∈ dueO e bo ∧ (gotV l j).wd ≤ e ∧ (gotV l j).st = 4 then { gotV l j with st := 5 } else gotV l j
theorem Mid.rip {e : Int} (he : 0 ≤ e) {l : List V} {q : LL} {bo : List En} (h : Mid e e l q bo) (hw : ∀ j, (gotV l j).wd ≤ 1099511627776) :
  Rip e l (ripE e (l, bo)).1 bo ∧ Mid e (e + 1) (ripE e (l, bo)).1 q (ripE e (l, bo)).2 := by
 obtain ⟨h1, h2, h3⟩ := pB he (dueO e bo) l (keepE e bo) hw
 have g : ∀ j, gotV (ripE e (l, bo)).1 j = if j ∈ dueO e bo ∧ (gotV l j).wd ≤ e ∧ (gotV l j).st = 4 then { gotV l j with st := 5 } else gotV l j := fun j => by
  show gotV ((dueO e bo).foldl (ripS e) (l, keepE e bo)).1 j = _
  rw [h2 j]
  by_cases h4 : (gotV l j).st = 4
  ·have hh : hasV l j = true := yU (by omega)
   simp [hh, h4]
  ·simp [h4]
 have hb : (ripE e (l, bo)).2 = keepE e bo ++ ((dueO e bo).filter fun i => decide (e < (gotV l i).wd)).map fun i => ⟨(gotV l i).wd, i⟩ := h3
 have hmap : ((ripE e (l, bo)).2).map En.i = (keepE e bo).map En.i ++ (dueO e bo).filter fun i => decide (e < (gotV l i).wd) := by
  rw [hb, List.map_append, List.map_map]
  congr 1
  have : (En.i ∘ fun i => (⟨(gotV l i).wd, i⟩ : En)) = id := rfl
  rw [this, List.map_id]
 have gst : ∀ j, (gotV (ripE e (l, bo)).1 j).st ≠ 4 → (gotV (ripE e (l, bo)).1 j).st ≠ 5 → gotV (ripE e (l, bo)).1 j = gotV l j := fun j h4 h5 => by
  rw [g j] at h4 h5 ⊢
  split at h4 <;> simp_all
 have ge4 : ∀ j, (gotV l j).st ≠ 4 → gotV (ripE e (l, bo)).1 j = gotV l j := fun j h4 => by
  rw [g j, if_neg (fun hc => h4 hc.2.2)]
 have uniq : ∀ x ∈ bo, ∀ y ∈ bo, x.i = y.i → x = y := fun x hx y hy hxy => by
  obtain ⟨a, ha, rfl⟩ := List.getElem_of_mem hx
  obtain ⟨b, hb, rfl⟩ := List.getElem_of_mem hy
  have hn := List.pairwise_iff_getElem.1 h.bnd
  rcases Nat.lt_trichotomy a b with hlt | heq | hlt
  ·exact absurd (by rw [List.getElem_map, List.getElem_map]; exact hxy) (hn a b (by simpa using ha) (by simpa using hb) hlt)
  ·subst heq; rfl
  ·exact absurd (by rw [List.getElem_map, List.getElem_map]; exact hxy.symm) (hn b a (by simpa using hb) (by simpa using ha) hlt)
 have mem4 : ∀ i, i ∈ (ripE e (l, bo)).2.map En.i ↔ (gotV (ripE e (l, bo)).1 i).st = 4 := fun i => by
  rw [hmap, List.mem_append]
  constructor
  ·rintro (h4 | h4)
   ·obtain ⟨x, hx, rfl⟩ := List.mem_map.1 h4
    obtain ⟨hx1, hx2⟩ := keep_mem.1 hx
    have h5 : (gotV l x.i).st = 4 := (h.bon x.i).1 (List.mem_map.2 ⟨x, hx1, rfl⟩)
    rw [g x.i, if_neg]
    ·exact h5
    ·rintro ⟨hc, _, _⟩
     obtain ⟨y, hy, hye, hyi⟩ := due_mem.1 hc
     have := uniq y hy x hx1 hyi
     subst this; exact hx2 hye
   ·obtain ⟨h5, h6⟩ := List.mem_filter.1 h4
    have h6 := of_decide_eq_true h6
    obtain ⟨y, hy, hye, rfl⟩ := due_mem.1 h5
    have h7 : (gotV l y.i).st = 4 := (h.bon y.i).1 (List.mem_map.2 ⟨y, hy, rfl⟩)
    rw [g y.i, if_neg (by omega)]; exact h7
  ·intro h4
   have h5 : (gotV l i).st = 4 := by
    rw [g i] at h4
    split at h4
    ·simp at h4
    ·exact h4
   obtain ⟨x, hx, rfl⟩ := List.mem_map.1 ((h.bon i).2 h5)
   by_cases hxe : x.e = e
   ·right
    refine List.mem_filter.2 ⟨due_mem.2 ⟨x, hx, hxe, rfl⟩, decide_eq_true ?_⟩
    refine Classical.byContradiction fun hc => ?_
    rw [g x.i, if_pos ⟨due_mem.2 ⟨x, hx, hxe, rfl⟩, by omega, h5⟩] at h4
    simp at h4
   ·exact .inl (List.mem_map.2 ⟨x, keep_mem.2 ⟨hx, hxe⟩, rfl⟩)
 refine ⟨⟨h1, g⟩, h.lnd, fun i => ?_, fun i hi => ?_, ?_, mem4, fun x hx => ?_, fun i hi => ?_, fun i hi => ?_⟩
 ·rw [h.lan i]
  constructor
  ·intro h4; rw [ge4 i (by omega)]; exact h4
  ·intro h4; rw [gst i (by omega) (by omega)] at h4; exact h4
 ·have hg := gst i (by omega) (by omega)
  rw [hg] at hi ⊢; exact h.lax i hi
 ·rw [hmap]
  have hd : (dueO e bo).Nodup := by
   unfold dueO
   exact (List.filter_sublist.map En.i).nodup h.bnd
  have hk : ((keepE e bo).map En.i).Nodup := (List.filter_sublist.map En.i).nodup h.bnd
  refine List.nodup_append.2 ⟨hk, List.filter_sublist.nodup hd, fun a ha b hb hab => ?_⟩
  obtain ⟨x, hx, rfl⟩ := List.mem_map.1 ha
  obtain ⟨y, hy, hye, hyi⟩ := due_mem.1 (List.mem_filter.1 hb).1
  have := uniq x (keep_mem.1 hx).1 y hy (hab.trans hyi.symm)
  subst this
  exact (keep_mem.1 hx).2 hye
 ·have h4 := (mem4 x.i).1 (List.mem_map.2 ⟨x, hx, rfl⟩)
  have h5 : gotV (ripE e (l, bo)).1 x.i = gotV l x.i := by
   rw [g x.i] at h4 ⊢
   split at h4
   ·simp at h4
   ·rename_i hc; rw [if_neg hc]
  rw [h5]
  rw [hb] at hx
  rcases List.mem_append.1 hx with hx | hx
  ·obtain ⟨hx1, hx2⟩ := keep_mem.1 hx
   have := h.bep x hx1
   omega
  ·obtain ⟨i, hi, rfl⟩ := List.mem_map.1 hx
   have := of_decide_eq_true (List.mem_filter.1 hi).2
   exact ⟨by show e + 1 ≤ (gotV l i).wd; omega, Int.le_refl _⟩
 ·have hg := gst i (by omega) (by omega)
  rw [hg] at hi ⊢; exact h.nex i hi
 ·rw [g i] at hi ⊢
  split
  ·rename_i hc; exact hc.2.1
  ·rename_i hc; rw [if_neg hc] at hi; exact h.rdy i hi
def asV (e : Int) (c : C) (v : V) : V := { v with ex := e, wd := max v.wd (e + c.unb) }
theorem asn_eq {v : V} {e : Int} {c : C} (h3 : v.st = 3) (hx : v.ex = -1) (he : 0 ≤ e) (hu : 0 ≤ c.unb) (hb : e + c.unb ≤ 1099511627776) : asnV v e c = (asV e c v, 0) := by
 have hl : latB [e, c.unb] = true := by
  unfold latB
  refine decide_eq_true ⟨fun x hx => ?_, by simpa using hb⟩
  simp at hx; rcases hx with rfl | rfl <;> assumption
 have hv : latV [e, c.unb] = e + c.unb := by unfold latV; rw [if_pos hl]; simp
 unfold asnV asV
 rw [if_neg (by omega), if_neg (by rw [hl]; simp), hv]
theorem asg_fold {e : Int} {c : C} (he : 0 ≤ e) (hu : 0 ≤ c.unb) (hb : e + c.unb ≤ 1099511627776) : ∀ (ag : List As) (l : List V) (bo : List En) (lv : List Int), (∀ a ∈ ag, a.e = e ∧ (gotV l a.i).st = 3 ∧ (gotV l a.i).ex = -1) → (ag.map As.i).Nodup → (∀ j, (gotV l j).wd ≤ 1099511627776) →
  (ag.foldl (asgS c) (l, bo, lv)).1.length = l.length ∧ (∀ j, gotV (ag.foldl (asgS c) (l, bo, lv)).1 j = if j ∈ ag.map As.i then asV e c (gotV l j) else gotV l j) ∧
  (ag.foldl (asgS c) (l, bo, lv)).2.1 = bo ++ ag.map (fun a => ⟨(asV e c (gotV l a.i)).wd, a.i⟩) ∧ (ag.foldl (asgS c) (l, bo, lv)).2.2 = lv ++ ag.map As.i ∧ bals (ag.foldl (asgS c) (l, bo, lv)).1 = bals l
 | [], l, bo, lv, _, _, _ => ⟨rfl, fun j => by simp, by simp, by simp, rfl⟩
 | a :: ag, l, bo, lv, ha, hn, hw => by
  obtain ⟨h1, h2, h3⟩ := ha a (by simp)
  simp only [List.map_cons, List.nodup_cons] at hn
  have hh : hasV l a.i = true := yU (by omega)
  have e1 : asgS c (l, bo, lv) a = (setV l a.i (asV e c (gotV l a.i)), bo ++ [⟨(asV e c (gotV l a.i)).wd, a.i⟩], lv ++ [a.i]) := by
   have hq := asn_eq (c := c) h2 h3 he hu hb
   unfold asgS
   simp only [h1, hq]
   rw [putE_in (by have := hw a.i; simp only [asV]; omega)]
  have hne : ∀ b ∈ ag, gotV (setV l a.i (asV e c (gotV l a.i))) b.i = gotV l b.i := fun b hb' => by
   rw [yV, if_neg]
   rintro ⟨_, hc⟩
   exact hn.1 (by rw [← hc]; exact List.mem_map.2 ⟨b, hb', rfl⟩)
  obtain ⟨g1, g2, g3, g4, g5⟩ := asg_fold he hu hb ag (setV l a.i (asV e c (gotV l a.i))) (bo ++ [⟨(asV e c (gotV l a.i)).wd, a.i⟩]) (lv ++ [a.i]) (fun b hb' => by rw [hne b hb']; exact ha b (by simp [hb'])) hn.2 (fun j => by
   rw [yV]
   split
   ·have := hw a.i; simp only [asV]; omega
   ·exact hw j)
  rw [List.foldl_cons, e1]
  refine ⟨by rw [g1, wR], fun j => ?_, ?_, ?_, ?_⟩
  ·rw [g2 j, yV]
   by_cases hj : j = a.i
   ·subst hj
    rw [if_neg hn.1, if_pos ⟨hh, rfl⟩, if_pos (by simp)]
   ·rw [if_neg (show ¬ (hasV l a.i = true ∧ j = a.i) from fun hc => hj hc.2)]
    simp [hj]
  ·rw [g3, List.map_cons, List.append_assoc, List.singleton_append]
   congr 2
   exact List.map_congr_left fun b hb' => by rw [hne b hb']
  ·rw [g4]; simp
  ·rw [g5]; exact rJ rfl
theorem wW (W : List Int) (e lim : Int) (q : LL) (m : M) : ∃ a b : Nat, (stepM W e lim q m).1 = (q.f.take a).map (fun i => As.mk i 0 (e + 1)) ++ (q.v.take b).map (fun i => As.mk i 1 (e + 1))
  ∧ a ≤ q.f.length ∧ b ≤ q.v.length ∧ (0 < b → a = q.f.length) ∧ (stepM W e lim q m).2.1 = ⟨q.f.drop a, q.v.drop b⟩ := by
 obtain ⟨a, b, h⟩ := vT W e (lenL q + 1) q (m.grant lim) []
 exact ⟨a, b, by simpa [stepM] using h.1, h.2⟩
theorem mapI (xs : List Int) (c e : Int) : (xs.map (fun i => As.mk i c e)).map As.i = xs := by
 rw [List.map_map]
 have : (As.i ∘ fun i => As.mk i c e) = id := rfl
 rw [this, List.map_id]
theorem rR {f v : List Int} (a b : Nat) (h : (f ++ v).Nodup) : (f.take a ++ v.take b).Nodup ∧ (f.drop a ++ v.drop b).Nodup ∧ (∀ i, i ∈ f ++ v ↔ i ∈ f.take a ++ v.take b ∨ i ∈ f.drop a ++ v.drop b) ∧ ∀ i ∈ f.take a ++ v.take b, i ∉ f.drop a ++ v.drop b := by
 have hp : (f ++ v).Perm ((f.take a ++ v.take b) ++ (f.drop a ++ v.drop b)) := by
  conv => lhs; rw [← List.take_append_drop a f, ← List.take_append_drop b v]
  rw [List.append_assoc, List.append_assoc]
  refine List.Perm.append_left _ ?_
  rw [← List.append_assoc, ← List.append_assoc]
  exact List.Perm.append_right _ List.perm_append_comm
 have hn := hp.nodup_iff.1 h
 obtain ⟨h1, h2, h3⟩ := List.nodup_append.1 hn
 exact ⟨h1, h2, fun i => by rw [hp.mem_iff, List.mem_append], fun i hi hc => h3 i hi i hc rfl⟩
structure Asg (e : Int) (c : C) (l l' : List V) (ag : List As) : Prop where
 len : l'.length = l.length
 got : ∀ j, gotV l' j = if j ∈ ag.map As.i then asV (e + 1) c (gotV l j) else gotV l j
 as3 : ∀ j ∈ ag.map As.i, (gotV l j).st = 3 ∧ (gotV l j).ex = -1
 bal : bals l' = bals l
theorem Mid.asg {e : Int} (he : 0 ≤ e) {c : C} (hu : 1 ≤ c.unb) (hb : e + 1 + c.unb ≤ 1099511627776) {l : List V} {q : LL} {bo : List En} (h : Mid e (e + 1) l q bo) (hw : ∀ j, (gotV l j).wd ≤ 1099511627776) (W : List Int) (lim : Int) (m : M) :
  Asg e c l ((stepM W e lim q m).1.foldl (asgS c) (l, bo, [])).1 (stepM W e lim q m).1 ∧
  InvE e ((stepM W e lim q m).1.foldl (asgS c) (l, bo, [])).1 (stepM W e lim q m).2.1 ((stepM W e lim q m).1.foldl (asgS c) (l, bo, [])).2.1 ((stepM W e lim q m).1.foldl (asgS c) (l, bo, [])).2.2 := by
 obtain ⟨a, b, h1, h2, h3, h4, h5⟩ := wW W e lim q m
 generalize (stepM W e lim q m).1 = ag at h1 ⊢
 generalize (stepM W e lim q m).2.1 = q' at h5 ⊢
 have hI : ag.map As.i = q.f.take a ++ q.v.take b := by rw [h1, List.map_append, mapI, mapI]
 have hE : ∀ x ∈ ag, x.e = e + 1 := fun x hx => by
  rw [h1] at hx
  rcases List.mem_append.1 hx with hx | hx <;> (obtain ⟨i, _, rfl⟩ := List.mem_map.1 hx; rfl)
 obtain ⟨n1, n2, n3, n4⟩ := rR a b h.lnd
 have h3' : ∀ j ∈ ag.map As.i, (gotV l j).st = 3 ∧ (gotV l j).ex = -1 := fun j hj => by
  have : (gotV l j).st = 3 := (h.lan j).1 ((n3 j).2 (.inl (hI ▸ hj)))
  exact ⟨this, h.lax j this⟩
 obtain ⟨g1, g2, g3, g4, g5⟩ := asg_fold (e := e + 1) (c := c) (by omega) (by omega) hb ag l bo [] (fun x hx => ⟨hE x hx, h3' x.i (List.mem_map.2 ⟨x, hx, rfl⟩)⟩) (hI ▸ n1) hw
 refine ⟨⟨g1, g2, h3', g5⟩, ?_⟩
 have gn : ∀ j, j ∉ ag.map As.i → gotV (ag.foldl (asgS c) (l, bo, [])).1 j = gotV l j := fun j hj => by rw [g2 j, if_neg hj]
 have gy : ∀ j, j ∈ ag.map As.i → gotV (ag.foldl (asgS c) (l, bo, [])).1 j = asV (e + 1) c (gotV l j) := fun j hj => by rw [g2 j, if_pos hj]
 have not3 : ∀ j, (gotV l j).st ≠ 3 → j ∉ ag.map As.i := fun j hj hc => hj (h3' j hc).1
 have hbm : (ag.foldl (asgS c) (l, bo, [])).2.1.map En.i = bo.map En.i ++ ag.map As.i := by
  rw [g3, List.map_append, List.map_map]; rfl
 have st4 : ∀ i, (gotV (ag.foldl (asgS c) (l, bo, [])).1 i).st = (gotV l i).st := fun i => by
  rw [g2 i]; split <;> rfl
 rw [show (ag.foldl (asgS c) (l, bo, [])).2.2 = ag.map As.i by rw [g4]; rfl]
 refine ⟨?_, fun i => ?_, hI ▸ n1, fun i => ?_, fun i hi => ?_, ?_, fun i => ?_, fun x hx => ?_, fun i hi => ?_, fun i hi => ?_⟩
 ·rw [h5]; exact n2
 ·rw [h5, st4]
  constructor
  ·intro hi
   have h3 : (gotV l i).st = 3 := (h.lan i).1 ((n3 i).2 (.inr hi))
   refine ⟨h3, ?_⟩
   rw [gn i (fun hc => n4 i (hI ▸ hc) hi)]
   exact h.lax i h3
  ·rintro ⟨hs, hx⟩
   rcases (n3 i).1 ((h.lan i).2 hs) with hi | hi
   ·rw [gy i (hI ▸ hi)] at hx
    simp only [asV] at hx; omega
   ·exact hi
 ·rw [st4]
  constructor
  ·intro hi
   exact ⟨(h3' i hi).1, by rw [gy i hi]; simp only [asV]; omega⟩
  ·rintro ⟨hs, hx⟩
   refine Classical.byContradiction fun hc => hx ?_
   rw [gn i hc]; exact h.lax i hs
 ·rw [gy i hi]; rfl
 ·rw [hbm]
  refine List.nodup_append.2 ⟨h.bnd, hI ▸ n1, fun x hx y hy hxy => ?_⟩
  have := (h.bon x).1 hx
  have := (h3' y hy).1
  subst hxy; omega
 ·rw [hbm, List.mem_append, st4]
  constructor
  ·rintro (hi | hi)
   ·exact .inl ((h.bon i).1 hi)
   ·exact .inr ⟨(h3' i hi).1, by rw [gy i hi]; simp only [asV]; omega⟩
  ·rintro (hi | ⟨hs, hx⟩)
   ·exact .inl ((h.bon i).2 hi)
   ·refine .inr (Classical.byContradiction fun hc => hx ?_)
    rw [gn i hc]; exact h.lax i hs
 ·rw [g3] at hx
  rcases List.mem_append.1 hx with hx | hx
  ·have h6 : (gotV l x.i).st = 4 := (h.bon x.i).1 (List.mem_map.2 ⟨x, hx, rfl⟩)
   rw [gn x.i (not3 x.i (by omega))]
   have := h.bep x hx
   exact ⟨this.1, this.2, fun hc => by omega⟩
  ·obtain ⟨y, hy, rfl⟩ := List.mem_map.1 hx
   rw [gy y.i (List.mem_map.2 ⟨y, hy, rfl⟩)]
   simp only [asV]
   exact ⟨by omega, by omega, fun _ => by omega⟩
 ·rw [st4] at hi
  rw [gn i (not3 i (by omega))]; exact h.nex i hi
 ·rw [st4] at hi
  rw [gn i (not3 i (by omega))]; exact h.rdy i hi
theorem Sm.act (is : List Int) (l : List V) : Sm l (is.foldl (fun l i => evV l i 1) l) := Sm.of fun j => by
 rw [uW (e := 1) (by omega)]
 split
 ·rename_i h
  right
  refine ⟨by omega, by omega, ?_⟩
  simp only
  exact ⟨by omega, by omega, by omega, fun _ => .inr ⟨.inl h.2, trivial⟩⟩
 ·exact .inl rfl
theorem atV_got {l : List V} {i : Int} (h : hasV l i = true) : atV l i = gotV l i := by
 obtain ⟨k, rfl, hk⟩ := xG h
 rw [yT hk]; simp [atV, hk]
structure K2 (l l' : List V) : Prop where
 len : l'.length = l.length
 got : ∀ j, gotV l' j = gotV l j ∨ ((gotV l j).st = 2 ∧ ∃ b s, gotV l' j = { gotV l j with bal := b, st := s } ∧ 0 ≤ b ∧ (s = 2 ∨ s = 7))
theorem K2.refl (l : List V) : K2 l l := ⟨rfl, fun _ => .inl rfl⟩
theorem K2.ne {l l' : List V} (h : K2 l l') {j : Int} (hj : (gotV l j).st ≠ 2) : gotV l' j = gotV l j := (h.got j).resolve_right fun hc => hj hc.1
theorem K2.trans {a b c : List V} (h : K2 a b) (h' : K2 b c) : K2 a c := ⟨h'.len.trans h.len, fun j => by
 rcases h.got j with h1 | ⟨h1, x, s, h2, h3, h4⟩
 ·rcases h'.got j with h5 | ⟨h5, y, t, h6, h7, h8⟩
  ·exact .inl (h5.trans h1)
  ·rw [h1] at h5 h6
   exact .inr ⟨h5, y, t, h6, h7, h8⟩
 ·rcases h'.got j with h5 | ⟨h5, y, t, h6, h7, h8⟩
  ·exact .inr ⟨h1, x, s, h5.trans h2, h3, h4⟩
  ·rw [h2] at h6
   exact .inr ⟨h1, y, t, h6, h7, h8⟩⟩
theorem K2.sm {l l' : List V} (h : K2 l l') : Sm l l' := Sm.of fun j => by
 rcases h.got j with h1 | ⟨h1, x, s, h2, h3, h4⟩
 ·exact .inl h1
 ·right
  rw [h2]
  simp only
  refine ⟨by omega, by omega, by omega, by omega, by omega, fun _ => .inr ⟨.inr h1, trivial⟩⟩
theorem K2.set {l : List V} {i : Int} {v : V} {b s : Int} (h : (gotV l i).st = 2) (hv : v = { gotV l i with bal := b, st := s }) (hb : 0 ≤ b) (hs : s = 2 ∨ s = 7) : K2 l (setV l i v) := ⟨wR _ _ _, fun j => by
 rw [yV]
 split
 ·rename_i e
  rw [e.2]
  exact .inr ⟨h, b, s, hv, hb, hs⟩
 ·exact .inl rfl⟩
theorem K2.vo {l l' : List V} (h : K2 l l') (hv : ∀ i, hasV l i = true → VO (gotV l i)) : ∀ i, hasV l' i = true → VO (gotV l' i) := fun i hi => by
 rw [xJ h.len] at hi
 have := hv i hi
 rcases h.got i with h1 | ⟨h1, x, s, h2, h3, h4⟩
 ·rw [h1]; exact this
 ·rw [h2]; exact ⟨h3, by simp only; omega, this.r, this.x, this.w, this.d⟩
theorem mv_setV {l : List V} {i j : Int} (hi : hasV l i = true) (hj : hasV l j = true) : mvN l i.toNat j.toNat = setV (setV l i { gotV l i with bal := 0, st := 7 }) j { gotV l j with bal := IntKind.u64.wrap ((gotV l j).bal + (gotV l i).bal) } := by
 have h1 := hi; have h2 := hj
 obtain ⟨a, rfl, ha⟩ := xG hi
 obtain ⟨b, rfl, hb⟩ := xG hj
 unfold setV
 rw [if_pos h1, if_pos (by rw [hasV_set]; exact h2), yT ha, yT hb]
 simp only [mvN, Int.toNat_natCast, qG ha, qG hb]
theorem has_req {l : List V} {i j : Int} {c : C} (h : reqV l i j c = 0) : hasV l i = true ∧ hasV l j = true ∧ i ≠ j ∧ (gotV l i).st = 2 ∧ (gotV l j).st = 2 ∧ (gotV l i).bal + (gotV l j).bal ≤ 18446744073709551615 := by
 obtain ⟨h1, h2, h3, h4, h5, h6⟩ := req_ok h
 have hi : hasV l i = true := decide_eq_true ⟨h1, h2⟩
 have hj : hasV l j = true := decide_eq_true ⟨h3, h4⟩
 rw [atV_got hi, atV_got hj] at h6
 have h7 := check_st h6
 exact ⟨hi, hj, h5, h7.1, h7.2.1, h7.2.2.2.2.1⟩
theorem K2.step {c : C} {s : List V × List Bool} {p : PP} (hv : ∀ i, hasV s.1 i = true → VO (gotV s.1 i)) : K2 s.1 (stepM16 c s p).1 ∧ (bals (stepM16 c s p).1).sum = (bals s.1).sum := by
 unfold stepM16
 simp only
 by_cases h : okReq s.1 p c = true
 ·rw [if_pos h]
  obtain ⟨h1, h2, h3, h4, h5, h6⟩ := has_req (of_decide_eq_true h)
  have hw : IntKind.u64.wrap ((gotV s.1 p.b).bal + (gotV s.1 p.a).bal) = (gotV s.1 p.b).bal + (gotV s.1 p.a).bal := by
   have := (hv _ h1).b; have := (hv _ h2).b
   rw [IntKind.wrap_u64]; omega
  rw [mv_setV h1 h2, hw]
  have hne : gotV (setV s.1 p.a { gotV s.1 p.a with bal := 0, st := 7 }) p.b = gotV s.1 p.b := by rw [yV, if_neg (fun hc => h3 hc.2.symm)]
  have hb2 : hasV (setV s.1 p.a { gotV s.1 p.a with bal := 0, st := 7 }) p.b = true := by rw [pW]; exact h2
  constructor
  ·refine (K2.set (b := 0) (s := 7) h4 rfl (by omega) (.inr rfl)).trans (K2.set (b := (gotV s.1 p.b).bal + (gotV s.1 p.a).bal) (s := 2) (by rw [hne]; exact h5) ?_ (by have := (hv _ h1).b; have := (hv _ h2).b; omega) (.inl rfl))
   rw [hne]
   generalize gotV s.1 p.b = x at h5 ⊢
   cases x; simp only at h5 ⊢; rw [h5]
  ·rw [vJ _ _ _ hb2, hne, vJ _ _ _ h1]
   simp only
   omega
 ·rw [if_neg h]; exact ⟨K2.refl _, rfl⟩
theorem K2.fold {c : C} : ∀ (q : List PP) (s : List V × List Bool), (∀ i, hasV s.1 i = true → VO (gotV s.1 i)) → K2 s.1 (q.foldl (stepM16 c) s).1 ∧ (bals (q.foldl (stepM16 c) s).1).sum = (bals s.1).sum
 | [], s, _ => ⟨K2.refl _, rfl⟩
 | p :: q, s, hv => by
  obtain ⟨h1, h2⟩ := K2.step (c := c) (p := p) hv
  obtain ⟨h3, h4⟩ := K2.fold (c := c) q (stepM16 c s p) (h1.vo hv)
  rw [List.foldl_cons]
  exact ⟨h1.trans h3, h4.trans h2⟩
theorem K2.runM {c : C} {l : List V} (q : List PP) (hv : ∀ i, hasV l i = true → VO (gotV l i)) : K2 l (runM c l q).1 ∧ (bals (runM c l q).1).sum = (bals l).sum := K2.fold q (l, []) hv
theorem inB_has {l : List V} {r : Rq} : inB l r ↔ hasV l r.i = true := by unfold inB hasV; rw [decide_eq_true_iff]
theorem payO_eq (c : C) (l : List V) (r : Rq) : payO c l r = setV l r.i (apV (gotV l r.i) r.m c) := by
 by_cases h : inB l r
 ·have hh := inB_has.1 h
  obtain ⟨k, hk, hl⟩ := xG hh
  unfold setV
  rw [payO_in hk hl, if_pos hh, hk, yT hl]; rfl
 ·rw [pM h]; unfold setV; rw [if_neg (fun hc => h (inB_has.2 hc))]
theorem qA (c : C) (l : List V) (paid : List Y) (r : Rq) : payP c l paid r = if hasV l r.i = true then paid ++ [⟨r.i, min r.m (avail (gotV l r.i) c), false⟩] else paid := by
 by_cases h : inB l r
 ·have hh := inB_has.1 h
  obtain ⟨k, hk, hl⟩ := xG hh
  rw [payP_in hk hl, if_pos hh, hk, yT hl]
 ·rw [pL h, if_neg (fun hc => h (inB_has.2 hc))]
theorem avail_bd {v : V} {c : C} (h : VO v) (hm : v.bal ≤ 18446744073709551615) (hc : 0 ≤ c.minb) : 0 ≤ avail v c ∧ avail v c ≤ v.bal ∧ (v.st ≠ 2 → avail v c = 0) := by
 have := h.b
 unfold avail
 split
 ·exact ⟨by omega, by omega, fun _ => rfl⟩
 ·rename_i h1
  split
  ·exact ⟨by omega, by omega, fun _ => rfl⟩
  ·rw [IntKind.wrap_u64]
   refine ⟨by omega, by omega, fun hc => absurd (.inl hc) h1⟩
def sumA (ps : List Y) : Int := (ps.map Y.a).sum
theorem qS (a b : List Y) : sumA (a ++ b) = sumA a + sumA b := by simp [sumA]
theorem sumA_pos (ps : List Y) : sumA (pos ps) = sumA ps := by
 induction ps with
 | nil => rfl
 | cons y ps ih =>
  unfold pos at ih ⊢
  rw [List.filter_cons]
  split
  ·simp only [sumA, List.map_cons, List.sum_cons] at ih ⊢; omega
  ·rename_i h
   have h0 : y.a = 0 := by simpa using h
   simp only [sumA, List.map_cons, List.sum_cons] at ih ⊢; omega
theorem pT : ∀ {l : List Int}, (∀ x ∈ l, 0 ≤ x) → ∀ x ∈ l, x ≤ l.sum
 | [], _, x, hx => by simp at hx
 | a :: l, h, x, hx => by
  have h0 := xM (l := l) fun y hy => h y (by simp [hy])
  have h1 := h a (by simp)
  rw [List.sum_cons]
  rcases List.mem_cons.1 hx with rfl | hx
  ·omega
  ·have := pT (l := l) (fun y hy => h y (by simp [hy])) x hx; omega
theorem uG {l : List V} (hv : ∀ i, hasV l i = true → VO (gotV l i)) {i : Int} (hi : hasV l i = true) : (gotV l i).bal ≤ (bals l).sum := by
 refine pT (fun x hx => ?_) _ (List.mem_map.2 ⟨_, got_has hi, rfl⟩)
 obtain ⟨v, hv', rfl⟩ := List.mem_map.1 hx
 obtain ⟨j, hj, rfl⟩ := tH hv'
 exact (hv j hj).b
theorem K2.pstep {c : C} {s : List V × List Y} {r : Rq} (hv : ∀ i, hasV s.1 i = true → VO (gotV s.1 i)) (hm : (bals s.1).sum ≤ 18446744073709551615) (hc : 0 ≤ c.minb) (hr : 0 ≤ r.m) :
  K2 s.1 (stepQ c s r).1 ∧ (bals (stepQ c s r).1).sum + sumA (stepQ c s r).2 = (bals s.1).sum + sumA s.2 ∧ ((∀ y ∈ s.2, 0 ≤ y.a ∧ y.f = false ∧ hasV s.1 y.i = true) → ∀ y ∈ (stepQ c s r).2, 0 ≤ y.a ∧ y.f = false ∧ hasV s.1 y.i = true) := by
 unfold stepQ
 simp only
 rw [payO_eq, qA]
 by_cases hh : hasV s.1 r.i = true
 ·have h1 := hv _ hh
  have h2 := uG hv hh
  obtain ⟨a1, a2, a3⟩ := avail_bd h1 (by omega) hc
  have hp : 0 ≤ min r.m (avail (gotV s.1 r.i) c) ∧ min r.m (avail (gotV s.1 r.i) c) ≤ (gotV s.1 r.i).bal := by omega
  have hw : IntKind.u64.wrap ((gotV s.1 r.i).bal - min r.m (avail (gotV s.1 r.i) c)) = (gotV s.1 r.i).bal - min r.m (avail (gotV s.1 r.i) c) := by rw [IntKind.wrap_u64]; omega
  have hap : apV (gotV s.1 r.i) r.m c = { gotV s.1 r.i with bal := (gotV s.1 r.i).bal - min r.m (avail (gotV s.1 r.i) c) } := by unfold apV; rw [hw]
  rw [if_pos hh]
  refine ⟨?_, ?_, fun h y hy => ?_⟩
  ·by_cases h2 : (gotV s.1 r.i).st = 2
   ·refine K2.set (b := (gotV s.1 r.i).bal - min r.m (avail (gotV s.1 r.i) c)) (s := 2) h2 ?_ (by omega) (.inl rfl)
    rw [hap]
    generalize gotV s.1 r.i = x at h2 ⊢
    cases x; simp only at h2 ⊢; rw [h2]
   ·refine ⟨wR _ _ _, fun j => .inl ?_⟩
    rw [yV]
    split
    ·rename_i e
     rw [hap, e.2]
     have h0 := a3 h2
     have h5 : (gotV s.1 r.i).bal - min r.m (avail (gotV s.1 r.i) c) = (gotV s.1 r.i).bal := by omega
     rw [h5]
    ·rfl
  ·rw [vJ _ _ _ hh, hap, qS]
   simp only [sumA, List.map_cons, List.map_nil, List.sum_cons, List.sum_nil]
   omega
  ·rcases List.mem_append.1 hy with hy | hy
   ·exact h y hy
   ·simp only [List.mem_cons, List.not_mem_nil, or_false] at hy
    subst hy; exact ⟨hp.1, rfl, hh⟩
 ·rw [if_neg hh]
  have : setV s.1 r.i (apV (gotV s.1 r.i) r.m c) = s.1 := by unfold setV; rw [if_neg hh]
  rw [this]
  exact ⟨K2.refl _, rfl, fun h => h⟩
theorem K2.pfold {c : C} (hc : 0 ≤ c.minb) : ∀ (q : List Rq) (s : List V × List Y), (∀ r ∈ q, 0 ≤ r.m) → (∀ i, hasV s.1 i = true → VO (gotV s.1 i)) → (bals s.1).sum ≤ 18446744073709551615 → (∀ y ∈ s.2, 0 ≤ y.a) →
  K2 s.1 (q.foldl (stepQ c) s).1 ∧ (bals (q.foldl (stepQ c) s).1).sum + sumA (q.foldl (stepQ c) s).2 = (bals s.1).sum + sumA s.2 ∧ ((∀ y ∈ s.2, 0 ≤ y.a ∧ y.f = false ∧ hasV s.1 y.i = true) → ∀ y ∈ (q.foldl (stepQ c) s).2, 0 ≤ y.a ∧ y.f = false ∧ hasV s.1 y.i = true)
 | [], s, _, _, _, _ => ⟨K2.refl _, rfl, fun h => h⟩
 | r :: q, s, hq, hv, hm, hs => by
  obtain ⟨h1, h2, h3⟩ := K2.pstep (s := s) (r := r) hv hm hc (hq r (by simp))
  have h0 : ∀ y ∈ (stepQ c s r).2, 0 ≤ y.a := fun y hy => by
   unfold stepQ at hy
   simp only at hy
   rw [qA] at hy
   split at hy
   ·rename_i hh
    rcases List.mem_append.1 hy with hy | hy
    ·exact hs y hy
    ·simp only [List.mem_cons, List.not_mem_nil, or_false] at hy
     subst hy
     obtain ⟨a1, _, _⟩ := avail_bd (hv _ hh) (by have := uG hv hh; omega) hc
     have := hq r (by simp)
     simp only; omega
   ·exact hs y hy
  have hs2 : sumA s.2 ≤ sumA (stepQ c s r).2 := by
   unfold stepQ
   simp only
   rw [qA]
   split
   ·rename_i hh
    obtain ⟨a1, _, _⟩ := avail_bd (hv _ hh) (by have := uG hv hh; omega) hc
    have := hq r (by simp)
    rw [qS]
    simp only [sumA, List.map_cons, List.map_nil, List.sum_cons, List.sum_nil]; omega
   ·exact Int.le_refl _
  obtain ⟨g1, g2, g3⟩ := K2.pfold hc q (stepQ c s r) (fun x hx => hq x (by simp [hx])) (h1.vo hv) (by omega) h0
  rw [List.foldl_cons]
  refine ⟨h1.trans g1, by omega, fun h y hy => ?_⟩
  have := g3 (fun z hz => by
   have := h3 h z hz
   exact ⟨this.1, this.2.1, by rw [xJ h1.len]; exact this.2.2⟩) y hy
  exact ⟨this.1, this.2.1, by rw [← xJ h1.len]; exact this.2.2⟩
theorem K2.run {c : C} (hc : 0 ≤ c.minb) {l : List V} (q : List Rq) (hq : ∀ r ∈ q, 0 ≤ r.m) (hv : ∀ i, hasV l i = true → VO (gotV l i)) (hm : (bals l).sum ≤ 18446744073709551615) :
  K2 l (run c l q).1 ∧ (bals (run c l q).1).sum + sumA (run c l q).2 = (bals l).sum ∧ ∀ y ∈ (run c l q).2, 0 ≤ y.a ∧ y.f = false ∧ hasV l y.i = true := by
 obtain ⟨h1, h2, h3⟩ := K2.pfold hc q (l, []) hq hv hm (by simp)
 exact ⟨h1, by simpa [sumA, Go.Proofs.YtdddiilocbbkkaaGreat.run] using h2, h3 (by simp)⟩
theorem pay_eq {v : V} {e : Int} (h : v.st = 5) (hw : v.wd ≤ e) : payV v e = ({ v with st := 6, bal := 0 }, v.bal, 0) := by
 unfold payV
 have : nxt v.st 5 = 6 := by rw [pO (by omega), if_pos h]; rfl
 rw [this, if_neg (by omega), if_neg (by omega)]
theorem tM {l0 : List V} {e : Int} : ∀ (is : List Int) (l : List V) (ps : List Y), is.Nodup → (∀ i ∈ is, (gotV l0 i).st = 5 ∧ (gotV l0 i).wd ≤ e ∧ gotV l i = gotV l0 i) →
  (is.foldl (fullS l0 e) (l, ps)).1.length = l.length ∧ (∀ j, gotV (is.foldl (fullS l0 e) (l, ps)).1 j = if j ∈ is then { gotV l0 j with st := 6, bal := 0 } else gotV l j) ∧
  (is.foldl (fullS l0 e) (l, ps)).2 = ps ++ is.map (fun i => ⟨i, (gotV l0 i).bal, true⟩) ∧ (bals (is.foldl (fullS l0 e) (l, ps)).1).sum + sumA (is.foldl (fullS l0 e) (l, ps)).2 = (bals l).sum + sumA ps
 | [], l, ps, _, _ => ⟨rfl, fun j => by simp, by simp, rfl⟩
 | i :: is, l, ps, hn, h => by
  obtain ⟨h1, h2, h3⟩ := h i (by simp)
  rw [List.nodup_cons] at hn
  have hh : hasV l i = true := yU (by rw [h3]; omega)
  have e1 : fullS l0 e (l, ps) i = (setV l i { gotV l0 i with st := 6, bal := 0 }, ps ++ [⟨i, (gotV l0 i).bal, true⟩]) := by
   unfold fullS; rw [pay_eq h1 h2]
  have hne : ∀ j ∈ is, gotV (setV l i { gotV l0 i with st := 6, bal := 0 }) j = gotV l j := fun j hj => by
   rw [yV, if_neg]
   rintro ⟨_, rfl⟩; exact hn.1 hj
  obtain ⟨g1, g2, g3, g4⟩ := tM (l0 := l0) (e := e) is (setV l i { gotV l0 i with st := 6, bal := 0 }) (ps ++ [⟨i, (gotV l0 i).bal, true⟩]) hn.2 (fun j hj => by
   obtain ⟨k1, k2, k3⟩ := h j (by simp [hj])
   exact ⟨k1, k2, by rw [hne j hj, k3]⟩)
  rw [List.foldl_cons, e1]
  refine ⟨by rw [g1, wR], fun j => ?_, ?_, ?_⟩
  ·rw [g2 j, yV]
   by_cases hj : j = i
   ·subst hj
    rw [if_neg hn.1, if_pos ⟨hh, rfl⟩, if_pos (by simp)]
   ·rw [if_neg (show ¬ (hasV l i = true ∧ j = i) from fun hc => hj hc.2)]
    simp [hj]
  ·rw [g3]; simp
  ·rw [g4, vJ _ _ _ hh, qS, h3]
   simp only [sumA, List.map_cons, List.map_nil, List.sum_cons, List.sum_nil]; omega
end Go.Proofs.YtdddiilocbbkkaaGreat
