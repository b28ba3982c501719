/- TopForced: for every configuration and all operations the law returns true. No condition. Part 23 of 42. -/
import Derived.Test.YtdddiilocbbkkaaGreatTF21
set_option linter.unusedVariables false
set_option linter.unusedSimpArgs false
namespace Go.Proofs.YtdddiilocbbkkaaGreat
open Go.RowKit Go.Eg
set_option maxHeartbeats 4000000
set_option synthInstance.maxSize 3000
set_option maxRecDepth 100000
theorem stepMF_shape (W : List Int) (e : Int) : ∀ (n : Nat) (q : LL) (m : M) (out : List As), ∃ a b : Nat, (stepMF W e n q m out).1 = out ++ ((q.f.take a).map (fun i => As.mk i 0 (e + 1)) ++ (q.v.take b).map (fun i => As.mk i 1 (e + 1)))
  ∧ a ≤ q.f.length ∧ b ≤ q.v.length ∧ (0 < b → a = q.f.length) ∧ (stepMF W e n q m out).2.1 = ⟨q.f.drop a, q.v.drop b⟩
 | 0, q, m, out => ⟨0, 0, by simp [stepMF], by omega, by omega, by omega, by simp [stepMF]⟩
 | n + 1, q, m, out => by
  by_cases hB : headB q = false
  ·refine ⟨0, 0, ?_, by omega, by omega, by omega, ?_⟩ <;> rw [stepMF_end hB] <;> simp
  replace hB : headB q = true := by simpa using hB
  by_cases hT : m.bal < ofW W (headI q)
  ·refine ⟨0, 0, ?_, by omega, by omega, by omega, ?_⟩ <;> rw [stepMF_stop hB hT] <;> simp
  rw [stepMF_go hB hT]
  obtain ⟨f, v⟩ := q
  cases f with
  | cons x f =>
   obtain ⟨a, b, h1, h2, h3, h4, h5⟩ := stepMF_shape W e n (popL ⟨x :: f, v⟩) (m.take (ofW W (headI ⟨x :: f, v⟩))) (out ++ [⟨headI ⟨x :: f, v⟩, headC ⟨x :: f, v⟩, e + 1⟩])
   simp only [popL] at h1 h2 h3 h4 h5
   refine ⟨a + 1, b, ?_, by simp; omega, h3, fun hb => by simp; exact h4 hb, ?_⟩
   ·simp only [popL]; rw [h1]; simp [headI, headC]
   ·simp only [popL]; rw [h5]; simp
  | nil =>
   cases v with
   | nil => simp [headB] at hB
   | cons y v =>
    obtain ⟨a, b, h1, h2, h3, h4, h5⟩ := stepMF_shape W e n (popL ⟨[], y :: v⟩) (m.take (ofW W (headI ⟨[], y :: v⟩))) (out ++ [⟨headI ⟨[], y :: v⟩, headC ⟨[], y :: v⟩, e + 1⟩])
    simp only [popL, List.tail_cons] at h1 h2 h3 h4 h5
    refine ⟨a, b + 1, ?_, h2, by simp; omega, fun _ => by simp at h2 ⊢; omega, ?_⟩
    ·simp only [popL, List.tail_cons]; rw [h1]; simp [headI, headC]
    ·simp only [popL, List.tail_cons]; rw [h5]; simp
theorem swp_ok {rd : List Bool} {n pays : Nat} (hn : 0 < n) (a0 : Nat) : ∀ (k at_ : Nat) (paid : List Int) (made : Nat), at_ % n = (a0 + made) % n → made + k ≤ n → (∀ x ∈ paid, ∃ j, j < made ∧ x = (((a0 + j) % n : Nat) : Int) ∧ rd[(a0 + j) % n]? = some true) → paid.Nodup →
  (∀ x ∈ (swp rd n pays k at_ paid made).2.1, ∃ j : Nat, x = j ∧ rd[j]? = some true) ∧ (swp rd n pays k at_ paid made).2.1.Nodup
 | 0, at_, paid, made, _, _, hp, hd => ⟨fun x hx => by obtain ⟨j, _, h1, h2⟩ := hp x hx; exact ⟨_, h1, h2⟩, hd⟩
 | k + 1, at_, paid, made, ha, hk, hp, hd => by
  unfold swp
  split
  ·exact ⟨fun x hx => by obtain ⟨j, _, h1, h2⟩ := hp x hx; exact ⟨_, h1, h2⟩, hd⟩
  ·have hne : ∀ j, j < made → (a0 + j) % n ≠ (a0 + made) % n := fun j hj hc => by
    have h1 := Nat.sub_mod_eq_zero_of_mod_eq hc.symm
    rw [show a0 + made - (a0 + j) = made - j by omega, Nat.mod_eq_of_lt (by omega)] at h1
    omega
   refine swp_ok hn a0 k _ _ _ ?_ (by omega) ?_ ?_
   ·rw [Nat.mod_mod, ha, Nat.mod_add_mod, Nat.add_assoc]
   ·intro x hx
    split at hx
    ·rename_i hr
     rcases List.mem_append.1 hx with hx | hx
     ·obtain ⟨j, h1, h2, h3⟩ := hp x hx; exact ⟨j, by omega, h2, h3⟩
     ·simp only [List.mem_cons, List.not_mem_nil, or_false] at hx
      exact ⟨made, by omega, by rw [hx, ha], by rw [← ha]; exact hr⟩
    ·obtain ⟨j, h1, h2, h3⟩ := hp x hx; exact ⟨j, by omega, h2, h3⟩
   ·split
    ·refine List.nodup_append.2 ⟨hd, by simp, fun x hx y hy => ?_⟩
     simp only [List.mem_cons, List.not_mem_nil, or_false] at hy
     obtain ⟨j, h1, h2, _⟩ := hp x hx
     rw [hy, h2, ha]
     exact fun hc => hne j h1 (by exact_mod_cast hc)
    ·exact hd
theorem sweep_ok (at_ : Nat) (rd : List Bool) (visits pays : Int) : (∀ x ∈ (sweepS at_ rd visits pays).2.1, ∃ j : Nat, x = j ∧ rd[j]? = some true) ∧ (sweepS at_ rd visits pays).2.1.Nodup := by
 unfold sweepS
 split
 ·simp
 ·exact swp_ok (by omega) at_ _ _ _ _ (by simp) (by omega) (by simp) (by simp)
theorem xY {l : List V} {i : Int} (h : hasV l i = true) : ∃ k : Nat, i = k ∧ k < l.length := by
 have h := of_decide_eq_true h
 exact ⟨i.toNat, by omega, by omega⟩
theorem hasV_of {l : List V} {k : Nat} (h : k < l.length) : hasV l (k : Int) = true := decide_eq_true (by omega)
theorem hasV_set (l : List V) (k : Nat) (v : V) (j : Int) : hasV (l.set k v) j = hasV l j := by simp [hasV]
theorem got_set {l : List V} {k : Nat} (h : k < l.length) (v : V) (j : Int) : gotV (l.set k v) j = if j = k then v else gotV l j := by
 unfold gotV
 by_cases hj : 0 ≤ j
 ·rw [if_pos hj, if_pos hj, List.getElem?_set]
  by_cases e : k = j.toNat
  ·rw [if_pos e, if_pos h, if_pos (by omega)]; rfl
  ·rw [if_neg e, if_neg (by omega)]
 ·rw [if_neg hj, if_neg hj, if_neg (by omega)]
theorem len_setV (l : List V) (i : Int) (v : V) : (setV l i v).length = l.length := by unfold setV; split <;> simp
theorem has_setV (l : List V) (i : Int) (v : V) (j : Int) : hasV (setV l i v) j = hasV l j := by unfold setV; split <;> simp [hasV]
theorem yZ (l : List V) (i : Int) (v : V) (j : Int) : gotV (setV l i v) j = if hasV l i = true ∧ j = i then v else gotV l j := by
 unfold setV
 by_cases h : hasV l i = true
 ·obtain ⟨k, rfl, hk⟩ := xY h
  rw [if_pos h, Int.toNat_natCast, got_set hk]
  by_cases e : j = k
  ·rw [if_pos e, if_pos ⟨h, e⟩]
  ·rw [if_neg e, if_neg (fun hc => e hc.2)]
 ·rw [if_neg h, if_neg (fun hc => h hc.1)]
theorem evV_eq (l : List V) (i e : Int) : evV l i e = if nxt (gotV l i).st e ≠ 0 then setV l i { gotV l i with st := nxt (gotV l i).st e } else l := by
 unfold evV setV
 by_cases h : hasV l i = true <;> by_cases h2 : nxt (gotV l i).st e ≠ 0 <;> simp [h, h2]
theorem len_ev (l : List V) (i e : Int) : (evV l i e).length = l.length := by
 rw [evV_eq]; split
 ·exact len_setV _ _ _
 ·rfl
theorem has_ev (l : List V) (i e j : Int) : hasV (evV l i e) j = hasV l j := by unfold hasV; rw [len_ev]
theorem nxt_self {e : Int} (he : 1 ≤ e ∧ e ≤ 5) (s : Int) : nxt s e = if s = e then e + 1 else 0 := by
 unfold nxt
 rw [if_neg (by omega), if_neg (by omega)]
 by_cases h : s = e
 ·rw [if_pos ⟨he.1, he.2, h⟩, if_pos h, h]
 ·rw [if_neg (by omega), if_neg h]
theorem got_ev {e : Int} (he : 1 ≤ e ∧ e ≤ 5) (l : List V) (i j : Int) : gotV (evV l i e) j = if j = i ∧ hasV l j = true ∧ (gotV l j).st = e then { gotV l j with st := e + 1 } else gotV l j := by
 rw [evV_eq, nxt_self he]
 by_cases h : (gotV l i).st = e
 ·rw [if_pos h, if_pos (by omega), yZ]
  by_cases h2 : hasV l i = true ∧ j = i
  ·obtain ⟨h2, rfl⟩ := h2
   rw [if_pos ⟨h2, rfl⟩, if_pos ⟨rfl, h2, h⟩]
  ·rw [if_neg h2, if_neg (show ¬ (j = i ∧ hasV l j = true ∧ (gotV l j).st = e) from fun hc => h2 ⟨hc.1 ▸ hc.2.1, hc.1⟩)]
 ·rw [if_neg h, if_neg (by omega), if_neg (show ¬ (j = i ∧ hasV l j = true ∧ (gotV l j).st = e) from fun hc => h (hc.1 ▸ hc.2.2))]
theorem fold_ev {e : Int} (he : 1 ≤ e ∧ e ≤ 5) : ∀ (is : List Int) (l : List V), (is.foldl (fun l i => evV l i e) l).length = l.length ∧
  ∀ j, gotV (is.foldl (fun l i => evV l i e) l) j = if j ∈ is ∧ hasV l j = true ∧ (gotV l j).st = e then { gotV l j with st := e + 1 } else gotV l j
 | [], l => ⟨rfl, fun j => by simp⟩
 | i :: is, l => by
  obtain ⟨h1, h2⟩ := fold_ev he is (evV l i e)
  refine ⟨by rw [List.foldl_cons, h1, len_ev], fun j => ?_⟩
  rw [List.foldl_cons, h2 j, has_ev]
  have hg := got_ev he l i j
  by_cases hj : j = i ∧ hasV l j = true ∧ (gotV l j).st = e
  ·rw [if_pos hj] at hg
   rw [hg, if_neg (by rintro ⟨_, _, h⟩; simp only at h; omega), if_pos ⟨by simp [hj.1], hj.2⟩]
  ·rw [if_neg hj] at hg
   rw [hg]
   by_cases hm : j ∈ is ∧ hasV l j = true ∧ (gotV l j).st = e
   ·rw [if_pos hm, if_pos ⟨by simp [hm.1], hm.2⟩]
   ·rw [if_neg hm, if_neg]
    rintro ⟨h1, h2⟩
    rcases List.mem_cons.1 h1 with h | h
    ·exact hj ⟨h, h2⟩
    ·exact hm ⟨h, h2⟩
theorem putE_in {bo : List En} {e i : Int} (h : 0 ≤ e ∧ e ≤ 1099511627776) : putE bo e i = bo ++ [⟨e, i⟩] := if_pos (decide_eq_true h)
theorem wd_ev {e : Int} (he : 1 ≤ e ∧ e ≤ 5) (l : List V) (i j : Int) : (gotV (evV l i e) j).wd = (gotV l j).wd := by
 rw [got_ev he]; split <;> rfl
theorem rip_hi {e : Int} {l : List V} {bo : List En} {i : Int} (h : e < (gotV l i).wd) : ripS e (l, bo) i = (l, putE bo (gotV l i).wd i) := if_pos h
theorem rip_lo {e : Int} {l : List V} {bo : List En} {i : Int} (h : ¬ e < (gotV l i).wd) : ripS e (l, bo) i = (evV l i 4, bo) := if_neg h
theorem rip_fold {e : Int} (he : 0 ≤ e) : ∀ (is : List Int) (l : List V) (bo : List En), (∀ j, (gotV l j).wd ≤ 1099511627776) →
  (is.foldl (ripS e) (l, bo)).1.length = l.length ∧
  (∀ j, gotV (is.foldl (ripS e) (l, bo)).1 j = if j ∈ is ∧ hasV l j = true ∧ (gotV l j).wd ≤ e ∧ (gotV l j).st = 4 then { gotV l j with st := 5 } else gotV l j) ∧
  (is.foldl (ripS e) (l, bo)).2 = bo ++ (is.filter fun i => decide (e < (gotV l i).wd)).map fun i => ⟨(gotV l i).wd, i⟩
 | [], l, bo, _ => ⟨rfl, fun j => by simp, by simp⟩
 | i :: is, l, bo, hw => by
  rw [List.foldl_cons]
  by_cases hi : e < (gotV l i).wd
  ·obtain ⟨h1, h2, h3⟩ := rip_fold he is l (putE bo (gotV l i).wd i) hw
   rw [rip_hi hi]
   refine ⟨h1, fun j => ?_, ?_⟩
   ·rw [h2 j]
    by_cases hj : j = i
    ·subst hj; rw [if_neg (by omega), if_neg (by omega)]
    ·simp [hj]
   ·rw [h3, putE_in ⟨by omega, hw i⟩, List.filter_cons, if_pos (decide_eq_true hi), List.map_cons, List.append_assoc, List.singleton_append]
  ·have hw' : ∀ j, (gotV (evV l i 4) j).wd ≤ 1099511627776 := fun j => by rw [wd_ev (by omega)]; exact hw j
   obtain ⟨h1, h2, h3⟩ := rip_fold he is (evV l i 4) bo hw'
   rw [rip_lo hi]
   refine ⟨by rw [h1, len_ev], fun j => ?_, ?_⟩
   ·rw [h2 j, has_ev, wd_ev (by omega)]
    have hg := got_ev (e := 4) (by omega) l i j
    by_cases hj : j = i ∧ hasV l j = true ∧ (gotV l j).st = 4
    ·rw [if_pos hj] at hg
     rw [hg, if_neg (by rintro ⟨_, _, _, h⟩; simp at h), if_pos ⟨by simp [hj.1], hj.2.1, by rw [hj.1]; omega, hj.2.2⟩]; rfl
    ·rw [if_neg hj] at hg
     rw [hg]
     by_cases hm : j ∈ is ∧ hasV l j = true ∧ (gotV l j).wd ≤ e ∧ (gotV l j).st = 4
     ·rw [if_pos hm, if_pos ⟨by simp [hm.1], hm.2⟩]
     ·rw [if_neg hm, if_neg]
      rintro ⟨h1, h2, h3, h4⟩
      rcases List.mem_cons.1 h1 with h | h
      ·exact hj ⟨h, h2, h4⟩
      ·exact hm ⟨h, h2, h3, h4⟩
   ·rw [h3, List.filter_cons, if_neg (by simpa using hi)]
    simp only [wd_ev (show (1 : Int) ≤ 4 ∧ (4 : Int) ≤ 5 by omega)]
theorem got_has {l : List V} {i : Int} (h : hasV l i = true) : gotV l i ∈ l := by
 obtain ⟨k, rfl, hk⟩ := xY h
 rw [yT hk]; exact List.getElem_mem hk
theorem mem_got {l : List V} {v : V} (h : v ∈ l) : ∃ i, hasV l i = true ∧ gotV l i = v := by
 obtain ⟨k, hk, rfl⟩ := List.getElem_of_mem h
 exact ⟨k, hasV_of hk, yT hk⟩
theorem all_got {p : V → Prop} {l : List V} : (∀ v ∈ l, p v) ↔ ∀ i, hasV l i = true → p (gotV l i) :=
 ⟨fun h i hi => h _ (got_has hi), fun h v hv => by obtain ⟨i, hi, rfl⟩ := mem_got hv; exact h i hi⟩
theorem got_no {l : List V} {i : Int} (h : hasV l i = false) : (gotV l i).st = 0 := by rw [got_out h]; rfl
theorem yW {l : List V} {i : Int} (h : (gotV l i).st ≠ 0) : hasV l i = true := by
 rcases Bool.eq_false_or_eq_true (hasV l i) with h1 | h1
 ·exact h1
 ·exact absurd (got_no h1) h
theorem xO {l l' : List V} (h : l'.length = l.length) (i : Int) : hasV l' i = hasV l i := by unfold hasV; rw [h]
structure VO (v : V) : Prop where
 b : 0 ≤ v.bal
 s : 1 ≤ v.st ∧ v.st ≤ 7
 r : -1 ≤ v.rq ∧ v.rq ≤ 1099511627776
 x : -1 ≤ v.ex ∧ v.ex ≤ 1099511627776
 w : -1 ≤ v.wd ∧ v.wd ≤ 1099511627776
 d : -1 ≤ v.dl ∧ v.dl ≤ 1099511627776
structure Sm (l l' : List V) : Prop where
 st : ∀ i, 3 ≤ (gotV l' i).st → (gotV l' i).st ≤ 5 → gotV l i = gotV l' i
 ts : ∀ i, (gotV l i).st = 3 ∨ (gotV l i).st = 4 → gotV l' i = gotV l i
 nx : ∀ i, (gotV l' i).st = 1 ∨ (gotV l' i).st = 2 → (gotV l' i).ex = -1 ∨ ((gotV l i).st = 1 ∨ (gotV l i).st = 2) ∧ (gotV l' i).ex = (gotV l i).ex
structure InvE (ep : Int) (l : List V) (q : LL) (bo : List En) (lv : List Int) : Prop where
 lnd : (q.f ++ q.v).Nodup
 lan : ∀ i, i ∈ q.f ++ q.v ↔ (gotV l i).st = 3 ∧ (gotV l i).ex = -1
 vnd : lv.Nodup
 lvs : ∀ i, i ∈ lv ↔ (gotV l i).st = 3 ∧ (gotV l i).ex ≠ -1
 lex : ∀ i ∈ lv, (gotV l i).ex = ep + 1
 bnd : (bo.map En.i).Nodup
 bon : ∀ i, i ∈ bo.map En.i ↔ (gotV l i).st = 4 ∨ (gotV l i).st = 3 ∧ (gotV l i).ex ≠ -1
 bep : ∀ x ∈ bo, ep + 1 ≤ x.e ∧ x.e ≤ (gotV l x.i).wd ∧ ((gotV l x.i).st = 3 → ep + 2 ≤ x.e)
 nex : ∀ i, (gotV l i).st = 1 ∨ (gotV l i).st = 2 → (gotV l i).ex = -1
 rdy : ∀ i, (gotV l i).st = 5 → (gotV l i).wd ≤ ep
theorem Sm.iff {l l' : List V} (h : Sm l l') (p : V → Prop) (i : Int) (n : Int) (hn : n = 3 ∨ n = 4) : ((gotV l' i).st = n ∧ p (gotV l' i)) ↔ ((gotV l i).st = n ∧ p (gotV l i)) := by
 constructor
 ·rintro ⟨h1, h2⟩
  rw [h.st i (by omega) (by omega)]; exact ⟨h1, h2⟩
 ·rintro ⟨h1, h2⟩
  rw [h.ts i (by omega)]; exact ⟨h1, h2⟩
theorem Sm.iff1 {l l' : List V} (h : Sm l l') (i : Int) (n : Int) (hn : n = 3 ∨ n = 4) : (gotV l' i).st = n ↔ (gotV l i).st = n := by
 have := h.iff (fun _ => True) i n hn; simpa using this
theorem InvE.sm {ep : Int} {l l' : List V} {q : LL} {bo : List En} {lv : List Int} (h : InvE ep l q bo lv) (hs : Sm l l') : InvE ep l' q bo lv := by
 have h3 : ∀ i, (gotV l i).st = 3 ∨ (gotV l i).st = 4 → gotV l' i = gotV l i := hs.ts
 refine ⟨h.lnd, fun i => ?_, h.vnd, fun i => ?_, fun i hi => ?_, h.bnd, fun i => ?_, fun x hx => ?_, fun i hi => ?_, fun i hi => ?_⟩
 ·rw [h.lan i, hs.iff (fun v => v.ex = -1) i 3 (.inl rfl)]
 ·rw [h.lvs i, hs.iff (fun v => v.ex ≠ -1) i 3 (.inl rfl)]
 ·rw [h3 i (.inl ((h.lvs i).1 hi).1)]; exact h.lex i hi
 ·rw [h.bon i, hs.iff (fun v => v.ex ≠ -1) i 3 (.inl rfl), hs.iff1 i 4 (.inr rfl)]
 ·have h4 := (h.bon x.i).1 (List.mem_map.2 ⟨x, hx, rfl⟩)
  rw [h3 x.i (by rcases h4 with h4 | h4; exact .inr h4; exact .inl h4.1)]; exact h.bep x hx
 ·rcases hs.nx i hi with h4 | ⟨h4, h5⟩
  ·exact h4
  ·rw [h5]; exact h.nex i h4
 ·rw [← hs.st i (by omega) (by omega)]
  exact h.rdy i (by rw [hs.st i (by omega) (by omega)]; exact hi)
theorem Sm.of {l l' : List V} (h : ∀ j, gotV l' j = gotV l j ∨ ((gotV l j).st ≠ 3 ∧ (gotV l j).st ≠ 4 ∧ (gotV l' j).st ≠ 3 ∧ (gotV l' j).st ≠ 4 ∧ (gotV l' j).st ≠ 5 ∧ ((gotV l' j).st = 1 ∨ (gotV l' j).st = 2 → (gotV l' j).ex = -1 ∨ ((gotV l j).st = 1 ∨ (gotV l j).st = 2) ∧ (gotV l' j).ex = (gotV l j).ex))) : Sm l l' := by
 refine ⟨fun i h1 h2 => ?_, fun i h1 => ?_, fun i h1 => ?_⟩
 ·rcases h i with h3 | h3
  ·exact h3.symm
  ·omega
 ·rcases h i with h3 | h3
  ·exact h3
  ·omega
 ·rcases h i with h3 | h3
  ·exact .inr ⟨by rw [← h3]; exact h1, by rw [h3]⟩
  ·exact h3.2.2.2.2.2 h1
theorem got_app (l : List V) (v : V) (j : Int) : gotV (l ++ [v]) j = if j = (l.length : Int) then v else gotV l j := by
 unfold gotV
 by_cases hj : 0 ≤ j
 ·rw [if_pos hj, if_pos hj]
  obtain ⟨k, rfl⟩ : ∃ k : Nat, j = k := ⟨j.toNat, by omega⟩
  simp only [Int.toNat_natCast]
  by_cases hk : k < l.length
  ·rw [List.getElem?_append_left hk, if_neg (by omega)]
  ·rw [List.getElem?_append_right (by omega)]
   by_cases hk2 : k = l.length
   ·subst hk2; simp
   ·rw [if_neg (by omega), List.getElem?_eq_none (by simp; omega), List.getElem?_eq_none (by omega)]
 ·rw [if_neg hj, if_neg hj, if_neg (by omega)]
theorem Sm.app {l : List V} {v : V} (h : v.st = 1) (hx : v.ex = -1) : Sm l (l ++ [v]) := Sm.of fun j => by
 rw [got_app]
 split
 ·rename_i e
  have h0 : (gotV l j).st = 0 := got_no (by rw [e]; exact decide_eq_false (by omega))
  right
  refine ⟨by omega, by omega, by omega, by omega, by omega, fun _ => .inl hx⟩
 ·exact .inl rfl
theorem bals_setV {l : List V} {i : Int} {v : V} (h : v.bal = (gotV l i).bal) : bals (setV l i v) = bals l := by
 unfold setV
 split
 ·rename_i hh
  obtain ⟨k, rfl, hk⟩ := xY hh
  rw [yT hk] at h
  simp only [Int.toNat_natCast, bals, List.map_set, h]
  apply List.ext_getElem?
  intro j
  rw [List.getElem?_set]
  split
  ·rename_i hj; subst hj; simp [hk]
  ·rfl
 ·rfl
theorem sum_setV (l : List V) (i : Int) (v : V) (h : hasV l i = true) : (bals (setV l i v)).sum = (bals l).sum - (gotV l i).bal + v.bal := by
 obtain ⟨k, rfl, hk⟩ := xY h
 unfold setV
 rw [if_pos h, yT hk]
 exact sum_set hk v
theorem bals_ev (l : List V) (i e : Int) : bals (evV l i e) = bals l := by
 rw [evV_eq]
 split
 ·exact bals_setV rfl
 ·rfl
theorem wA (e : Int) : ∀ (is : List Int) (l : List V), bals (is.foldl (fun l i => evV l i e) l) = bals l
 | [], _ => rfl
 | i :: is, l => by rw [List.foldl_cons, wA e is, bals_ev]
theorem bals_rip (e : Int) : ∀ (is : List Int) (s : List V × List En), bals (is.foldl (ripS e) s).1 = bals s.1
 | [], _ => rfl
 | i :: is, s => by
  rw [List.foldl_cons, bals_rip e is]
  unfold ripS
  split
  ·rfl
  ·exact bals_ev _ _ _
structure Mid (e d : Int) (l : List V) (q : LL) (bo : List En) : Prop where
 lnd : (q.f ++ q.v).Nodup
 lan : ∀ i, i ∈ q.f ++ q.v ↔ (gotV l i).st = 3
 lax : ∀ i, (gotV l i).st = 3 → (gotV l i).ex = -1
 bnd : (bo.map En.i).Nodup
 bon : ∀ i, i ∈ bo.map En.i ↔ (gotV l i).st = 4
 bep : ∀ x ∈ bo, d ≤ x.e ∧ x.e ≤ (gotV l x.i).wd
 nex : ∀ i, (gotV l i).st = 1 ∨ (gotV l i).st = 2 → (gotV l i).ex = -1
 rdy : ∀ i, (gotV l i).st = 5 → (gotV l i).wd ≤ e
theorem fold_ev' {e : Int} (he : 1 ≤ e ∧ e ≤ 5) (is : List Int) (l : List V) (j : Int) :
  gotV (is.foldl (fun l i => evV l i e) l) j = if j ∈ is ∧ (gotV l j).st = e then { gotV l j with st := e + 1 } else gotV l j := by
 rw [(fold_ev he is l).2 j]
 by_cases h : (gotV l j).st = e
 ·have hh : hasV l j = true := yW (by omega)
  simp [hh]
 ·simp [h]
theorem InvE.mid {e : Int} {l : List V} {q : LL} {bo : List En} {lv : List Int} (h : InvE (e - 1) l q bo lv) : Mid e e (lv.foldl (fun l i => evV l i 3) l) q bo := by
 have g := fold_ev' (e := 3) (by omega) lv l
 have g3 : ∀ j, (gotV l j).st = 3 → (gotV l j).ex ≠ -1 → gotV (lv.foldl (fun l i => evV l i 3) l) j = { gotV l j with st := 4 } := fun j h1 h2 => by rw [g j, if_pos ⟨(h.lvs j).2 ⟨h1, h2⟩, h1⟩]; rfl
 have g0 : ∀ j, ¬ ((gotV l j).st = 3 ∧ (gotV l j).ex ≠ -1) → gotV (lv.foldl (fun l i => evV l i 3) l) j = gotV l j := fun j h1 => by rw [g j, if_neg (fun hc => h1 ((h.lvs j).1 hc.1))]
 refine ⟨h.lnd, fun i => ?_, fun i hi => ?_, h.bnd, fun i => ?_, fun x hx => ?_, fun i hi => ?_, fun i hi => ?_⟩
 ·rw [h.lan i]
  by_cases hc : (gotV l i).st = 3 ∧ (gotV l i).ex ≠ -1
  ·rw [g3 i hc.1 hc.2]; simp [hc]
  ·rw [g0 i hc]
   constructor
   ·exact fun h1 => h1.1
   ·exact fun h1 => ⟨h1, Classical.byContradiction fun h2 => hc ⟨h1, h2⟩⟩
 ·by_cases hc : (gotV l i).st = 3 ∧ (gotV l i).ex ≠ -1
  ·rw [g3 i hc.1 hc.2] at hi; simp at hi
  ·rw [g0 i hc] at hi ⊢
   exact Classical.byContradiction fun h2 => hc ⟨hi, h2⟩
 ·rw [h.bon i]
  by_cases hc : (gotV l i).st = 3 ∧ (gotV l i).ex ≠ -1
  ·rw [g3 i hc.1 hc.2]; simp [hc]
  ·rw [g0 i hc]
   constructor
   ·rintro (h1 | h1)
    ·exact h1
    ·exact absurd h1 hc
   ·exact .inl
 ·obtain ⟨h1, h2, h3⟩ := h.bep x hx
  by_cases hc : (gotV l x.i).st = 3 ∧ (gotV l x.i).ex ≠ -1
  ·rw [g3 x.i hc.1 hc.2]; exact ⟨by have := h3 hc.1; omega, h2⟩
  ·rw [g0 x.i hc]; exact ⟨by omega, h2⟩
 ·by_cases hc : (gotV l i).st = 3 ∧ (gotV l i).ex ≠ -1
  ·rw [g3 i hc.1 hc.2] at hi; simp at hi
  ·rw [g0 i hc] at hi ⊢; exact h.nex i hi
 ·by_cases hc : (gotV l i).st = 3 ∧ (gotV l i).ex ≠ -1
  ·rw [g3 i hc.1 hc.2] at hi; simp at hi
  ·rw [g0 i hc] at hi ⊢
   have := h.rdy i hi; omega
theorem due_mem {e : Int} {bo : List En} {j : Int} : j ∈ dueO e bo ↔ ∃ x ∈ bo, x.e = e ∧ x.i = j := by
 simp only [dueO, List.mem_map, List.mem_filter, decide_eq_true_eq]
 constructor
 ·rintro ⟨x, ⟨h1, h2⟩, h3⟩; exact ⟨x, h1, h2, h3⟩
 ·rintro ⟨x, h1, h2, h3⟩; exact ⟨x, ⟨h1, h2⟩, h3⟩
theorem keep_mem {e : Int} {bo : List En} {x : En} : x ∈ keepE e bo ↔ x ∈ bo ∧ x.e ≠ e := by simp [keepE]
structure Rip (e : Int) (l l' : List V) (bo : List En) : Prop where
 len : l'.length = l.length
 got : ∀ j, gotV l' j = if j ∈ dueO e bo ∧ (gotV l j).wd ≤ e ∧ (gotV l j).st = 4 then { gotV l j with st := 5 } else gotV l j
theorem Mid.rip {e : Int} (he : 0 ≤ e) {l : List V} {q : LL} {bo : List En} (h : Mid e e l q bo) (hw : ∀ j, (gotV l j).wd ≤ 1099511627776) :
  Rip e l (ripE e (l, bo)).1 bo ∧ Mid e (e + 1) (ripE e (l, bo)).1 q (ripE e (l, bo)).2 := by
 obtain ⟨h1, h2, h3⟩ := rip_fold he (dueO e bo) l (keepE e bo) hw
 have g : ∀ j, gotV (ripE e (l, bo)).1 j = if j ∈ dueO e bo ∧ (gotV l j).wd ≤ e ∧ (gotV l j).st = 4 then { gotV l j with st := 5 } else gotV l j := fun j => by
  show gotV ((dueO e bo).foldl (ripS e) (l, keepE e bo)).1 j = _
  rw [h2 j]
  by_cases h4 : (gotV l j).st = 4
  ·have hh : hasV l j = true := yW (by omega)
   simp [hh, h4]
  ·simp [h4]
 have hb : (ripE e (l, bo)).2 = keepE e bo ++ ((dueO e bo).filter fun i => decide (e < (gotV l i).wd)).map fun i => ⟨(gotV l i).wd, i⟩ := h3
 have hmap : ((ripE e (l, bo)).2).map En.i = (keepE e bo).map En.i ++ (dueO e bo).filter fun i => decide (e < (gotV l i).wd) := by
  rw [hb, List.map_append, List.map_map]
  congr 1
  have : (En.i ∘ fun i => (⟨(gotV l i).wd, i⟩ : En)) = id := rfl
  rw [this, List.map_id]
 have gst : ∀ j, (gotV (ripE e (l, bo)).1 j).st ≠ 4 → (gotV (ripE e (l, bo)).1 j).st ≠ 5 → gotV (ripE e (l, bo)).1 j = gotV l j := fun j h4 h5 => by
  rw [g j] at h4 h5 ⊢
  split at h4 <;> simp_all
 have ge4 : ∀ j, (gotV l j).st ≠ 4 → gotV (ripE e (l, bo)).1 j = gotV l j := fun j h4 => by
  rw [g j, if_neg (fun hc => h4 hc.2.2)]
 have uniq : ∀ x ∈ bo, ∀ y ∈ bo, x.i = y.i → x = y := fun x hx y hy hxy => by
  obtain ⟨a, ha, rfl⟩ := List.getElem_of_mem hx
  obtain ⟨b, hb, rfl⟩ := List.getElem_of_mem hy
  have hn := List.pairwise_iff_getElem.1 h.bnd
  rcases Nat.lt_trichotomy a b with hlt | heq | hlt
  ·exact absurd (by rw [List.getElem_map, List.getElem_map]; exact hxy) (hn a b (by simpa using ha) (by simpa using hb) hlt)
  ·subst heq; rfl
  ·exact absurd (by rw [List.getElem_map, List.getElem_map]; exact hxy.symm) (hn b a (by simpa using hb) (by simpa using ha) hlt)
 have mem4 : ∀ i, i ∈ (ripE e (l, bo)).2.map En.i ↔ (gotV (ripE e (l, bo)).1 i).st = 4 := fun i => by
  rw [hmap, List.mem_append]
  constructor
  ·rintro (h4 | h4)
   ·obtain ⟨x, hx, rfl⟩ := List.mem_map.1 h4
    obtain ⟨hx1, hx2⟩ := keep_mem.1 hx
    have h5 : (gotV l x.i).st = 4 := (h.bon x.i).1 (List.mem_map.2 ⟨x, hx1, rfl⟩)
    rw [g x.i, if_neg]
    ·exact h5
    ·rintro ⟨hc, _, _⟩
     obtain ⟨y, hy, hye, hyi⟩ := due_mem.1 hc
     have := uniq y hy x hx1 hyi
     subst this; exact hx2 hye
   ·obtain ⟨h5, h6⟩ := List.mem_filter.1 h4
    have h6 := of_decide_eq_true h6
    obtain ⟨y, hy, hye, rfl⟩ := due_mem.1 h5
    have h7 : (gotV l y.i).st = 4 := (h.bon y.i).1 (List.mem_map.2 ⟨y, hy, rfl⟩)
    rw [g y.i, if_neg (by omega)]; exact h7
  ·intro h4
   have h5 : (gotV l i).st = 4 := by
    rw [g i] at h4
    split at h4
    ·simp at h4
    ·exact h4
   obtain ⟨x, hx, rfl⟩ := List.mem_map.1 ((h.bon i).2 h5)
   by_cases hxe : x.e = e
   ·right
    refine List.mem_filter.2 ⟨due_mem.2 ⟨x, hx, hxe, rfl⟩, decide_eq_true ?_⟩
    refine Classical.byContradiction fun hc => ?_
    rw [g x.i, if_pos ⟨due_mem.2 ⟨x, hx, hxe, rfl⟩, by omega, h5⟩] at h4
    simp at h4
   ·exact .inl (List.mem_map.2 ⟨x, keep_mem.2 ⟨hx, hxe⟩, rfl⟩)
 refine ⟨⟨h1, g⟩, h.lnd, fun i => ?_, fun i hi => ?_, ?_, mem4, fun x hx => ?_, fun i hi => ?_, fun i hi => ?_⟩
 ·rw [h.lan i]
  constructor
  ·intro h4; rw [ge4 i (by omega)]; exact h4
  ·intro h4; rw [gst i (by omega) (by omega)] at h4; exact h4
 ·have hg := gst i (by omega) (by omega)
  rw [hg] at hi ⊢; exact h.lax i hi
 ·rw [hmap]
  have hd : (dueO e bo).Nodup := by
   unfold dueO
   exact (List.filter_sublist.map En.i).nodup h.bnd
  have hk : ((keepE e bo).map En.i).Nodup := (List.filter_sublist.map En.i).nodup h.bnd
  refine List.nodup_append.2 ⟨hk, List.filter_sublist.nodup hd, fun a ha b hb hab => ?_⟩
  obtain ⟨x, hx, rfl⟩ := List.mem_map.1 ha
  obtain ⟨y, hy, hye, hyi⟩ := due_mem.1 (List.mem_filter.1 hb).1
  have := uniq x (keep_mem.1 hx).1 y hy (hab.trans hyi.symm)
  subst this
  exact (keep_mem.1 hx).2 hye
 ·have h4 := (mem4 x.i).1 (List.mem_map.2 ⟨x, hx, rfl⟩)
  have h5 : gotV (ripE e (l, bo)).1 x.i = gotV l x.i := by
   rw [g x.i] at h4 ⊢
   split at h4
   ·simp at h4
   ·rename_i hc; rw [if_neg hc]
  rw [h5]
  rw [hb] at hx
  rcases List.mem_append.1 hx with hx | hx
  ·obtain ⟨hx1, hx2⟩ := keep_mem.1 hx
   have := h.bep x hx1
   omega
  ·obtain ⟨i, hi, rfl⟩ := List.mem_map.1 hx
   have := of_decide_eq_true (List.mem_filter.1 hi).2
   exact ⟨by show e + 1 ≤ (gotV l i).wd; omega, Int.le_refl _⟩
 ·have hg := gst i (by omega) (by omega)
  rw [hg] at hi ⊢; exact h.nex i hi
 ·rw [g i] at hi ⊢
  split
  ·rename_i hc; exact hc.2.1
  ·rename_i hc; rw [if_neg hc] at hi; exact h.rdy i hi
end Go.Proofs.YtdddiilocbbkkaaGreat
