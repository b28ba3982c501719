/- TopForced: for every configuration and all operations the law returns true. No condition. Part 24 of 42. -/
import Derived.Test.YtdddiilocbbkkaaGreatTF23
set_option linter.unusedVariables false
set_option linter.unusedSimpArgs false
namespace Go.Proofs.YtdddiilocbbkkaaGreat
open Go.RowKit Go.Eg
set_option maxHeartbeats 4000000
set_option synthInstance.maxSize 3000
set_option maxRecDepth 100000
def asV (e : Int) (c : C) (v : V) : V := { v with ex := e, wd := max v.wd (e + c.unb) }
theorem asn_eq {v : V} {e : Int} {c : C} (h3 : v.st = 3) (hx : v.ex = -1) (he : 0 ≤ e) (hu : 0 ≤ c.unb) (hb : e + c.unb ≤ 1099511627776) : asnV v e c = (asV e c v, 0) := by
 have hl : latB [e, c.unb] = true := by
  unfold latB
  refine decide_eq_true ⟨fun x hx => ?_, by simpa using hb⟩
  simp at hx; rcases hx with rfl | rfl <;> assumption
 have hv : latV [e, c.unb] = e + c.unb := by unfold latV; rw [if_pos hl]; simp
 unfold asnV asV
 rw [if_neg (by omega), if_neg (by rw [hl]; simp), hv]
theorem asg_fold {e : Int} {c : C} (he : 0 ≤ e) (hu : 0 ≤ c.unb) (hb : e + c.unb ≤ 1099511627776) : ∀ (ag : List As) (l : List V) (bo : List En) (lv : List Int), (∀ a ∈ ag, a.e = e ∧ (gotV l a.i).st = 3 ∧ (gotV l a.i).ex = -1) → (ag.map As.i).Nodup → (∀ j, (gotV l j).wd ≤ 1099511627776) →
  (ag.foldl (asgS c) (l, bo, lv)).1.length = l.length ∧ (∀ j, gotV (ag.foldl (asgS c) (l, bo, lv)).1 j = if j ∈ ag.map As.i then asV e c (gotV l j) else gotV l j) ∧
  (ag.foldl (asgS c) (l, bo, lv)).2.1 = bo ++ ag.map (fun a => ⟨(asV e c (gotV l a.i)).wd, a.i⟩) ∧ (ag.foldl (asgS c) (l, bo, lv)).2.2 = lv ++ ag.map As.i ∧ bals (ag.foldl (asgS c) (l, bo, lv)).1 = bals l
 | [], l, bo, lv, _, _, _ => ⟨rfl, fun j => by simp, by simp, by simp, rfl⟩
 | a :: ag, l, bo, lv, ha, hn, hw => by
  obtain ⟨h1, h2, h3⟩ := ha a (by simp)
  simp only [List.map_cons, List.nodup_cons] at hn
  have hh : hasV l a.i = true := yW (by omega)
  have e1 : asgS c (l, bo, lv) a = (setV l a.i (asV e c (gotV l a.i)), bo ++ [⟨(asV e c (gotV l a.i)).wd, a.i⟩], lv ++ [a.i]) := by
   have hq := asn_eq (c := c) h2 h3 he hu hb
   unfold asgS
   simp only [h1, hq]
   rw [putE_in (by have := hw a.i; simp only [asV]; omega)]
  have hne : ∀ b ∈ ag, gotV (setV l a.i (asV e c (gotV l a.i))) b.i = gotV l b.i := fun b hb' => by
   rw [yZ, if_neg]
   rintro ⟨_, hc⟩
   exact hn.1 (by rw [← hc]; exact List.mem_map.2 ⟨b, hb', rfl⟩)
  obtain ⟨g1, g2, g3, g4, g5⟩ := asg_fold he hu hb ag (setV l a.i (asV e c (gotV l a.i))) (bo ++ [⟨(asV e c (gotV l a.i)).wd, a.i⟩]) (lv ++ [a.i]) (fun b hb' => by rw [hne b hb']; exact ha b (by simp [hb'])) hn.2 (fun j => by
   rw [yZ]
   split
   ·have := hw a.i; simp only [asV]; omega
   ·exact hw j)
  rw [List.foldl_cons, e1]
  refine ⟨by rw [g1, len_setV], fun j => ?_, ?_, ?_, ?_⟩
  ·rw [g2 j, yZ]
   by_cases hj : j = a.i
   ·subst hj
    rw [if_neg hn.1, if_pos ⟨hh, rfl⟩, if_pos (by simp)]
   ·rw [if_neg (show ¬ (hasV l a.i = true ∧ j = a.i) from fun hc => hj hc.2)]
    simp [hj]
  ·rw [g3, List.map_cons, List.append_assoc, List.singleton_append]
   congr 2
   exact List.map_congr_left fun b hb' => by rw [hne b hb']
  ·rw [g4]; simp
  ·rw [g5]; exact bals_setV rfl
theorem stepM_shape (W : List Int) (e lim : Int) (q : LL) (m : M) : ∃ a b : Nat, (stepM W e lim q m).1 = (q.f.take a).map (fun i => As.mk i 0 (e + 1)) ++ (q.v.take b).map (fun i => As.mk i 1 (e + 1))
  ∧ a ≤ q.f.length ∧ b ≤ q.v.length ∧ (0 < b → a = q.f.length) ∧ (stepM W e lim q m).2.1 = ⟨q.f.drop a, q.v.drop b⟩ := by
 obtain ⟨a, b, h⟩ := stepMF_shape W e (lenL q + 1) q (m.grant lim) []
 exact ⟨a, b, by simpa [stepM] using h.1, h.2⟩
theorem mapI (xs : List Int) (c e : Int) : (xs.map (fun i => As.mk i c e)).map As.i = xs := by
 rw [List.map_map]
 have : (As.i ∘ fun i => As.mk i c e) = id := rfl
 rw [this, List.map_id]
theorem nodup_parts {f v : List Int} (a b : Nat) (h : (f ++ v).Nodup) : (f.take a ++ v.take b).Nodup ∧ (f.drop a ++ v.drop b).Nodup ∧ (∀ i, i ∈ f ++ v ↔ i ∈ f.take a ++ v.take b ∨ i ∈ f.drop a ++ v.drop b) ∧ ∀ i ∈ f.take a ++ v.take b, i ∉ f.drop a ++ v.drop b := by
 have hp : (f ++ v).Perm ((f.take a ++ v.take b) ++ (f.drop a ++ v.drop b)) := by
  conv => lhs; rw [← List.take_append_drop a f, ← List.take_append_drop b v]
  rw [List.append_assoc, List.append_assoc]
  refine List.Perm.append_left _ ?_
  rw [← List.append_assoc, ← List.append_assoc]
  exact List.Perm.append_right _ List.perm_append_comm
 have hn := hp.nodup_iff.1 h
 obtain ⟨h1, h2, h3⟩ := List.nodup_append.1 hn
 exact ⟨h1, h2, fun i => by rw [hp.mem_iff, List.mem_append], fun i hi hc => h3 i hi i hc rfl⟩
structure Asg (e : Int) (c : C) (l l' : List V) (ag : List As) : Prop where
 len : l'.length = l.length
 got : ∀ j, gotV l' j = if j ∈ ag.map As.i then asV (e + 1) c (gotV l j) else gotV l j
 as3 : ∀ j ∈ ag.map As.i, (gotV l j).st = 3 ∧ (gotV l j).ex = -1
 bal : bals l' = bals l
theorem Mid.asg {e : Int} (he : 0 ≤ e) {c : C} (hu : 1 ≤ c.unb) (hb : e + 1 + c.unb ≤ 1099511627776) {l : List V} {q : LL} {bo : List En} (h : Mid e (e + 1) l q bo) (hw : ∀ j, (gotV l j).wd ≤ 1099511627776) (W : List Int) (lim : Int) (m : M) :
  Asg e c l ((stepM W e lim q m).1.foldl (asgS c) (l, bo, [])).1 (stepM W e lim q m).1 ∧
  InvE e ((stepM W e lim q m).1.foldl (asgS c) (l, bo, [])).1 (stepM W e lim q m).2.1 ((stepM W e lim q m).1.foldl (asgS c) (l, bo, [])).2.1 ((stepM W e lim q m).1.foldl (asgS c) (l, bo, [])).2.2 := by
 obtain ⟨a, b, h1, h2, h3, h4, h5⟩ := stepM_shape W e lim q m
 generalize (stepM W e lim q m).1 = ag at h1 ⊢
 generalize (stepM W e lim q m).2.1 = q' at h5 ⊢
 have hI : ag.map As.i = q.f.take a ++ q.v.take b := by rw [h1, List.map_append, mapI, mapI]
 have hE : ∀ x ∈ ag, x.e = e + 1 := fun x hx => by
  rw [h1] at hx
  rcases List.mem_append.1 hx with hx | hx <;> (obtain ⟨i, _, rfl⟩ := List.mem_map.1 hx; rfl)
 obtain ⟨n1, n2, n3, n4⟩ := nodup_parts a b h.lnd
 have h3' : ∀ j ∈ ag.map As.i, (gotV l j).st = 3 ∧ (gotV l j).ex = -1 := fun j hj => by
  have : (gotV l j).st = 3 := (h.lan j).1 ((n3 j).2 (.inl (hI ▸ hj)))
  exact ⟨this, h.lax j this⟩
 obtain ⟨g1, g2, g3, g4, g5⟩ := asg_fold (e := e + 1) (c := c) (by omega) (by omega) hb ag l bo [] (fun x hx => ⟨hE x hx, h3' x.i (List.mem_map.2 ⟨x, hx, rfl⟩)⟩) (hI ▸ n1) hw
 refine ⟨⟨g1, g2, h3', g5⟩, ?_⟩
 have gn : ∀ j, j ∉ ag.map As.i → gotV (ag.foldl (asgS c) (l, bo, [])).1 j = gotV l j := fun j hj => by rw [g2 j, if_neg hj]
 have gy : ∀ j, j ∈ ag.map As.i → gotV (ag.foldl (asgS c) (l, bo, [])).1 j = asV (e + 1) c (gotV l j) := fun j hj => by rw [g2 j, if_pos hj]
 have not3 : ∀ j, (gotV l j).st ≠ 3 → j ∉ ag.map As.i := fun j hj hc => hj (h3' j hc).1
 have hbm : (ag.foldl (asgS c) (l, bo, [])).2.1.map En.i = bo.map En.i ++ ag.map As.i := by
  rw [g3, List.map_append, List.map_map]; rfl
 have st4 : ∀ i, (gotV (ag.foldl (asgS c) (l, bo, [])).1 i).st = (gotV l i).st := fun i => by
  rw [g2 i]; split <;> rfl
 rw [show (ag.foldl (asgS c) (l, bo, [])).2.2 = ag.map As.i by rw [g4]; rfl]
 refine ⟨?_, fun i => ?_, hI ▸ n1, fun i => ?_, fun i hi => ?_, ?_, fun i => ?_, fun x hx => ?_, fun i hi => ?_, fun i hi => ?_⟩
 ·rw [h5]; exact n2
 ·rw [h5, st4]
  constructor
  ·intro hi
   have h3 : (gotV l i).st = 3 := (h.lan i).1 ((n3 i).2 (.inr hi))
   refine ⟨h3, ?_⟩
   rw [gn i (fun hc => n4 i (hI ▸ hc) hi)]
   exact h.lax i h3
  ·rintro ⟨hs, hx⟩
   rcases (n3 i).1 ((h.lan i).2 hs) with hi | hi
   ·rw [gy i (hI ▸ hi)] at hx
    simp only [asV] at hx; omega
   ·exact hi
 ·rw [st4]
  constructor
  ·intro hi
   exact ⟨(h3' i hi).1, by rw [gy i hi]; simp only [asV]; omega⟩
  ·rintro ⟨hs, hx⟩
   refine Classical.byContradiction fun hc => hx ?_
   rw [gn i hc]; exact h.lax i hs
 ·rw [gy i hi]; rfl
 ·rw [hbm]
  refine List.nodup_append.2 ⟨h.bnd, hI ▸ n1, fun x hx y hy hxy => ?_⟩
  have := (h.bon x).1 hx
  have := (h3' y hy).1
  subst hxy; omega
 ·rw [hbm, List.mem_append, st4]
  constructor
  ·rintro (hi | hi)
   ·exact .inl ((h.bon i).1 hi)
   ·exact .inr ⟨(h3' i hi).1, by rw [gy i hi]; simp only [asV]; omega⟩
  ·rintro (hi | ⟨hs, hx⟩)
   ·exact .inl ((h.bon i).2 hi)
   ·refine .inr (Classical.byContradiction fun hc => hx ?_)
    rw [gn i hc]; exact h.lax i hs
 ·rw [g3] at hx
  rcases List.mem_append.1 hx with hx | hx
  ·have h6 : (gotV l x.i).st = 4 := (h.bon x.i).1 (List.mem_map.2 ⟨x, hx, rfl⟩)
   rw [gn x.i (not3 x.i (by omega))]
   have := h.bep x hx
   exact ⟨this.1, this.2, fun hc => by omega⟩
  ·obtain ⟨y, hy, rfl⟩ := List.mem_map.1 hx
   rw [gy y.i (List.mem_map.2 ⟨y, hy, rfl⟩)]
   simp only [asV]
   exact ⟨by omega, by omega, fun _ => by omega⟩
 ·rw [st4] at hi
  rw [gn i (not3 i (by omega))]; exact h.nex i hi
 ·rw [st4] at hi
  rw [gn i (not3 i (by omega))]; exact h.rdy i hi
theorem Sm.act (is : List Int) (l : List V) : Sm l (is.foldl (fun l i => evV l i 1) l) := Sm.of fun j => by
 rw [fold_ev' (e := 1) (by omega)]
 split
 ·rename_i h
  right
  refine ⟨by omega, by omega, ?_⟩
  simp only
  exact ⟨by omega, by omega, by omega, fun _ => .inr ⟨.inl h.2, trivial⟩⟩
 ·exact .inl rfl
theorem atV_got {l : List V} {i : Int} (h : hasV l i = true) : atV l i = gotV l i := by
 obtain ⟨k, rfl, hk⟩ := xY h
 rw [yT hk]; simp [atV, hk]
structure K2 (l l' : List V) : Prop where
 len : l'.length = l.length
 got : ∀ j, gotV l' j = gotV l j ∨ ((gotV l j).st = 2 ∧ ∃ b s, gotV l' j = { gotV l j with bal := b, st := s } ∧ 0 ≤ b ∧ (s = 2 ∨ s = 7))
theorem K2.refl (l : List V) : K2 l l := ⟨rfl, fun _ => .inl rfl⟩
theorem K2.trans {a b c : List V} (h : K2 a b) (h' : K2 b c) : K2 a c := ⟨h'.len.trans h.len, fun j => by
 rcases h.got j with h1 | ⟨h1, x, s, h2, h3, h4⟩
 ·rcases h'.got j with h5 | ⟨h5, y, t, h6, h7, h8⟩
  ·exact .inl (h5.trans h1)
  ·rw [h1] at h5 h6
   exact .inr ⟨h5, y, t, h6, h7, h8⟩
 ·rcases h'.got j with h5 | ⟨h5, y, t, h6, h7, h8⟩
  ·exact .inr ⟨h1, x, s, h5.trans h2, h3, h4⟩
  ·rw [h2] at h6
   exact .inr ⟨h1, y, t, h6, h7, h8⟩⟩
theorem K2.sm {l l' : List V} (h : K2 l l') : Sm l l' := Sm.of fun j => by
 rcases h.got j with h1 | ⟨h1, x, s, h2, h3, h4⟩
 ·exact .inl h1
 ·right
  rw [h2]
  simp only
  refine ⟨by omega, by omega, by omega, by omega, by omega, fun _ => .inr ⟨.inr h1, trivial⟩⟩
theorem K2.set {l : List V} {i : Int} {v : V} {b s : Int} (h : (gotV l i).st = 2) (hv : v = { gotV l i with bal := b, st := s }) (hb : 0 ≤ b) (hs : s = 2 ∨ s = 7) : K2 l (setV l i v) := ⟨len_setV _ _ _, fun j => by
 rw [yZ]
 split
 ·rename_i e
  rw [e.2]
  exact .inr ⟨h, b, s, hv, hb, hs⟩
 ·exact .inl rfl⟩
theorem K2.vo {l l' : List V} (h : K2 l l') (hv : ∀ i, hasV l i = true → VO (gotV l i)) : ∀ i, hasV l' i = true → VO (gotV l' i) := fun i hi => by
 rw [xO h.len] at hi
 have := hv i hi
 rcases h.got i with h1 | ⟨h1, x, s, h2, h3, h4⟩
 ·rw [h1]; exact this
 ·rw [h2]; exact ⟨h3, by simp only; omega, this.r, this.x, this.w, this.d⟩
theorem mv_setV {l : List V} {i j : Int} (hi : hasV l i = true) (hj : hasV l j = true) : mvN l i.toNat j.toNat = setV (setV l i { gotV l i with bal := 0, st := 7 }) j { gotV l j with bal := IntKind.u64.wrap ((gotV l j).bal + (gotV l i).bal) } := by
 have h1 := hi; have h2 := hj
 obtain ⟨a, rfl, ha⟩ := xY hi
 obtain ⟨b, rfl, hb⟩ := xY hj
 unfold setV
 rw [if_pos h1, if_pos (by rw [hasV_set]; exact h2), yT ha, yT hb]
 simp only [mvN, Int.toNat_natCast, atN_get ha, atN_get hb]
theorem has_req {l : List V} {i j : Int} {c : C} (h : reqV l i j c = 0) : hasV l i = true ∧ hasV l j = true ∧ i ≠ j ∧ (gotV l i).st = 2 ∧ (gotV l j).st = 2 ∧ (gotV l i).bal + (gotV l j).bal ≤ 18446744073709551615 := by
 obtain ⟨h1, h2, h3, h4, h5, h6⟩ := req_ok h
 have hi : hasV l i = true := decide_eq_true ⟨h1, h2⟩
 have hj : hasV l j = true := decide_eq_true ⟨h3, h4⟩
 rw [atV_got hi, atV_got hj] at h6
 have h7 := check_st h6
 exact ⟨hi, hj, h5, h7.1, h7.2.1, h7.2.2.2.2.1⟩
theorem K2.step {c : C} {s : List V × List Bool} {p : PP} (hv : ∀ i, hasV s.1 i = true → VO (gotV s.1 i)) : K2 s.1 (stepM16 c s p).1 ∧ (bals (stepM16 c s p).1).sum = (bals s.1).sum := by
 unfold stepM16
 simp only
 by_cases h : okReq s.1 p c = true
 ·rw [if_pos h]
  obtain ⟨h1, h2, h3, h4, h5, h6⟩ := has_req (of_decide_eq_true h)
  have hw : IntKind.u64.wrap ((gotV s.1 p.b).bal + (gotV s.1 p.a).bal) = (gotV s.1 p.b).bal + (gotV s.1 p.a).bal := by
   have := (hv _ h1).b; have := (hv _ h2).b
   rw [IntKind.wrap_u64]; omega
  rw [mv_setV h1 h2, hw]
  have hne : gotV (setV s.1 p.a { gotV s.1 p.a with bal := 0, st := 7 }) p.b = gotV s.1 p.b := by rw [yZ, if_neg (fun hc => h3 hc.2.symm)]
  have hb2 : hasV (setV s.1 p.a { gotV s.1 p.a with bal := 0, st := 7 }) p.b = true := by rw [has_setV]; exact h2
  constructor
  ·refine (K2.set (b := 0) (s := 7) h4 rfl (by omega) (.inr rfl)).trans (K2.set (b := (gotV s.1 p.b).bal + (gotV s.1 p.a).bal) (s := 2) (by rw [hne]; exact h5) ?_ (by have := (hv _ h1).b; have := (hv _ h2).b; omega) (.inl rfl))
   rw [hne]
   generalize gotV s.1 p.b = x at h5 ⊢
   cases x; simp only at h5 ⊢; rw [h5]
  ·rw [sum_setV _ _ _ hb2, hne, sum_setV _ _ _ h1]
   simp only
   omega
 ·rw [if_neg h]; exact ⟨K2.refl _, rfl⟩
theorem K2.fold {c : C} : ∀ (q : List PP) (s : List V × List Bool), (∀ i, hasV s.1 i = true → VO (gotV s.1 i)) → K2 s.1 (q.foldl (stepM16 c) s).1 ∧ (bals (q.foldl (stepM16 c) s).1).sum = (bals s.1).sum
 | [], s, _ => ⟨K2.refl _, rfl⟩
 | p :: q, s, hv => by
  obtain ⟨h1, h2⟩ := K2.step (c := c) (p := p) hv
  obtain ⟨h3, h4⟩ := K2.fold (c := c) q (stepM16 c s p) (h1.vo hv)
  rw [List.foldl_cons]
  exact ⟨h1.trans h3, h4.trans h2⟩
theorem K2.runM {c : C} {l : List V} (q : List PP) (hv : ∀ i, hasV l i = true → VO (gotV l i)) : K2 l (runM c l q).1 ∧ (bals (runM c l q).1).sum = (bals l).sum := K2.fold q (l, []) hv
theorem inB_has {l : List V} {r : Rq} : inB l r ↔ hasV l r.i = true := by unfold inB hasV; rw [decide_eq_true_iff]
theorem payO_eq (c : C) (l : List V) (r : Rq) : payO c l r = setV l r.i (apV (gotV l r.i) r.m c) := by
 by_cases h : inB l r
 ·have hh := inB_has.1 h
  obtain ⟨k, hk, hl⟩ := xY hh
  unfold setV
  rw [payO_in hk hl, if_pos hh, hk, yT hl]; rfl
 ·rw [payO_out h]; unfold setV; rw [if_neg (fun hc => h (inB_has.2 hc))]
theorem payP_eq (c : C) (l : List V) (paid : List Y) (r : Rq) : payP c l paid r = if hasV l r.i = true then paid ++ [⟨r.i, min r.m (avail (gotV l r.i) c), false⟩] else paid := by
 by_cases h : inB l r
 ·have hh := inB_has.1 h
  obtain ⟨k, hk, hl⟩ := xY hh
  rw [payP_in hk hl, if_pos hh, hk, yT hl]
 ·rw [payP_out h, if_neg (fun hc => h (inB_has.2 hc))]
theorem avail_bd {v : V} {c : C} (h : VO v) (hm : v.bal ≤ 18446744073709551615) (hc : 0 ≤ c.minb) : 0 ≤ avail v c ∧ avail v c ≤ v.bal ∧ (v.st ≠ 2 → avail v c = 0) := by
 have := h.b
 unfold avail
 split
 ·exact ⟨by omega, by omega, fun _ => rfl⟩
 ·rename_i h1
  split
  ·exact ⟨by omega, by omega, fun _ => rfl⟩
  ·rw [IntKind.wrap_u64]
   refine ⟨by omega, by omega, fun hc => absurd (.inl hc) h1⟩
def sumA (ps : List Y) : Int := (ps.map Y.a).sum
theorem sumA_app (a b : List Y) : sumA (a ++ b) = sumA a + sumA b := by simp [sumA]
theorem sumA_pos (ps : List Y) : sumA (pos ps) = sumA ps := by
 induction ps with
 | nil => rfl
 | cons y ps ih =>
  unfold pos at ih ⊢
  rw [List.filter_cons]
  split
  ·simp only [sumA, List.map_cons, List.sum_cons] at ih ⊢; omega
  ·rename_i h
   have h0 : y.a = 0 := by simpa using h
   simp only [sumA, List.map_cons, List.sum_cons] at ih ⊢; omega
theorem mem_le_sum : ∀ {l : List Int}, (∀ x ∈ l, 0 ≤ x) → ∀ x ∈ l, x ≤ l.sum
 | [], _, x, hx => by simp at hx
 | a :: l, h, x, hx => by
  have h0 := xK (l := l) fun y hy => h y (by simp [hy])
  have h1 := h a (by simp)
  rw [List.sum_cons]
  rcases List.mem_cons.1 hx with rfl | hx
  ·omega
  ·have := mem_le_sum (l := l) (fun y hy => h y (by simp [hy])) x hx; omega
theorem bal_le {l : List V} (hv : ∀ i, hasV l i = true → VO (gotV l i)) {i : Int} (hi : hasV l i = true) : (gotV l i).bal ≤ (bals l).sum := by
 refine mem_le_sum (fun x hx => ?_) _ (List.mem_map.2 ⟨_, got_has hi, rfl⟩)
 obtain ⟨v, hv', rfl⟩ := List.mem_map.1 hx
 obtain ⟨j, hj, rfl⟩ := mem_got hv'
 exact (hv j hj).b
theorem K2.pstep {c : C} {s : List V × List Y} {r : Rq} (hv : ∀ i, hasV s.1 i = true → VO (gotV s.1 i)) (hm : (bals s.1).sum ≤ 18446744073709551615) (hc : 0 ≤ c.minb) (hr : 0 ≤ r.m) :
  K2 s.1 (stepQ c s r).1 ∧ (bals (stepQ c s r).1).sum + sumA (stepQ c s r).2 = (bals s.1).sum + sumA s.2 ∧ ((∀ y ∈ s.2, 0 ≤ y.a ∧ y.f = false ∧ hasV s.1 y.i = true) → ∀ y ∈ (stepQ c s r).2, 0 ≤ y.a ∧ y.f = false ∧ hasV s.1 y.i = true) := by
 unfold stepQ
 simp only
 rw [payO_eq, payP_eq]
 by_cases hh : hasV s.1 r.i = true
 ·have h1 := hv _ hh
  have h2 := bal_le hv hh
  obtain ⟨a1, a2, a3⟩ := avail_bd h1 (by omega) hc
  have hp : 0 ≤ min r.m (avail (gotV s.1 r.i) c) ∧ min r.m (avail (gotV s.1 r.i) c) ≤ (gotV s.1 r.i).bal := by omega
  have hw : IntKind.u64.wrap ((gotV s.1 r.i).bal - min r.m (avail (gotV s.1 r.i) c)) = (gotV s.1 r.i).bal - min r.m (avail (gotV s.1 r.i) c) := by rw [IntKind.wrap_u64]; omega
  have hap : apV (gotV s.1 r.i) r.m c = { gotV s.1 r.i with bal := (gotV s.1 r.i).bal - min r.m (avail (gotV s.1 r.i) c) } := by unfold apV; rw [hw]
  rw [if_pos hh]
  refine ⟨?_, ?_, fun h y hy => ?_⟩
  ·by_cases h2 : (gotV s.1 r.i).st = 2
   ·refine K2.set (b := (gotV s.1 r.i).bal - min r.m (avail (gotV s.1 r.i) c)) (s := 2) h2 ?_ (by omega) (.inl rfl)
    rw [hap]
    generalize gotV s.1 r.i = x at h2 ⊢
    cases x; simp only at h2 ⊢; rw [h2]
   ·refine ⟨len_setV _ _ _, fun j => .inl ?_⟩
    rw [yZ]
    split
    ·rename_i e
     rw [hap, e.2]
     have h0 := a3 h2
     have h5 : (gotV s.1 r.i).bal - min r.m (avail (gotV s.1 r.i) c) = (gotV s.1 r.i).bal := by omega
     rw [h5]
    ·rfl
  ·rw [sum_setV _ _ _ hh, hap, sumA_app]
   simp only [sumA, List.map_cons, List.map_nil, List.sum_cons, List.sum_nil]
   omega
  ·rcases List.mem_append.1 hy with hy | hy
   ·exact h y hy
   ·simp only [List.mem_cons, List.not_mem_nil, or_false] at hy
    subst hy; exact ⟨hp.1, rfl, hh⟩
 ·rw [if_neg hh]
  have : setV s.1 r.i (apV (gotV s.1 r.i) r.m c) = s.1 := by unfold setV; rw [if_neg hh]
  rw [this]
  exact ⟨K2.refl _, rfl, fun h => h⟩
theorem K2.pfold {c : C} (hc : 0 ≤ c.minb) : ∀ (q : List Rq) (s : List V × List Y), (∀ r ∈ q, 0 ≤ r.m) → (∀ i, hasV s.1 i = true → VO (gotV s.1 i)) → (bals s.1).sum ≤ 18446744073709551615 → (∀ y ∈ s.2, 0 ≤ y.a) →
  K2 s.1 (q.foldl (stepQ c) s).1 ∧ (bals (q.foldl (stepQ c) s).1).sum + sumA (q.foldl (stepQ c) s).2 = (bals s.1).sum + sumA s.2 ∧ ((∀ y ∈ s.2, 0 ≤ y.a ∧ y.f = false ∧ hasV s.1 y.i = true) → ∀ y ∈ (q.foldl (stepQ c) s).2, 0 ≤ y.a ∧ y.f = false ∧ hasV s.1 y.i = true)
 | [], s, _, _, _, _ => ⟨K2.refl _, rfl, fun h => h⟩
 | r :: q, s, hq, hv, hm, hs => by
  obtain ⟨h1, h2, h3⟩ := K2.pstep (s := s) (r := r) hv hm hc (hq r (by simp))
  have h0 : ∀ y ∈ (stepQ c s r).2, 0 ≤ y.a := fun y hy => by
   unfold stepQ at hy
   simp only at hy
   rw [payP_eq] at hy
   split at hy
   ·rename_i hh
    rcases List.mem_append.1 hy with hy | hy
    ·exact hs y hy
    ·simp only [List.mem_cons, List.not_mem_nil, or_false] at hy
     subst hy
     obtain ⟨a1, _, _⟩ := avail_bd (hv _ hh) (by have := bal_le hv hh; omega) hc
     have := hq r (by simp)
     simp only; omega
   ·exact hs y hy
  have hs2 : sumA s.2 ≤ sumA (stepQ c s r).2 := by
   unfold stepQ
   simp only
   rw [payP_eq]
   split
   ·rename_i hh
    obtain ⟨a1, _, _⟩ := avail_bd (hv _ hh) (by have := bal_le hv hh; omega) hc
    have := hq r (by simp)
    rw [sumA_app]
    simp only [sumA, List.map_cons, List.map_nil, List.sum_cons, List.sum_nil]; omega
   ·exact Int.le_refl _
  obtain ⟨g1, g2, g3⟩ := K2.pfold hc q (stepQ c s r) (fun x hx => hq x (by simp [hx])) (h1.vo hv) (by omega) h0
  rw [List.foldl_cons]
  refine ⟨h1.trans g1, by omega, fun h y hy => ?_⟩
  have := g3 (fun z hz => by
   have := h3 h z hz
   exact ⟨this.1, this.2.1, by rw [xO h1.len]; exact this.2.2⟩) y hy
  exact ⟨this.1, this.2.1, by rw [← xO h1.len]; exact this.2.2⟩
theorem K2.run {c : C} (hc : 0 ≤ c.minb) {l : List V} (q : List Rq) (hq : ∀ r ∈ q, 0 ≤ r.m) (hv : ∀ i, hasV l i = true → VO (gotV l i)) (hm : (bals l).sum ≤ 18446744073709551615) :
  K2 l (run c l q).1 ∧ (bals (run c l q).1).sum + sumA (run c l q).2 = (bals l).sum ∧ ∀ y ∈ (run c l q).2, 0 ≤ y.a ∧ y.f = false ∧ hasV l y.i = true := by
 obtain ⟨h1, h2, h3⟩ := K2.pfold hc q (l, []) hq hv hm (by simp)
 exact ⟨h1, by simpa [sumA, Go.Proofs.YtdddiilocbbkkaaGreat.run] using h2, h3 (by simp)⟩
theorem pay_eq {v : V} {e : Int} (h : v.st = 5) (hw : v.wd ≤ e) : payV v e = ({ v with st := 6, bal := 0 }, v.bal, 0) := by
 unfold payV
 have : nxt v.st 5 = 6 := by rw [nxt_self (by omega), if_pos h]; rfl
 rw [this, if_neg (by omega), if_neg (by omega)]
theorem full_fold {l0 : List V} {e : Int} : ∀ (is : List Int) (l : List V) (ps : List Y), is.Nodup → (∀ i ∈ is, (gotV l0 i).st = 5 ∧ (gotV l0 i).wd ≤ e ∧ gotV l i = gotV l0 i) →
  (is.foldl (fullS l0 e) (l, ps)).1.length = l.length ∧ (∀ j, gotV (is.foldl (fullS l0 e) (l, ps)).1 j = if j ∈ is then { gotV l0 j with st := 6, bal := 0 } else gotV l j) ∧
  (is.foldl (fullS l0 e) (l, ps)).2 = ps ++ is.map (fun i => ⟨i, (gotV l0 i).bal, true⟩) ∧ (bals (is.foldl (fullS l0 e) (l, ps)).1).sum + sumA (is.foldl (fullS l0 e) (l, ps)).2 = (bals l).sum + sumA ps
 | [], l, ps, _, _ => ⟨rfl, fun j => by simp, by simp, rfl⟩
 | i :: is, l, ps, hn, h => by
  obtain ⟨h1, h2, h3⟩ := h i (by simp)
  rw [List.nodup_cons] at hn
  have hh : hasV l i = true := yW (by rw [h3]; omega)
  have e1 : fullS l0 e (l, ps) i = (setV l i { gotV l0 i with st := 6, bal := 0 }, ps ++ [⟨i, (gotV l0 i).bal, true⟩]) := by
   unfold fullS; rw [pay_eq h1 h2]
  have hne : ∀ j ∈ is, gotV (setV l i { gotV l0 i with st := 6, bal := 0 }) j = gotV l j := fun j hj => by
   rw [yZ, if_neg]
   rintro ⟨_, rfl⟩; exact hn.1 hj
  obtain ⟨g1, g2, g3, g4⟩ := full_fold (l0 := l0) (e := e) is (setV l i { gotV l0 i with st := 6, bal := 0 }) (ps ++ [⟨i, (gotV l0 i).bal, true⟩]) hn.2 (fun j hj => by
   obtain ⟨k1, k2, k3⟩ := h j (by simp [hj])
   exact ⟨k1, k2, by rw [hne j hj, k3]⟩)
  rw [List.foldl_cons, e1]
  refine ⟨by rw [g1, len_setV], fun j => ?_, ?_, ?_⟩
  ·rw [g2 j, yZ]
   by_cases hj : j = i
   ·subst hj
    rw [if_neg hn.1, if_pos ⟨hh, rfl⟩, if_pos (by simp)]
   ·rw [if_neg (show ¬ (hasV l i = true ∧ j = i) from fun hc => hj hc.2)]
    simp [hj]
  ·rw [g3]; simp
  ·rw [g4, sum_setV _ _ _ hh, sumA_app, h3]
   simp only [sumA, List.map_cons, List.map_nil, List.sum_cons, List.sum_nil]; omega
end Go.Proofs.YtdddiilocbbkkaaGreat
