/- TopForced: for every configuration and all operations the law returns true. No condition. Part 26 of 42. -/
import Derived.Test.YtdddiilocbbkkaaGreatTF22
import Derived.Test.YtdddiilocbbkkaaGreatTF25
set_option linter.unusedVariables false
set_option linter.unusedSimpArgs false
namespace Go.Proofs.YtdddiilocbbkkaaGreat
open Go.RowKit Go.Eg
set_option maxHeartbeats 4000000
set_option synthInstance.maxSize 3000
set_option maxRecDepth 100000
theorem vo_ev {e : Int} (he : 1 ≤ e ∧ e ≤ 5) (is : List Int) {l : List V} (hv : ∀ i, hasV l i = true → VO (gotV l i)) : ∀ i, hasV (is.foldl (fun l i => evV l i e) l) i = true → VO (gotV (is.foldl (fun l i => evV l i e) l) i) := fun i hi => by
 rw [xO (fold_ev he is l).1] at hi
 rw [fold_ev' he]
 have := hv i hi
 split
 ·exact ⟨this.b, by simp only; omega, this.r, this.x, this.w, this.d⟩
 ·exact this
theorem stepM_ok {W : List Int} {e lim : Int} {q : LL} {m : M} (hW : ∀ x ∈ W, 0 ≤ x) (hl : 0 ≤ lim) (h : m.ok) : (stepM W e lim q m).2.2.ok := (stepM_of hW hl h).2
theorem actS_nn : ∀ {l : List V}, (∀ v ∈ l, 0 ≤ v.bal) → 0 ≤ actS l ∧ actS l ≤ (bals l).sum
 | [], _ => ⟨Int.le_refl _, Int.le_refl _⟩
 | v :: l, h => by
  have ih := actS_nn (l := l) fun x hx => h x (by simp [hx])
  have h0 := h v (by simp)
  simp only [actS, bals, List.map_cons, List.sum_cons] at ih ⊢
  split <;> omega
theorem churn_nn {a m q : Int} (ha : 0 ≤ a) (hm : 0 ≤ m) : 0 ≤ churn a m q := by
 unfold churn
 split
 ·exact hm
 ·omega
structure Bdy (s : Eg) where
 l1 : List V
 l2 : List V
 b2 : List En
 ag : List As
 l3 : List V
 l4 : List V
 l5 : List V
 f1 : l1 = s.lv.foldl (fun l i => evV l i 3) s.l
 f2 : Rip s.ep l1 l2 s.bo
 f3 : Asg s.ep s.c l2 l3 ag
 f4 : ∃ is : List Int, l4 = is.foldl (fun l i => evV l i 1) l3
 f5 : K2 l4 l5
 d1 : Mid s.ep s.ep l1 s.q s.bo
 d2 : Mid s.ep (s.ep + 1) l2 s.q b2
 hl : (bdyE s).1.l = l5
 ha : (bdyE s).2 = ag
 hs : ∃ a b : Nat, ag = (s.q.f.take a).map (fun i => As.mk i 0 (s.ep + 1)) ++ (s.q.v.take b).map (fun i => As.mk i 1 (s.ep + 1)) ∧ a ≤ s.q.f.length ∧ b ≤ s.q.v.length ∧ (0 < b → a = s.q.f.length)
theorem bdyE_all {s : Eg} (hcc : chk s.c = 0) (hck : s.c.ok) (hblk : s.blk ≤ 1000000000) (hcap : (s.l.length : Int) ≤ s.c.capa) (hvo : ∀ i, hasV s.l i = true → VO (gotV s.l i)) (hsum : (bals s.l).sum = s.dep - s.paid - s.burn) (hled : LOk s.c.supc s.dep s.paid s.burn)
  (hqf : s.q.f.length ≤ s.c.qsize.toNat ∧ s.q.v.length ≤ s.c.qsize.toNat) (hpe : s.pend.length ≤ s.c.qsize.toNat) (hmg : s.mg.length ≤ s.c.qsize.toNat) (hpt : s.pt.length ≤ s.c.qsize.toNat) (hpm : ∀ r ∈ s.pt, 0 ≤ r.m) (hcur : s.cur ≤ 4096) (hm : s.m.ok) (hE : InvE (s.ep - 1) s.l s.q s.bo s.lv) :
  Nonempty (Bdy s) ∧ Inv (bdyE s).1 := by
 have hk := chk_ok hcc hck
 have hep : 0 ≤ s.ep ∧ s.ep ≤ 1000000000 := by have := ep_nn s; have := ep_le s; omega
 have d1 : Mid s.ep s.ep (s.lv.foldl (fun l i => evV l i 3) s.l) s.q s.bo := hE.mid
 have v1 := vo_ev (e := 3) (by omega) s.lv hvo
 have n1 : (s.lv.foldl (fun l i => evV l i 3) s.l).length = s.l.length := (fold_ev (by omega) _ _).1
 have s1 : bals (s.lv.foldl (fun l i => evV l i 3) s.l) = bals s.l := wA 3 _ _
 unfold bdyE
 simp only
 generalize hl1 : s.lv.foldl (fun l i => evV l i 3) s.l = l1 at d1 v1 n1 s1 ⊢
 obtain ⟨f2, d2⟩ := d1.rip hep.1 (VO.z_wd l1 v1)
 have s2 : bals (ripE s.ep (l1, s.bo)).1 = bals l1 := bals_rip s.ep _ _
 generalize hr : ripE s.ep (l1, s.bo) = r at f2 d2 s2 ⊢
 obtain ⟨l2, b2⟩ := r
 simp only at f2 d2 s2 ⊢
 have n2 := f2.len
 have v2 : ∀ i, hasV l2 i = true → VO (gotV l2 i) := fun i hi => by
  rw [xO f2.len] at hi
  have := v1 i hi
  rw [f2.got]
  split
  ·exact ⟨this.b, by simp, this.r, this.x, this.w, this.d⟩
  ·exact this
 have hWn : ∀ x ∈ bals l2, 0 ≤ x := fun x hx => by
  obtain ⟨v, hv, rfl⟩ := List.mem_map.1 hx
  obtain ⟨j, hj, rfl⟩ := mem_got hv
  exact (v2 j hj).b
 have hlim : 0 ≤ churnE s.c l2 := churn_nn (actS_nn fun v hv => hWn _ (List.mem_map.2 ⟨v, hv, rfl⟩)).1 hck.minch.1
 obtain ⟨f3, e3⟩ := d2.asg (e := s.ep) hep.1 (c := s.c) hk.unb.1 (by have := hk.unb; omega) (VO.z_wd l2 v2) (bals l2) (churnE s.c l2) s.m
 have hsh := stepM_shape (bals l2) s.ep (churnE s.c l2) s.q s.m
 have hlen := stepM_len (W := bals l2) (e := s.ep) (lim := churnE s.c l2) (m := s.m) hqf
 have hmo := stepM_ok (W := bals l2) (e := s.ep) (lim := churnE s.c l2) (q := s.q) hWn hlim hm
 generalize hst : stepM (bals l2) s.ep (churnE s.c l2) s.q s.m = st at f3 e3 hsh hlen hmo ⊢
 generalize hfa : st.1.foldl (asgS s.c) (l2, b2, []) = A at f3 e3 ⊢
 obtain ⟨l3, b3, v3⟩ := A
 simp only at f3 e3 ⊢
 have v3' : ∀ i, hasV l3 i = true → VO (gotV l3 i) := fun i hi => by
  rw [xO f3.len] at hi
  have h1 := v2 i hi
  have hu := hk.unb
  rw [f3.got]
  split
  ·exact ⟨h1.b, h1.s, h1.r, by simp only [asV]; omega, by have := h1.w; simp only [asV]; omega, h1.d⟩
  ·exact h1
 generalize hac : batF (churnE s.c l2) (bals l3) s.pend 0 true = ac
 have acl : ac.length ≤ s.pend.length := by rw [← hac]; exact bat_len _ _ _ _ _
 have v4 := vo_ev (e := 1) (by omega) ac v3'
 have n4 : (ac.foldl (fun l i => evV l i 1) l3).length = l3.length := (fold_ev (by omega) _ _).1
 have s4 : bals (ac.foldl (fun l i => evV l i 1) l3) = bals l3 := wA 1 _ _
 have m4 := Sm.act ac l3
 generalize hl4 : ac.foldl (fun l i => evV l i 1) l3 = l4 at v4 n4 s4 m4 ⊢
 obtain ⟨f5, s5⟩ := K2.runM (c := s.c) (s.mg.take s.c.merg.toNat) v4
 have hE5 := (e3.sm m4).sm f5.sm
 generalize hl5 : (runM s.c l4 (s.mg.take s.c.merg.toNat)).1 = l5 at f5 s5 hE5 ⊢
 obtain ⟨a, b, g1, g2, g3, g4, g5⟩ := hsh
 refine ⟨⟨⟨l1, l2, b2, st.1, l3, l4, l5, hl1.symm, f2, f3, ⟨ac, hl4.symm⟩, f5, d1, d2, ?_, ?_, ⟨a, b, g1, g2, g3, g4⟩⟩⟩, ?_⟩
 ·unfold bdyE; simp only [hl1, hr, hst, hfa, hac, hl4, hl5]
 ·unfold bdyE; simp only [hl1, hr, hst]
 ·refine ⟨hcc, hck, hblk, by show (l5.length : Int) ≤ _; rw [f5.len, n4, f3.len, n2, n1]; exact hcap, f5.vo v4, by show (bals l5).sum = _; rw [s5, s4, f3.bal, s2, s1]; exact hsum, hled, hlen, by show (s.pend.drop _).length ≤ _; simp only [List.length_drop]; omega, by show (s.mg.drop _).length ≤ _; simp only [List.length_drop]; omega, hpt, hpm, hcur, hmo, hE5⟩
theorem tick_ep {s : Eg} (hc : 1 ≤ s.c.elen) : ({ s with blk := s.blk + 1 } : Eg).ep = if (s.blk + 1) % s.c.elen.toNat = 0 then s.ep + 1 else s.ep := by
 unfold Eg.ep
 simp only
 have hp : 0 < s.c.elen.toNat := by omega
 generalize s.c.elen.toNat = k at hp ⊢
 rw [Nat.succ_div]
 by_cases h : k ∣ s.blk + 1
 ·rw [if_pos h, if_pos (Nat.mod_eq_zero_of_dvd h)]; omega
 ·rw [if_neg h, if_neg (fun hc => h (Nat.dvd_of_mod_eq_zero hc))]; omega
def midE (s : Eg) : Eg × List As := if (s.blk + 1) % s.c.elen.toNat = 0 then bdyE { s with blk := s.blk + 1 } else ({ s with blk := s.blk + 1 }, [])
theorem tickE_eq (s : Eg) : tickE s = ((paysE (midE s).1).1, ⟨7, 0, -1, (paysE (midE s).1).1.blk, (paysE (midE s).1).1.ep, -1, (midE s).2, (paysE (midE s).1).2.1, (paysE (midE s).1).2.2⟩) := rfl
theorem mid_inv {s : Eg} (h : Inv s) (hb : s.blk < 1000000000) : Inv (midE s).1 ∧ ((s.blk + 1) % s.c.elen.toNat = 0 → Nonempty (Bdy { s with blk := s.blk + 1 })) := by
 have hep := tick_ep (s := s) h.cok.elen.1
 unfold midE
 by_cases hc : (s.blk + 1) % s.c.elen.toNat = 0
 ·rw [if_pos hc] at hep ⊢
  have := bdyE_all (s := { s with blk := s.blk + 1 }) h.cc h.ck (by show s.blk + 1 ≤ _; omega) h.cap h.vo h.sum h.led h.qf h.pe h.mg h.pt h.pm h.cur h.m (by rw [hep]; exact h.e.ep_eq (by omega))
  exact ⟨this.2, fun _ => this.1⟩
 ·rw [if_neg hc] at hep ⊢
  exact ⟨⟨h.cc, h.ck, by show s.blk + 1 ≤ _; omega, h.cap, h.vo, h.sum, h.led, h.qf, h.pe, h.mg, h.pt, h.pm, h.cur, h.m, by rw [hep]; exact h.e⟩, fun h => absurd h hc⟩
theorem led_fold {d u : Int} : ∀ (ps : List Y) (p : Int), (∀ y ∈ ps, 0 ≤ y.a) → sumA ps ≤ d - p - u → ps.foldl (ledS d u) p = p + sumA ps
 | [], p, _, _ => by simp [sumA]
 | y :: ps, p, h, hs => by
  have h0 := h y (by simp)
  have h1 : 0 ≤ sumA ps := xK fun x hx => by
   obtain ⟨z, hz, rfl⟩ := List.mem_map.1 hx; exact h z (by simp [hz])
  have e1 : sumA (y :: ps) = y.a + sumA ps := by simp [sumA]
  rw [e1] at hs ⊢
  have hb : ledS d u p y = p + y.a := by
   unfold ledS bookC
   rw [if_neg (show ¬ d - p - u < y.a by omega), if_pos rfl]
  rw [List.foldl_cons, hb, led_fold ps (p + y.a) (fun z hz => h z (by simp [hz])) (by omega)]
  omega
theorem swp_cur {rd : List Bool} {n pays : Nat} (hn : 0 < n) (hm : n ≤ 4096) : ∀ (k at_ : Nat) (paid : List Int) (made : Nat), at_ ≤ 4096 → (swp rd n pays k at_ paid made).1 ≤ 4096
 | 0, _, _, _, h => h
 | k + 1, at_, paid, made, h => by
  unfold swp
  split
  ·exact h
  ·exact swp_cur hn hm k _ _ _ (by have := Nat.mod_lt (at_ % n + 1) hn; omega)
theorem sweep_cur {at_ : Nat} {rd : List Bool} {visits pays : Int} (hm : rd.length ≤ 4096) (h : at_ ≤ 4096) : (sweepS at_ rd visits pays).1 ≤ 4096 := by
 unfold sweepS
 split
 ·exact h
 ·exact swp_cur (by omega) hm _ _ _ _ h
theorem rdy_get {l : List V} {j : Nat} (h : (l.map fun v => decide (v.st = 5))[j]? = some true) : (gotV l j).st = 5 := by
 rw [List.getElem?_map] at h
 obtain ⟨v, hv, h1⟩ := Option.map_eq_some_iff.1 h
 obtain ⟨hj, rfl⟩ := List.getElem?_eq_some_iff.1 hv
 rw [yT hj]; exact of_decide_eq_true h1
structure Pay (s : Eg) where
 l1 : List V
 ps : List Y
 is : List Int
 f1 : K2 s.l l1
 fp : ∀ y ∈ ps, 0 ≤ y.a ∧ y.f = false ∧ hasV s.l y.i = true
 nd : is.Nodup
 i5 : ∀ i ∈ is, (gotV l1 i).st = 5
 len : (paysE s).1.l.length = s.l.length
 got : ∀ j, gotV (paysE s).1.l j = if j ∈ is then { gotV l1 j with st := 6, bal := 0 } else gotV l1 j
 pay : (paysE s).2.1 = ps ++ is.map (fun i => ⟨i, (gotV l1 i).bal, true⟩)
theorem paysE_all {s : Eg} (h : Inv s) : Nonempty (Pay s) ∧ Inv (paysE s).1 ∧ (paysE s).1.ep = s.ep ∧ (paysE s).1.blk = s.blk ∧ (paysE s).1.q = s.q ∧ (paysE s).1.c = s.c := by
 have hck := h.ck
 have hk := h.cok
 obtain ⟨l1, l2, l3, l4, l5, l6⟩ := h.led
 have hsum := h.sum
 obtain ⟨f1, s1, p1⟩ := K2.run (c := s.c) hck.minb.1 (s.pt.take s.c.parts.toNat) (fun r hr => h.pm r (List.mem_of_mem_take hr)) h.vo (by omega)
 unfold paysE
 simp only
 generalize hr : run s.c s.l (s.pt.take s.c.parts.toNat) = r at f1 s1 p1 ⊢
 obtain ⟨la, ra⟩ := r
 simp only at f1 s1 p1 ⊢
 have v1 := f1.vo h.vo
 have hlen : la.length ≤ 4096 := by have := f1.len; have := h.cap; have := hk.capa; omega
 obtain ⟨w1, w2⟩ := sweep_ok s.cur (la.map fun v => decide (v.st = 5)) (s.c.vis - ((s.pt.take s.c.parts.toNat).length : Nat)) (s.c.pays - ((pos ra).length : Nat))
 have w3 := sweep_cur (at_ := s.cur) (rd := la.map fun v => decide (v.st = 5)) (visits := s.c.vis - ((s.pt.take s.c.parts.toNat).length : Nat)) (pays := s.c.pays - ((pos ra).length : Nat)) (by simpa using hlen) h.cur
 generalize hw : sweepS s.cur (la.map fun v => decide (v.st = 5)) (s.c.vis - ((s.pt.take s.c.parts.toNat).length : Nat)) (s.c.pays - ((pos ra).length : Nat)) = w at w1 w2 w3 ⊢
 have i5 : ∀ i ∈ w.2.1, (gotV la i).st = 5 := fun i hi => by
  obtain ⟨j, rfl, hj⟩ := w1 i hi; exact rdy_get hj
 have hEa := h.e.sm f1.sm
 obtain ⟨g1, g2, g3, g4⟩ := full_fold (l0 := la) (e := s.ep) w.2.1 la (pos ra) w2 (fun i hi => ⟨i5 i hi, hEa.rdy i (i5 i hi), rfl⟩)
 generalize hf : w.2.1.foldl (fullS la s.ep) (la, pos ra) = f at g1 g2 g3 g4 ⊢
 obtain ⟨lf, pf⟩ := f
 simp only at g1 g2 g3 g4 ⊢
 rw [sumA_pos] at g4
 have vf : ∀ i, hasV lf i = true → VO (gotV lf i) := fun i hi => by
  rw [xO g1] at hi
  have := v1 i hi
  rw [g2 i]
  split
  ·exact ⟨by simp, by simp, this.r, this.x, this.w, this.d⟩
  ·exact this
 have pnn : ∀ y ∈ pf, 0 ≤ y.a := fun y hy => by
  rw [g3] at hy
  rcases List.mem_append.1 hy with hy | hy
  ·exact (p1 y (List.mem_filter.1 hy).1).1
  ·obtain ⟨i, hi, rfl⟩ := List.mem_map.1 hy
   exact (v1 i (yW (by have := i5 i hi; omega))).b
 have hnn : 0 ≤ (bals lf).sum := xK fun x hx => by
  obtain ⟨v, hv, rfl⟩ := List.mem_map.1 hx
  obtain ⟨j, hj, rfl⟩ := mem_got hv
  exact (vf j hj).b
 have hps : 0 ≤ sumA pf := xK fun x hx => by obtain ⟨z, hz, rfl⟩ := List.mem_map.1 hx; exact pnn z hz
 have hpaid := led_fold (d := s.dep) (u := s.burn) pf s.paid pnn (by omega)
 have smf : Sm la lf := Sm.of fun j => by
  rw [g2 j]
  split
  ·rename_i hj
   have := i5 j hj
   right; simp only; omega
  ·exact .inl rfl
 have hEf := hEa.sm smf
 refine ⟨⟨⟨la, pos ra, w.2.1, f1, fun y hy => p1 y (List.mem_filter.1 hy).1, w2, i5, ?_, ?_, ?_⟩⟩, ?_, by first | rfl | trivial, by first | rfl | trivial, by first | rfl | trivial, by first | rfl | trivial⟩
 ·unfold paysE; simp only [hr, hw, hf]; rw [g1, f1.len]
 ·unfold paysE; simp only [hr, hw, hf]; exact g2
 ·unfold paysE; simp only [hr, hw, hf]; exact g3
 ·rw [hpaid]
  exact ⟨h.cc, h.ck, h.blk, by show (lf.length : Int) ≤ _; rw [g1, f1.len]; exact h.cap, vf, by show (bals lf).sum = s.dep - (s.paid + sumA pf) - s.burn; omega, ⟨by show 0 ≤ s.paid + sumA pf; omega, l2, by show s.paid + sumA pf + s.burn ≤ s.dep; omega, l4, by show s.dep - (s.paid + sumA pf) - s.burn ≤ s.c.supc; omega, l6⟩, h.qf, h.pe, h.mg,
   by show (s.pt.drop _).length ≤ _; have := h.pt; simp only [List.length_drop]; omega, fun r hr => h.pm r (List.mem_of_mem_drop hr), w3, h.m, hEf⟩
theorem tickE_inv {s : Eg} (h : Inv s) (hb : s.blk < 1000000000) : Inv (tickE s).1 := by
 rw [tickE_eq]; exact (paysE_all (mid_inv h hb).1).2.1
structure OpR (o : Op) : Prop where
 a : 0 ≤ o.a ∧ o.a ≤ 18446744073709551615
theorem actE_inv {s : Eg} (h : Inv s) {o : Op} (ho : OpR o) : Inv (actE s o).1 := by
 unfold actE
 split
 ·exact depE_inv h ho.a
 split
 ·exact leaveE_inv h (.inr rfl)
 split
 ·exact leaveE_inv h (.inl rfl)
 split
 ·exact slashE_inv h
 split
 ·exact consE_inv h
 split
 ·exact partE_inv h ho.a.1
 ·exact h
theorem applyE_inv {s : Eg} (h : Inv s) (hb : s.blk < 1000000000) {o : Op} (ho : OpR o) : Inv (applyE s o).1 := by
 unfold applyE
 split
 ·exact tickE_inv h hb
 ·exact actE_inv h ho
theorem newE_inv {c : C} (hc : chk c = 0) (hk : c.ok) : Inv (newE c) := by
 have hn : ∀ i : Int, (gotV [] i).st = 0 := fun i => got_no (decide_eq_false (by simp))
 have hm := xD hc
 have he : (newE c).ep = 0 := by unfold Eg.ep newE; simp
 refine ⟨hc, hk, by simp [newE], by have := (chk_ok hc hk).capa; simp [newE]; omega, fun i hi => ?_, by simp [newE, bals], ⟨by simp [newE], by simp [newE], by simp [newE], by simp [newE], by have := hm.maxd; have := hm.mind; simp [newE]; omega, by have := hm.maxd; simp [newE]; omega⟩, by simp [newE], by simp [newE], by simp [newE], by simp [newE], by simp [newE], by simp [newE], M0_ok, ?_⟩
 ·have := of_decide_eq_true hi; simp [newE] at this; omega
 ·rw [he]
  refine ⟨by simp [newE], fun i => ?_, by simp [newE], fun i => ?_, by simp [newE], by simp [newE], fun i => ?_, by simp [newE], fun i hi => ?_, fun i hi => ?_⟩
  ·have := hn i; simp [newE, this]
  ·have := hn i; simp [newE, this]
  ·have := hn i; simp [newE, this]
  ·have := hn i; simp only [newE] at hi; omega
  ·have := hn i; simp only [newE] at hi; omega
def ECell (rb cb lb bb ub mb xb pb gb tb : Nat) (c : C) (lA : Option Addr) (n lc : Nat) : List Value := [Value.pointer (some ⟨rb, 0, none⟩), .int .i64 c.capa, .int .i64 c.qsize, .int .u64 c.mind, .int .u64 c.maxd, .int .u64 c.supc, .int .u64 c.minb, .int .u64 c.maxb, .int .u64 c.minch, .int .u64 c.quot, .int .u64 c.fcap, .int .i64 c.unb, .int .i64 c.sld, .int .i64 c.rlen, .int .i64 c.elen, .int .i64 c.vis, .int .i64 c.pays, .int .i64 c.parts, .int .i64 c.merg, .int .u64 c.pnum, .int .u64 c.pden, .pointer (some ⟨cb, 0, none⟩), .pointer (some ⟨lb, 0, none⟩), .pointer (some ⟨bb, 0, none⟩), .slice lA n lc, .pointer (some ⟨ub, 0, none⟩), .pointer (some ⟨mb, 0, none⟩), .pointer (some ⟨xb, 0, none⟩), .pointer (some ⟨pb, 0, none⟩), .pointer (some ⟨gb, 0, none⟩), .pointer (some ⟨tb, 0, none⟩)]
theorem deposit_any (eb rb cb lb bb ub mb xb b0 b1 pb gb tb : Nat) (c : C) (blk : Nat) (g : RG) (dep paid burn : Int) (bo : List En) (lv : List Int) (cur : Nat) (m : M) (q : LL) (pend : List Int) (mg : List PP) (pt : List Rq) (br : BR) (lA : Option Addr) (lc : Nat) (g0 g1 gp gg gt : Rg) (y : Op) (w : World) (hw : W0 [Res.blk eb 112 (ECell rb cb lb bb ub mb xb pb gb tb c lA (lv.length) lc), RgB rb g, RgW g, Res.im (RG.m g), LgB lb (dep) (paid) (burn) (c.supc), rB_i pb gp, rW_i gp] w) (hi : Inv (Eg.mk c blk (RG.l g) dep paid burn bo lv cur m q pend mg pt)) (hg : g.Rep) (hcp : (g.cp : Int) = c.capa) (hgp : gp.Rep 1 (pend.map (fun v : Int => [Value.int .i64 v]))) (sgp : Rg.size gp = c.qsize.toNat) (ho : OpR y) : Own2 (ι := (RG × Rg)) Tryz.prog 58 [.pointer (some ⟨eb, 0, none⟩), .agg y.c.toArray] w [Res.blk eb 112 (ECell rb cb lb bb ub mb xb pb gb tb c lA (lv.length) lc), RgB rb g, RgW g, Res.im (RG.m g), LgB lb (dep) (paid) (burn) (c.supc), rB_i pb gp, rW_i gp] (fun x => x.1.Rep ∧ x.1.l = (depE (Eg.mk c blk (RG.l g) dep paid burn bo lv cur m q pend mg pt) y).1.l ∧ x.1.cp = g.cp ∧ x.2.Rep 1 ((depE (Eg.mk c blk (RG.l g) dep paid burn bo lv cur m q pend mg pt) y).1.pend.map (fun v : Int => [Value.int .i64 v])) ∧ x.2.size = c.qsize.toNat) (fun x => .agg (Rs.c (depE (Eg.mk c blk (RG.l g) dep paid burn bo lv cur m q pend mg pt) y).2).toArray) (fun x => []) (fun x => [Res.blk eb 112 (ECell rb cb lb bb ub mb xb pb gb tb c lA (lv.length) lc), RgB rb x.1, RgW x.1, Res.im (RG.m x.1), LgB lb ((depE (Eg.mk c blk (RG.l g) dep paid burn bo lv cur m q pend mg pt) y).1.dep) (paid) (burn) (c.supc), rB_i pb x.2, rW_i x.2]) := by
 refine g_st Tryz.func58 82 hw ?_
 have hok : Cok c := hi.cok
 have hmo : Cmo c := xD hi.cc
 have hblk : blk ≤ 1000000000 := hi.blk
 have hk : blk < 4611686018427387904 := by omega
 have hel : 1 ≤ c.elen.toNat ∧ c.elen.toNat ≤ 4611686018427387904 := by have := hok.elen; omega
 have hled : LOk c.supc dep paid burn := hi.led
 have hqf : q.f.length ≤ c.qsize.toNat ∧ q.v.length ≤ c.qsize.toNat := hi.qf
 have hsum : (bals (RG.l g)).sum = dep - paid - burn := hi.sum
 have hvo : ∀ i, hasV (RG.l g) i = true → VO (gotV (RG.l g) i) := hi.vo
 have hqs := hmo.qsize
 refine rn [1] ?_
 refine g_op (g_box rfl rfl rfl fun b3 => ?_)
 refine g_op (zI rfl fun b4 => ?_)
 refine rn [0,8,14,8] ?_
 refine dreg [] mixed rfl ?_
 refine rn [23,0,4,23,1,5,23,2,2,23,3,6,23,4,4,23,5,4,23,6,5,23,7,46,23,8,2] ?_
 refine zV 17 rfl (fun h1 => ?_) (fun h1 => ?_)
 ·have hb : (depE (Eg.mk c blk (RG.l g) dep paid burn bo lv cur m q pend mg pt) y) = ((Eg.mk c blk (RG.l g) dep paid burn bo lv cur m q pend mg pt), ⟨3, 0, 0⟩) := by
    unfold depE; dsimp only; rw [if_pos (.inl (of_decide_eq_true h1))]
  refine rn [25,9,25,10,25,11,25,12,25,13,25,14,25,15,25,16,23,17,41,23,18,3,27,7,19,1] ?_
  refine g_op (zG rfl (fun w1 hw1 => by exact yI (3) w1) rfl ?_)
  refine rn [33,0,11] ?_
  refine zN (zD ?_)
  exact fin1 rfl (.cellw rfl rfl) (fun w' hw' => ⟨(g, gp), (by (rw [hb]; exact ⟨hg, rfl, rfl, hgp, sgp⟩)), by rw [hb]; rfl, by rw [hb]; exact zA w' hw'⟩) _ (.inl rfl)
 ·have n1 := of_decide_eq_false h1
  refine rn [26,9,4,26,10,5,26,11,2,26,12,6,26,13,4,26,14,4,26,15,5,26,16,55,23,17,42,23,18,3,27,7] ?_
  refine zC rfl (fun h2 => ?_) (fun h2 => ?_)
  ·have hb : (depE (Eg.mk c blk (RG.l g) dep paid burn bo lv cur m q pend mg pt) y) = ((Eg.mk c blk (RG.l g) dep paid burn bo lv cur m q pend mg pt), ⟨3, 0, 0⟩) := by
     unfold depE; dsimp only; rw [if_pos (.inr (of_decide_eq_true h2))]
   refine rn [1] ?_
   refine g_op (zG rfl (fun w1 hw1 => by exact yI (3) w1) rfl ?_)
   refine rn [33,0,11] ?_
   refine zN (zD ?_)
   exact fin1 rfl (.cellw rfl rfl) (fun w' hw' => ⟨(g, gp), (by (rw [hb]; exact ⟨hg, rfl, rfl, hgp, sgp⟩)), by rw [hb]; rfl, by rw [hb]; exact zA w' hw'⟩) _ (.inl rfl)
  ·have n2 := of_decide_eq_false h2
   refine rn [8] ?_
   refine dreg [] mixed rfl ?_
   refine rn [23,0,2,23,1,6,23,2,4,23,3,4,23,4,5,23,6,2,23,7,6,23,8,4,23,9,4,23,10,5] ?_
   refine dop 5 rfl (zK _ rfl (fun w1 hw1 ho1 => by exact rlen_any rb g w1 ho1) rfl ?_)
   refine rn [23,11,53,23,12,3,27,7] ?_
   refine zC rfl (fun h3 => ?_) (fun h3 => ?_)
   ·have hb : (depE (Eg.mk c blk (RG.l g) dep paid burn bo lv cur m q pend mg pt) y) = ((Eg.mk c blk (RG.l g) dep paid burn bo lv cur m q pend mg pt), ⟨5, 0, 0⟩) := by
      unfold depE; dsimp only; rw [if_neg (show ¬ (y.a < c.mind ∨ c.maxd < y.a) by omega), if_pos (of_decide_eq_true h3)]
    refine rn [1] ?_
    refine g_op (zG rfl (fun w1 hw1 => by exact yI (5) w1) rfl ?_)
    refine rn [33,0,11] ?_
    refine zN (zD ?_)
    exact fin1 rfl (.cellw rfl rfl) (fun w' hw' => ⟨(g, gp), (by (rw [hb]; exact ⟨hg, rfl, rfl, hgp, sgp⟩)), by rw [hb]; rfl, by rw [hb]; exact zA w' hw'⟩) _ (.inl rfl)
   ·have n3 := of_decide_eq_false h3
    refine rn [1,2,6,4,5] ?_
    refine g_op (zK _ rfl (fun w1 hw1 ho1 => by exact free_i pb gp pend w1 ho1 hgp) rfl ?_)
    refine rn [44,3,0] ?_
    refine zC rfl (fun h4 => ?_) (fun h4 => ?_)
    ·have hb : (depE (Eg.mk c blk (RG.l g) dep paid burn bo lv cur m q pend mg pt) y) = ((Eg.mk c blk (RG.l g) dep paid burn bo lv cur m q pend mg pt), ⟨6, 0, 0⟩) := by
       unfold depE; dsimp only; rw [if_neg (show ¬ (y.a < c.mind ∨ c.maxd < y.a) by omega), if_neg n3, if_pos (by have h9 := h4; simp at h9; omega)]
     refine rn [1] ?_
     refine g_op (zG rfl (fun w1 hw1 => by exact yI (6) w1) rfl ?_)
     refine rn [33,0,11] ?_
     refine zN (zD ?_)
     exact fin1 rfl (.cellw rfl rfl) (fun w' hw' => ⟨(g, gp), (by (rw [hb]; exact ⟨hg, rfl, rfl, hgp, sgp⟩)), by rw [hb]; rfl, by rw [hb]; exact zA w' hw'⟩) _ (.inl rfl)
    ·have n4 : ¬ c.qsize.toNat - pend.length = 0 := by have h9 := h4; simp at h9; omega
     refine rn [12,15,7,8,8] ?_
     refine dregL (L0 := [Res.blk eb 112 (ECell rb cb lb bb ub mb xb pb gb tb c lA (lv.length) lc), Res.blk b3 35 y.c]) [] mixed rfl zB ?_
     refine rn [23,0,2,23,1,6,23,2,4,23,3,5,23,4,4,23,5,5] ?_
     refine dop 6 rfl (zH _ rfl (fun w1 hw1 ho1 => by have h7 := ldep_any lb dep paid burn c.supc ((y).a) w1 ho1 hled ho.a; exact h7) rfl ?_)
     rintro ⟨⟩ _
     refine ii ?_
     refine rn [23,7,3,27,7,1,2,51,0] ?_
     refine zC rfl (fun h5 => ?_) (fun h5 => ?_)
     ·have hl : ¬ (ledC c.supc dep paid burn y.a) = 0 := by have h9 := h5; simpa using h9
      have hb : (depE (Eg.mk c blk (RG.l g) dep paid burn bo lv cur m q pend mg pt) y) = ((Eg.mk c blk (RG.l g) dep paid burn bo lv cur m q pend mg pt), ⟨(ledC c.supc dep paid burn y.a), 0, 0⟩) := by
        unfold depE; dsimp only; rw [if_neg (show ¬ (y.a < c.mind ∨ c.maxd < y.a) by omega), if_neg n3, if_neg n4, if_pos hl]
      refine rn [1,2] ?_
      refine g_op (zG rfl (fun w1 hw1 => by exact yI ((ledC c.supc dep paid burn (y).a)) w1) rfl ?_)
      refine rn [33,0,11,13] ?_
      exact fin1 rfl (.cellw rfl rfl) (fun w' hw' => ⟨(g, gp), (by (rw [hb]; exact ⟨hg, rfl, rfl, hgp, sgp⟩)), by rw [hb]; rfl, by have h9 := zB (L' := [Res.blk eb 112 (ECell rb cb lb bb ub mb xb pb gb tb c lA (lv.length) lc), RgB rb g, RgW g, Res.im (RG.m g), LgB lb ((if (ledC c.supc dep paid burn y.a) = 0 then dep + y.a else dep)) (paid) (burn) (c.supc), rB_i pb gp, rW_i gp]) w' hw'; show WOK _ _ [Res.blk eb 112 (ECell rb cb lb bb ub mb xb pb gb tb c lA (lv.length) lc), RgB rb ((g, gp)).1, RgW ((g, gp)).1, Res.im (RG.m ((g, gp)).1), LgB lb ((depE (Eg.mk c blk (RG.l g) dep paid burn bo lv cur m q pend mg pt) y).1.dep) (paid) (burn) (c.supc), rB_i pb ((g, gp)).2, rW_i ((g, gp)).2] _; rw [hb]; rw [if_neg hl] at h9; exact h9⟩) _ (.inl rfl)
     ·have hl : (ledC c.supc dep paid burn y.a) = 0 := by have h9 := h5; simpa using h9
      have hb : (depE (Eg.mk c blk (RG.l g) dep paid burn bo lv cur m q pend mg pt) y) = ((Eg.mk c blk ((RG.l g) ++ [(⟨y.a, 1, false, -1, -1, -1, -1⟩ : V)]) (dep + y.a) paid burn bo lv cur m q (pend ++ [((RG.l g).length : Int)]) mg pt), ⟨0, ((RG.l g).length : Int), -1⟩) := by
        unfold depE; dsimp only; rw [if_neg (show ¬ (y.a < c.mind ∨ c.maxd < y.a) by omega), if_neg n3, if_neg n4, if_neg (fun h => h hl)]
      have hl2 : y.a ≤ c.supc - (dep - paid - burn) := by unfold ledC at hl; split at hl <;> omega
      refine rn [12,7,8] ?_
      refine dregL (L0 := [Res.blk eb 112 (ECell rb cb lb bb ub mb xb pb gb tb c lA (lv.length) lc), Res.blk b3 35 y.c]) [] mixed rfl zB ?_
      refine rn [23,0,2,23,1,6,23,2,4,23,3,4,23,4,5,23,5,4,23,6,5,23,7,49] ?_
      refine dop 8 rfl (zH _ rfl (fun w1 hw1 ho1 => by have h7 := radd_reg rb g ((⟨y.a, 1, false, -1, -1, -1, -1⟩ : V)) w1 ho1 hg (⟨ho.a, by simp, by simp, by simp, by simp, by simp⟩) (by omega) (by have h9 := hsum; unfold bals at h9; have := hmo.maxd; simp only; omega); exact h7) rfl ?_)
      rintro g70 ⟨r70, l70, c70⟩
      refine ii ?_
      refine rn [23,9,2,23,10,40,23,11,40,23,12,3,23,13,3,27,7,1,2,6,4,5,2] ?_
      refine g_op (g_lit rfl rfl rfl rfl rfl fun b78 => ?_)
      refine zJ (b := b78) ((([(((RG.l g).length : Nat) : Int)] : List Int).map (fun v : Int => [Value.int .i64 v])).flatten) rfl ?_
      refine g_op (zH _ rfl (fun w1 hw1 ho1 => by have h7 := push_i pb gp pend [(((RG.l g).length : Nat) : Int)] (some ⟨b78, 0, none⟩) 1 w1 ho1 hgp (Rd.ofBlk (b := b78) hw1 rfl (by simp) rfl) (by simp); exact h7) rfl ?_)
      rintro g79 ⟨r79, s79⟩
      refine ii ?_
      refine rn [0,1,2] ?_
      refine g_op (zG rfl (fun w1 hw1 => by exact xI ((((RG.l g).length : Nat) : Int)) ((-1)) w1) rfl ?_)
      refine rn [33,0,11] ?_
      exact fin1 rfl (.cellw rfl rfl) (fun w' hw' => ⟨(g70, g79), (by (try dsimp only); (rw [hb]; exact ⟨r70, l70, c70, by have h8 := r79; rw [show (min ([((RG.l g).length : Int)] : List Int).length (Rg.size gp - pend.length)) = 1 by simp; omega] at h8; exact h8, by omega⟩)), by rw [hb]; rfl, by have h9 := zB (L' := [Res.blk eb 112 (ECell rb cb lb bb ub mb xb pb gb tb c lA (lv.length) lc), RgB rb g70, RgW g70, Res.im (RG.m g70), LgB lb ((if (ledC c.supc dep paid burn y.a) = 0 then dep + y.a else dep)) (paid) (burn) (c.supc), rB_i pb g79, rW_i g79]) w' hw'; show WOK _ _ [Res.blk eb 112 (ECell rb cb lb bb ub mb xb pb gb tb c lA (lv.length) lc), RgB rb ((g70, g79)).1, RgW ((g70, g79)).1, Res.im (RG.m ((g70, g79)).1), LgB lb ((depE (Eg.mk c blk (RG.l g) dep paid burn bo lv cur m q pend mg pt) y).1.dep) (paid) (burn) (c.supc), rB_i pb ((g70, g79)).2, rW_i ((g70, g79)).2] _; rw [hb]; rw [if_pos hl] at h9; exact h9⟩) _ (.inl rfl)
end Go.Proofs.YtdddiilocbbkkaaGreat
