/- TopOnce: for every configuration and all operations the law returns true. No condition. Part 17 of 27. -/
import Derived.Test.YtdddiilocbbkkaaGreatTO16
set_option linter.unusedVariables false
set_option linter.unusedSimpArgs false
namespace Go.Proofs.YtdddiilocbbkkaaGreat
open Go.RowKit Go.Eg
set_option maxHeartbeats 4000000
set_option synthInstance.maxSize 3000
set_option maxRecDepth 100000
structure Cmo (c : C) : Prop where
 qsize : 1 ≤ c.qsize ∧ c.qsize ≤ 4096
 mind : 1 ≤ c.mind ∧ c.mind ≤ c.maxd
 maxd : c.maxd ≤ c.supc ∧ c.supc ≤ 1152921504606846976
 minb : 1 ≤ c.minb ∧ c.minb ≤ c.mind
 maxb : c.maxd ≤ c.maxb ∧ c.maxb ≤ c.supc
 quot : 1 ≤ c.quot
 rlen : 1 ≤ c.rlen ∧ c.rlen ≤ 4096
 merg : 0 ≤ c.merg ∧ c.merg ≤ 4096
 pnum : c.pnum ≤ c.pden
 pden : 1 ≤ c.pden ∧ c.pden ≤ 4294967296
theorem xD {c : C} (h : chk c = 0) : Cmo c := by
 have h2 := zU h 2 (by omega) (by omega)
 have h3 := zU h 3 (by omega) (by omega)
 have h4 := zU h 4 (by omega) (by omega)
 have h5 := zU h 5 (by omega) (by omega)
 have h6 := zU h 6 (by omega) (by omega)
 have h7 := zU h 7 (by omega) (by omega)
 have h9 := zU h 9 (by omega) (by omega)
 have h13 := zU h 13 (by omega) (by omega)
 have h18 := zU h 18 (by omega) (by omega)
 have h19 := zU h 19 (by omega) (by omega)
 have h20 := zU h 20 (by omega) (by omega)
 simp [rightB, btw] at h2 h3 h4 h5 h6 h7 h9 h13 h18 h19 h20
 exact ⟨h2, ⟨h3, h4⟩, h5, h6, h7, h9, h13, h18, h19, h20⟩
structure Inv (s : Eg) : Prop where
 cc : chk s.c = 0
 ck : s.c.ok
 blk : s.blk ≤ 1000000000
 cap : (s.l.length : Int) ≤ s.c.capa
 vo : ∀ i, hasV s.l i = true → VO (gotV s.l i)
 sum : (bals s.l).sum = s.dep - s.paid - s.burn
 led : LOk s.c.supc s.dep s.paid s.burn
 qf : s.q.f.length ≤ s.c.qsize.toNat ∧ s.q.v.length ≤ s.c.qsize.toNat
 pe : s.pend.length ≤ s.c.qsize.toNat
 mg : s.mg.length ≤ s.c.qsize.toNat
 pt : s.pt.length ≤ s.c.qsize.toNat
 pm : ∀ r ∈ s.pt, 0 ≤ r.m
 cur : s.cur ≤ 4096
 m : s.m.ok
 e : InvE s.ep s.l s.q s.bo s.lv
theorem Inv.cok {s : Eg} (h : Inv s) : Cok s.c := chk_ok h.cc h.ck
theorem ep_nn (s : Eg) : 0 ≤ s.ep := Int.natCast_nonneg _
theorem ep_le (s : Eg) : s.ep ≤ s.blk := by
 have h := Nat.div_le_self s.blk s.c.elen.toNat
 unfold Eg.ep
 generalize s.blk / s.c.elen.toNat = q at h ⊢
 omega
theorem Inv.epb {s : Eg} (h : Inv s) : 0 ≤ s.ep ∧ s.ep ≤ 1000000000 := by have := ep_nn s; have := ep_le s; have := h.blk; omega
theorem lat1 {e : Int} (h : 0 ≤ e ∧ e ≤ 1000000000) : latB [e] = true := by
 unfold latB; refine decide_eq_true ⟨fun x hx => ?_, by simp; omega⟩
 simp at hx; omega
theorem lat2 {e d : Int} (h : 0 ≤ e ∧ e ≤ 1000000000) (hd : 0 ≤ d ∧ d ≤ 1048576) : latB [e, d] = true ∧ latV [e, d] = e + d := by
 have hb : latB [e, d] = true := by
  unfold latB; refine decide_eq_true ⟨fun x hx => ?_, by simp; omega⟩
  simp at hx; omega
 exact ⟨hb, by unfold latV; rw [if_pos hb]; simp⟩
theorem latV_bd (l : List Int) : 0 ≤ latV l ∧ latV l ≤ 1099511627776 := by
 unfold latV
 split
 ·rename_i h
  have h := of_decide_eq_true h
  exact ⟨xM h.1, h.2⟩
 ·omega
theorem bds_rng (e a b : Int) (c : C) (l : List Int) : 0 ≤ bdsV e a b c l ∧ bdsV e a b c l ≤ 1099511627776 := by
 unfold bdsV
 split
 ·exact latV_bd _
 ·omega
theorem VO.z_wd (l : List V) (hv : ∀ i, hasV l i = true → VO (gotV l i)) (j : Int) : (gotV l j).wd ≤ 1099511627776 := by
 rcases Bool.eq_false_or_eq_true (hasV l j) with h | h
 ·exact (hv j h).w.2
 ·rw [sR h]; simp [V.z]
theorem vo_setV {l : List V} {i : Int} {v : V} (hv : ∀ i, hasV l i = true → VO (gotV l i)) (h : VO v) : ∀ j, hasV (setV l i v) j = true → VO (gotV (setV l i v) j) := fun j hj => by
 rw [pW] at hj
 rw [yV]
 split
 ·exact h
 ·exact hv j hj
theorem xN {l : List V} {i : Int} (h : hasV l i = true) (v : V) : l.set i.toNat v = setV l i v := by unfold setV; rw [if_pos h]
theorem pP {f v : List Int} {i : Int} (h : (f ++ v).Nodup) (hi : i ∉ f ++ v) : (f ++ [i] ++ v).Nodup ∧ (f ++ (v ++ [i])).Nodup := by
 have h1 : (i :: (f ++ v)).Nodup := List.nodup_cons.2 ⟨hi, h⟩
 constructor
 ·refine List.Perm.nodup_iff ?_ |>.1 h1
  rw [List.append_assoc]
  exact List.perm_middle.symm
 ·refine List.Perm.nodup_iff ?_ |>.1 h1
  rw [← List.append_assoc]
  exact (List.perm_append_comm (l₁ := [i]) (l₂ := f ++ v))
theorem push_cls {sz : Nat} {cl i : Int} {q : LL} (hc : cl = 0 ∨ cl = 1) (hf : freeL sz cl q ≠ 0) : pushL sz cl i q = if cl = 0 then ⟨q.f ++ [i], q.v⟩ else ⟨q.f, q.v ++ [i]⟩ := by
 unfold pushL; unfold freeL at hf
 rcases hc with rfl | rfl
 ·simp only [if_true] at hf ⊢
  rw [if_pos (by omega)]
 ·simp only [show ¬ ((1 : Int) = 0) from by decide, if_false, if_true] at hf ⊢
  rw [if_pos (by omega)]
theorem InvE.push {ep : Int} {l : List V} {q : LL} {bo : List En} {lv : List Int} (h : InvE ep l q bo lv) {i : Int} {v : V} (hi : (gotV l i).st = 2) (hv : v.st = 3) (hx : v.ex = (gotV l i).ex) {sz : Nat} {cl : Int} (hc : cl = 0 ∨ cl = 1) (hf : freeL sz cl q ≠ 0) :
  InvE ep (setV l i v) (pushL sz cl i q) bo lv := by
 have hh : hasV l i = true := yU (by omega)
 have hx1 : v.ex = -1 := hx.trans (h.nex i (.inr hi))
 have g : ∀ j, gotV (setV l i v) j = if j = i then v else gotV l j := fun j => by rw [yV]; simp [hh]
 have gn : ∀ j, j ≠ i → gotV (setV l i v) j = gotV l j := fun j hj => by rw [g j, if_neg hj]
 have gi : gotV (setV l i v) i = v := by rw [g i, if_pos rfl]
 have hnq : i ∉ q.f ++ q.v := fun hc => by have := ((h.lan i).1 hc).1; omega
 have hmem : ∀ j, j ∈ (pushL sz cl i q).f ++ (pushL sz cl i q).v ↔ j = i ∨ j ∈ q.f ++ q.v := fun j => by
  rw [push_cls hc hf]
  split <;> simp [List.mem_append] <;> (constructor <;> intro hq <;> rcases hq with hq | hq | hq <;> simp [hq])
 refine ⟨?_, fun j => ?_, h.vnd, fun j => ?_, fun j hj => ?_, h.bnd, fun j => ?_, fun x hx => ?_, fun j hj => ?_, fun j hj => ?_⟩
 ·rw [push_cls hc hf]
  split
  ·exact (pP h.lnd hnq).1
  ·exact (pP h.lnd hnq).2
 ·rw [hmem j]
  by_cases hj : j = i
  ·subst hj; rw [gi]; simp [hv, hx1]
  ·rw [gn j hj, ← h.lan j]; simp [hj]
 ·by_cases hj : j = i
  ·subst hj; rw [gi]
   constructor
   ·intro hc; have := ((h.lvs j).1 hc).1; omega
   ·intro hc; exact absurd hx1 hc.2
  ·rw [gn j hj]; exact h.lvs j
 ·rw [gn j (fun hc => by subst hc; have := ((h.lvs j).1 hj).1; omega)]; exact h.lex j hj
 ·by_cases hj : j = i
  ·subst hj; rw [gi]
   constructor
   ·intro hc; have := (h.bon j).1 hc; omega
   ·intro hc; rcases hc with hc | hc
    ·omega
    ·exact absurd hx1 hc.2
  ·rw [gn j hj]; exact h.bon j
 ·rw [gn x.i (fun hc => by have := (h.bon x.i).1 (List.mem_map.2 ⟨x, hx, rfl⟩); rw [hc] at this; omega)]; exact h.bep x hx
 ·by_cases hj2 : j = i
  ·subst hj2; rw [gi] at hj; omega
  ·rw [gn j hj2] at hj ⊢; exact h.nex j hj
 ·by_cases hj2 : j = i
  ·subst hj2; rw [gi] at hj; omega
  ·rw [gn j hj2] at hj ⊢; exact h.rdy j hj
theorem InvE.sl34 {ep : Int} {l : List V} {q : LL} {bo : List En} {lv : List Int} (h : InvE ep l q bo lv) {i : Int} {v : V} (hi : (gotV l i).st = 3 ∨ (gotV l i).st = 4) (hv : v.st = (gotV l i).st) (hx : v.ex = (gotV l i).ex) (hw : (gotV l i).wd ≤ v.wd) :
  InvE ep (setV l i v) q bo lv := by
 have hh : hasV l i = true := yU (by omega)
 have g : ∀ j, (gotV (setV l i v) j).st = (gotV l j).st ∧ (gotV (setV l i v) j).ex = (gotV l j).ex ∧ (gotV l j).wd ≤ (gotV (setV l i v) j).wd := fun j => by
  rw [yV]
  split
  ·rename_i e; rw [e.2]; exact ⟨hv, hx, hw⟩
  ·exact ⟨rfl, rfl, Int.le_refl _⟩
 have gn : ∀ j, (gotV l j).st ≠ 3 → (gotV l j).st ≠ 4 → gotV (setV l i v) j = gotV l j := fun j h1 h2 => by
  rw [yV, if_neg]
  rintro ⟨_, rfl⟩; omega
 refine ⟨h.lnd, fun j => ?_, h.vnd, fun j => ?_, fun j hj => ?_, h.bnd, fun j => ?_, fun x hx => ?_, fun j hj => ?_, fun j hj => ?_⟩
 ·rw [(g j).1, (g j).2.1]; exact h.lan j
 ·rw [(g j).1, (g j).2.1]; exact h.lvs j
 ·rw [(g j).2.1]; exact h.lex j hj
 ·rw [(g j).1, (g j).2.1]; exact h.bon j
 ·have := h.bep x hx; have := (g x.i).2.2
  rw [(g x.i).1]
  exact ⟨by omega, by omega, by omega⟩
 ·rw [(g j).1] at hj; rw [(g j).2.1]; exact h.nex j hj
 ·rw [(g j).1] at hj; rw [gn j (by omega) (by omega)]; exact h.rdy j hj
theorem InvE.sl5 {ep : Int} {l : List V} {q : LL} {bo : List En} {lv : List Int} (h : InvE ep l q bo lv) {i : Int} {v : V} (hi : (gotV l i).st = 5) (hv : v.st = 4) (hw : ep + 1 ≤ v.wd) :
  InvE ep (setV l i v) q (bo ++ [⟨v.wd, i⟩]) lv := by
 have hh : hasV l i = true := yU (by omega)
 have g : ∀ j, gotV (setV l i v) j = if j = i then v else gotV l j := fun j => by rw [yV]; simp [hh]
 have gn : ∀ j, j ≠ i → gotV (setV l i v) j = gotV l j := fun j hj => by rw [g j, if_neg hj]
 have gi : gotV (setV l i v) i = v := by rw [g i, if_pos rfl]
 have nb : i ∉ bo.map En.i := fun hc => by have := (h.bon i).1 hc; omega
 refine ⟨h.lnd, fun j => ?_, h.vnd, fun j => ?_, fun j hj => ?_, ?_, fun j => ?_, fun x hx => ?_, fun j hj => ?_, fun j hj => ?_⟩
 ·by_cases hj : j = i
  ·subst hj; rw [gi, h.lan j]; omega
  ·rw [gn j hj]; exact h.lan j
 ·by_cases hj : j = i
  ·subst hj; rw [gi, h.lvs j]; omega
  ·rw [gn j hj]; exact h.lvs j
 ·rw [gn j (fun hc => by subst hc; have := ((h.lvs j).1 hj).1; omega)]; exact h.lex j hj
 ·rw [List.map_append]
  refine List.nodup_append.2 ⟨h.bnd, by simp, fun a ha b hb hab => ?_⟩
  simp at hb; subst hb; subst hab; exact nb ha
 ·rw [List.map_append, List.mem_append, h.bon j]
  by_cases hj : j = i
  ·subst hj; rw [gi]; simp [hv]
  ·rw [gn j hj]; simp [hj]
 ·rcases List.mem_append.1 hx with hx | hx
  ·have h1 : x.i ≠ i := fun hc => nb (by rw [← hc]; exact List.mem_map.2 ⟨x, hx, rfl⟩)
   rw [gn x.i h1]; exact h.bep x hx
  ·simp only [List.mem_cons, List.not_mem_nil, or_false] at hx
   subst hx
   simp only [gi]
   exact ⟨hw, Int.le_refl _, fun hc => by omega⟩
 ·by_cases hj2 : j = i
  ·subst hj2; rw [gi] at hj; omega
  ·rw [gn j hj2] at hj ⊢; exact h.nex j hj
 ·by_cases hj2 : j = i
  ·subst hj2; rw [gi] at hj; omega
  ·rw [gn j hj2] at hj ⊢; exact h.rdy j hj
theorem InvE.ep_eq {ep ep' : Int} {l : List V} {q : LL} {bo : List En} {lv : List Int} (h : InvE ep l q bo lv) (e : ep = ep') : InvE ep' l q bo lv := e ▸ h
theorem bals_app (l : List V) (v : V) : (bals (l ++ [v])).sum = (bals l).sum + v.bal := by simp [bals]
theorem depE_inv {s : Eg} (h : Inv s) {o : Op} (ho : 0 ≤ o.a ∧ o.a ≤ 18446744073709551615) : Inv (depE s o).1 := by
 unfold depE
 split
 ·exact h
 split
 ·exact h
 split
 ·exact h
 split
 ·exact h
 rename_i h1 h2 h3 h4
 have hl : ledC s.c.supc s.dep s.paid s.burn o.a = 0 := Classical.byContradiction h4
 unfold ledC at hl
 have hled := h.led
 obtain ⟨l1, l2, l3, l4, l5, l6⟩ := hled
 split at hl
 ·omega
 split at hl
 ·omega
 rename_i h5 h6
 refine ⟨h.cc, h.ck, h.blk, ?_, fun i hi => ?_, ?_, ⟨l1, l2, by show s.paid + s.burn ≤ s.dep + o.a; omega, by show s.dep + o.a ≤ _; omega, by show s.dep + o.a - s.paid - s.burn ≤ s.c.supc; omega, l6⟩, h.qf, ?_, h.mg, h.pt, h.pm, h.cur, h.m, h.e.sm (Sm.app rfl rfl)⟩
 ·show (((s.l ++ _).length : Nat) : Int) ≤ _
  simp only [List.length_append, List.length_singleton]; omega
 ·show VO (gotV (s.l ++ _) i)
  rw [got_app]
  split
  ·exact ⟨ho.1, by simp, by simp, by simp, by simp, by simp⟩
  ·rename_i hne
   refine h.vo i ?_
   have hi : hasV (s.l ++ [_]) i = true := hi
   unfold hasV at hi ⊢
   have hi := of_decide_eq_true hi
   simp at hi
   exact decide_eq_true (by omega)
 ·show (bals (s.l ++ [_])).sum = s.dep + o.a - s.paid - s.burn
  rw [bals_app, h.sum]; simp only; omega
 ·show (s.pend ++ [_]).length ≤ _
  simp only [List.length_append, List.length_singleton]; omega
theorem acc_eq {v : V} {e : Int} (he : 0 ≤ e ∧ e ≤ 1000000000) : accV v e = if nxt v.st 2 = 0 then (V.z, 8) else ({ v with rq := e, st := nxt v.st 2 }, 0) := by
 unfold accV; rw [if_neg (by rw [lat1 he]; simp)]
theorem nxt2 {s : Int} (h : nxt s 2 ≠ 0) : s = 2 ∧ nxt s 2 = 3 := by
 rw [pO (by omega)] at h ⊢
 by_cases hs : s = 2
 ·rw [if_pos hs]; exact ⟨hs, rfl⟩
 ·rw [if_neg hs] at h; exact absurd rfl h
theorem tX {s : Eg} (h : Inv s) {cl i : Int} (hc : cl = 0 ∨ cl = 1) : Inv (leaveE s cl i).1 := by
 unfold leaveE
 split
 ·exact h
 split
 ·exact h
 split
 ·exact h
 split
 ·exact h
 rename_i h1 h2 h3 h4
 have hh : hasV s.l i = true := by simpa using h1
 have he := h.epb
 have ha : (accV (gotV s.l i) s.ep).2 = 0 := Classical.byContradiction h2
 rw [acc_eq he] at ha
 have hn : nxt (gotV s.l i).st 2 ≠ 0 := fun hc => by rw [if_pos hc] at ha; simp at ha
 obtain ⟨h5, h6⟩ := nxt2 hn
 have hv : (accV (gotV s.l i) s.ep).1 = { gotV s.l i with rq := s.ep, st := 3 } := by rw [acc_eq he, if_neg hn, h6]
 have hb := bds_rng s.ep (addV (wgts s.l (aheadL cl s.q))) (accV (gotV s.l i) s.ep).1.bal s.c [s.c.unb, sweepV s.c]
 have hvo := h.vo i hh
 simp only [xN hh]
 generalize bdsV s.ep (addV (wgts s.l (aheadL cl s.q))) (accV (gotV s.l i) s.ep).1.bal s.c [s.c.unb, sweepV s.c] = d at hb ⊢
 rw [hv]
 have hq := pushL_len (sz := s.c.qsize.toNat) cl i h.qf
 refine ⟨h.cc, h.ck, h.blk, by show ((setV _ _ _).length : Int) ≤ _; rw [wR]; exact h.cap, vo_setV h.vo ⟨hvo.b, by simp, by simp only; omega, hvo.x, hvo.w, by simp only; omega⟩, ?_, h.led, hq, h.pe, h.mg, h.pt, h.pm, h.cur, h.m, ?_⟩
 ·show (bals (setV _ _ _)).sum = _
  exact (congrArg List.sum (rJ (by rfl))).trans h.sum
 ·exact h.e.push h5 (by rfl) (by rfl) hc h3
theorem burn_bd {b : Int} {c : C} (h0 : 0 ≤ b) (hn : 0 ≤ c.pnum) (hd : 1 ≤ c.pden) : 0 ≤ burnV b c ∧ burnV b c ≤ b := by
 unfold burnV
 split
 ·omega
 ·rename_i h
  constructor
  ·exact Int.ediv_nonneg (Int.mul_nonneg h0 hn) (by omega)
  ·have : b * c.pnum ≤ b * c.pden := Int.mul_le_mul_of_nonneg_left (by omega) h0
   have h9 := Int.ediv_le_ediv (a := b * c.pnum) (b := b * c.pden) (c := c.pden) (by omega) this
   rwa [Int.mul_ediv_cancel _ (by omega)] at h9
theorem nxt7 {s : Int} (h : nxt s 7 ≠ 0) : (s = 2 ∨ s = 3 ∨ s = 4 ∨ s = 5) ∧ nxt s 7 = if s = 2 ∨ s = 3 then 3 else 4 := by
 unfold nxt at h ⊢
 rw [if_pos rfl] at h ⊢
 by_cases h1 : s = 2 ∨ s = 3
 ·rw [if_pos h1, if_pos h1]; exact ⟨by omega, rfl⟩
 ·rw [if_neg h1] at h ⊢
  rw [if_neg h1]
  by_cases h2 : s = 4 ∨ s = 5
  ·rw [if_pos h2]; exact ⟨by omega, rfl⟩
  ·rw [if_neg h2] at h; exact absurd rfl h
theorem sla_eq {v : V} {e : Int} {c : C} (he : 0 ≤ e ∧ e ≤ 1000000000) (hc : 0 ≤ c.sld ∧ c.sld ≤ 1048576) (h0 : 0 ≤ v.bal) (hm : v.bal ≤ 18446744073709551615) (hn : 0 ≤ c.pnum) (hd : 1 ≤ c.pden) :
  slaV v e c = if v.sl = true then (V.z, 0, 9) else if nxt v.st 7 = 0 then (V.z, 0, 8) else ({ v with bal := v.bal - burnV v.bal c, st := nxt v.st 7, sl := true, rq := if v.st = 2 then e else v.rq, wd := max v.wd (e + c.sld), dl := -1 }, burnV v.bal c, 0) := by
 obtain ⟨h1, h2⟩ := lat2 he hc
 have hb := burn_bd h0 hn hd
 unfold slaV
 rw [h2, if_neg (show ¬ (latB [e, c.sld] = false) by rw [h1]; simp), IntKind.wrap_u64, Int.emod_eq_of_lt (by omega) (by omega)]
theorem tT {s : Eg} (h : Inv s) {i : Int} : Inv (slashE s i).1 := by
 have hk := h.cok
 have he := h.epb
 have hck := h.ck
 unfold slashE
 split
 ·exact h
 rename_i h1
 have hh : hasV s.l i = true := by simpa using h1
 have hvo := h.vo i hh
 have hbl := uG h.vo hh
 have hsum := h.sum
 obtain ⟨l1, l2, l3, l4, l5, l6⟩ := h.led
 have hpn : 0 ≤ s.c.pnum := hck.pnum.1
 have hpd : 1 ≤ s.c.pden := (xD h.cc).pden.1
 have hsl : 0 ≤ s.c.sld ∧ s.c.sld ≤ 1048576 := by have := hk.sld; have := hk.unb; omega
 have heq := sla_eq (v := gotV s.l i) (c := s.c) he hsl hvo.b (by omega) hpn hpd
 have hbd := burn_bd (c := s.c) hvo.b hpn hpd
 simp only
 split
 ·exact h
 split
 ·exact h
 split
 ·exact h
 rename_i h2 h3 h4
 have h4 : (slaV (gotV s.l i) s.ep s.c).2.2 = 0 := Classical.byContradiction h4
 rw [heq] at h4
 have hs : ¬ (gotV s.l i).sl = true := fun hc => by rw [if_pos hc] at h4; simp at h4
 rw [if_neg hs] at h4 heq
 have hn : nxt (gotV s.l i).st 7 ≠ 0 := fun hc => by rw [if_pos hc] at h4; simp at h4
 rw [if_neg hn] at heq
 obtain ⟨h5, h6⟩ := nxt7 hn
 have hbk : bookC s.dep s.paid s.burn (burnV (gotV s.l i).bal s.c) = 0 := by unfold bookC; rw [if_neg (by omega)]
 rw [heq]
 simp only
 rw [hbk, if_pos rfl, xN hh]
 have hvo' : VO { gotV s.l i with bal := (gotV s.l i).bal - burnV (gotV s.l i).bal s.c, st := nxt (gotV s.l i).st 7, sl := true, rq := if (gotV s.l i).st = 2 then s.ep else (gotV s.l i).rq, wd := max (gotV s.l i).wd (s.ep + s.c.sld), dl := -1 } := by
  have := hvo.w; have := hvo.r
  refine ⟨by simp only; omega, by simp only; rw [h6]; split <;> omega, by simp only; split <;> omega, hvo.x, by simp only; omega, by simp⟩
 generalize hw : ({ gotV s.l i with bal := (gotV s.l i).bal - burnV (gotV s.l i).bal s.c, st := nxt (gotV s.l i).st 7, sl := true, rq := if (gotV s.l i).st = 2 then s.ep else (gotV s.l i).rq, wd := max (gotV s.l i).wd (s.ep + s.c.sld), dl := -1 } : V) = w at hvo'
 have w1 : w.bal = (gotV s.l i).bal - burnV (gotV s.l i).bal s.c := by rw [← hw]
 have w2 : w.st = if (gotV s.l i).st = 2 ∨ (gotV s.l i).st = 3 then 3 else 4 := by rw [← hw]; exact h6
 have w3 : w.wd = max (gotV s.l i).wd (s.ep + s.c.sld) := by rw [← hw]
 have w4 : w.ex = (gotV s.l i).ex := by rw [← hw]
 have base : ∀ q bo, (q.f.length ≤ s.c.qsize.toNat ∧ q.v.length ≤ s.c.qsize.toNat) → InvE s.ep (setV s.l i w) q bo s.lv → Inv { s with l := setV s.l i w, burn := s.burn + burnV (gotV s.l i).bal s.c, q := q, bo := bo } := fun q bo hq hE =>
  ⟨h.cc, h.ck, h.blk, by show ((setV _ _ _).length : Int) ≤ _; rw [wR]; exact h.cap, vo_setV h.vo hvo', by show (bals (setV _ _ _)).sum = s.dep - s.paid - (s.burn + _); rw [vJ _ _ _ hh, w1]; omega,
   ⟨l1, by show 0 ≤ s.burn + _; omega, by show s.paid + (s.burn + burnV (gotV s.l i).bal s.c) ≤ s.dep; omega, l4, by show s.dep - s.paid - (s.burn + burnV (gotV s.l i).bal s.c) ≤ s.c.supc; omega, l6⟩, hq, h.pe, h.mg, h.pt, h.pm, h.cur, h.m, hE⟩
 by_cases c2 : (gotV s.l i).st = 2
 ·rw [if_pos c2, if_neg (show ¬ (gotV s.l i).st = 5 by omega)]
  have hf : freeL s.c.qsize.toNat 0 s.q ≠ 0 := fun hc => h3 ⟨c2, hc⟩
  exact base _ _ (pushL_len _ _ h.qf) (h.e.push c2 (by rw [w2, if_pos (.inl c2)]) w4 (.inl rfl) hf)
 ·rw [if_neg c2]
  by_cases c5 : (gotV s.l i).st = 5
  ·rw [if_pos c5, ← w3, putE_in (by have := hvo'.w; omega)]
   exact base _ _ h.qf (h.e.sl5 c5 (by rw [w2, if_neg (by omega)]) (by have := hk.sld; have := hk.unb; omega))
  ·rw [if_neg c5]
   refine base _ _ h.qf (h.e.sl34 (by omega) ?_ w4 (by omega))
   rw [w2]; split <;> omega
theorem consE_inv {s : Eg} (h : Inv s) {i t : Int} : Inv (consE s i t).1 := by
 unfold consE
 split
 ·exact h
 split
 ·exact h
 exact ⟨h.cc, h.ck, h.blk, h.cap, h.vo, h.sum, h.led, h.qf, h.pe, by show (s.mg ++ [_]).length ≤ _; simp only [List.length_append, List.length_singleton]; omega, h.pt, h.pm, h.cur, h.m, h.e⟩
theorem partE_inv {s : Eg} (h : Inv s) {i a : Int} (ha : 0 ≤ a) : Inv (partE s i a).1 := by
 unfold partE
 split
 ·exact h
 split
 ·exact h
 refine ⟨h.cc, h.ck, h.blk, h.cap, h.vo, h.sum, h.led, h.qf, h.pe, h.mg, by show (s.pt ++ [_]).length ≤ _; simp only [List.length_append, List.length_singleton]; omega, fun r hr => ?_, h.cur, h.m, h.e⟩
 rcases List.mem_append.1 hr with hr | hr
 ·exact h.pm r hr
 ·simp only [List.mem_cons, List.not_mem_nil, or_false] at hr; subst hr; exact ha
theorem vo_ev {e : Int} (he : 1 ≤ e ∧ e ≤ 5) (is : List Int) {l : List V} (hv : ∀ i, hasV l i = true → VO (gotV l i)) : ∀ i, hasV (is.foldl (fun l i => evV l i e) l) i = true → VO (gotV (is.foldl (fun l i => evV l i e) l) i) := fun i hi => by
 rw [xJ (uA he is l).1] at hi
 rw [uW he]
 have := hv i hi
 split
 ·exact ⟨this.b, by simp only; omega, this.r, this.x, this.w, this.d⟩
 ·exact this
theorem stepM_ok {W : List Int} {e lim : Int} {q : LL} {m : M} (hW : ∀ x ∈ W, 0 ≤ x) (hl : 0 ≤ lim) (h : m.ok) : (stepM W e lim q m).2.2.ok := (stepM_of hW hl h).2
theorem actS_nn : ∀ {l : List V}, (∀ v ∈ l, 0 ≤ v.bal) → 0 ≤ actS l ∧ actS l ≤ (bals l).sum
 | [], _ => ⟨Int.le_refl _, Int.le_refl _⟩
 | v :: l, h => by
  have ih := actS_nn (l := l) fun x hx => h x (by simp [hx])
  have h0 := h v (by simp)
  simp only [actS, bals, List.map_cons, List.sum_cons] at ih ⊢
  split <;> omega
theorem churn_nn {a m q : Int} (ha : 0 ≤ a) (hm : 0 ≤ m) : 0 ≤ churn a m q := by
 unfold churn
 split
 ·exact hm
 ·omega
structure Bdy (s : Eg) where
 l1 : List V
 l2 : List V
 b2 : List En
 ag : List As
 l3 : List V
 l4 : List V
 l5 : List V
 f1 : l1 = s.lv.foldl (fun l i => evV l i 3) s.l
 f2 : Rip s.ep l1 l2 s.bo
 f3 : Asg s.ep s.c l2 l3 ag
 f4 : ∃ is : List Int, l4 = is.foldl (fun l i => evV l i 1) l3
 f5 : K2 l4 l5
 d1 : Mid s.ep s.ep l1 s.q s.bo
 d2 : Mid s.ep (s.ep + 1) l2 s.q b2
 hl : (bdyE s).1.l = l5
 ha : (bdyE s).2 = ag
 hs : ∃ a b : Nat, ag = (s.q.f.take a).map (fun i => As.mk i 0 (s.ep + 1)) ++ (s.q.v.take b).map (fun i => As.mk i 1 (s.ep + 1)) ∧ a ≤ s.q.f.length ∧ b ≤ s.q.v.length ∧ (0 < b → a = s.q.f.length)
theorem bdyE_all {s : Eg} (hcc : chk s.c = 0) (hck : s.c.ok) (hblk : s.blk ≤ 1000000000) (hcap : (s.l.length : Int) ≤ s.c.capa) (hvo : ∀ i, hasV s.l i = true → VO (gotV s.l i)) (hsum : (bals s.l).sum = s.dep - s.paid - s.burn) (hled : LOk s.c.supc s.dep s.paid s.burn)
  (hqf : s.q.f.length ≤ s.c.qsize.toNat ∧ s.q.v.length ≤ s.c.qsize.toNat) (hpe : s.pend.length ≤ s.c.qsize.toNat) (hmg : s.mg.length ≤ s.c.qsize.toNat) (hpt : s.pt.length ≤ s.c.qsize.toNat) (hpm : ∀ r ∈ s.pt, 0 ≤ r.m) (hcur : s.cur ≤ 4096) (hm : s.m.ok) (hE : InvE (s.ep - 1) s.l s.q s.bo s.lv) :
  Nonempty (Bdy s) ∧ Inv (bdyE s).1 := by
 have hk := chk_ok hcc hck
 have hep : 0 ≤ s.ep ∧ s.ep ≤ 1000000000 := by have := ep_nn s; have := ep_le s; omega
 have d1 : Mid s.ep s.ep (s.lv.foldl (fun l i => evV l i 3) s.l) s.q s.bo := hE.mid
 have v1 := vo_ev (e := 3) (by omega) s.lv hvo
 have n1 : (s.lv.foldl (fun l i => evV l i 3) s.l).length = s.l.length := (uA (by omega) _ _).1
 have s1 : bals (s.lv.foldl (fun l i => evV l i 3) s.l) = bals s.l := wA 3 _ _
 unfold bdyE
 simp only
 generalize hl1 : s.lv.foldl (fun l i => evV l i 3) s.l = l1 at d1 v1 n1 s1 ⊢
 obtain ⟨f2, d2⟩ := d1.rip hep.1 (VO.z_wd l1 v1)
 have s2 : bals (ripE s.ep (l1, s.bo)).1 = bals l1 := bals_rip s.ep _ _
 generalize hr : ripE s.ep (l1, s.bo) = r at f2 d2 s2 ⊢
 obtain ⟨l2, b2⟩ := r
 simp only at f2 d2 s2 ⊢
 have n2 := f2.len
 have v2 : ∀ i, hasV l2 i = true → VO (gotV l2 i) := fun i hi => by
  rw [xJ f2.len] at hi
  have := v1 i hi
  rw [f2.got]
  split
  ·exact ⟨this.b, by simp, this.r, this.x, this.w, this.d⟩
  ·exact this
 have hWn : ∀ x ∈ bals l2, 0 ≤ x := fun x hx => by
  obtain ⟨v, hv, rfl⟩ := List.mem_map.1 hx
  obtain ⟨j, hj, rfl⟩ := tH hv
  exact (v2 j hj).b
 have hlim : 0 ≤ churnE s.c l2 := churn_nn (actS_nn fun v hv => hWn _ (List.mem_map.2 ⟨v, hv, rfl⟩)).1 hck.minch.1
 obtain ⟨f3, e3⟩ := d2.asg (e := s.ep) hep.1 (c := s.c) hk.unb.1 (by have := hk.unb; omega) (VO.z_wd l2 v2) (bals l2) (churnE s.c l2) s.m
 have hsh := wW (bals l2) s.ep (churnE s.c l2) s.q s.m
 have hlen := stepM_len (W := bals l2) (e := s.ep) (lim := churnE s.c l2) (m := s.m) hqf
 have hmo := stepM_ok (W := bals l2) (e := s.ep) (lim := churnE s.c l2) (q := s.q) hWn hlim hm
 generalize hst : stepM (bals l2) s.ep (churnE s.c l2) s.q s.m = st at f3 e3 hsh hlen hmo ⊢
 generalize hfa : st.1.foldl (asgS s.c) (l2, b2, []) = A at f3 e3 ⊢
 obtain ⟨l3, b3, v3⟩ := A
 simp only at f3 e3 ⊢
 have v3' : ∀ i, hasV l3 i = true → VO (gotV l3 i) := fun i hi => by
  rw [xJ f3.len] at hi
  have h1 := v2 i hi
  have hu := hk.unb
  rw [f3.got]
  split
  ·exact ⟨h1.b, h1.s, h1.r, by simp only [asV]; omega, by have := h1.w; simp only [asV]; omega, h1.d⟩
  ·exact h1
 generalize hac : batF (churnE s.c l2) (bals l3) s.pend 0 true = ac
 have acl : ac.length ≤ s.pend.length := by rw [← hac]; exact sS _ _ _ _ _
 have v4 := vo_ev (e := 1) (by omega) ac v3'
 have n4 : (ac.foldl (fun l i => evV l i 1) l3).length = l3.length := (uA (by omega) _ _).1
 have s4 : bals (ac.foldl (fun l i => evV l i 1) l3) = bals l3 := wA 1 _ _
 have m4 := Sm.act ac l3
 generalize hl4 : ac.foldl (fun l i => evV l i 1) l3 = l4 at v4 n4 s4 m4 ⊢
 obtain ⟨f5, s5⟩ := K2.runM (c := s.c) (s.mg.take s.c.merg.toNat) v4
 have hE5 := (e3.sm m4).sm f5.sm
 generalize hl5 : (runM s.c l4 (s.mg.take s.c.merg.toNat)).1 = l5 at f5 s5 hE5 ⊢
 obtain ⟨a, b, g1, g2, g3, g4, g5⟩ := hsh
 refine ⟨⟨⟨l1, l2, b2, st.1, l3, l4, l5, hl1.symm, f2, f3, ⟨ac, hl4.symm⟩, f5, d1, d2, ?_, ?_, ⟨a, b, g1, g2, g3, g4⟩⟩⟩, ?_⟩
 ·unfold bdyE; simp only [hl1, hr, hst, hfa, hac, hl4, hl5]
 ·unfold bdyE; simp only [hl1, hr, hst]
 ·refine ⟨hcc, hck, hblk, by show (l5.length : Int) ≤ _; rw [f5.len, n4, f3.len, n2, n1]; exact hcap, f5.vo v4, by show (bals l5).sum = _; rw [s5, s4, f3.bal, s2, s1]; exact hsum, hled, hlen, by show (s.pend.drop _).length ≤ _; simp only [List.length_drop]; omega, by show (s.mg.drop _).length ≤ _; simp only [List.length_drop]; omega, hpt, hpm, hcur, hmo, hE5⟩
theorem tick_ep {s : Eg} (hc : 1 ≤ s.c.elen) : ({ s with blk := s.blk + 1 } : Eg).ep = if (s.blk + 1) % s.c.elen.toNat = 0 then s.ep + 1 else s.ep := by
 unfold Eg.ep
 simp only
 have hp : 0 < s.c.elen.toNat := by omega
 generalize s.c.elen.toNat = k at hp ⊢
 rw [Nat.succ_div]
 by_cases h : k ∣ s.blk + 1
 ·rw [if_pos h, if_pos (Nat.mod_eq_zero_of_dvd h)]; omega
 ·rw [if_neg h, if_neg (fun hc => h (Nat.dvd_of_mod_eq_zero hc))]; omega
def midE (s : Eg) : Eg × List As := if (s.blk + 1) % s.c.elen.toNat = 0 then bdyE { s with blk := s.blk + 1 } else ({ s with blk := s.blk + 1 }, [])
theorem vH (s : Eg) : tickE s = ((paysE (midE s).1).1, ⟨7, 0, -1, (paysE (midE s).1).1.blk, (paysE (midE s).1).1.ep, -1, (midE s).2, (paysE (midE s).1).2.1, (paysE (midE s).1).2.2⟩) := rfl
theorem tG {s : Eg} (h : Inv s) (hb : s.blk < 1000000000) : Inv (midE s).1 ∧ ((s.blk + 1) % s.c.elen.toNat = 0 → Nonempty (Bdy { s with blk := s.blk + 1 })) := by
 have hep := tick_ep (s := s) h.cok.elen.1
 unfold midE
 by_cases hc : (s.blk + 1) % s.c.elen.toNat = 0
 ·rw [if_pos hc] at hep ⊢
  have := bdyE_all (s := { s with blk := s.blk + 1 }) h.cc h.ck (by show s.blk + 1 ≤ _; omega) h.cap h.vo h.sum h.led h.qf h.pe h.mg h.pt h.pm h.cur h.m (by rw [hep]; exact h.e.ep_eq (by omega))
  exact ⟨this.2, fun _ => this.1⟩
 ·rw [if_neg hc] at hep ⊢
  exact ⟨⟨h.cc, h.ck, by show s.blk + 1 ≤ _; omega, h.cap, h.vo, h.sum, h.led, h.qf, h.pe, h.mg, h.pt, h.pm, h.cur, h.m, by rw [hep]; exact h.e⟩, fun h => absurd h hc⟩
theorem led_fold {d u : Int} : ∀ (ps : List Y) (p : Int), (∀ y ∈ ps, 0 ≤ y.a) → sumA ps ≤ d - p - u → ps.foldl (ledS d u) p = p + sumA ps
 | [], p, _, _ => by simp [sumA]
 | y :: ps, p, h, hs => by
  have h0 := h y (by simp)
  have h1 : 0 ≤ sumA ps := xM fun x hx => by
   obtain ⟨z, hz, rfl⟩ := List.mem_map.1 hx; exact h z (by simp [hz])
  have e1 : sumA (y :: ps) = y.a + sumA ps := by simp [sumA]
  rw [e1] at hs ⊢
  have hb : ledS d u p y = p + y.a := by
   unfold ledS bookC
   rw [if_neg (show ¬ d - p - u < y.a by omega), if_pos rfl]
  rw [List.foldl_cons, hb, led_fold ps (p + y.a) (fun z hz => h z (by simp [hz])) (by omega)]
  omega
theorem swp_cur {rd : List Bool} {n pays : Nat} (hn : 0 < n) (hm : n ≤ 4096) : ∀ (k at_ : Nat) (paid : List Int) (made : Nat), at_ ≤ 4096 → (swp rd n pays k at_ paid made).1 ≤ 4096
 | 0, _, _, _, h => h
 | k + 1, at_, paid, made, h => by
  unfold swp
  split
  ·exact h
  ·exact swp_cur hn hm k _ _ _ (by have := Nat.mod_lt (at_ % n + 1) hn; omega)
theorem sweep_cur {at_ : Nat} {rd : List Bool} {visits pays : Int} (hm : rd.length ≤ 4096) (h : at_ ≤ 4096) : (sweepS at_ rd visits pays).1 ≤ 4096 := by
 unfold sweepS
 split
 ·exact h
 ·exact swp_cur (by omega) hm _ _ _ _ h
theorem rdy_get {l : List V} {j : Nat} (h : (l.map fun v => decide (v.st = 5))[j]? = some true) : (gotV l j).st = 5 := by
 rw [List.getElem?_map] at h
 obtain ⟨v, hv, h1⟩ := Option.map_eq_some_iff.1 h
 obtain ⟨hj, rfl⟩ := List.getElem?_eq_some_iff.1 hv
 rw [yT hj]; exact of_decide_eq_true h1
structure Pay (s : Eg) where
 l1 : List V
 ps : List Y
 is : List Int
 f1 : K2 s.l l1
 fp : ∀ y ∈ ps, 0 ≤ y.a ∧ y.f = false ∧ hasV s.l y.i = true
 nd : is.Nodup
 i5 : ∀ i ∈ is, (gotV l1 i).st = 5
 len : (paysE s).1.l.length = s.l.length
 got : ∀ j, gotV (paysE s).1.l j = if j ∈ is then { gotV l1 j with st := 6, bal := 0 } else gotV l1 j
 pay : (paysE s).2.1 = ps ++ is.map (fun i => ⟨i, (gotV l1 i).bal, true⟩)
theorem paysE_all {s : Eg} (h : Inv s) : Nonempty (Pay s) ∧ Inv (paysE s).1 ∧ (paysE s).1.ep = s.ep ∧ (paysE s).1.blk = s.blk ∧ (paysE s).1.q = s.q ∧ (paysE s).1.c = s.c := by
 have hck := h.ck
 have hk := h.cok
 obtain ⟨l1, l2, l3, l4, l5, l6⟩ := h.led
 have hsum := h.sum
 obtain ⟨f1, s1, p1⟩ := K2.run (c := s.c) hck.minb.1 (s.pt.take s.c.parts.toNat) (fun r hr => h.pm r (List.mem_of_mem_take hr)) h.vo (by omega)
 unfold paysE
 simp only
 generalize hr : run s.c s.l (s.pt.take s.c.parts.toNat) = r at f1 s1 p1 ⊢
 obtain ⟨la, ra⟩ := r
 simp only at f1 s1 p1 ⊢
 have v1 := f1.vo h.vo
 have hlen : la.length ≤ 4096 := by have := f1.len; have := h.cap; have := hk.capa; omega
 obtain ⟨w1, w2⟩ := qP s.cur (la.map fun v => decide (v.st = 5)) (s.c.vis - ((s.pt.take s.c.parts.toNat).length : Nat)) (s.c.pays - ((pos ra).length : Nat))
 have w3 := sweep_cur (at_ := s.cur) (rd := la.map fun v => decide (v.st = 5)) (visits := s.c.vis - ((s.pt.take s.c.parts.toNat).length : Nat)) (pays := s.c.pays - ((pos ra).length : Nat)) (by simpa using hlen) h.cur
 generalize hw : sweepS s.cur (la.map fun v => decide (v.st = 5)) (s.c.vis - ((s.pt.take s.c.parts.toNat).length : Nat)) (s.c.pays - ((pos ra).length : Nat)) = w at w1 w2 w3 ⊢
 have i5 : ∀ i ∈ w.2.1, (gotV la i).st = 5 := fun i hi => by
  obtain ⟨j, rfl, hj⟩ := w1 i hi; exact rdy_get hj
 have hEa := h.e.sm f1.sm
 obtain ⟨g1, g2, g3, g4⟩ := tM (l0 := la) (e := s.ep) w.2.1 la (pos ra) w2 (fun i hi => ⟨i5 i hi, hEa.rdy i (i5 i hi), rfl⟩)
 generalize hf : w.2.1.foldl (fullS la s.ep) (la, pos ra) = f at g1 g2 g3 g4 ⊢
 obtain ⟨lf, pf⟩ := f
 simp only at g1 g2 g3 g4 ⊢
 rw [sumA_pos] at g4
 have vf : ∀ i, hasV lf i = true → VO (gotV lf i) := fun i hi => by
  rw [xJ g1] at hi
  have := v1 i hi
  rw [g2 i]
  split
  ·exact ⟨by simp, by simp, this.r, this.x, this.w, this.d⟩
  ·exact this
 have pnn : ∀ y ∈ pf, 0 ≤ y.a := fun y hy => by
  rw [g3] at hy
  rcases List.mem_append.1 hy with hy | hy
  ·exact (p1 y (List.mem_filter.1 hy).1).1
  ·obtain ⟨i, hi, rfl⟩ := List.mem_map.1 hy
   exact (v1 i (yU (by have := i5 i hi; omega))).b
 have hnn : 0 ≤ (bals lf).sum := xM fun x hx => by
  obtain ⟨v, hv, rfl⟩ := List.mem_map.1 hx
  obtain ⟨j, hj, rfl⟩ := tH hv
  exact (vf j hj).b
 have hps : 0 ≤ sumA pf := xM fun x hx => by obtain ⟨z, hz, rfl⟩ := List.mem_map.1 hx; exact pnn z hz
 have hpaid := led_fold (d := s.dep) (u := s.burn) pf s.paid pnn (by omega)
 have smf : Sm la lf := Sm.of fun j => by
  rw [g2 j]
  split
  ·rename_i hj
   have := i5 j hj
   right; simp only; omega
  ·exact .inl rfl
 have hEf := hEa.sm smf
 refine ⟨⟨⟨la, pos ra, w.2.1, f1, fun y hy => p1 y (List.mem_filter.1 hy).1, w2, i5, ?_, ?_, ?_⟩⟩, ?_, by first | rfl | trivial, by first | rfl | trivial, by first | rfl | trivial, by first | rfl | trivial⟩
 ·unfold paysE; simp only [hr, hw, hf]; rw [g1, f1.len]
 ·unfold paysE; simp only [hr, hw, hf]; exact g2
 ·unfold paysE; simp only [hr, hw, hf]; exact g3
 ·rw [hpaid]
  exact ⟨h.cc, h.ck, h.blk, by show (lf.length : Int) ≤ _; rw [g1, f1.len]; exact h.cap, vf, by show (bals lf).sum = s.dep - (s.paid + sumA pf) - s.burn; omega, ⟨by show 0 ≤ s.paid + sumA pf; omega, l2, by show s.paid + sumA pf + s.burn ≤ s.dep; omega, l4, by show s.dep - (s.paid + sumA pf) - s.burn ≤ s.c.supc; omega, l6⟩, h.qf, h.pe, h.mg,
   by show (s.pt.drop _).length ≤ _; have := h.pt; simp only [List.length_drop]; omega, fun r hr => h.pm r (List.mem_of_mem_drop hr), w3, h.m, hEf⟩
theorem tickE_inv {s : Eg} (h : Inv s) (hb : s.blk < 1000000000) : Inv (tickE s).1 := by
 rw [vH]; exact (paysE_all (tG h hb).1).2.1
structure OpR (o : Op) : Prop where
 a : 0 ≤ o.a ∧ o.a ≤ 18446744073709551615
theorem actE_inv {s : Eg} (h : Inv s) {o : Op} (ho : OpR o) : Inv (actE s o).1 := by
 unfold actE
 split
 ·exact depE_inv h ho.a
 split
 ·exact tX h (.inr rfl)
 split
 ·exact tX h (.inl rfl)
 split
 ·exact tT h
 split
 ·exact consE_inv h
 split
 ·exact partE_inv h ho.a.1
 ·exact h
theorem applyE_inv {s : Eg} (h : Inv s) (hb : s.blk < 1000000000) {o : Op} (ho : OpR o) : Inv (applyE s o).1 := by
 unfold applyE
 split
 ·exact tickE_inv h hb
 ·exact actE_inv h ho
theorem pS {c : C} (hc : chk c = 0) (hk : c.ok) : Inv (newE c) := by
 have hn : ∀ i : Int, (gotV [] i).st = 0 := fun i => got_no (decide_eq_false (by simp))
 have hm := xD hc
 have he : (newE c).ep = 0 := by unfold Eg.ep newE; simp
 refine ⟨hc, hk, by simp [newE], by have := (chk_ok hc hk).capa; simp [newE]; omega, fun i hi => ?_, by simp [newE, bals], ⟨by simp [newE], by simp [newE], by simp [newE], by simp [newE], by have := hm.maxd; have := hm.mind; simp [newE]; omega, by have := hm.maxd; simp [newE]; omega⟩, by simp [newE], by simp [newE], by simp [newE], by simp [newE], by simp [newE], by simp [newE], M0_ok, ?_⟩
 ·have := of_decide_eq_true hi; simp [newE] at this; omega
 ·rw [he]
  refine ⟨by simp [newE], fun i => ?_, by simp [newE], fun i => ?_, by simp [newE], by simp [newE], fun i => ?_, by simp [newE], fun i hi => ?_, fun i hi => ?_⟩
  ·have := hn i; simp [newE, this]
  ·have := hn i; simp [newE, this]
  ·have := hn i; simp [newE, this]
  ·have := hn i; simp only [newE] at hi; omega
  ·have := hn i; simp only [newE] at hi; omega
def ECell (rb cb lb bb ub mb xb pb gb tb : Nat) (c : C) (lA : Option Addr) (n lc : Nat) : List Value := [Value.pointer (some ⟨rb, 0, none⟩), .int .i64 c.capa, .int .i64 c.qsize, .int .u64 c.mind, .int .u64 c.maxd, .int .u64 c.supc, .int .u64 c.minb, .int .u64 c.maxb, .int .u64 c.minch, .int .u64 c.quot, .int .u64 c.fcap, .int .i64 c.unb, .int .i64 c.sld, .int .i64 c.rlen, .int .i64 c.elen, .int .i64 c.vis, .int .i64 c.pays, .int .i64 c.parts, .int .i64 c.merg, .int .u64 c.pnum, .int .u64 c.pden, .pointer (some ⟨cb, 0, none⟩), .pointer (some ⟨lb, 0, none⟩), .pointer (some ⟨bb, 0, none⟩), .slice lA n lc, .pointer (some ⟨ub, 0, none⟩), .pointer (some ⟨mb, 0, none⟩), .pointer (some ⟨xb, 0, none⟩), .pointer (some ⟨pb, 0, none⟩), .pointer (some ⟨gb, 0, none⟩), .pointer (some ⟨tb, 0, none⟩)]
theorem deposit_any (eb rb cb lb bb ub mb xb b0 b1 pb gb tb : Nat) (c : C) (blk : Nat) (g : RG) (dep paid burn : Int) (bo : List En) (lv : List Int) (cur : Nat) (m : M) (q : LL) (pend : List Int) (mg : List PP) (pt : List Rq) (br : BR) (lA : Option Addr) (lc : Nat) (g0 g1 gp gg gt : Rg) (y : Op) (w : World) (hw : W0 [Res.blk eb 112 (ECell rb cb lb bb ub mb xb pb gb tb c lA (lv.length) lc), RgB rb g, RgW g, Res.im (RG.m g), LgB lb (dep) (paid) (burn) (c.supc), rB_i pb gp, rW_i gp] w) (hi : Inv (Eg.mk c blk (RG.l g) dep paid burn bo lv cur m q pend mg pt)) (hg : g.Rep) (hcp : (g.cp : Int) = c.capa) (hgp : gp.Rep 1 (pend.map (fun v : Int => [Value.int .i64 v]))) (sgp : Rg.size gp = c.qsize.toNat) (ho : OpR y) : Own2 (ι := (RG × Rg)) Tryz.prog 58 [.pointer (some ⟨eb, 0, none⟩), .agg y.c.toArray] w [Res.blk eb 112 (ECell rb cb lb bb ub mb xb pb gb tb c lA (lv.length) lc), RgB rb g, RgW g, Res.im (RG.m g), LgB lb (dep) (paid) (burn) (c.supc), rB_i pb gp, rW_i gp] (fun x => x.1.Rep ∧ x.1.l = (depE (Eg.mk c blk (RG.l g) dep paid burn bo lv cur m q pend mg pt) y).1.l ∧ x.1.cp = g.cp ∧ x.2.Rep 1 ((depE (Eg.mk c blk (RG.l g) dep paid burn bo lv cur m q pend mg pt) y).1.pend.map (fun v : Int => [Value.int .i64 v])) ∧ x.2.size = c.qsize.toNat) (fun x => .agg (Rs.c (depE (Eg.mk c blk (RG.l g) dep paid burn bo lv cur m q pend mg pt) y).2).toArray) (fun x => []) (fun x => [Res.blk eb 112 (ECell rb cb lb bb ub mb xb pb gb tb c lA (lv.length) lc), RgB rb x.1, RgW x.1, Res.im (RG.m x.1), LgB lb ((depE (Eg.mk c blk (RG.l g) dep paid burn bo lv cur m q pend mg pt) y).1.dep) (paid) (burn) (c.supc), rB_i pb x.2, rW_i x.2]) := by
 refine g_st Tryz.func58 82 hw ?_
 have hok : Cok c := hi.cok
 have hmo : Cmo c := xD hi.cc
 have hblk : blk ≤ 1000000000 := hi.blk
 have hk : blk < 4611686018427387904 := by omega
 have hel : 1 ≤ c.elen.toNat ∧ c.elen.toNat ≤ 4611686018427387904 := by have := hok.elen; omega
 have hled : LOk c.supc dep paid burn := hi.led
 have hqf : q.f.length ≤ c.qsize.toNat ∧ q.v.length ≤ c.qsize.toNat := hi.qf
 have hsum : (bals (RG.l g)).sum = dep - paid - burn := hi.sum
 have hvo : ∀ i, hasV (RG.l g) i = true → VO (gotV (RG.l g) i) := hi.vo
 have hqs := hmo.qsize
 refine rn [1] ?_
 refine g_op (g_box rfl rfl rfl fun b3 => ?_)
 refine g_op (zI rfl fun b4 => ?_)
 refine rn [0,8,14,8] ?_
 refine dreg [] mixed rfl ?_
 refine rn [23,0,4,23,1,5,23,2,2,23,3,6,23,4,4,23,5,4,23,6,5,23,7,46,23,8,2] ?_
 refine zV 17 rfl (fun h1 => ?_) (fun h1 => ?_)
 ·have hb : (depE (Eg.mk c blk (RG.l g) dep paid burn bo lv cur m q pend mg pt) y) = ((Eg.mk c blk (RG.l g) dep paid burn bo lv cur m q pend mg pt), ⟨3, 0, 0⟩) := by
    unfold depE; dsimp only; rw [if_pos (.inl (of_decide_eq_true h1))]
  refine rn [25,9,25,10,25,11,25,12,25,13,25,14,25,15,25,16,23,17,41,23,18,3,27,7,19,1] ?_
  refine g_op (zG rfl (fun w1 hw1 => by exact yI (3) w1) rfl ?_)
  refine rn [33,0,11] ?_
  refine zN (zD ?_)
  exact fin1 rfl (.cellw rfl rfl) (fun w' hw' => ⟨(g, gp), (by (rw [hb]; exact ⟨hg, rfl, rfl, hgp, sgp⟩)), by rw [hb]; rfl, by rw [hb]; exact zA w' hw'⟩) _ (.inl rfl)
 ·have n1 := of_decide_eq_false h1
  refine rn [26,9,4,26,10,5,26,11,2,26,12,6,26,13,4,26,14,4,26,15,5,26,16,55,23,17,42,23,18,3,27,7] ?_
  refine zC rfl (fun h2 => ?_) (fun h2 => ?_)
  ·have hb : (depE (Eg.mk c blk (RG.l g) dep paid burn bo lv cur m q pend mg pt) y) = ((Eg.mk c blk (RG.l g) dep paid burn bo lv cur m q pend mg pt), ⟨3, 0, 0⟩) := by
     unfold depE; dsimp only; rw [if_pos (.inr (of_decide_eq_true h2))]
   refine rn [1] ?_
   refine g_op (zG rfl (fun w1 hw1 => by exact yI (3) w1) rfl ?_)
   refine rn [33,0,11] ?_
   refine zN (zD ?_)
   exact fin1 rfl (.cellw rfl rfl) (fun w' hw' => ⟨(g, gp), (by (rw [hb]; exact ⟨hg, rfl, rfl, hgp, sgp⟩)), by rw [hb]; rfl, by rw [hb]; exact zA w' hw'⟩) _ (.inl rfl)
  ·have n2 := of_decide_eq_false h2
   refine rn [8] ?_
   refine dreg [] mixed rfl ?_
   refine rn [23,0,2,23,1,6,23,2,4,23,3,4,23,4,5,23,6,2,23,7,6,23,8,4,23,9,4,23,10,5] ?_
   refine dop 5 rfl (zL _ rfl (fun w1 hw1 ho1 => by exact rlen_any rb g w1 ho1) rfl ?_)
   refine rn [23,11,53,23,12,3,27,7] ?_
   refine zC rfl (fun h3 => ?_) (fun h3 => ?_)
   ·have hb : (depE (Eg.mk c blk (RG.l g) dep paid burn bo lv cur m q pend mg pt) y) = ((Eg.mk c blk (RG.l g) dep paid burn bo lv cur m q pend mg pt), ⟨5, 0, 0⟩) := by
      unfold depE; dsimp only; rw [if_neg (show ¬ (y.a < c.mind ∨ c.maxd < y.a) by omega), if_pos (of_decide_eq_true h3)]
    refine rn [1] ?_
    refine g_op (zG rfl (fun w1 hw1 => by exact yI (5) w1) rfl ?_)
    refine rn [33,0,11] ?_
    refine zN (zD ?_)
    exact fin1 rfl (.cellw rfl rfl) (fun w' hw' => ⟨(g, gp), (by (rw [hb]; exact ⟨hg, rfl, rfl, hgp, sgp⟩)), by rw [hb]; rfl, by rw [hb]; exact zA w' hw'⟩) _ (.inl rfl)
   ·have n3 := of_decide_eq_false h3
    refine rn [1,2,6,4,5] ?_
    refine g_op (zL _ rfl (fun w1 hw1 ho1 => by exact free_i pb gp pend w1 ho1 hgp) rfl ?_)
    refine rn [44,3,0] ?_
    refine zC rfl (fun h4 => ?_) (fun h4 => ?_)
    ·have hb : (depE (Eg.mk c blk (RG.l g) dep paid burn bo lv cur m q pend mg pt) y) = ((Eg.mk c blk (RG.l g) dep paid burn bo lv cur m q pend mg pt), ⟨6, 0, 0⟩) := by
       unfold depE; dsimp only; rw [if_neg (show ¬ (y.a < c.mind ∨ c.maxd < y.a) by omega), if_neg n3, if_pos (by have h9 := h4; simp at h9; omega)]
     refine rn [1] ?_
     refine g_op (zG rfl (fun w1 hw1 => by exact yI (6) w1) rfl ?_)
     refine rn [33,0,11] ?_
     refine zN (zD ?_)
     exact fin1 rfl (.cellw rfl rfl) (fun w' hw' => ⟨(g, gp), (by (rw [hb]; exact ⟨hg, rfl, rfl, hgp, sgp⟩)), by rw [hb]; rfl, by rw [hb]; exact zA w' hw'⟩) _ (.inl rfl)
    ·have n4 : ¬ c.qsize.toNat - pend.length = 0 := by have h9 := h4; simp at h9; omega
     refine rn [12,15,7,8,8] ?_
     refine dregL (L0 := [Res.blk eb 112 (ECell rb cb lb bb ub mb xb pb gb tb c lA (lv.length) lc), Res.blk b3 35 y.c]) [] mixed rfl zB ?_
     refine rn [23,0,2,23,1,6,23,2,4,23,3,5,23,4,4,23,5,5] ?_
     refine dop 6 rfl (zH _ rfl (fun w1 hw1 ho1 => by have h7 := ldep_any lb dep paid burn c.supc ((y).a) w1 ho1 hled ho.a; exact h7) rfl ?_)
     rintro ⟨⟩ _
     refine ii ?_
     refine rn [23,7,3,27,7,1,2,51,0] ?_
     refine zC rfl (fun h5 => ?_) (fun h5 => ?_)
     ·have hl : ¬ (ledC c.supc dep paid burn y.a) = 0 := by have h9 := h5; simpa using h9
      have hb : (depE (Eg.mk c blk (RG.l g) dep paid burn bo lv cur m q pend mg pt) y) = ((Eg.mk c blk (RG.l g) dep paid burn bo lv cur m q pend mg pt), ⟨(ledC c.supc dep paid burn y.a), 0, 0⟩) := by
        unfold depE; dsimp only; rw [if_neg (show ¬ (y.a < c.mind ∨ c.maxd < y.a) by omega), if_neg n3, if_neg n4, if_pos hl]
      refine rn [1,2] ?_
      refine g_op (zG rfl (fun w1 hw1 => by exact yI ((ledC c.supc dep paid burn (y).a)) w1) rfl ?_)
      refine rn [33,0,11,13] ?_
      exact fin1 rfl (.cellw rfl rfl) (fun w' hw' => ⟨(g, gp), (by (rw [hb]; exact ⟨hg, rfl, rfl, hgp, sgp⟩)), by rw [hb]; rfl, by have h9 := zB (L' := [Res.blk eb 112 (ECell rb cb lb bb ub mb xb pb gb tb c lA (lv.length) lc), RgB rb g, RgW g, Res.im (RG.m g), LgB lb ((if (ledC c.supc dep paid burn y.a) = 0 then dep + y.a else dep)) (paid) (burn) (c.supc), rB_i pb gp, rW_i gp]) w' hw'; show WOK _ _ [Res.blk eb 112 (ECell rb cb lb bb ub mb xb pb gb tb c lA (lv.length) lc), RgB rb ((g, gp)).1, RgW ((g, gp)).1, Res.im (RG.m ((g, gp)).1), LgB lb ((depE (Eg.mk c blk (RG.l g) dep paid burn bo lv cur m q pend mg pt) y).1.dep) (paid) (burn) (c.supc), rB_i pb ((g, gp)).2, rW_i ((g, gp)).2] _; rw [hb]; rw [if_neg hl] at h9; exact h9⟩) _ (.inl rfl)
     ·have hl : (ledC c.supc dep paid burn y.a) = 0 := by have h9 := h5; simpa using h9
      have hb : (depE (Eg.mk c blk (RG.l g) dep paid burn bo lv cur m q pend mg pt) y) = ((Eg.mk c blk ((RG.l g) ++ [(⟨y.a, 1, false, -1, -1, -1, -1⟩ : V)]) (dep + y.a) paid burn bo lv cur m q (pend ++ [((RG.l g).length : Int)]) mg pt), ⟨0, ((RG.l g).length : Int), -1⟩) := by
        unfold depE; dsimp only; rw [if_neg (show ¬ (y.a < c.mind ∨ c.maxd < y.a) by omega), if_neg n3, if_neg n4, if_neg (fun h => h hl)]
      have hl2 : y.a ≤ c.supc - (dep - paid - burn) := by unfold ledC at hl; split at hl <;> omega
      refine rn [12,7,8] ?_
      refine dregL (L0 := [Res.blk eb 112 (ECell rb cb lb bb ub mb xb pb gb tb c lA (lv.length) lc), Res.blk b3 35 y.c]) [] mixed rfl zB ?_
      refine rn [23,0,2,23,1,6,23,2,4,23,3,4,23,4,5,23,5,4,23,6,5,23,7,49] ?_
      refine dop 8 rfl (zH _ rfl (fun w1 hw1 ho1 => by have h7 := radd_reg rb g ((⟨y.a, 1, false, -1, -1, -1, -1⟩ : V)) w1 ho1 hg (⟨ho.a, by simp, by simp, by simp, by simp, by simp⟩) (by omega) (by have h9 := hsum; unfold bals at h9; have := hmo.maxd; simp only; omega); exact h7) rfl ?_)
      rintro g70 ⟨r70, l70, c70⟩
      refine ii ?_
      refine rn [23,9,2,23,10,40,23,11,40,23,12,3,23,13,3,27,7,1,2,6,4,5,2] ?_
      refine g_op (g_lit rfl rfl rfl rfl rfl fun b78 => ?_)
      refine zJ (b := b78) ((([(((RG.l g).length : Nat) : Int)] : List Int).map (fun v : Int => [Value.int .i64 v])).flatten) rfl ?_
      refine g_op (zH _ rfl (fun w1 hw1 ho1 => by have h7 := push_i pb gp pend [(((RG.l g).length : Nat) : Int)] (some ⟨b78, 0, none⟩) 1 w1 ho1 hgp (Rd.ofBlk (b := b78) hw1 rfl (by simp) rfl) (by simp); exact h7) rfl ?_)
      rintro g79 ⟨r79, s79⟩
      refine ii ?_
      refine rn [0,1,2] ?_
      refine g_op (zG rfl (fun w1 hw1 => by exact xK ((((RG.l g).length : Nat) : Int)) ((-1)) w1) rfl ?_)
      refine rn [33,0,11] ?_
      exact fin1 rfl (.cellw rfl rfl) (fun w' hw' => ⟨(g70, g79), (by (try dsimp only); (rw [hb]; exact ⟨r70, l70, c70, by have h8 := r79; rw [show (min ([((RG.l g).length : Int)] : List Int).length (Rg.size gp - pend.length)) = 1 by simp; omega] at h8; exact h8, by omega⟩)), by rw [hb]; rfl, by have h9 := zB (L' := [Res.blk eb 112 (ECell rb cb lb bb ub mb xb pb gb tb c lA (lv.length) lc), RgB rb g70, RgW g70, Res.im (RG.m g70), LgB lb ((if (ledC c.supc dep paid burn y.a) = 0 then dep + y.a else dep)) (paid) (burn) (c.supc), rB_i pb g79, rW_i g79]) w' hw'; show WOK _ _ [Res.blk eb 112 (ECell rb cb lb bb ub mb xb pb gb tb c lA (lv.length) lc), RgB rb ((g70, g79)).1, RgW ((g70, g79)).1, Res.im (RG.m ((g70, g79)).1), LgB lb ((depE (Eg.mk c blk (RG.l g) dep paid burn bo lv cur m q pend mg pt) y).1.dep) (paid) (burn) (c.supc), rB_i pb ((g70, g79)).2, rW_i ((g70, g79)).2] _; rw [hb]; rw [if_pos hl] at h9; exact h9⟩) _ (.inl rfl)
theorem rI {l : List V} {i : Int} {v : V} (hv : ∀ j, hasV (l.set i.toNat v) j = true → VO (gotV (l.set i.toNat v) j)) (hs : (bals (l.set i.toNat v)).sum ≤ 18446744073709551615) (hh : hasV l i = true) :
  v.ok ∧ ∀ n : Nat, i = n → (h : n < l.length) → (l.map V.bal).sum - (l[n]).bal + v.bal ≤ 18446744073709551615 := by
 rw [xN hh] at hv hs
 have h1 : gotV (setV l i v) i = v := by rw [yV]; simp [hh]
 have h2 : hasV (setV l i v) i = true := by rw [pW]; exact hh
 have h3 := hv i h2
 have h4 := uG hv h2
 rw [h1] at h3 h4
 have := h3.b; have := h3.s; have := h3.r; have := h3.x; have := h3.w; have := h3.d
 refine ⟨⟨by omega, by omega, by omega, by omega, by omega, by omega⟩, fun n hn h => ?_⟩
 rw [vJ _ _ _ hh, hn, yT h] at hs
 exact hs
theorem ahead_le {cl : Int} {q : LL} {n : Nat} (h : q.f.length ≤ n ∧ q.v.length ≤ n) (hn : n ≤ 4096) : (aheadL cl q).length ≤ 8192 := by
 unfold aheadL; split
 ·omega
 ·split <;> simp <;> omega
theorem VO.i64 {v : V} (h : VO v) (hb : v.bal ≤ 18446744073709551615) : okP v () := ⟨by have := h.s; omega, h.b, hb⟩
theorem leave_any (eb rb cb lb bb ub mb xb b0 b1 pb gb tb : Nat) (c : C) (blk : Nat) (g : RG) (dep paid burn : Int) (bo : List En) (lv : List Int) (cur : Nat) (m : M) (q : LL) (pend : List Int) (mg : List PP) (pt : List Rq) (br : BR) (lA : Option Addr) (lc : Nat) (g0 g1 gp gg gt : Rg) (cl i : Int) (w : World) (hw : W0 [Res.blk eb 112 (ECell rb cb lb bb ub mb xb pb gb tb c lA (lv.length) lc), RgB rb g, RgW g, Res.im (RG.m g), CkB cb (blk) (c.elen.toNat), bL_ xb b0 b1, rB_i b0 g0, rW_i g0, rB_i b1 g1, rW_i g1] w) (hi : Inv (Eg.mk c blk (RG.l g) dep paid burn bo lv cur m q pend mg pt)) (hg : g.Rep) (hcp : (g.cp : Int) = c.capa) (h0 : g0.Rep 1 (q.f.map (fun v : Int => [Value.int .i64 v]))) (h1_ : g1.Rep 1 (q.v.map (fun v : Int => [Value.int .i64 v]))) (s0 : Rg.size g0 = c.qsize.toNat) (s1 : Rg.size g1 = c.qsize.toNat) (hcl : cl = 0 ∨ cl = 1) : Own2 (ι := (RG × Rg × Rg)) Tryz.prog 109 [.pointer (some ⟨eb, 0, none⟩), .int .i64 cl, .int .i64 i] w [Res.blk eb 112 (ECell rb cb lb bb ub mb xb pb gb tb c lA (lv.length) lc), RgB rb g, RgW g, Res.im (RG.m g), CkB cb (blk) (c.elen.toNat), bL_ xb b0 b1, rB_i b0 g0, rW_i g0, rB_i b1 g1, rW_i g1] (fun x => x.1.Rep ∧ x.1.l = (leaveE (Eg.mk c blk (RG.l g) dep paid burn bo lv cur m q pend mg pt) cl i).1.l ∧ x.1.cp = g.cp ∧ x.2.1.Rep 1 ((leaveE (Eg.mk c blk (RG.l g) dep paid burn bo lv cur m q pend mg pt) cl i).1.q.f.map (fun v : Int => [Value.int .i64 v])) ∧ x.2.2.Rep 1 ((leaveE (Eg.mk c blk (RG.l g) dep paid burn bo lv cur m q pend mg pt) cl i).1.q.v.map (fun v : Int => [Value.int .i64 v])) ∧ x.2.1.size = c.qsize.toNat ∧ x.2.2.size = c.qsize.toNat) (fun x => .agg (Rs.c (leaveE (Eg.mk c blk (RG.l g) dep paid burn bo lv cur m q pend mg pt) cl i).2).toArray) (fun x => []) (fun x => [Res.blk eb 112 (ECell rb cb lb bb ub mb xb pb gb tb c lA (lv.length) lc), RgB rb x.1, RgW x.1, Res.im (RG.m x.1), CkB cb (blk) (c.elen.toNat), bL_ xb b0 b1, rB_i b0 x.2.1, rW_i x.2.1, rB_i b1 x.2.2, rW_i x.2.2]) := by
 refine g_st Tryz.func109 107 hw ?_
 have hok : Cok c := hi.cok
 have hmo : Cmo c := xD hi.cc
 have hblk : blk ≤ 1000000000 := hi.blk
 have hk : blk < 4611686018427387904 := by omega
 have hel : 1 ≤ c.elen.toNat ∧ c.elen.toNat ≤ 4611686018427387904 := by have := hok.elen; omega
 have hled : LOk c.supc dep paid burn := hi.led
 have hqf : q.f.length ≤ c.qsize.toNat ∧ q.v.length ≤ c.qsize.toNat := hi.qf
 have hsum : (bals (RG.l g)).sum = dep - paid - burn := hi.sum
 have hvo : ∀ i, hasV (RG.l g) i = true → VO (gotV (RG.l g) i) := hi.vo
 have hqs := hmo.qsize
 have hepb : 0 ≤ ((blk / c.elen.toNat : Nat) : Int) ∧ ((blk / c.elen.toNat : Nat) : Int) ≤ 1000000000 := hi.epb
 have hbs : (bals (RG.l g)).sum ≤ 18446744073709551615 := hg.mx
 refine rn [1] ?_
 refine g_op (zI rfl fun b6 => ?_)
 refine rn [0,1,2,6,4,4,5,2] ?_
 refine g_op (zL _ rfl (fun w1 hw1 ho1 => by exact xU rb g (i) w1 ho1) rfl ?_)
 refine rn [2,40,40] ?_
 refine g_op (zI rfl fun b7 => ?_)
 refine rn [33,3,0,8,1,2,48,0] ?_
 refine zC rfl (fun h1 => ?_) (fun h1 => ?_)
 ·have hb : (leaveE (Eg.mk c blk (RG.l g) dep paid burn bo lv cur m q pend mg pt) cl i) = ((Eg.mk c blk (RG.l g) dep paid burn bo lv cur m q pend mg pt), ⟨7, 0, 0⟩) := by
    unfold leaveE Eg.ep wgts bals; dsimp only; rw [if_pos (by have h9 := h1; simpa using h9)]
  refine rn [1] ?_
  refine g_op (zG rfl (fun w1 hw1 => by exact yI (7) w1) rfl ?_)
  refine rn [33,0,11,13] ?_
  exact fin1 rfl (.cellw rfl rfl) (fun w' hw' => ⟨(g, g0, g1), (by (rw [hb]; exact ⟨hg, rfl, rfl, h0, h1_, s0, s1⟩)), by rw [hb]; rfl, zA w' hw'⟩) _ (.inl rfl)
 ·have n1 : ¬ hasV (RG.l g) i = false := by have h9 := h1; simpa using h9
  have hh : hasV (RG.l g) i = true := by simpa using n1
  have hv0 := hvo i hh
  have hbl := uG hvo hh
  refine rn [12,7,8] ?_
  refine dreg [11] mixed rfl ?_
  refine rn [23,0,45,23,1,2,23,2,6,23,3,4,23,4,5] ?_
  refine dj [0, 1, 2, 6] (fun (x : Nat) => [(9, .pointer (some ⟨x, 0, none⟩)), (10, .int .i64 (accV (gotV (RG.l g) i) ((blk / c.elen.toNat : Nat) : Int)).2)]) (fun (x : Nat) => [Res.blk x 52 (V.c (accV (gotV (RG.l g) i) ((blk / c.elen.toNat : Nat) : Int)).1), Res.blk b7 52 (V.c (gotV (RG.l g) i)), Res.blk b6 128 [Value.int .i64 0, .int .i64 0, .int .i64 0], Res.blk eb 112 (ECell rb cb lb bb ub mb xb pb gb tb c lA (lv.length) lc), RgB rb g, RgW g, Res.im (RG.m g), CkB cb (blk) (c.elen.toNat), bL_ xb b0 b1, rB_i b0 g0, rW_i g0, rB_i b1 g1, rW_i g1]) ?_ ?_
  ·refine yB [5, 10] (by kernel_rfl) (by simp) zB ⟨dpick rfl (zL _ rfl (fun w1 hw1 ho1 => by exact yA cb blk c.elen.toNat w1 ho1 (by omega) hel) rfl ?_), dpick rfl (zI rfl fun b9 => ?_), trivial⟩
   ·refine yB [6, 10] (by kernel_rfl) (by simp) zB ⟨dpick rfl (zG rfl (fun w1 hw1 => sC ((gotV (RG.l g) i)) ((((blk / c.elen.toNat) : Nat) : Int)) w1 ⟨by omega, by omega⟩ (hv0.i64 (by omega))) rfl ?_), dpick rfl (zI rfl fun b9 => ?_), trivial⟩
    ·refine rn [23,7,2,23,8,40,24,9,40] ?_
     refine dop 10 rfl (zI rfl fun b9 => ?_)
     refine dop 11 rfl (zM rfl rfl rfl rfl rfl ?_)
     refine rn [24,12,3,28] ?_
     exact g_jn b9
    ·refine dop 6 rfl (zG rfl (fun w1 hw1 => sC ((gotV (RG.l g) i)) ((((blk / c.elen.toNat) : Nat) : Int)) w1 ⟨by omega, by omega⟩ (hv0.i64 (by omega))) rfl ?_)
     refine rn [23,7,2,23,8,40,24,9,40] ?_
     refine dop 11 rfl (zM rfl rfl rfl rfl rfl ?_)
     refine rn [24,12,3,28] ?_
     exact g_jn b9
   ·refine dop 5 rfl (zL _ rfl (fun w1 hw1 ho1 => by exact yA cb blk c.elen.toNat w1 ho1 (by omega) hel) rfl ?_)
    refine dop 6 rfl (zG rfl (fun w1 hw1 => sC ((gotV (RG.l g) i)) ((((blk / c.elen.toNat) : Nat) : Int)) w1 ⟨by omega, by omega⟩ (hv0.i64 (by omega))) rfl ?_)
    refine rn [23,7,2,23,8,40,24,9,40] ?_
    refine dop 11 rfl (zM rfl rfl rfl rfl rfl ?_)
    refine rn [24,12,3,28] ?_
    exact g_jn b9
  ·rintro b9
   refine rn [7,8,1,2,51,0] ?_
   refine zC rfl (fun h2 => ?_) (fun h2 => ?_)
   ·have n2 : ¬ (accV (gotV (RG.l g) i) ((blk / c.elen.toNat : Nat) : Int)).2 = 0 := by have h9 := h2; simpa using h9
    have hb : (leaveE (Eg.mk c blk (RG.l g) dep paid burn bo lv cur m q pend mg pt) cl i) = ((Eg.mk c blk (RG.l g) dep paid burn bo lv cur m q pend mg pt), ⟨(accV (gotV (RG.l g) i) ((blk / c.elen.toNat : Nat) : Int)).2, 0, 0⟩) := by
      unfold leaveE Eg.ep wgts bals; dsimp only; rw [if_neg n1, if_pos n2]
    refine rn [1,2] ?_
    refine g_op (zG rfl (fun w1 hw1 => by exact yI ((accV (gotV (RG.l g) i) (((blk / c.elen.toNat) : Nat) : Int)).2) w1) rfl ?_)
    refine rn [33,0,11,13] ?_
    exact fin1 rfl (.cellw rfl rfl) (fun w' hw' => ⟨(g, g0, g1), (by (rw [hb]; exact ⟨hg, rfl, rfl, h0, h1_, s0, s1⟩)), by rw [hb]; rfl, zA w' hw'⟩) _ (.inl rfl)
   ·have n2 : (accV (gotV (RG.l g) i) ((blk / c.elen.toNat : Nat) : Int)).2 = 0 := by have h9 := h2; simpa using h9
    have hab : U64 (accV (gotV (RG.l g) i) ((blk / c.elen.toNat : Nat) : Int)).1.bal := by
      have e9 := acc_eq (v := (gotV (RG.l g) i)) (e := ((blk / c.elen.toNat : Nat) : Int)) hepb
      rw [e9]; split
      · exact ⟨by simp [V.z], by simp [V.z]⟩
      · exact ⟨hv0.b, by simp only; omega⟩
    refine rn [12,7,8,1,2,6,4,5,2] ?_
    refine g_op (zL _ rfl (fun w1 hw1 ho1 => by exact lfree_any xb b0 b1 g0 g1 q c.qsize.toNat (cl) w1 ho1 h0 h1_ s0 s1 (by omega)) rfl ?_)
    refine rn [44,0] ?_
    refine zC rfl (fun h3 => ?_) (fun h3 => ?_)
    ·have hb : (leaveE (Eg.mk c blk (RG.l g) dep paid burn bo lv cur m q pend mg pt) cl i) = ((Eg.mk c blk (RG.l g) dep paid burn bo lv cur m q pend mg pt), ⟨6, 0, 0⟩) := by
       unfold leaveE Eg.ep wgts bals; dsimp only; rw [if_neg n1, if_neg (fun h => h n2), if_pos (by have h9 := h3; simpa using h9)]
     refine rn [1] ?_
     refine g_op (zG rfl (fun w1 hw1 => by exact yI (6) w1) rfl ?_)
     refine rn [33,0,11,13] ?_
     exact fin1 rfl (.cellw rfl rfl) (fun w' hw' => ⟨(g, g0, g1), (by (rw [hb]; exact ⟨hg, rfl, rfl, h0, h1_, s0, s1⟩)), by rw [hb]; rfl, zA w' hw'⟩) _ (.inl rfl)
    ·have n3 : ¬ freeL c.qsize.toNat cl q = 0 := by have h9 := h3; simpa using h9
     have hal : (aheadL cl q).length ≤ 8192 := ahead_le hqf (by omega)
     have hokb : okU ((RG.l g).map V.bal) := fun y hy => by
       obtain ⟨z, hz, rfl⟩ := List.mem_map.1 hy
       exact (hg.ok z hz).bal
     have haw : U64 (addV ((aheadL cl q).map (ofW ((RG.l g).map V.bal)))) := addV_U (okU_map hokb)
     refine rn [12,7,8] ?_
     refine dreg [] mixed rfl ?_
     refine rn [23,0,2,23,1,6,23,2,4] ?_
     refine dq 3 rfl (yS (c' := [Value.pointer (some ⟨rb, 0, none⟩)]) rfl rfl rfl) ?_
     refine rn [23,5,2,23,6,6,23,7,4,23,8,5,23,9,2] ?_
     refine dop 4 rfl (zH _ rfl (fun w1 hw1 ho1 => by have h7 := uF rb g w1 ho1 hg; exact h7) rfl ?_)
     rintro ⟨A55, cap55⟩ _
     refine ii ?_
     refine dop 10 rfl (zH _ rfl (fun w1 hw1 ho1 => by have h7 := lahead_any xb b0 b1 g0 g1 q c.qsize.toNat (cl) w1 ho1 h0 h1_ s0 s1 (by omega); exact h7) rfl ?_)
     rintro ⟨A61, cap61⟩ _
     refine ii ?_
     refine dop 11 rfl (zG rfl (fun w1 hw1 => qL A55 A61 (((RG.l g).map V.bal).length) (cap55) ((aheadL (cl) q).length) (cap61) (((RG.l g).map V.bal)) ((aheadL (cl) q)) w1 (Rdb.toOld (InRow.rdb (A := A55) (els := (((RG.l g).map V.bal)).map (fun v : Int => [Value.int .u64 v])) (by first | rfl | assumption | (simp; done) | (simp_all; done) | (simp; omega) | (simp_all; omega)) (zK (c := (fun v : Int => [Value.int .u64 v])) (fun _ => rfl) _)) hw1) (Rdb.toOld (InRow.rdb (A := A61) (els := ((aheadL (cl) q)).map (fun v : Int => [Value.int .i64 v])) (by first | rfl | assumption | (simp; done) | (simp_all; done) | (simp; omega) | (simp_all; omega)) (zK (c := (fun v : Int => [Value.int .i64 v])) (fun _ => rfl) _)) hw1) hokb (by first | omega | (simp; omega) | (simp; done))) rfl ?_)
     refine rn [23,12,2,23,13,40,23,14,40,23,15,3,23,16,3,27,7,8] ?_
     refine dreg [] mixed rfl ?_
     refine rn [23,0,2,23,1,6,23,2,4,23,3,5,23,5,2,23,6,4,23,7,5,23,8,2,23,9,6,23,10,4] ?_
     refine dq 11 rfl (yS (c' := C.c c) rfl rfl rfl) ?_
     refine dop 4 rfl (zL _ rfl (fun w1 hw1 ho1 => by exact yA cb blk c.elen.toNat w1 ho1 (by omega) hel) rfl ?_)
     refine dop 12 rfl (zG rfl (fun w1 hw1 => pay_any ((((blk / c.elen.toNat) : Nat) : Int)) ((addV (((aheadL (cl) q)).map (ofW ((RG.l g).map V.bal))))) (((accV (gotV (RG.l g) i) (((blk / c.elen.toNat) : Nat) : Int)).1).bal) (c) w1 haw hab hok ⟨by omega, by omega⟩) rfl ?_)
     refine rn [23,13,2,23,14,40,23,15,40,23,16,3,23,17,3,27,7,8,1,2,48,2] ?_
     refine zV 83 rfl (fun h4 => ?_) (fun h4 => ?_)
     ·have hb : (leaveE (Eg.mk c blk (RG.l g) dep paid burn bo lv cur m q pend mg pt) cl i) = ((Eg.mk c blk (RG.l g) dep paid burn bo lv cur m q pend mg pt), ⟨10, 0, 0⟩) := by
        unfold leaveE Eg.ep wgts bals; dsimp only; rw [if_neg n1, if_neg (fun h => h n2), if_neg n3, if_pos (.inl (by have h9 := h4; simpa using h9))]
      refine rn [21,21,41,0,19,1] ?_
      refine g_op (zG rfl (fun w1 hw1 => by exact yI (10) w1) rfl ?_)
      refine rn [33,0,11,13] ?_
      exact fin1 rfl (.cellw rfl rfl) (fun w' hw' => ⟨(g, g0, g1), (by (rw [hb]; exact ⟨hg, rfl, rfl, h0, h1_, s0, s1⟩)), by rw [hb]; rfl, zA w' hw'⟩) _ (.inl rfl)
     ·have n4 : addB ((aheadL cl q).map (ofW ((RG.l g).map V.bal))) = true := by have h9 := h4; simpa using h9
      refine rn [22,2,22,48,42,0] ?_
      refine zC rfl (fun h5 => ?_) (fun h5 => ?_)
      ·have hb : (leaveE (Eg.mk c blk (RG.l g) dep paid burn bo lv cur m q pend mg pt) cl i) = ((Eg.mk c blk (RG.l g) dep paid burn bo lv cur m q pend mg pt), ⟨10, 0, 0⟩) := by
         unfold leaveE Eg.ep wgts bals; dsimp only; rw [if_neg n1, if_neg (fun h => h n2), if_neg n3, if_pos (.inr (by have h9 := h5; simpa using h9))]
       refine rn [1] ?_
       refine g_op (zG rfl (fun w1 hw1 => by exact yI (10) w1) rfl ?_)
       refine rn [33,0,11,13] ?_
       exact fin1 rfl (.cellw rfl rfl) (fun w' hw' => ⟨(g, g0, g1), (by (rw [hb]; exact ⟨hg, rfl, rfl, h0, h1_, s0, s1⟩)), by rw [hb]; rfl, zA w' hw'⟩) _ (.inl rfl)
      ·have n5 : (bdsB ((blk / c.elen.toNat : Nat) : Int) (addV ((aheadL cl q).map (ofW ((RG.l g).map V.bal)))) (accV (gotV (RG.l g) i) ((blk / c.elen.toNat : Nat) : Int)).1.bal c [c.unb, sweepV c]) = true := by have h9 := h5; simpa using h9
       have hb : (leaveE (Eg.mk c blk (RG.l g) dep paid burn bo lv cur m q pend mg pt) cl i) = ((Eg.mk c blk ((RG.l g).set i.toNat (V.mk (accV (gotV (RG.l g) i) ((blk / c.elen.toNat : Nat) : Int)).1.bal (accV (gotV (RG.l g) i) ((blk / c.elen.toNat : Nat) : Int)).1.st (accV (gotV (RG.l g) i) ((blk / c.elen.toNat : Nat) : Int)).1.sl (accV (gotV (RG.l g) i) ((blk / c.elen.toNat : Nat) : Int)).1.rq (accV (gotV (RG.l g) i) ((blk / c.elen.toNat : Nat) : Int)).1.ex (accV (gotV (RG.l g) i) ((blk / c.elen.toNat : Nat) : Int)).1.wd (bdsV ((blk / c.elen.toNat : Nat) : Int) (addV ((aheadL cl q).map (ofW ((RG.l g).map V.bal)))) (accV (gotV (RG.l g) i) ((blk / c.elen.toNat : Nat) : Int)).1.bal c [c.unb, sweepV c]))) dep paid burn bo lv cur m (pushL c.qsize.toNat cl i q) pend mg pt), ⟨0, i, (bdsV ((blk / c.elen.toNat : Nat) : Int) (addV ((aheadL cl q).map (ofW ((RG.l g).map V.bal)))) (accV (gotV (RG.l g) i) ((blk / c.elen.toNat : Nat) : Int)).1.bal c [c.unb, sweepV c])⟩) := by
         unfold leaveE Eg.ep wgts bals; dsimp only; rw [if_neg n1, if_neg (fun h => h n2), if_neg n3, if_neg (by rw [n4, n5]; simp)]
       have hiN : Inv (Eg.mk c blk ((RG.l g).set i.toNat (V.mk (accV (gotV (RG.l g) i) ((blk / c.elen.toNat : Nat) : Int)).1.bal (accV (gotV (RG.l g) i) ((blk / c.elen.toNat : Nat) : Int)).1.st (accV (gotV (RG.l g) i) ((blk / c.elen.toNat : Nat) : Int)).1.sl (accV (gotV (RG.l g) i) ((blk / c.elen.toNat : Nat) : Int)).1.rq (accV (gotV (RG.l g) i) ((blk / c.elen.toNat : Nat) : Int)).1.ex (accV (gotV (RG.l g) i) ((blk / c.elen.toNat : Nat) : Int)).1.wd (bdsV ((blk / c.elen.toNat : Nat) : Int) (addV ((aheadL cl q).map (ofW ((RG.l g).map V.bal)))) (accV (gotV (RG.l g) i) ((blk / c.elen.toNat : Nat) : Int)).1.bal c [c.unb, sweepV c]))) dep paid burn bo lv cur m (pushL c.qsize.toNat cl i q) pend mg pt) := by have h9 := tX hi hcl (i := i); rw [hb] at h9; exact h9
       have hchg := rI (v := (V.mk (accV (gotV (RG.l g) i) ((blk / c.elen.toNat : Nat) : Int)).1.bal (accV (gotV (RG.l g) i) ((blk / c.elen.toNat : Nat) : Int)).1.st (accV (gotV (RG.l g) i) ((blk / c.elen.toNat : Nat) : Int)).1.sl (accV (gotV (RG.l g) i) ((blk / c.elen.toNat : Nat) : Int)).1.rq (accV (gotV (RG.l g) i) ((blk / c.elen.toNat : Nat) : Int)).1.ex (accV (gotV (RG.l g) i) ((blk / c.elen.toNat : Nat) : Int)).1.wd (bdsV ((blk / c.elen.toNat : Nat) : Int) (addV ((aheadL cl q).map (ofW ((RG.l g).map V.bal)))) (accV (gotV (RG.l g) i) ((blk / c.elen.toNat : Nat) : Int)).1.bal c [c.unb, sweepV c]))) hiN.vo (by have h9 := hiN.sum; have h8 := hiN.led; obtain ⟨e1, e2, e3, e4, e5, e6⟩ := h8; simp only at h9 e1 e2 e3 e4; omega) hh
       refine rn [12,7,1,2,4] ?_
       refine g_op (zP rfl rfl rfl rfl rfl rfl rfl ?_)
       refine zJ (b := b9) (V.c (V.mk (accV (gotV (RG.l g) i) ((blk / c.elen.toNat : Nat) : Int)).1.bal (accV (gotV (RG.l g) i) ((blk / c.elen.toNat : Nat) : Int)).1.st (accV (gotV (RG.l g) i) ((blk / c.elen.toNat : Nat) : Int)).1.sl (accV (gotV (RG.l g) i) ((blk / c.elen.toNat : Nat) : Int)).1.rq (accV (gotV (RG.l g) i) ((blk / c.elen.toNat : Nat) : Int)).1.ex (accV (gotV (RG.l g) i) ((blk / c.elen.toNat : Nat) : Int)).1.wd (bdsV ((blk / c.elen.toNat : Nat) : Int) (addV ((aheadL cl q).map (ofW ((RG.l g).map V.bal)))) (accV (gotV (RG.l g) i) ((blk / c.elen.toNat : Nat) : Int)).1.bal c [c.unb, sweepV c]))) (by simp [splice, V.c]) ?_
       refine rn [0,8] ?_
       refine dregL (L0 := [Res.blk eb 112 (ECell rb cb lb bb ub mb xb pb gb tb c lA (lv.length) lc), Res.blk b9 52 (V.c (V.mk (accV (gotV (RG.l g) i) ((blk / c.elen.toNat : Nat) : Int)).1.bal (accV (gotV (RG.l g) i) ((blk / c.elen.toNat : Nat) : Int)).1.st (accV (gotV (RG.l g) i) ((blk / c.elen.toNat : Nat) : Int)).1.sl (accV (gotV (RG.l g) i) ((blk / c.elen.toNat : Nat) : Int)).1.rq (accV (gotV (RG.l g) i) ((blk / c.elen.toNat : Nat) : Int)).1.ex (accV (gotV (RG.l g) i) ((blk / c.elen.toNat : Nat) : Int)).1.wd (bdsV ((blk / c.elen.toNat : Nat) : Int) (addV ((aheadL cl q).map (ofW ((RG.l g).map V.bal)))) (accV (gotV (RG.l g) i) ((blk / c.elen.toNat : Nat) : Int)).1.bal c [c.unb, sweepV c])))]) [] mixed rfl zB ?_
       refine rn [23,0,2,23,1,6,23,2,4] ?_
       refine dq 3 rfl (yS (c' := [Value.pointer (some ⟨rb, 0, none⟩)]) rfl rfl rfl) ?_
       refine rn [23,4,2,23,5,45] ?_
       refine dop 6 rfl (zH _ rfl (fun w1 hw1 ho1 => by have h7 := xB rb g (i) ((V.mk (accV (gotV (RG.l g) i) ((blk / c.elen.toNat : Nat) : Int)).1.bal (accV (gotV (RG.l g) i) ((blk / c.elen.toNat : Nat) : Int)).1.st (accV (gotV (RG.l g) i) ((blk / c.elen.toNat : Nat) : Int)).1.sl (accV (gotV (RG.l g) i) ((blk / c.elen.toNat : Nat) : Int)).1.rq (accV (gotV (RG.l g) i) ((blk / c.elen.toNat : Nat) : Int)).1.ex (accV (gotV (RG.l g) i) ((blk / c.elen.toNat : Nat) : Int)).1.wd (bdsV ((blk / c.elen.toNat : Nat) : Int) (addV ((aheadL cl q).map (ofW ((RG.l g).map V.bal)))) (accV (gotV (RG.l g) i) ((blk / c.elen.toNat : Nat) : Int)).1.bal c [c.unb, sweepV c]))) w1 ho1 hg hchg.1 hchg.2; exact h7) rfl ?_)
       rintro g96 ⟨r96, l96, c96⟩
       refine ii ?_
       refine rn [27,7,1,2,6,4,5,2,2] ?_
       refine g_op (zH _ rfl (fun w1 hw1 ho1 => by have h7 := rC xb b0 b1 g0 g1 q c.qsize.toNat (cl) (i) w1 ho1 h0 h1_ s0 s1 (by omega); exact h7) rfl ?_)
       rintro ⟨g103, gg103⟩ ⟨r103, rr103, s103, ss103⟩
       refine ii ?_
       simp only at r103 rr103 s103 ss103
       refine rn [0,1,2,2] ?_
       refine g_op (zG rfl (fun w1 hw1 => by exact xK (i) ((bdsV ((blk / c.elen.toNat : Nat) : Int) (addV ((aheadL cl q).map (ofW ((RG.l g).map V.bal)))) (accV (gotV (RG.l g) i) ((blk / c.elen.toNat : Nat) : Int)).1.bal c [c.unb, sweepV c])) w1) rfl ?_)
       refine rn [33,0,11] ?_
       exact fin1 rfl (.cellw rfl rfl) (fun w' hw' => ⟨(g96, g103, gg103), (by (rw [hb]; exact ⟨r96, by rw [l96, xN hh], c96, r103, rr103, s103, ss103⟩)), by rw [hb]; rfl, zA w' hw'⟩) _ (.inl rfl)
end Go.Proofs.YtdddiilocbbkkaaGreat
