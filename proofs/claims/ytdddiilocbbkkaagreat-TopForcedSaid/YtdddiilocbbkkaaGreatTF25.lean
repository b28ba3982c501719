/- TopForced: for every configuration and all operations the law returns true. No condition. Part 25 of 42. -/
import Derived.Test.YtdddiilocbbkkaaGreatTF24
set_option linter.unusedVariables false
set_option linter.unusedSimpArgs false
namespace Go.Proofs.YtdddiilocbbkkaaGreat
open Go.RowKit Go.Eg
set_option maxHeartbeats 4000000
set_option synthInstance.maxSize 3000
set_option maxRecDepth 100000
structure Cmo (c : C) : Prop where
 qsize : 1 ≤ c.qsize ∧ c.qsize ≤ 4096
 mind : 1 ≤ c.mind ∧ c.mind ≤ c.maxd
 maxd : c.maxd ≤ c.supc ∧ c.supc ≤ 1152921504606846976
 minb : 1 ≤ c.minb ∧ c.minb ≤ c.mind
 maxb : c.maxd ≤ c.maxb ∧ c.maxb ≤ c.supc
 quot : 1 ≤ c.quot
 rlen : 1 ≤ c.rlen ∧ c.rlen ≤ 4096
 merg : 0 ≤ c.merg ∧ c.merg ≤ 4096
 pnum : c.pnum ≤ c.pden
 pden : 1 ≤ c.pden ∧ c.pden ≤ 4294967296
theorem xD {c : C} (h : chk c = 0) : Cmo c := by
 have h2 := zU h 2 (by omega) (by omega)
 have h3 := zU h 3 (by omega) (by omega)
 have h4 := zU h 4 (by omega) (by omega)
 have h5 := zU h 5 (by omega) (by omega)
 have h6 := zU h 6 (by omega) (by omega)
 have h7 := zU h 7 (by omega) (by omega)
 have h9 := zU h 9 (by omega) (by omega)
 have h13 := zU h 13 (by omega) (by omega)
 have h18 := zU h 18 (by omega) (by omega)
 have h19 := zU h 19 (by omega) (by omega)
 have h20 := zU h 20 (by omega) (by omega)
 simp [rightB, btw] at h2 h3 h4 h5 h6 h7 h9 h13 h18 h19 h20
 exact ⟨h2, ⟨h3, h4⟩, h5, h6, h7, h9, h13, h18, h19, h20⟩
structure Inv (s : Eg) : Prop where
 cc : chk s.c = 0
 ck : s.c.ok
 blk : s.blk ≤ 1000000000
 cap : (s.l.length : Int) ≤ s.c.capa
 vo : ∀ i, hasV s.l i = true → VO (gotV s.l i)
 sum : (bals s.l).sum = s.dep - s.paid - s.burn
 led : LOk s.c.supc s.dep s.paid s.burn
 qf : s.q.f.length ≤ s.c.qsize.toNat ∧ s.q.v.length ≤ s.c.qsize.toNat
 pe : s.pend.length ≤ s.c.qsize.toNat
 mg : s.mg.length ≤ s.c.qsize.toNat
 pt : s.pt.length ≤ s.c.qsize.toNat
 pm : ∀ r ∈ s.pt, 0 ≤ r.m
 cur : s.cur ≤ 4096
 m : s.m.ok
 e : InvE s.ep s.l s.q s.bo s.lv
theorem Inv.cok {s : Eg} (h : Inv s) : Cok s.c := chk_ok h.cc h.ck
theorem ep_nn (s : Eg) : 0 ≤ s.ep := Int.natCast_nonneg _
theorem ep_le (s : Eg) : s.ep ≤ s.blk := by
 have h := Nat.div_le_self s.blk s.c.elen.toNat
 unfold Eg.ep
 generalize s.blk / s.c.elen.toNat = q at h ⊢
 omega
theorem Inv.epb {s : Eg} (h : Inv s) : 0 ≤ s.ep ∧ s.ep ≤ 1000000000 := by have := ep_nn s; have := ep_le s; have := h.blk; omega
theorem lat1 {e : Int} (h : 0 ≤ e ∧ e ≤ 1000000000) : latB [e] = true := by
 unfold latB; refine decide_eq_true ⟨fun x hx => ?_, by simp; omega⟩
 simp at hx; omega
theorem lat2 {e d : Int} (h : 0 ≤ e ∧ e ≤ 1000000000) (hd : 0 ≤ d ∧ d ≤ 1048576) : latB [e, d] = true ∧ latV [e, d] = e + d := by
 have hb : latB [e, d] = true := by
  unfold latB; refine decide_eq_true ⟨fun x hx => ?_, by simp; omega⟩
  simp at hx; omega
 exact ⟨hb, by unfold latV; rw [if_pos hb]; simp⟩
theorem latV_bd (l : List Int) : 0 ≤ latV l ∧ latV l ≤ 1099511627776 := by
 unfold latV
 split
 ·rename_i h
  have h := of_decide_eq_true h
  exact ⟨xK h.1, h.2⟩
 ·omega
theorem bds_rng (e a b : Int) (c : C) (l : List Int) : 0 ≤ bdsV e a b c l ∧ bdsV e a b c l ≤ 1099511627776 := by
 unfold bdsV
 split
 ·exact latV_bd _
 ·omega
theorem VO.z_wd (l : List V) (hv : ∀ i, hasV l i = true → VO (gotV l i)) (j : Int) : (gotV l j).wd ≤ 1099511627776 := by
 rcases Bool.eq_false_or_eq_true (hasV l j) with h | h
 ·exact (hv j h).w.2
 ·rw [got_out h]; simp [V.z]
theorem vo_setV {l : List V} {i : Int} {v : V} (hv : ∀ i, hasV l i = true → VO (gotV l i)) (h : VO v) : ∀ j, hasV (setV l i v) j = true → VO (gotV (setV l i v) j) := fun j hj => by
 rw [has_setV] at hj
 rw [yZ]
 split
 ·exact h
 ·exact hv j hj
theorem xU {l : List V} {i : Int} (h : hasV l i = true) (v : V) : l.set i.toNat v = setV l i v := by unfold setV; rw [if_pos h]
theorem nodup_push {f v : List Int} {i : Int} (h : (f ++ v).Nodup) (hi : i ∉ f ++ v) : (f ++ [i] ++ v).Nodup ∧ (f ++ (v ++ [i])).Nodup := by
 have h1 : (i :: (f ++ v)).Nodup := List.nodup_cons.2 ⟨hi, h⟩
 constructor
 ·refine List.Perm.nodup_iff ?_ |>.1 h1
  rw [List.append_assoc]
  exact List.perm_middle.symm
 ·refine List.Perm.nodup_iff ?_ |>.1 h1
  rw [← List.append_assoc]
  exact (List.perm_append_comm (l₁ := [i]) (l₂ := f ++ v))
theorem push_cls {sz : Nat} {cl i : Int} {q : LL} (hc : cl = 0 ∨ cl = 1) (hf : freeL sz cl q ≠ 0) : pushL sz cl i q = if cl = 0 then ⟨q.f ++ [i], q.v⟩ else ⟨q.f, q.v ++ [i]⟩ := by
 unfold pushL; unfold freeL at hf
 rcases hc with rfl | rfl
 ·simp only [if_true] at hf ⊢
  rw [if_pos (by omega)]
 ·simp only [show ¬ ((1 : Int) = 0) from by decide, if_false, if_true] at hf ⊢
  rw [if_pos (by omega)]
theorem InvE.push {ep : Int} {l : List V} {q : LL} {bo : List En} {lv : List Int} (h : InvE ep l q bo lv) {i : Int} {v : V} (hi : (gotV l i).st = 2) (hv : v.st = 3) (hx : v.ex = (gotV l i).ex) {sz : Nat} {cl : Int} (hc : cl = 0 ∨ cl = 1) (hf : freeL sz cl q ≠ 0) :
  InvE ep (setV l i v) (pushL sz cl i q) bo lv := by
 have hh : hasV l i = true := yW (by omega)
 have hx1 : v.ex = -1 := hx.trans (h.nex i (.inr hi))
 have g : ∀ j, gotV (setV l i v) j = if j = i then v else gotV l j := fun j => by rw [yZ]; simp [hh]
 have gn : ∀ j, j ≠ i → gotV (setV l i v) j = gotV l j := fun j hj => by rw [g j, if_neg hj]
 have gi : gotV (setV l i v) i = v := by rw [g i, if_pos rfl]
 have hnq : i ∉ q.f ++ q.v := fun hc => by have := ((h.lan i).1 hc).1; omega
 have hmem : ∀ j, j ∈ (pushL sz cl i q).f ++ (pushL sz cl i q).v ↔ j = i ∨ j ∈ q.f ++ q.v := fun j => by
  rw [push_cls hc hf]
  split <;> simp [List.mem_append] <;> (constructor <;> intro hq <;> rcases hq with hq | hq | hq <;> simp [hq])
 refine ⟨?_, fun j => ?_, h.vnd, fun j => ?_, fun j hj => ?_, h.bnd, fun j => ?_, fun x hx => ?_, fun j hj => ?_, fun j hj => ?_⟩
 ·rw [push_cls hc hf]
  split
  ·exact (nodup_push h.lnd hnq).1
  ·exact (nodup_push h.lnd hnq).2
 ·rw [hmem j]
  by_cases hj : j = i
  ·subst hj; rw [gi]; simp [hv, hx1]
  ·rw [gn j hj, ← h.lan j]; simp [hj]
 ·by_cases hj : j = i
  ·subst hj; rw [gi]
   constructor
   ·intro hc; have := ((h.lvs j).1 hc).1; omega
   ·intro hc; exact absurd hx1 hc.2
  ·rw [gn j hj]; exact h.lvs j
 ·rw [gn j (fun hc => by subst hc; have := ((h.lvs j).1 hj).1; omega)]; exact h.lex j hj
 ·by_cases hj : j = i
  ·subst hj; rw [gi]
   constructor
   ·intro hc; have := (h.bon j).1 hc; omega
   ·intro hc; rcases hc with hc | hc
    ·omega
    ·exact absurd hx1 hc.2
  ·rw [gn j hj]; exact h.bon j
 ·rw [gn x.i (fun hc => by have := (h.bon x.i).1 (List.mem_map.2 ⟨x, hx, rfl⟩); rw [hc] at this; omega)]; exact h.bep x hx
 ·by_cases hj2 : j = i
  ·subst hj2; rw [gi] at hj; omega
  ·rw [gn j hj2] at hj ⊢; exact h.nex j hj
 ·by_cases hj2 : j = i
  ·subst hj2; rw [gi] at hj; omega
  ·rw [gn j hj2] at hj ⊢; exact h.rdy j hj
theorem InvE.sl34 {ep : Int} {l : List V} {q : LL} {bo : List En} {lv : List Int} (h : InvE ep l q bo lv) {i : Int} {v : V} (hi : (gotV l i).st = 3 ∨ (gotV l i).st = 4) (hv : v.st = (gotV l i).st) (hx : v.ex = (gotV l i).ex) (hw : (gotV l i).wd ≤ v.wd) :
  InvE ep (setV l i v) q bo lv := by
 have hh : hasV l i = true := yW (by omega)
 have g : ∀ j, (gotV (setV l i v) j).st = (gotV l j).st ∧ (gotV (setV l i v) j).ex = (gotV l j).ex ∧ (gotV l j).wd ≤ (gotV (setV l i v) j).wd := fun j => by
  rw [yZ]
  split
  ·rename_i e; rw [e.2]; exact ⟨hv, hx, hw⟩
  ·exact ⟨rfl, rfl, Int.le_refl _⟩
 have gn : ∀ j, (gotV l j).st ≠ 3 → (gotV l j).st ≠ 4 → gotV (setV l i v) j = gotV l j := fun j h1 h2 => by
  rw [yZ, if_neg]
  rintro ⟨_, rfl⟩; omega
 refine ⟨h.lnd, fun j => ?_, h.vnd, fun j => ?_, fun j hj => ?_, h.bnd, fun j => ?_, fun x hx => ?_, fun j hj => ?_, fun j hj => ?_⟩
 ·rw [(g j).1, (g j).2.1]; exact h.lan j
 ·rw [(g j).1, (g j).2.1]; exact h.lvs j
 ·rw [(g j).2.1]; exact h.lex j hj
 ·rw [(g j).1, (g j).2.1]; exact h.bon j
 ·have := h.bep x hx; have := (g x.i).2.2
  rw [(g x.i).1]
  exact ⟨by omega, by omega, by omega⟩
 ·rw [(g j).1] at hj; rw [(g j).2.1]; exact h.nex j hj
 ·rw [(g j).1] at hj; rw [gn j (by omega) (by omega)]; exact h.rdy j hj
theorem InvE.sl5 {ep : Int} {l : List V} {q : LL} {bo : List En} {lv : List Int} (h : InvE ep l q bo lv) {i : Int} {v : V} (hi : (gotV l i).st = 5) (hv : v.st = 4) (hw : ep + 1 ≤ v.wd) :
  InvE ep (setV l i v) q (bo ++ [⟨v.wd, i⟩]) lv := by
 have hh : hasV l i = true := yW (by omega)
 have g : ∀ j, gotV (setV l i v) j = if j = i then v else gotV l j := fun j => by rw [yZ]; simp [hh]
 have gn : ∀ j, j ≠ i → gotV (setV l i v) j = gotV l j := fun j hj => by rw [g j, if_neg hj]
 have gi : gotV (setV l i v) i = v := by rw [g i, if_pos rfl]
 have nb : i ∉ bo.map En.i := fun hc => by have := (h.bon i).1 hc; omega
 refine ⟨h.lnd, fun j => ?_, h.vnd, fun j => ?_, fun j hj => ?_, ?_, fun j => ?_, fun x hx => ?_, fun j hj => ?_, fun j hj => ?_⟩
 ·by_cases hj : j = i
  ·subst hj; rw [gi, h.lan j]; omega
  ·rw [gn j hj]; exact h.lan j
 ·by_cases hj : j = i
  ·subst hj; rw [gi, h.lvs j]; omega
  ·rw [gn j hj]; exact h.lvs j
 ·rw [gn j (fun hc => by subst hc; have := ((h.lvs j).1 hj).1; omega)]; exact h.lex j hj
 ·rw [List.map_append]
  refine List.nodup_append.2 ⟨h.bnd, by simp, fun a ha b hb hab => ?_⟩
  simp at hb; subst hb; subst hab; exact nb ha
 ·rw [List.map_append, List.mem_append, h.bon j]
  by_cases hj : j = i
  ·subst hj; rw [gi]; simp [hv]
  ·rw [gn j hj]; simp [hj]
 ·rcases List.mem_append.1 hx with hx | hx
  ·have h1 : x.i ≠ i := fun hc => nb (by rw [← hc]; exact List.mem_map.2 ⟨x, hx, rfl⟩)
   rw [gn x.i h1]; exact h.bep x hx
  ·simp only [List.mem_cons, List.not_mem_nil, or_false] at hx
   subst hx
   simp only [gi]
   exact ⟨hw, Int.le_refl _, fun hc => by omega⟩
 ·by_cases hj2 : j = i
  ·subst hj2; rw [gi] at hj; omega
  ·rw [gn j hj2] at hj ⊢; exact h.nex j hj
 ·by_cases hj2 : j = i
  ·subst hj2; rw [gi] at hj; omega
  ·rw [gn j hj2] at hj ⊢; exact h.rdy j hj
theorem InvE.ep_eq {ep ep' : Int} {l : List V} {q : LL} {bo : List En} {lv : List Int} (h : InvE ep l q bo lv) (e : ep = ep') : InvE ep' l q bo lv := e ▸ h
theorem bals_app (l : List V) (v : V) : (bals (l ++ [v])).sum = (bals l).sum + v.bal := by simp [bals]
theorem depE_inv {s : Eg} (h : Inv s) {o : Op} (ho : 0 ≤ o.a ∧ o.a ≤ 18446744073709551615) : Inv (depE s o).1 := by
 unfold depE
 split
 ·exact h
 split
 ·exact h
 split
 ·exact h
 split
 ·exact h
 rename_i h1 h2 h3 h4
 have hl : ledC s.c.supc s.dep s.paid s.burn o.a = 0 := Classical.byContradiction h4
 unfold ledC at hl
 have hled := h.led
 obtain ⟨l1, l2, l3, l4, l5, l6⟩ := hled
 split at hl
 ·omega
 split at hl
 ·omega
 rename_i h5 h6
 refine ⟨h.cc, h.ck, h.blk, ?_, fun i hi => ?_, ?_, ⟨l1, l2, by show s.paid + s.burn ≤ s.dep + o.a; omega, by show s.dep + o.a ≤ _; omega, by show s.dep + o.a - s.paid - s.burn ≤ s.c.supc; omega, l6⟩, h.qf, ?_, h.mg, h.pt, h.pm, h.cur, h.m, h.e.sm (Sm.app rfl rfl)⟩
 ·show (((s.l ++ _).length : Nat) : Int) ≤ _
  simp only [List.length_append, List.length_singleton]; omega
 ·show VO (gotV (s.l ++ _) i)
  rw [got_app]
  split
  ·exact ⟨ho.1, by simp, by simp, by simp, by simp, by simp⟩
  ·rename_i hne
   refine h.vo i ?_
   have hi : hasV (s.l ++ [_]) i = true := hi
   unfold hasV at hi ⊢
   have hi := of_decide_eq_true hi
   simp at hi
   exact decide_eq_true (by omega)
 ·show (bals (s.l ++ [_])).sum = s.dep + o.a - s.paid - s.burn
  rw [bals_app, h.sum]; simp only; omega
 ·show (s.pend ++ [_]).length ≤ _
  simp only [List.length_append, List.length_singleton]; omega
theorem acc_eq {v : V} {e : Int} (he : 0 ≤ e ∧ e ≤ 1000000000) : accV v e = if nxt v.st 2 = 0 then (V.z, 8) else ({ v with rq := e, st := nxt v.st 2 }, 0) := by
 unfold accV; rw [if_neg (by rw [lat1 he]; simp)]
theorem nxt2 {s : Int} (h : nxt s 2 ≠ 0) : s = 2 ∧ nxt s 2 = 3 := by
 rw [nxt_self (by omega)] at h ⊢
 by_cases hs : s = 2
 ·rw [if_pos hs]; exact ⟨hs, rfl⟩
 ·rw [if_neg hs] at h; exact absurd rfl h
theorem leaveE_inv {s : Eg} (h : Inv s) {cl i : Int} (hc : cl = 0 ∨ cl = 1) : Inv (leaveE s cl i).1 := by
 unfold leaveE
 split
 ·exact h
 split
 ·exact h
 split
 ·exact h
 split
 ·exact h
 rename_i h1 h2 h3 h4
 have hh : hasV s.l i = true := by simpa using h1
 have he := h.epb
 have ha : (accV (gotV s.l i) s.ep).2 = 0 := Classical.byContradiction h2
 rw [acc_eq he] at ha
 have hn : nxt (gotV s.l i).st 2 ≠ 0 := fun hc => by rw [if_pos hc] at ha; simp at ha
 obtain ⟨h5, h6⟩ := nxt2 hn
 have hv : (accV (gotV s.l i) s.ep).1 = { gotV s.l i with rq := s.ep, st := 3 } := by rw [acc_eq he, if_neg hn, h6]
 have hb := bds_rng s.ep (addV (wgts s.l (aheadL cl s.q))) (accV (gotV s.l i) s.ep).1.bal s.c [s.c.unb, sweepV s.c]
 have hvo := h.vo i hh
 simp only [xU hh]
 generalize bdsV s.ep (addV (wgts s.l (aheadL cl s.q))) (accV (gotV s.l i) s.ep).1.bal s.c [s.c.unb, sweepV s.c] = d at hb ⊢
 rw [hv]
 have hq := pushL_len (sz := s.c.qsize.toNat) cl i h.qf
 refine ⟨h.cc, h.ck, h.blk, by show ((setV _ _ _).length : Int) ≤ _; rw [len_setV]; exact h.cap, vo_setV h.vo ⟨hvo.b, by simp, by simp only; omega, hvo.x, hvo.w, by simp only; omega⟩, ?_, h.led, hq, h.pe, h.mg, h.pt, h.pm, h.cur, h.m, ?_⟩
 ·show (bals (setV _ _ _)).sum = _
  exact (congrArg List.sum (bals_setV (by rfl))).trans h.sum
 ·exact h.e.push h5 (by rfl) (by rfl) hc h3
theorem burn_bd {b : Int} {c : C} (h0 : 0 ≤ b) (hn : 0 ≤ c.pnum) (hd : 1 ≤ c.pden) : 0 ≤ burnV b c ∧ burnV b c ≤ b := by
 unfold burnV
 split
 ·omega
 ·rename_i h
  constructor
  ·exact Int.ediv_nonneg (Int.mul_nonneg h0 hn) (by omega)
  ·have : b * c.pnum ≤ b * c.pden := Int.mul_le_mul_of_nonneg_left (by omega) h0
   have h9 := Int.ediv_le_ediv (a := b * c.pnum) (b := b * c.pden) (c := c.pden) (by omega) this
   rwa [Int.mul_ediv_cancel _ (by omega)] at h9
theorem nxt7 {s : Int} (h : nxt s 7 ≠ 0) : (s = 2 ∨ s = 3 ∨ s = 4 ∨ s = 5) ∧ nxt s 7 = if s = 2 ∨ s = 3 then 3 else 4 := by
 unfold nxt at h ⊢
 rw [if_pos rfl] at h ⊢
 by_cases h1 : s = 2 ∨ s = 3
 ·rw [if_pos h1, if_pos h1]; exact ⟨by omega, rfl⟩
 ·rw [if_neg h1] at h ⊢
  rw [if_neg h1]
  by_cases h2 : s = 4 ∨ s = 5
  ·rw [if_pos h2]; exact ⟨by omega, rfl⟩
  ·rw [if_neg h2] at h; exact absurd rfl h
theorem sla_eq {v : V} {e : Int} {c : C} (he : 0 ≤ e ∧ e ≤ 1000000000) (hc : 0 ≤ c.sld ∧ c.sld ≤ 1048576) (h0 : 0 ≤ v.bal) (hm : v.bal ≤ 18446744073709551615) (hn : 0 ≤ c.pnum) (hd : 1 ≤ c.pden) :
  slaV v e c = if v.sl = true then (V.z, 0, 9) else if nxt v.st 7 = 0 then (V.z, 0, 8) else ({ v with bal := v.bal - burnV v.bal c, st := nxt v.st 7, sl := true, rq := if v.st = 2 then e else v.rq, wd := max v.wd (e + c.sld), dl := -1 }, burnV v.bal c, 0) := by
 obtain ⟨h1, h2⟩ := lat2 he hc
 have hb := burn_bd h0 hn hd
 unfold slaV
 rw [h2, if_neg (show ¬ (latB [e, c.sld] = false) by rw [h1]; simp), IntKind.wrap_u64, Int.emod_eq_of_lt (by omega) (by omega)]
theorem slashE_inv {s : Eg} (h : Inv s) {i : Int} : Inv (slashE s i).1 := by
 have hk := h.cok
 have he := h.epb
 have hck := h.ck
 unfold slashE
 split
 ·exact h
 rename_i h1
 have hh : hasV s.l i = true := by simpa using h1
 have hvo := h.vo i hh
 have hbl := bal_le h.vo hh
 have hsum := h.sum
 obtain ⟨l1, l2, l3, l4, l5, l6⟩ := h.led
 have hpn : 0 ≤ s.c.pnum := hck.pnum.1
 have hpd : 1 ≤ s.c.pden := (xD h.cc).pden.1
 have hsl : 0 ≤ s.c.sld ∧ s.c.sld ≤ 1048576 := by have := hk.sld; have := hk.unb; omega
 have heq := sla_eq (v := gotV s.l i) (c := s.c) he hsl hvo.b (by omega) hpn hpd
 have hbd := burn_bd (c := s.c) hvo.b hpn hpd
 simp only
 split
 ·exact h
 split
 ·exact h
 split
 ·exact h
 rename_i h2 h3 h4
 have h4 : (slaV (gotV s.l i) s.ep s.c).2.2 = 0 := Classical.byContradiction h4
 rw [heq] at h4
 have hs : ¬ (gotV s.l i).sl = true := fun hc => by rw [if_pos hc] at h4; simp at h4
 rw [if_neg hs] at h4 heq
 have hn : nxt (gotV s.l i).st 7 ≠ 0 := fun hc => by rw [if_pos hc] at h4; simp at h4
 rw [if_neg hn] at heq
 obtain ⟨h5, h6⟩ := nxt7 hn
 have hbk : bookC s.dep s.paid s.burn (burnV (gotV s.l i).bal s.c) = 0 := by unfold bookC; rw [if_neg (by omega)]
 rw [heq]
 simp only
 rw [hbk, if_pos rfl, xU hh]
 have hvo' : VO { gotV s.l i with bal := (gotV s.l i).bal - burnV (gotV s.l i).bal s.c, st := nxt (gotV s.l i).st 7, sl := true, rq := if (gotV s.l i).st = 2 then s.ep else (gotV s.l i).rq, wd := max (gotV s.l i).wd (s.ep + s.c.sld), dl := -1 } := by
  have := hvo.w; have := hvo.r
  refine ⟨by simp only; omega, by simp only; rw [h6]; split <;> omega, by simp only; split <;> omega, hvo.x, by simp only; omega, by simp⟩
 generalize hw : ({ gotV s.l i with bal := (gotV s.l i).bal - burnV (gotV s.l i).bal s.c, st := nxt (gotV s.l i).st 7, sl := true, rq := if (gotV s.l i).st = 2 then s.ep else (gotV s.l i).rq, wd := max (gotV s.l i).wd (s.ep + s.c.sld), dl := -1 } : V) = w at hvo'
 have w1 : w.bal = (gotV s.l i).bal - burnV (gotV s.l i).bal s.c := by rw [← hw]
 have w2 : w.st = if (gotV s.l i).st = 2 ∨ (gotV s.l i).st = 3 then 3 else 4 := by rw [← hw]; exact h6
 have w3 : w.wd = max (gotV s.l i).wd (s.ep + s.c.sld) := by rw [← hw]
 have w4 : w.ex = (gotV s.l i).ex := by rw [← hw]
 have base : ∀ q bo, (q.f.length ≤ s.c.qsize.toNat ∧ q.v.length ≤ s.c.qsize.toNat) → InvE s.ep (setV s.l i w) q bo s.lv → Inv { s with l := setV s.l i w, burn := s.burn + burnV (gotV s.l i).bal s.c, q := q, bo := bo } := fun q bo hq hE =>
  ⟨h.cc, h.ck, h.blk, by show ((setV _ _ _).length : Int) ≤ _; rw [len_setV]; exact h.cap, vo_setV h.vo hvo', by show (bals (setV _ _ _)).sum = s.dep - s.paid - (s.burn + _); rw [sum_setV _ _ _ hh, w1]; omega,
   ⟨l1, by show 0 ≤ s.burn + _; omega, by show s.paid + (s.burn + burnV (gotV s.l i).bal s.c) ≤ s.dep; omega, l4, by show s.dep - s.paid - (s.burn + burnV (gotV s.l i).bal s.c) ≤ s.c.supc; omega, l6⟩, hq, h.pe, h.mg, h.pt, h.pm, h.cur, h.m, hE⟩
 by_cases c2 : (gotV s.l i).st = 2
 ·rw [if_pos c2, if_neg (show ¬ (gotV s.l i).st = 5 by omega)]
  have hf : freeL s.c.qsize.toNat 0 s.q ≠ 0 := fun hc => h3 ⟨c2, hc⟩
  exact base _ _ (pushL_len _ _ h.qf) (h.e.push c2 (by rw [w2, if_pos (.inl c2)]) w4 (.inl rfl) hf)
 ·rw [if_neg c2]
  by_cases c5 : (gotV s.l i).st = 5
  ·rw [if_pos c5, ← w3, putE_in (by have := hvo'.w; omega)]
   exact base _ _ h.qf (h.e.sl5 c5 (by rw [w2, if_neg (by omega)]) (by have := hk.sld; have := hk.unb; omega))
  ·rw [if_neg c5]
   refine base _ _ h.qf (h.e.sl34 (by omega) ?_ w4 (by omega))
   rw [w2]; split <;> omega
theorem consE_inv {s : Eg} (h : Inv s) {i t : Int} : Inv (consE s i t).1 := by
 unfold consE
 split
 ·exact h
 split
 ·exact h
 exact ⟨h.cc, h.ck, h.blk, h.cap, h.vo, h.sum, h.led, h.qf, h.pe, by show (s.mg ++ [_]).length ≤ _; simp only [List.length_append, List.length_singleton]; omega, h.pt, h.pm, h.cur, h.m, h.e⟩
theorem partE_inv {s : Eg} (h : Inv s) {i a : Int} (ha : 0 ≤ a) : Inv (partE s i a).1 := by
 unfold partE
 split
 ·exact h
 split
 ·exact h
 refine ⟨h.cc, h.ck, h.blk, h.cap, h.vo, h.sum, h.led, h.qf, h.pe, h.mg, by show (s.pt ++ [_]).length ≤ _; simp only [List.length_append, List.length_singleton]; omega, fun r hr => ?_, h.cur, h.m, h.e⟩
 rcases List.mem_append.1 hr with hr | hr
 ·exact h.pm r hr
 ·simp only [List.mem_cons, List.not_mem_nil, or_false] at hr; subst hr; exact ha
end Go.Proofs.YtdddiilocbbkkaaGreat
