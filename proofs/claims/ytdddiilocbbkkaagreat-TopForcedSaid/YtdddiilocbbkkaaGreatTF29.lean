/- TopForced: for every configuration and all operations the law returns true. No condition. Part 29 of 42. -/
import Derived.Test.YtdddiilocbbkkaaGreatTF27
set_option linter.unusedVariables false
set_option linter.unusedSimpArgs false
namespace Go.Proofs.YtdddiilocbbkkaaGreat
open Go.RowKit Go.Eg
set_option maxHeartbeats 4000000
set_option synthInstance.maxSize 3000
set_option maxRecDepth 100000
theorem nodup_sub {α : Type} [DecidableEq α] : ∀ {l l' : List α}, l.Nodup → (∀ x ∈ l, x ∈ l') → l.length ≤ l'.length
 | [], _, _, _ => Nat.zero_le _
 | a :: l, l', hn, h => by
  rw [List.nodup_cons] at hn
  have ha := h a (by simp)
  have h1 := nodup_sub (l := l) (l' := l'.erase a) hn.2 fun x hx => by
   have hxa : x ≠ a := fun hc => hn.1 (hc ▸ hx)
   exact (List.mem_erase_of_ne hxa).2 (h x (by simp [hx]))
  rw [List.length_erase_of_mem ha] at h1
  have := List.length_pos_of_mem ha
  simp only [List.length_cons]; omega
theorem has_len_le {is : List Int} {l : List V} (hn : is.Nodup) (h : ∀ i ∈ is, hasV l i = true) : is.length ≤ l.length := by
 have h1 := nodup_sub (l' := (List.range l.length).map fun k : Nat => (k : Int)) hn fun i hi => by
  have h9 := of_decide_eq_true (h i hi)
  refine List.mem_map.2 ⟨i.toNat, List.mem_range.2 (by omega), by omega⟩
 simpa using h1
theorem InvE.bol {ep : Int} {l : List V} {q : LL} {bo : List En} {lv : List Int} (h : InvE ep l q bo lv) : bo.length ≤ l.length := by
 have h1 := has_len_le (l := l) h.bnd fun i hi => by
  have h9 := (h.bon i).1 hi
  refine yW (l := l) ?_
  rcases h9 with h9 | h9
  ·omega
  ·have := h9.1; omega
 simpa using h1
theorem InvE.lvl {ep : Int} {l : List V} {q : LL} {bo : List En} {lv : List Int} (h : InvE ep l q bo lv) : lv.length ≤ l.length :=
 has_len_le h.vnd fun i hi => yW (by have h9 := ((h.lvs i).1 hi).1; omega)
theorem sla_bd {v : V} {e : Int} {c : C} (he : 0 ≤ e ∧ e ≤ 1000000000) (hc : 0 ≤ c.sld ∧ c.sld ≤ 1048576) (h0 : 0 ≤ v.bal) (hm : v.bal ≤ 18446744073709551615) (hn : 0 ≤ c.pnum) (hd : 1 ≤ c.pden) : 0 ≤ (slaV v e c).2.1 ∧ (slaV v e c).2.1 ≤ 18446744073709551615 := by
 have h1 := burn_bd (c := c) h0 hn hd
 rw [sla_eq he hc h0 hm hn hd]
 split
 ·simp
 ·split
  ·simp
  ·simp only; omega
theorem slash_eng (eb rb cb lb bb ub mb xb b0 b1 pb gb tb : Nat) (c : C) (blk : Nat) (g : RG) (dep paid burn : Int) (bo : List En) (lv : List Int) (cur : Nat) (m : M) (q : LL) (pend : List Int) (mg : List PP) (pt : List Rq) (br : BR) (lA : Option Addr) (lc : Nat) (g0 g1 gp gg gt : Rg) (y : Op) (w : World) (hw : W0 [Res.blk eb 112 (ECell rb cb lb bb ub mb xb pb gb tb c lA (lv.length) lc), RgB rb g, RgW g, Res.im (RG.m g), CkB cb (blk) (c.elen.toNat), LgB lb (dep) (paid) (burn) (c.supc), bB_ bb br, bW_ br, bK_ br, bL_ xb b0 b1, rB_i b0 g0, rW_i g0, rB_i b1 g1, rW_i g1] w) (hi : Inv (Eg.mk c blk (RG.l g) dep paid burn bo lv cur m q pend mg pt)) (hg : g.Rep) (hcp : (g.cp : Int) = c.capa) (hbr : br.Rep bo) (h0 : g0.Rep 1 (q.f.map (fun v : Int => [Value.int .i64 v]))) (h1_ : g1.Rep 1 (q.v.map (fun v : Int => [Value.int .i64 v]))) (s0 : Rg.size g0 = c.qsize.toNat) (s1 : Rg.size g1 = c.qsize.toNat) : Own2 (ι := (RG × BR × Rg × Rg)) Tryz.prog 61 [.pointer (some ⟨eb, 0, none⟩), .agg y.c.toArray] w [Res.blk eb 112 (ECell rb cb lb bb ub mb xb pb gb tb c lA (lv.length) lc), RgB rb g, RgW g, Res.im (RG.m g), CkB cb (blk) (c.elen.toNat), LgB lb (dep) (paid) (burn) (c.supc), bB_ bb br, bW_ br, bK_ br, bL_ xb b0 b1, rB_i b0 g0, rW_i g0, rB_i b1 g1, rW_i g1] (fun x => x.1.Rep ∧ x.1.l = (slashE (Eg.mk c blk (RG.l g) dep paid burn bo lv cur m q pend mg pt) y.i).1.l ∧ x.1.cp = g.cp ∧ x.2.1.Rep (slashE (Eg.mk c blk (RG.l g) dep paid burn bo lv cur m q pend mg pt) y.i).1.bo ∧ x.2.2.1.Rep 1 ((slashE (Eg.mk c blk (RG.l g) dep paid burn bo lv cur m q pend mg pt) y.i).1.q.f.map (fun v : Int => [Value.int .i64 v])) ∧ x.2.2.2.Rep 1 ((slashE (Eg.mk c blk (RG.l g) dep paid burn bo lv cur m q pend mg pt) y.i).1.q.v.map (fun v : Int => [Value.int .i64 v])) ∧ x.2.2.1.size = c.qsize.toNat ∧ x.2.2.2.size = c.qsize.toNat) (fun x => .agg (Rs.c (slashE (Eg.mk c blk (RG.l g) dep paid burn bo lv cur m q pend mg pt) y.i).2).toArray) (fun x => []) (fun x => [Res.blk eb 112 (ECell rb cb lb bb ub mb xb pb gb tb c lA (lv.length) lc), RgB rb x.1, RgW x.1, Res.im (RG.m x.1), CkB cb (blk) (c.elen.toNat), LgB lb (dep) (paid) ((slashE (Eg.mk c blk (RG.l g) dep paid burn bo lv cur m q pend mg pt) y.i).1.burn) (c.supc), bB_ bb x.2.1, bW_ x.2.1, bK_ x.2.1, bL_ xb b0 b1, rB_i b0 x.2.2.1, rW_i x.2.2.1, rB_i b1 x.2.2.2, rW_i x.2.2.2]) := by
 refine g_st Tryz.func61 102 hw ?_
 have hok : Cok c := hi.cok
 have hmo : Cmo c := xD hi.cc
 have hblk : blk ≤ 1000000000 := hi.blk
 have hk : blk < 4611686018427387904 := by omega
 have hel : 1 ≤ c.elen.toNat ∧ c.elen.toNat ≤ 4611686018427387904 := by have := hok.elen; omega
 have hled : LOk c.supc dep paid burn := hi.led
 have hqf : q.f.length ≤ c.qsize.toNat ∧ q.v.length ≤ c.qsize.toNat := hi.qf
 have hsum : (bals (RG.l g)).sum = dep - paid - burn := hi.sum
 have hvo : ∀ i, hasV (RG.l g) i = true → VO (gotV (RG.l g) i) := hi.vo
 have hqs := hmo.qsize
 have hepb : 0 ≤ ((blk / c.elen.toNat : Nat) : Int) ∧ ((blk / c.elen.toNat : Nat) : Int) ≤ 1000000000 := hi.epb
 have hbs : (bals (RG.l g)).sum ≤ 18446744073709551615 := hg.mx
 have hpn : 0 ≤ c.pnum := hi.ck.pnum.1
 have hsd := hok.sld
 have hud := hok.unb
 have hgl := hg.le
 have hgc := hg.cp
 have hbol : bo.length ≤ (RG.l g).length := hi.e.bol
 refine rn [1] ?_
 refine g_op (g_box rfl rfl rfl fun b3 => ?_)
 refine g_op (zI rfl fun b4 => ?_)
 refine rn [0,8] ?_
 refine dreg [12] mixed rfl ?_
 refine rn [23,0,2,23,1,6,23,2,4,23,3,4,23,4,5,23,5,4,23,6,5] ?_
 refine dj [0, 3, 4] (fun (x : Nat) => [(5, .pointer (some ⟨x, 0, none⟩)), (6, .bool (hasV (RG.l g) y.i))]) (fun (x : Nat) => [Res.blk x 52 (V.c (gotV (RG.l g) y.i)), Res.blk b4 128 [Value.int .i64 0, .int .i64 0, .int .i64 0], Res.blk b3 35 y.c, Res.blk eb 112 (ECell rb cb lb bb ub mb xb pb gb tb c lA (lv.length) lc), RgB rb g, RgW g, Res.im (RG.m g), CkB cb (blk) (c.elen.toNat), LgB lb (dep) (paid) (burn) (c.supc), bB_ bb br, bW_ br, bK_ br, bL_ xb b0 b1, rB_i b0 g0, rW_i g0, rB_i b1 g1, rW_i g1]) ?_ ?_
 ·refine yB [7, 11] (by kernel_rfl) (by simp) zB ⟨dpick rfl (zK _ rfl (fun w1 hw1 ho1 => by exact xS rb g ((y).i) w1 ho1) rfl ?_), dpick rfl (zI rfl fun b5 => ?_), trivial⟩
  ·refine rn [23,8,2,23,9,40,24,10,40] ?_
   refine dop 11 rfl (zI rfl fun b5 => ?_)
   refine dop 12 rfl (zL rfl rfl rfl rfl rfl ?_)
   refine rn [24,13,3,28] ?_
   exact g_jn b5
  ·refine dop 7 rfl (zK _ rfl (fun w1 hw1 ho1 => by exact xS rb g ((y).i) w1 ho1) rfl ?_)
   refine rn [23,8,2,23,9,40,24,10,40] ?_
   refine dop 12 rfl (zL rfl rfl rfl rfl rfl ?_)
   refine rn [24,13,3,28] ?_
   exact g_jn b5
 ·rintro b5
  refine rn [7,8,1,2,48,0] ?_
  refine zC rfl (fun h1 => ?_) (fun h1 => ?_)
  ·have hb : (slashE (Eg.mk c blk (RG.l g) dep paid burn bo lv cur m q pend mg pt) y.i) = ((Eg.mk c blk (RG.l g) dep paid burn bo lv cur m q pend mg pt), ⟨7, 0, 0⟩) := by
     unfold slashE Eg.ep; dsimp only; rw [if_pos (by have h9 := h1; simpa using h9)]
   refine rn [1] ?_
   refine g_op (zG rfl (fun w1 hw1 => by exact yI (7) w1) rfl ?_)
   refine rn [33,0,11,13] ?_
   exact fin1 rfl (.cellw rfl rfl) (fun w' hw' => ⟨(g, br, g0, g1), (by (rw [hb]; exact ⟨hg, rfl, rfl, hbr, h0, h1_, s0, s1⟩)), by rw [hb]; rfl, by rw [hb]; exact zA w' hw'⟩) _ (.inl rfl)
  ·have n1 : ¬ hasV (RG.l g) y.i = false := by have h9 := h1; simpa using h9
   have hh : hasV (RG.l g) y.i = true := by simpa using n1
   have hv0 := hvo y.i hh
   have hbl := bal_le hvo hh
   have hbd := sla_bd (v := (gotV (RG.l g) y.i)) (e := ((blk / c.elen.toNat : Nat) : Int)) (c := c) hepb (by omega) hv0.b (by omega) hpn hmo.pden.1
   refine rn [12,7,8] ?_
   refine dreg [16] mixed rfl ?_
   refine rn [23,0,45,23,1,2,23,2,6,23,3,4,23,4,5,23,6,2,23,7,6,23,8,4] ?_
   refine dq 9 rfl (yS (c' := C.c c) rfl rfl rfl) ?_
   refine dj [0, 3, 4, 5] (fun (x : Nat) => [(7, .pointer (some ⟨x, 0, none⟩)), (8, .int .u64 (slaV (gotV (RG.l g) y.i) ((blk / c.elen.toNat : Nat) : Int) c).2.1), (9, .int .i64 (slaV (gotV (RG.l g) y.i) ((blk / c.elen.toNat : Nat) : Int) c).2.2)]) (fun (x : Nat) => [Res.blk x 52 (V.c (slaV (gotV (RG.l g) y.i) ((blk / c.elen.toNat : Nat) : Int) c).1), Res.blk b5 52 (V.c (gotV (RG.l g) y.i)), Res.blk b4 128 [Value.int .i64 0, .int .i64 0, .int .i64 0], Res.blk b3 35 y.c, Res.blk eb 112 (ECell rb cb lb bb ub mb xb pb gb tb c lA (lv.length) lc), RgB rb g, RgW g, Res.im (RG.m g), CkB cb (blk) (c.elen.toNat), LgB lb (dep) (paid) (burn) (c.supc), bB_ bb br, bW_ br, bK_ br, bL_ xb b0 b1, rB_i b0 g0, rW_i g0, rB_i b1 g1, rW_i g1]) ?_ ?_
   ·refine yB [5, 15] (by kernel_rfl) (by simp) zB ⟨dpick rfl (zK _ rfl (fun w1 hw1 ho1 => by exact zZ cb blk c.elen.toNat w1 ho1 (by omega) hel) rfl ?_), dpick rfl (zI rfl fun b7 => ?_), trivial⟩
    ·refine yB [10, 15] (by kernel_rfl) (by simp) zB ⟨dpick rfl (zG rfl (fun w1 hw1 => slash_any ((gotV (RG.l g) (y).i)) ((((blk / c.elen.toNat) : Nat) : Int)) (c) w1 ⟨by omega, by omega⟩ ⟨by omega, by omega⟩ (hv0.i64 (by omega)) hpn hmo.pden hmo.pnum) rfl ?_), dpick rfl (zI rfl fun b7 => ?_), trivial⟩
     ·refine rn [23,11,2,23,12,40,24,13,40,24,14,40] ?_
      refine dop 15 rfl (zI rfl fun b7 => ?_)
      refine dop 16 rfl (zL rfl rfl rfl rfl rfl ?_)
      refine rn [24,17,3,24,18,3,28] ?_
      exact g_jn b7
     ·refine dop 10 rfl (zG rfl (fun w1 hw1 => slash_any ((gotV (RG.l g) (y).i)) ((((blk / c.elen.toNat) : Nat) : Int)) (c) w1 ⟨by omega, by omega⟩ ⟨by omega, by omega⟩ (hv0.i64 (by omega)) hpn hmo.pden hmo.pnum) rfl ?_)
      refine rn [23,11,2,23,12,40,24,13,40,24,14,40] ?_
      refine dop 16 rfl (zL rfl rfl rfl rfl rfl ?_)
      refine rn [24,17,3,24,18,3,28] ?_
      exact g_jn b7
    ·refine dop 5 rfl (zK _ rfl (fun w1 hw1 ho1 => by exact zZ cb blk c.elen.toNat w1 ho1 (by omega) hel) rfl ?_)
     refine dop 10 rfl (zG rfl (fun w1 hw1 => slash_any ((gotV (RG.l g) (y).i)) ((((blk / c.elen.toNat) : Nat) : Int)) (c) w1 ⟨by omega, by omega⟩ ⟨by omega, by omega⟩ (hv0.i64 (by omega)) hpn hmo.pden hmo.pnum) rfl ?_)
     refine rn [23,11,2,23,12,40,24,13,40,24,14,40] ?_
     refine dop 16 rfl (zL rfl rfl rfl rfl rfl ?_)
     refine rn [24,17,3,24,18,3,28] ?_
     exact g_jn b7
   ·rintro b7
    refine rn [7,8,1,2,44,2] ?_
    refine zV 41 rfl (fun h2 => ?_) (fun h2 => ?_)
    ·have n2 : (slaV (gotV (RG.l g) y.i) ((blk / c.elen.toNat : Nat) : Int) c).2.2 = 9 := by have h9 := h2; simpa using h9
     have hb : (slashE (Eg.mk c blk (RG.l g) dep paid burn bo lv cur m q pend mg pt) y.i) = ((Eg.mk c blk (RG.l g) dep paid burn bo lv cur m q pend mg pt), ⟨(slaV (gotV (RG.l g) y.i) ((blk / c.elen.toNat : Nat) : Int) c).2.2, 0, 0⟩) := by
       unfold slashE Eg.ep; dsimp only; rw [if_neg n1, if_pos (.inl n2)]
     refine rn [21,21,41,0,19,1,2] ?_
     refine g_op (zG rfl (fun w1 hw1 => by exact yI ((slaV (gotV (RG.l g) (y).i) (((blk / c.elen.toNat) : Nat) : Int) c).2.2) w1) rfl ?_)
     refine rn [33,0,11,13] ?_
     exact fin1 rfl (.cellw rfl rfl) (fun w' hw' => ⟨(g, br, g0, g1), (by (rw [hb]; exact ⟨hg, rfl, rfl, hbr, h0, h1_, s0, s1⟩)), by rw [hb]; rfl, by rw [hb]; exact zA w' hw'⟩) _ (.inl rfl)
    ·have n2 : ¬ (slaV (gotV (RG.l g) y.i) ((blk / c.elen.toNat : Nat) : Int) c).2.2 = 9 := by have h9 := h2; simpa using h9
     refine rn [22,2,22,44,42,0] ?_
     refine zC rfl (fun h3 => ?_) (fun h3 => ?_)
     ·have n3 : (slaV (gotV (RG.l g) y.i) ((blk / c.elen.toNat : Nat) : Int) c).2.2 = 8 := by have h9 := h3; simpa using h9
      have hb : (slashE (Eg.mk c blk (RG.l g) dep paid burn bo lv cur m q pend mg pt) y.i) = ((Eg.mk c blk (RG.l g) dep paid burn bo lv cur m q pend mg pt), ⟨(slaV (gotV (RG.l g) y.i) ((blk / c.elen.toNat : Nat) : Int) c).2.2, 0, 0⟩) := by
        unfold slashE Eg.ep; dsimp only; rw [if_neg n1, if_pos (.inr n3)]
      refine rn [1,2] ?_
      refine g_op (zG rfl (fun w1 hw1 => by exact yI ((slaV (gotV (RG.l g) (y).i) (((blk / c.elen.toNat) : Nat) : Int) c).2.2) w1) rfl ?_)
      refine rn [33,0,11,13] ?_
      exact fin1 rfl (.cellw rfl rfl) (fun w' hw' => ⟨(g, br, g0, g1), (by (rw [hb]; exact ⟨hg, rfl, rfl, hbr, h0, h1_, s0, s1⟩)), by rw [hb]; rfl, by rw [hb]; exact zA w' hw'⟩) _ (.inl rfl)
     ·have n3 : ¬ (slaV (gotV (RG.l g) y.i) ((blk / c.elen.toNat : Nat) : Int) c).2.2 = 8 := by have h9 := h3; simpa using h9
      have n4 : ¬ ((slaV (gotV (RG.l g) y.i) ((blk / c.elen.toNat : Nat) : Int) c).2.2 = 9 ∨ (slaV (gotV (RG.l g) y.i) ((blk / c.elen.toNat : Nat) : Int) c).2.2 = 8) := by omega
      refine rn [12,7,8,1,4,5,44,2] ?_
      refine zV 50 rfl (fun h4 => ?_) (fun h4 => ?_)
      ·have c2 : (gotV (RG.l g) y.i).st = 2 := by have h9 := h4; simpa using h9
       refine rn [22,2,22,6,22,4,22,5] ?_
       refine g_gt rfl rfl (zK _ rfl (fun w1 hw1 ho1 => by exact lfree_any xb b0 b1 g0 g1 q c.qsize.toNat (0) w1 ho1 h0 h1_ s0 s1 (by omega)) rfl ?_)
       refine rn [22,44,41,0] ?_
       refine zC rfl (fun h5 => ?_) (fun h5 => ?_)
       ·have hb : (slashE (Eg.mk c blk (RG.l g) dep paid burn bo lv cur m q pend mg pt) y.i) = ((Eg.mk c blk (RG.l g) dep paid burn bo lv cur m q pend mg pt), ⟨6, 0, 0⟩) := by
          unfold slashE Eg.ep; dsimp only; rw [if_neg n1, if_neg n4, if_pos ⟨c2, by have h9 := h5; simpa using h9⟩]
        refine rn [1] ?_
        refine g_op (zG rfl (fun w1 hw1 => by exact yI (6) w1) rfl ?_)
        refine rn [33,0,11,13] ?_
        exact fin1 rfl (.cellw rfl rfl) (fun w' hw' => ⟨(g, br, g0, g1), (by (rw [hb]; exact ⟨hg, rfl, rfl, hbr, h0, h1_, s0, s1⟩)), by rw [hb]; rfl, by rw [hb]; exact zA w' hw'⟩) _ (.inl rfl)
       ·have n5 : ¬ ((gotV (RG.l g) y.i).st = 2 ∧ freeL c.qsize.toNat 0 q = 0) := fun h => by have h9 := h5; simp at h9; omega
        refine rn [12,7,8,1,2,51,0] ?_
        refine zC rfl (fun h6 => ?_) (fun h6 => ?_)
        ·have n6 : (slaV (gotV (RG.l g) y.i) ((blk / c.elen.toNat : Nat) : Int) c).2.2 ≠ 0 := by have h9 := h6; simpa using h9
         have hb : (slashE (Eg.mk c blk (RG.l g) dep paid burn bo lv cur m q pend mg pt) y.i) = ((Eg.mk c blk (RG.l g) dep paid burn bo lv cur m q pend mg pt), ⟨(slaV (gotV (RG.l g) y.i) ((blk / c.elen.toNat : Nat) : Int) c).2.2, 0, 0⟩) := by
           unfold slashE Eg.ep; dsimp only; rw [if_neg n1, if_neg n4, if_neg n5, if_pos n6]
         refine rn [1,2] ?_
         refine g_op (zG rfl (fun w1 hw1 => by exact yI ((slaV (gotV (RG.l g) (y).i) (((blk / c.elen.toNat) : Nat) : Int) c).2.2) w1) rfl ?_)
         refine rn [33,0,11,13] ?_
         exact fin1 rfl (.cellw rfl rfl) (fun w' hw' => ⟨(g, br, g0, g1), (by (rw [hb]; exact ⟨hg, rfl, rfl, hbr, h0, h1_, s0, s1⟩)), by rw [hb]; rfl, by rw [hb]; exact zA w' hw'⟩) _ (.inl rfl)
        ·have n6 : (slaV (gotV (RG.l g) y.i) ((blk / c.elen.toNat : Nat) : Int) c).2.2 = 0 := by have h9 := h6; simpa using h9
         have hb : (slashE (Eg.mk c blk (RG.l g) dep paid burn bo lv cur m q pend mg pt) y.i) = ((Eg.mk c blk ((RG.l g).set y.i.toNat (slaV (gotV (RG.l g) y.i) ((blk / c.elen.toNat : Nat) : Int) c).1) dep paid (if bookC dep paid burn (slaV (gotV (RG.l g) y.i) ((blk / c.elen.toNat : Nat) : Int) c).2.1 = 0 then burn + (slaV (gotV (RG.l g) y.i) ((blk / c.elen.toNat : Nat) : Int) c).2.1 else burn) (if (gotV (RG.l g) y.i).st = 5 then putE bo (slaV (gotV (RG.l g) y.i) ((blk / c.elen.toNat : Nat) : Int) c).1.wd y.i else bo) lv cur m (if (gotV (RG.l g) y.i).st = 2 then pushL c.qsize.toNat 0 y.i q else q) pend mg pt), ⟨0, y.i, -1⟩) := by
           unfold slashE Eg.ep; dsimp only; rw [if_neg n1, if_neg n4, if_neg n5, if_neg (fun h => h n6)]
         have hiN : Inv (Eg.mk c blk ((RG.l g).set y.i.toNat (slaV (gotV (RG.l g) y.i) ((blk / c.elen.toNat : Nat) : Int) c).1) dep paid (if bookC dep paid burn (slaV (gotV (RG.l g) y.i) ((blk / c.elen.toNat : Nat) : Int) c).2.1 = 0 then burn + (slaV (gotV (RG.l g) y.i) ((blk / c.elen.toNat : Nat) : Int) c).2.1 else burn) (if (gotV (RG.l g) y.i).st = 5 then putE bo (slaV (gotV (RG.l g) y.i) ((blk / c.elen.toNat : Nat) : Int) c).1.wd y.i else bo) lv cur m (if (gotV (RG.l g) y.i).st = 2 then pushL c.qsize.toNat 0 y.i q else q) pend mg pt) := by have h9 := slashE_inv hi (i := y.i); rw [hb] at h9; exact h9
         have hchg := chg_ok (v := (slaV (gotV (RG.l g) y.i) ((blk / c.elen.toNat : Nat) : Int) c).1) hiN.vo (by have h9 := hiN.sum; have h8 := hiN.led; obtain ⟨e1, e2, e3, e4, e5, e6⟩ := h8; simp only at h9 e1 e2 e3 e4; omega) hh
         refine rn [12,7,8] ?_
         refine dregL (L0 := [Res.blk eb 112 (ECell rb cb lb bb ub mb xb pb gb tb c lA (lv.length) lc), Res.blk b3 35 y.c, Res.blk b7 52 (V.c (slaV (gotV (RG.l g) y.i) ((blk / c.elen.toNat : Nat) : Int) c).1)]) [] mixed rfl zB ?_
         refine rn [23,0,2,23,1,6,23,2,4] ?_
         refine dq 3 rfl (yS (c' := [Value.pointer (some ⟨rb, 0, none⟩)]) rfl rfl rfl) ?_
         refine rn [23,4,4,23,5,5,23,6,45] ?_
         refine dop 7 rfl (zH _ rfl (fun w1 hw1 ho1 => by have h7 := xB rb g ((y).i) ((slaV (gotV (RG.l g) (y).i) (((blk / c.elen.toNat) : Nat) : Int) c).1) w1 ho1 hg hchg.1 hchg.2; exact h7) rfl ?_)
         rintro g70 ⟨r70, l70, c70⟩
         refine ii ?_
         refine rn [27,7,1,2,6,4,5,2] ?_
         refine g_op (zH _ rfl (fun w1 hw1 ho1 => by have h7 := lburn_any lb dep paid burn c.supc ((slaV (gotV (RG.l g) (y).i) (((blk / c.elen.toNat) : Nat) : Int) c).2.1) w1 ho1 hled hbd; exact h7) rfl ?_)
         rintro ⟨⟩ _
         refine ii ?_
         refine rn [0,8,1,4,5,0,14,1,44,3,0] ?_
         refine zC rfl (fun h7 => ?_) (fun h7 => ?_)
         ·have d2 : (gotV (RG.l g) y.i).st = 2 := by have h9 := h7; simpa using h9
          rw [if_pos d2, if_neg (show ¬ (gotV (RG.l g) y.i).st = 5 by omega)] at hb
          refine dregL (L0 := [Res.blk eb 112 (ECell rb cb lb bb ub mb xb pb gb tb c lA (lv.length) lc), Res.blk b3 35 y.c, Res.blk b7 52 (V.c (slaV (gotV (RG.l g) y.i) ((blk / c.elen.toNat : Nat) : Int) c).1)]) [] mixed rfl zB ?_
          refine rn [23,0,2,23,1,6,23,2,4,23,3,5,23,4,4,23,5,5] ?_
          refine dop 6 rfl (zH _ rfl (fun w1 hw1 ho1 => by have h7 := lpush_any xb b0 b1 g0 g1 q c.qsize.toNat (0) ((y).i) w1 ho1 h0 h1_ s0 s1 (by omega); exact h7) rfl ?_)
          rintro ⟨g87, gg87⟩ ⟨r87, rr87, s87, ss87⟩
          refine ii ?_
          simp only at r87 rr87 s87 ss87
          refine rn [27,15,7,1,4,5] ?_
          refine g_op (zG rfl (fun w1 hw1 => by exact xI ((y).i) ((-1)) w1) rfl ?_)
          refine rn [33,0,11] ?_
          exact fin1 rfl (.cellw rfl rfl) (fun w' hw' => ⟨(g70, br, g87, gg87), (by (rw [hb]; exact ⟨r70, by rw [l70, xU hh], c70, hbr, r87, rr87, s87, ss87⟩)), by rw [hb]; rfl, by rw [hb]; exact zA w' hw'⟩) _ (.inl rfl)
         ·have d2 : ¬ (gotV (RG.l g) y.i).st = 2 := by have h9 := h7; simpa using h9
          rw [if_neg d2] at hb
          refine rn [1,44,3,0] ?_
          refine zC rfl (fun h8 => ?_) (fun h8 => ?_)
          ·have d5 : (gotV (RG.l g) y.i).st = 5 := by have h9 := h8; simpa using h9
           rw [if_pos d5] at hb
           refine dregL (L0 := [Res.blk eb 112 (ECell rb cb lb bb ub mb xb pb gb tb c lA (lv.length) lc), Res.blk b3 35 y.c, Res.blk b7 52 (V.c (slaV (gotV (RG.l g) y.i) ((blk / c.elen.toNat : Nat) : Int) c).1)]) [] mixed rfl zB ?_
           refine rn [23,0,2,23,1,6,23,2,4,23,3,5,23,4,4,23,5,5,23,6,4,23,7,5] ?_
           refine dop 8 rfl (zH _ rfl (fun w1 hw1 ho1 => by have h7 := bput_any bb br bo (((slaV (gotV (RG.l g) (y).i) (((blk / c.elen.toNat) : Nat) : Int) c).1).wd) ((y).i) w1 ho1 hbr (by first | omega | (simp; omega)); exact h7) rfl ?_)
           rintro g98 ⟨r98, s98⟩
           refine ii ?_
           refine rn [27,15,7,1,4,5] ?_
           refine g_op (zG rfl (fun w1 hw1 => by exact xI ((y).i) ((-1)) w1) rfl ?_)
           refine rn [33,0,11] ?_
           exact fin1 rfl (.cellw rfl rfl) (fun w' hw' => ⟨(g70, g98, g0, g1), (by (rw [hb]; exact ⟨r70, by rw [l70, xU hh], c70, r98, h0, h1_, s0, s1⟩)), by rw [hb]; rfl, by rw [hb]; exact zA w' hw'⟩) _ (.inl rfl)
          ·have d5 : ¬ (gotV (RG.l g) y.i).st = 5 := by have h9 := h8; simpa using h9
           rw [if_neg d5] at hb
           refine rn [12,15,7,1,4,5] ?_
           refine g_op (zG rfl (fun w1 hw1 => by exact xI ((y).i) ((-1)) w1) rfl ?_)
           refine rn [33,0,11] ?_
           exact fin1 rfl (.cellw rfl rfl) (fun w' hw' => ⟨(g70, br, g0, g1), (by (rw [hb]; exact ⟨r70, by rw [l70, xU hh], c70, hbr, h0, h1_, s0, s1⟩)), by rw [hb]; rfl, by rw [hb]; exact zA w' hw'⟩) _ (.inl rfl)
      ·have c2 : ¬ (gotV (RG.l g) y.i).st = 2 := by have h9 := h4; simpa using h9
       have n5 : ¬ ((gotV (RG.l g) y.i).st = 2 ∧ freeL c.qsize.toNat 0 q = 0) := fun h => c2 h.1
       refine rn [21,21,21,21,21,21,42,0,20,12,7,8,1,2,51,0] ?_
       refine zC rfl (fun h9 => ?_) (fun h9 => ?_)
       ·have n6 : (slaV (gotV (RG.l g) y.i) ((blk / c.elen.toNat : Nat) : Int) c).2.2 ≠ 0 := by have h9 := h9; simpa using h9
        have hb : (slashE (Eg.mk c blk (RG.l g) dep paid burn bo lv cur m q pend mg pt) y.i) = ((Eg.mk c blk (RG.l g) dep paid burn bo lv cur m q pend mg pt), ⟨(slaV (gotV (RG.l g) y.i) ((blk / c.elen.toNat : Nat) : Int) c).2.2, 0, 0⟩) := by
          unfold slashE Eg.ep; dsimp only; rw [if_neg n1, if_neg n4, if_neg n5, if_pos n6]
        refine rn [1,2] ?_
        refine g_op (zG rfl (fun w1 hw1 => by exact yI ((slaV (gotV (RG.l g) (y).i) (((blk / c.elen.toNat) : Nat) : Int) c).2.2) w1) rfl ?_)
        refine rn [33,0,11,13] ?_
        exact fin1 rfl (.cellw rfl rfl) (fun w' hw' => ⟨(g, br, g0, g1), (by (rw [hb]; exact ⟨hg, rfl, rfl, hbr, h0, h1_, s0, s1⟩)), by rw [hb]; rfl, by rw [hb]; exact zA w' hw'⟩) _ (.inl rfl)
       ·have n6 : (slaV (gotV (RG.l g) y.i) ((blk / c.elen.toNat : Nat) : Int) c).2.2 = 0 := by have h9 := h9; simpa using h9
        have hb : (slashE (Eg.mk c blk (RG.l g) dep paid burn bo lv cur m q pend mg pt) y.i) = ((Eg.mk c blk ((RG.l g).set y.i.toNat (slaV (gotV (RG.l g) y.i) ((blk / c.elen.toNat : Nat) : Int) c).1) dep paid (if bookC dep paid burn (slaV (gotV (RG.l g) y.i) ((blk / c.elen.toNat : Nat) : Int) c).2.1 = 0 then burn + (slaV (gotV (RG.l g) y.i) ((blk / c.elen.toNat : Nat) : Int) c).2.1 else burn) (if (gotV (RG.l g) y.i).st = 5 then putE bo (slaV (gotV (RG.l g) y.i) ((blk / c.elen.toNat : Nat) : Int) c).1.wd y.i else bo) lv cur m (if (gotV (RG.l g) y.i).st = 2 then pushL c.qsize.toNat 0 y.i q else q) pend mg pt), ⟨0, y.i, -1⟩) := by
          unfold slashE Eg.ep; dsimp only; rw [if_neg n1, if_neg n4, if_neg n5, if_neg (fun h => h n6)]
        have hiN : Inv (Eg.mk c blk ((RG.l g).set y.i.toNat (slaV (gotV (RG.l g) y.i) ((blk / c.elen.toNat : Nat) : Int) c).1) dep paid (if bookC dep paid burn (slaV (gotV (RG.l g) y.i) ((blk / c.elen.toNat : Nat) : Int) c).2.1 = 0 then burn + (slaV (gotV (RG.l g) y.i) ((blk / c.elen.toNat : Nat) : Int) c).2.1 else burn) (if (gotV (RG.l g) y.i).st = 5 then putE bo (slaV (gotV (RG.l g) y.i) ((blk / c.elen.toNat : Nat) : Int) c).1.wd y.i else bo) lv cur m (if (gotV (RG.l g) y.i).st = 2 then pushL c.qsize.toNat 0 y.i q else q) pend mg pt) := by have h9 := slashE_inv hi (i := y.i); rw [hb] at h9; exact h9
        have hchg := chg_ok (v := (slaV (gotV (RG.l g) y.i) ((blk / c.elen.toNat : Nat) : Int) c).1) hiN.vo (by have h9 := hiN.sum; have h8 := hiN.led; obtain ⟨e1, e2, e3, e4, e5, e6⟩ := h8; simp only at h9 e1 e2 e3 e4; omega) hh
        refine rn [12,7,8] ?_
        refine dregL (L0 := [Res.blk eb 112 (ECell rb cb lb bb ub mb xb pb gb tb c lA (lv.length) lc), Res.blk b3 35 y.c, Res.blk b7 52 (V.c (slaV (gotV (RG.l g) y.i) ((blk / c.elen.toNat : Nat) : Int) c).1)]) [] mixed rfl zB ?_
        refine rn [23,0,2,23,1,6,23,2,4] ?_
        refine dq 3 rfl (yS (c' := [Value.pointer (some ⟨rb, 0, none⟩)]) rfl rfl rfl) ?_
        refine rn [23,4,4,23,5,5,23,6,45] ?_
        refine dop 7 rfl (zH _ rfl (fun w1 hw1 ho1 => by have h7 := xB rb g ((y).i) ((slaV (gotV (RG.l g) (y).i) (((blk / c.elen.toNat) : Nat) : Int) c).1) w1 ho1 hg hchg.1 hchg.2; exact h7) rfl ?_)
        rintro g70 ⟨r70, l70, c70⟩
        refine ii ?_
        refine rn [27,7,1,2,6,4,5,2] ?_
        refine g_op (zH _ rfl (fun w1 hw1 ho1 => by have h7 := lburn_any lb dep paid burn c.supc ((slaV (gotV (RG.l g) (y).i) (((blk / c.elen.toNat) : Nat) : Int) c).2.1) w1 ho1 hled hbd; exact h7) rfl ?_)
        rintro ⟨⟩ _
        refine ii ?_
        refine rn [0,8,1,4,5,0,14,1,44,3,0] ?_
        refine zC rfl (fun h10 => ?_) (fun h10 => ?_)
        ·have d2 : (gotV (RG.l g) y.i).st = 2 := by have h9 := h10; simpa using h9
         rw [if_pos d2, if_neg (show ¬ (gotV (RG.l g) y.i).st = 5 by omega)] at hb
         refine dregL (L0 := [Res.blk eb 112 (ECell rb cb lb bb ub mb xb pb gb tb c lA (lv.length) lc), Res.blk b3 35 y.c, Res.blk b7 52 (V.c (slaV (gotV (RG.l g) y.i) ((blk / c.elen.toNat : Nat) : Int) c).1)]) [] mixed rfl zB ?_
         refine rn [23,0,2,23,1,6,23,2,4,23,3,5,23,4,4,23,5,5] ?_
         refine dop 6 rfl (zH _ rfl (fun w1 hw1 ho1 => by have h7 := lpush_any xb b0 b1 g0 g1 q c.qsize.toNat (0) ((y).i) w1 ho1 h0 h1_ s0 s1 (by omega); exact h7) rfl ?_)
         rintro ⟨g87, gg87⟩ ⟨r87, rr87, s87, ss87⟩
         refine ii ?_
         simp only at r87 rr87 s87 ss87
         refine rn [27,15,7,1,4,5] ?_
         refine g_op (zG rfl (fun w1 hw1 => by exact xI ((y).i) ((-1)) w1) rfl ?_)
         refine rn [33,0,11] ?_
         exact fin1 rfl (.cellw rfl rfl) (fun w' hw' => ⟨(g70, br, g87, gg87), (by (rw [hb]; exact ⟨r70, by rw [l70, xU hh], c70, hbr, r87, rr87, s87, ss87⟩)), by rw [hb]; rfl, by rw [hb]; exact zA w' hw'⟩) _ (.inl rfl)
        ·have d2 : ¬ (gotV (RG.l g) y.i).st = 2 := by have h9 := h10; simpa using h9
         rw [if_neg d2] at hb
         refine rn [1,44,3,0] ?_
         refine zC rfl (fun h11 => ?_) (fun h11 => ?_)
         ·have d5 : (gotV (RG.l g) y.i).st = 5 := by have h9 := h11; simpa using h9
          rw [if_pos d5] at hb
          refine dregL (L0 := [Res.blk eb 112 (ECell rb cb lb bb ub mb xb pb gb tb c lA (lv.length) lc), Res.blk b3 35 y.c, Res.blk b7 52 (V.c (slaV (gotV (RG.l g) y.i) ((blk / c.elen.toNat : Nat) : Int) c).1)]) [] mixed rfl zB ?_
          refine rn [23,0,2,23,1,6,23,2,4,23,3,5,23,4,4,23,5,5,23,6,4,23,7,5] ?_
          refine dop 8 rfl (zH _ rfl (fun w1 hw1 ho1 => by have h7 := bput_any bb br bo (((slaV (gotV (RG.l g) (y).i) (((blk / c.elen.toNat) : Nat) : Int) c).1).wd) ((y).i) w1 ho1 hbr (by first | omega | (simp; omega)); exact h7) rfl ?_)
          rintro g98 ⟨r98, s98⟩
          refine ii ?_
          refine rn [27,15,7,1,4,5] ?_
          refine g_op (zG rfl (fun w1 hw1 => by exact xI ((y).i) ((-1)) w1) rfl ?_)
          refine rn [33,0,11] ?_
          exact fin1 rfl (.cellw rfl rfl) (fun w' hw' => ⟨(g70, g98, g0, g1), (by (rw [hb]; exact ⟨r70, by rw [l70, xU hh], c70, r98, h0, h1_, s0, s1⟩)), by rw [hb]; rfl, by rw [hb]; exact zA w' hw'⟩) _ (.inl rfl)
         ·have d5 : ¬ (gotV (RG.l g) y.i).st = 5 := by have h9 := h11; simpa using h9
          rw [if_neg d5] at hb
          refine rn [12,15,7,1,4,5] ?_
          refine g_op (zG rfl (fun w1 hw1 => by exact xI ((y).i) ((-1)) w1) rfl ?_)
          refine rn [33,0,11] ?_
          exact fin1 rfl (.cellw rfl rfl) (fun w' hw' => ⟨(g70, br, g0, g1), (by (rw [hb]; exact ⟨r70, by rw [l70, xU hh], c70, hbr, h0, h1_, s0, s1⟩)), by rw [hb]; rfl, by rw [hb]; exact zA w' hw'⟩) _ (.inl rfl)
end Go.Proofs.YtdddiilocbbkkaaGreat
