/- TopForced: for every configuration and all operations the law returns true. No condition. (the texts of the proof, part 9 of 12) -/
import Derived.Test.YtdddiilocbbkkaaGreatM8
set_option linter.unusedVariables false
set_option linter.unusedSimpArgs false
namespace Go.Proofs.YtdddiilocbbkkaaGreat
open Go.RowKit Go.Eg
set_option maxHeartbeats 4000000
set_option synthInstance.maxSize 3000
set_option maxRecDepth 100000
theorem nodup_sub {α : Type} [DecidableEq α] : ∀ {l l' : List α}, l.Nodup → (∀ x ∈ l, x ∈ l') → l.length ≤ l'.length
 | [], _, _, _ => Nat.zero_le _
 | a :: l, l', hn, h => by
  rw [List.nodup_cons] at hn
  have ha := h a (by simp)
  have h1 := nodup_sub (l := l) (l' := l'.erase a) hn.2 fun x hx => by
   have hxa : x ≠ a := fun hc => hn.1 (hc ▸ hx)
   exact (List.mem_erase_of_ne hxa).2 (h x (by simp [hx]))
  rw [List.length_erase_of_mem ha] at h1
  have := List.length_pos_of_mem ha
  simp only [List.length_cons]; omega
theorem has_len_le {is : List Int} {l : List V} (hn : is.Nodup) (h : ∀ i ∈ is, hasV l i = true) : is.length ≤ l.length := by
 have h1 := nodup_sub (l' := (List.range l.length).map fun k : Nat => (k : Int)) hn fun i hi => by
  have h9 := of_decide_eq_true (h i hi)
  refine List.mem_map.2 ⟨i.toNat, List.mem_range.2 (by omega), by omega⟩
 simpa using h1
theorem InvE.bol {ep : Int} {l : List V} {q : LL} {bo : List En} {lv : List Int} (h : InvE ep l q bo lv) : bo.length ≤ l.length := by
 have h1 := has_len_le (l := l) h.bnd fun i hi => by
  have h9 := (h.bon i).1 hi
  refine yW (l := l) ?_
  rcases h9 with h9 | h9
  ·omega
  ·have := h9.1; omega
 simpa using h1
theorem InvE.lvl {ep : Int} {l : List V} {q : LL} {bo : List En} {lv : List Int} (h : InvE ep l q bo lv) : lv.length ≤ l.length :=
 has_len_le h.vnd fun i hi => yW (by have h9 := ((h.lvs i).1 hi).1; omega)
theorem sla_bd {v : V} {e : Int} {c : C} (he : 0 ≤ e ∧ e ≤ 1000000000) (hc : 0 ≤ c.sld ∧ c.sld ≤ 1048576) (h0 : 0 ≤ v.bal) (hm : v.bal ≤ 18446744073709551615) (hn : 0 ≤ c.pnum) (hd : 1 ≤ c.pden) : 0 ≤ (slaV v e c).2.1 ∧ (slaV v e c).2.1 ≤ 18446744073709551615 := by
 have h1 := burn_bd (c := c) h0 hn hd
 rw [sla_eq he hc h0 hm hn hd]
 split
 ·simp
 ·split
  ·simp
  ·simp only; omega
theorem slash_eng (eb rb cb lb bb ub mb xb b0 b1 pb gb tb : Nat) (c : C) (blk : Nat) (g : RG) (dep paid burn : Int) (bo : List En) (lv : List Int) (cur : Nat) (m : M) (q : LL) (pend : List Int) (mg : List PP) (pt : List Rq) (br : BR) (lA : Option Addr) (lc : Nat) (g0 g1 gp gg gt : Rg) (y : Op) (w : World) (hw : W0 [Res.blk eb 112 (ECell rb cb lb bb ub mb xb pb gb tb c lA (lv.length) lc), RgB rb g, RgW g, Res.im (RG.m g), CkB cb (blk) (c.elen.toNat), LgB lb (dep) (paid) (burn) (c.supc), bB_ bb br, bW_ br, bK_ br, bL_ xb b0 b1, rB_i b0 g0, rW_i g0, rB_i b1 g1, rW_i g1] w) (hi : Inv (Eg.mk c blk (RG.l g) dep paid burn bo lv cur m q pend mg pt)) (hg : g.Rep) (hcp : (g.cp : Int) = c.capa) (hbr : br.Rep bo) (h0 : g0.Rep 1 (q.f.map (fun v : Int => [Value.int .i64 v]))) (h1_ : g1.Rep 1 (q.v.map (fun v : Int => [Value.int .i64 v]))) (s0 : Rg.size g0 = c.qsize.toNat) (s1 : Rg.size g1 = c.qsize.toNat) : Own2 (ι := (RG × BR × Rg × Rg)) Tryz.prog 61 [.pointer (some ⟨eb, 0, none⟩), .agg y.c.toArray] w [Res.blk eb 112 (ECell rb cb lb bb ub mb xb pb gb tb c lA (lv.length) lc), RgB rb g, RgW g, Res.im (RG.m g), CkB cb (blk) (c.elen.toNat), LgB lb (dep) (paid) (burn) (c.supc), bB_ bb br, bW_ br, bK_ br, bL_ xb b0 b1, rB_i b0 g0, rW_i g0, rB_i b1 g1, rW_i g1] (fun x => x.1.Rep ∧ x.1.l = (slashE (Eg.mk c blk (RG.l g) dep paid burn bo lv cur m q pend mg pt) y.i).1.l ∧ x.1.cp = g.cp ∧ x.2.1.Rep (slashE (Eg.mk c blk (RG.l g) dep paid burn bo lv cur m q pend mg pt) y.i).1.bo ∧ x.2.2.1.Rep 1 ((slashE (Eg.mk c blk (RG.l g) dep paid burn bo lv cur m q pend mg pt) y.i).1.q.f.map (fun v : Int => [Value.int .i64 v])) ∧ x.2.2.2.Rep 1 ((slashE (Eg.mk c blk (RG.l g) dep paid burn bo lv cur m q pend mg pt) y.i).1.q.v.map (fun v : Int => [Value.int .i64 v])) ∧ x.2.2.1.size = c.qsize.toNat ∧ x.2.2.2.size = c.qsize.toNat) (fun x => .agg (Rs.c (slashE (Eg.mk c blk (RG.l g) dep paid burn bo lv cur m q pend mg pt) y.i).2).toArray) (fun x => []) (fun x => [Res.blk eb 112 (ECell rb cb lb bb ub mb xb pb gb tb c lA (lv.length) lc), RgB rb x.1, RgW x.1, Res.im (RG.m x.1), CkB cb (blk) (c.elen.toNat), LgB lb (dep) (paid) ((slashE (Eg.mk c blk (RG.l g) dep paid burn bo lv cur m q pend mg pt) y.i).1.burn) (c.supc), bB_ bb x.2.1, bW_ x.2.1, bK_ x.2.1, bL_ xb b0 b1, rB_i b0 x.2.2.1, rW_i x.2.2.1, rB_i b1 x.2.2.2, rW_i x.2.2.2]) := by
 refine g_st Tryz.func61 102 hw ?_
 have hok : Cok c := hi.cok
 have hmo : Cmo c := xD hi.cc
 have hblk : blk ≤ 1000000000 := hi.blk
 have hk : blk < 4611686018427387904 := by omega
 have hel : 1 ≤ c.elen.toNat ∧ c.elen.toNat ≤ 4611686018427387904 := by have := hok.elen; omega
 have hled : LOk c.supc dep paid burn := hi.led
 have hqf : q.f.length ≤ c.qsize.toNat ∧ q.v.length ≤ c.qsize.toNat := hi.qf
 have hsum : (bals (RG.l g)).sum = dep - paid - burn := hi.sum
 have hvo : ∀ i, hasV (RG.l g) i = true → VO (gotV (RG.l g) i) := hi.vo
 have hqs := hmo.qsize
 have hepb : 0 ≤ ((blk / c.elen.toNat : Nat) : Int) ∧ ((blk / c.elen.toNat : Nat) : Int) ≤ 1000000000 := hi.epb
 have hbs : (bals (RG.l g)).sum ≤ 18446744073709551615 := hg.mx
 have hpn : 0 ≤ c.pnum := hi.ck.pnum.1
 have hsd := hok.sld
 have hud := hok.unb
 have hgl := hg.le
 have hgc := hg.cp
 have hbol : bo.length ≤ (RG.l g).length := hi.e.bol
 refine rn [1] ?_
 refine g_op (g_box rfl rfl rfl fun b3 => ?_)
 refine g_op (zI rfl fun b4 => ?_)
 refine rn [0,8] ?_
 refine dreg [12] mixed rfl ?_
 refine rn [23,0,2,23,1,6,23,2,4,23,3,4,23,4,5,23,5,4,23,6,5] ?_
 refine dj [0, 3, 4] (fun (x : Nat) => [(5, .pointer (some ⟨x, 0, none⟩)), (6, .bool (hasV (RG.l g) y.i))]) (fun (x : Nat) => [Res.blk x 52 (V.c (gotV (RG.l g) y.i)), Res.blk b4 128 [Value.int .i64 0, .int .i64 0, .int .i64 0], Res.blk b3 35 y.c, Res.blk eb 112 (ECell rb cb lb bb ub mb xb pb gb tb c lA (lv.length) lc), RgB rb g, RgW g, Res.im (RG.m g), CkB cb (blk) (c.elen.toNat), LgB lb (dep) (paid) (burn) (c.supc), bB_ bb br, bW_ br, bK_ br, bL_ xb b0 b1, rB_i b0 g0, rW_i g0, rB_i b1 g1, rW_i g1]) ?_ ?_
 ·refine yB [7, 11] (by kernel_rfl) (by simp) zB ⟨dpick rfl (zK _ rfl (fun w1 hw1 ho1 => by exact rget_any rb g ((y).i) w1 ho1) rfl ?_), dpick rfl (zI rfl fun b5 => ?_), trivial⟩
  ·refine rn [23,8,2,23,9,40,24,10,40] ?_
   refine dop 11 rfl (zI rfl fun b5 => ?_)
   refine dop 12 rfl (zL rfl rfl rfl rfl rfl ?_)
   refine rn [24,13,3,28] ?_
   exact g_jn b5
  ·refine dop 7 rfl (zK _ rfl (fun w1 hw1 ho1 => by exact rget_any rb g ((y).i) w1 ho1) rfl ?_)
   refine rn [23,8,2,23,9,40,24,10,40] ?_
   refine dop 12 rfl (zL rfl rfl rfl rfl rfl ?_)
   refine rn [24,13,3,28] ?_
   exact g_jn b5
 ·rintro b5
  refine rn [7,8,1,2,48,0] ?_
  refine zC rfl (fun h1 => ?_) (fun h1 => ?_)
  ·have hb : (slashE (Eg.mk c blk (RG.l g) dep paid burn bo lv cur m q pend mg pt) y.i) = ((Eg.mk c blk (RG.l g) dep paid burn bo lv cur m q pend mg pt), ⟨7, 0, 0⟩) := by
     unfold slashE Eg.ep; dsimp only; rw [if_pos (by have h9 := h1; simpa using h9)]
   refine rn [1] ?_
   refine g_op (zG rfl (fun w1 hw1 => by exact yI (7) w1) rfl ?_)
   refine rn [33,0,11,13] ?_
   exact fin1 rfl (.cellw rfl rfl) (fun w' hw' => ⟨(g, br, g0, g1), (by (rw [hb]; exact ⟨hg, rfl, rfl, hbr, h0, h1_, s0, s1⟩)), by rw [hb]; rfl, by rw [hb]; exact zA w' hw'⟩) _ (.inl rfl)
  ·have n1 : ¬ hasV (RG.l g) y.i = false := by have h9 := h1; simpa using h9
   have hh : hasV (RG.l g) y.i = true := by simpa using n1
   have hv0 := hvo y.i hh
   have hbl := bal_le hvo hh
   have hbd := sla_bd (v := (gotV (RG.l g) y.i)) (e := ((blk / c.elen.toNat : Nat) : Int)) (c := c) hepb (by omega) hv0.b (by omega) hpn hmo.pden.1
   refine rn [12,7,8] ?_
   refine dreg [16] mixed rfl ?_
   refine rn [23,0,45,23,1,2,23,2,6,23,3,4,23,4,5,23,6,2,23,7,6,23,8,4] ?_
   refine dq 9 rfl (yS (c' := C.c c) rfl rfl rfl) ?_
   refine dj [0, 3, 4, 5] (fun (x : Nat) => [(7, .pointer (some ⟨x, 0, none⟩)), (8, .int .u64 (slaV (gotV (RG.l g) y.i) ((blk / c.elen.toNat : Nat) : Int) c).2.1), (9, .int .i64 (slaV (gotV (RG.l g) y.i) ((blk / c.elen.toNat : Nat) : Int) c).2.2)]) (fun (x : Nat) => [Res.blk x 52 (V.c (slaV (gotV (RG.l g) y.i) ((blk / c.elen.toNat : Nat) : Int) c).1), Res.blk b5 52 (V.c (gotV (RG.l g) y.i)), Res.blk b4 128 [Value.int .i64 0, .int .i64 0, .int .i64 0], Res.blk b3 35 y.c, Res.blk eb 112 (ECell rb cb lb bb ub mb xb pb gb tb c lA (lv.length) lc), RgB rb g, RgW g, Res.im (RG.m g), CkB cb (blk) (c.elen.toNat), LgB lb (dep) (paid) (burn) (c.supc), bB_ bb br, bW_ br, bK_ br, bL_ xb b0 b1, rB_i b0 g0, rW_i g0, rB_i b1 g1, rW_i g1]) ?_ ?_
   ·refine yB [5, 15] (by kernel_rfl) (by simp) zB ⟨dpick rfl (zK _ rfl (fun w1 hw1 ho1 => by exact zZ cb blk c.elen.toNat w1 ho1 (by omega) hel) rfl ?_), dpick rfl (zI rfl fun b7 => ?_), trivial⟩
    ·refine yB [10, 15] (by kernel_rfl) (by simp) zB ⟨dpick rfl (zG rfl (fun w1 hw1 => slash_any ((gotV (RG.l g) (y).i)) ((((blk / c.elen.toNat) : Nat) : Int)) (c) w1 ⟨by omega, by omega⟩ ⟨by omega, by omega⟩ (hv0.i64 (by omega)) hpn hmo.pden hmo.pnum) rfl ?_), dpick rfl (zI rfl fun b7 => ?_), trivial⟩
     ·refine rn [23,11,2,23,12,40,24,13,40,24,14,40] ?_
      refine dop 15 rfl (zI rfl fun b7 => ?_)
      refine dop 16 rfl (zL rfl rfl rfl rfl rfl ?_)
      refine rn [24,17,3,24,18,3,28] ?_
      exact g_jn b7
     ·refine dop 10 rfl (zG rfl (fun w1 hw1 => slash_any ((gotV (RG.l g) (y).i)) ((((blk / c.elen.toNat) : Nat) : Int)) (c) w1 ⟨by omega, by omega⟩ ⟨by omega, by omega⟩ (hv0.i64 (by omega)) hpn hmo.pden hmo.pnum) rfl ?_)
      refine rn [23,11,2,23,12,40,24,13,40,24,14,40] ?_
      refine dop 16 rfl (zL rfl rfl rfl rfl rfl ?_)
      refine rn [24,17,3,24,18,3,28] ?_
      exact g_jn b7
    ·refine dop 5 rfl (zK _ rfl (fun w1 hw1 ho1 => by exact zZ cb blk c.elen.toNat w1 ho1 (by omega) hel) rfl ?_)
     refine dop 10 rfl (zG rfl (fun w1 hw1 => slash_any ((gotV (RG.l g) (y).i)) ((((blk / c.elen.toNat) : Nat) : Int)) (c) w1 ⟨by omega, by omega⟩ ⟨by omega, by omega⟩ (hv0.i64 (by omega)) hpn hmo.pden hmo.pnum) rfl ?_)
     refine rn [23,11,2,23,12,40,24,13,40,24,14,40] ?_
     refine dop 16 rfl (zL rfl rfl rfl rfl rfl ?_)
     refine rn [24,17,3,24,18,3,28] ?_
     exact g_jn b7
   ·rintro b7
    refine rn [7,8,1,2,44,2] ?_
    refine zV 41 rfl (fun h2 => ?_) (fun h2 => ?_)
    ·have n2 : (slaV (gotV (RG.l g) y.i) ((blk / c.elen.toNat : Nat) : Int) c).2.2 = 9 := by have h9 := h2; simpa using h9
     have hb : (slashE (Eg.mk c blk (RG.l g) dep paid burn bo lv cur m q pend mg pt) y.i) = ((Eg.mk c blk (RG.l g) dep paid burn bo lv cur m q pend mg pt), ⟨(slaV (gotV (RG.l g) y.i) ((blk / c.elen.toNat : Nat) : Int) c).2.2, 0, 0⟩) := by
       unfold slashE Eg.ep; dsimp only; rw [if_neg n1, if_pos (.inl n2)]
     refine rn [21,21,41,0,19,1,2] ?_
     refine g_op (zG rfl (fun w1 hw1 => by exact yI ((slaV (gotV (RG.l g) (y).i) (((blk / c.elen.toNat) : Nat) : Int) c).2.2) w1) rfl ?_)
     refine rn [33,0,11,13] ?_
     exact fin1 rfl (.cellw rfl rfl) (fun w' hw' => ⟨(g, br, g0, g1), (by (rw [hb]; exact ⟨hg, rfl, rfl, hbr, h0, h1_, s0, s1⟩)), by rw [hb]; rfl, by rw [hb]; exact zA w' hw'⟩) _ (.inl rfl)
    ·have n2 : ¬ (slaV (gotV (RG.l g) y.i) ((blk / c.elen.toNat : Nat) : Int) c).2.2 = 9 := by have h9 := h2; simpa using h9
     refine rn [22,2,22,44,42,0] ?_
     refine zC rfl (fun h3 => ?_) (fun h3 => ?_)
     ·have n3 : (slaV (gotV (RG.l g) y.i) ((blk / c.elen.toNat : Nat) : Int) c).2.2 = 8 := by have h9 := h3; simpa using h9
      have hb : (slashE (Eg.mk c blk (RG.l g) dep paid burn bo lv cur m q pend mg pt) y.i) = ((Eg.mk c blk (RG.l g) dep paid burn bo lv cur m q pend mg pt), ⟨(slaV (gotV (RG.l g) y.i) ((blk / c.elen.toNat : Nat) : Int) c).2.2, 0, 0⟩) := by
        unfold slashE Eg.ep; dsimp only; rw [if_neg n1, if_pos (.inr n3)]
      refine rn [1,2] ?_
      refine g_op (zG rfl (fun w1 hw1 => by exact yI ((slaV (gotV (RG.l g) (y).i) (((blk / c.elen.toNat) : Nat) : Int) c).2.2) w1) rfl ?_)
      refine rn [33,0,11,13] ?_
      exact fin1 rfl (.cellw rfl rfl) (fun w' hw' => ⟨(g, br, g0, g1), (by (rw [hb]; exact ⟨hg, rfl, rfl, hbr, h0, h1_, s0, s1⟩)), by rw [hb]; rfl, by rw [hb]; exact zA w' hw'⟩) _ (.inl rfl)
     ·have n3 : ¬ (slaV (gotV (RG.l g) y.i) ((blk / c.elen.toNat : Nat) : Int) c).2.2 = 8 := by have h9 := h3; simpa using h9
      have n4 : ¬ ((slaV (gotV (RG.l g) y.i) ((blk / c.elen.toNat : Nat) : Int) c).2.2 = 9 ∨ (slaV (gotV (RG.l g) y.i) ((blk / c.elen.toNat : Nat) : Int) c).2.2 = 8) := by omega
      refine rn [12,7,8,1,4,5,44,2] ?_
      refine zV 50 rfl (fun h4 => ?_) (fun h4 => ?_)
      ·have c2 : (gotV (RG.l g) y.i).st = 2 := by have h9 := h4; simpa using h9
       refine rn [22,2,22,6,22,4,22,5] ?_
       refine g_gt rfl rfl (zK _ rfl (fun w1 hw1 ho1 => by exact lfree_any xb b0 b1 g0 g1 q c.qsize.toNat (0) w1 ho1 h0 h1_ s0 s1 (by omega)) rfl ?_)
       refine rn [22,44,41,0] ?_
       refine zC rfl (fun h5 => ?_) (fun h5 => ?_)
       ·have hb : (slashE (Eg.mk c blk (RG.l g) dep paid burn bo lv cur m q pend mg pt) y.i) = ((Eg.mk c blk (RG.l g) dep paid burn bo lv cur m q pend mg pt), ⟨6, 0, 0⟩) := by
          unfold slashE Eg.ep; dsimp only; rw [if_neg n1, if_neg n4, if_pos ⟨c2, by have h9 := h5; simpa using h9⟩]
        refine rn [1] ?_
        refine g_op (zG rfl (fun w1 hw1 => by exact yI (6) w1) rfl ?_)
        refine rn [33,0,11,13] ?_
        exact fin1 rfl (.cellw rfl rfl) (fun w' hw' => ⟨(g, br, g0, g1), (by (rw [hb]; exact ⟨hg, rfl, rfl, hbr, h0, h1_, s0, s1⟩)), by rw [hb]; rfl, by rw [hb]; exact zA w' hw'⟩) _ (.inl rfl)
       ·have n5 : ¬ ((gotV (RG.l g) y.i).st = 2 ∧ freeL c.qsize.toNat 0 q = 0) := fun h => by have h9 := h5; simp at h9; omega
        refine rn [12,7,8,1,2,51,0] ?_
        refine zC rfl (fun h6 => ?_) (fun h6 => ?_)
        ·have n6 : (slaV (gotV (RG.l g) y.i) ((blk / c.elen.toNat : Nat) : Int) c).2.2 ≠ 0 := by have h9 := h6; simpa using h9
         have hb : (slashE (Eg.mk c blk (RG.l g) dep paid burn bo lv cur m q pend mg pt) y.i) = ((Eg.mk c blk (RG.l g) dep paid burn bo lv cur m q pend mg pt), ⟨(slaV (gotV (RG.l g) y.i) ((blk / c.elen.toNat : Nat) : Int) c).2.2, 0, 0⟩) := by
           unfold slashE Eg.ep; dsimp only; rw [if_neg n1, if_neg n4, if_neg n5, if_pos n6]
         refine rn [1,2] ?_
         refine g_op (zG rfl (fun w1 hw1 => by exact yI ((slaV (gotV (RG.l g) (y).i) (((blk / c.elen.toNat) : Nat) : Int) c).2.2) w1) rfl ?_)
         refine rn [33,0,11,13] ?_
         exact fin1 rfl (.cellw rfl rfl) (fun w' hw' => ⟨(g, br, g0, g1), (by (rw [hb]; exact ⟨hg, rfl, rfl, hbr, h0, h1_, s0, s1⟩)), by rw [hb]; rfl, by rw [hb]; exact zA w' hw'⟩) _ (.inl rfl)
        ·have n6 : (slaV (gotV (RG.l g) y.i) ((blk / c.elen.toNat : Nat) : Int) c).2.2 = 0 := by have h9 := h6; simpa using h9
         have hb : (slashE (Eg.mk c blk (RG.l g) dep paid burn bo lv cur m q pend mg pt) y.i) = ((Eg.mk c blk ((RG.l g).set y.i.toNat (slaV (gotV (RG.l g) y.i) ((blk / c.elen.toNat : Nat) : Int) c).1) dep paid (if bookC dep paid burn (slaV (gotV (RG.l g) y.i) ((blk / c.elen.toNat : Nat) : Int) c).2.1 = 0 then burn + (slaV (gotV (RG.l g) y.i) ((blk / c.elen.toNat : Nat) : Int) c).2.1 else burn) (if (gotV (RG.l g) y.i).st = 5 then putE bo (slaV (gotV (RG.l g) y.i) ((blk / c.elen.toNat : Nat) : Int) c).1.wd y.i else bo) lv cur m (if (gotV (RG.l g) y.i).st = 2 then pushL c.qsize.toNat 0 y.i q else q) pend mg pt), ⟨0, y.i, -1⟩) := by
           unfold slashE Eg.ep; dsimp only; rw [if_neg n1, if_neg n4, if_neg n5, if_neg (fun h => h n6)]
         have hiN : Inv (Eg.mk c blk ((RG.l g).set y.i.toNat (slaV (gotV (RG.l g) y.i) ((blk / c.elen.toNat : Nat) : Int) c).1) dep paid (if bookC dep paid burn (slaV (gotV (RG.l g) y.i) ((blk / c.elen.toNat : Nat) : Int) c).2.1 = 0 then burn + (slaV (gotV (RG.l g) y.i) ((blk / c.elen.toNat : Nat) : Int) c).2.1 else burn) (if (gotV (RG.l g) y.i).st = 5 then putE bo (slaV (gotV (RG.l g) y.i) ((blk / c.elen.toNat : Nat) : Int) c).1.wd y.i else bo) lv cur m (if (gotV (RG.l g) y.i).st = 2 then pushL c.qsize.toNat 0 y.i q else q) pend mg pt) := by have h9 := slashE_inv hi (i := y.i); rw [hb] at h9; exact h9
         have hchg := chg_ok (v := (slaV (gotV (RG.l g) y.i) ((blk / c.elen.toNat : Nat) : Int) c).1) hiN.vo (by have h9 := hiN.sum; have h8 := hiN.led; obtain ⟨e1, e2, e3, e4, e5, e6⟩ := h8; simp only at h9 e1 e2 e3 e4; omega) hh
         refine rn [12,7,8] ?_
         refine dregL (L0 := [Res.blk eb 112 (ECell rb cb lb bb ub mb xb pb gb tb c lA (lv.length) lc), Res.blk b3 35 y.c, Res.blk b7 52 (V.c (slaV (gotV (RG.l g) y.i) ((blk / c.elen.toNat : Nat) : Int) c).1)]) [] mixed rfl zB ?_
         refine rn [23,0,2,23,1,6,23,2,4] ?_
         refine dq 3 rfl (yS (c' := [Value.pointer (some ⟨rb, 0, none⟩)]) rfl rfl rfl) ?_
         refine rn [23,4,4,23,5,5,23,6,45] ?_
         refine dop 7 rfl (zH _ rfl (fun w1 hw1 ho1 => by have h7 := xB rb g ((y).i) ((slaV (gotV (RG.l g) (y).i) (((blk / c.elen.toNat) : Nat) : Int) c).1) w1 ho1 hg hchg.1 hchg.2; exact h7) rfl ?_)
         rintro g70 ⟨r70, l70, c70⟩
         refine ii ?_
         refine rn [27,7,1,2,6,4,5,2] ?_
         refine g_op (zH _ rfl (fun w1 hw1 ho1 => by have h7 := lburn_any lb dep paid burn c.supc ((slaV (gotV (RG.l g) (y).i) (((blk / c.elen.toNat) : Nat) : Int) c).2.1) w1 ho1 hled hbd; exact h7) rfl ?_)
         rintro ⟨⟩ _
         refine ii ?_
         refine rn [0,8,1,4,5,0,14,1,44,3,0] ?_
         refine zC rfl (fun h7 => ?_) (fun h7 => ?_)
         ·have d2 : (gotV (RG.l g) y.i).st = 2 := by have h9 := h7; simpa using h9
          rw [if_pos d2, if_neg (show ¬ (gotV (RG.l g) y.i).st = 5 by omega)] at hb
          refine dregL (L0 := [Res.blk eb 112 (ECell rb cb lb bb ub mb xb pb gb tb c lA (lv.length) lc), Res.blk b3 35 y.c, Res.blk b7 52 (V.c (slaV (gotV (RG.l g) y.i) ((blk / c.elen.toNat : Nat) : Int) c).1)]) [] mixed rfl zB ?_
          refine rn [23,0,2,23,1,6,23,2,4,23,3,5,23,4,4,23,5,5] ?_
          refine dop 6 rfl (zH _ rfl (fun w1 hw1 ho1 => by have h7 := lpush_any xb b0 b1 g0 g1 q c.qsize.toNat (0) ((y).i) w1 ho1 h0 h1_ s0 s1 (by omega); exact h7) rfl ?_)
          rintro ⟨g87, gg87⟩ ⟨r87, rr87, s87, ss87⟩
          refine ii ?_
          simp only at r87 rr87 s87 ss87
          refine rn [27,15,7,1,4,5] ?_
          refine g_op (zG rfl (fun w1 hw1 => by exact xI ((y).i) ((-1)) w1) rfl ?_)
          refine rn [33,0,11] ?_
          exact fin1 rfl (.cellw rfl rfl) (fun w' hw' => ⟨(g70, br, g87, gg87), (by (rw [hb]; exact ⟨r70, by rw [l70, set_eq hh], c70, hbr, r87, rr87, s87, ss87⟩)), by rw [hb]; rfl, by rw [hb]; exact zA w' hw'⟩) _ (.inl rfl)
         ·have d2 : ¬ (gotV (RG.l g) y.i).st = 2 := by have h9 := h7; simpa using h9
          rw [if_neg d2] at hb
          refine rn [1,44,3,0] ?_
          refine zC rfl (fun h8 => ?_) (fun h8 => ?_)
          ·have d5 : (gotV (RG.l g) y.i).st = 5 := by have h9 := h8; simpa using h9
           rw [if_pos d5] at hb
           refine dregL (L0 := [Res.blk eb 112 (ECell rb cb lb bb ub mb xb pb gb tb c lA (lv.length) lc), Res.blk b3 35 y.c, Res.blk b7 52 (V.c (slaV (gotV (RG.l g) y.i) ((blk / c.elen.toNat : Nat) : Int) c).1)]) [] mixed rfl zB ?_
           refine rn [23,0,2,23,1,6,23,2,4,23,3,5,23,4,4,23,5,5,23,6,4,23,7,5] ?_
           refine dop 8 rfl (zH _ rfl (fun w1 hw1 ho1 => by have h7 := bput_any bb br bo (((slaV (gotV (RG.l g) (y).i) (((blk / c.elen.toNat) : Nat) : Int) c).1).wd) ((y).i) w1 ho1 hbr (by first | omega | (simp; omega)); exact h7) rfl ?_)
           rintro g98 ⟨r98, s98⟩
           refine ii ?_
           refine rn [27,15,7,1,4,5] ?_
           refine g_op (zG rfl (fun w1 hw1 => by exact xI ((y).i) ((-1)) w1) rfl ?_)
           refine rn [33,0,11] ?_
           exact fin1 rfl (.cellw rfl rfl) (fun w' hw' => ⟨(g70, g98, g0, g1), (by (rw [hb]; exact ⟨r70, by rw [l70, set_eq hh], c70, r98, h0, h1_, s0, s1⟩)), by rw [hb]; rfl, by rw [hb]; exact zA w' hw'⟩) _ (.inl rfl)
          ·have d5 : ¬ (gotV (RG.l g) y.i).st = 5 := by have h9 := h8; simpa using h9
           rw [if_neg d5] at hb
           refine rn [12,15,7,1,4,5] ?_
           refine g_op (zG rfl (fun w1 hw1 => by exact xI ((y).i) ((-1)) w1) rfl ?_)
           refine rn [33,0,11] ?_
           exact fin1 rfl (.cellw rfl rfl) (fun w' hw' => ⟨(g70, br, g0, g1), (by (rw [hb]; exact ⟨r70, by rw [l70, set_eq hh], c70, hbr, h0, h1_, s0, s1⟩)), by rw [hb]; rfl, by rw [hb]; exact zA w' hw'⟩) _ (.inl rfl)
      ·have c2 : ¬ (gotV (RG.l g) y.i).st = 2 := by have h9 := h4; simpa using h9
       have n5 : ¬ ((gotV (RG.l g) y.i).st = 2 ∧ freeL c.qsize.toNat 0 q = 0) := fun h => c2 h.1
       refine rn [21,21,21,21,21,21,42,0,20,12,7,8,1,2,51,0] ?_
       refine zC rfl (fun h9 => ?_) (fun h9 => ?_)
       ·have n6 : (slaV (gotV (RG.l g) y.i) ((blk / c.elen.toNat : Nat) : Int) c).2.2 ≠ 0 := by have h9 := h9; simpa using h9
        have hb : (slashE (Eg.mk c blk (RG.l g) dep paid burn bo lv cur m q pend mg pt) y.i) = ((Eg.mk c blk (RG.l g) dep paid burn bo lv cur m q pend mg pt), ⟨(slaV (gotV (RG.l g) y.i) ((blk / c.elen.toNat : Nat) : Int) c).2.2, 0, 0⟩) := by
          unfold slashE Eg.ep; dsimp only; rw [if_neg n1, if_neg n4, if_neg n5, if_pos n6]
        refine rn [1,2] ?_
        refine g_op (zG rfl (fun w1 hw1 => by exact yI ((slaV (gotV (RG.l g) (y).i) (((blk / c.elen.toNat) : Nat) : Int) c).2.2) w1) rfl ?_)
        refine rn [33,0,11,13] ?_
        exact fin1 rfl (.cellw rfl rfl) (fun w' hw' => ⟨(g, br, g0, g1), (by (rw [hb]; exact ⟨hg, rfl, rfl, hbr, h0, h1_, s0, s1⟩)), by rw [hb]; rfl, by rw [hb]; exact zA w' hw'⟩) _ (.inl rfl)
       ·have n6 : (slaV (gotV (RG.l g) y.i) ((blk / c.elen.toNat : Nat) : Int) c).2.2 = 0 := by have h9 := h9; simpa using h9
        have hb : (slashE (Eg.mk c blk (RG.l g) dep paid burn bo lv cur m q pend mg pt) y.i) = ((Eg.mk c blk ((RG.l g).set y.i.toNat (slaV (gotV (RG.l g) y.i) ((blk / c.elen.toNat : Nat) : Int) c).1) dep paid (if bookC dep paid burn (slaV (gotV (RG.l g) y.i) ((blk / c.elen.toNat : Nat) : Int) c).2.1 = 0 then burn + (slaV (gotV (RG.l g) y.i) ((blk / c.elen.toNat : Nat) : Int) c).2.1 else burn) (if (gotV (RG.l g) y.i).st = 5 then putE bo (slaV (gotV (RG.l g) y.i) ((blk / c.elen.toNat : Nat) : Int) c).1.wd y.i else bo) lv cur m (if (gotV (RG.l g) y.i).st = 2 then pushL c.qsize.toNat 0 y.i q else q) pend mg pt), ⟨0, y.i, -1⟩) := by
          unfold slashE Eg.ep; dsimp only; rw [if_neg n1, if_neg n4, if_neg n5, if_neg (fun h => h n6)]
        have hiN : Inv (Eg.mk c blk ((RG.l g).set y.i.toNat (slaV (gotV (RG.l g) y.i) ((blk / c.elen.toNat : Nat) : Int) c).1) dep paid (if bookC dep paid burn (slaV (gotV (RG.l g) y.i) ((blk / c.elen.toNat : Nat) : Int) c).2.1 = 0 then burn + (slaV (gotV (RG.l g) y.i) ((blk / c.elen.toNat : Nat) : Int) c).2.1 else burn) (if (gotV (RG.l g) y.i).st = 5 then putE bo (slaV (gotV (RG.l g) y.i) ((blk / c.elen.toNat : Nat) : Int) c).1.wd y.i else bo) lv cur m (if (gotV (RG.l g) y.i).st = 2 then pushL c.qsize.toNat 0 y.i q else q) pend mg pt) := by have h9 := slashE_inv hi (i := y.i); rw [hb] at h9; exact h9
        have hchg := chg_ok (v := (slaV (gotV (RG.l g) y.i) ((blk / c.elen.toNat : Nat) : Int) c).1) hiN.vo (by have h9 := hiN.sum; have h8 := hiN.led; obtain ⟨e1, e2, e3, e4, e5, e6⟩ := h8; simp only at h9 e1 e2 e3 e4; omega) hh
        refine rn [12,7,8] ?_
        refine dregL (L0 := [Res.blk eb 112 (ECell rb cb lb bb ub mb xb pb gb tb c lA (lv.length) lc), Res.blk b3 35 y.c, Res.blk b7 52 (V.c (slaV (gotV (RG.l g) y.i) ((blk / c.elen.toNat : Nat) : Int) c).1)]) [] mixed rfl zB ?_
        refine rn [23,0,2,23,1,6,23,2,4] ?_
        refine dq 3 rfl (yS (c' := [Value.pointer (some ⟨rb, 0, none⟩)]) rfl rfl rfl) ?_
        refine rn [23,4,4,23,5,5,23,6,45] ?_
        refine dop 7 rfl (zH _ rfl (fun w1 hw1 ho1 => by have h7 := xB rb g ((y).i) ((slaV (gotV (RG.l g) (y).i) (((blk / c.elen.toNat) : Nat) : Int) c).1) w1 ho1 hg hchg.1 hchg.2; exact h7) rfl ?_)
        rintro g70 ⟨r70, l70, c70⟩
        refine ii ?_
        refine rn [27,7,1,2,6,4,5,2] ?_
        refine g_op (zH _ rfl (fun w1 hw1 ho1 => by have h7 := lburn_any lb dep paid burn c.supc ((slaV (gotV (RG.l g) (y).i) (((blk / c.elen.toNat) : Nat) : Int) c).2.1) w1 ho1 hled hbd; exact h7) rfl ?_)
        rintro ⟨⟩ _
        refine ii ?_
        refine rn [0,8,1,4,5,0,14,1,44,3,0] ?_
        refine zC rfl (fun h10 => ?_) (fun h10 => ?_)
        ·have d2 : (gotV (RG.l g) y.i).st = 2 := by have h9 := h10; simpa using h9
         rw [if_pos d2, if_neg (show ¬ (gotV (RG.l g) y.i).st = 5 by omega)] at hb
         refine dregL (L0 := [Res.blk eb 112 (ECell rb cb lb bb ub mb xb pb gb tb c lA (lv.length) lc), Res.blk b3 35 y.c, Res.blk b7 52 (V.c (slaV (gotV (RG.l g) y.i) ((blk / c.elen.toNat : Nat) : Int) c).1)]) [] mixed rfl zB ?_
         refine rn [23,0,2,23,1,6,23,2,4,23,3,5,23,4,4,23,5,5] ?_
         refine dop 6 rfl (zH _ rfl (fun w1 hw1 ho1 => by have h7 := lpush_any xb b0 b1 g0 g1 q c.qsize.toNat (0) ((y).i) w1 ho1 h0 h1_ s0 s1 (by omega); exact h7) rfl ?_)
         rintro ⟨g87, gg87⟩ ⟨r87, rr87, s87, ss87⟩
         refine ii ?_
         simp only at r87 rr87 s87 ss87
         refine rn [27,15,7,1,4,5] ?_
         refine g_op (zG rfl (fun w1 hw1 => by exact xI ((y).i) ((-1)) w1) rfl ?_)
         refine rn [33,0,11] ?_
         exact fin1 rfl (.cellw rfl rfl) (fun w' hw' => ⟨(g70, br, g87, gg87), (by (rw [hb]; exact ⟨r70, by rw [l70, set_eq hh], c70, hbr, r87, rr87, s87, ss87⟩)), by rw [hb]; rfl, by rw [hb]; exact zA w' hw'⟩) _ (.inl rfl)
        ·have d2 : ¬ (gotV (RG.l g) y.i).st = 2 := by have h9 := h10; simpa using h9
         rw [if_neg d2] at hb
         refine rn [1,44,3,0] ?_
         refine zC rfl (fun h11 => ?_) (fun h11 => ?_)
         ·have d5 : (gotV (RG.l g) y.i).st = 5 := by have h9 := h11; simpa using h9
          rw [if_pos d5] at hb
          refine dregL (L0 := [Res.blk eb 112 (ECell rb cb lb bb ub mb xb pb gb tb c lA (lv.length) lc), Res.blk b3 35 y.c, Res.blk b7 52 (V.c (slaV (gotV (RG.l g) y.i) ((blk / c.elen.toNat : Nat) : Int) c).1)]) [] mixed rfl zB ?_
          refine rn [23,0,2,23,1,6,23,2,4,23,3,5,23,4,4,23,5,5,23,6,4,23,7,5] ?_
          refine dop 8 rfl (zH _ rfl (fun w1 hw1 ho1 => by have h7 := bput_any bb br bo (((slaV (gotV (RG.l g) (y).i) (((blk / c.elen.toNat) : Nat) : Int) c).1).wd) ((y).i) w1 ho1 hbr (by first | omega | (simp; omega)); exact h7) rfl ?_)
          rintro g98 ⟨r98, s98⟩
          refine ii ?_
          refine rn [27,15,7,1,4,5] ?_
          refine g_op (zG rfl (fun w1 hw1 => by exact xI ((y).i) ((-1)) w1) rfl ?_)
          refine rn [33,0,11] ?_
          exact fin1 rfl (.cellw rfl rfl) (fun w' hw' => ⟨(g70, g98, g0, g1), (by (rw [hb]; exact ⟨r70, by rw [l70, set_eq hh], c70, r98, h0, h1_, s0, s1⟩)), by rw [hb]; rfl, by rw [hb]; exact zA w' hw'⟩) _ (.inl rfl)
         ·have d5 : ¬ (gotV (RG.l g) y.i).st = 5 := by have h9 := h11; simpa using h9
          rw [if_neg d5] at hb
          refine rn [12,15,7,1,4,5] ?_
          refine g_op (zG rfl (fun w1 hw1 => by exact xI ((y).i) ((-1)) w1) rfl ?_)
          refine rn [33,0,11] ?_
          exact fin1 rfl (.cellw rfl rfl) (fun w' hw' => ⟨(g70, br, g0, g1), (by (rw [hb]; exact ⟨r70, by rw [l70, set_eq hh], c70, hbr, h0, h1_, s0, s1⟩)), by rw [hb]; rfl, by rw [hb]; exact zA w' hw'⟩) _ (.inl rfl)
def ripK (e : Int) (s : List V × List En) (k : Nat) : List V × List En := ((dueO e s.2).take k).foldl (ripS e) (s.1, keepE e s.2)
theorem ripK_end (e : Int) (s : List V × List En) : ripK e s (dueO e s.2).length = ripE e s := by unfold ripK ripE; rw [List.take_length]
theorem fold_succ {α β : Type} (f : β → α → β) (s : β) {l : List α} {k : Nat} (h : k < l.length) : (l.take (k + 1)).foldl f s = f ((l.take k).foldl f s) l[k] := by
 rw [← List.take_append_getElem h, List.foldl_append]; rfl
theorem ripK_succ {e : Int} {s : List V × List En} {k : Nat} (h : k < (dueO e s.2).length) : ripK e s (k + 1) = ripS e (ripK e s k) (dueO e s.2)[k] := fold_succ _ _ h
def stR (l : List V) : Prop := ∀ v ∈ l, 0 ≤ v.st ∧ v.st ≤ 7
theorem stR_ev {l : List V} (h : stR l) (i e : Int) : stR (evV l i e) := by
 unfold evV
 split
 ·intro v hv
  rcases List.mem_or_eq_of_mem_set hv with hv | hv
  ·exact h v hv
  ·rw [hv]; exact nxt_rng _ _
 ·exact h
theorem stR_rip {e : Int} {s : List V × List En} (h : stR s.1) : ∀ k, stR (ripK e s k).1 := by
 have key : ∀ (is : List Int) (s : List V × List En), stR s.1 → stR (is.foldl (ripS e) s).1 := fun is => by
  induction is with
  | nil => exact fun _ h => h
  | cons i is ih =>
   intro s h
   refine ih _ ?_
   unfold ripS; split
   ·exact h
   ·exact stR_ev h _ _
 exact fun k => key _ _ h
theorem ripK_len {e : Int} {s : List V × List En} (k : Nat) : (ripK e s k).2.length ≤ s.2.length := by
 have key : ∀ (is : List Int) (s : List V × List En), (is.foldl (ripS e) s).2.length ≤ s.2.length + is.length := fun is => by
  induction is with
  | nil => exact fun _ => Nat.le_refl _
  | cons i is ih =>
   intro s
   have h1 := ih (ripS e s i)
   have h2 : (ripS e s i).2.length ≤ s.2.length + 1 := by
    unfold ripS putE; split
    ·simp only; split <;> simp
    ·simp
   simp only [List.foldl_cons, List.length_cons]; omega
 have h1 := key ((dueO e s.2).take k) (s.1, keepE e s.2)
 have h2 := due_keep e s.2
 simp only [List.length_take] at h1
 unfold ripK; omega
theorem ripen_any (eb rb cb lb bb ub mb xb b0 b1 pb gb tb : Nat) (c : C) (blk : Nat) (g : RG) (dep paid burn : Int) (bo : List En) (lv : List Int) (cur : Nat) (m : M) (q : LL) (pend : List Int) (mg : List PP) (pt : List Rq) (br : BR) (lA : Option Addr) (lc : Nat) (g0 g1 gp gg gt : Rg) (e : Int) (w : World) (hw : W0 [Res.blk eb 112 (ECell rb cb lb bb ub mb xb pb gb tb c lA (lv.length) lc), RgB rb g, RgW g, Res.im (RG.m g), bB_ bb br, bW_ br, bK_ br] w) (hg : g.Rep) (hcp : (g.cp : Int) = c.capa) (hbr : br.Rep bo) (hst : stR (RG.l g)) (hbl : bo.length ≤ 100000) : Own2 (ι := (RG × BR)) Tryz.prog 149 [.pointer (some ⟨eb, 0, none⟩), .int .i64 e] w [Res.blk eb 112 (ECell rb cb lb bb ub mb xb pb gb tb c lA (lv.length) lc), RgB rb g, RgW g, Res.im (RG.m g), bB_ bb br, bW_ br, bK_ br] (fun x => x.1.Rep ∧ x.1.l = (ripE e (RG.l g, bo)).1 ∧ x.1.cp = g.cp ∧ x.2.Rep (ripE e (RG.l g, bo)).2) (fun x => .tuple #[]) (fun x => []) (fun x => [Res.blk eb 112 (ECell rb cb lb bb ub mb xb pb gb tb c lA (lv.length) lc), RgB rb x.1, RgW x.1, Res.im (RG.m x.1), bB_ bb x.2, bW_ x.2, bK_ x.2]) := by
 refine g_st Tryz.func149 48 hw ?_
 refine rn [1,2,6,4,5,2] ?_
 refine g_op (zH _ rfl (fun w1 hw1 ho1 => by have h7 := bdue_any bb br bo (e) w1 ho1 hbr (by first | omega | (simp; omega)); exact h7) rfl ?_)
 rintro ⟨A13, cap13, g13⟩ ⟨r13, s13⟩
 refine ii ?_
 simp only at r13 s13
 refine rn [47,2,0,14] ?_
 refine g_lk [0, 1, 13, 14] (fun (x : Nat × RG × BR) => [(15, .int .i64 ((x.1 : Nat) : Int))]) (fun (x : Nat × RG × BR) => [Res.row A13 (dueO e bo).length cap13 3 1 ((dueO e bo).map (fun v : Int => [Value.int .i64 v])), Res.blk eb 112 (ECell rb cb lb bb ub mb xb pb gb tb c lA (lv.length) lc), RgB rb x.2.1, RgW x.2.1, Res.im (RG.m x.2.1), bB_ bb x.2.2, bW_ x.2.2, bK_ x.2.2]) (fun (x : Nat × RG × BR) => x.1 ≤ (dueO e bo).length ∧ RG.Rep x.2.1 ∧ RG.l x.2.1 = (ripK e (RG.l g, bo) x.1).1 ∧ RG.cp x.2.1 = RG.cp g ∧ BR.Rep x.2.2 (ripK e (RG.l g, bo) x.1).2) (fun (x : Nat × RG × BR) => (dueO e bo).length - x.1) (0, g, g13) (by (try dsimp only); exact ⟨Nat.zero_le _, hg, rfl, rfl, r13⟩) ?_
 rintro ⟨k, g9, br9⟩ ⟨le_k, hr9, hl9, hc9, hb9⟩
 replace le_k : k ≤ (dueO e bo).length := le_k
 replace hr9 : RG.Rep g9 := hr9
 replace hl9 : RG.l g9 = (ripK e (RG.l g, bo) k).1 := hl9
 replace hc9 : RG.cp g9 = RG.cp g := hc9
 replace hb9 : BR.Rep br9 (ripK e (RG.l g, bo) k).2 := hb9
 refine zX (L' := [Res.row A13 (dueO e bo).length cap13 3 1 ((dueO e bo).map (fun v : Int => [Value.int .i64 v])), Res.blk eb 112 (ECell rb cb lb bb ub mb xb pb gb tb c lA (lv.length) lc), RgB rb g9, RgW g9, Res.im (RG.m g9), bB_ bb br9, bW_ br9, bK_ br9]) rfl ?_
 refine g_val 15 (v' := .int .i64 ((k : Nat) : Int)) rfl rfl ?_
 have hst9 : stR (RG.l g9) := by rw [hl9]; exact stR_rip hst k
 have hln9 := ripK_len (e := e) (s := (RG.l g, bo)) k
 simp only at hln9
 have hdl9 := dueO_le e bo
 refine rn [1,46,0,8] ?_
 refine zC rfl (fun h1 => ?_) (fun h1 => ?_)
 ·have lt_k : k < (dueO e bo).length := by have h9 := of_decide_eq_true h1; omega
  refine rn [12,7,8,14,1] ?_
  refine s_q (zR (i := k) rfl rfl rfl (InRow.rdb (A := A13) (els := ((dueO e bo)).map (fun v : Int => [Value.int .i64 v])) (by first | rfl | assumption | (simp; done) | (simp_all; done) | (simp; omega) | (simp_all; omega)) (zM (c := (fun v : Int => [Value.int .i64 v])) (fun _ => rfl) _)) (by first | exact lt_k | omega)) rfl ?_
  refine s_q (yL (i := k) (o := 0) rfl (InRow.rdb (A := A13) (els := ((dueO e bo)).map (fun v : Int => [Value.int .i64 v])) (by first | rfl | assumption | (simp; done) | (simp_all; done) | (simp; omega) | (simp_all; omega)) (zM (c := (fun v : Int => [Value.int .i64 v])) (fun _ => rfl) _)) (zS (by first | assumption | omega | (simp_all; done) | (simp_all; omega))) rfl rfl) rfl ?_
  refine rn [3,0,1,2,6,4,4,5,2] ?_
  refine g_op (zK _ rfl (fun w1 hw1 ho1 => by exact rget_any rb g9 (((dueO e bo))[k]) w1 ho1) rfl ?_)
  refine rn [2,40,40] ?_
  refine g_op (zI rfl fun b6 => ?_)
  refine rn [33,3,0,1,4,5,2,55,0] ?_
  refine zC rfl (fun h2 => ?_) (fun h2 => ?_)
  ·have hs9 : ripK e (RG.l g, bo) (k + 1) = ((ripK e (RG.l g, bo) k).1, putE (ripK e (RG.l g, bo) k).2 (gotV (RG.l g9) (dueO e bo)[k]).wd (dueO e bo)[k]) := by
     rw [ripK_succ lt_k]; unfold ripS; rw [← hl9, if_pos (of_decide_eq_true h2)]
   refine dregL (L0 := [Res.blk eb 112 (ECell rb cb lb bb ub mb xb pb gb tb c lA (lv.length) lc), Res.blk b6 52 (V.c (gotV (RG.l g9) (dueO e bo)[k]))]) [] mixed rfl zB ?_
   refine rn [23,0,2,23,1,6,23,2,4,23,3,5,23,4,4,23,5,5,23,6,2] ?_
   refine dop 7 rfl (zH _ rfl (fun w1 hw1 ho1 => by have h7 := bput_any bb br9 (ripK e (RG.l g, bo) k).2 (((gotV (RG.l g9) ((dueO e bo))[k])).wd) (((dueO e bo))[k]) w1 ho1 hb9 (by first | omega | (simp; omega)); exact h7) rfl ?_)
   rintro g40 ⟨r40, s40⟩
   refine ii ?_
   refine rn [27,15,7,10,43,2,9] ?_
   exact g_ag ((k + 1), g9, g40) (by (try dsimp only); exact ⟨(by first | exact lt_k | omega), hr9, (by rw [hs9]; exact hl9), hc9, (by rw [hs9]; exact r40)⟩)
  ·have hs9 : ripK e (RG.l g, bo) (k + 1) = (evV (ripK e (RG.l g, bo) k).1 (dueO e bo)[k] 4, (ripK e (RG.l g, bo) k).2) := by
     rw [ripK_succ lt_k]; unfold ripS; rw [← hl9, if_neg (of_decide_eq_false h2)]
   refine rn [10,2,6,4] ?_
   refine s_q (yS (c' := [Value.pointer (some ⟨rb, 0, none⟩)]) rfl rfl rfl) rfl ?_
   refine rn [2] ?_
   refine g_op (zH _ rfl (fun w1 hw1 ho1 => by have h7 := event_tab rb g9 (((dueO e bo))[k]) 4 w1 ho1 hr9 (by decide) hst9; exact h7) rfl ?_)
   rintro g46 ⟨r46, l46, c46⟩
   refine ii ?_
   refine rn [9,15,7,10,43,2,9] ?_
   exact g_ag ((k + 1), g46, br9) (by (try dsimp only); exact ⟨(by first | exact lt_k | omega), r46, (by rw [hs9, l46, hl9]; rfl), (by rw [c46]; exact hc9), (by rw [hs9]; exact hb9)⟩)
 ·have eq_k : k = (dueO e bo).length := by have h9 := of_decide_eq_false h1; omega
  refine rn [16] ?_
  refine zE (zE (zQ ?_))
  exact fin0 rfl (fun w' hw' => ⟨(g9, br9), (by (rw [← ripK_end, ← eq_k]; exact ⟨hr9, hl9, hc9, hb9⟩)), rfl, zA w' hw'⟩) _ (.inr rfl)
def asgK (c : C) (s : List V × List En × List Int) (ag : List As) (k : Nat) : List V × List En × List Int := (ag.take k).foldl (asgS c) s
theorem asgK_end (c : C) (s : List V × List En × List Int) (ag : List As) : asgK c s ag ag.length = ag.foldl (asgS c) s := by unfold asgK; rw [List.take_length]
theorem asgK_succ {c : C} {s : List V × List En × List Int} {ag : List As} {k : Nat} (h : k < ag.length) : asgK c s ag (k + 1) = asgS c (asgK c s ag k) ag[k] := fold_succ _ _ h
theorem ag_facts {e : Int} {l : List V} {q : LL} {bo : List En} (h : Mid e (e + 1) l q bo) (W : List Int) (lim : Int) (m : M) :
  (∀ a ∈ (stepM W e lim q m).1, a.e = e + 1 ∧ (gotV l a.i).st = 3 ∧ (gotV l a.i).ex = -1) ∧ ((stepM W e lim q m).1.map As.i).Nodup := by
 obtain ⟨a, b, h1, h2, h3, h4, h5⟩ := stepM_shape W e lim q m
 generalize (stepM W e lim q m).1 = ag at h1 ⊢
 have hI : ag.map As.i = q.f.take a ++ q.v.take b := by rw [h1, List.map_append, mapI, mapI]
 obtain ⟨n1, n2, n3, n4⟩ := nodup_parts a b h.lnd
 refine ⟨fun x hx => ⟨?_, ?_⟩, hI ▸ n1⟩
 ·rw [h1] at hx
  rcases List.mem_append.1 hx with hx | hx <;> (obtain ⟨i, _, rfl⟩ := List.mem_map.1 hx; rfl)
 ·have h6 : (gotV l x.i).st = 3 := (h.lan x.i).1 ((n3 x.i).2 (.inl (hI ▸ List.mem_map.2 ⟨x, hx, rfl⟩)))
  exact ⟨h6, h.lax x.i h6⟩
theorem ag_len (W : List Int) (e lim : Int) (q : LL) (m : M) : (stepM W e lim q m).1.length ≤ q.f.length + q.v.length := by
 obtain ⟨a, b, h1, _⟩ := stepM_shape W e lim q m
 rw [h1]; simp; omega
theorem take_nodup {α : Type} {l : List α} (h : l.Nodup) (k : Nat) : (l.take k).Nodup := (List.take_sublist k l).nodup h
theorem VO.asV {v : V} (h : VO v) {e : Int} {c : C} (he : 0 ≤ e) (hu : 1 ≤ c.unb) (hb : e + c.unb ≤ 1099511627776) : VO (asV e c v) := by
 have := h.w
 exact ⟨h.b, h.s, h.r, by simp only [Go.Proofs.YtdddiilocbbkkaaGreat.asV]; omega, by simp only [Go.Proofs.YtdddiilocbbkkaaGreat.asV]; omega, h.d⟩
theorem asgK_ok {e : Int} {c : C} (he : 0 ≤ e) (hu : 1 ≤ c.unb) (hb : e + 1 + c.unb ≤ 1099511627776) {l : List V} {q : LL} {bo : List En} (h : Mid e (e + 1) l q bo) (hvo : ∀ j, hasV l j = true → VO (gotV l j)) (lv : List Int) (W : List Int) (lim : Int) (m : M)
  {ag : List As} (hag : (stepM W e lim q m).1 = ag) (k : Nat) :
  (∀ j, hasV (asgK c (l, bo, lv) ag k).1 j = true → VO (gotV (asgK c (l, bo, lv) ag k).1 j)) ∧ bals (asgK c (l, bo, lv) ag k).1 = bals l ∧ (asgK c (l, bo, lv) ag k).2.1.length ≤ bo.length + k ∧ (asgK c (l, bo, lv) ag k).2.2.length ≤ lv.length + k ∧
  (∀ i, hasV (asgK c (l, bo, lv) ag k).1 i = hasV l i) ∧ (∀ a ∈ ag, hasV l a.i = true ∧ a.e = e + 1) := by
 obtain ⟨f1, f2⟩ := ag_facts h W lim m
 rw [hag] at f1 f2
 obtain ⟨g1, g2, g3, g4, g5⟩ := asg_fold (e := e + 1) (c := c) (by omega) (by omega) hb (ag.take k) l bo lv (fun a ha => f1 a (List.mem_of_mem_take ha)) (by rw [List.map_take]; exact take_nodup f2 k) (VO.z_wd l hvo)
 unfold asgK
 refine ⟨fun j hj => ?_, g5, ?_, ?_, has_len g1, fun a ha => ⟨yW (by have := (f1 a ha).2.1; omega), (f1 a ha).1⟩⟩
 ·rw [has_len g1] at hj
  rw [g2 j]
  split
  ·exact (hvo j hj).asV (by omega) hu hb
  ·exact hvo j hj
 ·rw [g3]; simp; omega
 ·rw [g4]; simp; omega
theorem assign_eng (eb rb cb lb bb ub mb xb b0 b1 pb gb tb : Nat) (c : C) (blk : Nat) (g : RG) (dep paid burn : Int) (bo : List En) (lv : List Int) (cur : Nat) (m : M) (q : LL) (pend : List Int) (mg : List PP) (pt : List Rq) (br : BR) (lA : Option Addr) (lc : Nat) (g0 g1 gp gg gt : Rg) (e lim : Int) (w : World) (hw : W0 [Res.blk eb 112 (ECell rb cb lb bb ub mb xb pb gb tb c lA (lv.length) lc), RgB rb g, RgW g, Res.im (RG.m g), bB_ bb br, bW_ br, bK_ br, Res.row lA (lv).length lc 3 1 ((lv).map (fun v : Int => [Value.int .i64 v])), Res.blk mb 186 (M.c m), bL_ xb b0 b1, rB_i b0 g0, rW_i g0, rB_i b1 g1, rW_i g1] w) (hg : g.Rep) (hcp : (g.cp : Int) = c.capa) (hbr : br.Rep bo) (h0 : g0.Rep 1 (q.f.map (fun v : Int => [Value.int .i64 v]))) (h1_ : g1.Rep 1 (q.v.map (fun v : Int => [Value.int .i64 v]))) (s0 : Rg.size g0 = c.qsize.toNat) (s1 : Rg.size g1 = c.qsize.toNat) (hqf : q.f.length ≤ c.qsize.toNat ∧ q.v.length ≤ c.qsize.toNat) (hqs : 1 ≤ c.qsize ∧ c.qsize ≤ 4096) (he : 0 ≤ e ∧ e ≤ 1000000000) (hu : 1 ≤ c.unb ∧ c.unb ≤ 1048576) (hM : Mid e (e + 1) (RG.l g) q bo) (hvo : ∀ j, hasV (RG.l g) j = true → VO (gotV (RG.l g) j)) (hbl : bo.length ≤ 100000) (hlv : lv.length ≤ 100000) : Own2 (ι := (RG × BR × Option Addr × Nat × Rg × Rg × Option Addr × Nat)) Tryz.prog 151 [.pointer (some ⟨eb, 0, none⟩), .int .i64 e, .int .u64 lim] w [Res.blk eb 112 (ECell rb cb lb bb ub mb xb pb gb tb c lA (lv.length) lc), RgB rb g, RgW g, Res.im (RG.m g), bB_ bb br, bW_ br, bK_ br, Res.row lA (lv).length lc 3 1 ((lv).map (fun v : Int => [Value.int .i64 v])), Res.blk mb 186 (M.c m), bL_ xb b0 b1, rB_i b0 g0, rW_i g0, rB_i b1 g1, rW_i g1] (fun x => x.1.Rep ∧ x.1.l = ((stepM ((RG.l g).map V.bal) e lim q m).1.foldl (asgS c) (RG.l g, bo, lv)).1 ∧ x.1.cp = g.cp ∧ x.2.1.Rep ((stepM ((RG.l g).map V.bal) e lim q m).1.foldl (asgS c) (RG.l g, bo, lv)).2.1 ∧ x.2.2.2.2.1.Rep 1 ((stepM ((RG.l g).map V.bal) e lim q m).2.1.f.map (fun v : Int => [Value.int .i64 v])) ∧ x.2.2.2.2.2.1.Rep 1 ((stepM ((RG.l g).map V.bal) e lim q m).2.1.v.map (fun v : Int => [Value.int .i64 v])) ∧ x.2.2.2.2.1.size = c.qsize.toNat ∧ x.2.2.2.2.2.1.size = c.qsize.toNat) (fun x => .slice x.2.2.2.2.2.2.1 (stepM ((RG.l g).map V.bal) e lim q m).1.length x.2.2.2.2.2.2.2) (fun x => [Res.row x.2.2.2.2.2.2.1 ((stepM ((RG.l g).map V.bal) e lim q m).1).length x.2.2.2.2.2.2.2 55 3 (((stepM ((RG.l g).map V.bal) e lim q m).1).map As.cs)]) (fun x => [Res.blk eb 112 (ECell rb cb lb bb ub mb xb pb gb tb c x.2.2.1 (((stepM ((RG.l g).map V.bal) e lim q m).1.foldl (asgS c) (RG.l g, bo, lv)).2.2.length) x.2.2.2.1), RgB rb x.1, RgW x.1, Res.im (RG.m x.1), bB_ bb x.2.1, bW_ x.2.1, bK_ x.2.1, Res.row x.2.2.1 (((stepM ((RG.l g).map V.bal) e lim q m).1.foldl (asgS c) (RG.l g, bo, lv)).2.2).length x.2.2.2.1 3 1 ((((stepM ((RG.l g).map V.bal) e lim q m).1.foldl (asgS c) (RG.l g, bo, lv)).2.2).map (fun v : Int => [Value.int .i64 v])), Res.blk mb 186 (M.c (stepM ((RG.l g).map V.bal) e lim q m).2.2), bL_ xb b0 b1, rB_i b0 x.2.2.2.2.1, rW_i x.2.2.2.2.1, rB_i b1 x.2.2.2.2.2.1, rW_i x.2.2.2.2.2.1]) := by
 refine g_st Tryz.func151 86 hw ?_
 have hsz : c.qsize.toNat ≤ 4096 := by omega
 refine rn [1,3,0,8] ?_
 refine dregL (L0 := [Res.blk eb 112 (ECell rb cb lb bb ub mb xb pb gb tb c lA (lv.length) lc)]) [] mixed rfl zB ?_
 refine rn [23,0,2,23,1,2,23,2,6,23,3,4,23,4,5,23,5,2,23,6,6,23,7,4,23,8,5,23,9,2,23,10,2,23,11,6,23,12,4] ?_
 refine dq 13 rfl (yS (c' := [Value.pointer (some ⟨rb, 0, none⟩)]) rfl rfl rfl) ?_
 refine dop 14 rfl (zH _ rfl (fun w1 hw1 ho1 => by have h7 := balances_tab rb g w1 ho1 hg; exact h7) rfl ?_)
 rintro ⟨A26, cap26⟩ _
 refine ii ?_
 refine dop 15 rfl (zH _ rfl (fun w1 hw1 ho1 => by have h7 := astep_any (e) (lim) xb b0 b1 mb g0 g1 q c.qsize.toNat m A26 (((RG.l g).map V.bal).length) (cap26) (((RG.l g).map V.bal)) w1 ho1 h0 h1_ s0 s1 (by omega) hqf (Rd.ofRow (A := A26) hw1) (by omega); exact h7) rfl ?_)
 rintro ⟨O27, oc27, g27, gg27⟩ ⟨r27, rr27, s27, ss27⟩
 refine ii ?_
 simp only at r27 rr27 s27 ss27
 have hq27 := stepM_len (W := ((RG.l g).map V.bal)) (e := e) (lim := lim) (m := m) hqf
 generalize hst27 : (stepM (((RG.l g).map V.bal)) (e) (lim) q m) = st27 at r27 rr27 hq27 ⊢
 refine rn [23,16,3,27,7,8,1,2,47,2,0,14] ?_
 refine zF (A := lA) ((asgK c (RG.l g, bo, lv) st27.1 0).2.2.map (fun v : Int => [Value.int .i64 v])) (by rfl) ?_
 refine yC (A := lA) (asgK c (RG.l g, bo, lv) st27.1 0).2.2.length (by rfl) ?_
 refine zJ (b := eb) (ECell rb cb lb bb ub mb xb pb gb tb c lA ((asgK c (RG.l g, bo, lv) st27.1 0).2.2.length) lc) (by rfl) ?_
 refine g_lk [0, 6, 7, 28, 29] (fun (x : Nat × RG × BR × Option Addr × Nat) => [(30, .int .i64 ((x.1 : Nat) : Int))]) (fun (x : Nat × RG × BR × Option Addr × Nat) => [Res.row O27 (st27.1).length oc27 55 3 ((st27.1).map As.cs), Res.blk eb 112 (ECell rb cb lb bb ub mb xb pb gb tb c x.2.2.2.1 ((asgK c (RG.l g, bo, lv) st27.1 x.1).2.2.length) x.2.2.2.2), RgB rb x.2.1, RgW x.2.1, Res.im (RG.m x.2.1), bB_ bb x.2.2.1, bW_ x.2.2.1, bK_ x.2.2.1, Res.row x.2.2.2.1 ((asgK c (RG.l g, bo, lv) st27.1 x.1).2.2).length x.2.2.2.2 3 1 (((asgK c (RG.l g, bo, lv) st27.1 x.1).2.2).map (fun v : Int => [Value.int .i64 v])), Res.blk mb 186 (M.c st27.2.2), bL_ xb b0 b1, rB_i b0 g27, rW_i g27, rB_i b1 gg27, rW_i gg27]) (fun (x : Nat × RG × BR × Option Addr × Nat) => x.1 ≤ st27.1.length ∧ RG.Rep x.2.1 ∧ RG.l x.2.1 = (asgK c (RG.l g, bo, lv) st27.1 x.1).1 ∧ RG.cp x.2.1 = RG.cp g ∧ BR.Rep x.2.2.1 (asgK c (RG.l g, bo, lv) st27.1 x.1).2.1) (fun (x : Nat × RG × BR × Option Addr × Nat) => st27.1.length - x.1) (0, g, br, lA, lc) (by (try dsimp only); exact ⟨Nat.zero_le _, hg, rfl, rfl, hbr⟩) ?_
 rintro ⟨k, g9, br9, A9, k9⟩ ⟨le_k, hr9, hl9, hc9, hb9⟩
 replace le_k : k ≤ st27.1.length := le_k
 replace hr9 : RG.Rep g9 := hr9
 replace hl9 : RG.l g9 = (asgK c (RG.l g, bo, lv) st27.1 k).1 := hl9
 replace hc9 : RG.cp g9 = RG.cp g := hc9
 replace hb9 : BR.Rep br9 (asgK c (RG.l g, bo, lv) st27.1 k).2.1 := hb9
 refine zX (L' := [Res.row O27 (st27.1).length oc27 55 3 ((st27.1).map As.cs), Res.blk eb 112 (ECell rb cb lb bb ub mb xb pb gb tb c A9 ((asgK c (RG.l g, bo, lv) st27.1 k).2.2.length) k9), RgB rb g9, RgW g9, Res.im (RG.m g9), bB_ bb br9, bW_ br9, bK_ br9, Res.row A9 ((asgK c (RG.l g, bo, lv) st27.1 k).2.2).length k9 3 1 (((asgK c (RG.l g, bo, lv) st27.1 k).2.2).map (fun v : Int => [Value.int .i64 v])), Res.blk mb 186 (M.c st27.2.2), bL_ xb b0 b1, rB_i b0 g27, rW_i g27, rB_i b1 gg27, rW_i gg27]) rfl ?_
 refine g_val 30 (v' := .int .i64 ((k : Nat) : Int)) rfl rfl ?_
 obtain ⟨ho9, hbs9, hbl9, hll9, hhs9, hag9⟩ := asgK_ok he.1 hu.1 (by omega) hM hvo lv ((RG.l g).map V.bal) lim m (congrArg Prod.fst hst27) k
 simp only [← hl9] at ho9 hbs9 hhs9
 have hal9 := ag_len ((RG.l g).map V.bal) e lim q m
 rw [hst27] at hal9
 refine rn [1,46,0,8] ?_
 refine zC rfl (fun h1 => ?_) (fun h1 => ?_)
 ·have lt_k : k < st27.1.length := by have h9 := of_decide_eq_true h1; omega
  have hs9 : (asgK c (RG.l g, bo, lv) st27.1 (k + 1)) = (setV (asgK c (RG.l g, bo, lv) st27.1 k).1 st27.1[k].i (asnV (gotV (RG.l g9) st27.1[k].i) st27.1[k].e c).1, putE (asgK c (RG.l g, bo, lv) st27.1 k).2.1 (asnV (gotV (RG.l g9) st27.1[k].i) st27.1[k].e c).1.wd st27.1[k].i, (asgK c (RG.l g, bo, lv) st27.1 k).2.2 ++ [st27.1[k].i]) := by rw [asgK_succ lt_k, hl9]; rfl
  obtain ⟨hh9, hae9⟩ := hag9 _ (List.getElem_mem lt_k)
  have hh9 : hasV (RG.l g9) st27.1[k].i = true := by rw [hhs9]; exact hh9
  have hv9 := ho9 _ hh9
  have hmx9 : (bals (RG.l g9)).sum ≤ 18446744073709551615 := by rw [hbs9]; exact hg.mx
  have hbl9_ := bal_le ho9 hh9
  obtain ⟨hoN, hbsN, _, _, _, _⟩ := asgK_ok he.1 hu.1 (by omega) hM hvo lv ((RG.l g).map V.bal) lim m (congrArg Prod.fst hst27) (k + 1)
  rw [hs9] at hoN hbsN
  have hchg := chg_ok (l := RG.l g9) (i := st27.1[k].i) (v := (asnV (gotV (RG.l g9) st27.1[k].i) st27.1[k].e c).1) (by rw [set_eq hh9, hl9]; rw [hl9] at hoN; exact hoN) (by rw [set_eq hh9, hl9]; rw [hl9] at hbsN; rw [hbsN]; exact hg.mx) hh9
  refine rn [12,7,8,14,1] ?_
  refine s_q (zR (i := k) rfl rfl rfl (InRow.rdb (A := O27) (els := (st27.1).map As.cs) (by first | rfl | assumption | (simp; done) | (simp_all; done) | (simp; omega) | (simp_all; omega)) (zM (c := As.cs) (fun _ => rfl) _)) (by first | exact lt_k | omega)) rfl ?_
  refine s_q (zT (i := k) rfl (InRow.rdb (A := O27) (els := (st27.1).map As.cs) (by first | rfl | assumption | (simp; done) | (simp_all; done) | (simp; omega) | (simp_all; omega)) (zM (c := As.cs) (fun _ => rfl) _)) (zS (by first | assumption | omega | (simp_all; done) | (simp_all; omega))) rfl) rfl ?_
  refine g_op (zI rfl fun b9 => ?_)
  refine rn [33,0,8] ?_
  refine dreg [12] mixed rfl ?_
  refine rn [23,0,2,23,1,6,23,2,4,23,3,4,23,4,5,23,5,4,23,6,5] ?_
  refine yB [7, 11] (by kernel_rfl) (by simp) zB ⟨dpick rfl (zK _ rfl (fun w1 hw1 ho1 => by exact rget_any rb g9 (((st27.1)[k]).i) w1 ho1) rfl ?_), dpick rfl (zI rfl fun b10 => ?_), trivial⟩
  ·refine rn [23,8,2,23,9,40,24,10,40] ?_
   refine dop 11 rfl (zI rfl fun b10 => ?_)
   refine dop 12 rfl (zL rfl rfl rfl rfl rfl ?_)
   refine rn [24,13,3,28,7,8] ?_
   refine dreg [11] mixed rfl ?_
   refine rn [23,0,45,23,1,4,23,2,5,23,3,2,23,4,6,23,5,4] ?_
   refine dq 6 rfl (yS (c' := C.c c) rfl rfl rfl) ?_
   refine dop 7 rfl (zG rfl (fun w1 hw1 => assign_any _ _ (c) w1 ⟨by omega, by omega⟩ ⟨by omega, by omega⟩ (hv9.i64 (by omega))) rfl ?_)
   refine rn [23,8,2,23,9,40,24,10,40] ?_
   refine dop 11 rfl (zL rfl rfl rfl rfl rfl ?_)
   refine zJ (b := b10) (V.c (asnV (gotV (RG.l g9) st27.1[k].i) st27.1[k].e c).1) rfl ?_
   refine rn [28,7,8] ?_
   refine dregL (L0 := [Res.blk eb 112 (ECell rb cb lb bb ub mb xb pb gb tb c A9 ((asgK c (RG.l g, bo, lv) st27.1 k).2.2.length) k9), Res.blk b9 55 (As.cs st27.1[k]), Res.blk b10 52 (V.c (asnV (gotV (RG.l g9) st27.1[k].i) st27.1[k].e c).1)]) [] mixed rfl zB ?_
   refine rn [23,0,2,23,1,6,23,2,4] ?_
   refine dq 3 rfl (yS (c' := [Value.pointer (some ⟨rb, 0, none⟩)]) rfl rfl rfl) ?_
   refine rn [23,4,4,23,5,5,23,6,45] ?_
   refine dop 7 rfl (zH _ rfl (fun w1 hw1 ho1 => by have h7 := xB rb g9 (((st27.1)[k]).i) ((asnV (gotV (RG.l g9) st27.1[k].i) st27.1[k].e c).1) w1 ho1 hr9 hchg.1 hchg.2; exact h7) rfl ?_)
   rintro g63 ⟨r63, l63, c63⟩
   refine ii ?_
   refine rn [27,7,8] ?_
   refine dregL (L0 := [Res.blk eb 112 (ECell rb cb lb bb ub mb xb pb gb tb c A9 ((asgK c (RG.l g, bo, lv) st27.1 k).2.2.length) k9), Res.blk b9 55 (As.cs st27.1[k]), Res.blk b10 52 (V.c (asnV (gotV (RG.l g9) st27.1[k].i) st27.1[k].e c).1)]) [] mixed rfl zB ?_
   refine rn [23,0,2,23,1,6,23,2,4,23,3,5,23,4,4,23,5,5,23,6,4,23,7,5] ?_
   refine dop 8 rfl (zH _ rfl (fun w1 hw1 ho1 => by have h7 := bput_any bb br9 (asgK c (RG.l g, bo, lv) st27.1 k).2.1 (((asnV (gotV (RG.l g9) st27.1[k].i) st27.1[k].e c).1).wd) (((st27.1)[k]).i) w1 ho1 hb9 (by first | omega | (simp; omega)); exact h7) rfl ?_)
   rintro g72 ⟨r72, s72⟩
   refine ii ?_
   refine rn [27,7] ?_
   refine dregL (L0 := [Res.blk eb 112 (ECell rb cb lb bb ub mb xb pb gb tb c A9 ((asgK c (RG.l g, bo, lv) st27.1 k).2.2.length) k9), Res.blk b9 55 (As.cs st27.1[k])]) [11] mixed rfl zB ?_
   refine rn [23,0,2,23,1,2,23,2,6,23,3,4,23,4,5,23,5,4,23,6,5] ?_
   refine dop 7 rfl (g_lit rfl rfl rfl rfl rfl fun b80 => ?_)
   refine zJ (b := b80) ((([((st27.1)[k]).i] : List Int).map (fun v : Int => [Value.int .i64 v])).flatten) rfl ?_
   refine dop 8 rfl (zY (A := A9) (els := ((asgK c (RG.l g, bo, lv) st27.1 k).2.2).map (fun v : Int => [Value.int .i64 v])) (news := (([((st27.1)[k]).i] : List Int).map (fun v : Int => [Value.int .i64 v]))) rfl rfl (InL.rdb (b := b80) rfl (by simp) rfl) (yG (c := (fun v : Int => [Value.int .i64 v])) (by intro x; simp [Value.oneCell']) _) (by first | omega | (simp; omega) | (simp_all; omega)) rfl fun A81 cap81 => ⟨_, inferInstance, ?_⟩)
   refine zF (A := A81) ((((asgK c (RG.l g, bo, lv) st27.1 k).2.2 ++ [((st27.1)[k]).i])).map (fun v : Int => [Value.int .i64 v])) (by first | rfl | exact List.map_append.symm | (simp; done)) ?_
   refine rn [24,9,6,23,10,4] ?_
   refine dop 11 rfl (zP rfl rfl rfl rfl rfl rfl rfl ?_)
   refine zJ (b := eb) (ECell rb cb lb bb ub mb xb pb gb tb c A81 ((asgK c (RG.l g, bo, lv) st27.1 (k + 1)).2.2.length) cap81) (by rw [hs9, List.length_append]; rfl) ?_
   refine rn [28,15,7,10,43,2,9] ?_
   refine zF (A := A81) ((asgK c (RG.l g, bo, lv) st27.1 (k + 1)).2.2.map (fun v : Int => [Value.int .i64 v])) (by rw [hs9]) ?_
   refine yC (A := A81) (asgK c (RG.l g, bo, lv) st27.1 (k + 1)).2.2.length (by rw [hs9]; simp) ?_
   exact g_ag ((k + 1), g63, g72, A81, cap81) (by (try dsimp only); exact ⟨(by first | exact lt_k | omega), r63, (by rw [hs9]; show _ = setV _ _ _; rw [l63, hl9]), (by rw [c63]; exact hc9), (by rw [hs9, ← hl9]; exact r72)⟩)
  ·refine dop 7 rfl (zK _ rfl (fun w1 hw1 ho1 => by exact rget_any rb g9 (((st27.1)[k]).i) w1 ho1) rfl ?_)
   refine rn [23,8,2,23,9,40,24,10,40] ?_
   refine dop 12 rfl (zL rfl rfl rfl rfl rfl ?_)
   refine rn [24,13,3,28,7,8] ?_
   refine dreg [11] mixed rfl ?_
   refine rn [23,0,45,23,1,4,23,2,5,23,3,2,23,4,6,23,5,4] ?_
   refine dq 6 rfl (yS (c' := C.c c) rfl rfl rfl) ?_
   refine dop 7 rfl (zG rfl (fun w1 hw1 => assign_any _ _ (c) w1 ⟨by omega, by omega⟩ ⟨by omega, by omega⟩ (hv9.i64 (by omega))) rfl ?_)
   refine rn [23,8,2,23,9,40,24,10,40] ?_
   refine dop 11 rfl (zL rfl rfl rfl rfl rfl ?_)
   refine zJ (b := b10) (V.c (asnV (gotV (RG.l g9) st27.1[k].i) st27.1[k].e c).1) rfl ?_
   refine rn [28,7,8] ?_
   refine dregL (L0 := [Res.blk eb 112 (ECell rb cb lb bb ub mb xb pb gb tb c A9 ((asgK c (RG.l g, bo, lv) st27.1 k).2.2.length) k9), Res.blk b9 55 (As.cs st27.1[k]), Res.blk b10 52 (V.c (asnV (gotV (RG.l g9) st27.1[k].i) st27.1[k].e c).1)]) [] mixed rfl zB ?_
   refine rn [23,0,2,23,1,6,23,2,4] ?_
   refine dq 3 rfl (yS (c' := [Value.pointer (some ⟨rb, 0, none⟩)]) rfl rfl rfl) ?_
   refine rn [23,4,4,23,5,5,23,6,45] ?_
   refine dop 7 rfl (zH _ rfl (fun w1 hw1 ho1 => by have h7 := xB rb g9 (((st27.1)[k]).i) ((asnV (gotV (RG.l g9) st27.1[k].i) st27.1[k].e c).1) w1 ho1 hr9 hchg.1 hchg.2; exact h7) rfl ?_)
   rintro g63 ⟨r63, l63, c63⟩
   refine ii ?_
   refine rn [27,7,8] ?_
   refine dregL (L0 := [Res.blk eb 112 (ECell rb cb lb bb ub mb xb pb gb tb c A9 ((asgK c (RG.l g, bo, lv) st27.1 k).2.2.length) k9), Res.blk b9 55 (As.cs st27.1[k]), Res.blk b10 52 (V.c (asnV (gotV (RG.l g9) st27.1[k].i) st27.1[k].e c).1)]) [] mixed rfl zB ?_
   refine rn [23,0,2,23,1,6,23,2,4,23,3,5,23,4,4,23,5,5,23,6,4,23,7,5] ?_
   refine dop 8 rfl (zH _ rfl (fun w1 hw1 ho1 => by have h7 := bput_any bb br9 (asgK c (RG.l g, bo, lv) st27.1 k).2.1 (((asnV (gotV (RG.l g9) st27.1[k].i) st27.1[k].e c).1).wd) (((st27.1)[k]).i) w1 ho1 hb9 (by first | omega | (simp; omega)); exact h7) rfl ?_)
   rintro g72 ⟨r72, s72⟩
   refine ii ?_
   refine rn [27,7] ?_
   refine dregL (L0 := [Res.blk eb 112 (ECell rb cb lb bb ub mb xb pb gb tb c A9 ((asgK c (RG.l g, bo, lv) st27.1 k).2.2.length) k9), Res.blk b9 55 (As.cs st27.1[k])]) [11] mixed rfl zB ?_
   refine rn [23,0,2,23,1,2,23,2,6,23,3,4,23,4,5,23,5,4,23,6,5] ?_
   refine dop 7 rfl (g_lit rfl rfl rfl rfl rfl fun b80 => ?_)
   refine zJ (b := b80) ((([((st27.1)[k]).i] : List Int).map (fun v : Int => [Value.int .i64 v])).flatten) rfl ?_
   refine dop 8 rfl (zY (A := A9) (els := ((asgK c (RG.l g, bo, lv) st27.1 k).2.2).map (fun v : Int => [Value.int .i64 v])) (news := (([((st27.1)[k]).i] : List Int).map (fun v : Int => [Value.int .i64 v]))) rfl rfl (InL.rdb (b := b80) rfl (by simp) rfl) (yG (c := (fun v : Int => [Value.int .i64 v])) (by intro x; simp [Value.oneCell']) _) (by first | omega | (simp; omega) | (simp_all; omega)) rfl fun A81 cap81 => ⟨_, inferInstance, ?_⟩)
   refine zF (A := A81) ((((asgK c (RG.l g, bo, lv) st27.1 k).2.2 ++ [((st27.1)[k]).i])).map (fun v : Int => [Value.int .i64 v])) (by first | rfl | exact List.map_append.symm | (simp; done)) ?_
   refine rn [24,9,6,23,10,4] ?_
   refine dop 11 rfl (zP rfl rfl rfl rfl rfl rfl rfl ?_)
   refine zJ (b := eb) (ECell rb cb lb bb ub mb xb pb gb tb c A81 ((asgK c (RG.l g, bo, lv) st27.1 (k + 1)).2.2.length) cap81) (by rw [hs9, List.length_append]; rfl) ?_
   refine rn [28,15,7,10,43,2,9] ?_
   refine zF (A := A81) ((asgK c (RG.l g, bo, lv) st27.1 (k + 1)).2.2.map (fun v : Int => [Value.int .i64 v])) (by rw [hs9]) ?_
   refine yC (A := A81) (asgK c (RG.l g, bo, lv) st27.1 (k + 1)).2.2.length (by rw [hs9]; simp) ?_
   exact g_ag ((k + 1), g63, g72, A81, cap81) (by (try dsimp only); exact ⟨(by first | exact lt_k | omega), r63, (by rw [hs9]; show _ = setV _ _ _; rw [l63, hl9]), (by rw [c63]; exact hc9), (by rw [hs9, ← hl9]; exact r72)⟩)
 ·have eq_k : k = st27.1.length := by have h9 := of_decide_eq_false h1; omega
  refine rn [16] ?_
  refine zE (zE (zQ ?_))
  refine rn [7,1,2,3,0,11] ?_
  have hend : (asgK c (RG.l g, bo, lv) st27.1 k) = st27.1.foldl (asgS c) (RG.l g, bo, lv) := by rw [eq_k]; exact asgK_end _ _ _
  rw [hend] at hl9 hb9
  exact fin1 rfl (.tmp rfl) (fun w' hw' => ⟨(g9, br9, A9, k9, g27, gg27, O27, oc27), (by (subst hst27; exact ⟨hr9, hl9, hc9, hb9, r27, rr27, s27, ss27⟩)), by subst hst27; rfl, by have h9 := zB (L' := [Res.row O27 (st27.1).length oc27 55 3 ((st27.1).map As.cs), Res.blk eb 112 (ECell rb cb lb bb ub mb xb pb gb tb c A9 ((asgK c (RG.l g, bo, lv) st27.1 k).2.2.length) k9), RgB rb g9, RgW g9, Res.im (RG.m g9), bB_ bb br9, bW_ br9, bK_ br9, Res.row A9 ((asgK c (RG.l g, bo, lv) st27.1 k).2.2).length k9 3 1 (((asgK c (RG.l g, bo, lv) st27.1 k).2.2).map (fun v : Int => [Value.int .i64 v])), Res.blk mb 186 (M.c st27.2.2), bL_ xb b0 b1, rB_i b0 g27, rW_i g27, rB_i b1 gg27, rW_i gg27]) w' hw'; rw [hend] at h9; subst hst27; exact h9⟩) _ (.inl rfl)
theorem take_pp (b : Nat) (g : Rg) (l : List PP) (n : Nat) (w : World) (hw : W0 [rB_pp b g, rW_pp g] w) (h : g.Rep 2 (l.map PP.c)) (hl : l.length ≤ 100000) : Own2 (ι := (Option Addr × Nat × Rg)) Tryz.prog 155 [.pointer (some ⟨b, 0, none⟩), .int .i64 (n : Int)] w [rB_pp b g, rW_pp g] (fun x => x.2.2.Rep 2 ((l.drop (l.take n).length).map PP.c) ∧ x.2.2.size = g.size) (fun x => .slice x.1 (l.take n).length x.2.1) (fun x => [Res.row x.1 (l.take n).length x.2.1 106 2 ((l.take n).map PP.c)]) (fun x => [rB_pp b x.2.2, rW_pp x.2.2]) := by
 refine g_st Tryz.func155 22 hw ?_
 refine rn [1,3,0,1,2] ?_
 refine g_op (zH _ rfl (fun w1 hw1 ho1 => by have h7 := all_pp b g l w1 ho1 h; exact h7) rfl ?_)
 rintro ⟨A7, cap7⟩ _
 refine ii ?_
 refine rn [3,0,1,2,2,2,47] ?_
 refine s_q (q_minn (a := n) (b := (l).length) rfl rfl) rfl ?_
 refine g_rowfact A7 fun hle9 hcm9 _ => ?_
 refine s_q (yV (h := (min n l.length)) rfl rfl rfl (by omega)) rfl ?_
 refine g_rowTake (A := A7) (min n l.length) (l.take n).length ((l.take n).map PP.c) (by omega) (by simp) (by rw [← List.map_take, ← List.take_eq_take_min]) ?_
 refine g_val 13 (v' := .slice (subA A7 cap7 0 2) (l.take n).length cap7) rfl (by simp) ?_
 refine rn [3,0,8,1,2,47,2,0,14] ?_
 refine g_lk [0, 4, 5, 15] (fun (x : Nat × Rg) => [(16, .int .i64 ((x.1 : Nat) : Int))]) (fun (x : Nat × Rg) => [Res.row (subA A7 cap7 0 2) (l.take n).length cap7 106 2 ((l.take n).map PP.c), rB_pp b x.2, rW_pp x.2]) (fun (x : Nat × Rg) => x.1 ≤ (l.take n).length ∧ Rg.Rep x.2 2 ((l.drop x.1).map PP.c) ∧ Rg.size x.2 = Rg.size g) (fun (x : Nat × Rg) => (l.take n).length - x.1) (0, g) (by (try dsimp only); exact ⟨Nat.zero_le _, (by simpa using h), rfl⟩) ?_
 rintro ⟨k, g9⟩ ⟨le_k, hr9, hs9⟩
 replace le_k : k ≤ (l.take n).length := le_k
 replace hr9 : Rg.Rep g9 2 ((l.drop k).map PP.c) := hr9
 replace hs9 : Rg.size g9 = Rg.size g := hs9
 refine zX (L' := [Res.row (subA A7 cap7 0 2) (l.take n).length cap7 106 2 ((l.take n).map PP.c), rB_pp b g9, rW_pp g9]) rfl ?_
 refine g_val 16 (v' := .int .i64 ((k : Nat) : Int)) rfl rfl ?_
 have htl : (l.take n).length ≤ 1000000 := by simp; omega
 refine rn [1,46,0,8] ?_
 refine zC rfl (fun h1 => ?_) (fun h1 => ?_)
 ·have lt_k : k < (l.take n).length := by have h9 := of_decide_eq_true h1; omega
  refine rn [12,7,8,14,10,2] ?_
  refine g_op (zH _ rfl (fun w1 hw1 ho1 => by have h7 := pop_pp b g9 (l.drop k) w1 ho1 hr9; exact h7) rfl ?_)
  rintro g19 ⟨r19, s19⟩
  refine ii ?_
  refine rn [9,15,7,10,43,2,9] ?_
  exact g_ag ((k + 1), g19) (by (try dsimp only); exact ⟨(by first | exact lt_k | omega), (by rw [← List.tail_drop]; exact r19), (by rw [s19]; exact hs9)⟩)
 ·have eq_k : k = (l.take n).length := by have h9 := of_decide_eq_false h1; omega
  refine rn [16] ?_
  refine zE (zE (zQ ?_))
  refine rn [7,1,2,3,0,11] ?_
  skip
  exact fin1 rfl (.tmp rfl) (fun w' hw' => ⟨((subA A7 cap7 0 2), cap7, g9), (by (rw [← eq_k]; exact ⟨hr9, hs9⟩)), rfl, zA w' hw'⟩) _ (.inl rfl)
theorem take_rq (b : Nat) (g : Rg) (l : List Rq) (n : Nat) (w : World) (hw : W0 [rB_rq b g, rW_rq g] w) (h : g.Rep 2 (l.map Rq.c)) (hl : l.length ≤ 100000) : Own2 (ι := (Option Addr × Nat × Rg)) Tryz.prog 158 [.pointer (some ⟨b, 0, none⟩), .int .i64 (n : Int)] w [rB_rq b g, rW_rq g] (fun x => x.2.2.Rep 2 ((l.drop (l.take n).length).map Rq.c) ∧ x.2.2.size = g.size) (fun x => .slice x.1 (l.take n).length x.2.1) (fun x => [Res.row x.1 (l.take n).length x.2.1 110 2 ((l.take n).map Rq.c)]) (fun x => [rB_rq b x.2.2, rW_rq x.2.2]) := by
 refine g_st Tryz.func158 22 hw ?_
 refine rn [1,3,0,1,2] ?_
 refine g_op (zH _ rfl (fun w1 hw1 ho1 => by have h7 := all_rq b g l w1 ho1 h; exact h7) rfl ?_)
 rintro ⟨A7, cap7⟩ _
 refine ii ?_
 refine rn [3,0,1,2,2,2,47] ?_
 refine s_q (q_minn (a := n) (b := (l).length) rfl rfl) rfl ?_
 refine g_rowfact A7 fun hle9 hcm9 _ => ?_
 refine s_q (yV (h := (min n l.length)) rfl rfl rfl (by omega)) rfl ?_
 refine g_rowTake (A := A7) (min n l.length) (l.take n).length ((l.take n).map Rq.c) (by omega) (by simp) (by rw [← List.map_take, ← List.take_eq_take_min]) ?_
 refine g_val 13 (v' := .slice (subA A7 cap7 0 2) (l.take n).length cap7) rfl (by simp) ?_
 refine rn [3,0,8,1,2,47,2,0,14] ?_
 refine g_lk [0, 4, 5, 15] (fun (x : Nat × Rg) => [(16, .int .i64 ((x.1 : Nat) : Int))]) (fun (x : Nat × Rg) => [Res.row (subA A7 cap7 0 2) (l.take n).length cap7 110 2 ((l.take n).map Rq.c), rB_rq b x.2, rW_rq x.2]) (fun (x : Nat × Rg) => x.1 ≤ (l.take n).length ∧ Rg.Rep x.2 2 ((l.drop x.1).map Rq.c) ∧ Rg.size x.2 = Rg.size g) (fun (x : Nat × Rg) => (l.take n).length - x.1) (0, g) (by (try dsimp only); exact ⟨Nat.zero_le _, (by simpa using h), rfl⟩) ?_
 rintro ⟨k, g9⟩ ⟨le_k, hr9, hs9⟩
 replace le_k : k ≤ (l.take n).length := le_k
 replace hr9 : Rg.Rep g9 2 ((l.drop k).map Rq.c) := hr9
 replace hs9 : Rg.size g9 = Rg.size g := hs9
 refine zX (L' := [Res.row (subA A7 cap7 0 2) (l.take n).length cap7 110 2 ((l.take n).map Rq.c), rB_rq b g9, rW_rq g9]) rfl ?_
 refine g_val 16 (v' := .int .i64 ((k : Nat) : Int)) rfl rfl ?_
 have htl : (l.take n).length ≤ 1000000 := by simp; omega
 refine rn [1,46,0,8] ?_
 refine zC rfl (fun h1 => ?_) (fun h1 => ?_)
 ·have lt_k : k < (l.take n).length := by have h9 := of_decide_eq_true h1; omega
  refine rn [12,7,8,14,10,2] ?_
  refine g_op (zH _ rfl (fun w1 hw1 ho1 => by have h7 := pop_rq b g9 (l.drop k) w1 ho1 hr9; exact h7) rfl ?_)
  rintro g19 ⟨r19, s19⟩
  refine ii ?_
  refine rn [9,15,7,10,43,2,9] ?_
  exact g_ag ((k + 1), g19) (by (try dsimp only); exact ⟨(by first | exact lt_k | omega), (by rw [← List.tail_drop]; exact r19), (by rw [s19]; exact hs9)⟩)
 ·have eq_k : k = (l.take n).length := by have h9 := of_decide_eq_false h1; omega
  refine rn [16] ?_
  refine zE (zE (zQ ?_))
  refine rn [7,1,2,3,0,11] ?_
  skip
  exact fin1 rfl (.tmp rfl) (fun w' hw' => ⟨((subA A7 cap7 0 2), cap7, g9), (by (rw [← eq_k]; exact ⟨hr9, hs9⟩)), rfl, zA w' hw'⟩) _ (.inl rfl)
def loV (a b : V) : V := if a.bal < b.bal then a else b
def stW (l L : List V) : Nat → List V
 | 0 => l
 | 1 => List.zipWith loV l L
 | _ => L
def stp (X Y : List V) (k : Nat) : List V := Y.take k ++ X.drop k
theorem stp_zero (X Y : List V) : stp X Y 0 = X := by simp [stp]
theorem stp_all {X Y : List V} (h : X.length = Y.length) : stp X Y Y.length = Y := by simp [stp, h]
theorem stp_len {X Y : List V} (h : X.length = Y.length) {k : Nat} (hk : k ≤ X.length) : (stp X Y k).length = X.length := by simp [stp]; omega
theorem stp_at {X Y : List V} (h : X.length = Y.length) {k j : Nat} (hk : k ≤ X.length) (hj : j < X.length) : (stp X Y k)[j]? = some (if j < k then Y[j] else X[j]) := by
 unfold stp
 by_cases hjk : j < k
 ·rw [if_pos hjk, List.getElem?_append_left (by simp; omega), List.getElem?_take_of_lt hjk, List.getElem?_eq_getElem (by omega)]
 ·rw [if_neg hjk, List.getElem?_append_right (by simp; omega), List.getElem?_drop, List.length_take, show k + (j - min k Y.length) = j by omega, List.getElem?_eq_getElem hj]
theorem stp_get {X Y : List V} (h : X.length = Y.length) {k : Nat} (hk : k < X.length) : gotV (stp X Y k) k = X[k] := by
 have h1 := stp_at h (Nat.le_of_lt hk) hk
 rw [if_neg (Nat.lt_irrefl k)] at h1
 unfold gotV; rw [if_pos (by omega), Int.toNat_natCast, h1]; rfl
theorem stp_set {X Y : List V} (h : X.length = Y.length) {k : Nat} (hk : k < X.length) {v : V} (hv : Y[k] = v) : setV (stp X Y k) k v = stp X Y (k + 1) := by
 have hl := stp_len h (Nat.le_of_lt hk)
 unfold setV hasV
 rw [if_pos (decide_eq_true (by omega)), Int.toNat_natCast]
 apply List.ext_getElem?
 intro j
 rw [List.getElem?_set]
 by_cases hj : j < X.length
 ·rw [stp_at h (Nat.le_of_lt hk) hj, stp_at h (k := k + 1) (by omega) hj]
  by_cases e : k = j
  ·subst e; rw [if_pos rfl, if_pos (by omega), if_pos (by omega), hv]
  ·rw [if_neg e]; congr 1
   by_cases h2 : j < k
   ·rw [if_pos h2, if_pos (by omega)]
   ·rw [if_neg h2, if_neg (by omega)]
 ·rw [if_neg (by omega), List.getElem?_eq_none (by omega), List.getElem?_eq_none (by rw [stp_len h hk]; omega)]
theorem stp_keep {X Y : List V} (h : X.length = Y.length) {k : Nat} (hk : k < X.length) (hv : Y[k] = X[k]) : stp X Y (k + 1) = stp X Y k := by
 have h1 := stp_get h hk
 rw [← stp_set h hk hv, ← h1]
 have hl := stp_len h (Nat.le_of_lt hk)
 rw [yT (by omega)]
 unfold setV
 split
 ·rw [Int.toNat_natCast, List.set_getElem_self]
 ·rfl
theorem sum_le2 : ∀ {A B : List V}, A.length = B.length → (∀ (i : Nat) (a b : V), A[i]? = some a → B[i]? = some b → a.bal ≤ b.bal) → (bals A).sum ≤ (bals B).sum
 | [], [], _, _ => Int.le_refl _
 | a :: A, b :: B, h, hi => by
  have h1 := sum_le2 (A := A) (B := B) (by simpa using h) fun i => hi (i + 1)
  have h2 := hi 0 a b rfl rfl
  simp only [bals, List.map_cons, List.sum_cons] at h1 ⊢
  omega
 | [], _ :: _, h, _ => by simp at h
 | _ :: _, [], h, _ => by simp at h
theorem stp_dn {X Y : List V} (h : X.length = Y.length) (hb : ∀ (i : Nat) (a b : V), X[i]? = some a → Y[i]? = some b → b.bal ≤ a.bal) {k : Nat} (hk : k ≤ X.length) : (bals (stp X Y k)).sum ≤ (bals X).sum :=
 sum_le2 (stp_len h hk) fun i a b ha hb' => by
  have hi : i < X.length := (List.getElem?_eq_some_iff.1 hb').1
  rw [stp_at h hk hi] at ha
  split at ha
  ·injection ha with ha; exact hb i b a hb' (by rw [List.getElem?_eq_getElem (by omega), ha])
  ·injection ha with ha; rw [List.getElem?_eq_getElem hi] at hb'; injection hb' with hb'; rw [← ha, ← hb']; exact Int.le_refl _
theorem stp_up {X Y : List V} (h : X.length = Y.length) (hb : ∀ (i : Nat) (a b : V), X[i]? = some a → Y[i]? = some b → a.bal ≤ b.bal) {k : Nat} (hk : k ≤ X.length) : (bals (stp X Y k)).sum ≤ (bals Y).sum :=
 sum_le2 ((stp_len h hk).trans h) fun i a b ha hb' => by
  have hi : i < Y.length := (List.getElem?_eq_some_iff.1 hb').1
  rw [stp_at h hk (by omega)] at ha
  split at ha
  ·injection ha with ha; rw [List.getElem?_eq_getElem hi] at hb'; injection hb' with hb'; rw [← ha, ← hb']; exact Int.le_refl _
  ·injection ha with ha; exact hb i a b (by rw [List.getElem?_eq_getElem (by omega), ha]) hb'
theorem zip_len {l L : List V} (h : L.length = l.length) : (stW l L 1).length = l.length := by simp [stW]; omega
theorem zip_at {l L : List V} (h : L.length = l.length) {i : Nat} (hi : i < l.length) : (stW l L 1)[i]? = some (loV l[i] L[i]) := by
 simp only [stW]
 rw [List.getElem?_zipWith, List.getElem?_eq_getElem hi, List.getElem?_eq_getElem (by omega)]
theorem zip_get {l L : List V} (h : L.length = l.length) {i : Nat} (hi : i < l.length) (h2 : i < (stW l L 1).length) : (stW l L 1)[i] = loV l[i] L[i] := by
 have := zip_at h hi
 rw [List.getElem?_eq_getElem h2] at this
 injection this
theorem zip_mem {l L : List V} {v : V} (hv : v ∈ stW l L 1) : v ∈ l ∨ v ∈ L := by
 simp only [stW] at hv
 obtain ⟨i, hi, rfl⟩ := List.mem_iff_getElem.1 hv
 simp only [List.length_zipWith] at hi
 rw [List.getElem_zipWith]
 unfold loV
 split
 ·exact .inl (List.getElem_mem _)
 ·exact .inr (List.getElem_mem _)
theorem lo_le (a b : V) : (loV a b).bal ≤ a.bal ∧ (loV a b).bal ≤ b.bal := by unfold loV; split <;> omega
theorem mem_stp {X Y : List V} {k : Nat} {v : V} (h : v ∈ stp X Y k) : v ∈ X ∨ v ∈ Y := by
 rcases List.mem_append.1 h with h | h
 ·exact .inr (List.mem_of_mem_take h)
 ·exact .inl (List.mem_of_mem_drop h)
theorem stp_chg {X Y : List V} {k : Nat} {v : V} (h : X.length = Y.length) (hk : k < X.length) (hv : Y[k] = v) (hX : ∀ x ∈ X, VO x) (hY : ∀ x ∈ Y, VO x) (hs : (bals (stp X Y (k + 1))).sum ≤ 18446744073709551615) {l : List V} (hl : l = stp X Y k) :
  v.ok ∧ ∀ n : Nat, (k : Int) = n → (h : n < l.length) → (l.map V.bal).sum - (l[n]).bal + v.bal ≤ 18446744073709551615 := by
 subst hl
 have hh : hasV (stp X Y k) (k : Int) = true := by unfold hasV; exact decide_eq_true (by rw [stp_len h (Nat.le_of_lt hk)]; omega)
 have e : (stp X Y k).set (k : Int).toNat v = stp X Y (k + 1) := by rw [set_eq hh]; exact stp_set h hk hv
 exact chg_ok (by rw [e]; exact all_got.1 fun x hx => (mem_stp hx).elim (hX x) (hY x)) (by rw [e]; exact hs) hh
theorem store_eng (eb rb cb lb bb ub mb xb b0 b1 pb gb tb : Nat) (c : C) (blk : Nat) (g : RG) (dep paid burn : Int) (bo : List En) (lv : List Int) (cur : Nat) (m : M) (q : LL) (pend : List Int) (mg : List PP) (pt : List Rq) (br : BR) (lA : Option Addr) (lc : Nat) (g0 g1 gp gg gt : Rg) (lA_ : Option Addr) (lC_ : Nat) (L : List V) (w : World) (hw : W0 [Res.blk eb 112 (ECell rb cb lb bb ub mb xb pb gb tb c lA (lv.length) lc), RgB rb g, RgW g, Res.im (RG.m g)] w) (hg : g.Rep) (hcp : (g.cp : Int) = c.capa) (hLr : Rd w [Res.blk eb 112 (ECell rb cb lb bb ub mb xb pb gb tb c lA (lv.length) lc), RgB rb g, RgW g, Res.im (RG.m g)] lA_ L.length 7 (L.map V.c)) (hL : L.length = (RG.l g).length) (hvo : ∀ v ∈ RG.l g, VO v) (hvL : ∀ v ∈ L, VO v) (hsL : (bals L).sum ≤ 18446744073709551615) : Own2 (ι := RG) Tryz.prog 156 [.pointer (some ⟨eb, 0, none⟩), .slice lA_ L.length lC_] w [Res.blk eb 112 (ECell rb cb lb bb ub mb xb pb gb tb c lA (lv.length) lc), RgB rb g, RgW g, Res.im (RG.m g)] (fun x => x.Rep ∧ x.l = L ∧ x.cp = g.cp) (fun x => .tuple #[]) (fun x => []) (fun x => [Res.blk eb 112 (ECell rb cb lb bb ub mb xb pb gb tb c lA (lv.length) lc), RgB rb x, RgW x, Res.im (RG.m x)]) := by
 refine g_st Tryz.func156 47 hw ?_
 have hLb : L.length ≤ 4096 := by have := hg.le; have := hg.cp; omega
 refine rn [1,49,2,0,14] ?_
 refine g_lk [0, 1, 10] (fun (x : Nat × RG) => [(11, .int .i64 ((x.1 : Nat) : Int))]) (fun (x : Nat × RG) => [Res.blk eb 112 (ECell rb cb lb bb ub mb xb pb gb tb c lA (lv.length) lc), RgB rb x.2, RgW x.2, Res.im (RG.m x.2)]) (fun (x : Nat × RG) => x.1 ≤ 2 ∧ RG.Rep x.2 ∧ RG.l x.2 = stW (RG.l g) L x.1 ∧ RG.cp x.2 = RG.cp g) (fun (x : Nat × RG) => 2 - x.1) (0, g) (by (try dsimp only); exact ⟨(by omega), hg, rfl, rfl⟩) ?_
 rintro ⟨j, g8⟩ ⟨le_j, hr8, hl8, hc8⟩
 replace le_j : j ≤ 2 := le_j
 replace hr8 : RG.Rep g8 := hr8
 replace hl8 : RG.l g8 = stW (RG.l g) L j := hl8
 replace hc8 : RG.cp g8 = RG.cp g := hc8
 refine zX (L' := [Res.blk eb 112 (ECell rb cb lb bb ub mb xb pb gb tb c lA (lv.length) lc), RgB rb g8, RgW g8, Res.im (RG.m g8)]) rfl ?_
 refine g_val 11 (v' := .int .i64 ((j : Nat) : Int)) rfl rfl ?_
 refine rn [1,46,0,8] ?_
 refine zC rfl (fun h1 => ?_) (fun h1 => ?_)
 ·have lt_j : j < 2 := by have h9 := of_decide_eq_true h1; omega
  refine rn [12,7,8,14,8] ?_
  rcases (show j = 0 ∨ j = 1 by omega) with rfl | rfl
  ·have hXY : (stW (RG.l g) L 0).length = (stW (RG.l g) L 1).length := (zip_len hL).symm
   have hX : ∀ x ∈ stW (RG.l g) L 0, VO x := hvo
   have hY : ∀ x ∈ stW (RG.l g) L 1, VO x := fun x hx => (zip_mem hx).elim (hvo x) (hvL x)
   have hXl : (stW (RG.l g) L 0).length = L.length := hL.symm
   have hSm : ∀ k, k ≤ L.length → (bals (stp (stW (RG.l g) L 0) (stW (RG.l g) L 1) k)).sum ≤ 18446744073709551615 := fun k hk => Int.le_trans (stp_dn hXY (fun i a b ha hb => by
     have hi := (List.getElem?_eq_some_iff.1 ha).1
     have hi : i < (RG.l g).length := hi
     rw [zip_at hL hi] at hb; injection hb with hb; rw [show (stW (RG.l g) L 0) = RG.l g from rfl, List.getElem?_eq_getElem hi] at ha; injection ha with ha; rw [← ha, ← hb]; exact (lo_le _ _).1) (by omega)) hg.mx
   refine rn [10] ?_
   refine s_q (q_idxval (i := 0) (v := .bool false) rfl rfl rfl (by decide) rfl) rfl ?_
   refine rn [3,0,1,2,47,2,0,14] ?_
   refine g_lk [0, 1, 5, 10, 11, 14, 15] (fun (x : Nat × RG) => [(16, .int .i64 ((x.1 : Nat) : Int))]) (fun (x : Nat × RG) => [Res.blk eb 112 (ECell rb cb lb bb ub mb xb pb gb tb c lA (lv.length) lc), RgB rb x.2, RgW x.2, Res.im (RG.m x.2)]) (fun (x : Nat × RG) => x.1 ≤ L.length ∧ RG.Rep x.2 ∧ RG.l x.2 = stp (stW (RG.l g) L 0) (stW (RG.l g) L 1) x.1 ∧ RG.cp x.2 = RG.cp g) (fun (x : Nat × RG) => L.length - x.1) (0, g8) (by (try dsimp only); exact ⟨Nat.zero_le _, hr8, (by rw [stp_zero]; exact hl8), hc8⟩) ?_
   rintro ⟨k, g9⟩ ⟨le_k, hr9, hl9, hc9⟩
   replace le_k : k ≤ L.length := le_k
   replace hr9 : RG.Rep g9 := hr9
   replace hl9 : RG.l g9 = stp (stW (RG.l g) L 0) (stW (RG.l g) L 1) k := hl9
   replace hc9 : RG.cp g9 = RG.cp g := hc9
   refine zX (L' := [Res.blk eb 112 (ECell rb cb lb bb ub mb xb pb gb tb c lA (lv.length) lc), RgB rb g9, RgW g9, Res.im (RG.m g9)]) rfl ?_
   refine g_val 16 (v' := .int .i64 ((k : Nat) : Int)) rfl rfl ?_
   refine rn [1,46,0,8] ?_
   refine zC rfl (fun h2 => ?_) (fun h2 => ?_)
   ·have lt_k : k < L.length := by have h9 := of_decide_eq_true h2; omega
    have lt_X : k < _ := hXl.symm ▸ lt_k
    have hgo : (gotV (RG.l g9) (k : Int)) = _ := (congrArg (fun z => gotV z (k : Int)) hl9).trans (stp_get hXY lt_X)
    refine rn [12,7,8,14,1,2] ?_
    refine s_q (zR (i := k) rfl rfl rfl hLr.rdb (by first | exact lt_k | omega)) rfl ?_
    refine s_q (zT (i := k) rfl hLr.rdb (zS (by first | exact (by first | exact lt_k | omega) | omega | (simp_all; done) | (simp_all; omega))) rfl) rfl ?_
    refine g_op (zI rfl fun b7 => ?_)
    refine rn [3,33,0,1,2,6,4,4,5,2] ?_
    refine g_op (zK _ rfl (fun w1 hw1 ho1 => by exact rget_any rb g9 (((k : Nat) : Int)) w1 ho1) rfl ?_)
    refine rn [2,40,40] ?_
    refine g_op (zI rfl fun b8 => ?_)
    refine rn [33,3,0,1,4,5,4,5,55,2] ?_
    refine s_q (q_eql_bool (by kernel_rfl) rfl rfl) rfl ?_
    refine rn [0] ?_
    refine zC rfl (fun h3 => ?_) (fun h3 => ?_)
    ·have hnl : ¬ (RG.l g)[k].bal < L[k].bal := by have h9 := h3; rw [hgo] at h9; simp at h9; exact Int.not_lt.2 h9
     have hst : (stW (RG.l g) L 1)[k]'(hXY ▸ lt_X) = L[k] := by rw [zip_get hL lt_X]; unfold loV; rw [if_neg hnl]
     have hchg := stp_chg hXY lt_X hst hX hY (hSm (k + 1) (by omega)) hl9
     refine dregL (L0 := [Res.blk eb 112 (ECell rb cb lb bb ub mb xb pb gb tb c lA (lv.length) lc), Res.blk b7 52 (V.c L[k])]) [] mixed rfl zB ?_
     refine rn [23,0,2,23,1,6,23,2,4] ?_
     refine dq 3 rfl (yS (c' := [Value.pointer (some ⟨rb, 0, none⟩)]) rfl rfl rfl) ?_
     refine rn [23,4,2,23,5,45] ?_
     refine dop 6 rfl (zH _ rfl (fun w1 hw1 ho1 => by have h7 := xB rb g9 (((k : Nat) : Int)) (L[k]) w1 ho1 hr9 hchg.1 hchg.2; exact h7) rfl ?_)
     rintro g44 ⟨r44, l44, c44⟩
     refine ii ?_
     refine rn [27,15,7,10,43,2,9] ?_
     exact g_ag ((k + 1), g44) (by (try dsimp only); exact ⟨(by first | exact lt_k | omega), r44, (by rw [l44, hl9]; exact stp_set hXY lt_X hst), (by rw [c44]; exact hc9)⟩)
    ·have hnl : (RG.l g)[k].bal < L[k].bal := by have h9 := h3; rw [hgo] at h9; simp at h9; exact h9
     have hkp : (stW (RG.l g) L 1)[k]'(hXY ▸ lt_X) = (stW (RG.l g) L 0)[k] := by rw [zip_get hL lt_X]; unfold loV; rw [if_pos hnl]; rfl
     refine rn [12,15,7,10,43,2,9] ?_
     exact g_ag ((k + 1), g9) (by (try dsimp only); exact ⟨(by first | exact lt_k | omega), hr9, (by rw [stp_keep hXY lt_X hkp]; exact hl9), hc9⟩)
   ·have eq_k : k = L.length := by have h9 := of_decide_eq_false h2; omega
    refine rn [16] ?_
    refine zE (zE (zQ ?_))
    refine rn [15,7,10,43,2,9] ?_
    exact g_ag ((0 + 1), g9) (by (try dsimp only); exact ⟨(by omega), hr9, (by rw [hl9, eq_k, show L.length = (stW (RG.l g) L (0 + 1)).length from hXl.symm.trans hXY]; exact stp_all hXY), hc9⟩)
  ·have hXY : (stW (RG.l g) L 1).length = (stW (RG.l g) L 2).length := (zip_len hL).trans hL.symm
   have hX : ∀ x ∈ stW (RG.l g) L 1, VO x := fun x hx => (zip_mem hx).elim (hvo x) (hvL x)
   have hY : ∀ x ∈ stW (RG.l g) L 2, VO x := hvL
   have hXl : (stW (RG.l g) L 1).length = L.length := hXY
   have hSm : ∀ k, k ≤ L.length → (bals (stp (stW (RG.l g) L 1) (stW (RG.l g) L 2) k)).sum ≤ 18446744073709551615 := fun k hk => Int.le_trans (stp_up hXY (fun i a b ha hb => by
     have hi : i < L.length := (List.getElem?_eq_some_iff.1 hb).1
     rw [zip_at hL (by omega)] at ha; injection ha with ha; rw [show (stW (RG.l g) L 2) = L from rfl, List.getElem?_eq_getElem hi] at hb; injection hb with hb; rw [← ha, ← hb]; exact (lo_le _ _).2) (by omega)) hsL
   refine rn [10] ?_
   refine s_q (q_idxval (i := 1) (v := .bool true) rfl rfl rfl (by decide) rfl) rfl ?_
   refine rn [3,0,1,2,47,2,0,14] ?_
   refine g_lk [0, 1, 5, 10, 11, 14, 15] (fun (x : Nat × RG) => [(16, .int .i64 ((x.1 : Nat) : Int))]) (fun (x : Nat × RG) => [Res.blk eb 112 (ECell rb cb lb bb ub mb xb pb gb tb c lA (lv.length) lc), RgB rb x.2, RgW x.2, Res.im (RG.m x.2)]) (fun (x : Nat × RG) => x.1 ≤ L.length ∧ RG.Rep x.2 ∧ RG.l x.2 = stp (stW (RG.l g) L 1) (stW (RG.l g) L 2) x.1 ∧ RG.cp x.2 = RG.cp g) (fun (x : Nat × RG) => L.length - x.1) (0, g8) (by (try dsimp only); exact ⟨Nat.zero_le _, hr8, (by rw [stp_zero]; exact hl8), hc8⟩) ?_
   rintro ⟨k, g9⟩ ⟨le_k, hr9, hl9, hc9⟩
   replace le_k : k ≤ L.length := le_k
   replace hr9 : RG.Rep g9 := hr9
   replace hl9 : RG.l g9 = stp (stW (RG.l g) L 1) (stW (RG.l g) L 2) k := hl9
   replace hc9 : RG.cp g9 = RG.cp g := hc9
   refine zX (L' := [Res.blk eb 112 (ECell rb cb lb bb ub mb xb pb gb tb c lA (lv.length) lc), RgB rb g9, RgW g9, Res.im (RG.m g9)]) rfl ?_
   refine g_val 16 (v' := .int .i64 ((k : Nat) : Int)) rfl rfl ?_
   refine rn [1,46,0,8] ?_
   refine zC rfl (fun h4 => ?_) (fun h4 => ?_)
   ·have lt_k : k < L.length := by have h9 := of_decide_eq_true h4; omega
    have lt_X : k < _ := hXl.symm ▸ lt_k
    have hgo : (gotV (RG.l g9) (k : Int)) = _ := (congrArg (fun z => gotV z (k : Int)) hl9).trans (stp_get hXY lt_X)
    refine rn [12,7,8,14,1,2] ?_
    refine s_q (zR (i := k) rfl rfl rfl hLr.rdb (by first | exact lt_k | omega)) rfl ?_
    refine s_q (zT (i := k) rfl hLr.rdb (zS (by first | exact (by first | exact lt_k | omega) | omega | (simp_all; done) | (simp_all; omega))) rfl) rfl ?_
    refine g_op (zI rfl fun b7 => ?_)
    refine rn [3,33,0,1,2,6,4,4,5,2] ?_
    refine g_op (zK _ rfl (fun w1 hw1 ho1 => by exact rget_any rb g9 (((k : Nat) : Int)) w1 ho1) rfl ?_)
    refine rn [2,40,40] ?_
    refine g_op (zI rfl fun b8 => ?_)
    refine rn [33,3,0,1,4,5,4,5,55,2] ?_
    refine s_q (q_eql_bool (by kernel_rfl) rfl rfl) rfl ?_
    refine rn [0] ?_
    refine zC rfl (fun h5 => ?_) (fun h5 => ?_)
    ·have hst : (stW (RG.l g) L 2)[k]'(hXY ▸ lt_X) = L[k] := rfl
     have hchg := stp_chg hXY lt_X hst hX hY (hSm (k + 1) (by omega)) hl9
     refine dregL (L0 := [Res.blk eb 112 (ECell rb cb lb bb ub mb xb pb gb tb c lA (lv.length) lc), Res.blk b7 52 (V.c L[k])]) [] mixed rfl zB ?_
     refine rn [23,0,2,23,1,6,23,2,4] ?_
     refine dq 3 rfl (yS (c' := [Value.pointer (some ⟨rb, 0, none⟩)]) rfl rfl rfl) ?_
     refine rn [23,4,2,23,5,45] ?_
     refine dop 6 rfl (zH _ rfl (fun w1 hw1 ho1 => by have h7 := xB rb g9 (((k : Nat) : Int)) (L[k]) w1 ho1 hr9 hchg.1 hchg.2; exact h7) rfl ?_)
     rintro g44 ⟨r44, l44, c44⟩
     refine ii ?_
     refine rn [27,15,7,10,43,2,9] ?_
     exact g_ag ((k + 1), g44) (by (try dsimp only); exact ⟨(by first | exact lt_k | omega), r44, (by rw [l44, hl9]; exact stp_set hXY lt_X hst), (by rw [c44]; exact hc9)⟩)
    ·have hnl : ¬ ((stW (RG.l g) L 1)[k]).bal < L[k].bal := by have h9 := h5; rw [hgo] at h9; simpa using h9
     have hkp : (stW (RG.l g) L 2)[k]'(hXY ▸ lt_X) = (stW (RG.l g) L 1)[k] := by
       have hkl : k < (RG.l g).length := by omega
       rw [zip_get hL hkl] at hnl ⊢; unfold loV at hnl ⊢; by_cases hc : (RG.l g)[k].bal < L[k].bal
       · rw [if_pos hc] at hnl; exact absurd hc hnl
       · rw [if_neg hc]; rfl
     refine rn [12,15,7,10,43,2,9] ?_
     exact g_ag ((k + 1), g9) (by (try dsimp only); exact ⟨(by first | exact lt_k | omega), hr9, (by rw [stp_keep hXY lt_X hkp]; exact hl9), hc9⟩)
   ·have eq_k : k = L.length := by have h9 := of_decide_eq_false h4; omega
    refine rn [16] ?_
    refine zE (zE (zQ ?_))
    refine rn [15,7,10,43,2,9] ?_
    exact g_ag ((1 + 1), g9) (by (try dsimp only); exact ⟨(by omega), hr9, (by rw [hl9, eq_k, show L.length = (stW (RG.l g) L (1 + 1)).length from hXl.symm.trans hXY]; exact stp_all hXY), hc9⟩)
 ·have eq_j : j = 2 := by have h9 := of_decide_eq_false h1; omega
  refine rn [16] ?_
  refine zE (zE (zQ ?_))
  exact fin0 rfl (fun w' hw' => ⟨g8, (by exact ⟨hr8, by rw [hl8, eq_j]; rfl, hc8⟩), rfl, zA w' hw'⟩) _ (.inr rfl)
structure BX where
 g : RG
 br : BR
 lA : Option Addr
 lc : Nat
 g0 : Rg
 g1 : Rg
 gp : Rg
 gg : Rg
 O : Option Addr
 oc : Nat
def evK (e : Int) (l : List V) (is : List Int) (k : Nat) : List V := (is.take k).foldl (fun l i => evV l i e) l
theorem evK_end (e : Int) (l : List V) (is : List Int) : evK e l is is.length = is.foldl (fun l i => evV l i e) l := by unfold evK; rw [List.take_length]
theorem evK_succ {e : Int} {l : List V} {is : List Int} {k : Nat} (h : k < is.length) : evK e l is (k + 1) = evV (evK e l is k) is[k] e := fold_succ _ _ h
theorem stR_evK {e : Int} {l : List V} (h : stR l) (is : List Int) (k : Nat) : stR (evK e l is k) := by
 have key : ∀ (is : List Int) (l : List V), stR l → stR (is.foldl (fun l i => evV l i e) l) := fun is => by
  induction is with
  | nil => exact fun _ h => h
  | cons i is ih => exact fun l h => ih _ (stR_ev h i e)
 exact key _ _ h
theorem stR_vo {l : List V} (h : ∀ i, hasV l i = true → VO (gotV l i)) : stR l := fun v hv => by
 obtain ⟨i, hi, rfl⟩ := mem_got hv
 have := (h i hi).s; omega
theorem vo_mem {l : List V} (h : ∀ i, hasV l i = true → VO (gotV l i)) : ∀ v ∈ l, VO v := fun v hv => by
 obtain ⟨i, hi, rfl⟩ := mem_got hv
 exact h i hi
theorem rip_vo {e : Int} {l l' : List V} {bo : List En} (f : Rip e l l' bo) (h : ∀ i, hasV l i = true → VO (gotV l i)) : ∀ i, hasV l' i = true → VO (gotV l' i) := fun i hi => by
 rw [has_len f.len] at hi
 have := h i hi
 rw [f.got]
 split
 ·exact ⟨this.b, by simp, this.r, this.x, this.w, this.d⟩
 ·exact this
theorem asg_vo {e : Int} {c : C} (he : 0 ≤ e) (hu : 1 ≤ c.unb) (hb : e + 1 + c.unb ≤ 1099511627776) {l l' : List V} {ag : List As} (f : Asg e c l l' ag) (h : ∀ i, hasV l i = true → VO (gotV l i)) : ∀ i, hasV l' i = true → VO (gotV l' i) := fun i hi => by
 rw [has_len f.len] at hi
 rw [f.got]
 split
 ·exact (h i hi).asV (by omega) hu hb
 ·exact h i hi
theorem take_min {α : Type} (l : List α) (P : Nat) : (l.take P).take (min (l.take P).length P) = l.take P := by
 rw [List.take_of_length_le (by simp)]
theorem RG.Rep.okB {g : RG} (h : g.Rep) : okU ((RG.l g).map V.bal) := fun y hy => by
 obtain ⟨z, hz, rfl⟩ := List.mem_map.1 hy
 exact (h.ok z hz).bal
theorem RG.Rep.aB {g : RG} (h : g.Rep) : 0 ≤ RG.a g ∧ RG.a g ≤ 18446744073709551615 := by
 have h1 := actS_nn (l := RG.l g) fun v hv => (h.ok v hv).bal.1
 have h2 := h.mx
 rw [h.a]; unfold bals at h1; omega
theorem bdy_eng (eb rb cb lb bb ub mb xb b0 b1 pb gb tb : Nat) (c : C) (blk : Nat) (g : RG) (dep paid burn : Int) (bo : List En) (lv : List Int) (cur : Nat) (m : M) (q : LL) (pend : List Int) (mg : List PP) (pt : List Rq) (br : BR) (lA : Option Addr) (lc : Nat) (g0 g1 gp gg gt : Rg)  (w : World) (hw : W0 [Res.blk eb 112 (ECell rb cb lb bb ub mb xb pb gb tb c lA (lv.length) lc), RgB rb g, RgW g, Res.im (RG.m g), CkB cb ((blk + 1)) (c.elen.toNat), bB_ bb br, bW_ br, bK_ br, Res.row lA (lv).length lc 3 1 ((lv).map (fun v : Int => [Value.int .i64 v])), Res.blk mb 186 (M.c m), bL_ xb b0 b1, rB_i b0 g0, rW_i g0, rB_i b1 g1, rW_i g1, rB_i pb gp, rW_i gp, rB_pp gb gg, rW_pp gg] w) (hi : Inv (Eg.mk c blk (RG.l g) dep paid burn bo lv cur m q pend mg pt)) (hg : g.Rep) (hcp : (g.cp : Int) = c.capa) (hbr : br.Rep bo) (h0 : g0.Rep 1 (q.f.map (fun v : Int => [Value.int .i64 v]))) (h1_ : g1.Rep 1 (q.v.map (fun v : Int => [Value.int .i64 v]))) (s0 : Rg.size g0 = c.qsize.toNat) (s1 : Rg.size g1 = c.qsize.toNat) (hgp : gp.Rep 1 (pend.map (fun v : Int => [Value.int .i64 v]))) (sgp : Rg.size gp = c.qsize.toNat) (hgg : gg.Rep 2 (mg.map PP.c)) (sgg : Rg.size gg = c.qsize.toNat) (hbd : (blk + 1) % c.elen.toNat = 0) (hb9 : blk < 1000000000) : Own2 (ι := BX) Tryz.prog 101 [.pointer (some ⟨eb, 0, none⟩)] w [Res.blk eb 112 (ECell rb cb lb bb ub mb xb pb gb tb c lA (lv.length) lc), RgB rb g, RgW g, Res.im (RG.m g), CkB cb ((blk + 1)) (c.elen.toNat), bB_ bb br, bW_ br, bK_ br, Res.row lA (lv).length lc 3 1 ((lv).map (fun v : Int => [Value.int .i64 v])), Res.blk mb 186 (M.c m), bL_ xb b0 b1, rB_i b0 g0, rW_i g0, rB_i b1 g1, rW_i g1, rB_i pb gp, rW_i gp, rB_pp gb gg, rW_pp gg] (fun x => x.g.Rep ∧ x.g.l = (bdyE (Eg.mk c (blk + 1) (RG.l g) dep paid burn bo lv cur m q pend mg pt)).1.l ∧ x.g.cp = g.cp ∧ x.br.Rep (bdyE (Eg.mk c (blk + 1) (RG.l g) dep paid burn bo lv cur m q pend mg pt)).1.bo ∧ x.g0.Rep 1 ((bdyE (Eg.mk c (blk + 1) (RG.l g) dep paid burn bo lv cur m q pend mg pt)).1.q.f.map (fun v : Int => [Value.int .i64 v])) ∧ x.g1.Rep 1 ((bdyE (Eg.mk c (blk + 1) (RG.l g) dep paid burn bo lv cur m q pend mg pt)).1.q.v.map (fun v : Int => [Value.int .i64 v])) ∧ x.g0.size = c.qsize.toNat ∧ x.g1.size = c.qsize.toNat ∧ x.gp.Rep 1 ((bdyE (Eg.mk c (blk + 1) (RG.l g) dep paid burn bo lv cur m q pend mg pt)).1.pend.map (fun v : Int => [Value.int .i64 v])) ∧ x.gp.size = c.qsize.toNat ∧ x.gg.Rep 2 ((bdyE (Eg.mk c (blk + 1) (RG.l g) dep paid burn bo lv cur m q pend mg pt)).1.mg.map PP.c) ∧ x.gg.size = c.qsize.toNat) (fun x => .slice x.O (bdyE (Eg.mk c (blk + 1) (RG.l g) dep paid burn bo lv cur m q pend mg pt)).2.length x.oc) (fun x => [Res.row x.O (bdyE (Eg.mk c (blk + 1) (RG.l g) dep paid burn bo lv cur m q pend mg pt)).2.length x.oc 55 3 ((bdyE (Eg.mk c (blk + 1) (RG.l g) dep paid burn bo lv cur m q pend mg pt)).2.map As.cs)]) (fun x => [Res.blk eb 112 (ECell rb cb lb bb ub mb xb pb gb tb c x.lA ((bdyE (Eg.mk c (blk + 1) (RG.l g) dep paid burn bo lv cur m q pend mg pt)).1.lv.length) x.lc), RgB rb x.g, RgW x.g, Res.im (RG.m x.g), CkB cb ((blk + 1)) (c.elen.toNat), bB_ bb x.br, bW_ x.br, bK_ x.br, Res.row x.lA ((bdyE (Eg.mk c (blk + 1) (RG.l g) dep paid burn bo lv cur m q pend mg pt)).1.lv).length x.lc 3 1 (((bdyE (Eg.mk c (blk + 1) (RG.l g) dep paid burn bo lv cur m q pend mg pt)).1.lv).map (fun v : Int => [Value.int .i64 v])), Res.blk mb 186 (M.c (bdyE (Eg.mk c (blk + 1) (RG.l g) dep paid burn bo lv cur m q pend mg pt)).1.m), bL_ xb b0 b1, rB_i b0 x.g0, rW_i x.g0, rB_i b1 x.g1, rW_i x.g1, rB_i pb x.gp, rW_i x.gp, rB_pp gb x.gg, rW_pp x.gg]) := by
 refine g_st Tryz.func101 111 hw ?_
 have hok : Cok c := hi.cok
 have hmo : Cmo c := xD hi.cc
 have hblk : blk ≤ 1000000000 := hi.blk
 have hk : blk < 4611686018427387904 := by omega
 have hel : 1 ≤ c.elen.toNat ∧ c.elen.toNat ≤ 4611686018427387904 := by have := hok.elen; omega
 have hled : LOk c.supc dep paid burn := hi.led
 have hqf : q.f.length ≤ c.qsize.toNat ∧ q.v.length ≤ c.qsize.toNat := hi.qf
 have hsum : (bals (RG.l g)).sum = dep - paid - burn := hi.sum
 have hvo : ∀ i, hasV (RG.l g) i = true → VO (gotV (RG.l g) i) := hi.vo
 have hqs := hmo.qsize
 have hE : InvE ((((blk + 1) / c.elen.toNat : Nat) : Int) - 1) (RG.l g) q bo lv := by
   have h9 := hi.e; have h8 := tick_ep (s := (Eg.mk c blk (RG.l g) dep paid burn bo lv cur m q pend mg pt)) hok.elen.1
   rw [if_pos hbd] at h8; exact h9.ep_eq (by unfold Eg.ep at h8 ⊢; simp only at h8 ⊢; omega)
 have hepb : 0 ≤ (((blk + 1) / c.elen.toNat : Nat) : Int) ∧ (((blk + 1) / c.elen.toNat : Nat) : Int) ≤ 1000000000 := ⟨Int.natCast_nonneg _, by have h9 := Nat.div_le_self (blk + 1) c.elen.toNat; generalize (blk + 1) / c.elen.toNat = z at h9 ⊢; omega⟩
 obtain ⟨P, hP⟩ : ∃ P : Nat, c.merg = P := ⟨c.merg.toNat, by have h9 := hmo.merg; omega⟩
 have hgl0 := hg.le; have hgc0 := hg.cp
 have hlvl : lv.length ≤ (RG.l g).length := hi.e.lvl
 have hbol : bo.length ≤ (RG.l g).length := hi.e.bol
 refine rn [1,3,0,1,2,6,4,5] ?_
 refine g_op (zK _ rfl (fun w1 hw1 ho1 => by exact zZ cb (blk + 1) c.elen.toNat w1 ho1 (by omega) hel) rfl ?_)
 refine rn [3,0,8,1,2,6,4,5,47,2,0,14] ?_
 refine g_lk [0, 2, 3, 20, 21] (fun (x : Nat × RG) => [(22, .int .i64 ((x.1 : Nat) : Int))]) (fun (x : Nat × RG) => [Res.blk eb 112 (ECell rb cb lb bb ub mb xb pb gb tb c lA (lv.length) lc), RgB rb x.2, RgW x.2, Res.im (RG.m x.2), CkB cb ((blk + 1)) (c.elen.toNat), bB_ bb br, bW_ br, bK_ br, Res.row lA (lv).length lc 3 1 ((lv).map (fun v : Int => [Value.int .i64 v])), Res.blk mb 186 (M.c m), bL_ xb b0 b1, rB_i b0 g0, rW_i g0, rB_i b1 g1, rW_i g1, rB_i pb gp, rW_i gp, rB_pp gb gg, rW_pp gg]) (fun (x : Nat × RG) => x.1 ≤ lv.length ∧ RG.Rep x.2 ∧ RG.l x.2 = evK 3 (RG.l g) lv x.1 ∧ RG.cp x.2 = RG.cp g) (fun (x : Nat × RG) => lv.length - x.1) (0, g) (by (try dsimp only); exact ⟨Nat.zero_le _, hg, rfl, rfl⟩) ?_
 rintro ⟨k, g9⟩ ⟨le_k, hr9, hl9, hc9⟩
 replace le_k : k ≤ lv.length := le_k
 replace hr9 : RG.Rep g9 := hr9
 replace hl9 : RG.l g9 = evK 3 (RG.l g) lv k := hl9
 replace hc9 : RG.cp g9 = RG.cp g := hc9
 refine zX (L' := [Res.blk eb 112 (ECell rb cb lb bb ub mb xb pb gb tb c lA (lv.length) lc), RgB rb g9, RgW g9, Res.im (RG.m g9), CkB cb ((blk + 1)) (c.elen.toNat), bB_ bb br, bW_ br, bK_ br, Res.row lA (lv).length lc 3 1 ((lv).map (fun v : Int => [Value.int .i64 v])), Res.blk mb 186 (M.c m), bL_ xb b0 b1, rB_i b0 g0, rW_i g0, rB_i b1 g1, rW_i g1, rB_i pb gp, rW_i gp, rB_pp gb gg, rW_pp gg]) rfl ?_
 refine g_val 22 (v' := .int .i64 ((k : Nat) : Int)) rfl rfl ?_
 have hst9 : stR (RG.l g9) := by rw [hl9]; exact stR_evK (stR_vo hvo) lv k
 refine rn [1,46,0,8] ?_
 refine zC rfl (fun h1 => ?_) (fun h1 => ?_)
 ·have lt_k : k < lv.length := by have h9 := of_decide_eq_true h1; omega
  refine rn [12,7,8,14,1] ?_
  refine s_q (zR (i := k) rfl rfl rfl (InRow.rdb (A := lA) (els := (lv).map (fun v : Int => [Value.int .i64 v])) (by first | rfl | assumption | (simp; done) | (simp_all; done) | (simp; omega) | (simp_all; omega)) (zM (c := (fun v : Int => [Value.int .i64 v])) (fun _ => rfl) _)) (by first | exact lt_k | omega)) rfl ?_
  refine s_q (yL (i := k) (o := 0) rfl (InRow.rdb (A := lA) (els := (lv).map (fun v : Int => [Value.int .i64 v])) (by first | rfl | assumption | (simp; done) | (simp_all; done) | (simp; omega) | (simp_all; omega)) (zM (c := (fun v : Int => [Value.int .i64 v])) (fun _ => rfl) _)) (zS (by first | assumption | omega | (simp_all; done) | (simp_all; omega))) rfl rfl) rfl ?_
  refine rn [3,0,10,2,6,4] ?_
  refine s_q (yS (c' := [Value.pointer (some ⟨rb, 0, none⟩)]) rfl rfl rfl) rfl ?_
  refine rn [2] ?_
  refine g_op (zH _ rfl (fun w1 hw1 ho1 => by have h7 := event_tab rb g9 ((lv)[k]) 3 w1 ho1 hr9 (by decide) hst9; exact h7) rfl ?_)
  rintro g31 ⟨r31, l31, c31⟩
  refine ii ?_
  refine rn [9,15,7,10,43,2,9] ?_
  exact g_ag ((k + 1), g31) (by (try dsimp only); exact ⟨(by first | exact lt_k | omega), r31, (by rw [l31, hl9]; exact (evK_succ lt_k).symm), (by rw [c31]; exact hc9)⟩)
 ·have eq_k : k = lv.length := by have h9 := of_decide_eq_false h1; omega
  refine rn [16] ?_
  refine zE (zE (zQ ?_))
  refine rn [7,1,2,6,4] ?_
  refine g_op (zP rfl rfl rfl rfl rfl rfl rfl ?_)
  refine zJ (b := eb) (ECell rb cb lb bb ub mb xb pb gb tb c none (([] : List Int).length) 0) (by rfl) ?_
  refine zW none 3 1 (([] : List Int).map (fun v : Int => [Value.int .i64 v])) (by rfl) ?_
  rw [eq_k, evK_end] at hl9
  have d1 : Mid (((blk + 1) / c.elen.toNat : Nat) : Int) (((blk + 1) / c.elen.toNat : Nat) : Int) (RG.l g9) q bo := by rw [hl9]; exact hE.mid
  have v1 : ∀ i, hasV (RG.l g9) i = true → VO (gotV (RG.l g9) i) := by rw [hl9]; exact vo_ev (by omega) lv hvo
  have b1_ : bals (RG.l g9) = bals (RG.l g) := by rw [hl9]; exact bals_fold_ev 3 _ _
  refine rn [0,1,2,2] ?_
  refine g_op (zH _ rfl (fun w1 hw1 ho1 => by have h7 := ripen_any eb rb cb lb bb ub mb xb b0 b1 pb gb tb c (blk + 1) g9 dep paid burn bo ([] : List Int) cur m q pend mg pt br none 0 g0 g1 gp gg gt (((((blk + 1) / c.elen.toNat) : Nat) : Int)) w1 ho1 hr9 (by omega) hbr (stR_vo v1) (by omega); exact h7) rfl ?_)
  rintro ⟨g38, br38⟩ ⟨r38, l38, c38, rb38⟩
  refine ii ?_
  simp only at r38 l38 c38 rb38
  obtain ⟨f2, d2⟩ := d1.rip hepb.1 (VO.z_wd _ v1)
  have b2 : bals (RG.l g38) = bals (RG.l g9) := by rw [l38]; exact bals_rip _ _ _
  have v2 := rip_vo f2 v1
  rw [← l38] at f2 d2 v2
  have hbl2 : (ripE (((blk + 1) / c.elen.toNat : Nat) : Int) (RG.l g9, bo)).2.length ≤ 100000 := by have h9 := ripK_len (e := (((blk + 1) / c.elen.toNat : Nat) : Int)) (s := (RG.l g9, bo)) (dueO (((blk + 1) / c.elen.toNat : Nat) : Int) bo).length; rw [ripK_end] at h9; simp only at h9; omega
  have haB := r38.aB
  have hch : 0 ≤ (churn (RG.a g38) c.minch c.quot) ∧ (churn (RG.a g38) c.minch c.quot) ≤ 18446744073709551615 := by
    have h9 := hi.ck.minch; have h8 := hi.ck.quot; simp only at h9 h8
    refine ⟨churn_nn haB.1 h9.1, ?_⟩
    unfold churn; split
    · exact h9.2
    · have h7 := Int.ediv_le_self c.quot haB.1; omega
  refine rn [0,8] ?_
  refine dregL (L0 := [Res.blk eb 112 (ECell rb cb lb bb ub mb xb pb gb tb c none (([] : List Int).length) 0)]) [] mixed rfl zB ?_
  refine rn [23,0,2,23,1,6,23,2,4,23,3,4,23,4,5,23,6,2,23,7,6,23,8,4,23,9,4,23,10,5,23,11,2,23,12,6,23,13,4,23,14,4,23,15,5] ?_
  refine dop 5 rfl (zK _ rfl (fun w1 hw1 ho1 => by exact ract_any rb g38 w1 ho1) rfl ?_)
  refine dop 16 rfl (zG rfl (fun w1 hw1 => by exact churn_any ((RG.a g38)) (c.minch) (c.quot) w1 haB hi.ck.minch hi.ck.quot) rfl ?_)
  refine rn [23,17,3,27,7,1,2,2,2] ?_
  refine g_op (zH _ rfl (fun w1 hw1 ho1 => by have h7 := assign_eng eb rb cb lb bb ub mb xb b0 b1 pb gb tb c (blk + 1) g38 dep paid burn (ripE ((((blk + 1) / c.elen.toNat) : Nat) : Int) (RG.l g9, bo)).2 ([] : List Int) cur m q pend mg pt br38 none 0 g0 g1 gp gg gt (((((blk + 1) / c.elen.toNat) : Nat) : Int)) ((churn (RG.a g38) c.minch c.quot)) w1 ho1 r38 (by omega) rb38 h0 h1_ s0 s1 hqf hqs hepb hok.unb d2 v2 hbl2 (by simp); exact h7) rfl ?_)
  rintro ⟨g59, br59, lA59, lc59, ga59, gb59, O59, oc59⟩ ⟨r59, l59, c59, rb59, ra59, rbb59, sa59, sb59⟩
  refine ii ?_
  simp only at r59 l59 c59 rb59 ra59 rbb59 sa59 sb59
  refine rn [3,0,8,8] ?_
  refine dregL (L0 := [Res.blk eb 112 (ECell rb cb lb bb ub mb xb pb gb tb c lA59 (((stepM ((RG.l g38).map V.bal) (((blk + 1) / c.elen.toNat : Nat) : Int) (churn (RG.a g38) c.minch c.quot) q m).1.foldl (asgS c) (RG.l g38, (ripE (((blk + 1) / c.elen.toNat : Nat) : Int) (RG.l g9, bo)).2, ([] : List Int))).2.2.length) lc59)]) [] mixed rfl zB ?_
  refine rn [23,0,2,23,1,6,23,2,4,23,3,5,23,4,2,23,5,2,23,6,6,23,7,4] ?_
  refine dq 8 rfl (yS (c' := [Value.pointer (some ⟨rb, 0, none⟩)]) rfl rfl rfl) ?_
  refine rn [23,12,2] ?_
  refine dop 9 rfl (zH _ rfl (fun w1 hw1 ho1 => by have h7 := balances_tab rb g59 w1 ho1 r59; exact h7) rfl ?_)
  rintro ⟨A69, cap69⟩ _
  refine ii ?_
  refine dop 10 rfl (zH _ rfl (fun w1 hw1 ho1 => by have h7 := step14_any pb gp ((churn (RG.a g38) c.minch c.quot)) A69 (((RG.l g59).map V.bal).length) (cap69) ((RG.l g59).map V.bal) pend w1 ho1 hgp (Rd.ofRow (A := A69) hw1) r59.okB hch (by have h9 := hi.pe; simp only at h9; omega); exact h7) rfl ?_)
  rintro ⟨A70, cap70, g70⟩ ⟨r70, s70⟩
  refine ii ?_
  simp only at r70 s70
  refine rn [23,11,47,27,7,14] ?_
  obtain ⟨f3, e3⟩ := d2.asg hepb.1 hok.unb.1 (by have h9 := hok.unb; omega) (VO.z_wd _ v2) ((RG.l g38).map V.bal) (churn (RG.a g38) c.minch c.quot) m
  have v3 := asg_vo hepb.1 hok.unb.1 (by have h9 := hok.unb; omega) f3 v2
  have b3 : bals (RG.l g59) = bals (RG.l g38) := by rw [l59]; exact f3.bal
  rw [← l59] at v3
  have hacl : (batF (churn (RG.a g38) c.minch c.quot) ((RG.l g59).map V.bal) pend 0 true).length ≤ 4096 := by have h9 := bat_len (churn (RG.a g38) c.minch c.quot) ((RG.l g59).map V.bal) pend 0 true; have h8 := hi.pe; simp only at h8; omega
  refine g_lk [0, 2, 7, 70, 71] (fun (x : Nat × RG) => [(72, .int .i64 ((x.1 : Nat) : Int))]) (fun (x : Nat × RG) => [Res.row A70 (batF (churn (RG.a g38) c.minch c.quot) ((RG.l g59).map V.bal) pend 0 true).length cap70 3 1 ((batF (churn (RG.a g38) c.minch c.quot) ((RG.l g59).map V.bal) pend 0 true).map (fun v : Int => [Value.int .i64 v])), Res.row O59 (stepM ((RG.l g38).map V.bal) (((blk + 1) / c.elen.toNat : Nat) : Int) (churn (RG.a g38) c.minch c.quot) q m).1.length oc59 55 3 ((stepM ((RG.l g38).map V.bal) (((blk + 1) / c.elen.toNat : Nat) : Int) (churn (RG.a g38) c.minch c.quot) q m).1.map As.cs), Res.blk eb 112 (ECell rb cb lb bb ub mb xb pb gb tb c lA59 (((stepM ((RG.l g38).map V.bal) (((blk + 1) / c.elen.toNat : Nat) : Int) (churn (RG.a g38) c.minch c.quot) q m).1.foldl (asgS c) (RG.l g38, (ripE (((blk + 1) / c.elen.toNat : Nat) : Int) (RG.l g9, bo)).2, ([] : List Int))).2.2.length) lc59), RgB rb x.2, RgW x.2, Res.im (RG.m x.2), CkB cb ((blk + 1)) (c.elen.toNat), bB_ bb br59, bW_ br59, bK_ br59, Res.row lA59 (((stepM ((RG.l g38).map V.bal) (((blk + 1) / c.elen.toNat : Nat) : Int) (churn (RG.a g38) c.minch c.quot) q m).1.foldl (asgS c) (RG.l g38, (ripE (((blk + 1) / c.elen.toNat : Nat) : Int) (RG.l g9, bo)).2, ([] : List Int))).2.2).length lc59 3 1 ((((stepM ((RG.l g38).map V.bal) (((blk + 1) / c.elen.toNat : Nat) : Int) (churn (RG.a g38) c.minch c.quot) q m).1.foldl (asgS c) (RG.l g38, (ripE (((blk + 1) / c.elen.toNat : Nat) : Int) (RG.l g9, bo)).2, ([] : List Int))).2.2).map (fun v : Int => [Value.int .i64 v])), Res.blk mb 186 (M.c (stepM ((RG.l g38).map V.bal) (((blk + 1) / c.elen.toNat : Nat) : Int) (churn (RG.a g38) c.minch c.quot) q m).2.2), bL_ xb b0 b1, rB_i b0 ga59, rW_i ga59, rB_i b1 gb59, rW_i gb59, rB_i pb g70, rW_i g70, rB_pp gb gg, rW_pp gg]) (fun (x : Nat × RG) => x.1 ≤ (batF (churn (RG.a g38) c.minch c.quot) ((RG.l g59).map V.bal) pend 0 true).length ∧ RG.Rep x.2 ∧ RG.l x.2 = evK 1 (RG.l g59) (batF (churn (RG.a g38) c.minch c.quot) ((RG.l g59).map V.bal) pend 0 true) x.1 ∧ RG.cp x.2 = RG.cp g59) (fun (x : Nat × RG) => (batF (churn (RG.a g38) c.minch c.quot) ((RG.l g59).map V.bal) pend 0 true).length - x.1) (0, g59) (by (try dsimp only); exact ⟨Nat.zero_le _, r59, rfl, rfl⟩) ?_
  rintro ⟨k, gz9⟩ ⟨le_k, hrz, hlz, hcz⟩
  replace le_k : k ≤ (batF (churn (RG.a g38) c.minch c.quot) ((RG.l g59).map V.bal) pend 0 true).length := le_k
  replace hrz : RG.Rep gz9 := hrz
  replace hlz : RG.l gz9 = evK 1 (RG.l g59) (batF (churn (RG.a g38) c.minch c.quot) ((RG.l g59).map V.bal) pend 0 true) k := hlz
  replace hcz : RG.cp gz9 = RG.cp g59 := hcz
  refine zX (L' := [Res.row A70 (batF (churn (RG.a g38) c.minch c.quot) ((RG.l g59).map V.bal) pend 0 true).length cap70 3 1 ((batF (churn (RG.a g38) c.minch c.quot) ((RG.l g59).map V.bal) pend 0 true).map (fun v : Int => [Value.int .i64 v])), Res.row O59 (stepM ((RG.l g38).map V.bal) (((blk + 1) / c.elen.toNat : Nat) : Int) (churn (RG.a g38) c.minch c.quot) q m).1.length oc59 55 3 ((stepM ((RG.l g38).map V.bal) (((blk + 1) / c.elen.toNat : Nat) : Int) (churn (RG.a g38) c.minch c.quot) q m).1.map As.cs), Res.blk eb 112 (ECell rb cb lb bb ub mb xb pb gb tb c lA59 (((stepM ((RG.l g38).map V.bal) (((blk + 1) / c.elen.toNat : Nat) : Int) (churn (RG.a g38) c.minch c.quot) q m).1.foldl (asgS c) (RG.l g38, (ripE (((blk + 1) / c.elen.toNat : Nat) : Int) (RG.l g9, bo)).2, ([] : List Int))).2.2.length) lc59), RgB rb gz9, RgW gz9, Res.im (RG.m gz9), CkB cb ((blk + 1)) (c.elen.toNat), bB_ bb br59, bW_ br59, bK_ br59, Res.row lA59 (((stepM ((RG.l g38).map V.bal) (((blk + 1) / c.elen.toNat : Nat) : Int) (churn (RG.a g38) c.minch c.quot) q m).1.foldl (asgS c) (RG.l g38, (ripE (((blk + 1) / c.elen.toNat : Nat) : Int) (RG.l g9, bo)).2, ([] : List Int))).2.2).length lc59 3 1 ((((stepM ((RG.l g38).map V.bal) (((blk + 1) / c.elen.toNat : Nat) : Int) (churn (RG.a g38) c.minch c.quot) q m).1.foldl (asgS c) (RG.l g38, (ripE (((blk + 1) / c.elen.toNat : Nat) : Int) (RG.l g9, bo)).2, ([] : List Int))).2.2).map (fun v : Int => [Value.int .i64 v])), Res.blk mb 186 (M.c (stepM ((RG.l g38).map V.bal) (((blk + 1) / c.elen.toNat : Nat) : Int) (churn (RG.a g38) c.minch c.quot) q m).2.2), bL_ xb b0 b1, rB_i b0 ga59, rW_i ga59, rB_i b1 gb59, rW_i gb59, rB_i pb g70, rW_i g70, rB_pp gb gg, rW_pp gg]) rfl ?_
  refine g_val 72 (v' := .int .i64 ((k : Nat) : Int)) rfl rfl ?_
  have hst9 : stR (RG.l gz9) := by rw [hlz]; exact stR_evK (stR_vo v3) _ k
  refine rn [1,46,0,8] ?_
  refine zC rfl (fun h2 => ?_) (fun h2 => ?_)
  ·have lt_k : k < (batF (churn (RG.a g38) c.minch c.quot) ((RG.l g59).map V.bal) pend 0 true).length := by have h9 := of_decide_eq_true h2; omega
   refine rn [12,7,8,14,1] ?_
   refine s_q (zR (i := k) rfl rfl rfl (InRow.rdb (A := A70) (els := ((batF (churn (RG.a g38) c.minch c.quot) ((RG.l g59).map V.bal) pend 0 true)).map (fun v : Int => [Value.int .i64 v])) (by first | rfl | assumption | (simp; done) | (simp_all; done) | (simp; omega) | (simp_all; omega)) (zM (c := (fun v : Int => [Value.int .i64 v])) (fun _ => rfl) _)) (by first | exact lt_k | omega)) rfl ?_
   refine s_q (yL (i := k) (o := 0) rfl (InRow.rdb (A := A70) (els := ((batF (churn (RG.a g38) c.minch c.quot) ((RG.l g59).map V.bal) pend 0 true)).map (fun v : Int => [Value.int .i64 v])) (by first | rfl | assumption | (simp; done) | (simp_all; done) | (simp; omega) | (simp_all; omega)) (zM (c := (fun v : Int => [Value.int .i64 v])) (fun _ => rfl) _)) (zS (by first | assumption | omega | (simp_all; done) | (simp_all; omega))) rfl rfl) rfl ?_
   refine rn [3,0,10,2,6,4] ?_
   refine s_q (yS (c' := [Value.pointer (some ⟨rb, 0, none⟩)]) rfl rfl rfl) rfl ?_
   refine rn [2] ?_
   refine g_op (zH _ rfl (fun w1 hw1 ho1 => by have h7 := event_tab rb gz9 (((batF (churn (RG.a g38) c.minch c.quot) ((RG.l g59).map V.bal) pend 0 true))[k]) 1 w1 ho1 hrz (by decide) hst9; exact h7) rfl ?_)
   rintro g81 ⟨r81, l81, c81⟩
   refine ii ?_
   refine rn [9,15,7,10,43,2,9] ?_
   exact g_ag ((k + 1), g81) (by (try dsimp only); exact ⟨(by first | exact lt_k | omega), r81, (by rw [l81, hlz]; exact (evK_succ lt_k).symm), (by rw [c81]; exact hcz)⟩)
  ·have eq_k : k = (batF (churn (RG.a g38) c.minch c.quot) ((RG.l g59).map V.bal) pend 0 true).length := by have h9 := of_decide_eq_false h2; omega
   refine rn [16] ?_
   refine zE (zE (zQ ?_))
   refine rn [7,8] ?_
   refine dregL (L0 := [Res.blk eb 112 (ECell rb cb lb bb ub mb xb pb gb tb c lA59 (((stepM ((RG.l g38).map V.bal) (((blk + 1) / c.elen.toNat : Nat) : Int) (churn (RG.a g38) c.minch c.quot) q m).1.foldl (asgS c) (RG.l g38, (ripE (((blk + 1) / c.elen.toNat : Nat) : Int) (RG.l g9, bo)).2, ([] : List Int))).2.2.length) lc59)]) [] mixed rfl zB ?_
   rw [eq_k, evK_end] at hlz
   have v4 : ∀ i, hasV (RG.l gz9) i = true → VO (gotV (RG.l gz9) i) := by rw [hlz]; exact vo_ev (by omega) _ v3
   have b4 : bals (RG.l gz9) = bals (RG.l g59) := by rw [hlz]; exact bals_fold_ev 1 _ _
   obtain ⟨f5, s5⟩ := K2.runM (c := c) (mg.take P) v4
   have k_l : ∀ z ∈ RG.l gz9, z.ok := hrz.ok
   have hgl := hrz.le; have hgc := hrz.cp
   have hmgl : mg.length ≤ 4096 := by have h9 := hi.mg; simp only at h9; omega
   have hmtl : (mg.take P).length ≤ 4096 := by simp; omega
   refine rn [23,0,2,23,1,6,23,2,4,23,3,4,23,4,5,23,6,2,23,7,6,23,8,4,23,9,5,23,10,2,23,11,6,23,12,4,23,13,4,23,14,5] ?_
   refine g_val 98 (v' := .int .i64 ((P : Nat) : Int)) rfl (by rw [hP]) ?_
   refine rn [23,16,2,23,17,6,23,18,4] ?_
   refine dq 19 rfl (yS (c' := C.c c) rfl rfl rfl) ?_
   refine dop 5 rfl (zH _ rfl (fun w1 hw1 ho1 => by have h7 := rall_any rb gz9 w1 ho1 hrz; exact h7) rfl ?_)
   rintro ⟨A89, cap89⟩ _
   refine ii ?_
   refine dop 15 rfl (zH _ rfl (fun w1 hw1 ho1 => by have h7 := take_pp gb gg mg P w1 ho1 hgg (by omega); exact h7) rfl ?_)
   rintro ⟨A99, cap99, g99⟩ ⟨r99, s99⟩
   refine ii ?_
   simp only at r99 s99
   refine dop 20 rfl (zH [] rfl (fun w1 hw1 ho1 => by have h7 := step16_any A89 A99 ((RG.l gz9).length) (cap89) (cap99) P ((RG.l gz9)) ((mg.take P)) c w1 (Rd.ofRow (A := A89) hw1) (Rd.ofRow (A := A99) hw1) (row_le (A := A99) hw1) (by omega) (by omega) hP (fun x hx => (k_l x hx).bal); exact h7) rfl ?_)
   rintro ⟨A104, cap104, AA104, capd104⟩ _
   refine ii ?_
   obtain ⟨g104, hg104⟩ : ∃ x, x = (runM c (RG.l gz9) ((mg.take P).take (min (mg.take P).length P))).1 := ⟨_, rfl⟩
   obtain ⟨d104, hd104⟩ : ∃ x, x = (runM c (RG.l gz9) ((mg.take P).take (min (mg.take P).length P))).2 := ⟨_, rfl⟩
   rw [← hg104, ← hd104]
   have hgl104 : g104.length = (RG.l gz9).length := by rw [hg104]; exact (yF _ _ _).1
   have hdl104 : d104.length = min (mg.take P).length P := by rw [hd104, (yF _ _ _).2]; simp
   refine rn [23,21,2,23,22,40,23,23,40,23,24,3,23,25,3,27,7,1] ?_
   refine yC (A := A104) g104.length (by omega) ?_
   refine g_val 10 (v' := .slice A104 g104.length cap104) rfl (by rw [hgl104]) ?_
   refine rn [2,2] ?_
   refine g_op (zH _ rfl (fun w1 hw1 ho1 => by have h7 := store_eng eb rb cb lb bb ub mb xb b0 b1 pb gb tb c (blk + 1) gz9 dep paid burn ((stepM ((RG.l g38).map V.bal) ((((blk + 1) / c.elen.toNat) : Nat) : Int) (churn (RG.a g38) c.minch c.quot) q m).1.foldl (asgS c) (RG.l g38, (ripE ((((blk + 1) / c.elen.toNat) : Nat) : Int) (RG.l g9, bo)).2, ([] : List Int))).2.1 ((stepM ((RG.l g38).map V.bal) ((((blk + 1) / c.elen.toNat) : Nat) : Int) (churn (RG.a g38) c.minch c.quot) q m).1.foldl (asgS c) (RG.l g38, (ripE ((((blk + 1) / c.elen.toNat) : Nat) : Int) (RG.l g9, bo)).2, ([] : List Int))).2.2 cur (stepM ((RG.l g38).map V.bal) ((((blk + 1) / c.elen.toNat) : Nat) : Int) (churn (RG.a g38) c.minch c.quot) q m).2.2 (stepM ((RG.l g38).map V.bal) ((((blk + 1) / c.elen.toNat) : Nat) : Int) (churn (RG.a g38) c.minch c.quot) q m).2.1 (pend.drop (batF (churn (RG.a g38) c.minch c.quot) ((RG.l g59).map V.bal) pend 0 true).length) (mg.drop (mg.take P).length) pt br59 lA59 lc59 ga59 gb59 g70 g99 gt A104 cap104 g104 w1 ho1 hrz (by omega) (Rd.ofRow (A := A104) hw1) (by omega) (vo_mem v4) (vo_mem (by rw [hg104, take_min]; exact f5.vo v4)) (by rw [hg104, take_min, s5, b4, b3, b2, b1_]; exact hg.mx); exact h7) rfl ?_)
   rintro g109 ⟨r109, l109, c109⟩
   refine ii ?_
   refine rn [0,1,2,3,0,11] ?_
   have hB : (bdyE (Eg.mk c (blk + 1) (RG.l g) dep paid burn bo lv cur m q pend mg pt)) = ((Eg.mk c (blk + 1) g104 dep paid burn ((stepM ((RG.l g38).map V.bal) (((blk + 1) / c.elen.toNat : Nat) : Int) (churn (RG.a g38) c.minch c.quot) q m).1.foldl (asgS c) (RG.l g38, (ripE (((blk + 1) / c.elen.toNat : Nat) : Int) (RG.l g9, bo)).2, ([] : List Int))).2.1 ((stepM ((RG.l g38).map V.bal) (((blk + 1) / c.elen.toNat : Nat) : Int) (churn (RG.a g38) c.minch c.quot) q m).1.foldl (asgS c) (RG.l g38, (ripE (((blk + 1) / c.elen.toNat : Nat) : Int) (RG.l g9, bo)).2, ([] : List Int))).2.2 cur (stepM ((RG.l g38).map V.bal) (((blk + 1) / c.elen.toNat : Nat) : Int) (churn (RG.a g38) c.minch c.quot) q m).2.2 (stepM ((RG.l g38).map V.bal) (((blk + 1) / c.elen.toNat : Nat) : Int) (churn (RG.a g38) c.minch c.quot) q m).2.1 (pend.drop (batF (churn (RG.a g38) c.minch c.quot) ((RG.l g59).map V.bal) pend 0 true).length) (mg.drop (mg.take P).length) pt), (stepM ((RG.l g38).map V.bal) (((blk + 1) / c.elen.toNat : Nat) : Int) (churn (RG.a g38) c.minch c.quot) q m).1) := by
     have hPn : c.merg.toNat = P := by omega
     rw [take_min] at hg104
     unfold bdyE churnE Eg.ep; dsimp only
     unfold bals
     rw [← hl9, ← l38, ← r38.a, ← l59, ← hlz, hPn, ← hg104]
   exact fin1 rfl (.tmp rfl) (fun w' hw' => ⟨(⟨g109, br59, lA59, lc59, ga59, gb59, g70, g99, O59, oc59⟩ : BX), (by (try dsimp only); (rw [hB]; exact ⟨r109, l109, by rw [c109, hcz, c59, c38, hc9], rb59, ra59, rbb59, sa59, sb59, r70, by rw [s70]; exact sgp, r99, by rw [s99]; exact sgg⟩)), by rw [hB], by have h9 := zB (L' := [Res.row O59 (stepM ((RG.l g38).map V.bal) (((blk + 1) / c.elen.toNat : Nat) : Int) (churn (RG.a g38) c.minch c.quot) q m).1.length oc59 55 3 ((stepM ((RG.l g38).map V.bal) (((blk + 1) / c.elen.toNat : Nat) : Int) (churn (RG.a g38) c.minch c.quot) q m).1.map As.cs), Res.blk eb 112 (ECell rb cb lb bb ub mb xb pb gb tb c lA59 (((stepM ((RG.l g38).map V.bal) (((blk + 1) / c.elen.toNat : Nat) : Int) (churn (RG.a g38) c.minch c.quot) q m).1.foldl (asgS c) (RG.l g38, (ripE (((blk + 1) / c.elen.toNat : Nat) : Int) (RG.l g9, bo)).2, ([] : List Int))).2.2.length) lc59), RgB rb g109, RgW g109, Res.im (RG.m g109), CkB cb ((blk + 1)) (c.elen.toNat), bB_ bb br59, bW_ br59, bK_ br59, Res.row lA59 (((stepM ((RG.l g38).map V.bal) (((blk + 1) / c.elen.toNat : Nat) : Int) (churn (RG.a g38) c.minch c.quot) q m).1.foldl (asgS c) (RG.l g38, (ripE (((blk + 1) / c.elen.toNat : Nat) : Int) (RG.l g9, bo)).2, ([] : List Int))).2.2).length lc59 3 1 ((((stepM ((RG.l g38).map V.bal) (((blk + 1) / c.elen.toNat : Nat) : Int) (churn (RG.a g38) c.minch c.quot) q m).1.foldl (asgS c) (RG.l g38, (ripE (((blk + 1) / c.elen.toNat : Nat) : Int) (RG.l g9, bo)).2, ([] : List Int))).2.2).map (fun v : Int => [Value.int .i64 v])), Res.blk mb 186 (M.c (stepM ((RG.l g38).map V.bal) (((blk + 1) / c.elen.toNat : Nat) : Int) (churn (RG.a g38) c.minch c.quot) q m).2.2), bL_ xb b0 b1, rB_i b0 ga59, rW_i ga59, rB_i b1 gb59, rW_i gb59, rB_i pb g70, rW_i g70, rB_pp gb g99, rW_pp g99]) w' hw'; show WOK _ _ [Res.row O59 (bdyE (Eg.mk c (blk + 1) (RG.l g) dep paid burn bo lv cur m q pend mg pt)).2.length oc59 55 3 ((bdyE (Eg.mk c (blk + 1) (RG.l g) dep paid burn bo lv cur m q pend mg pt)).2.map As.cs), Res.blk eb 112 (ECell rb cb lb bb ub mb xb pb gb tb c lA59 ((bdyE (Eg.mk c (blk + 1) (RG.l g) dep paid burn bo lv cur m q pend mg pt)).1.lv.length) lc59), RgB rb g109, RgW g109, Res.im (RG.m g109), CkB cb ((blk + 1)) (c.elen.toNat), bB_ bb br59, bW_ br59, bK_ br59, Res.row lA59 ((bdyE (Eg.mk c (blk + 1) (RG.l g) dep paid burn bo lv cur m q pend mg pt)).1.lv).length lc59 3 1 (((bdyE (Eg.mk c (blk + 1) (RG.l g) dep paid burn bo lv cur m q pend mg pt)).1.lv).map (fun v : Int => [Value.int .i64 v])), Res.blk mb 186 (M.c (bdyE (Eg.mk c (blk + 1) (RG.l g) dep paid burn bo lv cur m q pend mg pt)).1.m), bL_ xb b0 b1, rB_i b0 ga59, rW_i ga59, rB_i b1 gb59, rW_i gb59, rB_i pb g70, rW_i g70, rB_pp gb g99, rW_pp g99] _; rw [hB]; exact h9⟩) _ (.inl rfl)
end Go.Proofs.YtdddiilocbbkkaaGreat
