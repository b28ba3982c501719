/- TopForced: for every configuration and all operations the law returns true. No condition. (the texts of the proof, part 10 of 12) -/
import Derived.Test.YtdddiilocbbkkaaGreatM9
set_option linter.unusedVariables false
set_option linter.unusedSimpArgs false
namespace Go.Proofs.YtdddiilocbbkkaaGreat
open Go.RowKit Go.Eg
set_option maxHeartbeats 4000000
set_option synthInstance.maxSize 3000
set_option maxRecDepth 100000
theorem run_pl (c : C) (l : List V) (q : List Rq) : (run c l q).2.length ≤ q.length := by
 have key : ∀ (q : List Rq) (s : List V × List Y), (q.foldl (stepQ c) s).2.length ≤ s.2.length + q.length := fun q => by
  induction q with
  | nil => exact fun _ => Nat.le_refl _
  | cons r q ih =>
   intro s
   have h1 := ih (stepQ c s r)
   have h2 : (stepQ c s r).2.length ≤ s.2.length + 1 := by
    show (payP c s.1 s.2 r).length ≤ _
    rw [payP_eq]; split <;> simp
   simp only [List.foldl_cons, List.length_cons]; omega
 have := key q (l, [])
 simpa [run] using this
def rdyK (l : List V) (k : Nat) : List Bool := (l.take k).map (fun v => decide (v.st = 5)) ++ List.replicate (l.length - k) false
theorem rdyK_len {l : List V} {k : Nat} (h : k ≤ l.length) : (rdyK l k).length = l.length := by simp [rdyK]; omega
theorem rdyK_zero (l : List V) : rdyK l 0 = List.replicate l.length false := by simp [rdyK]
theorem rdyK_end (l : List V) : rdyK l l.length = l.map fun v => decide (v.st = 5) := by simp [rdyK]
theorem rdyK_set {l : List V} {k : Nat} (h : k < l.length) : (rdyK l k).set k (decide (l[k].st = 5)) = rdyK l (k + 1) := by
 unfold rdyK
 have h1 : ((l.take k).map fun v => decide (v.st = 5)).length = k := by simp; omega
 have h2 : l.length - k = (l.length - (k + 1)) + 1 := by omega
 rw [List.set_append_right _ _ (by omega), h1, Nat.sub_self, h2, List.replicate_succ, List.set_cons_zero, ← List.take_append_getElem h, List.map_append, List.append_assoc]
 rfl
theorem swp_made {rd : List Bool} {n pays : Nat} : ∀ (k at_ : Nat) (paid : List Int) (made : Nat), (swp rd n pays k at_ paid made).2.2 ≤ made + k
 | 0, _, _, _ => Nat.le_refl _
 | k + 1, at_, paid, made => by
  unfold swp
  split
  ·exact Nat.le_add_right _ _
  ·have := swp_made (rd := rd) (n := n) (pays := pays) k ((at_ % n + 1) % n) (if rd[at_ % n]? = some true then paid ++ [((at_ % n : Nat) : Int)] else paid) (made + 1)
   omega
theorem sweep_made (at_ : Nat) (rd : List Bool) (visits pays : Int) : (sweepS at_ rd visits pays).2.2 ≤ rd.length := by
 unfold sweepS
 split
 ·exact Nat.zero_le _
 ·have := swp_made (rd := rd) (n := rd.length) (pays := pays.toNat) (min visits (rd.length : Int)).toNat at_ [] 0
  omega
def fullK (l0 : List V) (e : Int) (s : List V × List Y) (is : List Int) (k : Nat) : List V × List Y := (is.take k).foldl (fullS l0 e) s
theorem fullK_end (l0 : List V) (e : Int) (s : List V × List Y) (is : List Int) : fullK l0 e s is is.length = is.foldl (fullS l0 e) s := by unfold fullK; rw [List.take_length]
theorem fullK_succ {l0 : List V} {e : Int} {s : List V × List Y} {is : List Int} {k : Nat} (h : k < is.length) : fullK l0 e s is (k + 1) = fullS l0 e (fullK l0 e s is k) is[k] := fold_succ _ _ h
theorem fullK_ok {l0 : List V} {e : Int} {is : List Int} {ps : List Y} (hn : is.Nodup) (h : ∀ i ∈ is, (gotV l0 i).st = 5 ∧ (gotV l0 i).wd ≤ e) (hvo : ∀ j, hasV l0 j = true → VO (gotV l0 j)) (k : Nat) :
  (∀ j, hasV (fullK l0 e (l0, ps) is k).1 j = true → VO (gotV (fullK l0 e (l0, ps) is k).1 j)) ∧ (bals (fullK l0 e (l0, ps) is k).1).sum ≤ (bals l0).sum ∧ (fullK l0 e (l0, ps) is k).2.length ≤ ps.length + k ∧ (∀ j, hasV (fullK l0 e (l0, ps) is k).1 j = hasV l0 j) := by
 obtain ⟨g1, g2, g3, g4⟩ := full_fold (l0 := l0) (e := e) (is.take k) l0 ps (take_nodup hn k) (fun i hi => ⟨(h i (List.mem_of_mem_take hi)).1, (h i (List.mem_of_mem_take hi)).2, rfl⟩)
 unfold fullK
 refine ⟨fun j hj => ?_, ?_, by rw [g3]; simp; omega, has_len g1⟩
 ·rw [has_len g1] at hj
  have := hvo j hj
  rw [g2 j]
  split
  ·exact ⟨by simp, by simp, this.r, this.x, this.w, this.d⟩
  ·exact this
 ·refine sum_le2 g1 fun i a b ha hb => ?_
  obtain ⟨hi, rfl⟩ := List.getElem?_eq_some_iff.1 ha
  obtain ⟨hi2, rfl⟩ := List.getElem?_eq_some_iff.1 hb
  have h1 := g2 (i : Int)
  rw [yT hi, yT hi2] at h1
  have h2 := hvo (i : Int) (decide_eq_true (by omega))
  rw [yT hi2] at h2
  rw [h1]
  split
  ·exact h2.b
  ·exact Int.le_refl _
theorem mem_sumA : ∀ {ps : List Y}, (∀ y ∈ ps, 0 ≤ y.a) → ∀ y ∈ ps, y.a ≤ sumA ps
 | [], _, _, h => by simp at h
 | z :: ps, hp, y, hy => by
  have h0 : 0 ≤ sumA ps := sum_nn fun x hx => by obtain ⟨w, hw, rfl⟩ := List.mem_map.1 hx; exact hp w (by simp [hw])
  have h1 := hp z (by simp)
  have e : sumA (z :: ps) = z.a + sumA ps := by simp [sumA]
  rw [e]
  rcases List.mem_cons.1 hy with rfl | hy
  ·omega
  ·have := mem_sumA (fun w hw => hp w (by simp [hw])) y hy; omega
def ledK (d u p : Int) (ps : List Y) (k : Nat) : Int := (ps.take k).foldl (ledS d u) p
theorem ledK_succ {d u p : Int} {ps : List Y} {k : Nat} (h : k < ps.length) : ledK d u p ps (k + 1) = ledS d u (ledK d u p ps k) ps[k] := fold_succ _ _ h
theorem ledK_end (d u p : Int) (ps : List Y) : ledK d u p ps ps.length = ps.foldl (ledS d u) p := by unfold ledK; rw [List.take_length]
theorem ledS_ok {cap d p u : Int} (h : LOk cap d p u) {y : Y} (hy : 0 ≤ y.a) : LOk cap d (ledS d u p y) u := by
 unfold ledS
 split
 ·rename_i hb
  unfold bookC at hb
  split at hb
  ·omega
  ·have := h.hp; have := h.hu; have := h.hd; have := h.hm; have := h.hc; have := h.hcm
   exact ⟨by omega, by omega, by omega, by omega, by omega, by omega⟩
 ·exact h
theorem ledK_ok {cap d p u : Int} (h : LOk cap d p u) {ps : List Y} (hp : ∀ y ∈ ps, 0 ≤ y.a) (k : Nat) : LOk cap d (ledK d u p ps k) u := by
 have key : ∀ (qs : List Y) (p : Int), LOk cap d p u → (∀ y ∈ qs, 0 ≤ y.a) → LOk cap d (qs.foldl (ledS d u) p) u := fun qs => by
  induction qs with
  | nil => exact fun _ h _ => h
  | cons y qs ih => exact fun p h hq => ih _ (ledS_ok h (hq y (by simp))) fun z hz => hq z (by simp [hz])
 exact key _ _ h fun y hy => hp y (List.mem_of_mem_take hy)
theorem pay_eng (eb rb cb lb bb ub mb xb b0 b1 pb gb tb : Nat) (c : C) (blk : Nat) (g : RG) (dep paid burn : Int) (bo : List En) (lv : List Int) (cur : Nat) (m : M) (q : LL) (pend : List Int) (mg : List PP) (pt : List Rq) (br : BR) (lA : Option Addr) (lc : Nat) (g0 g1 gp gg gt : Rg)  (w : World) (hw : W0 [Res.blk eb 112 (ECell rb cb lb bb ub mb xb pb gb tb c lA (lv.length) lc), RgB rb g, RgW g, Res.im (RG.m g), CkB cb (blk) (c.elen.toNat), LgB lb (dep) (paid) (burn) (c.supc), CuB ub (cur), rB_rq tb gt, rW_rq gt] w) (hi : Inv (Eg.mk c blk (RG.l g) dep paid burn bo lv cur m q pend mg pt)) (hg : g.Rep) (hcp : (g.cp : Int) = c.capa) (hgt : gt.Rep 2 (pt.map Rq.c)) (sgt : Rg.size gt = c.qsize.toNat) : Own2 (ι := (RG × Option Addr × Nat × Rg)) Tryz.prog 102 [.pointer (some ⟨eb, 0, none⟩)] w [Res.blk eb 112 (ECell rb cb lb bb ub mb xb pb gb tb c lA (lv.length) lc), RgB rb g, RgW g, Res.im (RG.m g), CkB cb (blk) (c.elen.toNat), LgB lb (dep) (paid) (burn) (c.supc), CuB ub (cur), rB_rq tb gt, rW_rq gt] (fun x => x.1.Rep ∧ x.1.l = (paysE (Eg.mk c blk (RG.l g) dep paid burn bo lv cur m q pend mg pt)).1.l ∧ x.1.cp = g.cp ∧ x.2.2.2.Rep 2 ((paysE (Eg.mk c blk (RG.l g) dep paid burn bo lv cur m q pend mg pt)).1.pt.map Rq.c) ∧ x.2.2.2.size = c.qsize.toNat) (fun x => .tuple [.slice x.2.1 (paysE (Eg.mk c blk (RG.l g) dep paid burn bo lv cur m q pend mg pt)).2.1.length x.2.2.1, .int .i64 (((paysE (Eg.mk c blk (RG.l g) dep paid burn bo lv cur m q pend mg pt)).2.2 : Nat) : Int)].toArray) (fun x => [Res.row x.2.1 (paysE (Eg.mk c blk (RG.l g) dep paid burn bo lv cur m q pend mg pt)).2.1.length x.2.2.1 50 3 ((paysE (Eg.mk c blk (RG.l g) dep paid burn bo lv cur m q pend mg pt)).2.1.map Y.c)]) (fun x => [Res.blk eb 112 (ECell rb cb lb bb ub mb xb pb gb tb c lA (lv.length) lc), RgB rb x.1, RgW x.1, Res.im (RG.m x.1), CkB cb (blk) (c.elen.toNat), LgB lb (dep) ((paysE (Eg.mk c blk (RG.l g) dep paid burn bo lv cur m q pend mg pt)).1.paid) (burn) (c.supc), CuB ub ((paysE (Eg.mk c blk (RG.l g) dep paid burn bo lv cur m q pend mg pt)).1.cur), rB_rq tb x.2.2.2, rW_rq x.2.2.2]) := by
 refine g_st Tryz.func102 140 hw ?_
 have hok : Cok c := hi.cok
 have hmo : Cmo c := xD hi.cc
 have hblk : blk ≤ 1000000000 := hi.blk
 have hk : blk < 4611686018427387904 := by omega
 have hel : 1 ≤ c.elen.toNat ∧ c.elen.toNat ≤ 4611686018427387904 := by have := hok.elen; omega
 have hled : LOk c.supc dep paid burn := hi.led
 have hqf : q.f.length ≤ c.qsize.toNat ∧ q.v.length ≤ c.qsize.toNat := hi.qf
 have hsum : (bals (RG.l g)).sum = dep - paid - burn := hi.sum
 have hvo : ∀ i, hasV (RG.l g) i = true → VO (gotV (RG.l g) i) := hi.vo
 have hqs := hmo.qsize
 obtain ⟨P, hP⟩ : ∃ P : Nat, c.parts = P := ⟨c.parts.toNat, by have h9 := hok.parts; omega⟩
 have hcur : cur ≤ 4096 := hi.cur
 have hgl0 := hg.le; have hgc0 := hg.cp
 have hptl : pt.length ≤ 4096 := by have h9 := hi.pt; simp only at h9; omega
 have hptt : (pt.take P).length ≤ 4096 := by simp; omega
 refine rn [1,3,3,0,8] ?_
 refine dregL (L0 := [Res.blk eb 112 (ECell rb cb lb bb ub mb xb pb gb tb c lA (lv.length) lc)]) [] mixed rfl zB ?_
 refine rn [23,0,2,23,1,6,23,2,4,23,3,4,23,4,5,23,6,2,23,7,6,23,8,4,23,9,5,23,10,2,23,11,6,23,12,4,23,13,4,23,14,5] ?_
 refine g_val 34 (v' := .int .i64 ((P : Nat) : Int)) rfl (by rw [hP]) ?_
 refine rn [23,16,2,23,17,6,23,18,4] ?_
 refine dq 19 rfl (yS (c' := C.c c) rfl rfl rfl) ?_
 refine dop 5 rfl (zH _ rfl (fun w1 hw1 ho1 => by have h7 := rall_any rb g w1 ho1 hg; exact h7) rfl ?_)
 rintro ⟨A25, cap25⟩ _
 refine ii ?_
 refine dop 15 rfl (zH _ rfl (fun w1 hw1 ho1 => by have h7 := take_rq tb gt pt P w1 ho1 hgt (by omega); exact h7) rfl ?_)
 rintro ⟨A35, cap35, g35⟩ ⟨r35, s35⟩
 refine ii ?_
 simp only at r35 s35
 refine dop 20 rfl (zH [] rfl (fun w1 hw1 ho1 => by have h7 := step17_any A25 A35 ((RG.l g).length) (cap25) (cap35) P ((RG.l g)) ((pt.take P)) c w1 (Rd.ofRow (A := A25) hw1) (Rd.ofRow (A := A35) hw1) (row_le (A := A35) hw1) (by omega) (by omega) hP; exact h7) rfl ?_)
 rintro ⟨A40, cap40, AA40, capp40⟩ _
 refine ii ?_
 obtain ⟨g40, hg40⟩ : ∃ x, x = (run c (RG.l g) ((pt.take P).take (min (pt.take P).length P))).1 := ⟨_, rfl⟩
 obtain ⟨p40, hp40⟩ : ∃ x, x = pos (run c (RG.l g) ((pt.take P).take (min (pt.take P).length P))).2 := ⟨_, rfl⟩
 rw [← hg40, ← hp40]
 have hgl : g40.length = (RG.l g).length := by rw [hg40]; exact run_len _ _ _
 refine rn [23,21,2,23,22,40,23,23,40,23,24,40,23,25,3,23,26,3,23,27,3,27,7,1] ?_
 rw [take_min] at hg40 hp40
 obtain ⟨f1, s1_, p1⟩ := K2.run (c := c) hi.ck.minb.1 (pt.take P) (fun r hr => hi.pm r (List.mem_of_mem_take hr)) hvo hg.mx
 rw [← hg40] at f1 s1_
 have v1 := f1.vo hvo
 have hsA : 0 ≤ sumA (run c (RG.l g) (pt.take P)).2 := sum_nn fun z hz => by obtain ⟨y9, hy9, rfl⟩ := List.mem_map.1 hz; exact (p1 y9 hy9).1
 have hs40 : (bals g40).sum ≤ 18446744073709551615 := by have h9 := hg.mx; unfold bals at s1_ ⊢; omega
 refine yC (A := A40) g40.length (by omega) ?_
 refine g_val 4 (v' := .slice A40 g40.length cap40) rfl (by rw [hgl]) ?_
 have hg40l : g40.length ≤ 4096 := by omega
 have hp40l : p40.length ≤ 4096 := by
   have h9 : (pos (run c (RG.l g) (pt.take P)).2).length ≤ (pt.take P).length := Nat.le_trans (List.length_filter_le _ _) (run_pl _ _ _)
   rw [hp40]; simp at h9; omega
 refine rn [2,2] ?_
 refine g_op (zH _ rfl (fun w1 hw1 ho1 => by have h7 := store_eng eb rb cb lb bb ub mb xb b0 b1 pb gb tb c blk g dep paid burn bo lv cur m q pend mg (pt.drop (pt.take P).length) br lA lc g0 g1 gp gg g35 A40 cap40 g40 w1 ho1 hg hcp (Rd.ofRow (A := A40) hw1) (by omega) (vo_mem hvo) (vo_mem v1) hs40; exact h7) rfl ?_)
 rintro g46 ⟨r46, l46, c46⟩
 refine ii ?_
 refine rn [0,1,2,47] ?_
 refine g_op (g_make (n := g40.length) rfl rfl rfl rfl (by omega) rfl fun g49 => ?_)
 refine zF (A := some ⟨g49, 0, none⟩) ((rdyK g40 0).map (fun v : Bool => [Value.bool v])) (by rw [rdyK_zero]; simp) ?_
 refine rn [3,0,8,1,2,47,2,0,14] ?_
 refine g_lk [0, 2, 3, 4, 5, 6, 7, 50, 51] (fun (x : Nat) => [(52, .int .i64 ((x : Nat) : Int))]) (fun (x : Nat) => [Res.row (some ⟨g49, 0, none⟩) g40.length g40.length 4 1 ((rdyK g40 x).map (fun v : Bool => [Value.bool v])), Res.row A40 g40.length cap40 52 7 (g40.map V.c), Res.row AA40 p40.length capp40 50 3 (p40.map Y.c), Res.blk eb 112 (ECell rb cb lb bb ub mb xb pb gb tb c lA (lv.length) lc), RgB rb g46, RgW g46, Res.im (RG.m g46), CkB cb (blk) (c.elen.toNat), LgB lb (dep) (paid) (burn) (c.supc), CuB ub (cur), rB_rq tb g35, rW_rq g35]) (fun (x : Nat) => x ≤ g40.length) (fun (x : Nat) => g40.length - x) 0 (by (try dsimp only); exact Nat.zero_le _) ?_
 rintro k le_k
 replace le_k : k ≤ g40.length := le_k
 refine rn [1,46,0,8] ?_
 refine zC rfl (fun h1 => ?_) (fun h1 => ?_)
 ·have lt_k : k < g40.length := by have h9 := of_decide_eq_true h1; omega
  refine rn [12,7,8,14,1,2] ?_
  refine s_q (zR (i := k) rfl rfl rfl (InRow.rdb (A := A40) (els := (g40).map V.c) (by first | (rw [List.length_map]; done) | (rw [List.length_map]; exact hgl.symm)) (zM (c := V.c) (fun _ => rfl) _)) (by first | exact lt_k | omega)) rfl ?_
  refine s_q (zT (i := k) rfl (InRow.rdb (A := A40) (els := (g40).map V.c) (by first | (rw [List.length_map]; done) | (rw [List.length_map]; exact hgl.symm)) (zM (c := V.c) (fun _ => rfl) _)) (zS (by first | assumption | omega | (simp_all; done) | (simp_all; omega))) rfl) rfl ?_
  refine g_op (zI rfl fun b9 => ?_)
  refine rn [3,33,0,10,2,2,4,5,44] ?_
  refine s_q (zR (i := k) rfl rfl rfl (InRow.rdb (A := (some ⟨g49, 0, none⟩)) (els := (rdyK g40 k).map (fun v : Bool => [Value.bool v])) (by simp [rdyK]; omega) (zM (c := (fun v : Bool => [Value.bool v])) (fun _ => rfl) _)) (by first | exact lt_k | omega)) rfl ?_
  refine g_op (yA (A := (some ⟨g49, 0, none⟩)) (i := k) (o := 0) (cs' := (fun v : Bool => [Value.bool v]) ((decide (g40[k].st = 5)))) rfl rfl rfl rfl rfl (zS (by rw [rdyK_len (Nat.le_of_lt lt_k)]; exact lt_k)) (by first | (simp; done) | exact Nat.le_refl _) rfl rfl ?_)
  refine zF (A := (some ⟨g49, 0, none⟩)) (((rdyK g40 k).set k (decide (g40[k].st = 5))).map (fun v : Bool => [Value.bool v])) (by simp only [List.map_set]) ?_
  refine rn [9,15,7,10,43,2,9] ?_
  refine zF (A := some ⟨g49, 0, none⟩) ((rdyK g40 (k + 1)).map (fun v : Bool => [Value.bool v])) (by rw [rdyK_set lt_k]) ?_
  exact g_ag (k + 1) (by (try dsimp only); exact (by first | exact lt_k | omega))
 ·have eq_k : k = g40.length := by have h9 := of_decide_eq_false h1; omega
  subst eq_k
  refine zF (A := some ⟨g49, 0, none⟩) ((g40.map fun v : V => decide (v.st = 5)).map (fun v : Bool => [Value.bool v])) (by rw [rdyK_end]) ?_
  obtain ⟨w1_, w2_⟩ := sweep_ok cur (g40.map fun v : V => decide (v.st = 5)) (c.vis - ((pt.take P).length : Nat)) (c.pays - (p40.length : Nat))
  have w3_ := sweep_cur (at_ := cur) (rd := (g40.map fun v : V => decide (v.st = 5))) (visits := c.vis - ((pt.take P).length : Nat)) (pays := c.pays - (p40.length : Nat)) (by simpa using hg40l) hcur
  have hEa := hi.e.sm f1.sm
  have i5 : ∀ i ∈ (sweepS cur (g40.map fun v : V => decide (v.st = 5)) (c.vis - ((pt.take P).length : Nat)) (c.pays - (p40.length : Nat))).2.1, (gotV g40 i).st = 5 ∧ (gotV g40 i).wd ≤ ((blk / c.elen.toNat : Nat) : Int) := fun i hi9 => by
    obtain ⟨j, rfl, hj⟩ := w1_ i hi9
    have h8 := rdy_get hj
    exact ⟨h8, hEa.rdy _ h8⟩
  refine rn [16] ?_
  refine zE (zE (zQ ?_))
  refine rn [7,8] ?_
  refine dregL (L0 := [Res.blk eb 112 (ECell rb cb lb bb ub mb xb pb gb tb c lA (lv.length) lc), Res.row AA40 p40.length capp40 50 3 (p40.map Y.c), Res.row A40 g40.length cap40 52 7 (g40.map V.c)]) [] mixed rfl zB ?_
  refine rn [23,0,2,23,1,6,23,2,4,23,3,5,23,4,2,23,5,2,23,6,6,23,7,4,23,8,4,23,9,5,23,10,2] ?_
  refine dq 11 rfl (yY (z := c.vis - ((pt.take P).length : Nat)) rfl rfl (by have h8 := hok.vis; rw [wi64 (by omega) (by omega)]; simp)) ?_
  refine rn [23,12,2,23,13,6,23,14,4,23,15,4,23,16,5,23,17,2,23,18,47] ?_
  refine dq 19 rfl (yY (z := c.pays - (p40.length : Nat)) rfl rfl (by have h8 := hok.pays; rw [wi64 (by omega) (by omega)])) ?_
  refine dop 20 rfl (zH _ rfl (fun w1 hw1 ho1 => by have h7 := sweep_any ub (cur) (some ⟨g49, 0, none⟩) (g40.length) (g40.length) (g40.map fun v : V => decide (v.st = 5)) ((c.vis - ((pt.take P).length : Nat))) ((c.pays - (p40.length : Nat))) w1 ho1 hcur (Rd.ofRow (A := (some ⟨g49, 0, none⟩)) (els := ((g40.map fun v : V => decide (v.st = 5))).map (fun v : Bool => [Value.bool v])) hw1) (by omega); exact h7) rfl ?_)
  rintro ⟨A85, cap85⟩ _
  refine ii ?_
  refine rn [23,21,2,23,22,40,23,23,40,23,24,3,23,25,3,27,7,8,1,2,47,2,0,14] ?_
  refine zF (A := AA40) ((fullK g40 ((blk / c.elen.toNat : Nat) : Int) (g40, p40) (sweepS cur (g40.map fun v : V => decide (v.st = 5)) (c.vis - ((pt.take P).length : Nat)) (c.pays - (p40.length : Nat))).2.1 0).2.map Y.c) (by rfl) ?_
  refine yC (A := AA40) (fullK g40 ((blk / c.elen.toNat : Nat) : Int) (g40, p40) (sweepS cur (g40.map fun v : V => decide (v.st = 5)) (c.vis - ((pt.take P).length : Nat)) (c.pays - (p40.length : Nat))).2.1 0).2.length (by rfl) ?_
  refine g_val 5 (v' := .slice AA40 (fullK g40 ((blk / c.elen.toNat : Nat) : Int) (g40, p40) (sweepS cur (g40.map fun v : V => decide (v.st = 5)) (c.vis - ((pt.take P).length : Nat)) (c.pays - (p40.length : Nat))).2.1 0).2.length capp40) rfl (by rfl) ?_
  refine g_lk [0, 2, 3, 4, 6, 11, 88, 89] (fun (x : Nat × RG × Option Addr × Nat) => [(5, .slice x.2.2.1 (fullK g40 ((blk / c.elen.toNat : Nat) : Int) (g40, p40) (sweepS cur (g40.map fun v : V => decide (v.st = 5)) (c.vis - ((pt.take P).length : Nat)) (c.pays - (p40.length : Nat))).2.1 x.1).2.length x.2.2.2), (90, .int .i64 ((x.1 : Nat) : Int))]) (fun (x : Nat × RG × Option Addr × Nat) => [Res.row A85 (sweepS cur (g40.map fun v : V => decide (v.st = 5)) (c.vis - ((pt.take P).length : Nat)) (c.pays - (p40.length : Nat))).2.1.length cap85 3 1 ((sweepS cur (g40.map fun v : V => decide (v.st = 5)) (c.vis - ((pt.take P).length : Nat)) (c.pays - (p40.length : Nat))).2.1.map (fun v : Int => [Value.int .i64 v])), Res.row A40 g40.length cap40 52 7 (g40.map V.c), Res.row x.2.2.1 (fullK g40 ((blk / c.elen.toNat : Nat) : Int) (g40, p40) (sweepS cur (g40.map fun v : V => decide (v.st = 5)) (c.vis - ((pt.take P).length : Nat)) (c.pays - (p40.length : Nat))).2.1 x.1).2.length x.2.2.2 50 3 ((fullK g40 ((blk / c.elen.toNat : Nat) : Int) (g40, p40) (sweepS cur (g40.map fun v : V => decide (v.st = 5)) (c.vis - ((pt.take P).length : Nat)) (c.pays - (p40.length : Nat))).2.1 x.1).2.map Y.c), Res.blk eb 112 (ECell rb cb lb bb ub mb xb pb gb tb c lA (lv.length) lc), RgB rb x.2.1, RgW x.2.1, Res.im (RG.m x.2.1), CkB cb (blk) (c.elen.toNat), LgB lb (dep) (paid) (burn) (c.supc), CuB ub ((sweepS cur (g40.map fun v : V => decide (v.st = 5)) (c.vis - ((pt.take P).length : Nat)) (c.pays - (p40.length : Nat))).1), rB_rq tb g35, rW_rq g35]) (fun (x : Nat × RG × Option Addr × Nat) => x.1 ≤ (sweepS cur (g40.map fun v : V => decide (v.st = 5)) (c.vis - ((pt.take P).length : Nat)) (c.pays - (p40.length : Nat))).2.1.length ∧ RG.Rep x.2.1 ∧ RG.l x.2.1 = (fullK g40 ((blk / c.elen.toNat : Nat) : Int) (g40, p40) (sweepS cur (g40.map fun v : V => decide (v.st = 5)) (c.vis - ((pt.take P).length : Nat)) (c.pays - (p40.length : Nat))).2.1 x.1).1 ∧ RG.cp x.2.1 = RG.cp g46) (fun (x : Nat × RG × Option Addr × Nat) => (sweepS cur (g40.map fun v : V => decide (v.st = 5)) (c.vis - ((pt.take P).length : Nat)) (c.pays - (p40.length : Nat))).2.1.length - x.1) (0, g46, AA40, capp40) (by (try dsimp only); exact ⟨Nat.zero_le _, r46, (by rw [l46]; rfl), rfl⟩) ?_
  rintro ⟨k, g9, pA, pc⟩ ⟨le_k, hr9, hl9, hc9⟩
  replace le_k : k ≤ (sweepS cur (g40.map fun v : V => decide (v.st = 5)) (c.vis - ((pt.take P).length : Nat)) (c.pays - (p40.length : Nat))).2.1.length := le_k
  replace hr9 : RG.Rep g9 := hr9
  replace hl9 : RG.l g9 = (fullK g40 ((blk / c.elen.toNat : Nat) : Int) (g40, p40) (sweepS cur (g40.map fun v : V => decide (v.st = 5)) (c.vis - ((pt.take P).length : Nat)) (c.pays - (p40.length : Nat))).2.1 k).1 := hl9
  replace hc9 : RG.cp g9 = RG.cp g46 := hc9
  refine zX (L' := [Res.row A85 (sweepS cur (g40.map fun v : V => decide (v.st = 5)) (c.vis - ((pt.take P).length : Nat)) (c.pays - (p40.length : Nat))).2.1.length cap85 3 1 ((sweepS cur (g40.map fun v : V => decide (v.st = 5)) (c.vis - ((pt.take P).length : Nat)) (c.pays - (p40.length : Nat))).2.1.map (fun v : Int => [Value.int .i64 v])), Res.row A40 g40.length cap40 52 7 (g40.map V.c), Res.row pA (fullK g40 ((blk / c.elen.toNat : Nat) : Int) (g40, p40) (sweepS cur (g40.map fun v : V => decide (v.st = 5)) (c.vis - ((pt.take P).length : Nat)) (c.pays - (p40.length : Nat))).2.1 k).2.length pc 50 3 ((fullK g40 ((blk / c.elen.toNat : Nat) : Int) (g40, p40) (sweepS cur (g40.map fun v : V => decide (v.st = 5)) (c.vis - ((pt.take P).length : Nat)) (c.pays - (p40.length : Nat))).2.1 k).2.map Y.c), Res.blk eb 112 (ECell rb cb lb bb ub mb xb pb gb tb c lA (lv.length) lc), RgB rb g9, RgW g9, Res.im (RG.m g9), CkB cb (blk) (c.elen.toNat), LgB lb (dep) (paid) (burn) (c.supc), CuB ub ((sweepS cur (g40.map fun v : V => decide (v.st = 5)) (c.vis - ((pt.take P).length : Nat)) (c.pays - (p40.length : Nat))).1), rB_rq tb g35, rW_rq g35]) rfl ?_
  refine g_val 5 (v' := .slice pA (fullK g40 ((blk / c.elen.toNat : Nat) : Int) (g40, p40) (sweepS cur (g40.map fun v : V => decide (v.st = 5)) (c.vis - ((pt.take P).length : Nat)) (c.pays - (p40.length : Nat))).2.1 k).2.length pc) rfl rfl ?_
  refine g_val 90 (v' := .int .i64 ((k : Nat) : Int)) rfl rfl ?_
  obtain ⟨ho9, hbs9, hpl9, hhs9⟩ := fullK_ok (ps := p40) w2_ i5 v1 k
  have hsl9 : (sweepS cur (g40.map fun v : V => decide (v.st = 5)) (c.vis - ((pt.take P).length : Nat)) (c.pays - (p40.length : Nat))).2.1.length ≤ g40.length := has_len_le w2_ fun i hi9 => yW (by have h9 := (i5 i hi9).1; omega)
  simp only [← hl9] at ho9 hbs9 hhs9
  refine rn [1,46,0,8] ?_
  refine zC rfl (fun h2 => ?_) (fun h2 => ?_)
  ·have lt_k : k < (sweepS cur (g40.map fun v : V => decide (v.st = 5)) (c.vis - ((pt.take P).length : Nat)) (c.pays - (p40.length : Nat))).2.1.length := by have h9 := of_decide_eq_true h2; omega
   obtain ⟨j9, hj9, hjr⟩ := w1_ _ (List.getElem_mem lt_k)
   have hj9l : j9 < g40.length := by have h9 := (List.getElem?_eq_some_iff.1 hjr).1; simpa using h9
   obtain ⟨h59, hw59⟩ := i5 _ (List.getElem_mem lt_k)
   rw [hj9, yT hj9l] at h59 hw59
   have hv9 : VO (gotV g40 (j9 : Int)) := v1 _ (decide_eq_true (by omega))
   rw [yT hj9l] at hv9
   have hs9 : (fullK g40 ((blk / c.elen.toNat : Nat) : Int) (g40, p40) (sweepS cur (g40.map fun v : V => decide (v.st = 5)) (c.vis - ((pt.take P).length : Nat)) (c.pays - (p40.length : Nat))).2.1 (k + 1)) = (setV (fullK g40 ((blk / c.elen.toNat : Nat) : Int) (g40, p40) (sweepS cur (g40.map fun v : V => decide (v.st = 5)) (c.vis - ((pt.take P).length : Nat)) (c.pays - (p40.length : Nat))).2.1 k).1 (j9 : Int) (payV g40[j9] ((blk / c.elen.toNat : Nat) : Int)).1, (fullK g40 ((blk / c.elen.toNat : Nat) : Int) (g40, p40) (sweepS cur (g40.map fun v : V => decide (v.st = 5)) (c.vis - ((pt.take P).length : Nat)) (c.pays - (p40.length : Nat))).2.1 k).2 ++ [(Y.mk (j9 : Int) (payV g40[j9] ((blk / c.elen.toNat : Nat) : Int)).2.1 true)]) := by rw [fullK_succ lt_k, hj9]; unfold fullS; rw [yT hj9l]
   have hh9 : hasV (RG.l g9) (j9 : Int) = true := by rw [hhs9]; exact decide_eq_true (by omega)
   obtain ⟨hoN, hbsN, _, _⟩ := fullK_ok (ps := p40) w2_ i5 v1 (k + 1)
   rw [hs9] at hoN hbsN
   have hchg := chg_ok (l := RG.l g9) (i := (j9 : Int)) (v := (payV g40[j9] ((blk / c.elen.toNat : Nat) : Int)).1) (by rw [set_eq hh9, hl9]; exact hoN) (by rw [set_eq hh9, hl9]; exact Int.le_trans hbsN hs40) hh9
   have hbl9 := bal_le v1 (decide_eq_true (show 0 ≤ (j9 : Int) ∧ (j9 : Int) < (g40.length : Int) by omega))
   rw [yT hj9l] at hbl9
   refine rn [12,7,8,14,1] ?_
   refine s_q (zR (i := k) rfl rfl rfl (InRow.rdb (A := A85) (els := ((sweepS cur (g40.map fun v : V => decide (v.st = 5)) ((c.vis - ((pt.take P).length : Nat))) ((c.pays - (p40.length : Nat)))).2.1).map (fun v : Int => [Value.int .i64 v])) (by first | rfl | assumption | (simp; done) | (simp_all; done) | (simp; omega) | (simp_all; omega)) (zM (c := (fun v : Int => [Value.int .i64 v])) (fun _ => rfl) _)) (by first | exact lt_k | omega)) rfl ?_
   refine s_q (yL (i := k) (o := 0) rfl (InRow.rdb (A := A85) (els := ((sweepS cur (g40.map fun v : V => decide (v.st = 5)) ((c.vis - ((pt.take P).length : Nat))) ((c.pays - (p40.length : Nat)))).2.1).map (fun v : Int => [Value.int .i64 v])) (by first | rfl | assumption | (simp; done) | (simp_all; done) | (simp; omega) | (simp_all; omega)) (zM (c := (fun v : Int => [Value.int .i64 v])) (fun _ => rfl) _)) (zS (by first | assumption | omega | (simp_all; done) | (simp_all; omega))) rfl rfl) rfl ?_
   refine g_val 93 (v' := .int .i64 ((j9 : Nat) : Int)) rfl (by rw [hj9]) ?_
   refine rn [3,0,8] ?_
   refine dreg [15] mixed rfl ?_
   refine rn [23,0,2,23,1,2] ?_
   refine dq 2 rfl (zR (i := j9) rfl rfl rfl (InRow.rdb (A := A40) (els := (g40).map V.c) (by first | (rw [List.length_map]; done) | (rw [List.length_map]; exact hgl.symm)) (zM (c := V.c) (fun _ => rfl) _)) (by first | omega | (simp; done) | (simp; omega))) ?_
   refine dq 3 rfl (zT (i := j9) rfl (InRow.rdb (A := A40) (els := (g40).map V.c) (by first | (rw [List.length_map]; done) | (rw [List.length_map]; exact hgl.symm)) (zM (c := V.c) (fun _ => rfl) _)) (zS (by first | assumption | omega | (simp_all; done) | (simp_all; omega))) rfl) ?_
   refine rn [23,4,2,23,5,6,23,6,4,23,7,5] ?_
   refine yB [8, 14] (by kernel_rfl) (by simp) zB ⟨dpick rfl (zK _ rfl (fun w1 hw1 ho1 => by exact zZ cb blk c.elen.toNat w1 ho1 (by omega) hel) rfl ?_), dpick rfl (zI rfl fun b14 => ?_), trivial⟩
   ·refine yB [9, 14] (by kernel_rfl) (by simp) zB ⟨dpick rfl (zG rfl (fun w1 hw1 => pay_any9 _ ((((blk / c.elen.toNat) : Nat) : Int)) w1 (hv9.i64 (by omega))) rfl ?_), dpick rfl (zI rfl fun b14 => ?_), trivial⟩
    ·refine rn [23,10,2,23,11,40,24,12,40,24,13,40] ?_
     refine dop 14 rfl (zI rfl fun b14 => ?_)
     refine dop 15 rfl (zL rfl rfl rfl rfl rfl ?_)
     refine rn [24,16,3,24,17,3,28,7,8] ?_
     refine dregL (L0 := [Res.blk eb 112 (ECell rb cb lb bb ub mb xb pb gb tb c lA (lv.length) lc), Res.blk b14 52 (V.c (payV g40[j9] ((blk / c.elen.toNat : Nat) : Int)).1)]) [] mixed rfl zB ?_
     refine rn [23,0,2,23,1,6,23,2,4] ?_
     refine dq 3 rfl (yS (c' := [Value.pointer (some ⟨rb, 0, none⟩)]) rfl rfl rfl) ?_
     refine rn [23,4,2,23,5,45] ?_
     refine dop 6 rfl (zH _ rfl (fun w1 hw1 ho1 => by have h7 := xB rb g9 (((j9 : Nat) : Int)) ((payV (g40)[j9] (((blk / c.elen.toNat) : Nat) : Int)).1) w1 ho1 hr9 hchg.1 hchg.2; exact h7) rfl ?_)
     rintro g114 ⟨r114, l114, c114⟩
     refine ii ?_
     refine rn [27,7,10,2,2,2,49] ?_
     refine g_op (g_lit rfl rfl rfl rfl rfl fun b119 => ?_)
     refine zJ (b := b119) ((([(Y.mk (j9 : Int) (payV g40[j9] ((blk / c.elen.toNat : Nat) : Int)).2.1 true)] : List Y).map Y.c).flatten) rfl ?_
     refine g_op (zY (A := pA) (els := ((fullK g40 ((blk / c.elen.toNat : Nat) : Int) (g40, p40) (sweepS cur (g40.map fun v : V => decide (v.st = 5)) (c.vis - ((pt.take P).length : Nat)) (c.pays - (p40.length : Nat))).2.1 k).2).map Y.c) (news := (([(Y.mk (j9 : Int) (payV g40[j9] ((blk / c.elen.toNat : Nat) : Int)).2.1 true)] : List Y).map Y.c)) rfl rfl (InL.rdb (b := b119) rfl (by simp [Y.c]) rfl) (yG (c := Y.c) (by intro x; simp [Y.c, Value.oneCell']) _) (by first | omega | (simp; omega) | (simp_all; omega)) rfl fun A120 cap120 => ⟨_, inferInstance, ?_⟩)
     refine zF (A := A120) ((((fullK g40 ((blk / c.elen.toNat : Nat) : Int) (g40, p40) (sweepS cur (g40.map fun v : V => decide (v.st = 5)) (c.vis - ((pt.take P).length : Nat)) (c.pays - (p40.length : Nat))).2.1 k).2 ++ [(Y.mk (j9 : Int) (payV g40[j9] ((blk / c.elen.toNat : Nat) : Int)).2.1 true)])).map Y.c) (by first | rfl | exact List.map_append.symm | (simp; done)) ?_
     refine rn [3,9,15,7,10,43,2,9] ?_
     refine zF (A := A120) ((fullK g40 ((blk / c.elen.toNat : Nat) : Int) (g40, p40) (sweepS cur (g40.map fun v : V => decide (v.st = 5)) (c.vis - ((pt.take P).length : Nat)) (c.pays - (p40.length : Nat))).2.1 (k + 1)).2.map Y.c) (by rw [hs9]) ?_
     refine yC (A := A120) (fullK g40 ((blk / c.elen.toNat : Nat) : Int) (g40, p40) (sweepS cur (g40.map fun v : V => decide (v.st = 5)) (c.vis - ((pt.take P).length : Nat)) (c.pays - (p40.length : Nat))).2.1 (k + 1)).2.length (by rw [hs9]; simp) ?_
     refine g_val 5 (v' := .slice A120 (fullK g40 ((blk / c.elen.toNat : Nat) : Int) (g40, p40) (sweepS cur (g40.map fun v : V => decide (v.st = 5)) (c.vis - ((pt.take P).length : Nat)) (c.pays - (p40.length : Nat))).2.1 (k + 1)).2.length cap120) rfl (by rw [hs9]; simp) ?_
     exact g_ag ((k + 1), g114, A120, cap120) (by (try dsimp only); exact ⟨(by first | exact lt_k | omega), r114, (by rw [hs9]; show _ = setV _ _ _; rw [l114, hl9]), (by rw [c114]; exact hc9)⟩)
    ·refine dop 9 rfl (zG rfl (fun w1 hw1 => pay_any9 _ ((((blk / c.elen.toNat) : Nat) : Int)) w1 (hv9.i64 (by omega))) rfl ?_)
     refine rn [23,10,2,23,11,40,24,12,40,24,13,40] ?_
     refine dop 15 rfl (zL rfl rfl rfl rfl rfl ?_)
     refine rn [24,16,3,24,17,3,28,7,8] ?_
     refine dregL (L0 := [Res.blk eb 112 (ECell rb cb lb bb ub mb xb pb gb tb c lA (lv.length) lc), Res.blk b14 52 (V.c (payV g40[j9] ((blk / c.elen.toNat : Nat) : Int)).1)]) [] mixed rfl zB ?_
     refine rn [23,0,2,23,1,6,23,2,4] ?_
     refine dq 3 rfl (yS (c' := [Value.pointer (some ⟨rb, 0, none⟩)]) rfl rfl rfl) ?_
     refine rn [23,4,2,23,5,45] ?_
     refine dop 6 rfl (zH _ rfl (fun w1 hw1 ho1 => by have h7 := xB rb g9 (((j9 : Nat) : Int)) ((payV (g40)[j9] (((blk / c.elen.toNat) : Nat) : Int)).1) w1 ho1 hr9 hchg.1 hchg.2; exact h7) rfl ?_)
     rintro g114 ⟨r114, l114, c114⟩
     refine ii ?_
     refine rn [27,7,10,2,2,2,49] ?_
     refine g_op (g_lit rfl rfl rfl rfl rfl fun b119 => ?_)
     refine zJ (b := b119) ((([(Y.mk (j9 : Int) (payV g40[j9] ((blk / c.elen.toNat : Nat) : Int)).2.1 true)] : List Y).map Y.c).flatten) rfl ?_
     refine g_op (zY (A := pA) (els := ((fullK g40 ((blk / c.elen.toNat : Nat) : Int) (g40, p40) (sweepS cur (g40.map fun v : V => decide (v.st = 5)) (c.vis - ((pt.take P).length : Nat)) (c.pays - (p40.length : Nat))).2.1 k).2).map Y.c) (news := (([(Y.mk (j9 : Int) (payV g40[j9] ((blk / c.elen.toNat : Nat) : Int)).2.1 true)] : List Y).map Y.c)) rfl rfl (InL.rdb (b := b119) rfl (by simp [Y.c]) rfl) (yG (c := Y.c) (by intro x; simp [Y.c, Value.oneCell']) _) (by first | omega | (simp; omega) | (simp_all; omega)) rfl fun A120 cap120 => ⟨_, inferInstance, ?_⟩)
     refine zF (A := A120) ((((fullK g40 ((blk / c.elen.toNat : Nat) : Int) (g40, p40) (sweepS cur (g40.map fun v : V => decide (v.st = 5)) (c.vis - ((pt.take P).length : Nat)) (c.pays - (p40.length : Nat))).2.1 k).2 ++ [(Y.mk (j9 : Int) (payV g40[j9] ((blk / c.elen.toNat : Nat) : Int)).2.1 true)])).map Y.c) (by first | rfl | exact List.map_append.symm | (simp; done)) ?_
     refine rn [3,9,15,7,10,43,2,9] ?_
     refine zF (A := A120) ((fullK g40 ((blk / c.elen.toNat : Nat) : Int) (g40, p40) (sweepS cur (g40.map fun v : V => decide (v.st = 5)) (c.vis - ((pt.take P).length : Nat)) (c.pays - (p40.length : Nat))).2.1 (k + 1)).2.map Y.c) (by rw [hs9]) ?_
     refine yC (A := A120) (fullK g40 ((blk / c.elen.toNat : Nat) : Int) (g40, p40) (sweepS cur (g40.map fun v : V => decide (v.st = 5)) (c.vis - ((pt.take P).length : Nat)) (c.pays - (p40.length : Nat))).2.1 (k + 1)).2.length (by rw [hs9]; simp) ?_
     refine g_val 5 (v' := .slice A120 (fullK g40 ((blk / c.elen.toNat : Nat) : Int) (g40, p40) (sweepS cur (g40.map fun v : V => decide (v.st = 5)) (c.vis - ((pt.take P).length : Nat)) (c.pays - (p40.length : Nat))).2.1 (k + 1)).2.length cap120) rfl (by rw [hs9]; simp) ?_
     exact g_ag ((k + 1), g114, A120, cap120) (by (try dsimp only); exact ⟨(by first | exact lt_k | omega), r114, (by rw [hs9]; show _ = setV _ _ _; rw [l114, hl9]), (by rw [c114]; exact hc9)⟩)
   ·refine dop 8 rfl (zK _ rfl (fun w1 hw1 ho1 => by exact zZ cb blk c.elen.toNat w1 ho1 (by omega) hel) rfl ?_)
    refine dop 9 rfl (zG rfl (fun w1 hw1 => pay_any9 _ ((((blk / c.elen.toNat) : Nat) : Int)) w1 (hv9.i64 (by omega))) rfl ?_)
    refine rn [23,10,2,23,11,40,24,12,40,24,13,40] ?_
    refine dop 15 rfl (zL rfl rfl rfl rfl rfl ?_)
    refine rn [24,16,3,24,17,3,28,7,8] ?_
    refine dregL (L0 := [Res.blk eb 112 (ECell rb cb lb bb ub mb xb pb gb tb c lA (lv.length) lc), Res.blk b14 52 (V.c (payV g40[j9] ((blk / c.elen.toNat : Nat) : Int)).1)]) [] mixed rfl zB ?_
    refine rn [23,0,2,23,1,6,23,2,4] ?_
    refine dq 3 rfl (yS (c' := [Value.pointer (some ⟨rb, 0, none⟩)]) rfl rfl rfl) ?_
    refine rn [23,4,2,23,5,45] ?_
    refine dop 6 rfl (zH _ rfl (fun w1 hw1 ho1 => by have h7 := xB rb g9 (((j9 : Nat) : Int)) ((payV (g40)[j9] (((blk / c.elen.toNat) : Nat) : Int)).1) w1 ho1 hr9 hchg.1 hchg.2; exact h7) rfl ?_)
    rintro g114 ⟨r114, l114, c114⟩
    refine ii ?_
    refine rn [27,7,10,2,2,2,49] ?_
    refine g_op (g_lit rfl rfl rfl rfl rfl fun b119 => ?_)
    refine zJ (b := b119) ((([(Y.mk (j9 : Int) (payV g40[j9] ((blk / c.elen.toNat : Nat) : Int)).2.1 true)] : List Y).map Y.c).flatten) rfl ?_
    refine g_op (zY (A := pA) (els := ((fullK g40 ((blk / c.elen.toNat : Nat) : Int) (g40, p40) (sweepS cur (g40.map fun v : V => decide (v.st = 5)) (c.vis - ((pt.take P).length : Nat)) (c.pays - (p40.length : Nat))).2.1 k).2).map Y.c) (news := (([(Y.mk (j9 : Int) (payV g40[j9] ((blk / c.elen.toNat : Nat) : Int)).2.1 true)] : List Y).map Y.c)) rfl rfl (InL.rdb (b := b119) rfl (by simp [Y.c]) rfl) (yG (c := Y.c) (by intro x; simp [Y.c, Value.oneCell']) _) (by first | omega | (simp; omega) | (simp_all; omega)) rfl fun A120 cap120 => ⟨_, inferInstance, ?_⟩)
    refine zF (A := A120) ((((fullK g40 ((blk / c.elen.toNat : Nat) : Int) (g40, p40) (sweepS cur (g40.map fun v : V => decide (v.st = 5)) (c.vis - ((pt.take P).length : Nat)) (c.pays - (p40.length : Nat))).2.1 k).2 ++ [(Y.mk (j9 : Int) (payV g40[j9] ((blk / c.elen.toNat : Nat) : Int)).2.1 true)])).map Y.c) (by first | rfl | exact List.map_append.symm | (simp; done)) ?_
    refine rn [3,9,15,7,10,43,2,9] ?_
    refine zF (A := A120) ((fullK g40 ((blk / c.elen.toNat : Nat) : Int) (g40, p40) (sweepS cur (g40.map fun v : V => decide (v.st = 5)) (c.vis - ((pt.take P).length : Nat)) (c.pays - (p40.length : Nat))).2.1 (k + 1)).2.map Y.c) (by rw [hs9]) ?_
    refine yC (A := A120) (fullK g40 ((blk / c.elen.toNat : Nat) : Int) (g40, p40) (sweepS cur (g40.map fun v : V => decide (v.st = 5)) (c.vis - ((pt.take P).length : Nat)) (c.pays - (p40.length : Nat))).2.1 (k + 1)).2.length (by rw [hs9]; simp) ?_
    refine g_val 5 (v' := .slice A120 (fullK g40 ((blk / c.elen.toNat : Nat) : Int) (g40, p40) (sweepS cur (g40.map fun v : V => decide (v.st = 5)) (c.vis - ((pt.take P).length : Nat)) (c.pays - (p40.length : Nat))).2.1 (k + 1)).2.length cap120) rfl (by rw [hs9]; simp) ?_
    exact g_ag ((k + 1), g114, A120, cap120) (by (try dsimp only); exact ⟨(by first | exact lt_k | omega), r114, (by rw [hs9]; show _ = setV _ _ _; rw [l114, hl9]), (by rw [c114]; exact hc9)⟩)
  ·have eq_k : k = (sweepS cur (g40.map fun v : V => decide (v.st = 5)) (c.vis - ((pt.take P).length : Nat)) (c.pays - (p40.length : Nat))).2.1.length := by have h9 := of_decide_eq_false h2; omega
   subst eq_k
   have hmd : (sweepS cur (g40.map fun v : V => decide (v.st = 5)) (c.vis - ((pt.take P).length : Nat)) (c.pays - (p40.length : Nat))).2.2 ≤ 4096 := by have h9 := sweep_made cur (g40.map fun v : V => decide (v.st = 5)) (c.vis - ((pt.take P).length : Nat)) (c.pays - (p40.length : Nat)); simp only [List.length_map] at h9; omega
   refine rn [16] ?_
   refine zE (zE (zQ ?_))
   refine rn [7,8,1,2,47,2,0,14] ?_
   have hledz : (ledK dep burn paid (fullK g40 ((blk / c.elen.toNat : Nat) : Int) (g40, p40) (sweepS cur (g40.map fun v : V => decide (v.st = 5)) (c.vis - ((pt.take P).length : Nat)) (c.pays - (p40.length : Nat))).2.1 (sweepS cur (g40.map fun v : V => decide (v.st = 5)) (c.vis - ((pt.take P).length : Nat)) (c.pays - (p40.length : Nat))).2.1.length).2 0) = paid := rfl
   refine zJ (b := lb) [Value.int .u64 dep, Value.int .u64 (ledK dep burn paid (fullK g40 ((blk / c.elen.toNat : Nat) : Int) (g40, p40) (sweepS cur (g40.map fun v : V => decide (v.st = 5)) (c.vis - ((pt.take P).length : Nat)) (c.pays - (p40.length : Nat))).2.1 (sweepS cur (g40.map fun v : V => decide (v.st = 5)) (c.vis - ((pt.take P).length : Nat)) (c.pays - (p40.length : Nat))).2.1.length).2 0), Value.int .u64 burn, Value.int .u64 c.supc] (by rfl) ?_
   obtain ⟨z1, z2, z3, z4⟩ := full_fold (l0 := g40) (e := ((blk / c.elen.toNat : Nat) : Int)) (sweepS cur (g40.map fun v : V => decide (v.st = 5)) (c.vis - ((pt.take P).length : Nat)) (c.pays - (p40.length : Nat))).2.1 g40 p40 w2_ (fun i hi9 => ⟨(i5 i hi9).1, (i5 i hi9).2, rfl⟩)
   rw [← fullK_end] at z1 z2 z3 z4
   have hp40A : sumA p40 = sumA (run c (RG.l g) (pt.take P)).2 := by rw [hp40]; exact sumA_pos _
   have pnn : ∀ y9 ∈ (fullK g40 ((blk / c.elen.toNat : Nat) : Int) (g40, p40) (sweepS cur (g40.map fun v : V => decide (v.st = 5)) (c.vis - ((pt.take P).length : Nat)) (c.pays - (p40.length : Nat))).2.1 (sweepS cur (g40.map fun v : V => decide (v.st = 5)) (c.vis - ((pt.take P).length : Nat)) (c.pays - (p40.length : Nat))).2.1.length).2, 0 ≤ y9.a := fun y9 hy9 => by
     rw [z3] at hy9
     rcases List.mem_append.1 hy9 with hy9 | hy9
     · rw [hp40] at hy9; exact (p1 y9 (List.mem_filter.1 hy9).1).1
     · obtain ⟨i9, hi9, rfl⟩ := List.mem_map.1 hy9
       exact (v1 i9 (yW (by have h9 := (i5 i9 hi9).1; omega))).b
   have hlf : 0 ≤ (bals (fullK g40 ((blk / c.elen.toNat : Nat) : Int) (g40, p40) (sweepS cur (g40.map fun v : V => decide (v.st = 5)) (c.vis - ((pt.take P).length : Nat)) (c.pays - (p40.length : Nat))).2.1 (sweepS cur (g40.map fun v : V => decide (v.st = 5)) (c.vis - ((pt.take P).length : Nat)) (c.pays - (p40.length : Nat))).2.1.length).1).sum := sum_nn fun z hz => by
     obtain ⟨v9, hv9, rfl⟩ := List.mem_map.1 hz
     rw [← hl9] at hv9; exact (hr9.ok v9 hv9).bal.1
   have hpm : ∀ y9 ∈ (fullK g40 ((blk / c.elen.toNat : Nat) : Int) (g40, p40) (sweepS cur (g40.map fun v : V => decide (v.st = 5)) (c.vis - ((pt.take P).length : Nat)) (c.pays - (p40.length : Nat))).2.1 (sweepS cur (g40.map fun v : V => decide (v.st = 5)) (c.vis - ((pt.take P).length : Nat)) (c.pays - (p40.length : Nat))).2.1.length).2, y9.a ≤ 18446744073709551615 := fun y9 hy9 => by
     have h9 := mem_sumA pnn y9 hy9; have h8 := hg.mx; unfold bals at s1_ z4 hlf; omega
   have hfl : (fullK g40 ((blk / c.elen.toNat : Nat) : Int) (g40, p40) (sweepS cur (g40.map fun v : V => decide (v.st = 5)) (c.vis - ((pt.take P).length : Nat)) (c.pays - (p40.length : Nat))).2.1 (sweepS cur (g40.map fun v : V => decide (v.st = 5)) (c.vis - ((pt.take P).length : Nat)) (c.pays - (p40.length : Nat))).2.1.length).2.length ≤ 10000 := by rw [z3]; simp only [List.length_append, List.length_map]; have h9 : (sweepS cur (g40.map fun v : V => decide (v.st = 5)) (c.vis - ((pt.take P).length : Nat)) (c.pays - (p40.length : Nat))).2.1.length ≤ g40.length := has_len_le w2_ (fun i hi9 => yW (by have h9 := (i5 i hi9).1; omega)); omega
   refine g_lk [0, 2, 3, 5, 6, 11, 122, 123] (fun (x : Nat) => [(124, .int .i64 ((x : Nat) : Int))]) (fun (x : Nat) => [Res.row pA (fullK g40 ((blk / c.elen.toNat : Nat) : Int) (g40, p40) (sweepS cur (g40.map fun v : V => decide (v.st = 5)) (c.vis - ((pt.take P).length : Nat)) (c.pays - (p40.length : Nat))).2.1 (sweepS cur (g40.map fun v : V => decide (v.st = 5)) (c.vis - ((pt.take P).length : Nat)) (c.pays - (p40.length : Nat))).2.1.length).2.length pc 50 3 ((fullK g40 ((blk / c.elen.toNat : Nat) : Int) (g40, p40) (sweepS cur (g40.map fun v : V => decide (v.st = 5)) (c.vis - ((pt.take P).length : Nat)) (c.pays - (p40.length : Nat))).2.1 (sweepS cur (g40.map fun v : V => decide (v.st = 5)) (c.vis - ((pt.take P).length : Nat)) (c.pays - (p40.length : Nat))).2.1.length).2.map Y.c), Res.blk eb 112 (ECell rb cb lb bb ub mb xb pb gb tb c lA (lv.length) lc), RgB rb g9, RgW g9, Res.im (RG.m g9), CkB cb (blk) (c.elen.toNat), LgB lb (dep) ((ledK dep burn paid (fullK g40 ((blk / c.elen.toNat : Nat) : Int) (g40, p40) (sweepS cur (g40.map fun v : V => decide (v.st = 5)) (c.vis - ((pt.take P).length : Nat)) (c.pays - (p40.length : Nat))).2.1 (sweepS cur (g40.map fun v : V => decide (v.st = 5)) (c.vis - ((pt.take P).length : Nat)) (c.pays - (p40.length : Nat))).2.1.length).2 x)) (burn) (c.supc), CuB ub ((sweepS cur (g40.map fun v : V => decide (v.st = 5)) (c.vis - ((pt.take P).length : Nat)) (c.pays - (p40.length : Nat))).1), rB_rq tb g35, rW_rq g35]) (fun (x : Nat) => x ≤ (fullK g40 ((blk / c.elen.toNat : Nat) : Int) (g40, p40) (sweepS cur (g40.map fun v : V => decide (v.st = 5)) (c.vis - ((pt.take P).length : Nat)) (c.pays - (p40.length : Nat))).2.1 (sweepS cur (g40.map fun v : V => decide (v.st = 5)) (c.vis - ((pt.take P).length : Nat)) (c.pays - (p40.length : Nat))).2.1.length).2.length) (fun (x : Nat) => (fullK g40 ((blk / c.elen.toNat : Nat) : Int) (g40, p40) (sweepS cur (g40.map fun v : V => decide (v.st = 5)) (c.vis - ((pt.take P).length : Nat)) (c.pays - (p40.length : Nat))).2.1 (sweepS cur (g40.map fun v : V => decide (v.st = 5)) (c.vis - ((pt.take P).length : Nat)) (c.pays - (p40.length : Nat))).2.1.length).2.length - x) 0 (by (try dsimp only); exact Nat.zero_le _) ?_
   rintro k le_k
   replace le_k : k ≤ (fullK g40 ((blk / c.elen.toNat : Nat) : Int) (g40, p40) (sweepS cur (g40.map fun v : V => decide (v.st = 5)) (c.vis - ((pt.take P).length : Nat)) (c.pays - (p40.length : Nat))).2.1 (sweepS cur (g40.map fun v : V => decide (v.st = 5)) (c.vis - ((pt.take P).length : Nat)) (c.pays - (p40.length : Nat))).2.1.length).2.length := le_k
   have hlk9 : LOk c.supc dep (ledK dep burn paid (fullK g40 ((blk / c.elen.toNat : Nat) : Int) (g40, p40) (sweepS cur (g40.map fun v : V => decide (v.st = 5)) (c.vis - ((pt.take P).length : Nat)) (c.pays - (p40.length : Nat))).2.1 (sweepS cur (g40.map fun v : V => decide (v.st = 5)) (c.vis - ((pt.take P).length : Nat)) (c.pays - (p40.length : Nat))).2.1.length).2 k) burn := ledK_ok hled pnn k
   refine rn [1,46,0,8] ?_
   refine zC rfl (fun h3 => ?_) (fun h3 => ?_)
   ·have lt_k : k < (fullK g40 ((blk / c.elen.toNat : Nat) : Int) (g40, p40) (sweepS cur (g40.map fun v : V => decide (v.st = 5)) (c.vis - ((pt.take P).length : Nat)) (c.pays - (p40.length : Nat))).2.1 (sweepS cur (g40.map fun v : V => decide (v.st = 5)) (c.vis - ((pt.take P).length : Nat)) (c.pays - (p40.length : Nat))).2.1.length).2.length := by have h9 := of_decide_eq_true h3; omega
    refine rn [12,7,8,14,1] ?_
    refine s_q (zR (i := k) rfl rfl rfl (InRow.rdb (A := pA) (els := ((fullK g40 ((blk / c.elen.toNat : Nat) : Int) (g40, p40) (sweepS cur (g40.map fun v : V => decide (v.st = 5)) (c.vis - ((pt.take P).length : Nat)) (c.pays - (p40.length : Nat))).2.1 (sweepS cur (g40.map fun v : V => decide (v.st = 5)) (c.vis - ((pt.take P).length : Nat)) (c.pays - (p40.length : Nat))).2.1.length).2).map Y.c) (by first | rfl | assumption | (simp; done) | (simp_all; done) | (simp; omega) | (simp_all; omega)) (zM (c := Y.c) (fun _ => rfl) _)) (by first | exact lt_k | omega)) rfl ?_
    refine s_q (zT (i := k) rfl (InRow.rdb (A := pA) (els := ((fullK g40 ((blk / c.elen.toNat : Nat) : Int) (g40, p40) (sweepS cur (g40.map fun v : V => decide (v.st = 5)) (c.vis - ((pt.take P).length : Nat)) (c.pays - (p40.length : Nat))).2.1 (sweepS cur (g40.map fun v : V => decide (v.st = 5)) (c.vis - ((pt.take P).length : Nat)) (c.pays - (p40.length : Nat))).2.1.length).2).map Y.c) (by first | rfl | assumption | (simp; done) | (simp_all; done) | (simp; omega) | (simp_all; omega)) (zM (c := Y.c) (fun _ => rfl) _)) (zS (by first | assumption | omega | (simp_all; done) | (simp_all; omega))) rfl) rfl ?_
    refine g_op (zI rfl fun b18 => ?_)
    refine rn [33,0] ?_
    refine dregL (L0 := [Res.blk eb 112 (ECell rb cb lb bb ub mb xb pb gb tb c lA (lv.length) lc), Res.blk b18 50 (Y.c (fullK g40 ((blk / c.elen.toNat : Nat) : Int) (g40, p40) (sweepS cur (g40.map fun v : V => decide (v.st = 5)) (c.vis - ((pt.take P).length : Nat)) (c.pays - (p40.length : Nat))).2.1 (sweepS cur (g40.map fun v : V => decide (v.st = 5)) (c.vis - ((pt.take P).length : Nat)) (c.pays - (p40.length : Nat))).2.1.length).2[k])]) [] mixed rfl zB ?_
    refine rn [23,0,2,23,1,6,23,2,4,23,3,5,23,4,4,23,5,5] ?_
    refine dop 6 rfl (zH _ rfl (fun w1 hw1 ho1 => by have h7 := lpaid_any lb dep (ledK dep burn paid (fullK g40 ((blk / c.elen.toNat : Nat) : Int) (g40, p40) (sweepS cur (g40.map fun v : V => decide (v.st = 5)) (c.vis - ((pt.take P).length : Nat)) (c.pays - (p40.length : Nat))).2.1 (sweepS cur (g40.map fun v : V => decide (v.st = 5)) (c.vis - ((pt.take P).length : Nat)) (c.pays - (p40.length : Nat))).2.1.length).2 k) burn c.supc ((((fullK g40 ((blk / c.elen.toNat : Nat) : Int) (g40, p40) (sweepS cur (g40.map fun v : V => decide (v.st = 5)) (c.vis - ((pt.take P).length : Nat)) (c.pays - (p40.length : Nat))).2.1 (sweepS cur (g40.map fun v : V => decide (v.st = 5)) (c.vis - ((pt.take P).length : Nat)) (c.pays - (p40.length : Nat))).2.1.length).2)[k]).a) w1 ho1 hlk9 ⟨pnn _ (List.getElem_mem lt_k), hpm _ (List.getElem_mem lt_k)⟩; exact h7) rfl ?_)
    rintro ⟨⟩ _
    refine ii ?_
    refine rn [27,15,7,10,43,2,9] ?_
    refine zJ (b := lb) [Value.int .u64 dep, Value.int .u64 (ledK dep burn paid (fullK g40 ((blk / c.elen.toNat : Nat) : Int) (g40, p40) (sweepS cur (g40.map fun v : V => decide (v.st = 5)) (c.vis - ((pt.take P).length : Nat)) (c.pays - (p40.length : Nat))).2.1 (sweepS cur (g40.map fun v : V => decide (v.st = 5)) (c.vis - ((pt.take P).length : Nat)) (c.pays - (p40.length : Nat))).2.1.length).2 (k + 1)), Value.int .u64 burn, Value.int .u64 c.supc] (by rw [ledK_succ lt_k]; rfl) ?_
    exact g_ag (k + 1) (by (try dsimp only); exact (by first | exact lt_k | omega))
   ·have eq_k : k = (fullK g40 ((blk / c.elen.toNat : Nat) : Int) (g40, p40) (sweepS cur (g40.map fun v : V => decide (v.st = 5)) (c.vis - ((pt.take P).length : Nat)) (c.pays - (p40.length : Nat))).2.1 (sweepS cur (g40.map fun v : V => decide (v.st = 5)) (c.vis - ((pt.take P).length : Nat)) (c.pays - (p40.length : Nat))).2.1.length).2.length := by have h9 := of_decide_eq_false h3; omega
    refine rn [16] ?_
    refine zE (zE (zQ ?_))
    refine rn [7,1,2,2,2] ?_
    refine s_q (q_addn (a := (min (pt.take P).length P)) (b := (sweepS cur (g40.map fun v : V => decide (v.st = 5)) ((c.vis - ((pt.take P).length : Nat))) ((c.pays - (p40.length : Nat)))).2.2) rfl rfl (by first | omega | (simp; omega) | (simp_all; omega))) rfl ?_
    refine rn [3,3,0,11] ?_
    subst eq_k
    have hB : (paysE (Eg.mk c blk (RG.l g) dep paid burn bo lv cur m q pend mg pt)) = ((Eg.mk c blk (fullK g40 ((blk / c.elen.toNat : Nat) : Int) (g40, p40) (sweepS cur (g40.map fun v : V => decide (v.st = 5)) (c.vis - ((pt.take P).length : Nat)) (c.pays - (p40.length : Nat))).2.1 (sweepS cur (g40.map fun v : V => decide (v.st = 5)) (c.vis - ((pt.take P).length : Nat)) (c.pays - (p40.length : Nat))).2.1.length).1 dep (ledK dep burn paid (fullK g40 ((blk / c.elen.toNat : Nat) : Int) (g40, p40) (sweepS cur (g40.map fun v : V => decide (v.st = 5)) (c.vis - ((pt.take P).length : Nat)) (c.pays - (p40.length : Nat))).2.1 (sweepS cur (g40.map fun v : V => decide (v.st = 5)) (c.vis - ((pt.take P).length : Nat)) (c.pays - (p40.length : Nat))).2.1.length).2 (fullK g40 ((blk / c.elen.toNat : Nat) : Int) (g40, p40) (sweepS cur (g40.map fun v : V => decide (v.st = 5)) (c.vis - ((pt.take P).length : Nat)) (c.pays - (p40.length : Nat))).2.1 (sweepS cur (g40.map fun v : V => decide (v.st = 5)) (c.vis - ((pt.take P).length : Nat)) (c.pays - (p40.length : Nat))).2.1.length).2.length) burn bo lv (sweepS cur (g40.map fun v : V => decide (v.st = 5)) (c.vis - ((pt.take P).length : Nat)) (c.pays - (p40.length : Nat))).1 m q pend mg (pt.drop (pt.take P).length)), (fullK g40 ((blk / c.elen.toNat : Nat) : Int) (g40, p40) (sweepS cur (g40.map fun v : V => decide (v.st = 5)) (c.vis - ((pt.take P).length : Nat)) (c.pays - (p40.length : Nat))).2.1 (sweepS cur (g40.map fun v : V => decide (v.st = 5)) (c.vis - ((pt.take P).length : Nat)) (c.pays - (p40.length : Nat))).2.1.length).2, (pt.take P).length + (sweepS cur (g40.map fun v : V => decide (v.st = 5)) (c.vis - ((pt.take P).length : Nat)) (c.pays - (p40.length : Nat))).2.2) := by
      have hPn : c.parts.toNat = P := by omega
      unfold paysE Eg.ep; dsimp only; rw [hPn, ← hg40, ← hp40, fullK_end, ledK_end]
    exact fin2 rfl (.tmp rfl) (.tmp rfl) (fun w' hw' => ⟨(g9, pA, pc, g35), (by (rw [hB]; exact ⟨hr9, hl9, by rw [hc9, c46], r35, by rw [s35]; exact sgt⟩)), by rw [hB]; simp, by have h9 := zB (L' := [Res.row pA (fullK g40 ((blk / c.elen.toNat : Nat) : Int) (g40, p40) (sweepS cur (g40.map fun v : V => decide (v.st = 5)) (c.vis - ((pt.take P).length : Nat)) (c.pays - (p40.length : Nat))).2.1 (sweepS cur (g40.map fun v : V => decide (v.st = 5)) (c.vis - ((pt.take P).length : Nat)) (c.pays - (p40.length : Nat))).2.1.length).2.length pc 50 3 ((fullK g40 ((blk / c.elen.toNat : Nat) : Int) (g40, p40) (sweepS cur (g40.map fun v : V => decide (v.st = 5)) (c.vis - ((pt.take P).length : Nat)) (c.pays - (p40.length : Nat))).2.1 (sweepS cur (g40.map fun v : V => decide (v.st = 5)) (c.vis - ((pt.take P).length : Nat)) (c.pays - (p40.length : Nat))).2.1.length).2.map Y.c), Res.blk eb 112 (ECell rb cb lb bb ub mb xb pb gb tb c lA (lv.length) lc), RgB rb g9, RgW g9, Res.im (RG.m g9), CkB cb (blk) (c.elen.toNat), LgB lb (dep) ((ledK dep burn paid (fullK g40 ((blk / c.elen.toNat : Nat) : Int) (g40, p40) (sweepS cur (g40.map fun v : V => decide (v.st = 5)) (c.vis - ((pt.take P).length : Nat)) (c.pays - (p40.length : Nat))).2.1 (sweepS cur (g40.map fun v : V => decide (v.st = 5)) (c.vis - ((pt.take P).length : Nat)) (c.pays - (p40.length : Nat))).2.1.length).2 (fullK g40 ((blk / c.elen.toNat : Nat) : Int) (g40, p40) (sweepS cur (g40.map fun v : V => decide (v.st = 5)) (c.vis - ((pt.take P).length : Nat)) (c.pays - (p40.length : Nat))).2.1 (sweepS cur (g40.map fun v : V => decide (v.st = 5)) (c.vis - ((pt.take P).length : Nat)) (c.pays - (p40.length : Nat))).2.1.length).2.length)) (burn) (c.supc), CuB ub ((sweepS cur (g40.map fun v : V => decide (v.st = 5)) (c.vis - ((pt.take P).length : Nat)) (c.pays - (p40.length : Nat))).1), rB_rq tb g35, rW_rq g35]) w' hw'; rw [hB]; exact h9⟩) _ (.inl rfl)
structure EG where
 g : RG
 br : BR
 lA : Option Addr
 lc : Nat
 g0 : Rg
 g1 : Rg
 gp : Rg
 gg : Rg
 gt : Rg
structure EG.Rep (a : EG) (s : Eg) : Prop where
 g : a.g.Rep
 l : a.g.l = s.l
 cp : (a.g.cp : Int) = s.c.capa
 b : a.br.Rep s.bo
 r0 : a.g0.Rep 1 (s.q.f.map (fun v : Int => [Value.int .i64 v]))
 r1 : a.g1.Rep 1 (s.q.v.map (fun v : Int => [Value.int .i64 v]))
 z0 : a.g0.size = s.c.qsize.toNat
 z1 : a.g1.size = s.c.qsize.toNat
 rp : a.gp.Rep 1 (s.pend.map (fun v : Int => [Value.int .i64 v]))
 zp : a.gp.size = s.c.qsize.toNat
 rg : a.gg.Rep 2 (s.mg.map PP.c)
 zg : a.gg.size = s.c.qsize.toNat
 rt : a.gt.Rep 2 (s.pt.map Rq.c)
 zt : a.gt.size = s.c.qsize.toNat
structure TX where
 a : EG
 O : Option Addr
 oc : Nat
 pA : Option Addr
 pc : Nat
def rcV (r : Rc) (O : Option Addr) (oc : Nat) (pA : Option Addr) (pc : Nat) : Value := .agg #[.int .i64 r.k, .int .i64 r.code, .int .i64 r.i, .int .i64 r.blk, .int .i64 r.ep, .int .i64 r.dl, .slice O r.ag.length oc, .slice pA r.ps.length pc, .int .i64 r.vis]
theorem tick_eng (eb rb cb lb bb ub mb xb b0 b1 pb gb tb : Nat) (c : C) (blk : Nat) (g : RG) (dep paid burn : Int) (bo : List En) (lv : List Int) (cur : Nat) (m : M) (q : LL) (pend : List Int) (mg : List PP) (pt : List Rq) (br : BR) (lA : Option Addr) (lc : Nat) (g0 g1 gp gg gt : Rg) (y : Op) (w : World) (hw : W0 [Res.blk eb 112 (ECell rb cb lb bb ub mb xb pb gb tb c lA (lv.length) lc), RgB rb g, RgW g, Res.im (RG.m g), CkB cb (blk) (c.elen.toNat), LgB lb (dep) (paid) (burn) (c.supc), bB_ bb br, bW_ br, bK_ br, Res.row lA (lv).length lc 3 1 ((lv).map (fun v : Int => [Value.int .i64 v])), CuB ub (cur), Res.blk mb 186 (M.c m), bL_ xb b0 b1, rB_i b0 g0, rW_i g0, rB_i b1 g1, rW_i g1, rB_i pb gp, rW_i gp, rB_pp gb gg, rW_pp gg, rB_rq tb gt, rW_rq gt] w) (hi : Inv (Eg.mk c blk (RG.l g) dep paid burn bo lv cur m q pend mg pt)) (hg : g.Rep) (hcp : (g.cp : Int) = c.capa) (hbr : br.Rep bo) (h0 : g0.Rep 1 (q.f.map (fun v : Int => [Value.int .i64 v]))) (h1_ : g1.Rep 1 (q.v.map (fun v : Int => [Value.int .i64 v]))) (s0 : Rg.size g0 = c.qsize.toNat) (s1 : Rg.size g1 = c.qsize.toNat) (hgp : gp.Rep 1 (pend.map (fun v : Int => [Value.int .i64 v]))) (sgp : Rg.size gp = c.qsize.toNat) (hgg : gg.Rep 2 (mg.map PP.c)) (sgg : Rg.size gg = c.qsize.toNat) (hgt : gt.Rep 2 (pt.map Rq.c)) (sgt : Rg.size gt = c.qsize.toNat) (h7 : y.k = 7) (hb9 : blk < 1000000000) : Own2 (ι := TX) Tryz.prog 57 [.pointer (some ⟨eb, 0, none⟩), .agg y.c.toArray] w [Res.blk eb 112 (ECell rb cb lb bb ub mb xb pb gb tb c lA (lv.length) lc), RgB rb g, RgW g, Res.im (RG.m g), CkB cb (blk) (c.elen.toNat), LgB lb (dep) (paid) (burn) (c.supc), bB_ bb br, bW_ br, bK_ br, Res.row lA (lv).length lc 3 1 ((lv).map (fun v : Int => [Value.int .i64 v])), CuB ub (cur), Res.blk mb 186 (M.c m), bL_ xb b0 b1, rB_i b0 g0, rW_i g0, rB_i b1 g1, rW_i g1, rB_i pb gp, rW_i gp, rB_pp gb gg, rW_pp gg, rB_rq tb gt, rW_rq gt] (fun x => x.a.Rep (tickE (Eg.mk c blk (RG.l g) dep paid burn bo lv cur m q pend mg pt)).1) (fun x => rcV (tickE (Eg.mk c blk (RG.l g) dep paid burn bo lv cur m q pend mg pt)).2 x.O x.oc x.pA x.pc) (fun x => [Res.row x.O (tickE (Eg.mk c blk (RG.l g) dep paid burn bo lv cur m q pend mg pt)).2.ag.length x.oc 55 3 ((tickE (Eg.mk c blk (RG.l g) dep paid burn bo lv cur m q pend mg pt)).2.ag.map As.cs), Res.row x.pA (tickE (Eg.mk c blk (RG.l g) dep paid burn bo lv cur m q pend mg pt)).2.ps.length x.pc 50 3 ((tickE (Eg.mk c blk (RG.l g) dep paid burn bo lv cur m q pend mg pt)).2.ps.map Y.c)]) (fun x => [Res.blk eb 112 (ECell rb cb lb bb ub mb xb pb gb tb c x.a.lA ((tickE (Eg.mk c blk (RG.l g) dep paid burn bo lv cur m q pend mg pt)).1.lv.length) x.a.lc), RgB rb x.a.g, RgW x.a.g, Res.im (RG.m x.a.g), CkB cb ((blk + 1)) (c.elen.toNat), LgB lb (dep) ((tickE (Eg.mk c blk (RG.l g) dep paid burn bo lv cur m q pend mg pt)).1.paid) (burn) (c.supc), bB_ bb x.a.br, bW_ x.a.br, bK_ x.a.br, Res.row x.a.lA ((tickE (Eg.mk c blk (RG.l g) dep paid burn bo lv cur m q pend mg pt)).1.lv).length x.a.lc 3 1 (((tickE (Eg.mk c blk (RG.l g) dep paid burn bo lv cur m q pend mg pt)).1.lv).map (fun v : Int => [Value.int .i64 v])), CuB ub ((tickE (Eg.mk c blk (RG.l g) dep paid burn bo lv cur m q pend mg pt)).1.cur), Res.blk mb 186 (M.c (tickE (Eg.mk c blk (RG.l g) dep paid burn bo lv cur m q pend mg pt)).1.m), bL_ xb b0 b1, rB_i b0 x.a.g0, rW_i x.a.g0, rB_i b1 x.a.g1, rW_i x.a.g1, rB_i pb x.a.gp, rW_i x.a.gp, rB_pp gb x.a.gg, rW_pp x.a.gg, rB_rq tb x.a.gt, rW_rq x.a.gt]) := by
 refine g_st Tryz.func57 40 hw ?_
 have hok : Cok c := hi.cok
 have hmo : Cmo c := xD hi.cc
 have hblk : blk ≤ 1000000000 := hi.blk
 have hk : blk < 4611686018427387904 := by omega
 have hel : 1 ≤ c.elen.toNat ∧ c.elen.toNat ≤ 4611686018427387904 := by have := hok.elen; omega
 have hled : LOk c.supc dep paid burn := hi.led
 have hqf : q.f.length ≤ c.qsize.toNat ∧ q.v.length ≤ c.qsize.toNat := hi.qf
 have hsum : (bals (RG.l g)).sum = dep - paid - burn := hi.sum
 have hvo : ∀ i, hasV (RG.l g) i = true → VO (gotV (RG.l g) i) := hi.vo
 have hqs := hmo.qsize
 refine rn [1] ?_
 refine g_op (g_box rfl rfl rfl fun b3 => ?_)
 refine g_op (zI rfl fun b4 => ?_)
 refine rn [0,1,3,0,8,1,2,6,4,5] ?_
 refine g_op (zH _ rfl (fun w1 hw1 ho1 => by have h7 := tickc_any cb blk c.elen.toNat w1 ho1 (by omega) hel; exact h7) rfl ?_)
 rintro ⟨⟩ _
 refine ii ?_
 refine rn [0] ?_
 refine zC rfl (fun h1 => ?_) (fun h1 => ?_)
 ·have hbd : (blk + 1) % c.elen.toNat = 0 := of_decide_eq_true h1
  have hmid : midE (Eg.mk c blk (RG.l g) dep paid burn bo lv cur m q pend mg pt) = (bdyE (Eg.mk c (blk + 1) (RG.l g) dep paid burn bo lv cur m q pend mg pt)) := if_pos hbd
  have hiM := (mid_inv hi hb9).1
  rw [hmid] at hiM
  refine rn [10,2] ?_
  refine g_op (zH _ rfl (fun w1 hw1 ho1 => by have h7 := bdy_eng eb rb cb lb bb ub mb xb b0 b1 pb gb tb c blk g dep paid burn bo lv cur m q pend mg pt br lA lc g0 g1 gp gg gt w1 ho1 hi hg hcp hbr h0 h1_ s0 s1 hgp sgp hgg sgg hbd hb9; exact h7) rfl ?_)
  rintro ⟨g15, br15, lA15, lc15, ga15, gb15, gp15, gg15, O15, oc15⟩ ⟨r15, l15, c15, rb15, ra15, rbb15, sa15, sb15, rp15, sp15, rg15, sg15⟩
  refine ii ?_
  simp only at r15 l15 c15 rb15 ra15 rbb15 sa15 sb15 rp15 sp15 rg15 sg15
  have hB1 : (bdyE (Eg.mk c (blk + 1) (RG.l g) dep paid burn bo lv cur m q pend mg pt)).1 = (Eg.mk c (blk + 1) (RG.l g15) dep paid burn (bdyE (Eg.mk c (blk + 1) (RG.l g) dep paid burn bo lv cur m q pend mg pt)).1.bo (bdyE (Eg.mk c (blk + 1) (RG.l g) dep paid burn bo lv cur m q pend mg pt)).1.lv cur (bdyE (Eg.mk c (blk + 1) (RG.l g) dep paid burn bo lv cur m q pend mg pt)).1.m (bdyE (Eg.mk c (blk + 1) (RG.l g) dep paid burn bo lv cur m q pend mg pt)).1.q (bdyE (Eg.mk c (blk + 1) (RG.l g) dep paid burn bo lv cur m q pend mg pt)).1.pend (bdyE (Eg.mk c (blk + 1) (RG.l g) dep paid burn bo lv cur m q pend mg pt)).1.mg pt) := by rw [l15]; rfl
  rw [hB1] at hiM
  have hT : (tickE (Eg.mk c blk (RG.l g) dep paid burn bo lv cur m q pend mg pt)) = ((paysE (Eg.mk c (blk + 1) (RG.l g15) dep paid burn (bdyE (Eg.mk c (blk + 1) (RG.l g) dep paid burn bo lv cur m q pend mg pt)).1.bo (bdyE (Eg.mk c (blk + 1) (RG.l g) dep paid burn bo lv cur m q pend mg pt)).1.lv cur (bdyE (Eg.mk c (blk + 1) (RG.l g) dep paid burn bo lv cur m q pend mg pt)).1.m (bdyE (Eg.mk c (blk + 1) (RG.l g) dep paid burn bo lv cur m q pend mg pt)).1.q (bdyE (Eg.mk c (blk + 1) (RG.l g) dep paid burn bo lv cur m q pend mg pt)).1.pend (bdyE (Eg.mk c (blk + 1) (RG.l g) dep paid burn bo lv cur m q pend mg pt)).1.mg pt)).1, ⟨7, 0, -1, ((blk + 1 : Nat) : Int), (((blk + 1) / c.elen.toNat : Nat) : Int), -1, (bdyE (Eg.mk c (blk + 1) (RG.l g) dep paid burn bo lv cur m q pend mg pt)).2, (paysE (Eg.mk c (blk + 1) (RG.l g15) dep paid burn (bdyE (Eg.mk c (blk + 1) (RG.l g) dep paid burn bo lv cur m q pend mg pt)).1.bo (bdyE (Eg.mk c (blk + 1) (RG.l g) dep paid burn bo lv cur m q pend mg pt)).1.lv cur (bdyE (Eg.mk c (blk + 1) (RG.l g) dep paid burn bo lv cur m q pend mg pt)).1.m (bdyE (Eg.mk c (blk + 1) (RG.l g) dep paid burn bo lv cur m q pend mg pt)).1.q (bdyE (Eg.mk c (blk + 1) (RG.l g) dep paid burn bo lv cur m q pend mg pt)).1.pend (bdyE (Eg.mk c (blk + 1) (RG.l g) dep paid burn bo lv cur m q pend mg pt)).1.mg pt)).2.1, (((paysE (Eg.mk c (blk + 1) (RG.l g15) dep paid burn (bdyE (Eg.mk c (blk + 1) (RG.l g) dep paid burn bo lv cur m q pend mg pt)).1.bo (bdyE (Eg.mk c (blk + 1) (RG.l g) dep paid burn bo lv cur m q pend mg pt)).1.lv cur (bdyE (Eg.mk c (blk + 1) (RG.l g) dep paid burn bo lv cur m q pend mg pt)).1.m (bdyE (Eg.mk c (blk + 1) (RG.l g) dep paid burn bo lv cur m q pend mg pt)).1.q (bdyE (Eg.mk c (blk + 1) (RG.l g) dep paid burn bo lv cur m q pend mg pt)).1.pend (bdyE (Eg.mk c (blk + 1) (RG.l g) dep paid burn bo lv cur m q pend mg pt)).1.mg pt)).2.2 : Nat) : Int)⟩) := by rw [tickE_eq, hmid, hB1]; rfl
  refine rn [3,0,1,2] ?_
  refine g_op (zH _ rfl (fun w1 hw1 ho1 => by have h7 := pay_eng eb rb cb lb bb ub mb xb b0 b1 pb gb tb c (blk + 1) g15 dep paid burn (bdyE (Eg.mk c (blk + 1) (RG.l g) dep paid burn bo lv cur m q pend mg pt)).1.bo (bdyE (Eg.mk c (blk + 1) (RG.l g) dep paid burn bo lv cur m q pend mg pt)).1.lv cur (bdyE (Eg.mk c (blk + 1) (RG.l g) dep paid burn bo lv cur m q pend mg pt)).1.m (bdyE (Eg.mk c (blk + 1) (RG.l g) dep paid burn bo lv cur m q pend mg pt)).1.q (bdyE (Eg.mk c (blk + 1) (RG.l g) dep paid burn bo lv cur m q pend mg pt)).1.pend (bdyE (Eg.mk c (blk + 1) (RG.l g) dep paid burn bo lv cur m q pend mg pt)).1.mg pt br15 lA15 lc15 ga15 gb15 gp15 gg15 gt  w1 ho1 (hiM) r15 (by omega) hgt sgt ; exact h7) rfl ?_)
  rintro ⟨g18, pA18, pc18, gt18⟩ ⟨r18, l18, c18, rt18, st18⟩
  refine ii ?_
  simp only at r18 l18 c18 rt18 st18
  refine rn [2,40,40,3,3,0,8] ?_
  refine dreg [13] mixed rfl ?_
  refine rn [23,0,45,23,1,2,23,2,6,23,3,4,23,4,5,23,6,2,23,7,6,23,8,4,23,9,5] ?_
  refine yB [5, 12] (by kernel_rfl) (by simp) zB ⟨dpick rfl (zK _ rfl (fun w1 hw1 ho1 => by exact yJ cb (blk + 1) c.elen.toNat w1 ho1 (by omega) hel) rfl ?_), dpick rfl (zI rfl fun b8 => ?_), trivial⟩
  ·refine yB [10, 12] (by kernel_rfl) (by simp) zB ⟨dpick rfl (zK _ rfl (fun w1 hw1 ho1 => by exact zZ cb (blk + 1) c.elen.toNat w1 ho1 (by omega) hel) rfl ?_), dpick rfl (zI rfl fun b8 => ?_), trivial⟩
   ·refine yB [11, 12] (by kernel_rfl) (by simp) zB ⟨dpick rfl (zG rfl (fun w1 hw1 => by exact yX y ((-1)) ((-1)) ((((blk + 1) : Nat) : Int)) (((((blk + 1) / c.elen.toNat) : Nat) : Int)) w1) rfl ?_), dpick rfl (zI rfl fun b8 => ?_), trivial⟩
    ·refine dop 12 rfl (zI rfl fun b8 => ?_)
     refine dop 13 rfl (zL rfl rfl rfl rfl rfl ?_)
     refine rn [28,7,1,2,2,2,4] ?_
     refine g_op (zP rfl rfl rfl rfl rfl rfl rfl ?_)
     refine rn [4] ?_
     refine g_op (zP rfl rfl rfl rfl rfl rfl rfl ?_)
     refine rn [4] ?_
     refine g_op (zP rfl rfl rfl rfl rfl rfl rfl ?_)
     refine rn [0,1,45,33,0,11] ?_
     exact fin1 rfl (.cellw rfl rfl) (fun w' hw' => ⟨(⟨⟨g18, br15, lA15, lc15, ga15, gb15, gp15, gg15, gt18⟩, O15, oc15, pA18, pc18⟩ : TX), (by (try dsimp only); (rw [hT]; exact ⟨r18, l18, by show (RG.cp g18 : Int) = c.capa; omega, rb15, ra15, rbb15, sa15, sb15, rp15, sp15, rg15, sg15, rt18, st18⟩)), by rw [hT, h7]; rfl, by have h9 := wok_pick [2,1,5,6,7,8,9,10,11,12,13,14,15,16,17,18,19,20,21,22,23,24,25,26,27] rfl (by decide) rfl w' hw'; rw [hT]; exact h9⟩) _ (.inl rfl)
    ·refine dop 11 rfl (zG rfl (fun w1 hw1 => by exact yX y ((-1)) ((-1)) ((((blk + 1) : Nat) : Int)) (((((blk + 1) / c.elen.toNat) : Nat) : Int)) w1) rfl ?_)
     refine dop 13 rfl (zL rfl rfl rfl rfl rfl ?_)
     refine rn [28,7,1,2,2,2,4] ?_
     refine g_op (zP rfl rfl rfl rfl rfl rfl rfl ?_)
     refine rn [4] ?_
     refine g_op (zP rfl rfl rfl rfl rfl rfl rfl ?_)
     refine rn [4] ?_
     refine g_op (zP rfl rfl rfl rfl rfl rfl rfl ?_)
     refine rn [0,1,45,33,0,11] ?_
     exact fin1 rfl (.cellw rfl rfl) (fun w' hw' => ⟨(⟨⟨g18, br15, lA15, lc15, ga15, gb15, gp15, gg15, gt18⟩, O15, oc15, pA18, pc18⟩ : TX), (by (try dsimp only); (rw [hT]; exact ⟨r18, l18, by show (RG.cp g18 : Int) = c.capa; omega, rb15, ra15, rbb15, sa15, sb15, rp15, sp15, rg15, sg15, rt18, st18⟩)), by rw [hT, h7]; rfl, by have h9 := wok_pick [2,1,5,6,7,8,9,10,11,12,13,14,15,16,17,18,19,20,21,22,23,24,25,26,27] rfl (by decide) rfl w' hw'; rw [hT]; exact h9⟩) _ (.inl rfl)
   ·refine dop 10 rfl (zK _ rfl (fun w1 hw1 ho1 => by exact zZ cb (blk + 1) c.elen.toNat w1 ho1 (by omega) hel) rfl ?_)
    refine dop 11 rfl (zG rfl (fun w1 hw1 => by exact yX y ((-1)) ((-1)) ((((blk + 1) : Nat) : Int)) (((((blk + 1) / c.elen.toNat) : Nat) : Int)) w1) rfl ?_)
    refine dop 13 rfl (zL rfl rfl rfl rfl rfl ?_)
    refine rn [28,7,1,2,2,2,4] ?_
    refine g_op (zP rfl rfl rfl rfl rfl rfl rfl ?_)
    refine rn [4] ?_
    refine g_op (zP rfl rfl rfl rfl rfl rfl rfl ?_)
    refine rn [4] ?_
    refine g_op (zP rfl rfl rfl rfl rfl rfl rfl ?_)
    refine rn [0,1,45,33,0,11] ?_
    exact fin1 rfl (.cellw rfl rfl) (fun w' hw' => ⟨(⟨⟨g18, br15, lA15, lc15, ga15, gb15, gp15, gg15, gt18⟩, O15, oc15, pA18, pc18⟩ : TX), (by (try dsimp only); (rw [hT]; exact ⟨r18, l18, by show (RG.cp g18 : Int) = c.capa; omega, rb15, ra15, rbb15, sa15, sb15, rp15, sp15, rg15, sg15, rt18, st18⟩)), by rw [hT, h7]; rfl, by have h9 := wok_pick [2,1,5,6,7,8,9,10,11,12,13,14,15,16,17,18,19,20,21,22,23,24,25,26,27] rfl (by decide) rfl w' hw'; rw [hT]; exact h9⟩) _ (.inl rfl)
  ·refine dop 5 rfl (zK _ rfl (fun w1 hw1 ho1 => by exact yJ cb (blk + 1) c.elen.toNat w1 ho1 (by omega) hel) rfl ?_)
   refine dop 10 rfl (zK _ rfl (fun w1 hw1 ho1 => by exact zZ cb (blk + 1) c.elen.toNat w1 ho1 (by omega) hel) rfl ?_)
   refine dop 11 rfl (zG rfl (fun w1 hw1 => by exact yX y ((-1)) ((-1)) ((((blk + 1) : Nat) : Int)) (((((blk + 1) / c.elen.toNat) : Nat) : Int)) w1) rfl ?_)
   refine dop 13 rfl (zL rfl rfl rfl rfl rfl ?_)
   refine rn [28,7,1,2,2,2,4] ?_
   refine g_op (zP rfl rfl rfl rfl rfl rfl rfl ?_)
   refine rn [4] ?_
   refine g_op (zP rfl rfl rfl rfl rfl rfl rfl ?_)
   refine rn [4] ?_
   refine g_op (zP rfl rfl rfl rfl rfl rfl rfl ?_)
   refine rn [0,1,45,33,0,11] ?_
   exact fin1 rfl (.cellw rfl rfl) (fun w' hw' => ⟨(⟨⟨g18, br15, lA15, lc15, ga15, gb15, gp15, gg15, gt18⟩, O15, oc15, pA18, pc18⟩ : TX), (by (try dsimp only); (rw [hT]; exact ⟨r18, l18, by show (RG.cp g18 : Int) = c.capa; omega, rb15, ra15, rbb15, sa15, sb15, rp15, sp15, rg15, sg15, rt18, st18⟩)), by rw [hT, h7]; rfl, by have h9 := wok_pick [2,1,5,6,7,8,9,10,11,12,13,14,15,16,17,18,19,20,21,22,23,24,25,26,27] rfl (by decide) rfl w' hw'; rw [hT]; exact h9⟩) _ (.inl rfl)
 ·have hbd : ¬ (blk + 1) % c.elen.toNat = 0 := of_decide_eq_false h1
  have hmid : midE (Eg.mk c blk (RG.l g) dep paid burn bo lv cur m q pend mg pt) = ((Eg.mk c (blk + 1) (RG.l g) dep paid burn bo lv cur m q pend mg pt), []) := if_neg hbd
  have hiM := (mid_inv hi hb9).1
  rw [hmid] at hiM
  have hT : (tickE (Eg.mk c blk (RG.l g) dep paid burn bo lv cur m q pend mg pt)) = ((paysE (Eg.mk c (blk + 1) (RG.l g) dep paid burn bo lv cur m q pend mg pt)).1, ⟨7, 0, -1, ((blk + 1 : Nat) : Int), (((blk + 1) / c.elen.toNat : Nat) : Int), -1, [], (paysE (Eg.mk c (blk + 1) (RG.l g) dep paid burn bo lv cur m q pend mg pt)).2.1, (((paysE (Eg.mk c (blk + 1) (RG.l g) dep paid burn bo lv cur m q pend mg pt)).2.2 : Nat) : Int)⟩) := by rw [tickE_eq, hmid]; rfl
  refine zW none 55 3 (([] : List As).map As.cs) (by rfl) ?_
  refine rn [12,7,1,2] ?_
  refine g_op (zH _ rfl (fun w1 hw1 ho1 => by have h7 := pay_eng eb rb cb lb bb ub mb xb b0 b1 pb gb tb c (blk + 1) g dep paid burn bo lv cur m q pend mg pt br lA lc g0 g1 gp gg gt  w1 ho1 (hiM) hg hcp hgt sgt ; exact h7) rfl ?_)
  rintro ⟨g18, pA18, pc18, gt18⟩ ⟨r18, l18, c18, rt18, st18⟩
  refine ii ?_
  simp only at r18 l18 c18 rt18 st18
  refine rn [2,40,40,3,3,0,8] ?_
  refine dreg [13] mixed rfl ?_
  refine rn [23,0,45,23,1,2,23,2,6,23,3,4,23,4,5,23,6,2,23,7,6,23,8,4,23,9,5] ?_
  refine yB [5, 12] (by kernel_rfl) (by simp) zB ⟨dpick rfl (zK _ rfl (fun w1 hw1 ho1 => by exact yJ cb (blk + 1) c.elen.toNat w1 ho1 (by omega) hel) rfl ?_), dpick rfl (zI rfl fun b8 => ?_), trivial⟩
  ·refine yB [10, 12] (by kernel_rfl) (by simp) zB ⟨dpick rfl (zK _ rfl (fun w1 hw1 ho1 => by exact zZ cb (blk + 1) c.elen.toNat w1 ho1 (by omega) hel) rfl ?_), dpick rfl (zI rfl fun b8 => ?_), trivial⟩
   ·refine yB [11, 12] (by kernel_rfl) (by simp) zB ⟨dpick rfl (zG rfl (fun w1 hw1 => by exact yX y ((-1)) ((-1)) ((((blk + 1) : Nat) : Int)) (((((blk + 1) / c.elen.toNat) : Nat) : Int)) w1) rfl ?_), dpick rfl (zI rfl fun b8 => ?_), trivial⟩
    ·refine dop 12 rfl (zI rfl fun b8 => ?_)
     refine dop 13 rfl (zL rfl rfl rfl rfl rfl ?_)
     refine rn [28,7,1,2,2,2,4] ?_
     refine g_op (zP rfl rfl rfl rfl rfl rfl rfl ?_)
     refine rn [4] ?_
     refine g_op (zP rfl rfl rfl rfl rfl rfl rfl ?_)
     refine rn [4] ?_
     refine g_op (zP rfl rfl rfl rfl rfl rfl rfl ?_)
     refine rn [0,1,45,33,0,11] ?_
     exact fin1 rfl (.cellw rfl rfl) (fun w' hw' => ⟨(⟨⟨g18, br, lA, lc, g0, g1, gp, gg, gt18⟩, none, 0, pA18, pc18⟩ : TX), (by (try dsimp only); (rw [hT]; exact ⟨r18, l18, by show (RG.cp g18 : Int) = c.capa; omega, hbr, h0, h1_, s0, s1, hgp, sgp, hgg, sgg, rt18, st18⟩)), by rw [hT, h7]; rfl, by have h9 := wok_pick [2,1,5,6,7,8,9,10,11,12,13,14,15,16,17,18,19,20,21,22,23,24,25,26,27] rfl (by decide) rfl w' hw'; rw [hT]; exact h9⟩) _ (.inl rfl)
    ·refine dop 11 rfl (zG rfl (fun w1 hw1 => by exact yX y ((-1)) ((-1)) ((((blk + 1) : Nat) : Int)) (((((blk + 1) / c.elen.toNat) : Nat) : Int)) w1) rfl ?_)
     refine dop 13 rfl (zL rfl rfl rfl rfl rfl ?_)
     refine rn [28,7,1,2,2,2,4] ?_
     refine g_op (zP rfl rfl rfl rfl rfl rfl rfl ?_)
     refine rn [4] ?_
     refine g_op (zP rfl rfl rfl rfl rfl rfl rfl ?_)
     refine rn [4] ?_
     refine g_op (zP rfl rfl rfl rfl rfl rfl rfl ?_)
     refine rn [0,1,45,33,0,11] ?_
     exact fin1 rfl (.cellw rfl rfl) (fun w' hw' => ⟨(⟨⟨g18, br, lA, lc, g0, g1, gp, gg, gt18⟩, none, 0, pA18, pc18⟩ : TX), (by (try dsimp only); (rw [hT]; exact ⟨r18, l18, by show (RG.cp g18 : Int) = c.capa; omega, hbr, h0, h1_, s0, s1, hgp, sgp, hgg, sgg, rt18, st18⟩)), by rw [hT, h7]; rfl, by have h9 := wok_pick [2,1,5,6,7,8,9,10,11,12,13,14,15,16,17,18,19,20,21,22,23,24,25,26,27] rfl (by decide) rfl w' hw'; rw [hT]; exact h9⟩) _ (.inl rfl)
   ·refine dop 10 rfl (zK _ rfl (fun w1 hw1 ho1 => by exact zZ cb (blk + 1) c.elen.toNat w1 ho1 (by omega) hel) rfl ?_)
    refine dop 11 rfl (zG rfl (fun w1 hw1 => by exact yX y ((-1)) ((-1)) ((((blk + 1) : Nat) : Int)) (((((blk + 1) / c.elen.toNat) : Nat) : Int)) w1) rfl ?_)
    refine dop 13 rfl (zL rfl rfl rfl rfl rfl ?_)
    refine rn [28,7,1,2,2,2,4] ?_
    refine g_op (zP rfl rfl rfl rfl rfl rfl rfl ?_)
    refine rn [4] ?_
    refine g_op (zP rfl rfl rfl rfl rfl rfl rfl ?_)
    refine rn [4] ?_
    refine g_op (zP rfl rfl rfl rfl rfl rfl rfl ?_)
    refine rn [0,1,45,33,0,11] ?_
    exact fin1 rfl (.cellw rfl rfl) (fun w' hw' => ⟨(⟨⟨g18, br, lA, lc, g0, g1, gp, gg, gt18⟩, none, 0, pA18, pc18⟩ : TX), (by (try dsimp only); (rw [hT]; exact ⟨r18, l18, by show (RG.cp g18 : Int) = c.capa; omega, hbr, h0, h1_, s0, s1, hgp, sgp, hgg, sgg, rt18, st18⟩)), by rw [hT, h7]; rfl, by have h9 := wok_pick [2,1,5,6,7,8,9,10,11,12,13,14,15,16,17,18,19,20,21,22,23,24,25,26,27] rfl (by decide) rfl w' hw'; rw [hT]; exact h9⟩) _ (.inl rfl)
  ·refine dop 5 rfl (zK _ rfl (fun w1 hw1 ho1 => by exact yJ cb (blk + 1) c.elen.toNat w1 ho1 (by omega) hel) rfl ?_)
   refine dop 10 rfl (zK _ rfl (fun w1 hw1 ho1 => by exact zZ cb (blk + 1) c.elen.toNat w1 ho1 (by omega) hel) rfl ?_)
   refine dop 11 rfl (zG rfl (fun w1 hw1 => by exact yX y ((-1)) ((-1)) ((((blk + 1) : Nat) : Int)) (((((blk + 1) / c.elen.toNat) : Nat) : Int)) w1) rfl ?_)
   refine dop 13 rfl (zL rfl rfl rfl rfl rfl ?_)
   refine rn [28,7,1,2,2,2,4] ?_
   refine g_op (zP rfl rfl rfl rfl rfl rfl rfl ?_)
   refine rn [4] ?_
   refine g_op (zP rfl rfl rfl rfl rfl rfl rfl ?_)
   refine rn [4] ?_
   refine g_op (zP rfl rfl rfl rfl rfl rfl rfl ?_)
   refine rn [0,1,45,33,0,11] ?_
   exact fin1 rfl (.cellw rfl rfl) (fun w' hw' => ⟨(⟨⟨g18, br, lA, lc, g0, g1, gp, gg, gt18⟩, none, 0, pA18, pc18⟩ : TX), (by (try dsimp only); (rw [hT]; exact ⟨r18, l18, by show (RG.cp g18 : Int) = c.capa; omega, hbr, h0, h1_, s0, s1, hgp, sgp, hgg, sgg, rt18, st18⟩)), by rw [hT, h7]; rfl, by have h9 := wok_pick [2,1,5,6,7,8,9,10,11,12,13,14,15,16,17,18,19,20,21,22,23,24,25,26,27] rfl (by decide) rfl w' hw'; rw [hT]; exact h9⟩) _ (.inl rfl)
end Go.Proofs.YtdddiilocbbkkaaGreat
namespace Go.Eg
open Go.RowKit
set_option linter.unusedVariables false
set_option linter.unusedSimpArgs false
section
variable {P : Program} {κ : Cx} {e : Env} {L : List Res} {X : Act → World → Prop} {Q : Exit → Act → World → Prop} {d : Tmp} {ty : TypeId} {s : String} {af : Array Edge} {gd : Option (Nat × Bool)}
theorem keyI {K : Nat} {kd : IntKind} {z : Int} (hK : P.underlying K = some (.int kd)) (hz : (Lit.int kd z).wf = true) : Key P K (.int kd z) := ⟨_, Maps.keyOf_int_mk hK hz⟩
theorem q_look1_t {T K E b : Nat} {m k : Operand} {kv v : Value} {D : List (Value × Value)} [ht : MpT P T K E] (hm : ev e m = some (.map (some b))) (hk : ev e k = some kv) [hi : InMp L b D] (hkl : Key P K kv) (hD : ∀ p ∈ D, Key P K p.1) (hv : (kv, v) ∈ D) (hu : ∀ p ∈ D, p.1 = kv → p.2 = v) :
  QRun P κ e L ⟨some d, .lookup T m k false, ty, s, af, gd⟩ v := fun a w he hw => by
 obtain ⟨i, hi'⟩ := hi.at_
 obtain ⟨es, clock, hb, hp⟩ := hw.sat i _ hi'
 obtain ⟨j, hf⟩ := find_some (w := w) ht.keyed hkl hp hD hv hu
 obtain ⟨l, hl⟩ := hkl
 have hck := ht.keyed.check w es.isEmpty hl
 simp [execOp, he.ev hm, he.ev hk, Instr.lookup, run_underlying ht.und, MapKept.run_getObj_map hb, hck, hf, Result.andThen]
theorem q_look1_f {T K E b : Nat} {m k : Operand} {kv z : Value} {D : List (Value × Value)} [ht : MpT P T K E] (hm : ev e m = some (.map (some b))) (hk : ev e k = some kv) [hi : InMp L b D] (hkl : Key P K kv) (hD : ∀ p ∈ D, Key P K p.1) (hno : ∀ p ∈ D, p.1 ≠ kv) (hz : ∀ w : World, (zeroValue E).run P w = .ok z w) :
  QRun P κ e L ⟨some d, .lookup T m k false, ty, s, af, gd⟩ z := fun a w he hw => by
 obtain ⟨i, hi'⟩ := hi.at_
 obtain ⟨es, clock, hb, hp⟩ := hw.sat i _ hi'
 have hf := find_none (w := w) ht.keyed hkl hp hD hno
 obtain ⟨l, hl⟩ := hkl
 have hck := ht.keyed.check w es.isEmpty hl
 simp [execOp, he.ev hm, he.ev hk, Instr.lookup, run_underlying ht.und, MapKept.run_getObj_map hb, hck, hf, hz w, Result.andThen]
theorem g_mpEq (b : Nat) {D : List (Value × Value)} (D' : List (Value × Value)) {L' : List Res} [hi : InMp L b D] (h : D = D') [hL : UpMp L b D D' L'] (hg : G κ e L' X) : G κ e L X := by
 subst h
 obtain ⟨i, hi', hs⟩ := hL.at_
 have : L.set i (.mp b D) = L := by
  apply List.ext_getElem?; intro j
  by_cases hij : i = j
  ·subst hij; rw [List.getElem?_set_self (set_lookup hi'), hi']
  ·rw [List.getElem?_set_ne hij]
 rw [this] at hs
 subst hs; exact hg
theorem zv {E : Nat} {v : Value} (h3 : (P.info? E).bind (·.zero) = some v) : ∀ w : World, (zeroValue E).run P w = .ok v w := fun w => by
 obtain ⟨i, hi, hz⟩ := Option.bind_eq_some_iff.1 h3
 simp [zeroValue, typeInfo, hi, hz]
def isFn : Value → Option Bool
 | .nilFunc => some false
 | .func _ _ _ => some true
 | _ => none
theorem run_fn_nil {T : Nat} {v : Value} {b : Bool} (hu : ∃ x y z, P.underlying T = some (.func x y z)) (hv : isFn v = some b) (w : World) : (Op.equal T v .nilFunc).run P w = .ok (!b) w := by
 obtain ⟨x, y, z, hu⟩ := hu
 have key : ∀ d : Nat, (Op.equalIn (d + 1) T v .nilFunc).run P w = .ok (!b) w := fun d => by
  cases v <;> simp [isFn] at hv <;> subst hv <;> simp [Op.equalIn, run_underlying hu]
 exact key 9999
theorem q_nefn {T T' : Nat} {x y : Operand} {v : Value} {b : Bool} (hu : ∃ x y z, P.underlying T = some (.func x y z)) (hx : ev e x = some v) (hy : ev e y = some .nilFunc) (hv : isFn v = some b) : QRun P κ e L ⟨some d, .binOp .neq T x y T', ty, s, af, gd⟩ (.bool b) := fun a w he _ => by
 have e1 : binOp .neq T v .nilFunc = (do pure (.bool (!(← Op.equal T v .nilFunc)))) := by cases v <;> rfl
 have e2 : (eqGuard .neq T x y v .nilFunc).run P w = .ok () w := by cases v <;> simp [isFn] at hv <;> simp [eqGuard, run_program]
 simp [execOp, Sem.run_bind, he.ev hx, he.ev hy, e2, e1, run_fn_nil hu hv]
theorem g_resc (r r' : Res) {L' : List Res} [hs : Swap L [r] [r'] L'] (he : r = r') (h : G κ e L' X) : G κ e L X := fun a w hst => by
 subst he
 obtain ⟨rest, h1, h2⟩ := hs.ex
 exact h a w ⟨hst.defers, hst.size, hst.env, hst.wok.perm (h1.trans h2.symm)⟩
theorem g_nostar (h : G κ e (.star [] :: L) X) : G κ e L X := fun a w hst => h a w ⟨hst.defers, hst.size, hst.env, WOK.closed (Ls := []) (show WOK κ.S κ.w0 ([] ++ L) w from hst.wok)⟩
theorem g_starApp (Ls Rs : List Res) {L' : List Res} [hd : DropM L (.star Ls :: Rs) L'] (h : G κ e (.star (Ls ++ Rs) :: L') X) : G κ e L X := fun a w hst =>
 h a w ⟨hst.defers, hst.size, hst.env, by
  have h1 := (hst.wok.perm hd.p)
  have h2 := (show WOK κ.S κ.w0 (.star Ls :: (Rs ++ L')) w from h1).opened
  rw [← List.append_assoc] at h2
  exact h2.closed⟩
theorem q_eqif {T T' : Nat} {x : Operand} (hu : ∃ z, P.underlying T = some (.interface z)) (hx : ev e x = some .nilIface) : QRun P κ e L ⟨some d, .binOp .eql T x (.const .nilIface) T', ty, s, af, gd⟩ (.bool true) := fun a w he _ => by
 obtain ⟨z, hu⟩ := hu
 have key : ∀ d : Nat, (Op.equalIn (d + 1) T .nilIface .nilIface).run P w = .ok true w := fun d => by simp [Op.equalIn, run_underlying hu]
 have e1 : binOp .eql T .nilIface .nilIface = (do pure (.bool (← Op.equal T .nilIface .nilIface))) := rfl
 have e2 : (eqGuard .eql T x (.const .nilIface) .nilIface .nilIface).run P w = .ok () w := by simp [eqGuard, run_program]
 have e3 : (Op.equal T .nilIface .nilIface).run P w = .ok true w := key 9999
 have e4 : a.eval (.const .nilIface) = .nilIface := rfl
 simp [execOp, Sem.run_bind, he.ev hx, e4, e2, e1, e3]
end
end Go.Eg
namespace Go.Proofs.YtdddiilocbbkkaaGreat
open Go.RowKit Go.Eg
set_option maxHeartbeats 4000000
set_option synthInstance.maxSize 3000
set_option maxRecDepth 100000
theorem depE_fr (s : Eg) (o : Op) : (depE s o).1 = { s with l := (depE s o).1.l, dep := (depE s o).1.dep, pend := (depE s o).1.pend } := by
 unfold depE; repeat' split
 all_goals rfl
theorem leaveE_fr (s : Eg) (cl i : Int) : (leaveE s cl i).1 = { s with l := (leaveE s cl i).1.l, q := (leaveE s cl i).1.q } := by
 unfold leaveE; repeat' split
 all_goals rfl
theorem slashE_fr (s : Eg) (i : Int) : (slashE s i).1 = { s with l := (slashE s i).1.l, burn := (slashE s i).1.burn, q := (slashE s i).1.q, bo := (slashE s i).1.bo } := by
 unfold slashE; dsimp only; repeat' split
 all_goals rfl
theorem consE_fr (s : Eg) (i t : Int) : (consE s i t).1 = { s with mg := (consE s i t).1.mg } := by
 unfold consE; repeat' split
 all_goals rfl
theorem partE_fr (s : Eg) (i a : Int) : (partE s i a).1 = { s with pt := (partE s i a).1.pt } := by
 unfold partE; repeat' split
 all_goals rfl
theorem midE_fr (s : Eg) : (midE s).1 = { s with blk := s.blk + 1, l := (midE s).1.l, bo := (midE s).1.bo, lv := (midE s).1.lv, m := (midE s).1.m, q := (midE s).1.q, pend := (midE s).1.pend, mg := (midE s).1.mg } := by
 unfold midE; split
 ·rfl
 ·rfl
theorem tickE_fr (s : Eg) : (tickE s).1 = { (tickE s).1 with c := s.c, blk := s.blk + 1, dep := s.dep, burn := s.burn } := by
 have h := midE_fr s
 rw [tickE_eq]
 have e : ∀ t : Eg, (paysE t).1 = { (paysE t).1 with c := t.c, blk := t.blk, dep := t.dep, burn := t.burn } := fun t => rfl
 conv => lhs; rw [e]
 rw [h]
def actD (eb : Nat) : List (Value × Value) := (List.range 6).map fun j : Nat => (Value.int .i64 ((j : Int) + 1), Value.func (.func (58 + j)) #[.pointer (some ⟨eb, 0, none⟩)] #[])
theorem k3 {z : Int} (h : -9223372036854775808 ≤ z ∧ z ≤ 9223372036854775807) : Key Tryz.prog 3 (.int .i64 z) := keyI Tryz.underlying3 (i64wf h)
theorem act_key (eb : Nat) : ∀ p ∈ actD eb, Key Tryz.prog 3 p.1 := fun p hp => by
 obtain ⟨j, hj, rfl⟩ := List.mem_map.1 hp
 have := List.mem_range.1 hj
 exact k3 (by omega)
theorem act_no (eb n : Nat) : ∀ p ∈ (actD eb).take n, p.1 ≠ .int .i64 ((n : Int) + 1) := fun p hp hc => by
 unfold actD at hp
 rw [← List.map_take, List.take_range] at hp
 obtain ⟨j, hj, rfl⟩ := List.mem_map.1 hp
 have := List.mem_range.1 hj
 injection hc with _ hc
 omega
theorem act_no0 (eb : Nat) {z : Int} (h : ¬ (1 ≤ z ∧ z ≤ 6)) : ∀ p ∈ actD eb, p.1 ≠ .int .i64 z := fun p hp hc => by
 obtain ⟨j, hj, rfl⟩ := List.mem_map.1 hp
 have := List.mem_range.1 hj
 injection hc with _ hc
 omega
theorem act_mem (eb : Nat) {j : Nat} (hj : j < 6) : (Value.int .i64 ((j : Int) + 1), Value.func (.func (58 + j)) #[.pointer (some ⟨eb, 0, none⟩)] #[]) ∈ actD eb := List.mem_map.2 ⟨j, List.mem_range.2 hj, rfl⟩
theorem act_uq (eb j : Nat) : ∀ p ∈ actD eb, p.1 = .int .i64 ((j : Int) + 1) → p.2 = .func (.func (58 + j)) #[.pointer (some ⟨eb, 0, none⟩)] #[] := fun p hp hc => by
 obtain ⟨i, hi, rfl⟩ := List.mem_map.1 hp
 injection hc with _ hc
 obtain rfl : i = j := by omega
 rfl
theorem apply_eng (eb rb cb lb bb ub mb xb b0 b1 pb gb tb : Nat) (c : C) (blk : Nat) (g : RG) (dep paid burn : Int) (bo : List En) (lv : List Int) (cur : Nat) (m : M) (q : LL) (pend : List Int) (mg : List PP) (pt : List Rq) (br : BR) (lA : Option Addr) (lc : Nat) (g0 g1 gp gg gt : Rg) (y : Op) (w : World) (hw : W0 [Res.blk eb 112 (ECell rb cb lb bb ub mb xb pb gb tb c lA (lv.length) lc), RgB rb g, RgW g, Res.im (RG.m g), CkB cb (blk) (c.elen.toNat), LgB lb (dep) (paid) (burn) (c.supc), bB_ bb br, bW_ br, bK_ br, Res.row lA (lv).length lc 3 1 ((lv).map (fun v : Int => [Value.int .i64 v])), CuB ub (cur), Res.blk mb 186 (M.c m), bL_ xb b0 b1, rB_i b0 g0, rW_i g0, rB_i b1 g1, rW_i g1, rB_i pb gp, rW_i gp, rB_pp gb gg, rW_pp gg, rB_rq tb gt, rW_rq gt] w) (hi : Inv (Eg.mk c blk (RG.l g) dep paid burn bo lv cur m q pend mg pt)) (hg : g.Rep) (hcp : (g.cp : Int) = c.capa) (hbr : br.Rep bo) (h0 : g0.Rep 1 (q.f.map (fun v : Int => [Value.int .i64 v]))) (h1_ : g1.Rep 1 (q.v.map (fun v : Int => [Value.int .i64 v]))) (s0 : Rg.size g0 = c.qsize.toNat) (s1 : Rg.size g1 = c.qsize.toNat) (hgp : gp.Rep 1 (pend.map (fun v : Int => [Value.int .i64 v]))) (sgp : Rg.size gp = c.qsize.toNat) (hgg : gg.Rep 2 (mg.map PP.c)) (sgg : Rg.size gg = c.qsize.toNat) (hgt : gt.Rep 2 (pt.map Rq.c)) (sgt : Rg.size gt = c.qsize.toNat) (hy : y.ok) (hb9 : blk < 1000000000) : Own2 (ι := TX) Tryz.prog 14 [.pointer (some ⟨eb, 0, none⟩), .agg y.c.toArray] w [Res.blk eb 112 (ECell rb cb lb bb ub mb xb pb gb tb c lA (lv.length) lc), RgB rb g, RgW g, Res.im (RG.m g), CkB cb (blk) (c.elen.toNat), LgB lb (dep) (paid) (burn) (c.supc), bB_ bb br, bW_ br, bK_ br, Res.row lA (lv).length lc 3 1 ((lv).map (fun v : Int => [Value.int .i64 v])), CuB ub (cur), Res.blk mb 186 (M.c m), bL_ xb b0 b1, rB_i b0 g0, rW_i g0, rB_i b1 g1, rW_i g1, rB_i pb gp, rW_i gp, rB_pp gb gg, rW_pp gg, rB_rq tb gt, rW_rq gt] (fun x => x.a.Rep (applyE (Eg.mk c blk (RG.l g) dep paid burn bo lv cur m q pend mg pt) y).1) (fun x => rcV (applyE (Eg.mk c blk (RG.l g) dep paid burn bo lv cur m q pend mg pt) y).2 x.O x.oc x.pA x.pc) (fun x => [Res.row x.O (applyE (Eg.mk c blk (RG.l g) dep paid burn bo lv cur m q pend mg pt) y).2.ag.length x.oc 55 3 ((applyE (Eg.mk c blk (RG.l g) dep paid burn bo lv cur m q pend mg pt) y).2.ag.map As.cs), Res.row x.pA (applyE (Eg.mk c blk (RG.l g) dep paid burn bo lv cur m q pend mg pt) y).2.ps.length x.pc 50 3 ((applyE (Eg.mk c blk (RG.l g) dep paid burn bo lv cur m q pend mg pt) y).2.ps.map Y.c)]) (fun x => [Res.blk eb 112 (ECell rb cb lb bb ub mb xb pb gb tb c x.a.lA ((applyE (Eg.mk c blk (RG.l g) dep paid burn bo lv cur m q pend mg pt) y).1.lv.length) x.a.lc), RgB rb x.a.g, RgW x.a.g, Res.im (RG.m x.a.g), CkB cb ((applyE (Eg.mk c blk (RG.l g) dep paid burn bo lv cur m q pend mg pt) y).1.blk) (c.elen.toNat), LgB lb ((applyE (Eg.mk c blk (RG.l g) dep paid burn bo lv cur m q pend mg pt) y).1.dep) ((applyE (Eg.mk c blk (RG.l g) dep paid burn bo lv cur m q pend mg pt) y).1.paid) ((applyE (Eg.mk c blk (RG.l g) dep paid burn bo lv cur m q pend mg pt) y).1.burn) (c.supc), bB_ bb x.a.br, bW_ x.a.br, bK_ x.a.br, Res.row x.a.lA ((applyE (Eg.mk c blk (RG.l g) dep paid burn bo lv cur m q pend mg pt) y).1.lv).length x.a.lc 3 1 (((applyE (Eg.mk c blk (RG.l g) dep paid burn bo lv cur m q pend mg pt) y).1.lv).map (fun v : Int => [Value.int .i64 v])), CuB ub ((applyE (Eg.mk c blk (RG.l g) dep paid burn bo lv cur m q pend mg pt) y).1.cur), Res.blk mb 186 (M.c (applyE (Eg.mk c blk (RG.l g) dep paid burn bo lv cur m q pend mg pt) y).1.m), bL_ xb b0 b1, rB_i b0 x.a.g0, rW_i x.a.g0, rB_i b1 x.a.g1, rW_i x.a.g1, rB_i pb x.a.gp, rW_i x.a.gp, rB_pp gb x.a.gg, rW_pp x.a.gg, rB_rq tb x.a.gt, rW_rq x.a.gt]) := by
 refine g_st Tryz.func14 75 hw ?_
 have hok : Cok c := hi.cok
 have hmo : Cmo c := xD hi.cc
 have hblk : blk ≤ 1000000000 := hi.blk
 have hk : blk < 4611686018427387904 := by omega
 have hel : 1 ≤ c.elen.toNat ∧ c.elen.toNat ≤ 4611686018427387904 := by have := hok.elen; omega
 have hled : LOk c.supc dep paid burn := hi.led
 have hqf : q.f.length ≤ c.qsize.toNat ∧ q.v.length ≤ c.qsize.toNat := hi.qf
 have hsum : (bals (RG.l g)).sum = dep - paid - burn := hi.sum
 have hvo : ∀ i, hasV (RG.l g) i = true → VO (gotV (RG.l g) i) := hi.vo
 have hqs := hmo.qsize
 refine rn [1] ?_
 refine g_op (g_box rfl rfl rfl fun b3 => ?_)
 refine g_op (zI rfl fun b4 => ?_)
 refine rn [0,8,1,2,50,0,20,12,7,8,1,4,5,44,0] ?_
 refine zC rfl (fun h1 => ?_) (fun h1 => ?_)
 ·have h7 : y.k = 7 := of_decide_eq_true h1
  have hA : (applyE (Eg.mk c blk (RG.l g) dep paid burn bo lv cur m q pend mg pt) y) = (tickE (Eg.mk c blk (RG.l g) dep paid burn bo lv cur m q pend mg pt)) := by unfold applyE; rw [if_pos h7]
  have hF := tickE_fr (Eg.mk c blk (RG.l g) dep paid burn bo lv cur m q pend mg pt)
  refine rn [1,2,45] ?_
  refine g_op (zH _ rfl (fun w1 hw1 ho1 => by have h7 := tick_eng eb rb cb lb bb ub mb xb b0 b1 pb gb tb c blk g dep paid burn bo lv cur m q pend mg pt br lA lc g0 g1 gp gg gt y w1 ho1 hi hg hcp hbr h0 h1_ s0 s1 hgp sgp hgg sgg hgt sgt h7 hb9; exact h7) rfl ?_)
  rintro ⟨⟨g17, br17, lA17, lc17, ga17, gb17, gp17, gg17, gt17⟩, O17, oc17, pA17, pc17⟩ hR17
  refine ii ?_
  simp only at hR17
  refine rn [33,0,11,13] ?_
  exact fin1 rfl (.cellw rfl rfl) (fun w' hw' => ⟨(⟨⟨g17, br17, lA17, lc17, ga17, gb17, gp17, gg17, gt17⟩, O17, oc17, pA17, pc17⟩ : TX), (by (rw [hA]; exact hR17)), by rw [hA]; rfl, by have h9 := zB (L' := [Res.row O17 (tickE (Eg.mk c blk (RG.l g) dep paid burn bo lv cur m q pend mg pt)).2.ag.length oc17 55 3 ((tickE (Eg.mk c blk (RG.l g) dep paid burn bo lv cur m q pend mg pt)).2.ag.map As.cs), Res.row pA17 (tickE (Eg.mk c blk (RG.l g) dep paid burn bo lv cur m q pend mg pt)).2.ps.length pc17 50 3 ((tickE (Eg.mk c blk (RG.l g) dep paid burn bo lv cur m q pend mg pt)).2.ps.map Y.c), Res.blk eb 112 (ECell rb cb lb bb ub mb xb pb gb tb c lA17 ((tickE (Eg.mk c blk (RG.l g) dep paid burn bo lv cur m q pend mg pt)).1.lv.length) lc17), RgB rb g17, RgW g17, Res.im (RG.m g17), CkB cb ((blk + 1)) (c.elen.toNat), LgB lb (dep) ((tickE (Eg.mk c blk (RG.l g) dep paid burn bo lv cur m q pend mg pt)).1.paid) (burn) (c.supc), bB_ bb br17, bW_ br17, bK_ br17, Res.row lA17 ((tickE (Eg.mk c blk (RG.l g) dep paid burn bo lv cur m q pend mg pt)).1.lv).length lc17 3 1 (((tickE (Eg.mk c blk (RG.l g) dep paid burn bo lv cur m q pend mg pt)).1.lv).map (fun v : Int => [Value.int .i64 v])), CuB ub ((tickE (Eg.mk c blk (RG.l g) dep paid burn bo lv cur m q pend mg pt)).1.cur), Res.blk mb 186 (M.c (tickE (Eg.mk c blk (RG.l g) dep paid burn bo lv cur m q pend mg pt)).1.m), bL_ xb b0 b1, rB_i b0 ga17, rW_i ga17, rB_i b1 gb17, rW_i gb17, rB_i pb gp17, rW_i gp17, rB_pp gb gg17, rW_pp gg17, rB_rq tb gt17, rW_rq gt17]) w' hw'; rw [hA, hF]; rw [hF] at h9; exact h9⟩) _ (.inl rfl)
 ·have n7 : ¬ y.k = 7 := of_decide_eq_false h1
  refine rn [12,7,1] ?_
  refine g_op (g_makeMap rfl fun b18 => ?_)
  refine g_mpEq b18 ((actD eb).take 0) rfl ?_
  refine rn [2,52] ?_
  refine g_op (xC (b := b18) (D := (actD eb).take 0) rfl rfl rfl (k3 (by decide)) (fun p hp => act_key eb p (List.mem_of_mem_take hp)) (act_no eb 0) ?_)
  refine g_mpEq b18 ((actD eb).take 1) rfl ?_
  refine rn [2,52] ?_
  refine g_op (xC (b := b18) (D := (actD eb).take 1) rfl rfl rfl (k3 (by decide)) (fun p hp => act_key eb p (List.mem_of_mem_take hp)) (act_no eb 1) ?_)
  refine g_mpEq b18 ((actD eb).take 2) rfl ?_
  refine rn [2,52] ?_
  refine g_op (xC (b := b18) (D := (actD eb).take 2) rfl rfl rfl (k3 (by decide)) (fun p hp => act_key eb p (List.mem_of_mem_take hp)) (act_no eb 2) ?_)
  refine g_mpEq b18 ((actD eb).take 3) rfl ?_
  refine rn [2,52] ?_
  refine g_op (xC (b := b18) (D := (actD eb).take 3) rfl rfl rfl (k3 (by decide)) (fun p hp => act_key eb p (List.mem_of_mem_take hp)) (act_no eb 3) ?_)
  refine g_mpEq b18 ((actD eb).take 4) rfl ?_
  refine rn [2,52] ?_
  refine g_op (xC (b := b18) (D := (actD eb).take 4) rfl rfl rfl (k3 (by decide)) (fun p hp => act_key eb p (List.mem_of_mem_take hp)) (act_no eb 4) ?_)
  refine g_mpEq b18 ((actD eb).take 5) rfl ?_
  refine rn [2,52] ?_
  refine g_op (xC (b := b18) (D := (actD eb).take 5) rfl rfl rfl (k3 (by decide)) (fun p hp => act_key eb p (List.mem_of_mem_take hp)) (act_no eb 5) ?_)
  refine g_mpEq b18 ((actD eb).take 6) rfl ?_
  refine rn [2,3,0,1] ?_
  refine g_op (zG rfl (fun w1 hw1 => by exact yI (11) w1) rfl ?_)
  refine g_op (zI rfl fun b6 => ?_)
  refine rn [33,0,8,8] ?_
  rcases (show y.k = 1 ∨ y.k = 2 ∨ y.k = 3 ∨ y.k = 4 ∨ y.k = 5 ∨ y.k = 6 ∨ ¬ (1 ≤ y.k ∧ y.k ≤ 6) by omega) with hk1 | hk2 | hk3 | hk4 | hk5 | hk6 | hk0
  ·have hA : (applyE (Eg.mk c blk (RG.l g) dep paid burn bo lv cur m q pend mg pt) y) = ((depE (Eg.mk c blk (RG.l g) dep paid burn bo lv cur m q pend mg pt) y).1, rcp (Eg.mk c blk (RG.l g) dep paid burn bo lv cur m q pend mg pt) y (depE (Eg.mk c blk (RG.l g) dep paid burn bo lv cur m q pend mg pt) y).2) := by unfold applyE actE; rw [if_neg n7, if_pos hk1]
   have hF := depE_fr (Eg.mk c blk (RG.l g) dep paid burn bo lv cur m q pend mg pt) y
   refine rn [10,2,4,5] ?_
   refine s_q (q_look1_t (b := b18) (D := (actD eb).take 6) (v := .func (.func 58) #[.pointer (some ⟨eb, 0, none⟩)] #[]) rfl (by rw [hk1]; rfl) (k3 (by decide)) (fun p hp => act_key eb p (List.mem_of_mem_take hp)) (act_mem eb (j := 0) (by decide)) (act_uq eb 0)) rfl ?_
   refine rn [3,0,1,2] ?_
   refine s_q (q_nefn ⟨_, _, _, rfl⟩ rfl rfl rfl) rfl ?_
   refine rn [0,19,10,2,45] ?_
   refine g_op (g_ownV [Res.blk eb 112 (ECell rb cb lb bb ub mb xb pb gb tb c lA (lv.length) lc), RgB rb g, RgW g, Res.im (RG.m g), LgB lb (dep) (paid) (burn) (c.supc), rB_i pb gp, rW_i gp] rfl rfl (fun w1 hw1 ho1 => by have h7 := deposit_any eb rb cb lb bb ub mb xb b0 b1 pb gb tb c blk g dep paid burn bo lv cur m q pend mg pt br lA lc g0 g1 gp gg gt y w1 ho1 hi hg hcp hgp sgp ⟨hy.a⟩; exact h7) rfl ?_)
   rintro ⟨g41, gp41⟩ ⟨r41, l41, c41, rp41, sp41⟩
   refine ii ?_
   simp only at r41 l41 c41 rp41 sp41
   refine rn [33,0,8,1,4,5,51,0] ?_
   refine zC rfl (fun h2 => ?_) (fun h2 => ?_)
   ·have hcd : ¬ _ = (0 : Int) := of_decide_eq_false (by simpa using h2)
    refine zW none 55 3 (([] : List As).map As.cs) (by rfl) ?_
    refine zW none 50 3 (([] : List Y).map Y.c) (by rfl) ?_
    refine rn [8] ?_
    refine dreg [14] mixed rfl ?_
    refine rn [23,0,45,23,1,4,23,2,5,23,3,2,23,4,6,23,5,4,23,6,5,23,8,2,23,9,6,23,10,4,23,11,5] ?_
    refine dop 7 rfl (zK _ rfl (fun w1 hw1 ho1 => by exact yJ cb blk c.elen.toNat w1 ho1 hk hel) rfl ?_)
    refine dop 12 rfl (zK _ rfl (fun w1 hw1 ho1 => by exact zZ cb blk c.elen.toNat w1 ho1 hk hel) rfl ?_)
    refine dop 13 rfl (zG rfl (fun w1 hw1 => by exact reject_any y ((depE (Eg.mk c blk (RG.l g) dep paid burn bo lv cur m q pend mg pt) y).2.code) (((blk : Nat) : Int)) ((((blk / c.elen.toNat) : Nat) : Int)) w1) rfl ?_)
    refine dop 14 rfl (zL rfl rfl rfl rfl rfl ?_)
    refine rn [28,7,11,13] ?_
    exact fin1 rfl (.cellw rfl rfl) (fun w' hw' => ⟨(⟨⟨g41, br, lA, lc, g0, g1, gp41, gg, gt⟩, none, 0, none, 0⟩ : TX), (by (try dsimp only); (rw [hA]; exact ⟨r41, l41, by rw [hF]; show (RG.cp g41 : Int) = c.capa; rw [c41]; exact hcp, by rw [hF]; exact hbr, by rw [hF]; exact h0, by rw [hF]; exact h1_, by rw [hF]; exact s0, by rw [hF]; exact s1, rp41, by rw [hF]; exact sp41, by rw [hF]; exact hgg, by rw [hF]; exact sgg, by rw [hF]; exact hgt, by rw [hF]; exact sgt⟩)), by rw [hA]; unfold rcp; rw [if_pos hcd]; rfl, by have h9 := zB (L' := [Res.row none ([] : List As).length 0 55 3 (([] : List As).map As.cs), Res.row none ([] : List Y).length 0 50 3 (([] : List Y).map Y.c), Res.blk eb 112 (ECell rb cb lb bb ub mb xb pb gb tb c lA (lv.length) lc), RgB rb g41, RgW g41, Res.im (RG.m g41), CkB cb (blk) (c.elen.toNat), LgB lb ((depE (Eg.mk c blk (RG.l g) dep paid burn bo lv cur m q pend mg pt) y).1.dep) (paid) (burn) (c.supc), bB_ bb br, bW_ br, bK_ br, Res.row lA (lv).length lc 3 1 ((lv).map (fun v : Int => [Value.int .i64 v])), CuB ub (cur), Res.blk mb 186 (M.c m), bL_ xb b0 b1, rB_i b0 g0, rW_i g0, rB_i b1 g1, rW_i g1, rB_i pb gp41, rW_i gp41, rB_pp gb gg, rW_pp gg, rB_rq tb gt, rW_rq gt]) w' hw'; rw [hA]; unfold rcp; rw [if_pos hcd]; dsimp only; rw [hF]; exact h9⟩) _ (.inl rfl)
   ·have hcd : ¬ ¬ _ = (0 : Int) := fun hc => hc (of_decide_eq_true (by simpa using h2))
    refine zW none 55 3 (([] : List As).map As.cs) (by rfl) ?_
    refine zW none 50 3 (([] : List Y).map Y.c) (by rfl) ?_
    refine rn [12,7,8] ?_
    refine dreg [16] mixed rfl ?_
    refine rn [23,0,45,23,1,4,23,2,5,23,3,4,23,4,5,23,5,2,23,6,6,23,7,4,23,8,5,23,10,2,23,11,6,23,12,4,23,13,5] ?_
    refine dop 9 rfl (zK _ rfl (fun w1 hw1 ho1 => by exact yJ cb blk c.elen.toNat w1 ho1 hk hel) rfl ?_)
    refine dop 14 rfl (zK _ rfl (fun w1 hw1 ho1 => by exact zZ cb blk c.elen.toNat w1 ho1 hk hel) rfl ?_)
    refine dop 15 rfl (zG rfl (fun w1 hw1 => by exact yX y ((depE (Eg.mk c blk (RG.l g) dep paid burn bo lv cur m q pend mg pt) y).2.i) ((depE (Eg.mk c blk (RG.l g) dep paid burn bo lv cur m q pend mg pt) y).2.dl) (((blk : Nat) : Int)) ((((blk / c.elen.toNat) : Nat) : Int)) w1) rfl ?_)
    refine dop 16 rfl (zL rfl rfl rfl rfl rfl ?_)
    refine rn [28,7,11] ?_
    exact fin1 rfl (.cellw rfl rfl) (fun w' hw' => ⟨(⟨⟨g41, br, lA, lc, g0, g1, gp41, gg, gt⟩, none, 0, none, 0⟩ : TX), (by (try dsimp only); (rw [hA]; exact ⟨r41, l41, by rw [hF]; show (RG.cp g41 : Int) = c.capa; rw [c41]; exact hcp, by rw [hF]; exact hbr, by rw [hF]; exact h0, by rw [hF]; exact h1_, by rw [hF]; exact s0, by rw [hF]; exact s1, rp41, by rw [hF]; exact sp41, by rw [hF]; exact hgg, by rw [hF]; exact sgg, by rw [hF]; exact hgt, by rw [hF]; exact sgt⟩)), by rw [hA]; unfold rcp; rw [if_neg hcd]; rfl, by have h9 := zB (L' := [Res.row none ([] : List As).length 0 55 3 (([] : List As).map As.cs), Res.row none ([] : List Y).length 0 50 3 (([] : List Y).map Y.c), Res.blk eb 112 (ECell rb cb lb bb ub mb xb pb gb tb c lA (lv.length) lc), RgB rb g41, RgW g41, Res.im (RG.m g41), CkB cb (blk) (c.elen.toNat), LgB lb ((depE (Eg.mk c blk (RG.l g) dep paid burn bo lv cur m q pend mg pt) y).1.dep) (paid) (burn) (c.supc), bB_ bb br, bW_ br, bK_ br, Res.row lA (lv).length lc 3 1 ((lv).map (fun v : Int => [Value.int .i64 v])), CuB ub (cur), Res.blk mb 186 (M.c m), bL_ xb b0 b1, rB_i b0 g0, rW_i g0, rB_i b1 g1, rW_i g1, rB_i pb gp41, rW_i gp41, rB_pp gb gg, rW_pp gg, rB_rq tb gt, rW_rq gt]) w' hw'; rw [hA]; unfold rcp; rw [if_neg hcd]; dsimp only; rw [hF]; exact h9⟩) _ (.inl rfl)
  ·have hA : (applyE (Eg.mk c blk (RG.l g) dep paid burn bo lv cur m q pend mg pt) y) = ((leaveE (Eg.mk c blk (RG.l g) dep paid burn bo lv cur m q pend mg pt) 1 y.i).1, rcp (Eg.mk c blk (RG.l g) dep paid burn bo lv cur m q pend mg pt) y (leaveE (Eg.mk c blk (RG.l g) dep paid burn bo lv cur m q pend mg pt) 1 y.i).2) := by unfold applyE actE; rw [if_neg n7, if_neg (show ¬ y.k = 1 by omega), if_pos hk2]
   have hF := leaveE_fr (Eg.mk c blk (RG.l g) dep paid burn bo lv cur m q pend mg pt) 1 y.i
   refine rn [10,2,4,5] ?_
   refine s_q (q_look1_t (b := b18) (D := (actD eb).take 6) (v := .func (.func 59) #[.pointer (some ⟨eb, 0, none⟩)] #[]) rfl (by rw [hk2]; rfl) (k3 (by decide)) (fun p hp => act_key eb p (List.mem_of_mem_take hp)) (act_mem eb (j := 1) (by decide)) (act_uq eb 1)) rfl ?_
   refine rn [3,0,1,2] ?_
   refine s_q (q_nefn ⟨_, _, _, rfl⟩ rfl rfl rfl) rfl ?_
   refine rn [0,19,10,2,45] ?_
   refine g_op (g_ownV [Res.blk eb 112 (ECell rb cb lb bb ub mb xb pb gb tb c lA (lv.length) lc), RgB rb g, RgW g, Res.im (RG.m g), CkB cb (blk) (c.elen.toNat), bL_ xb b0 b1, rB_i b0 g0, rW_i g0, rB_i b1 g1, rW_i g1] rfl rfl (fun w1 hw1 ho1 => by have h7 := exit_eng eb rb cb lb bb ub mb xb b0 b1 pb gb tb c blk g dep paid burn bo lv cur m q pend mg pt br lA lc g0 g1 gp gg gt y w1 ho1 hi hg hcp h0 h1_ s0 s1; exact h7) rfl ?_)
   rintro ⟨g41, ga41, gb41⟩ ⟨r41, l41, c41, ra41, rb41, sa41, sb41⟩
   refine ii ?_
   simp only at r41 l41 c41 ra41 rb41 sa41 sb41
   refine rn [33,0,8,1,4,5,51,0] ?_
   refine zC rfl (fun h3 => ?_) (fun h3 => ?_)
   ·have hcd : ¬ _ = (0 : Int) := of_decide_eq_false (by simpa using h3)
    refine zW none 55 3 (([] : List As).map As.cs) (by rfl) ?_
    refine zW none 50 3 (([] : List Y).map Y.c) (by rfl) ?_
    refine rn [8] ?_
    refine dreg [14] mixed rfl ?_
    refine rn [23,0,45,23,1,4,23,2,5,23,3,2,23,4,6,23,5,4,23,6,5,23,8,2,23,9,6,23,10,4,23,11,5] ?_
    refine dop 7 rfl (zK _ rfl (fun w1 hw1 ho1 => by exact yJ cb blk c.elen.toNat w1 ho1 hk hel) rfl ?_)
    refine dop 12 rfl (zK _ rfl (fun w1 hw1 ho1 => by exact zZ cb blk c.elen.toNat w1 ho1 hk hel) rfl ?_)
    refine dop 13 rfl (zG rfl (fun w1 hw1 => by exact reject_any y ((leaveE (Eg.mk c blk (RG.l g) dep paid burn bo lv cur m q pend mg pt) 1 y.i).2.code) (((blk : Nat) : Int)) ((((blk / c.elen.toNat) : Nat) : Int)) w1) rfl ?_)
    refine dop 14 rfl (zL rfl rfl rfl rfl rfl ?_)
    refine rn [28,7,11,13] ?_
    exact fin1 rfl (.cellw rfl rfl) (fun w' hw' => ⟨(⟨⟨g41, br, lA, lc, ga41, gb41, gp, gg, gt⟩, none, 0, none, 0⟩ : TX), (by (try dsimp only); (rw [hA]; exact ⟨r41, l41, by rw [hF]; show (RG.cp g41 : Int) = c.capa; rw [c41]; exact hcp, by rw [hF]; exact hbr, ra41, rb41, by rw [hF]; exact sa41, by rw [hF]; exact sb41, by rw [hF]; exact hgp, by rw [hF]; exact sgp, by rw [hF]; exact hgg, by rw [hF]; exact sgg, by rw [hF]; exact hgt, by rw [hF]; exact sgt⟩)), by rw [hA]; unfold rcp; rw [if_pos hcd]; rfl, by have h9 := zB (L' := [Res.row none ([] : List As).length 0 55 3 (([] : List As).map As.cs), Res.row none ([] : List Y).length 0 50 3 (([] : List Y).map Y.c), Res.blk eb 112 (ECell rb cb lb bb ub mb xb pb gb tb c lA (lv.length) lc), RgB rb g41, RgW g41, Res.im (RG.m g41), CkB cb (blk) (c.elen.toNat), LgB lb (dep) (paid) (burn) (c.supc), bB_ bb br, bW_ br, bK_ br, Res.row lA (lv).length lc 3 1 ((lv).map (fun v : Int => [Value.int .i64 v])), CuB ub (cur), Res.blk mb 186 (M.c m), bL_ xb b0 b1, rB_i b0 ga41, rW_i ga41, rB_i b1 gb41, rW_i gb41, rB_i pb gp, rW_i gp, rB_pp gb gg, rW_pp gg, rB_rq tb gt, rW_rq gt]) w' hw'; rw [hA]; unfold rcp; rw [if_pos hcd]; dsimp only; rw [hF]; exact h9⟩) _ (.inl rfl)
   ·have hcd : ¬ ¬ _ = (0 : Int) := fun hc => hc (of_decide_eq_true (by simpa using h3))
    refine zW none 55 3 (([] : List As).map As.cs) (by rfl) ?_
    refine zW none 50 3 (([] : List Y).map Y.c) (by rfl) ?_
    refine rn [12,7,8] ?_
    refine dreg [16] mixed rfl ?_
    refine rn [23,0,45,23,1,4,23,2,5,23,3,4,23,4,5,23,5,2,23,6,6,23,7,4,23,8,5,23,10,2,23,11,6,23,12,4,23,13,5] ?_
    refine dop 9 rfl (zK _ rfl (fun w1 hw1 ho1 => by exact yJ cb blk c.elen.toNat w1 ho1 hk hel) rfl ?_)
    refine dop 14 rfl (zK _ rfl (fun w1 hw1 ho1 => by exact zZ cb blk c.elen.toNat w1 ho1 hk hel) rfl ?_)
    refine dop 15 rfl (zG rfl (fun w1 hw1 => by exact yX y ((leaveE (Eg.mk c blk (RG.l g) dep paid burn bo lv cur m q pend mg pt) 1 y.i).2.i) ((leaveE (Eg.mk c blk (RG.l g) dep paid burn bo lv cur m q pend mg pt) 1 y.i).2.dl) (((blk : Nat) : Int)) ((((blk / c.elen.toNat) : Nat) : Int)) w1) rfl ?_)
    refine dop 16 rfl (zL rfl rfl rfl rfl rfl ?_)
    refine rn [28,7,11] ?_
    exact fin1 rfl (.cellw rfl rfl) (fun w' hw' => ⟨(⟨⟨g41, br, lA, lc, ga41, gb41, gp, gg, gt⟩, none, 0, none, 0⟩ : TX), (by (try dsimp only); (rw [hA]; exact ⟨r41, l41, by rw [hF]; show (RG.cp g41 : Int) = c.capa; rw [c41]; exact hcp, by rw [hF]; exact hbr, ra41, rb41, by rw [hF]; exact sa41, by rw [hF]; exact sb41, by rw [hF]; exact hgp, by rw [hF]; exact sgp, by rw [hF]; exact hgg, by rw [hF]; exact sgg, by rw [hF]; exact hgt, by rw [hF]; exact sgt⟩)), by rw [hA]; unfold rcp; rw [if_neg hcd]; rfl, by have h9 := zB (L' := [Res.row none ([] : List As).length 0 55 3 (([] : List As).map As.cs), Res.row none ([] : List Y).length 0 50 3 (([] : List Y).map Y.c), Res.blk eb 112 (ECell rb cb lb bb ub mb xb pb gb tb c lA (lv.length) lc), RgB rb g41, RgW g41, Res.im (RG.m g41), CkB cb (blk) (c.elen.toNat), LgB lb (dep) (paid) (burn) (c.supc), bB_ bb br, bW_ br, bK_ br, Res.row lA (lv).length lc 3 1 ((lv).map (fun v : Int => [Value.int .i64 v])), CuB ub (cur), Res.blk mb 186 (M.c m), bL_ xb b0 b1, rB_i b0 ga41, rW_i ga41, rB_i b1 gb41, rW_i gb41, rB_i pb gp, rW_i gp, rB_pp gb gg, rW_pp gg, rB_rq tb gt, rW_rq gt]) w' hw'; rw [hA]; unfold rcp; rw [if_neg hcd]; dsimp only; rw [hF]; exact h9⟩) _ (.inl rfl)
  ·have hA : (applyE (Eg.mk c blk (RG.l g) dep paid burn bo lv cur m q pend mg pt) y) = ((leaveE (Eg.mk c blk (RG.l g) dep paid burn bo lv cur m q pend mg pt) 0 y.i).1, rcp (Eg.mk c blk (RG.l g) dep paid burn bo lv cur m q pend mg pt) y (leaveE (Eg.mk c blk (RG.l g) dep paid burn bo lv cur m q pend mg pt) 0 y.i).2) := by unfold applyE actE; rw [if_neg n7, if_neg (show ¬ y.k = 1 by omega), if_neg (show ¬ y.k = 2 by omega), if_pos hk3]
   have hF := leaveE_fr (Eg.mk c blk (RG.l g) dep paid burn bo lv cur m q pend mg pt) 0 y.i
   refine rn [10,2,4,5] ?_
   refine s_q (q_look1_t (b := b18) (D := (actD eb).take 6) (v := .func (.func 60) #[.pointer (some ⟨eb, 0, none⟩)] #[]) rfl (by rw [hk3]; rfl) (k3 (by decide)) (fun p hp => act_key eb p (List.mem_of_mem_take hp)) (act_mem eb (j := 2) (by decide)) (act_uq eb 2)) rfl ?_
   refine rn [3,0,1,2] ?_
   refine s_q (q_nefn ⟨_, _, _, rfl⟩ rfl rfl rfl) rfl ?_
   refine rn [0,19,10,2,45] ?_
   refine g_op (g_ownV [Res.blk eb 112 (ECell rb cb lb bb ub mb xb pb gb tb c lA (lv.length) lc), RgB rb g, RgW g, Res.im (RG.m g), CkB cb (blk) (c.elen.toNat), bL_ xb b0 b1, rB_i b0 g0, rW_i g0, rB_i b1 g1, rW_i g1] rfl rfl (fun w1 hw1 ho1 => by have h7 := eject_eng eb rb cb lb bb ub mb xb b0 b1 pb gb tb c blk g dep paid burn bo lv cur m q pend mg pt br lA lc g0 g1 gp gg gt y w1 ho1 hi hg hcp h0 h1_ s0 s1; exact h7) rfl ?_)
   rintro ⟨g41, ga41, gb41⟩ ⟨r41, l41, c41, ra41, rb41, sa41, sb41⟩
   refine ii ?_
   simp only at r41 l41 c41 ra41 rb41 sa41 sb41
   refine rn [33,0,8,1,4,5,51,0] ?_
   refine zC rfl (fun h4 => ?_) (fun h4 => ?_)
   ·have hcd : ¬ _ = (0 : Int) := of_decide_eq_false (by simpa using h4)
    refine zW none 55 3 (([] : List As).map As.cs) (by rfl) ?_
    refine zW none 50 3 (([] : List Y).map Y.c) (by rfl) ?_
    refine rn [8] ?_
    refine dreg [14] mixed rfl ?_
    refine rn [23,0,45,23,1,4,23,2,5,23,3,2,23,4,6,23,5,4,23,6,5,23,8,2,23,9,6,23,10,4,23,11,5] ?_
    refine dop 7 rfl (zK _ rfl (fun w1 hw1 ho1 => by exact yJ cb blk c.elen.toNat w1 ho1 hk hel) rfl ?_)
    refine dop 12 rfl (zK _ rfl (fun w1 hw1 ho1 => by exact zZ cb blk c.elen.toNat w1 ho1 hk hel) rfl ?_)
    refine dop 13 rfl (zG rfl (fun w1 hw1 => by exact reject_any y ((leaveE (Eg.mk c blk (RG.l g) dep paid burn bo lv cur m q pend mg pt) 0 y.i).2.code) (((blk : Nat) : Int)) ((((blk / c.elen.toNat) : Nat) : Int)) w1) rfl ?_)
    refine dop 14 rfl (zL rfl rfl rfl rfl rfl ?_)
    refine rn [28,7,11,13] ?_
    exact fin1 rfl (.cellw rfl rfl) (fun w' hw' => ⟨(⟨⟨g41, br, lA, lc, ga41, gb41, gp, gg, gt⟩, none, 0, none, 0⟩ : TX), (by (try dsimp only); (rw [hA]; exact ⟨r41, l41, by rw [hF]; show (RG.cp g41 : Int) = c.capa; rw [c41]; exact hcp, by rw [hF]; exact hbr, ra41, rb41, by rw [hF]; exact sa41, by rw [hF]; exact sb41, by rw [hF]; exact hgp, by rw [hF]; exact sgp, by rw [hF]; exact hgg, by rw [hF]; exact sgg, by rw [hF]; exact hgt, by rw [hF]; exact sgt⟩)), by rw [hA]; unfold rcp; rw [if_pos hcd]; rfl, by have h9 := zB (L' := [Res.row none ([] : List As).length 0 55 3 (([] : List As).map As.cs), Res.row none ([] : List Y).length 0 50 3 (([] : List Y).map Y.c), Res.blk eb 112 (ECell rb cb lb bb ub mb xb pb gb tb c lA (lv.length) lc), RgB rb g41, RgW g41, Res.im (RG.m g41), CkB cb (blk) (c.elen.toNat), LgB lb (dep) (paid) (burn) (c.supc), bB_ bb br, bW_ br, bK_ br, Res.row lA (lv).length lc 3 1 ((lv).map (fun v : Int => [Value.int .i64 v])), CuB ub (cur), Res.blk mb 186 (M.c m), bL_ xb b0 b1, rB_i b0 ga41, rW_i ga41, rB_i b1 gb41, rW_i gb41, rB_i pb gp, rW_i gp, rB_pp gb gg, rW_pp gg, rB_rq tb gt, rW_rq gt]) w' hw'; rw [hA]; unfold rcp; rw [if_pos hcd]; dsimp only; rw [hF]; exact h9⟩) _ (.inl rfl)
   ·have hcd : ¬ ¬ _ = (0 : Int) := fun hc => hc (of_decide_eq_true (by simpa using h4))
    refine zW none 55 3 (([] : List As).map As.cs) (by rfl) ?_
    refine zW none 50 3 (([] : List Y).map Y.c) (by rfl) ?_
    refine rn [12,7,8] ?_
    refine dreg [16] mixed rfl ?_
    refine rn [23,0,45,23,1,4,23,2,5,23,3,4,23,4,5,23,5,2,23,6,6,23,7,4,23,8,5,23,10,2,23,11,6,23,12,4,23,13,5] ?_
    refine dop 9 rfl (zK _ rfl (fun w1 hw1 ho1 => by exact yJ cb blk c.elen.toNat w1 ho1 hk hel) rfl ?_)
    refine dop 14 rfl (zK _ rfl (fun w1 hw1 ho1 => by exact zZ cb blk c.elen.toNat w1 ho1 hk hel) rfl ?_)
    refine dop 15 rfl (zG rfl (fun w1 hw1 => by exact yX y ((leaveE (Eg.mk c blk (RG.l g) dep paid burn bo lv cur m q pend mg pt) 0 y.i).2.i) ((leaveE (Eg.mk c blk (RG.l g) dep paid burn bo lv cur m q pend mg pt) 0 y.i).2.dl) (((blk : Nat) : Int)) ((((blk / c.elen.toNat) : Nat) : Int)) w1) rfl ?_)
    refine dop 16 rfl (zL rfl rfl rfl rfl rfl ?_)
    refine rn [28,7,11] ?_
    exact fin1 rfl (.cellw rfl rfl) (fun w' hw' => ⟨(⟨⟨g41, br, lA, lc, ga41, gb41, gp, gg, gt⟩, none, 0, none, 0⟩ : TX), (by (try dsimp only); (rw [hA]; exact ⟨r41, l41, by rw [hF]; show (RG.cp g41 : Int) = c.capa; rw [c41]; exact hcp, by rw [hF]; exact hbr, ra41, rb41, by rw [hF]; exact sa41, by rw [hF]; exact sb41, by rw [hF]; exact hgp, by rw [hF]; exact sgp, by rw [hF]; exact hgg, by rw [hF]; exact sgg, by rw [hF]; exact hgt, by rw [hF]; exact sgt⟩)), by rw [hA]; unfold rcp; rw [if_neg hcd]; rfl, by have h9 := zB (L' := [Res.row none ([] : List As).length 0 55 3 (([] : List As).map As.cs), Res.row none ([] : List Y).length 0 50 3 (([] : List Y).map Y.c), Res.blk eb 112 (ECell rb cb lb bb ub mb xb pb gb tb c lA (lv.length) lc), RgB rb g41, RgW g41, Res.im (RG.m g41), CkB cb (blk) (c.elen.toNat), LgB lb (dep) (paid) (burn) (c.supc), bB_ bb br, bW_ br, bK_ br, Res.row lA (lv).length lc 3 1 ((lv).map (fun v : Int => [Value.int .i64 v])), CuB ub (cur), Res.blk mb 186 (M.c m), bL_ xb b0 b1, rB_i b0 ga41, rW_i ga41, rB_i b1 gb41, rW_i gb41, rB_i pb gp, rW_i gp, rB_pp gb gg, rW_pp gg, rB_rq tb gt, rW_rq gt]) w' hw'; rw [hA]; unfold rcp; rw [if_neg hcd]; dsimp only; rw [hF]; exact h9⟩) _ (.inl rfl)
  ·have hA : (applyE (Eg.mk c blk (RG.l g) dep paid burn bo lv cur m q pend mg pt) y) = ((slashE (Eg.mk c blk (RG.l g) dep paid burn bo lv cur m q pend mg pt) y.i).1, rcp (Eg.mk c blk (RG.l g) dep paid burn bo lv cur m q pend mg pt) y (slashE (Eg.mk c blk (RG.l g) dep paid burn bo lv cur m q pend mg pt) y.i).2) := by unfold applyE actE; rw [if_neg n7, if_neg (show ¬ y.k = 1 by omega), if_neg (show ¬ y.k = 2 by omega), if_neg (show ¬ y.k = 3 by omega), if_pos hk4]
   have hF := slashE_fr (Eg.mk c blk (RG.l g) dep paid burn bo lv cur m q pend mg pt) y.i
   refine rn [10,2,4,5] ?_
   refine s_q (q_look1_t (b := b18) (D := (actD eb).take 6) (v := .func (.func 61) #[.pointer (some ⟨eb, 0, none⟩)] #[]) rfl (by rw [hk4]; rfl) (k3 (by decide)) (fun p hp => act_key eb p (List.mem_of_mem_take hp)) (act_mem eb (j := 3) (by decide)) (act_uq eb 3)) rfl ?_
   refine rn [3,0,1,2] ?_
   refine s_q (q_nefn ⟨_, _, _, rfl⟩ rfl rfl rfl) rfl ?_
   refine rn [0,19,10,2,45] ?_
   refine g_op (g_ownV [Res.blk eb 112 (ECell rb cb lb bb ub mb xb pb gb tb c lA (lv.length) lc), RgB rb g, RgW g, Res.im (RG.m g), CkB cb (blk) (c.elen.toNat), LgB lb (dep) (paid) (burn) (c.supc), bB_ bb br, bW_ br, bK_ br, bL_ xb b0 b1, rB_i b0 g0, rW_i g0, rB_i b1 g1, rW_i g1] rfl rfl (fun w1 hw1 ho1 => by have h7 := slash_eng eb rb cb lb bb ub mb xb b0 b1 pb gb tb c blk g dep paid burn bo lv cur m q pend mg pt br lA lc g0 g1 gp gg gt y w1 ho1 hi hg hcp hbr h0 h1_ s0 s1; exact h7) rfl ?_)
   rintro ⟨g41, br41, ga41, gb41⟩ ⟨r41, l41, c41, rbr41, ra41, rb41, sa41, sb41⟩
   refine ii ?_
   simp only at r41 l41 c41 rbr41 ra41 rb41 sa41 sb41
   refine rn [33,0,8,1,4,5,51,0] ?_
   refine zC rfl (fun h5 => ?_) (fun h5 => ?_)
   ·have hcd : ¬ _ = (0 : Int) := of_decide_eq_false (by simpa using h5)
    refine zW none 55 3 (([] : List As).map As.cs) (by rfl) ?_
    refine zW none 50 3 (([] : List Y).map Y.c) (by rfl) ?_
    refine rn [8] ?_
    refine dreg [14] mixed rfl ?_
    refine rn [23,0,45,23,1,4,23,2,5,23,3,2,23,4,6,23,5,4,23,6,5,23,8,2,23,9,6,23,10,4,23,11,5] ?_
    refine dop 7 rfl (zK _ rfl (fun w1 hw1 ho1 => by exact yJ cb blk c.elen.toNat w1 ho1 hk hel) rfl ?_)
    refine dop 12 rfl (zK _ rfl (fun w1 hw1 ho1 => by exact zZ cb blk c.elen.toNat w1 ho1 hk hel) rfl ?_)
    refine dop 13 rfl (zG rfl (fun w1 hw1 => by exact reject_any y ((slashE (Eg.mk c blk (RG.l g) dep paid burn bo lv cur m q pend mg pt) y.i).2.code) (((blk : Nat) : Int)) ((((blk / c.elen.toNat) : Nat) : Int)) w1) rfl ?_)
    refine dop 14 rfl (zL rfl rfl rfl rfl rfl ?_)
    refine rn [28,7,11,13] ?_
    exact fin1 rfl (.cellw rfl rfl) (fun w' hw' => ⟨(⟨⟨g41, br41, lA, lc, ga41, gb41, gp, gg, gt⟩, none, 0, none, 0⟩ : TX), (by (try dsimp only); (rw [hA]; exact ⟨r41, l41, by rw [hF]; show (RG.cp g41 : Int) = c.capa; rw [c41]; exact hcp, rbr41, ra41, rb41, by rw [hF]; exact sa41, by rw [hF]; exact sb41, by rw [hF]; exact hgp, by rw [hF]; exact sgp, by rw [hF]; exact hgg, by rw [hF]; exact sgg, by rw [hF]; exact hgt, by rw [hF]; exact sgt⟩)), by rw [hA]; unfold rcp; rw [if_pos hcd]; rfl, by have h9 := zB (L' := [Res.row none ([] : List As).length 0 55 3 (([] : List As).map As.cs), Res.row none ([] : List Y).length 0 50 3 (([] : List Y).map Y.c), Res.blk eb 112 (ECell rb cb lb bb ub mb xb pb gb tb c lA (lv.length) lc), RgB rb g41, RgW g41, Res.im (RG.m g41), CkB cb (blk) (c.elen.toNat), LgB lb (dep) (paid) ((slashE (Eg.mk c blk (RG.l g) dep paid burn bo lv cur m q pend mg pt) y.i).1.burn) (c.supc), bB_ bb br41, bW_ br41, bK_ br41, Res.row lA (lv).length lc 3 1 ((lv).map (fun v : Int => [Value.int .i64 v])), CuB ub (cur), Res.blk mb 186 (M.c m), bL_ xb b0 b1, rB_i b0 ga41, rW_i ga41, rB_i b1 gb41, rW_i gb41, rB_i pb gp, rW_i gp, rB_pp gb gg, rW_pp gg, rB_rq tb gt, rW_rq gt]) w' hw'; rw [hA]; unfold rcp; rw [if_pos hcd]; dsimp only; rw [hF]; exact h9⟩) _ (.inl rfl)
   ·have hcd : ¬ ¬ _ = (0 : Int) := fun hc => hc (of_decide_eq_true (by simpa using h5))
    refine zW none 55 3 (([] : List As).map As.cs) (by rfl) ?_
    refine zW none 50 3 (([] : List Y).map Y.c) (by rfl) ?_
    refine rn [12,7,8] ?_
    refine dreg [16] mixed rfl ?_
    refine rn [23,0,45,23,1,4,23,2,5,23,3,4,23,4,5,23,5,2,23,6,6,23,7,4,23,8,5,23,10,2,23,11,6,23,12,4,23,13,5] ?_
    refine dop 9 rfl (zK _ rfl (fun w1 hw1 ho1 => by exact yJ cb blk c.elen.toNat w1 ho1 hk hel) rfl ?_)
    refine dop 14 rfl (zK _ rfl (fun w1 hw1 ho1 => by exact zZ cb blk c.elen.toNat w1 ho1 hk hel) rfl ?_)
    refine dop 15 rfl (zG rfl (fun w1 hw1 => by exact yX y ((slashE (Eg.mk c blk (RG.l g) dep paid burn bo lv cur m q pend mg pt) y.i).2.i) ((slashE (Eg.mk c blk (RG.l g) dep paid burn bo lv cur m q pend mg pt) y.i).2.dl) (((blk : Nat) : Int)) ((((blk / c.elen.toNat) : Nat) : Int)) w1) rfl ?_)
    refine dop 16 rfl (zL rfl rfl rfl rfl rfl ?_)
    refine rn [28,7,11] ?_
    exact fin1 rfl (.cellw rfl rfl) (fun w' hw' => ⟨(⟨⟨g41, br41, lA, lc, ga41, gb41, gp, gg, gt⟩, none, 0, none, 0⟩ : TX), (by (try dsimp only); (rw [hA]; exact ⟨r41, l41, by rw [hF]; show (RG.cp g41 : Int) = c.capa; rw [c41]; exact hcp, rbr41, ra41, rb41, by rw [hF]; exact sa41, by rw [hF]; exact sb41, by rw [hF]; exact hgp, by rw [hF]; exact sgp, by rw [hF]; exact hgg, by rw [hF]; exact sgg, by rw [hF]; exact hgt, by rw [hF]; exact sgt⟩)), by rw [hA]; unfold rcp; rw [if_neg hcd]; rfl, by have h9 := zB (L' := [Res.row none ([] : List As).length 0 55 3 (([] : List As).map As.cs), Res.row none ([] : List Y).length 0 50 3 (([] : List Y).map Y.c), Res.blk eb 112 (ECell rb cb lb bb ub mb xb pb gb tb c lA (lv.length) lc), RgB rb g41, RgW g41, Res.im (RG.m g41), CkB cb (blk) (c.elen.toNat), LgB lb (dep) (paid) ((slashE (Eg.mk c blk (RG.l g) dep paid burn bo lv cur m q pend mg pt) y.i).1.burn) (c.supc), bB_ bb br41, bW_ br41, bK_ br41, Res.row lA (lv).length lc 3 1 ((lv).map (fun v : Int => [Value.int .i64 v])), CuB ub (cur), Res.blk mb 186 (M.c m), bL_ xb b0 b1, rB_i b0 ga41, rW_i ga41, rB_i b1 gb41, rW_i gb41, rB_i pb gp, rW_i gp, rB_pp gb gg, rW_pp gg, rB_rq tb gt, rW_rq gt]) w' hw'; rw [hA]; unfold rcp; rw [if_neg hcd]; dsimp only; rw [hF]; exact h9⟩) _ (.inl rfl)
  ·have hA : (applyE (Eg.mk c blk (RG.l g) dep paid burn bo lv cur m q pend mg pt) y) = ((consE (Eg.mk c blk (RG.l g) dep paid burn bo lv cur m q pend mg pt) y.i y.t).1, rcp (Eg.mk c blk (RG.l g) dep paid burn bo lv cur m q pend mg pt) y (consE (Eg.mk c blk (RG.l g) dep paid burn bo lv cur m q pend mg pt) y.i y.t).2) := by unfold applyE actE; rw [if_neg n7, if_neg (show ¬ y.k = 1 by omega), if_neg (show ¬ y.k = 2 by omega), if_neg (show ¬ y.k = 3 by omega), if_neg (show ¬ y.k = 4 by omega), if_pos hk5]
   have hF := consE_fr (Eg.mk c blk (RG.l g) dep paid burn bo lv cur m q pend mg pt) y.i y.t
   refine rn [10,2,4,5] ?_
   refine s_q (q_look1_t (b := b18) (D := (actD eb).take 6) (v := .func (.func 62) #[.pointer (some ⟨eb, 0, none⟩)] #[]) rfl (by rw [hk5]; rfl) (k3 (by decide)) (fun p hp => act_key eb p (List.mem_of_mem_take hp)) (act_mem eb (j := 4) (by decide)) (act_uq eb 4)) rfl ?_
   refine rn [3,0,1,2] ?_
   refine s_q (q_nefn ⟨_, _, _, rfl⟩ rfl rfl rfl) rfl ?_
   refine rn [0,19,10,2,45] ?_
   refine g_op (g_ownV [Res.blk eb 112 (ECell rb cb lb bb ub mb xb pb gb tb c lA (lv.length) lc), RgB rb g, RgW g, Res.im (RG.m g), rB_pp gb gg, rW_pp gg] rfl rfl (fun w1 hw1 ho1 => by have h7 := cons_any eb rb cb lb bb ub mb xb b0 b1 pb gb tb c blk g dep paid burn bo lv cur m q pend mg pt br lA lc g0 g1 gp gg gt y w1 ho1 hi hg hcp hgg sgg; exact h7) rfl ?_)
   rintro gg41 ⟨rg41, sg41⟩
   refine ii ?_
   refine rn [33,0,8,1,4,5,51,0] ?_
   refine zC rfl (fun h6 => ?_) (fun h6 => ?_)
   ·have hcd : ¬ _ = (0 : Int) := of_decide_eq_false (by simpa using h6)
    refine zW none 55 3 (([] : List As).map As.cs) (by rfl) ?_
    refine zW none 50 3 (([] : List Y).map Y.c) (by rfl) ?_
    refine rn [8] ?_
    refine dreg [14] mixed rfl ?_
    refine rn [23,0,45,23,1,4,23,2,5,23,3,2,23,4,6,23,5,4,23,6,5,23,8,2,23,9,6,23,10,4,23,11,5] ?_
    refine dop 7 rfl (zK _ rfl (fun w1 hw1 ho1 => by exact yJ cb blk c.elen.toNat w1 ho1 hk hel) rfl ?_)
    refine dop 12 rfl (zK _ rfl (fun w1 hw1 ho1 => by exact zZ cb blk c.elen.toNat w1 ho1 hk hel) rfl ?_)
    refine dop 13 rfl (zG rfl (fun w1 hw1 => by exact reject_any y ((consE (Eg.mk c blk (RG.l g) dep paid burn bo lv cur m q pend mg pt) y.i y.t).2.code) (((blk : Nat) : Int)) ((((blk / c.elen.toNat) : Nat) : Int)) w1) rfl ?_)
    refine dop 14 rfl (zL rfl rfl rfl rfl rfl ?_)
    refine rn [28,7,11,13] ?_
    exact fin1 rfl (.cellw rfl rfl) (fun w' hw' => ⟨(⟨⟨g, br, lA, lc, g0, g1, gp, gg41, gt⟩, none, 0, none, 0⟩ : TX), (by (try dsimp only); (rw [hA]; exact ⟨hg, by rw [hF], by rw [hF]; exact hcp, by rw [hF]; exact hbr, by rw [hF]; exact h0, by rw [hF]; exact h1_, by rw [hF]; exact s0, by rw [hF]; exact s1, by rw [hF]; exact hgp, by rw [hF]; exact sgp, rg41, by rw [hF]; exact sg41, by rw [hF]; exact hgt, by rw [hF]; exact sgt⟩)), by rw [hA]; unfold rcp; rw [if_pos hcd]; rfl, by have h9 := zB (L' := [Res.row none ([] : List As).length 0 55 3 (([] : List As).map As.cs), Res.row none ([] : List Y).length 0 50 3 (([] : List Y).map Y.c), Res.blk eb 112 (ECell rb cb lb bb ub mb xb pb gb tb c lA (lv.length) lc), RgB rb g, RgW g, Res.im (RG.m g), CkB cb (blk) (c.elen.toNat), LgB lb (dep) (paid) (burn) (c.supc), bB_ bb br, bW_ br, bK_ br, Res.row lA (lv).length lc 3 1 ((lv).map (fun v : Int => [Value.int .i64 v])), CuB ub (cur), Res.blk mb 186 (M.c m), bL_ xb b0 b1, rB_i b0 g0, rW_i g0, rB_i b1 g1, rW_i g1, rB_i pb gp, rW_i gp, rB_pp gb gg41, rW_pp gg41, rB_rq tb gt, rW_rq gt]) w' hw'; rw [hA]; unfold rcp; rw [if_pos hcd]; dsimp only; rw [hF]; exact h9⟩) _ (.inl rfl)
   ·have hcd : ¬ ¬ _ = (0 : Int) := fun hc => hc (of_decide_eq_true (by simpa using h6))
    refine zW none 55 3 (([] : List As).map As.cs) (by rfl) ?_
    refine zW none 50 3 (([] : List Y).map Y.c) (by rfl) ?_
    refine rn [12,7,8] ?_
    refine dreg [16] mixed rfl ?_
    refine rn [23,0,45,23,1,4,23,2,5,23,3,4,23,4,5,23,5,2,23,6,6,23,7,4,23,8,5,23,10,2,23,11,6,23,12,4,23,13,5] ?_
    refine dop 9 rfl (zK _ rfl (fun w1 hw1 ho1 => by exact yJ cb blk c.elen.toNat w1 ho1 hk hel) rfl ?_)
    refine dop 14 rfl (zK _ rfl (fun w1 hw1 ho1 => by exact zZ cb blk c.elen.toNat w1 ho1 hk hel) rfl ?_)
    refine dop 15 rfl (zG rfl (fun w1 hw1 => by exact yX y ((consE (Eg.mk c blk (RG.l g) dep paid burn bo lv cur m q pend mg pt) y.i y.t).2.i) ((consE (Eg.mk c blk (RG.l g) dep paid burn bo lv cur m q pend mg pt) y.i y.t).2.dl) (((blk : Nat) : Int)) ((((blk / c.elen.toNat) : Nat) : Int)) w1) rfl ?_)
    refine dop 16 rfl (zL rfl rfl rfl rfl rfl ?_)
    refine rn [28,7,11] ?_
    exact fin1 rfl (.cellw rfl rfl) (fun w' hw' => ⟨(⟨⟨g, br, lA, lc, g0, g1, gp, gg41, gt⟩, none, 0, none, 0⟩ : TX), (by (try dsimp only); (rw [hA]; exact ⟨hg, by rw [hF], by rw [hF]; exact hcp, by rw [hF]; exact hbr, by rw [hF]; exact h0, by rw [hF]; exact h1_, by rw [hF]; exact s0, by rw [hF]; exact s1, by rw [hF]; exact hgp, by rw [hF]; exact sgp, rg41, by rw [hF]; exact sg41, by rw [hF]; exact hgt, by rw [hF]; exact sgt⟩)), by rw [hA]; unfold rcp; rw [if_neg hcd]; rfl, by have h9 := zB (L' := [Res.row none ([] : List As).length 0 55 3 (([] : List As).map As.cs), Res.row none ([] : List Y).length 0 50 3 (([] : List Y).map Y.c), Res.blk eb 112 (ECell rb cb lb bb ub mb xb pb gb tb c lA (lv.length) lc), RgB rb g, RgW g, Res.im (RG.m g), CkB cb (blk) (c.elen.toNat), LgB lb (dep) (paid) (burn) (c.supc), bB_ bb br, bW_ br, bK_ br, Res.row lA (lv).length lc 3 1 ((lv).map (fun v : Int => [Value.int .i64 v])), CuB ub (cur), Res.blk mb 186 (M.c m), bL_ xb b0 b1, rB_i b0 g0, rW_i g0, rB_i b1 g1, rW_i g1, rB_i pb gp, rW_i gp, rB_pp gb gg41, rW_pp gg41, rB_rq tb gt, rW_rq gt]) w' hw'; rw [hA]; unfold rcp; rw [if_neg hcd]; dsimp only; rw [hF]; exact h9⟩) _ (.inl rfl)
  ·have hA : (applyE (Eg.mk c blk (RG.l g) dep paid burn bo lv cur m q pend mg pt) y) = ((partE (Eg.mk c blk (RG.l g) dep paid burn bo lv cur m q pend mg pt) y.i y.a).1, rcp (Eg.mk c blk (RG.l g) dep paid burn bo lv cur m q pend mg pt) y (partE (Eg.mk c blk (RG.l g) dep paid burn bo lv cur m q pend mg pt) y.i y.a).2) := by unfold applyE actE; rw [if_neg n7, if_neg (show ¬ y.k = 1 by omega), if_neg (show ¬ y.k = 2 by omega), if_neg (show ¬ y.k = 3 by omega), if_neg (show ¬ y.k = 4 by omega), if_neg (show ¬ y.k = 5 by omega), if_pos hk6]
   have hF := partE_fr (Eg.mk c blk (RG.l g) dep paid burn bo lv cur m q pend mg pt) y.i y.a
   refine rn [10,2,4,5] ?_
   refine s_q (q_look1_t (b := b18) (D := (actD eb).take 6) (v := .func (.func 63) #[.pointer (some ⟨eb, 0, none⟩)] #[]) rfl (by rw [hk6]; rfl) (k3 (by decide)) (fun p hp => act_key eb p (List.mem_of_mem_take hp)) (act_mem eb (j := 5) (by decide)) (act_uq eb 5)) rfl ?_
   refine rn [3,0,1,2] ?_
   refine s_q (q_nefn ⟨_, _, _, rfl⟩ rfl rfl rfl) rfl ?_
   refine rn [0,19,10,2,45] ?_
   refine g_op (g_ownV [Res.blk eb 112 (ECell rb cb lb bb ub mb xb pb gb tb c lA (lv.length) lc), RgB rb g, RgW g, Res.im (RG.m g), rB_rq tb gt, rW_rq gt] rfl rfl (fun w1 hw1 ho1 => by have h7 := part_any eb rb cb lb bb ub mb xb b0 b1 pb gb tb c blk g dep paid burn bo lv cur m q pend mg pt br lA lc g0 g1 gp gg gt y w1 ho1 hi hg hcp hgt sgt; exact h7) rfl ?_)
   rintro gt41 ⟨rt41, st41⟩
   refine ii ?_
   refine rn [33,0,8,1,4,5,51,0] ?_
   refine zC rfl (fun h7 => ?_) (fun h7 => ?_)
   ·have hcd : ¬ _ = (0 : Int) := of_decide_eq_false (by simpa using h7)
    refine zW none 55 3 (([] : List As).map As.cs) (by rfl) ?_
    refine zW none 50 3 (([] : List Y).map Y.c) (by rfl) ?_
    refine rn [8] ?_
    refine dreg [14] mixed rfl ?_
    refine rn [23,0,45,23,1,4,23,2,5,23,3,2,23,4,6,23,5,4,23,6,5,23,8,2,23,9,6,23,10,4,23,11,5] ?_
    refine dop 7 rfl (zK _ rfl (fun w1 hw1 ho1 => by exact yJ cb blk c.elen.toNat w1 ho1 hk hel) rfl ?_)
    refine dop 12 rfl (zK _ rfl (fun w1 hw1 ho1 => by exact zZ cb blk c.elen.toNat w1 ho1 hk hel) rfl ?_)
    refine dop 13 rfl (zG rfl (fun w1 hw1 => by exact reject_any y ((partE (Eg.mk c blk (RG.l g) dep paid burn bo lv cur m q pend mg pt) y.i y.a).2.code) (((blk : Nat) : Int)) ((((blk / c.elen.toNat) : Nat) : Int)) w1) rfl ?_)
    refine dop 14 rfl (zL rfl rfl rfl rfl rfl ?_)
    refine rn [28,7,11,13] ?_
    exact fin1 rfl (.cellw rfl rfl) (fun w' hw' => ⟨(⟨⟨g, br, lA, lc, g0, g1, gp, gg, gt41⟩, none, 0, none, 0⟩ : TX), (by (try dsimp only); (rw [hA]; exact ⟨hg, by rw [hF], by rw [hF]; exact hcp, by rw [hF]; exact hbr, by rw [hF]; exact h0, by rw [hF]; exact h1_, by rw [hF]; exact s0, by rw [hF]; exact s1, by rw [hF]; exact hgp, by rw [hF]; exact sgp, by rw [hF]; exact hgg, by rw [hF]; exact sgg, rt41, by rw [hF]; exact st41⟩)), by rw [hA]; unfold rcp; rw [if_pos hcd]; rfl, by have h9 := zB (L' := [Res.row none ([] : List As).length 0 55 3 (([] : List As).map As.cs), Res.row none ([] : List Y).length 0 50 3 (([] : List Y).map Y.c), Res.blk eb 112 (ECell rb cb lb bb ub mb xb pb gb tb c lA (lv.length) lc), RgB rb g, RgW g, Res.im (RG.m g), CkB cb (blk) (c.elen.toNat), LgB lb (dep) (paid) (burn) (c.supc), bB_ bb br, bW_ br, bK_ br, Res.row lA (lv).length lc 3 1 ((lv).map (fun v : Int => [Value.int .i64 v])), CuB ub (cur), Res.blk mb 186 (M.c m), bL_ xb b0 b1, rB_i b0 g0, rW_i g0, rB_i b1 g1, rW_i g1, rB_i pb gp, rW_i gp, rB_pp gb gg, rW_pp gg, rB_rq tb gt41, rW_rq gt41]) w' hw'; rw [hA]; unfold rcp; rw [if_pos hcd]; dsimp only; rw [hF]; exact h9⟩) _ (.inl rfl)
   ·have hcd : ¬ ¬ _ = (0 : Int) := fun hc => hc (of_decide_eq_true (by simpa using h7))
    refine zW none 55 3 (([] : List As).map As.cs) (by rfl) ?_
    refine zW none 50 3 (([] : List Y).map Y.c) (by rfl) ?_
    refine rn [12,7,8] ?_
    refine dreg [16] mixed rfl ?_
    refine rn [23,0,45,23,1,4,23,2,5,23,3,4,23,4,5,23,5,2,23,6,6,23,7,4,23,8,5,23,10,2,23,11,6,23,12,4,23,13,5] ?_
    refine dop 9 rfl (zK _ rfl (fun w1 hw1 ho1 => by exact yJ cb blk c.elen.toNat w1 ho1 hk hel) rfl ?_)
    refine dop 14 rfl (zK _ rfl (fun w1 hw1 ho1 => by exact zZ cb blk c.elen.toNat w1 ho1 hk hel) rfl ?_)
    refine dop 15 rfl (zG rfl (fun w1 hw1 => by exact yX y ((partE (Eg.mk c blk (RG.l g) dep paid burn bo lv cur m q pend mg pt) y.i y.a).2.i) ((partE (Eg.mk c blk (RG.l g) dep paid burn bo lv cur m q pend mg pt) y.i y.a).2.dl) (((blk : Nat) : Int)) ((((blk / c.elen.toNat) : Nat) : Int)) w1) rfl ?_)
    refine dop 16 rfl (zL rfl rfl rfl rfl rfl ?_)
    refine rn [28,7,11] ?_
    exact fin1 rfl (.cellw rfl rfl) (fun w' hw' => ⟨(⟨⟨g, br, lA, lc, g0, g1, gp, gg, gt41⟩, none, 0, none, 0⟩ : TX), (by (try dsimp only); (rw [hA]; exact ⟨hg, by rw [hF], by rw [hF]; exact hcp, by rw [hF]; exact hbr, by rw [hF]; exact h0, by rw [hF]; exact h1_, by rw [hF]; exact s0, by rw [hF]; exact s1, by rw [hF]; exact hgp, by rw [hF]; exact sgp, by rw [hF]; exact hgg, by rw [hF]; exact sgg, rt41, by rw [hF]; exact st41⟩)), by rw [hA]; unfold rcp; rw [if_neg hcd]; rfl, by have h9 := zB (L' := [Res.row none ([] : List As).length 0 55 3 (([] : List As).map As.cs), Res.row none ([] : List Y).length 0 50 3 (([] : List Y).map Y.c), Res.blk eb 112 (ECell rb cb lb bb ub mb xb pb gb tb c lA (lv.length) lc), RgB rb g, RgW g, Res.im (RG.m g), CkB cb (blk) (c.elen.toNat), LgB lb (dep) (paid) (burn) (c.supc), bB_ bb br, bW_ br, bK_ br, Res.row lA (lv).length lc 3 1 ((lv).map (fun v : Int => [Value.int .i64 v])), CuB ub (cur), Res.blk mb 186 (M.c m), bL_ xb b0 b1, rB_i b0 g0, rW_i g0, rB_i b1 g1, rW_i g1, rB_i pb gp, rW_i gp, rB_pp gb gg, rW_pp gg, rB_rq tb gt41, rW_rq gt41]) w' hw'; rw [hA]; unfold rcp; rw [if_neg hcd]; dsimp only; rw [hF]; exact h9⟩) _ (.inl rfl)
  ·have hA : (applyE (Eg.mk c blk (RG.l g) dep paid burn bo lv cur m q pend mg pt) y) = ((Eg.mk c blk (RG.l g) dep paid burn bo lv cur m q pend mg pt), rcp (Eg.mk c blk (RG.l g) dep paid burn bo lv cur m q pend mg pt) y ⟨11, 0, 0⟩) := by unfold applyE actE; rw [if_neg n7, if_neg (show ¬ y.k = 1 by omega), if_neg (show ¬ y.k = 2 by omega), if_neg (show ¬ y.k = 3 by omega), if_neg (show ¬ y.k = 4 by omega), if_neg (show ¬ y.k = 5 by omega), if_neg (show ¬ y.k = 6 by omega)]
   refine rn [10,2,4,5] ?_
   refine s_q (q_look1_f (b := b18) (z := .nilFunc) (D := (actD eb).take 6) rfl rfl (k3 hy.k) (fun p hp => act_key eb p (List.mem_of_mem_take hp)) (fun p hp => act_no0 eb hk0 p (List.mem_of_mem_take hp)) (zv (by kernel_rfl))) rfl ?_
   refine rn [3,0,1,2] ?_
   refine s_q (q_nefn ⟨_, _, _, rfl⟩ rfl rfl rfl) rfl ?_
   refine rn [0,20,12,7,8,1,4,5,51] ?_
   refine yD 44 (b := true) rfl (rfl) ?_
   refine rn [0,19,8] ?_
   refine dreg [14] mixed rfl ?_
   refine rn [23,0,45,23,1,4,23,2,5,23,3,2,23,4,6,23,5,4,23,6,5,23,8,2,23,9,6,23,10,4,23,11,5] ?_
   refine dop 7 rfl (zK _ rfl (fun w1 hw1 ho1 => by exact yJ cb blk c.elen.toNat w1 ho1 hk hel) rfl ?_)
   refine dop 12 rfl (zK _ rfl (fun w1 hw1 ho1 => by exact zZ cb blk c.elen.toNat w1 ho1 hk hel) rfl ?_)
   refine dop 13 rfl (zG rfl (fun w1 hw1 => by exact reject_any y ((⟨11, 0, 0⟩ : Rs).code) (((blk : Nat) : Int)) ((((blk / c.elen.toNat) : Nat) : Int)) w1) rfl ?_)
   refine dop 14 rfl (zL rfl rfl rfl rfl rfl ?_)
   refine rn [28,7,11,13] ?_
   have hcd : ¬ (11 : Int) = 0 := by decide
   refine zW none 55 3 (([] : List As).map As.cs) (by rfl) ?_
   refine zW none 50 3 (([] : List Y).map Y.c) (by rfl) ?_
   exact fin1 rfl (.cellw rfl rfl) (fun w' hw' => ⟨(⟨⟨g, br, lA, lc, g0, g1, gp, gg, gt⟩, none, 0, none, 0⟩ : TX), (by (rw [hA]; exact ⟨hg, rfl, hcp, hbr, h0, h1_, s0, s1, hgp, sgp, hgg, sgg, hgt, sgt⟩)), by rw [hA]; unfold rcp; rw [if_pos hcd]; rfl, by have h9 := zB (L' := [Res.row none ([] : List As).length 0 55 3 (([] : List As).map As.cs), Res.row none ([] : List Y).length 0 50 3 (([] : List Y).map Y.c), Res.blk eb 112 (ECell rb cb lb bb ub mb xb pb gb tb c lA (lv.length) lc), RgB rb g, RgW g, Res.im (RG.m g), CkB cb (blk) (c.elen.toNat), LgB lb (dep) (paid) (burn) (c.supc), bB_ bb br, bW_ br, bK_ br, Res.row lA (lv).length lc 3 1 ((lv).map (fun v : Int => [Value.int .i64 v])), CuB ub (cur), Res.blk mb 186 (M.c m), bL_ xb b0 b1, rB_i b0 g0, rW_i g0, rB_i b1 g1, rW_i g1, rB_i pb gp, rW_i gp, rB_pp gb gg, rW_pp gg, rB_rq tb gt, rW_rq gt]) w' hw'; rw [hA]; unfold rcp; rw [if_pos hcd]; exact h9⟩) _ (.inl rfl)
structure EP where
 eb : Nat
 rb : Nat
 cb : Nat
 lb : Nat
 bb : Nat
 ub : Nat
 mb : Nat
 xb : Nat
 b0 : Nat
 b1 : Nat
 pb : Nat
 gb : Nat
 tb : Nat
theorem enew_any (c : C) (w : World) (hc : chk c = 0) (hk : c.ok) : Own2 (ι := (EP × EG)) Tryz.prog 10 [c.v] w [] (fun x => x.2.Rep (newE c)) (fun x => .tuple [.pointer (some ⟨x.1.eb, 0, none⟩), .int .i64 0].toArray) (fun x => [Res.blk x.1.eb 112 (ECell x.1.rb x.1.cb x.1.lb x.1.bb x.1.ub x.1.mb x.1.xb x.1.pb x.1.gb x.1.tb c x.2.lA ((newE c).lv.length) x.2.lc), RgB x.1.rb x.2.g, RgW x.2.g, Res.im (RG.m x.2.g), CkB x.1.cb ((newE c).blk) (c.elen.toNat), LgB x.1.lb ((newE c).dep) ((newE c).paid) ((newE c).burn) (c.supc), bB_ x.1.bb x.2.br, bW_ x.2.br, bK_ x.2.br, Res.row x.2.lA ((newE c).lv).length x.2.lc 3 1 (((newE c).lv).map (fun v : Int => [Value.int .i64 v])), CuB x.1.ub ((newE c).cur), Res.blk x.1.mb 186 (M.c (newE c).m), Res.blk x.1.xb 191 [Value.pointer (some ⟨x.1.b0, 0, none⟩), Value.pointer (some ⟨x.1.b1, 0, none⟩)], rB_i x.1.b0 x.2.g0, rW_i x.2.g0, rB_i x.1.b1 x.2.g1, rW_i x.2.g1, rB_i x.1.pb x.2.gp, rW_i x.2.gp, rB_pp x.1.gb x.2.gg, rW_pp x.2.gg, rB_rq x.1.tb x.2.gt, rW_rq x.2.gt]) (fun x => []) := by
 refine g_st Tryz.func10 37 (WOK.start (fps []) _) ?_
 have hok : Cok c := chk_ok hc hk
 have hmo : Cmo c := xD hc
 have q1 := hok.capa; have q2 := hok.elen; have q3 := hmo.rlen; have q4 := hmo.qsize
 have e_capa : ((c.capa.toNat : Nat) : Int) = c.capa := by omega
 have e_elen : ((c.elen.toNat : Nat) : Int) = c.elen := by omega
 have e_rlen : ((c.rlen.toNat : Nat) : Int) = c.rlen := by omega
 have e_qsize : ((c.qsize.toNat : Nat) : Int) = c.qsize := by omega
 refine rn [1] ?_
 refine g_op (g_box (c := C.c c) rfl rfl rfl fun b1 => ?_)
 refine rn [3,3,0,8,1,45] ?_
 refine g_op (zG rfl (fun w1 hw1 => cvalid_any c w1 hc hok) rfl ?_)
 refine rn [48,0,20,12,7,8] ?_
 refine dreg [] mixed rfl ?_
 refine rn [23,0,4,23,1,5] ?_
 refine g_val 8 (v' := .int .i64 ((c.capa.toNat : Nat) : Int)) rfl (by rw [e_capa]) ?_
 refine rn [23,4,45,23,5,4,23,6,5] ?_
 refine g_val 13 (v' := .int .i64 ((c.elen.toNat : Nat) : Int)) rfl (by rw [e_elen]) ?_
 refine rn [23,8,4,23,9,5,23,11,4,23,12,5] ?_
 refine g_val 19 (v' := .int .i64 ((c.rlen.toNat : Nat) : Int)) rfl (by rw [e_rlen]) ?_
 refine rn [23,16,4,23,17,5] ?_
 refine g_val 24 (v' := .int .i64 ((c.qsize.toNat : Nat) : Int)) rfl (by rw [e_qsize]) ?_
 refine rn [23,19,4,23,20,5] ?_
 refine g_val 27 (v' := .int .i64 ((c.qsize.toNat : Nat) : Int)) rfl (by rw [e_qsize]) ?_
 refine rn [23,22,4,23,23,5] ?_
 refine g_val 30 (v' := .int .i64 ((c.qsize.toNat : Nat) : Int)) rfl (by rw [e_qsize]) ?_
 refine rn [23,25,4,23,26,5] ?_
 refine g_val 33 (v' := .int .i64 ((c.qsize.toNat : Nat) : Int)) rfl (by rw [e_qsize]) ?_
 refine dop 2 rfl (zH [] rfl (fun w1 hw1 ho1 => by have h7 := rnew_any (c.capa.toNat) w1 (by omega); exact h7) rfl ?_)
 rintro ⟨b9, g9⟩ ⟨r9, l9, c9⟩
 refine ii ?_
 refine rn [23,3,49] ?_
 refine dop 7 rfl (zH [] rfl (fun w1 hw1 ho1 => by have h7 := newc_any (c.elen.toNat) w1 (by omega); exact h7) rfl ?_)
 rintro b14 _
 refine ii ?_
 refine dop 10 rfl (zH [] rfl (fun w1 hw1 ho1 => by have h7 := lnew_led (c.supc) w1 ; exact h7) rfl ?_)
 rintro b17 _
 refine ii ?_
 refine dop 13 rfl (zH [] rfl (fun w1 hw1 ho1 => by have h7 := bnew_any (c.rlen.toNat) w1 (by omega); exact h7) rfl ?_)
 rintro ⟨b20, g20⟩ ⟨r20, s20⟩
 refine ii ?_
 simp only at r20 s20
 refine dop 14 rfl (zH [] rfl (fun w1 hw1 ho1 => by have h7 := unew_any  w1 ; exact h7) rfl ?_)
 rintro b21 _
 refine ii ?_
 refine dop 15 rfl (zH [] rfl (fun w1 hw1 ho1 => by have h7 := mnew_any w1; exact h7) rfl ?_)
 rintro mb22 _
 refine ii ?_
 refine dop 18 rfl (zH [] rfl (fun w1 hw1 ho1 => by have h7 := lnew_any (c.qsize.toNat) w1 (by omega); exact h7) rfl ?_)
 rintro ⟨b25, ba25, bb25, g25, gg25⟩ ⟨r25, s25, rr25, ss25⟩
 refine ii ?_
 simp only at r25 s25 rr25 ss25
 refine dop 21 rfl (zH [] rfl (fun w1 hw1 ho1 => by have h7 := new_i (c.qsize.toNat) w1 (by omega); exact h7) rfl ?_)
 rintro ⟨b28, g28⟩ ⟨r28, s28⟩
 refine ii ?_
 simp only at r28 s28
 refine dop 24 rfl (zH [] rfl (fun w1 hw1 ho1 => by have h7 := new_pp (c.qsize.toNat) w1 (by omega); exact h7) rfl ?_)
 rintro ⟨b31, g31⟩ ⟨r31, s31⟩
 refine ii ?_
 simp only at r31 s31
 refine dop 27 rfl (zH [] rfl (fun w1 hw1 ho1 => by have h7 := new_rq (c.qsize.toNat) w1 (by omega); exact h7) rfl ?_)
 rintro ⟨b34, g34⟩ ⟨r34, s34⟩
 refine ii ?_
 simp only at r34 s34
 refine dq 28 rfl (yH (c := (ECell b9 b14 b17 b20 b21 mb22 b25 b28 b31 b34 c none 0 0)) rfl (by kernel_rfl)) ?_
 refine dop 29 rfl (g_box (c := (ECell b9 b14 b17 b20 b21 mb22 b25 b28 b31 b34 c none 0 0)) rfl rfl rfl fun b36 => ?_)
 refine rn [23,30,3,23,31,3,27,7,11] ?_
 refine zW none 3 1 (([] : List Int).map (fun v : Int => [Value.int .i64 v])) (by rfl) ?_
 exact fin2 rfl (.tmp rfl) (.tmp rfl) (fun w' hw' => ⟨((⟨b36, b9, b14, b17, b20, b21, mb22, b25, ba25, bb25, b28, b31, b34⟩ : EP), (⟨g9, g20, none, 0, g25, gg25, g28, g31, g34⟩ : EG)), (by (try dsimp only); exact ⟨r9, l9, by show (RG.cp g9 : Int) = c.capa; rw [c9, e_capa], r20, r25, rr25, s25, ss25, r28, s28, r31, s31, r34, s34⟩), rfl, by have h9 := zB (L' := [Res.blk b36 112 (ECell b9 b14 b17 b20 b21 mb22 b25 b28 b31 b34 c none (([] : List Int).length) 0), RgB b9 g9, RgW g9, Res.im (RG.m g9), CkB b14 (0) (c.elen.toNat), LgB b17 (0) (0) (0) (c.supc), bB_ b20 g20, bW_ g20, bK_ g20, Res.row none (([] : List Int)).length 0 3 1 ((([] : List Int)).map (fun v : Int => [Value.int .i64 v])), CuB b21 (0), Res.blk mb22 186 (M.c M0), bL_ b25 ba25 bb25, rB_i ba25 g25, rW_i g25, rB_i bb25 gg25, rW_i gg25, rB_i b28 g28, rW_i g28, rB_pp b31 g31, rW_pp g31, rB_rq b34 g34, rW_rq g34]) w' hw'; exact h9⟩) _ (.inl rfl)
structure SN where
 vA : Option Addr
 vc : Nat
 pA : Option Addr
 pc : Nat
 fA : Option Addr
 fc : Nat
 oA : Option Addr
 oc : Nat
 mA : Option Addr
 mc : Nat
 rA : Option Addr
 rc : Nat
theorem snap_eng (eb rb cb lb bb ub mb xb b0 b1 pb gb tb : Nat) (c : C) (blk : Nat) (g : RG) (dep paid burn : Int) (bo : List En) (lv : List Int) (cur : Nat) (m : M) (q : LL) (pend : List Int) (mg : List PP) (pt : List Rq) (br : BR) (lA : Option Addr) (lc : Nat) (g0 g1 gp gg gt : Rg)  (w : World) (hw : W0 [Res.blk eb 112 (ECell rb cb lb bb ub mb xb pb gb tb c lA (lv.length) lc), RgB rb g, RgW g, Res.im (RG.m g), CkB cb (blk) (c.elen.toNat), LgB lb (dep) (paid) (burn) (c.supc), bB_ bb br, bW_ br, bK_ br, Res.row lA (lv).length lc 3 1 ((lv).map (fun v : Int => [Value.int .i64 v])), CuB ub (cur), Res.blk mb 186 (M.c m), bL_ xb b0 b1, rB_i b0 g0, rW_i g0, rB_i b1 g1, rW_i g1, rB_i pb gp, rW_i gp, rB_pp gb gg, rW_pp gg, rB_rq tb gt, rW_rq gt] w) (hi : Inv (Eg.mk c blk (RG.l g) dep paid burn bo lv cur m q pend mg pt)) (hg : g.Rep) (hcp : (g.cp : Int) = c.capa) (hbr : br.Rep bo) (h0 : g0.Rep 1 (q.f.map (fun v : Int => [Value.int .i64 v]))) (h1_ : g1.Rep 1 (q.v.map (fun v : Int => [Value.int .i64 v]))) (s0 : Rg.size g0 = c.qsize.toNat) (s1 : Rg.size g1 = c.qsize.toNat) (hgp : gp.Rep 1 (pend.map (fun v : Int => [Value.int .i64 v]))) (sgp : Rg.size gp = c.qsize.toNat) (hgg : gg.Rep 2 (mg.map PP.c)) (sgg : Rg.size gg = c.qsize.toNat) (hgt : gt.Rep 2 (pt.map Rq.c)) (sgt : Rg.size gt = c.qsize.toNat) : Own2 (ι := SN) Tryz.prog 13 [.pointer (some ⟨eb, 0, none⟩)] w [Res.blk eb 112 (ECell rb cb lb bb ub mb xb pb gb tb c lA (lv.length) lc), RgB rb g, RgW g, Res.im (RG.m g), CkB cb (blk) (c.elen.toNat), LgB lb (dep) (paid) (burn) (c.supc), bB_ bb br, bW_ br, bK_ br, Res.row lA (lv).length lc 3 1 ((lv).map (fun v : Int => [Value.int .i64 v])), CuB ub (cur), Res.blk mb 186 (M.c m), bL_ xb b0 b1, rB_i b0 g0, rW_i g0, rB_i b1 g1, rW_i g1, rB_i pb gp, rW_i gp, rB_pp gb gg, rW_pp gg, rB_rq tb gt, rW_rq gt] (fun x => True) (fun x => .agg ([Value.int .i64 ((blk : Nat) : Int), .int .i64 ((blk / c.elen.toNat : Nat) : Int), .slice x.vA ((RG.l g)).length x.vc, .int .u64 dep, .int .u64 paid, .int .u64 burn, .int .u64 (actS (RG.l g)), .slice x.pA pend.length x.pc, .slice x.fA q.f.length x.fc, .slice x.oA q.v.length x.oc, .slice x.mA mg.length x.mc, .slice x.rA pt.length x.rc, .int .i64 ((cur : Nat) : Int), .int .u64 (M.bal m), .int .i64 ((bo.length : Nat) : Int)]).toArray) (fun x => [Res.row x.vA ((RG.l g)).length x.vc 52 7 (((RG.l g)).map V.c), Res.row x.pA (pend).length x.pc 3 1 ((pend).map (fun v : Int => [Value.int .i64 v])), Res.row x.fA (q.f).length x.fc 3 1 ((q.f).map (fun v : Int => [Value.int .i64 v])), Res.row x.oA (q.v).length x.oc 3 1 ((q.v).map (fun v : Int => [Value.int .i64 v])), Res.row x.mA (mg).length x.mc 106 2 ((mg).map PP.c), Res.row x.rA (pt).length x.rc 110 2 ((pt).map Rq.c)]) (fun x => [Res.blk eb 112 (ECell rb cb lb bb ub mb xb pb gb tb c lA (lv.length) lc), RgB rb g, RgW g, Res.im (RG.m g), CkB cb (blk) (c.elen.toNat), LgB lb (dep) (paid) (burn) (c.supc), bB_ bb br, bW_ br, bK_ br, Res.row lA (lv).length lc 3 1 ((lv).map (fun v : Int => [Value.int .i64 v])), CuB ub (cur), Res.blk mb 186 (M.c m), bL_ xb b0 b1, rB_i b0 g0, rW_i g0, rB_i b1 g1, rW_i g1, rB_i pb gp, rW_i gp, rB_pp gb gg, rW_pp gg, rB_rq tb gt, rW_rq gt]) := by
 refine g_st Tryz.func13 81 hw ?_
 have hok : Cok c := hi.cok
 have hmo : Cmo c := xD hi.cc
 have hblk : blk ≤ 1000000000 := hi.blk
 have hk : blk < 4611686018427387904 := by omega
 have hel : 1 ≤ c.elen.toNat ∧ c.elen.toNat ≤ 4611686018427387904 := by have := hok.elen; omega
 have hled : LOk c.supc dep paid burn := hi.led
 have hqf : q.f.length ≤ c.qsize.toNat ∧ q.v.length ≤ c.qsize.toNat := hi.qf
 have hsum : (bals (RG.l g)).sum = dep - paid - burn := hi.sum
 have hvo : ∀ i, hasV (RG.l g) i = true → VO (gotV (RG.l g) i) := hi.vo
 have hqs := hmo.qsize
 have hbol : bo.length ≤ (RG.l g).length := hi.e.bol
 have hgl0 := hg.le; have hgc0 := hg.cp
 have hpel : pend.length ≤ 4096 := by have h9 := hi.pe; simp only at h9; omega
 have hmgl : mg.length ≤ 4096 := by have h9 := hi.mg; simp only at h9; omega
 have hptl : pt.length ≤ 4096 := by have h9 := hi.pt; simp only at h9; omega
 refine rn [1] ?_
 refine g_op (zI rfl fun b2 => ?_)
 refine rn [0,8,1,2,50,0,20,12,7,1,2,6,4,5] ?_
 refine g_op (zK _ rfl (fun w1 hw1 ho1 => by exact ltot_any lb dep paid burn c.supc w1 ho1) rfl ?_)
 refine g_op (zI rfl fun b3 => ?_)
 refine rn [33,0,8] ?_
 refine dreg [69] mixed rfl ?_
 refine rn [23,0,2,23,1,6,23,2,4,23,3,5,23,5,2,23,6,6,23,7,4,23,8,5,23,10,2,23,11,6,23,12,4,23,13,4,23,14,5,23,16,4,23,17,5,23,18,4,23,19,5,23,20,4,23,21,5,23,22,2,23,23,6,23,24,4,23,25,4,23,26,5,23,28,2,23,29,6,23,30,4,23,31,5,23,33,2,23,34,6,23,35,4,23,36,5,23,38,2,23,39,6,23,40,4,23,41,5,23,43,2,23,44,6,23,45,4,23,46,5,23,48,2,23,49,6,23,50,4,23,51,5,23,53,2,23,54,6,23,55,4,23,56,5,23,58,2,23,59,6,23,60,4,23,61,5,23,63,2,23,64,6,23,65,4,23,66,5] ?_
 refine dop 4 rfl (zK _ rfl (fun w1 hw1 ho1 => by exact yJ cb blk c.elen.toNat w1 ho1 hk hel) rfl ?_)
 refine dop 9 rfl (zK _ rfl (fun w1 hw1 ho1 => by exact zZ cb blk c.elen.toNat w1 ho1 hk hel) rfl ?_)
 refine dop 15 rfl (zH _ rfl (fun w1 hw1 ho1 => by have h7 := rall_any rb g w1 ho1 hg; exact h7) rfl ?_)
 rintro ⟨A27, cap27⟩ _
 refine ii ?_
 refine dop 27 rfl (zK _ rfl (fun w1 hw1 ho1 => by exact ract_any rb g w1 ho1) rfl ?_)
 refine g_val 39 (v' := .int .u64 (actS (RG.l g))) rfl (by rw [hg.a]) ?_
 refine dop 32 rfl (zH _ rfl (fun w1 hw1 ho1 => by have h7 := all_i pb gp pend w1 ho1 hgp; exact h7) rfl ?_)
 rintro ⟨A44, cap44⟩ _
 refine ii ?_
 refine dop 37 rfl (zH _ rfl (fun w1 hw1 ho1 => by have h7 := lall_any xb b0 b1 g0 g1 q c.qsize.toNat (0) w1 ho1 h0 h1_ s0 s1 (by omega); exact h7) rfl ?_)
 rintro ⟨A49, cap49⟩ _
 refine ii ?_
 refine g_val 49 (v' := .slice A49 q.f.length cap49) rfl (rfl) ?_
 refine dop 42 rfl (zH _ rfl (fun w1 hw1 ho1 => by have h7 := lall_any xb b0 b1 g0 g1 q c.qsize.toNat (1) w1 ho1 h0 h1_ s0 s1 (by omega); exact h7) rfl ?_)
 rintro ⟨A54, cap54⟩ _
 refine ii ?_
 refine g_val 54 (v' := .slice A54 q.v.length cap54) rfl (rfl) ?_
 refine dop 47 rfl (zH _ rfl (fun w1 hw1 ho1 => by have h7 := all_pp gb gg mg w1 ho1 hgg; exact h7) rfl ?_)
 rintro ⟨A59, cap59⟩ _
 refine ii ?_
 refine dop 52 rfl (zH _ rfl (fun w1 hw1 ho1 => by have h7 := all_rq tb gt pt w1 ho1 hgt; exact h7) rfl ?_)
 rintro ⟨A64, cap64⟩ _
 refine ii ?_
 refine dop 57 rfl (zK _ rfl (fun w1 hw1 ho1 => by exact uat_any ub cur w1 ho1) rfl ?_)
 refine dop 62 rfl (zK _ rfl (fun w1 hw1 ho1 => by exact mbalance_any mb m w1 ho1) rfl ?_)
 refine dop 67 rfl (zK _ rfl (fun w1 hw1 ho1 => by exact blen_any bb br bo w1 ho1 hbr) rfl ?_)
 refine dq 68 rfl (yH (c := [Value.int .i64 ((blk : Nat) : Int), .int .i64 ((blk / c.elen.toNat : Nat) : Int), .slice A27 ((RG.l g)).length cap27, .int .u64 dep, .int .u64 paid, .int .u64 burn, .int .u64 (actS (RG.l g)), .slice A44 pend.length cap44, .slice A49 q.f.length cap49, .slice A54 q.v.length cap54, .slice A59 mg.length cap59, .slice A64 pt.length cap64, .int .i64 ((cur : Nat) : Int), .int .u64 (M.bal m), .int .i64 ((bo.length : Nat) : Int)]) rfl (by kernel_rfl)) ?_
 refine dop 69 rfl (zL rfl rfl rfl rfl rfl ?_)
 refine rn [28,7,11] ?_
 exact fin1 rfl (.cellw rfl rfl) (fun w' hw' => ⟨(⟨A27, cap27, A44, cap44, A49, cap49, A54, cap54, A59, cap59, A64, cap64⟩ : SN), (by first | exact trivial | (dsimp only; exact trivial)), rfl, by have h9 := zB (L' := [Res.row A27 ((RG.l g)).length cap27 52 7 (((RG.l g)).map V.c), Res.row A44 (pend).length cap44 3 1 ((pend).map (fun v : Int => [Value.int .i64 v])), Res.row A49 ((allL 0 q)).length cap49 3 1 (((allL 0 q)).map (fun v : Int => [Value.int .i64 v])), Res.row A54 ((allL 1 q)).length cap54 3 1 (((allL 1 q)).map (fun v : Int => [Value.int .i64 v])), Res.row A59 (mg).length cap59 106 2 ((mg).map PP.c), Res.row A64 (pt).length cap64 110 2 ((pt).map Rq.c), Res.blk eb 112 (ECell rb cb lb bb ub mb xb pb gb tb c lA (lv.length) lc), RgB rb g, RgW g, Res.im (RG.m g), CkB cb (blk) (c.elen.toNat), LgB lb (dep) (paid) (burn) (c.supc), bB_ bb br, bW_ br, bK_ br, Res.row lA (lv).length lc 3 1 ((lv).map (fun v : Int => [Value.int .i64 v])), CuB ub (cur), Res.blk mb 186 (M.c m), bL_ xb b0 b1, rB_i b0 g0, rW_i g0, rB_i b1 g1, rW_i g1, rB_i pb gp, rW_i gp, rB_pp gb gg, rW_pp gg, rB_rq tb gt, rW_rq gt]) w' hw'; exact h9⟩) _ (.inl rfl)
theorem applyE_c (s : Eg) (y : Op) : (applyE s y).1.c = s.c := by
 unfold applyE
 split
 ·rw [tickE_fr]
 ·unfold actE
  repeat' split
  ·show (depE s y).1.c = _; rw [depE_fr]
  ·show (leaveE s 1 y.i).1.c = _; rw [leaveE_fr]
  ·show (leaveE s 0 y.i).1.c = _; rw [leaveE_fr]
  ·show (slashE s y.i).1.c = _; rw [slashE_fr]
  ·show (consE s y.i y.t).1.c = _; rw [consE_fr]
  ·show (partE s y.i y.a).1.c = _; rw [partE_fr]
  ·rfl
abbrev EL (p : EP) (a : EG) (s : Eg) : List Res := [Res.blk p.eb 112 (ECell p.rb p.cb p.lb p.bb p.ub p.mb p.xb p.pb p.gb p.tb s.c a.lA (s.lv.length) a.lc), RgB p.rb a.g, RgW a.g, Res.im (RG.m a.g), CkB p.cb (s.blk) (s.c.elen.toNat), LgB p.lb (s.dep) (s.paid) (s.burn) (s.c.supc), bB_ p.bb a.br, bW_ a.br, bK_ a.br, Res.row a.lA (s.lv).length a.lc 3 1 ((s.lv).map (fun v : Int => [Value.int .i64 v])), CuB p.ub (s.cur), Res.blk p.mb 186 (M.c s.m), Res.blk p.xb 191 [Value.pointer (some ⟨p.b0, 0, none⟩), Value.pointer (some ⟨p.b1, 0, none⟩)], rB_i p.b0 a.g0, rW_i a.g0, rB_i p.b1 a.g1, rW_i a.g1, rB_i p.pb a.gp, rW_i a.gp, rB_pp p.gb a.gg, rW_pp a.gg, rB_rq p.tb a.gt, rW_rq a.gt]
def Eng (p : EP) (a : EG) (s : Eg) : Res := .star (EL p a s)
theorem Own2.star1 {ι : Type} {P : Program} {f : FuncId} {args : List Value} {w : World} {Ls : List Res} {p : ι → Prop} {val : ι → Value} {Lnew Ls1 : ι → List Res} (h : WOK (fps Ls) w Ls w → Own2 P f args w Ls p val Lnew Ls1) (hw : W0 [Res.star Ls] w) :
  Own2 P f args w [.star Ls] p val Lnew (fun x => [.star (Ls1 x)]) := by
 have h1 : WOK (fps Ls) w Ls w := by
  have := hw.opened (L := [])
  rwa [fps_star, List.append_nil] at this
 refine Ret.mono (h h1) fun v w' ⟨x, hp, hv, hw2⟩ => ⟨x, hp, hv, ?_⟩
 rw [fps_star]
 have h2 : WOK (fps Ls) w (Ls1 x ++ Lnew x) w' := hw2.perm List.perm_append_comm
 exact h2.closed.perm (List.perm_append_singleton _ _).symm
theorem Own2.starN {ι : Type} {P : Program} {f : FuncId} {args : List Value} {w : World} {p : ι → Prop} {val : ι → Value} {Ls : ι → List Res} (h : Own2 P f args w [] p val Ls (fun _ => [])) : Own2 P f args w [] p val (fun x => [.star (Ls x)]) (fun _ => []) :=
 Ret.mono h fun v w' ⟨x, hp, hv, hw2⟩ => ⟨x, hp, hv, hw2.closed⟩
theorem new_ok (c : C) (w : World) (hc : chk c = 0) (hk : c.ok) : Own2 (ι := (EP × EG)) Tryz.prog 10 [c.v] w [] (fun x => x.2.Rep (newE c)) (fun x => .tuple [.pointer (some ⟨x.1.eb, 0, none⟩), .int .i64 0].toArray) (fun x => [Eng x.1 x.2 (newE c)]) (fun _ => []) := Own2.starN (enew_any c w hc hk)
theorem apply_ok (p : EP) (a : EG) (s : Eg) (y : Op) (w : World) (hw : W0 [Eng p a s] w) (hi : Inv s) (hr : a.Rep s) (hy : y.ok) (hb : s.blk < 1000000000) :
  Own2 (ι := TX) Tryz.prog 14 [.pointer (some ⟨p.eb, 0, none⟩), .agg y.c.toArray] w [Eng p a s] (fun x => x.a.Rep (applyE s y).1) (fun x => rcV (applyE s y).2 x.O x.oc x.pA x.pc) (fun x => [Res.row x.O (applyE s y).2.ag.length x.oc 55 3 ((applyE s y).2.ag.map As.cs), Res.row x.pA (applyE s y).2.ps.length x.pc 50 3 ((applyE s y).2.ps.map Y.c)]) (fun x => [Eng p x.a (applyE s y).1]) := by
 obtain ⟨c, blk, l, dep, paid, burn, bo, lv, cur, m, q, pend, mg, pt⟩ := s
 obtain ⟨g, br, lA, lc, g0, g1, gp, gg, gt⟩ := a
 obtain ⟨h_g, h_l, h_cp, h_b, h_r0, h_r1, h_z0, h_z1, h_rp, h_zp, h_rg, h_zg, h_rt, h_zt⟩ := hr
 simp only at h_g h_l h_cp h_b h_r0 h_r1 h_z0 h_z1 h_rp h_zp h_rg h_zg h_rt h_zt
 subst h_l
 have hA := applyE_c (Eg.mk c blk (RG.l g) dep paid burn bo lv cur m q pend mg pt) y
 have h9 := Own2.star1 (fun hw2 => apply_eng p.eb p.rb p.cb p.lb p.bb p.ub p.mb p.xb p.b0 p.b1 p.pb p.gb p.tb c blk g dep paid burn bo lv cur m q pend mg pt br lA lc g0 g1 gp gg gt y w hw2 hi h_g h_cp h_b h_r0 h_r1 h_z0 h_z1 h_rp h_zp h_rg h_zg h_rt h_zt hy hb) hw
 refine Ret.mono h9 fun v w' ⟨x, h1, h2, h3⟩ => ⟨x, h1, h2, ?_⟩
 unfold Eng EL
 rw [hA]
 exact h3
theorem snap_ok (p : EP) (a : EG) (s : Eg) (w : World) (hw : W0 [Eng p a s] w) (hi : Inv s) (hr : a.Rep s) :
  Own2 (ι := SN) Tryz.prog 13 [.pointer (some ⟨p.eb, 0, none⟩)] w [Eng p a s] (fun _ => True) (fun x => .agg [Value.int .i64 ((s.blk : Nat) : Int), .int .i64 s.ep, .slice x.vA s.l.length x.vc, .int .u64 s.dep, .int .u64 s.paid, .int .u64 s.burn, .int .u64 (actS s.l), .slice x.pA s.pend.length x.pc, .slice x.fA s.q.f.length x.fc, .slice x.oA s.q.v.length x.oc, .slice x.mA s.mg.length x.mc, .slice x.rA s.pt.length x.rc, .int .i64 ((s.cur : Nat) : Int), .int .u64 s.m.bal, .int .i64 ((s.bo.length : Nat) : Int)].toArray) (fun x => [Res.row x.vA (s.l).length x.vc 52 7 ((s.l).map V.c), Res.row x.pA (s.pend).length x.pc 3 1 ((s.pend).map (fun v : Int => [Value.int .i64 v])), Res.row x.fA (s.q.f).length x.fc 3 1 ((s.q.f).map (fun v : Int => [Value.int .i64 v])), Res.row x.oA (s.q.v).length x.oc 3 1 ((s.q.v).map (fun v : Int => [Value.int .i64 v])), Res.row x.mA (s.mg).length x.mc 106 2 ((s.mg).map PP.c), Res.row x.rA (s.pt).length x.rc 110 2 ((s.pt).map Rq.c)]) (fun _ => [Eng p a s]) := by
 obtain ⟨c, blk, l, dep, paid, burn, bo, lv, cur, m, q, pend, mg, pt⟩ := s
 obtain ⟨g, br, lA, lc, g0, g1, gp, gg, gt⟩ := a
 obtain ⟨h_g, h_l, h_cp, h_b, h_r0, h_r1, h_z0, h_z1, h_rp, h_zp, h_rg, h_zg, h_rt, h_zt⟩ := hr
 simp only at h_g h_l h_cp h_b h_r0 h_r1 h_z0 h_z1 h_rp h_zp h_rg h_zg h_rt h_zt
 subst h_l
 exact Own2.star1 (fun hw2 => snap_eng p.eb p.rb p.cb p.lb p.bb p.ub p.mb p.xb p.b0 p.b1 p.pb p.gb p.tb c blk g dep paid burn bo lv cur m q pend mg pt br lA lc g0 g1 gp gg gt w hw2 hi h_g h_cp h_b h_r0 h_r1 h_z0 h_z1 h_rp h_zp h_rg h_zg h_rt h_zt) hw
end Go.Proofs.YtdddiilocbbkkaaGreat
