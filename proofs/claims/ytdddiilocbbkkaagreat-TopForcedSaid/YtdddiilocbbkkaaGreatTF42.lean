/- TopForced: for every configuration and all operations the law returns true. No condition. Part 42 of 42. -/
import Derived.Test.YtdddiilocbbkkaaGreatTF41
set_option linter.unusedVariables false
set_option linter.unusedSimpArgs false
namespace Go.Proofs.YtdddiilocbbkkaaGreat
open Go.RowKit Go.Eg
set_option maxHeartbeats 4000000
set_option synthInstance.maxSize 3000
set_option maxRecDepth 100000
theorem law_topForced (c : C) (A_l : Option Addr) (c_l : Nat) (l : List Op) (w : World) (k_c : (c).ok) (o_l : Old w A_l l.length 4 (l.map Op.c)) (h_l : l.length ≤ c_l ∧ c_l ≤ 9223372036854775807) (k_l : ∀ x ∈ l, (fun x : Op => x.ok) x) : Pur Tryz.prog 4 [c.v, .slice A_l l.length c_l] w (.bool true) := by
 refine g_st Tryz.func4 84 (WOK.start [] _) ?_
 refine rn [1] ?_
 refine g_op (g_box rfl rfl rfl fun b2 => ?_)
 refine rn [3,0,8,1,45,2] ?_
 refine g_op (zG rfl (fun w1 hw1 => fits_any c A_l (l.length) (c_l) w1) rfl ?_)
 refine rn [44,0] ?_
 refine zC rfl (fun h1 => ?_) (fun h1 => ?_)
 ·refine rn [1] ?_
  refine g_op (zG rfl (fun w1 hw1 => runs_any w1) rfl ?_)
  refine rn [3,0,11,13] ?_
  exact fin1 rfl (.tmp rfl) (fun w' hw' => ⟨by first | rfl | (simp_all; done) | (simp_all; omega), hw'.upd⟩) _ (.inl rfl)
 ·have hfit : fitB c l.length = true := fit_of h1
  obtain ⟨hc, q1, q2, q3, q4, q5, q6⟩ := of_decide_eq_true hfit
  refine rn [12,7,1,45] ?_
  refine g_op (zH [] rfl (fun w1 hw1 ho1 => by have h7 := new_ok c w1 hc k_c; exact h7) rfl ?_)
  rintro ⟨p22, a22⟩ r22
  refine ii ?_
  simp only at r22
  refine rn [2,40,40,3,3,0,8,1,2,50,0,20,12,7,8,1,2] ?_
  refine g_op (zH [] rfl (fun w1 hw1 ho1 => by have h7 := clone_op A_l (l.length) (c_l) (l) w1 (Rd.ofOld hw1 o_l (by omega) (by simp)) (by first | omega | (simp; omega)); exact h7) rfl ?_)
  rintro ⟨A28, cap28⟩ _
  refine ii ?_
  refine g_op (zH [] rfl (fun w1 hw1 ho1 => by have h7 := ticks_any 20 w1 (by omega); exact h7) rfl ?_)
  rintro ⟨A29, cap29⟩ _
  refine ii ?_
  refine g_op (zY (A := A28) (els := (l).map Op.c) (news := (((List.replicate 20 (Op.mk 7 0 0 0))).map Op.c)) rfl rfl (InRow.rdb (A := A29) (els := ((List.replicate 20 (Op.mk 7 0 0 0))).map Op.c) (by first | rfl | assumption | (simp; done) | (simp_all; done) | (simp; omega) | (simp_all; omega)) (zM (c := Op.c) (fun _ => rfl) _)) (yG (c := Op.c) (by intro x; simp [Op.c, Value.oneCell']) _) (by first | omega | (simp; omega) | (simp_all; omega)) rfl fun A30 cap30 => ⟨_, inferInstance, ?_⟩)
  refine zF (A := A30) (((l ++ (List.replicate 20 (Op.mk 7 0 0 0)))).map Op.c) (by first | rfl | exact List.map_append.symm | (simp; done)) ?_
  obtain ⟨L, hL⟩ : ∃ z, z = (l ++ List.replicate 20 (Op.mk 7 0 0 0)) := ⟨_, rfl⟩
  refine zF (A := A30) (L.map Op.c) (by rw [hL]) ?_
  refine yC (A := A30) L.length (by rw [hL]; simp) ?_
  refine g_val 30 (v' := .slice A30 L.length cap30) rfl (by rw [hL]; simp) ?_
  have hLl : L.length ≤ 440 := by rw [hL]; simp; omega
  have hLo : ∀ y ∈ L, y.ok := fun y hy => by
    rw [hL] at hy
    rcases List.mem_append.1 hy with hy | hy
    · exact k_l y hy
    · rw [List.eq_of_mem_replicate hy]; constructor <;> simp
  have hLb : (newE c).blk + L.length < 1000000000 := by show 0 + L.length < _; omega
  refine rn [47,2,0,14] ?_
  refine g_resc (Eng p22 a22 (newE c)) (Eng p22 a22 (runK (newE c) L 0).1) rfl ?_
  refine g_lk [4, 5, 30, 31] (fun (x : Nat × EG) => [(32, .int .i64 ((x.1 : Nat) : Int))]) (fun (x : Nat × EG) => [Res.blk b2 24 c.c, Res.row A30 L.length cap30 35 4 (L.map Op.c), Eng p22 x.2 (runK (newE c) L x.1).1]) (fun (x : Nat × EG) => x.1 ≤ L.length ∧ EG.Rep x.2 (runK (newE c) L x.1).1) (fun (x : Nat × EG) => L.length - x.1) (0, a22) (by (try dsimp only); exact ⟨Nat.zero_le _, r22⟩) ?_
  rintro ⟨k, a9⟩ ⟨le_k, hr9⟩
  replace le_k : k ≤ L.length := le_k
  replace hr9 : EG.Rep a9 (runK (newE c) L k).1 := hr9
  refine zX (L' := [Res.blk b2 24 c.c, Res.row A30 L.length cap30 35 4 (L.map Op.c), Eng p22 a9 (runK (newE c) L k).1]) rfl ?_
  refine g_val 32 (v' := .int .i64 ((k : Nat) : Int)) rfl rfl ?_
  obtain ⟨hi9, hb9, hc9, hl9⟩ := runK_inv (newE_inv hc k_c) hLo hLb k (by omega)
  have hb0 : (newE c).blk = 0 := rfl
  refine rn [1,46,0,8] ?_
  refine zC rfl (fun h2 => ?_) (fun h2 => ?_)
  ·have lt_k : k < L.length := by have h9 := of_decide_eq_true h2; omega
   obtain ⟨yk, hyk⟩ : ∃ z, z = L[k] := ⟨_, rfl⟩
   have hyo : yk.ok := hyk ▸ hLo _ (List.getElem_mem lt_k)
   have hk9 : (runK (newE c) L (k + 1)) = stepA (runK (newE c) L k) yk := by rw [hyk]; exact runK_succ lt_k
   obtain ⟨av, bv, hag, hav, hbv, hab⟩ := ag_shape hi9 (by omega) yk
   obtain ⟨hagl, hagg⟩ := sh_get hag hav hbv
   have hep := rep_ep hi9 (by omega) yk
   have hqf := hi9.qf
   have hqs := (xD hi9.cc).qsize
   refine rn [12,7,8,14,1] ?_
   refine s_q (zR (i := k) rfl rfl rfl (InRow.rdb (A := A30) (els := (L).map Op.c) (by first | rfl | assumption | (simp; done) | (simp_all; done) | (simp; omega) | (simp_all; omega)) (zM (c := Op.c) (fun _ => rfl) _)) (by first | exact lt_k | omega)) rfl ?_
   refine s_q (zT (i := k) rfl (InRow.rdb (A := A30) (els := (L).map Op.c) (by first | rfl | assumption | (simp; done) | (simp_all; done) | (simp; omega) | (simp_all; omega)) (zM (c := Op.c) (fun _ => rfl) _)) (zS (by first | assumption | omega | (simp_all; done) | (simp_all; omega))) rfl) rfl ?_
   refine g_op (zI rfl fun b8 => ?_)
   refine rn [33] ?_
   refine zJ (b := b8) (Op.c yk) (by rw [hyk]) ?_
   refine rn [0,1,2] ?_
   refine g_op (zH _ rfl (fun w1 hw1 ho1 => by have h7 := snap_ok p22 a9 (runK (newE c) L k).1 w1 ho1 hi9 hr9; exact h7) rfl ?_)
   rintro sn37 _
   refine ii ?_
   refine g_op (zI rfl fun b9 => ?_)
   refine rn [33,0,1,2,45] ?_
   refine g_op (zH _ rfl (fun w1 hw1 ho1 => by have h7 := apply_ok p22 a9 (runK (newE c) L k).1 yk w1 ho1 hi9 hr9 hyo (by omega); exact h7) rfl ?_)
   rintro x40 r40
   refine ii ?_
   refine g_val 40 (v' := .agg (RX.c (⟨(applyE (runK (newE c) L k).1 yk).2, x40.O, x40.oc, x40.pA, x40.pc⟩ : RX)).toArray) rfl rfl ?_
   refine g_op (zI rfl fun b10 => ?_)
   refine rn [33] ?_
   refine zJ (b := b10) (RX.c (⟨(applyE (runK (newE c) L k).1 yk).2, x40.O, x40.oc, x40.pA, x40.pc⟩ : RX)) (by rfl) ?_
   refine rn [0,1,3,0,1,3,0,8,1,4,5] ?_
   refine g_val 42 (v' := .slice x40.O (applyE (runK (newE c) L k).1 yk).2.ag.length x40.oc) rfl (rfl) ?_
   refine rn [47,2,0,14] ?_
   refine g_val 11 (v' := .bool (decide (av < 0))) rfl (by rfl) ?_
   refine g_val 12 (v' := .int .i64 ((min 0 av : Nat) : Int)) rfl (by rw [Nat.zero_min]; rfl) ?_
   refine g_lk [4, 5, 9, 10, 30, 31, 32, 42, 43] (fun (x : Nat) => [(11, .bool (decide (av < x))), (12, .int .i64 ((min x av : Nat) : Int)), (44, .int .i64 ((x : Nat) : Int))]) (fun (x : Nat) => [Res.blk b2 24 c.c, Res.row A30 L.length cap30 35 4 (L.map Op.c), Eng p22 x40.a (applyE (runK (newE c) L k).1 yk).1, Res.blk b9 42 [Value.int .i64 ((((runK (newE c) L k).1).blk : Nat) : Int), .int .i64 ((runK (newE c) L k).1).ep, .slice sn37.vA ((runK (newE c) L k).1).l.length sn37.vc, .int .u64 ((runK (newE c) L k).1).dep, .int .u64 ((runK (newE c) L k).1).paid, .int .u64 ((runK (newE c) L k).1).burn, .int .u64 (actS ((runK (newE c) L k).1).l), .slice sn37.pA ((runK (newE c) L k).1).pend.length sn37.pc, .slice sn37.fA ((runK (newE c) L k).1).q.f.length sn37.fc, .slice sn37.oA ((runK (newE c) L k).1).q.v.length sn37.oc, .slice sn37.mA ((runK (newE c) L k).1).mg.length sn37.mc, .slice sn37.rA ((runK (newE c) L k).1).pt.length sn37.rc, .int .i64 ((((runK (newE c) L k).1).cur : Nat) : Int), .int .u64 ((runK (newE c) L k).1).m.bal, .int .i64 ((((runK (newE c) L k).1).bo.length : Nat) : Int)], Res.blk b10 47 (RX.c (⟨(applyE (runK (newE c) L k).1 yk).2, x40.O, x40.oc, x40.pA, x40.pc⟩ : RX)), Res.row x40.O (applyE (runK (newE c) L k).1 yk).2.ag.length x40.oc 55 3 ((applyE (runK (newE c) L k).1 yk).2.ag.map As.cs)]) (fun (x : Nat) => x ≤ (applyE (runK (newE c) L k).1 yk).2.ag.length) (fun (x : Nat) => (applyE (runK (newE c) L k).1 yk).2.ag.length - x) 0 (by (try dsimp only); exact Nat.zero_le _) ?_
   rintro j le_j
   replace le_j : j ≤ (applyE (runK (newE c) L k).1 yk).2.ag.length := le_j
   refine rn [1,46,0,8] ?_
   refine zC rfl (fun h3 => ?_) (fun h3 => ?_)
   ·have lt_j : j < (applyE (runK (newE c) L k).1 yk).2.ag.length := by have h9 := of_decide_eq_true h3; omega
    obtain ⟨aj, haj⟩ : ∃ z, z = (applyE (runK (newE c) L k).1 yk).2.ag[j] := ⟨_, rfl⟩
    obtain ⟨haje, hajc⟩ := hagg j lt_j
    rw [← haj] at haje hajc
    refine rn [12,7,8,14,1] ?_
    refine s_q (zR (i := j) rfl rfl rfl (InRow.rdb (A := x40.O) (els := ((applyE (runK (newE c) L k).1 yk).2.ag).map As.cs) (by first | rfl | assumption | (simp; done) | (simp_all; done) | (simp; omega) | (simp_all; omega)) (zM (c := As.cs) (fun _ => rfl) _)) (by first | exact lt_j | omega)) rfl ?_
    refine s_q (zT (i := j) rfl (InRow.rdb (A := x40.O) (els := ((applyE (runK (newE c) L k).1 yk).2.ag).map As.cs) (by first | rfl | assumption | (simp; done) | (simp_all; done) | (simp; omega) | (simp_all; omega)) (zM (c := As.cs) (fun _ => rfl) _)) (zS (by first | assumption | omega | (simp_all; done) | (simp_all; omega))) rfl) rfl ?_
    refine g_op (zI rfl fun b14 => ?_)
    refine rn [33] ?_
    refine zJ (b := b14) (As.cs aj) (by rw [haj]) ?_
    refine rn [0,8,1,4,5,44,0] ?_
    refine zC rfl (fun h4 => ?_) (fun h4 => ?_)
    ·have hja : j < av := by have h9 := of_decide_eq_true h4; rw [hajc] at h9; split at h9 <;> omega
     have hc0 : aj.c = 0 := by rw [hajc, if_pos hja]
     refine rn [10,2,43,3,0,8,1,2] ?_
     refine yD 53 (b := false) rfl (by rw [decide_eq_false (by omega)]) ?_
     refine rn [2,21,21,21,42,2,22,4,22,5,22,4,22,5] ?_
     refine g_val 63 (v' := .int .i64 (applyE (runK (newE c) L k).1 yk).2.ep) rfl (rfl) ?_
     refine s_qg (yM (z := (applyE (runK (newE c) L k).1 yk).2.ep + 1) rfl rfl (by rw [wi64 (by omega) (by omega)])) rfl rfl rfl ?_
     refine rn [22,51] ?_
     refine yD 65 (b := false) rfl (by rw [haje]; simp) ?_
     refine rn [42,0,20,12,7,10,2] ?_
     refine yD 67 (b := false) rfl (by rw [decide_eq_false (by omega)]) ?_
     refine rn [2,22,4,22,5,22,51] ?_
     refine yD 71 (b := false) rfl (by rw [hc0]; rfl) ?_
     refine rn [42,3,9,15,7,10,43,2,9] ?_
     refine g_val 12 (v' := .int .i64 ((min (j + 1) av : Nat) : Int)) rfl (by rw [show min j av + 1 = min (j + 1) av by omega]) ?_
     refine g_val 11 (v' := .bool (decide (av < j + 1))) rfl (by rw [decide_eq_false (by omega)]) ?_
     exact g_ag (j + 1) (by (try dsimp only); exact (by first | exact lt_j | omega))
    ·have hja : ¬ j < av := by have h9 := of_decide_eq_false h4; intro hc; rw [hajc, if_pos hc] at h9; exact h9 rfl
     have hc1 : aj.c = 1 := by rw [hajc, if_neg hja]
     refine rn [12,7,8,1,2,2] ?_
     refine zV 54 rfl (fun h5 => ?_) (fun h5 => ?_)
     ·refine rn [22,4,22,5,22,44] ?_
      refine yD 57 (b := false) rfl (by rw [hc1]; rfl) ?_
      refine rn [41,2,22,4,22,5,22,4,22,5] ?_
      refine g_val 63 (v' := .int .i64 (applyE (runK (newE c) L k).1 yk).2.ep) rfl (rfl) ?_
      refine s_qg (yM (z := (applyE (runK (newE c) L k).1 yk).2.ep + 1) rfl rfl (by rw [wi64 (by omega) (by omega)])) rfl rfl rfl ?_
      refine rn [22,51] ?_
      refine yD 65 (b := false) rfl (by rw [haje]; simp) ?_
      refine rn [42,0,20,12,7,10,2,2] ?_
      refine zV 68 rfl (fun h6 => ?_) (fun h6 => ?_)
      ·refine rn [21,21,21,41,3,9,15,7,10,43,2,9] ?_
       refine g_val 12 (v' := .int .i64 ((min (j + 1) av : Nat) : Int)) rfl (by rw [show min j av = min (j + 1) av by omega]) ?_
       refine g_val 11 (v' := .bool (decide (av < j + 1))) rfl (by rw [decide_eq_true (by omega)]) ?_
       exact g_ag (j + 1) (by (try dsimp only); exact (by first | exact lt_j | omega))
      ·refine rn [22,4,22,5,22,51] ?_
       refine yD 71 (b := true) rfl (by rw [hc1]; rfl) ?_
       refine rn [42,3,9,15,7,10,43,2,9] ?_
       refine g_val 12 (v' := .int .i64 ((min (j + 1) av : Nat) : Int)) rfl (by rw [show min j av = min (j + 1) av by omega]) ?_
       refine g_val 11 (v' := .bool (decide (av < j + 1))) rfl (by rw [decide_eq_true (by omega)]) ?_
       exact g_ag (j + 1) (by (try dsimp only); exact (by first | exact lt_j | omega))
     ·refine rn [21,21,21,42,2,22,4,22,5,22,4,22,5] ?_
      refine g_val 63 (v' := .int .i64 (applyE (runK (newE c) L k).1 yk).2.ep) rfl (rfl) ?_
      refine s_qg (yM (z := (applyE (runK (newE c) L k).1 yk).2.ep + 1) rfl rfl (by rw [wi64 (by omega) (by omega)])) rfl rfl rfl ?_
      refine rn [22,51] ?_
      refine yD 65 (b := false) rfl (by rw [haje]; simp) ?_
      refine rn [42,0,20,12,7,10,2,2] ?_
      refine zV 68 rfl (fun h7 => ?_) (fun h7 => ?_)
      ·refine rn [21,21,21,41,3,9,15,7,10,43,2,9] ?_
       refine g_val 12 (v' := .int .i64 ((min (j + 1) av : Nat) : Int)) rfl (by rw [show min j av = min (j + 1) av by omega]) ?_
       refine g_val 11 (v' := .bool (decide (av < j + 1))) rfl (by rw [decide_eq_true (by omega)]) ?_
       exact g_ag (j + 1) (by (try dsimp only); exact (by first | exact lt_j | omega))
      ·refine rn [22,4,22,5,22,51] ?_
       refine yD 71 (b := true) rfl (by rw [hc1]; rfl) ?_
       refine rn [42,3,9,15,7,10,43,2,9] ?_
       refine g_val 12 (v' := .int .i64 ((min (j + 1) av : Nat) : Int)) rfl (by rw [show min j av = min (j + 1) av by omega]) ?_
       refine g_val 11 (v' := .bool (decide (av < j + 1))) rfl (by rw [decide_eq_true (by omega)]) ?_
       exact g_ag (j + 1) (by (try dsimp only); exact (by first | exact lt_j | omega))
   ·have eq_j : j = (applyE (runK (newE c) L k).1 yk).2.ag.length := by have h9 := of_decide_eq_false h3; omega
    refine rn [16] ?_
    refine zE (zE (zQ ?_))
    refine rn [7,1,2,2] ?_
    refine zV 75 rfl (fun h8 => ?_) (fun h8 => ?_)
    ·have hvb : av < j := of_decide_eq_true h8
     have hvl := hab (by omega)
     refine rn [22,2,22,4,22,5,22,47,22,51] ?_
     refine yD 80 (b := false) rfl (by rw [show min j av = ((runK (newE c) L k).1).q.f.length by omega]; simp) ?_
     refine rn [41,0,20,12,15,7,10,43,2,9] ?_
     refine g_resc (Eng p22 x40.a (applyE (runK (newE c) L k).1 yk).1) (Eng p22 x40.a (runK (newE c) L (k + 1)).1) (by rw [hk9]; rfl) ?_
     exact g_ag ((k + 1), x40.a) (by (try dsimp only); exact ⟨(by first | exact lt_k | omega), (by rw [hk9]; exact r40)⟩)
    ·refine rn [21,21,21,21,21,42,0,20,12,15,7,10,43,2,9] ?_
     refine g_resc (Eng p22 x40.a (applyE (runK (newE c) L k).1 yk).1) (Eng p22 x40.a (runK (newE c) L (k + 1)).1) (by rw [hk9]; rfl) ?_
     exact g_ag ((k + 1), x40.a) (by (try dsimp only); exact ⟨(by first | exact lt_k | omega), (by rw [hk9]; exact r40)⟩)
  ·have eq_k : k = L.length := by have h9 := of_decide_eq_false h2; omega
   refine rn [16] ?_
   refine zE (zE (zQ ?_))
   refine rn [7,1] ?_
   refine g_op (zG rfl (fun w1 hw1 => runs_any w1) rfl ?_)
   refine rn [3,0,11] ?_
   exact fin1 rfl (.tmp rfl) (fun w' hw' => ⟨by first | rfl | (simp_all; done) | (simp_all; omega), hw'.upd⟩) _ (.inl rfl)
theorem main_topForced (v0 : Value) (v1 : Value) (W : World) (a0 : Arg Tryz.prog W 24 v0) (a1 : Arg Tryz.prog W 25 v1) : Pur Tryz.prog 4 [v0, v1] W (.bool true) := by
 obtain ⟨cs, rfl, f, h⟩ := Arg.agg Tryz.underlying24 a0
 obtain ⟨c, rfl, k_c⟩ := openC f cs h
 obtain ⟨A_l, c_l, l, rfl, hle1, hm1, o_l, k_l⟩ := Arg.slice Op.c (fun x : Op => x.ok) Tryz.underlying25 (show Tryz.prog.cellsOf 35 = 4 by kernel_rfl) (by omega) (openOp) a1
 have h_l : l.length ≤ c_l ∧ c_l ≤ 9223372036854775807 := ⟨hle1, by unfold maxLen at hm1; omega⟩
 exact law_topForced c A_l c_l l W k_c o_l h_l k_l
namespace LawTopForced
open Go.ChangeShapes Go.WideShapes Go.ChangeAt Go.RowKit Go.Eg
set_option linter.unusedVariables false
theorem own : ownKnob Tryz.prog.godebug = none := by kernel_rfl
theorem laidOut : laidOutB Tryz.prog = true := by kernel_rfl
set_option maxRecDepth 100000 in
theorem lifted (os : Os) (started : os.Started) (H : Type) (enc : TypeId × Value → H) :
  ReturnsInHanded {} Tryz.checked os 4 .any (Rows.topForcedSpec.pre6 enc Tryz.prog Tryz.f4 Rows.topForcedRow.domain false) (Rows.topForcedSpec.post enc Tryz.prog Tryz.f4 false true false false) := by
 refine returnsInHanded_of_change (C := Tryz.checked) own started (by kernel_rfl) Tryz.func4
  (ChangeSpec.witness6 (enc := enc) (C := Tryz.checked) false ⟨#[], #[.agg #[.int .i64 0, .int .i64 0, .int .u64 0, .int .u64 0, .int .u64 0, .int .u64 0, .int .u64 0, .int .u64 0, .int .u64 0, .int .u64 0, .int .i64 0, .int .i64 0, .int .i64 0, .int .i64 0, .int .i64 0, .int .i64 0, .int .i64 0, .int .i64 0, .int .u64 0, .int .u64 0], .slice none 0 0], []⟩ 8 (by kernel_rfl) (by kernel_rfl) (by kernel_rfl) (by kernel_rfl)) ?_
 intro W base args ds gs before hval0 hW hcnd _
 have hval : ∀ (j : Nat) t v, Tryz.f4.params[j]? = some t → args[j]? = some v → Value.okWide Tryz.prog W .any base t v := hval0
 have hW' := hW
 obtain ⟨p, q, hA0, hV, rfl, hfz, hnd⟩ := hW
 have hA : DataW.TrodAll enc Tryz.prog W 0 (fun _ => true) true Tryz.f4.params.toList args.toList ds p := hA0
 rw [Tryz.params4] at hA hval
 obtain ⟨v0, vs0, d0, ds0, p0, q0, hargs, rfl, rfl, h0, r0⟩ := trodAll_cons hA
 obtain ⟨v1, vs1, d1, ds1, p1, q1, rfl, rfl, rfl, h1, r1⟩ := trodAll_cons r0
 obtain ⟨rfl, rfl, rfl⟩ := trodAll_nil r1
 obtain rfl : args = #[v0, v1] := by cases args; simp_all
 obtain ⟨rfl, rfl⟩ := trodVars_none hV
 have a0 := Arg.of h0 (hval 0 24 v0 rfl rfl)
 have lt0 : ∀ x ∈ p0, x.block < W.heap.size := by obtain ⟨m, hm⟩ := h0; exact DataW.trod_lt m _ _ _ hm
 have a1 := Arg.of h1 (hval 1 25 v1 rfl rfl)
 have lt1 : ∀ x ∈ p1, x.block < W.heap.size := by obtain ⟨m, hm⟩ := h1; exact DataW.trod_lt m _ _ _ hm
 clear hA0 hval0
 simp only [List.append_nil] at hW'
 refine Calls.mono (main_topForced v0 v1 W a0 a1) ?_
 rintro e W' ⟨v, rfl, rfl, hu⟩
 have bel := hu.below
 have targ := (trodAll_cons_mk (Below.trod laidOut (by kernel_rfl) (of_decide_eq_true (by kernel_rfl)) h0 bel lt0) (trodAll_cons_mk (Below.trod laidOut (by kernel_rfl) (of_decide_eq_true (by kernel_rfl)) h1 bel lt1) trodAll_mk0))
 simp only [List.append_nil] at targ
 exact ⟨_, rfl, _, _, _, [], _, [], hW', trodAll_mk1 (shut_bool Tryz.underlying4 _), targ, rfl, bel.frame _, fun h => by cases h⟩
theorem and_t {a b : Bool} (ha : a = true) (hb : b = true) : (a && b) = true := by rw [ha, hb]; rfl
theorem jf0 : (Rows.topForcedRow.wf (OpenSpec.ofChange Rows.topForcedSpec)) = true := by kernel_rfl
theorem jf1 : (laidOutB Tryz.pinned.checked.prog) = true := by kernel_rfl
theorem jf2 : (mapsRowed Tryz.pinned.checked.prog) = true := by kernel_rfl
theorem jf3 : (Tryz.f4.params.all (Tryz.pinned.checked.prog.readableRec ·)) = true := by kernel_rfl
theorem jf4 : (namedTie Tryz.pinned.checked.prog Rows.topForcedRow.named Rows.topForcedSpec.vars) = true := by kernel_rfl
theorem jf5 : ((Rows.topForcedRow.stops == [])) = true := by kernel_rfl
theorem jf6 : ((Tryz.pinned.checked.prog.stops == [])) = true := by kernel_rfl
theorem jf7 : ((Rows.topForcedRow.knobs == [])) = true := by kernel_rfl
theorem jf8 : ((Tryz.pinned.checked.prog.stopKnobs == [])) = true := by kernel_rfl
theorem jf9 : ((Rows.topForcedRow.inPlace == Tryz.pinned.checked.prog.inPlace 4)) = true := by kernel_rfl
theorem jf10 : ((Rows.topForcedRow.unfollowed == Tryz.pinned.checked.prog.unfollowed 4)) = true := by kernel_rfl
theorem jf11 : ((Rows.topForcedRow.recurses == Tryz.pinned.checked.prog.recurses 4)) = true := by kernel_rfl
theorem jf12 : ((Rows.topForcedRow.named == Tryz.pinned.checked.prog.varsNamed 4)) = true := by kernel_rfl
theorem jf13 : ((Rows.topForcedRow.maps == (Tryz.f4.params.toList ++ Rows.topForcedSpec.plain.varTypes Tryz.pinned.checked.prog).any (Tryz.pinned.checked.prog.mapsRec ·))) = true := by kernel_rfl
theorem jf14 : ((Rows.topForcedRow.ifaces == (Tryz.f4.params.toList ++ Rows.topForcedSpec.plain.varTypes Tryz.pinned.checked.prog).any (Tryz.pinned.checked.prog.ifacesRec ·))) = true := by kernel_rfl
theorem jf15 : ((Rows.topForcedRow.mapsOut == Tryz.pinned.checked.prog.mapsAmong Tryz.f4.resultTypes.toList)) = true := by kernel_rfl
theorem jf16 : ((Rows.topForcedRow.loops == (Tryz.f4.params.toList ++ Rows.topForcedSpec.plain.varTypes Tryz.pinned.checked.prog).any (Tryz.pinned.checked.prog.loopsFrom ·))) = true := by kernel_rfl
theorem jf17 : ((Rows.topForcedRow.wideKeys == (Tryz.f4.params.toList ++ Rows.topForcedSpec.plain.varTypes Tryz.pinned.checked.prog ++ Tryz.f4.resultTypes.toList).any (Tryz.pinned.checked.prog.wideKeysFrom ·))) = true := by kernel_rfl
theorem jf18 : (Rows.topForcedSpec.vars.all (Tryz.pinned.checked.prog.varReadable ·)) = true := by kernel_rfl
theorem jf19 : (Tryz.f4.resultTypes.all (fun t => Tryz.pinned.checked.prog.readableRec t && decide (t < Tryz.pinned.checked.prog.types.size))) = true := by kernel_rfl
theorem jf20 : ((Rows.topForcedRow.ifacesOut == Tryz.f4.resultTypes.toList.any (Tryz.pinned.checked.prog.ifacesRec ·))) = true := by kernel_rfl
theorem jf21 : ((Rows.topForcedRow.loopsOut == Tryz.f4.resultTypes.toList.any (Tryz.pinned.checked.prog.loopsFrom ·))) = true := by kernel_rfl
theorem jf22 : ((Rows.topForcedRow.plainKeys == Tryz.pinned.checked.prog.plainKeys)) = true := by kernel_rfl
theorem jf23 : (Rows.topForcedRow.shortTexts.isNone) = true := by kernel_rfl
theorem jf24 : (Tryz.pinned.checked.prog.stopsHeard) = true := by kernel_rfl
theorem jf25 : (Tryz.pinned.checked.prog.mayEnter) = true := by kernel_rfl
theorem jf26 : ((Rows.topForcedRow.lifted == Tryz.pinned.checked.prog.liftsFinal)) = true := by kernel_rfl
theorem jf27 : ((Tryz.pinned.checked.prog.make == some Rows.topForcedRow.make)) = true := by kernel_rfl
theorem jf28 : ((Rows.topForcedRow.kinds == (if Rows.topForcedRow.domain.isEmpty then [] else Tryz.f4.params.toList.map fun t => match Tryz.pinned.checked.prog.underlying t with | some (.int k) => some k | _ => none))) = true := by kernel_rfl
theorem jf29 : ((Rows.topForcedRow.pinned == Rows.topForcedRow.pinnedBy)) = true := by kernel_rfl
theorem jf30 : ((Rows.topForcedRow.veiled == (Tryz.f4.params.toList ++ Rows.topForcedSpec.plain.varTypes Tryz.pinned.checked.prog ++ Tryz.f4.resultTypes.toList).any (Tryz.pinned.checked.prog.veiledRec ·))) = true := by kernel_rfl
theorem jf31 : (Rows.topForcedRow.veiledFits Tryz.pinned.checked.prog Tryz.f4.params.toList (Tryz.f4.params.toList ++ Rows.topForcedSpec.plain.varTypes Tryz.pinned.checked.prog ++ Tryz.f4.resultTypes.toList)) = true := by kernel_rfl
theorem closed : joinedFacts Tryz.pinned.checked.prog 4 Tryz.f4 Rows.topForcedSpec Rows.topForcedRow = true := and_t (and_t (and_t (and_t (and_t (and_t (and_t (and_t (and_t (and_t (and_t (and_t (and_t (and_t (and_t (and_t (and_t (and_t (and_t (and_t (and_t (and_t (and_t (and_t (and_t (and_t (and_t (and_t (and_t (and_t (and_t (jf0) jf1) jf2) jf3) jf4) jf5) jf6) jf7) jf8) jf9) jf10) jf11) jf12) jf13) jf14) jf15) jf16) jf17) jf18) jf19) jf20) jf21) jf22) jf23) jf24) jf25) jf26) jf27) jf28) jf29) jf30) jf31
theorem over : Rows.topForcedRow.holds Tryz.pinned (OpenSpec.ofChange Rows.topForcedSpec) :=
 OpenClaim.holds_of_wide 4 Tryz.f4 rfl rfl rfl rfl rfl rfl rfl ⟨rfl, rfl, rfl, rfl, rfl⟩ rfl rfl rfl rfl rfl (by kernel_rfl) Tryz.func4 closed
  (of_decide_eq_true (by kernel_rfl)) (by unfold Func.isWrapper; first | (rw [if_pos (by decide +kernel)]; kernel_rfl) | (rw [if_neg (by decide +kernel)]; exact ⟨rfl, rfl⟩))
  (fun os started H enc _ => lifted os started H enc)
theorem proved : Rows.TopForcedSaid := over
end LawTopForced
end Go.Proofs.YtdddiilocbbkkaaGreat
