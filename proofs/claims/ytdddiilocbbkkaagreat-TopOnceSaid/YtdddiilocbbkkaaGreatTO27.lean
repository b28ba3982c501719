/- TopOnce: for every configuration and all operations the law returns true. No condition. Part 27 of 27. -/
import Derived.Test.YtdddiilocbbkkaaGreatTO26
set_option linter.unusedVariables false
set_option linter.unusedSimpArgs false
namespace Go.Proofs.YtdddiilocbbkkaaGreat
open Go.RowKit Go.Eg
set_option maxHeartbeats 4000000
set_option synthInstance.maxSize 3000
set_option maxRecDepth 100000
theorem law_topOnce (c : C) (A_l : Option Addr) (c_l : Nat) (l : List Op) (w : World) (k_c : (c).ok) (o_l : Old w A_l l.length 4 (l.map Op.c)) (h_l : l.length ≤ c_l ∧ c_l ≤ 9223372036854775807) (k_l : ∀ x ∈ l, (fun x : Op => x.ok) x) : Pur Tryz.prog 3 [c.v, .slice A_l l.length c_l] w (.bool true) := by
 refine g_st Tryz.func3 105 (WOK.start [] _) ?_
 refine rn [1] ?_
 refine g_op (g_box rfl rfl rfl fun b2 => ?_)
 refine rn [3,0,8,1,45,2] ?_
 refine g_op (zG rfl (fun w1 hw1 => fits_any c A_l (l.length) (c_l) w1) rfl ?_)
 refine rn [44,0] ?_
 refine zC rfl (fun h1 => ?_) (fun h1 => ?_)
 ·refine rn [1] ?_
  refine g_op (zG rfl (fun w1 hw1 => runs_any w1) rfl ?_)
  refine rn [3,0,11,13] ?_
  exact fin1 rfl (.tmp rfl) (fun w' hw' => ⟨by first | rfl | (simp_all; done) | (simp_all; omega), hw'.upd⟩) _ (.inl rfl)
 ·have hfit : fitB c l.length = true := fit_of h1
  obtain ⟨hc, q1, q2, q3, q4, q5, q6⟩ := of_decide_eq_true hfit
  refine rn [12,7,1,45] ?_
  refine g_op (zH [] rfl (fun w1 hw1 ho1 => by have h7 := new_ok c w1 hc k_c; exact h7) rfl ?_)
  rintro ⟨p22, a22⟩ r22
  refine ii ?_
  simp only at r22
  refine rn [2,40,40,3,3,0,8,1,2,50,0,20,12,7,1] ?_
  refine g_op (tZ (n := 200) rfl rfl rfl rfl (by decide) rfl fun g27 => ?_)
  obtain ⟨P0, hP0⟩ : ∃ z, z = List.replicate 200 false := ⟨_, rfl⟩
  refine zE (A := (some ⟨g27, 0, none⟩)) (P0.map (fun v : Bool => [Value.bool v])) (by rw [hP0]; simp) ?_
  refine rn [3,0,8,1,2] ?_
  refine g_op (zH [] rfl (fun w1 hw1 ho1 => by have h7 := clone_op A_l (l.length) (c_l) (l) w1 (Rd.ofOld hw1 o_l (by omega) (by simp)) (by first | omega | (simp; omega)); exact h7) rfl ?_)
  rintro ⟨A29, cap29⟩ _
  refine ii ?_
  refine g_op (zH [] rfl (fun w1 hw1 ho1 => by have h7 := ticks_any 40 w1 (by omega); exact h7) rfl ?_)
  rintro ⟨A30, cap30⟩ _
  refine ii ?_
  refine g_op (zY (A := A29) (els := (l).map Op.c) (news := (((List.replicate 40 (Op.mk 7 0 0 0))).map Op.c)) rfl rfl (InRow.rdb (A := A30) (els := ((List.replicate 40 (Op.mk 7 0 0 0))).map Op.c) (by first | rfl | assumption | (simp; done) | (simp_all; done) | (simp; omega) | (simp_all; omega)) (zK (c := Op.c) (fun _ => rfl) _)) (yF (c := Op.c) (by intro x; simp [Op.c, Value.oneCell']) _) (by first | omega | (simp; omega) | (simp_all; omega)) rfl fun A31 cap31 => ⟨_, inferInstance, ?_⟩)
  refine zE (A := A31) (((l ++ (List.replicate 40 (Op.mk 7 0 0 0)))).map Op.c) (by first | rfl | exact List.map_append.symm | (simp; done)) ?_
  obtain ⟨L, hL⟩ : ∃ z, z = (l ++ List.replicate 40 (Op.mk 7 0 0 0)) := ⟨_, rfl⟩
  refine zE (A := A31) (L.map Op.c) (by rw [hL]) ?_
  refine yC (A := A31) L.length (by rw [hL]; simp) ?_
  refine g_val 31 (v' := .slice A31 L.length cap31) rfl (by rw [hL]; simp) ?_
  have hLl : L.length ≤ 440 := by rw [hL]; simp; omega
  have hLo : ∀ y ∈ L, y.ok := fun y hy => by
    rw [hL] at hy
    rcases List.mem_append.1 hy with hy | hy
    · exact k_l y hy
    · rw [List.eq_of_mem_replicate hy]; constructor <;> simp
  have hLb : (newE c).blk + L.length < 1000000000 := by show 0 + L.length < _; omega
  refine rn [47,2,0,14] ?_
  refine g_resc (Eng p22 a22 (newE c)) (Eng p22 a22 (runK (newE c) L 0).1) rfl ?_
  refine g_lk [4, 5, 7, 31, 32] (fun (x : Nat × EG × List Bool) => [(33, .int .i64 ((x.1 : Nat) : Int))]) (fun (x : Nat × EG × List Bool) => [Res.blk b2 24 c.c, Res.row A31 L.length cap31 35 4 (L.map Op.c), Eng p22 x.2.1 (runK (newE c) L x.1).1, Res.row (some ⟨g27, 0, none⟩) 200 200 4 1 ((x.2.2).map (fun v : Bool => [Value.bool v]))]) (fun (x : Nat × EG × List Bool) => x.1 ≤ L.length ∧ EG.Rep x.2.1 (runK (newE c) L x.1).1 ∧ (∀ i : Nat, (x.2.2)[i]? = some true → (gotV (runK (newE c) L x.1).1.l (i : Int)).st = 6) ∧ (x.2.2).length = 200) (fun (x : Nat × EG × List Bool) => L.length - x.1) (0, a22, P0) (by (try dsimp only); exact ⟨Nat.zero_le _, r22, (by rw [hP0]; exact fun i hi => absurd hi rep_no), (by rw [hP0]; simp)⟩) ?_
  rintro ⟨k, a9, P9⟩ ⟨le_k, hr9, hP9, hL9⟩
  replace le_k : k ≤ L.length := le_k
  replace hr9 : EG.Rep a9 (runK (newE c) L k).1 := hr9
  replace hP9 : ∀ i : Nat, (P9)[i]? = some true → (gotV (runK (newE c) L k).1.l (i : Int)).st = 6 := hP9
  replace hL9 : (P9).length = 200 := hL9
  refine zX (L' := [Res.blk b2 24 c.c, Res.row A31 L.length cap31 35 4 (L.map Op.c), Eng p22 a9 (runK (newE c) L k).1, Res.row (some ⟨g27, 0, none⟩) 200 200 4 1 ((P9).map (fun v : Bool => [Value.bool v]))]) rfl ?_
  refine g_val 33 (v' := .int .i64 ((k : Nat) : Int)) rfl rfl ?_
  obtain ⟨hi9, hb9, hc9, hl9⟩ := sH (pS hc k_c) hLo hLb k (by omega)
  have hb0 : (newE c).blk = 0 := rfl
  refine rn [1,46,0,8] ?_
  refine zC rfl (fun h2 => ?_) (fun h2 => ?_)
  ·have lt_k : k < L.length := by have h9 := of_decide_eq_true h2; omega
   obtain ⟨yk, hyk⟩ : ∃ z, z = L[k] := ⟨_, rfl⟩
   have hyo : yk.ok := hyk ▸ hLo _ (List.getElem_mem lt_k)
   have hk9 : (runK (newE c) L (k + 1)) = stepA (runK (newE c) L k) yk := by rw [hyk]; exact sW lt_k
   obtain ⟨hO1, hO2, hO3⟩ := tW hi9 (by omega) yk
   have hpl := ps_len hi9 (by omega) yk
   have hcap := hi9.cap
   rw [hc9, show (newE c).c = c from rfl] at hcap
   refine rn [12,7,8,14,1] ?_
   refine s_q (zR (i := k) rfl rfl rfl (InRow.rdb (A := A31) (els := (L).map Op.c) (by first | rfl | assumption | (simp; done) | (simp_all; done) | (simp; omega) | (simp_all; omega)) (zK (c := Op.c) (fun _ => rfl) _)) (by first | exact lt_k | omega)) rfl ?_
   refine s_q (zT (i := k) rfl (InRow.rdb (A := A31) (els := (L).map Op.c) (by first | rfl | assumption | (simp; done) | (simp_all; done) | (simp; omega) | (simp_all; omega)) (zK (c := Op.c) (fun _ => rfl) _)) (zS (by first | assumption | omega | (simp_all; done) | (simp_all; omega))) rfl) rfl ?_
   refine g_op (zI rfl fun b9 => ?_)
   refine rn [33] ?_
   refine zJ (b := b9) (Op.c yk) (by rw [hyk]) ?_
   refine rn [0,1,2] ?_
   refine g_op (zH _ rfl (fun w1 hw1 ho1 => by have h7 := snap_ok p22 a9 (runK (newE c) L k).1 w1 ho1 hi9 hr9; exact h7) rfl ?_)
   rintro sn38 _
   refine ii ?_
   refine g_op (zI rfl fun b10 => ?_)
   refine rn [33,0,1,2,45] ?_
   refine g_op (zH _ rfl (fun w1 hw1 ho1 => by have h7 := apply_ok p22 a9 (runK (newE c) L k).1 yk w1 ho1 hi9 hr9 hyo (by omega); exact h7) rfl ?_)
   rintro x41 r41
   refine ii ?_
   refine g_val 41 (v' := .agg (RX.c (⟨(applyE (runK (newE c) L k).1 yk).2, x41.O, x41.oc, x41.pA, x41.pc⟩ : RX)).toArray) rfl rfl ?_
   refine g_op (zI rfl fun b11 => ?_)
   refine rn [33] ?_
   refine zJ (b := b11) (RX.c (⟨(applyE (runK (newE c) L k).1 yk).2, x41.O, x41.oc, x41.pA, x41.pc⟩ : RX)) (by rfl) ?_
   refine rn [0,1,4,5] ?_
   refine g_val 43 (v' := .slice x41.pA (applyE (runK (newE c) L k).1 yk).2.ps.length x41.pc) rfl (rfl) ?_
   refine rn [47,2,0,14] ?_
   refine zE (A := (some ⟨g27, 0, none⟩)) ((mark P9 ((applyE (runK (newE c) L k).1 yk).2.ps.take 0)).map (fun v : Bool => [Value.bool v])) (by rfl) ?_
   refine g_lk [4, 5, 7, 10, 11, 31, 32, 33, 43, 44] (fun (x : Nat) => [(45, .int .i64 ((x : Nat) : Int))]) (fun (x : Nat) => [Res.blk b2 24 c.c, Res.row A31 L.length cap31 35 4 (L.map Op.c), Eng p22 x41.a (applyE (runK (newE c) L k).1 yk).1, Res.blk b10 42 [Value.int .i64 ((((runK (newE c) L k).1).blk : Nat) : Int), .int .i64 ((runK (newE c) L k).1).ep, .slice sn38.vA ((runK (newE c) L k).1).l.length sn38.vc, .int .u64 ((runK (newE c) L k).1).dep, .int .u64 ((runK (newE c) L k).1).paid, .int .u64 ((runK (newE c) L k).1).burn, .int .u64 (actS ((runK (newE c) L k).1).l), .slice sn38.pA ((runK (newE c) L k).1).pend.length sn38.pc, .slice sn38.fA ((runK (newE c) L k).1).q.f.length sn38.fc, .slice sn38.oA ((runK (newE c) L k).1).q.v.length sn38.oc, .slice sn38.mA ((runK (newE c) L k).1).mg.length sn38.mc, .slice sn38.rA ((runK (newE c) L k).1).pt.length sn38.rc, .int .i64 ((((runK (newE c) L k).1).cur : Nat) : Int), .int .u64 ((runK (newE c) L k).1).m.bal, .int .i64 ((((runK (newE c) L k).1).bo.length : Nat) : Int)], Res.blk b11 47 (RX.c (⟨(applyE (runK (newE c) L k).1 yk).2, x41.O, x41.oc, x41.pA, x41.pc⟩ : RX)), Res.row x41.pA (applyE (runK (newE c) L k).1 yk).2.ps.length x41.pc 50 3 ((applyE (runK (newE c) L k).1 yk).2.ps.map Y.c), Res.row sn38.vA ((runK (newE c) L k).1).l.length sn38.vc 52 7 (((runK (newE c) L k).1).l.map V.c), Res.row (some ⟨g27, 0, none⟩) 200 200 4 1 (((mark P9 ((applyE (runK (newE c) L k).1 yk).2.ps.take x))).map (fun v : Bool => [Value.bool v]))]) (fun (x : Nat) => x ≤ (applyE (runK (newE c) L k).1 yk).2.ps.length) (fun (x : Nat) => (applyE (runK (newE c) L k).1 yk).2.ps.length - x) 0 (by (try dsimp only); exact Nat.zero_le _) ?_
   rintro j le_j
   replace le_j : j ≤ (applyE (runK (newE c) L k).1 yk).2.ps.length := le_j
   refine rn [1,46,0,8] ?_
   refine zC rfl (fun h3 => ?_) (fun h3 => ?_)
   ·have lt_j : j < (applyE (runK (newE c) L k).1 yk).2.ps.length := by have h9 := of_decide_eq_true h3; omega
    obtain ⟨pj, hpj⟩ : ∃ z, z = (applyE (runK (newE c) L k).1 yk).2.ps[j] := ⟨_, rfl⟩
    obtain ⟨q1_, q2_⟩ := hO1 _ (List.getElem_mem lt_j)
    have hnw := once_new hi9 (by omega) yk hP9 lt_j
    rw [← hpj] at q1_ q2_ hnw
    obtain ⟨ni, hni, hnl⟩ := xG q1_
    have hn2 : ni < 200 := by omega
    have hml : (mark P9 ((applyE (runK (newE c) L k).1 yk).2.ps.take j)).length = 200 := by rw [mark_len]; exact hL9
    refine rn [12,7,8,14,1] ?_
    refine s_q (zR (i := j) rfl rfl rfl (InRow.rdb (A := x41.pA) (els := ((applyE (runK (newE c) L k).1 yk).2.ps).map Y.c) (by first | rfl | assumption | (simp; done) | (simp_all; done) | (simp; omega) | (simp_all; omega)) (zK (c := Y.c) (fun _ => rfl) _)) (by first | exact lt_j | omega)) rfl ?_
    refine s_q (zT (i := j) rfl (InRow.rdb (A := x41.pA) (els := ((applyE (runK (newE c) L k).1 yk).2.ps).map Y.c) (by first | rfl | assumption | (simp; done) | (simp_all; done) | (simp; omega) | (simp_all; omega)) (zK (c := Y.c) (fun _ => rfl) _)) (zS (by first | assumption | omega | (simp_all; done) | (simp_all; omega))) rfl) rfl ?_
    refine g_op (zI rfl fun b13 => ?_)
    refine rn [33] ?_
    refine zJ (b := b13) (Y.c pj) (by rw [hpj]) ?_
    refine rn [0,8,1,4,5,46] ?_
    refine yG 51 (b := false) rfl (by rw [decide_eq_false (by omega)]) ?_
    refine rn [2,22,4,22,5,22,4,22,5,22,47,22,53] ?_
    refine yG 58 (b := false) rfl (by rw [decide_eq_false (by omega)]) ?_
    refine rn [42,0,20,12,7,8,1,4,5,48,0] ?_
    refine zC rfl (fun h4 => ?_) (fun h4 => ?_)
    ·have hf0 : pj.f = false := by simpa using h4
     refine rn [16] ?_
     refine zF (zQ ?_)
     refine rn [7,10,43,2,9] ?_
     refine zE (A := (some ⟨g27, 0, none⟩)) ((mark P9 ((applyE (runK (newE c) L k).1 yk).2.ps.take (j + 1))).map (fun v : Bool => [Value.bool v])) (by rw [rB lt_j, ← hpj, if_neg (by rw [hf0]; simp)]) ?_
     exact g_ag (j + 1) (by (try dsimp only); exact (by first | exact lt_j | omega))
    ·have hf1 : pj.f = true := by simpa using h4
     obtain ⟨vj, hvj⟩ : ∃ z, z = ((runK (newE c) L k).1).l[ni] := ⟨_, rfl⟩
     obtain ⟨r1_, r2_, _⟩ := q2_ hf1
     rw [hni, yT hnl, ← hvj] at r1_ r2_
     have hmk : ∀ h9, (mark P9 ((applyE (runK (newE c) L k).1 yk).2.ps.take j))[ni]'h9 = false := fun h9 => by
       have h8 := hnw hf1
       rw [hni, Int.toNat_natCast, List.getElem?_eq_getElem h9] at h8
       simpa using h8
     refine rn [12,7,1,4,5,4,5] ?_
     refine g_val 66 (v' := .int .i64 ((ni : Nat) : Int)) rfl (by rw [hni]) ?_
     refine s_q (zR (i := ni) rfl rfl rfl (InRow.rdb (A := sn38.vA) (els := (((runK (newE c) L k).1).l).map V.c) (by first | rfl | assumption | (simp; done) | (simp_all; done) | (simp; omega) | (simp_all; omega)) (zK (c := V.c) (fun _ => rfl) _)) (by first | exact hnl | omega)) rfl ?_
     refine s_q (zT (i := ni) rfl (InRow.rdb (A := sn38.vA) (els := (((runK (newE c) L k).1).l).map V.c) (by first | rfl | assumption | (simp; done) | (simp_all; done) | (simp; omega) | (simp_all; omega)) (zK (c := V.c) (fun _ => rfl) _)) (zS (by first | assumption | omega | (simp_all; done) | (simp_all; omega))) rfl) rfl ?_
     refine g_op (zI rfl fun b14 => ?_)
     refine rn [33] ?_
     refine zJ (b := b14) (V.c vj) (by rw [hvj]) ?_
     refine rn [0,8,1,2,4,5] ?_
     refine g_val 71 (v' := .int .i64 ((ni : Nat) : Int)) rfl (by rw [hni]) ?_
     refine s_q (zR (i := ni) rfl rfl rfl (InRow.rdb (A := (some ⟨g27, 0, none⟩)) (els := ((mark P9 ((applyE (runK (newE c) L k).1 yk).2.ps.take j))).map (fun v : Bool => [Value.bool v])) (by first | rfl | assumption | (simp; done) | (simp_all; done) | (simp; omega) | (simp_all; omega)) (zK (c := (fun v : Bool => [Value.bool v])) (fun _ => rfl) _)) (by first | exact hnl | omega)) rfl ?_
     refine s_q (yK (i := ni) (o := 0) rfl (InRow.rdb (A := (some ⟨g27, 0, none⟩)) (els := ((mark P9 ((applyE (runK (newE c) L k).1 yk).2.ps.take j))).map (fun v : Bool => [Value.bool v])) (by first | rfl | assumption | (simp; done) | (simp_all; done) | (simp; omega) | (simp_all; omega)) (zK (c := (fun v : Bool => [Value.bool v])) (fun _ => rfl) _)) (zS (by first | assumption | omega | (simp_all; done) | (simp_all; omega))) rfl rfl) rfl ?_
     refine yG 73 (b := false) rfl (hmk _) ?_
     refine rn [2,22,4,22,5,22,4,22,5,22,51] ?_
     refine yG 79 (b := false) rfl (by rw [r1_]; simp) ?_
     refine rn [42,2,22,4,22,5,22,51,22,2] ?_
     refine zV 85 rfl (fun h5 => ?_) (fun h5 => ?_)
     ·have h5 : ¬ vj.st = 5 := by simpa using h5
      obtain ⟨h4_, hw_⟩ := r2_.resolve_left h5
      refine rn [22,4,22,5,22,51] ?_
      refine yG 88 (b := false) rfl (by rw [h4_]; rfl) ?_
      refine rn [22,2,22,4,22,5,22,4,22,5] ?_
      refine g_val 93 (v' := .int .i64 (applyE (runK (newE c) L k).1 yk).2.ep) rfl (rfl) ?_
      refine rn [22,51] ?_
      refine yG 94 (b := false) rfl (by rw [hw_]; simp) ?_
      refine rn [22,42,22,41,42,0,20,12,7,10,2,4,5] ?_
      refine g_val 100 (v' := .int .i64 ((ni : Nat) : Int)) rfl (by rw [hni]) ?_
      refine s_q (zR (i := ni) rfl rfl rfl (InRow.rdb (A := (some ⟨g27, 0, none⟩)) (els := ((mark P9 ((applyE (runK (newE c) L k).1 yk).2.ps.take j))).map (fun v : Bool => [Value.bool v])) (by first | rfl | assumption | (simp; done) | (simp_all; done) | (simp; omega) | (simp_all; omega)) (zK (c := (fun v : Bool => [Value.bool v])) (fun _ => rfl) _)) (by first | exact hnl | omega)) rfl ?_
      refine g_op (zZ (A := (some ⟨g27, 0, none⟩)) (i := ni) (o := 0) (cs' := (fun v : Bool => [Value.bool v]) (true)) rfl rfl rfl rfl rfl (zS (by first | assumption | omega | (simp_all; done) | (simp_all; omega))) (by first | (simp; done) | exact Nat.le_refl _) rfl rfl ?_)
      refine zE (A := (some ⟨g27, 0, none⟩)) (((mark P9 ((applyE (runK (newE c) L k).1 yk).2.ps.take j)).set ni true).map (fun v : Bool => [Value.bool v])) (by simp only [List.map_set]) ?_
      refine rn [9,15,7,10,43,2,9] ?_
      refine zE (A := (some ⟨g27, 0, none⟩)) ((mark P9 ((applyE (runK (newE c) L k).1 yk).2.ps.take (j + 1))).map (fun v : Bool => [Value.bool v])) (by rw [rB lt_j, ← hpj, if_pos hf1, hni]; rfl) ?_
      exact g_ag (j + 1) (by (try dsimp only); exact (by first | exact lt_j | omega))
     ·have h5 : vj.st = 5 := by simpa using h5
      refine rn [21,21,21,21] ?_
      refine g_gu rfl rfl rfl ?_
      refine g_gu rfl rfl rfl ?_
      refine g_gu rfl rfl rfl ?_
      refine g_gu rfl rfl rfl ?_
      refine g_gu rfl rfl rfl ?_
      refine rn [21,22,42,42,0,20,12,7,10,2,4,5] ?_
      refine g_val 100 (v' := .int .i64 ((ni : Nat) : Int)) rfl (by rw [hni]) ?_
      refine s_q (zR (i := ni) rfl rfl rfl (InRow.rdb (A := (some ⟨g27, 0, none⟩)) (els := ((mark P9 ((applyE (runK (newE c) L k).1 yk).2.ps.take j))).map (fun v : Bool => [Value.bool v])) (by first | rfl | assumption | (simp; done) | (simp_all; done) | (simp; omega) | (simp_all; omega)) (zK (c := (fun v : Bool => [Value.bool v])) (fun _ => rfl) _)) (by first | exact hnl | omega)) rfl ?_
      refine g_op (zZ (A := (some ⟨g27, 0, none⟩)) (i := ni) (o := 0) (cs' := (fun v : Bool => [Value.bool v]) (true)) rfl rfl rfl rfl rfl (zS (by first | assumption | omega | (simp_all; done) | (simp_all; omega))) (by first | (simp; done) | exact Nat.le_refl _) rfl rfl ?_)
      refine zE (A := (some ⟨g27, 0, none⟩)) (((mark P9 ((applyE (runK (newE c) L k).1 yk).2.ps.take j)).set ni true).map (fun v : Bool => [Value.bool v])) (by simp only [List.map_set]) ?_
      refine rn [9,15,7,10,43,2,9] ?_
      refine zE (A := (some ⟨g27, 0, none⟩)) ((mark P9 ((applyE (runK (newE c) L k).1 yk).2.ps.take (j + 1))).map (fun v : Bool => [Value.bool v])) (by rw [rB lt_j, ← hpj, if_pos hf1, hni]; rfl) ?_
      exact g_ag (j + 1) (by (try dsimp only); exact (by first | exact lt_j | omega))
   ·have eq_j : j = (applyE (runK (newE c) L k).1 yk).2.ps.length := by have h9 := of_decide_eq_false h3; omega
    refine rn [16] ?_
    refine zF (zF (zQ ?_))
    refine rn [15,7,10,43,2,9] ?_
    refine zE (A := (some ⟨g27, 0, none⟩)) ((mark P9 (applyE (runK (newE c) L k).1 yk).2.ps).map (fun v : Bool => [Value.bool v])) (by rw [eq_j, List.take_length]) ?_
    refine g_resc (Eng p22 x41.a (applyE (runK (newE c) L k).1 yk).1) (Eng p22 x41.a (runK (newE c) L (k + 1)).1) (by rw [hk9]; rfl) ?_
    exact g_ag ((k + 1), x41.a, (mark P9 (applyE (runK (newE c) L k).1 yk).2.ps)) (by (try dsimp only); exact ⟨(by first | exact lt_k | omega), (by rw [hk9]; exact r41), (by rw [hk9]; exact once_end hi9 (by omega) yk hP9), (by rw [mark_len]; exact hL9)⟩)
  ·have eq_k : k = L.length := by have h9 := of_decide_eq_false h2; omega
   refine rn [16] ?_
   refine zF (zF (zQ ?_))
   refine rn [7,1] ?_
   refine g_op (zG rfl (fun w1 hw1 => runs_any w1) rfl ?_)
   refine rn [3,0,11] ?_
   exact fin1 rfl (.tmp rfl) (fun w' hw' => ⟨by first | rfl | (simp_all; done) | (simp_all; omega), hw'.upd⟩) _ (.inl rfl)
theorem main_topOnce (v0 : Value) (v1 : Value) (W : World) (a0 : Arg Tryz.prog W 24 v0) (a1 : Arg Tryz.prog W 25 v1) : Pur Tryz.prog 3 [v0, v1] W (.bool true) := by
 obtain ⟨cs, rfl, f, h⟩ := Arg.agg Tryz.underlying24 a0
 obtain ⟨c, rfl, k_c⟩ := openC f cs h
 obtain ⟨A_l, c_l, l, rfl, hle1, hm1, o_l, k_l⟩ := Arg.slice Op.c (fun x : Op => x.ok) Tryz.underlying25 (show Tryz.prog.cellsOf 35 = 4 by kernel_rfl) (by omega) (openOp) a1
 have h_l : l.length ≤ c_l ∧ c_l ≤ 9223372036854775807 := ⟨hle1, by unfold maxLen at hm1; omega⟩
 exact law_topOnce c A_l c_l l W k_c o_l h_l k_l
namespace LawTopOnce
open Go.ChangeShapes Go.WideShapes Go.ChangeAt Go.RowKit Go.Eg
set_option linter.unusedVariables false
theorem own : ownKnob Tryz.prog.godebug = none := by kernel_rfl
theorem laidOut : laidOutB Tryz.prog = true := by kernel_rfl
set_option maxRecDepth 100000 in
theorem lifted (os : Os) (started : os.Started) (H : Type) (enc : TypeId × Value → H) :
  ReturnsInHanded {} Tryz.checked os 3 .any (Rows.topOnceSpec.pre6 enc Tryz.prog Tryz.f3 Rows.topOnceRow.domain false) (Rows.topOnceSpec.post enc Tryz.prog Tryz.f3 false true false false) := by
 refine returnsInHanded_of_change (C := Tryz.checked) own started (by kernel_rfl) Tryz.func3
  (ChangeSpec.witness6 (enc := enc) (C := Tryz.checked) false ⟨#[], #[.agg #[.int .i64 0, .int .i64 0, .int .u64 0, .int .u64 0, .int .u64 0, .int .u64 0, .int .u64 0, .int .u64 0, .int .u64 0, .int .u64 0, .int .i64 0, .int .i64 0, .int .i64 0, .int .i64 0, .int .i64 0, .int .i64 0, .int .i64 0, .int .i64 0, .int .u64 0, .int .u64 0], .slice none 0 0], []⟩ 8 (by kernel_rfl) (by kernel_rfl) (by kernel_rfl) (by kernel_rfl)) ?_
 intro W base args ds gs before hval0 hW hcnd _
 have hval : ∀ (j : Nat) t v, Tryz.f3.params[j]? = some t → args[j]? = some v → Value.okWide Tryz.prog W .any base t v := hval0
 have hW' := hW
 obtain ⟨p, q, hA0, hV, rfl, hfz, hnd⟩ := hW
 have hA : DataW.TrodAll enc Tryz.prog W 0 (fun _ => true) true Tryz.f3.params.toList args.toList ds p := hA0
 rw [Tryz.params3] at hA hval
 obtain ⟨v0, vs0, d0, ds0, p0, q0, hargs, rfl, rfl, h0, r0⟩ := trodAll_cons hA
 obtain ⟨v1, vs1, d1, ds1, p1, q1, rfl, rfl, rfl, h1, r1⟩ := trodAll_cons r0
 obtain ⟨rfl, rfl, rfl⟩ := trodAll_nil r1
 obtain rfl : args = #[v0, v1] := by cases args; simp_all
 obtain ⟨rfl, rfl⟩ := trodVars_none hV
 have a0 := Arg.of h0 (hval 0 24 v0 rfl rfl)
 have lt0 : ∀ x ∈ p0, x.block < W.heap.size := by obtain ⟨m, hm⟩ := h0; exact DataW.trod_lt m _ _ _ hm
 have a1 := Arg.of h1 (hval 1 25 v1 rfl rfl)
 have lt1 : ∀ x ∈ p1, x.block < W.heap.size := by obtain ⟨m, hm⟩ := h1; exact DataW.trod_lt m _ _ _ hm
 clear hA0 hval0
 simp only [List.append_nil] at hW'
 refine Calls.mono (main_topOnce v0 v1 W a0 a1) ?_
 rintro e W' ⟨v, rfl, rfl, hu⟩
 have bel := hu.below
 have targ := (trodAll_cons_mk (Below.trod laidOut (by kernel_rfl) (of_decide_eq_true (by kernel_rfl)) h0 bel lt0) (trodAll_cons_mk (Below.trod laidOut (by kernel_rfl) (of_decide_eq_true (by kernel_rfl)) h1 bel lt1) trodAll_mk0))
 simp only [List.append_nil] at targ
 exact ⟨_, rfl, _, _, _, [], _, [], hW', trodAll_mk1 (shut_bool Tryz.underlying4 _), targ, rfl, bel.frame _, fun h => by cases h⟩
theorem and_t {a b : Bool} (ha : a = true) (hb : b = true) : (a && b) = true := by rw [ha, hb]; rfl
theorem jf0 : (Rows.topOnceRow.wf (OpenSpec.ofChange Rows.topOnceSpec)) = true := by kernel_rfl
theorem jf1 : (laidOutB Tryz.pinned.checked.prog) = true := by kernel_rfl
theorem jf2 : (mapsRowed Tryz.pinned.checked.prog) = true := by kernel_rfl
theorem jf3 : (Tryz.f3.params.all (Tryz.pinned.checked.prog.readableRec ·)) = true := by kernel_rfl
theorem jf4 : (namedTie Tryz.pinned.checked.prog Rows.topOnceRow.named Rows.topOnceSpec.vars) = true := by kernel_rfl
theorem jf5 : ((Rows.topOnceRow.stops == [])) = true := by kernel_rfl
theorem jf6 : ((Tryz.pinned.checked.prog.stops == [])) = true := by kernel_rfl
theorem jf7 : ((Rows.topOnceRow.knobs == [])) = true := by kernel_rfl
theorem jf8 : ((Tryz.pinned.checked.prog.stopKnobs == [])) = true := by kernel_rfl
theorem jf9 : ((Rows.topOnceRow.inPlace == Tryz.pinned.checked.prog.inPlace 3)) = true := by kernel_rfl
theorem jf10 : ((Rows.topOnceRow.unfollowed == Tryz.pinned.checked.prog.unfollowed 3)) = true := by kernel_rfl
theorem jf11 : ((Rows.topOnceRow.recurses == Tryz.pinned.checked.prog.recurses 3)) = true := by kernel_rfl
theorem jf12 : ((Rows.topOnceRow.named == Tryz.pinned.checked.prog.varsNamed 3)) = true := by kernel_rfl
theorem jf13 : ((Rows.topOnceRow.maps == (Tryz.f3.params.toList ++ Rows.topOnceSpec.plain.varTypes Tryz.pinned.checked.prog).any (Tryz.pinned.checked.prog.mapsRec ·))) = true := by kernel_rfl
theorem jf14 : ((Rows.topOnceRow.ifaces == (Tryz.f3.params.toList ++ Rows.topOnceSpec.plain.varTypes Tryz.pinned.checked.prog).any (Tryz.pinned.checked.prog.ifacesRec ·))) = true := by kernel_rfl
theorem jf15 : ((Rows.topOnceRow.mapsOut == Tryz.pinned.checked.prog.mapsAmong Tryz.f3.resultTypes.toList)) = true := by kernel_rfl
theorem jf16 : ((Rows.topOnceRow.loops == (Tryz.f3.params.toList ++ Rows.topOnceSpec.plain.varTypes Tryz.pinned.checked.prog).any (Tryz.pinned.checked.prog.loopsFrom ·))) = true := by kernel_rfl
theorem jf17 : ((Rows.topOnceRow.wideKeys == (Tryz.f3.params.toList ++ Rows.topOnceSpec.plain.varTypes Tryz.pinned.checked.prog ++ Tryz.f3.resultTypes.toList).any (Tryz.pinned.checked.prog.wideKeysFrom ·))) = true := by kernel_rfl
theorem jf18 : (Rows.topOnceSpec.vars.all (Tryz.pinned.checked.prog.varReadable ·)) = true := by kernel_rfl
theorem jf19 : (Tryz.f3.resultTypes.all (fun t => Tryz.pinned.checked.prog.readableRec t && decide (t < Tryz.pinned.checked.prog.types.size))) = true := by kernel_rfl
theorem jf20 : ((Rows.topOnceRow.ifacesOut == Tryz.f3.resultTypes.toList.any (Tryz.pinned.checked.prog.ifacesRec ·))) = true := by kernel_rfl
theorem jf21 : ((Rows.topOnceRow.loopsOut == Tryz.f3.resultTypes.toList.any (Tryz.pinned.checked.prog.loopsFrom ·))) = true := by kernel_rfl
theorem jf22 : ((Rows.topOnceRow.plainKeys == Tryz.pinned.checked.prog.plainKeys)) = true := by kernel_rfl
theorem jf23 : (Rows.topOnceRow.shortTexts.isNone) = true := by kernel_rfl
theorem jf24 : (Tryz.pinned.checked.prog.stopsHeard) = true := by kernel_rfl
theorem jf25 : (Tryz.pinned.checked.prog.mayEnter) = true := by kernel_rfl
theorem jf26 : ((Rows.topOnceRow.lifted == Tryz.pinned.checked.prog.liftsFinal)) = true := by kernel_rfl
theorem jf27 : ((Tryz.pinned.checked.prog.make == some Rows.topOnceRow.make)) = true := by kernel_rfl
theorem jf28 : ((Rows.topOnceRow.kinds == (if Rows.topOnceRow.domain.isEmpty then [] else Tryz.f3.params.toList.map fun t => match Tryz.pinned.checked.prog.underlying t with | some (.int k) => some k | _ => none))) = true := by kernel_rfl
theorem jf29 : ((Rows.topOnceRow.pinned == Rows.topOnceRow.pinnedBy)) = true := by kernel_rfl
theorem jf30 : ((Rows.topOnceRow.veiled == (Tryz.f3.params.toList ++ Rows.topOnceSpec.plain.varTypes Tryz.pinned.checked.prog ++ Tryz.f3.resultTypes.toList).any (Tryz.pinned.checked.prog.veiledRec ·))) = true := by kernel_rfl
theorem jf31 : (Rows.topOnceRow.veiledFits Tryz.pinned.checked.prog Tryz.f3.params.toList (Tryz.f3.params.toList ++ Rows.topOnceSpec.plain.varTypes Tryz.pinned.checked.prog ++ Tryz.f3.resultTypes.toList)) = true := by kernel_rfl
theorem closed : joinedFacts Tryz.pinned.checked.prog 3 Tryz.f3 Rows.topOnceSpec Rows.topOnceRow = true := and_t (and_t (and_t (and_t (and_t (and_t (and_t (and_t (and_t (and_t (and_t (and_t (and_t (and_t (and_t (and_t (and_t (and_t (and_t (and_t (and_t (and_t (and_t (and_t (and_t (and_t (and_t (and_t (and_t (and_t (and_t (jf0) jf1) jf2) jf3) jf4) jf5) jf6) jf7) jf8) jf9) jf10) jf11) jf12) jf13) jf14) jf15) jf16) jf17) jf18) jf19) jf20) jf21) jf22) jf23) jf24) jf25) jf26) jf27) jf28) jf29) jf30) jf31
theorem over : Rows.topOnceRow.holds Tryz.pinned (OpenSpec.ofChange Rows.topOnceSpec) :=
 OpenClaim.holds_of_wide 3 Tryz.f3 rfl rfl rfl rfl rfl rfl rfl ⟨rfl, rfl, rfl, rfl, rfl⟩ rfl rfl rfl rfl rfl (by kernel_rfl) Tryz.func3 closed
  (of_decide_eq_true (by kernel_rfl)) (by unfold Func.isWrapper; first | (rw [if_pos (by decide +kernel)]; kernel_rfl) | (rw [if_neg (by decide +kernel)]; exact ⟨rfl, rfl⟩))
  (fun os started H enc _ => lifted os started H enc)
theorem proved : Rows.TopOnceSaid := over
end LawTopOnce
end Go.Proofs.YtdddiilocbbkkaaGreat
