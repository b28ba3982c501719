/- TopForced: for every configuration and all operations the law returns true. No condition. Part 11 of 42. -/
import Derived.Test.YtdddiilocbbkkaaGreatTF10
set_option linter.unusedVariables false
set_option linter.unusedSimpArgs false
namespace Go.Proofs.YtdddiilocbbkkaaGreat
open Go.RowKit Go.Eg
set_option maxHeartbeats 4000000
set_option synthInstance.maxSize 3000
set_option maxRecDepth 100000
theorem step16_any (A B : Option Addr) (n cap capq P : Nat) (l : List V) (q : List PP) (c : C) (w : World) (hl : Rd w [] A n 7 (l.map V.c)) (hq : Rd w [] B q.length 2 (q.map PP.c)) (hcq : q.length ≤ capq) (hb : n ≤ 1000000) (hbq : q.length ≤ 1000000) (hP : c.merg = ((P : Nat) : Int)) (hok : okV l) : Own2 (ι := (Option Addr × Nat × Option Addr × Nat)) Tryz.prog 154 [.slice A n cap, .slice B q.length capq, c.v] w [] (fun x => True) (fun x => .tuple [.slice x.1 l.length x.2.1, .slice x.2.2.1 (runM c l (q.take (min q.length P))).2.length x.2.2.2].toArray) (fun x => [Res.row x.1 l.length x.2.1 52 7 ((runM c l (q.take (min q.length P))).1.map V.c), Res.row x.2.2.1 (runM c l (q.take (min q.length P))).2.length x.2.2.2 4 1 ((runM c l (q.take (min q.length P))).2.map (fun v : Bool => [Value.bool v]))]) (fun x => []) := by
 refine g_st Tryz.func154 67 (WOK.start (fps []) _) ?_
 have hn : n = l.length := by have := hl.old.len; simpa using this
 refine rn [1] ?_
 refine g_op (g_box rfl rfl rfl fun b5 => ?_)
 refine rn [3,3,0,1,2] ?_
 refine g_op (zH [] rfl (fun w1 hw1 ho1 => by have h7 := clone_v A (n) (cap) (l) w1 (Rd.ofRd hw1 hl (by omega)) (by first | omega | (simp; omega)); exact h7) rfl ?_)
 rintro ⟨A14, cap14⟩ _
 refine ii ?_
 refine rn [3,0,1,3] ?_
 refine xM 9 4 1 rfl fun Az1 capz1 hcz1 => ?_
 refine zF (A := Az1) (([] : List Bool).map (fun v : Bool => [Value.bool v])) rfl ?_
 refine rn [0,8,1,2,2,47,4,5,58] ?_
 refine g_val 20 (v' := .int .i64 (((min q.length P) : Nat) : Int)) rfl (by rw [hP]; congr 1; omega) ?_
 refine s_q (yV (h := (min q.length P)) rfl rfl rfl (by omega)) rfl ?_
 refine rn [47,2,0,14] ?_
 refine zF (A := A14) ((runM c l (q.take 0)).1.map V.c) (by simp [runM]) ?_
 refine zF (A := Az1) ((runM c l (q.take 0)).2.map (fun v : Bool => [Value.bool v])) (by simp [runM]) ?_
 refine yC (A := Az1) (runM c l (q.take 0)).2.length (by simp [runM]) ?_
 refine g_val 9 (v' := .slice Az1 (runM c l (q.take 0)).2.length capz1) rfl (by simp [runM]) ?_
 refine g_lk [5, 6, 7, 8, 21, 22] (fun (x : Nat × Option Addr × Nat) => [(9, .slice x.2.1 (runM c l (q.take x.1)).2.length x.2.2), (23, .int .i64 ((x.1 : Nat) : Int))]) (fun (x : Nat × Option Addr × Nat) => [Res.blk b5 24 c.c, Res.row A14 (l).length cap14 52 7 ((runM c l (q.take x.1)).1.map V.c), Res.row x.2.1 (runM c l (q.take x.1)).2.length x.2.2 4 1 ((runM c l (q.take x.1)).2.map (fun v : Bool => [Value.bool v]))]) (fun (x : Nat × Option Addr × Nat) => x.1 ≤ (min q.length P)) (fun (x : Nat × Option Addr × Nat) => (min q.length P) - x.1) (0, Az1, capz1) (by (try dsimp only); exact Nat.zero_le _) ?_
 rintro ⟨k, B1, capb⟩ le_k
 replace le_k : k ≤ (min q.length P) := le_k
 refine zX (L' := [Res.blk b5 24 c.c, Res.row A14 (l).length cap14 52 7 ((runM c l (q.take k)).1.map V.c), Res.row B1 (runM c l (q.take k)).2.length capb 4 1 ((runM c l (q.take k)).2.map (fun v : Bool => [Value.bool v]))]) rfl ?_
 refine g_val 9 (v' := .slice B1 (runM c l (q.take k)).2.length capb) rfl rfl ?_
 refine g_val 23 (v' := .int .i64 ((k : Nat) : Int)) rfl rfl ?_
 have hr4 := (yF c l (q.take k)).1
 have hr5 := (yF c l (q.take k)).2
 have hr6 : (q.take k).length ≤ k := List.length_take_le _ _
 have hokk := okV_run (c := c) (q.take k) hok
 refine rn [1,46,0,8] ?_
 refine zC rfl (fun h1 => ?_) (fun h1 => ?_)
 ·have lt_k : k < (min q.length P) := by have h9 := of_decide_eq_true h1; omega
  have lt_q : k < q.length := by omega
  refine rn [12,7,8,14,1] ?_
  refine s_q (zR (i := k) rfl rfl rfl (hq.rdb.h (cap := capq) (by omega) hcq) (by first | exact lt_k | omega)) rfl ?_
  refine s_q (zT (i := k) rfl (hq.rdb.h (cap := capq) (by omega) hcq) (take_get (l := q) (m := (min q.length P)) (by first | exact (by first | exact lt_k | omega) | omega) (by omega)) rfl) rfl ?_
  refine g_op (zI rfl fun b11 => ?_)
  refine rn [33,0,1,2] ?_
  refine s_q (yR (i := 0) rfl rfl rfl (by decide)) rfl ?_
  refine rn [5] ?_
  refine s_q (yR (i := 1) rfl rfl rfl (by decide)) rfl ?_
  refine rn [5,45] ?_
  refine g_op (zG rfl (fun w1 hw1 => req_any A14 (l.length) (cap14) ((runM c l (q.take k)).1) (_) (_) _ w1 (Rdb.toOld (InRow.rdb (A := A14) (els := ((runM c l (q.take k)).1).map V.c) (by simp [yF]) (zM (c := V.c) (fun _ => rfl) _)) hw1) hokk (by first | omega | (simp; omega))) rfl ?_)
  refine rn [44,3,0,8,1,2,0] ?_
  refine zC rfl (fun h2 => ?_) (fun h2 => ?_)
  ·have hreq := of_decide_eq_true h2
   obtain ⟨g1, g2, g3, g4, g5, g6⟩ := req_ok hreq
   obtain ⟨ni, hni⟩ : ∃ t : Nat, (q[k]).a = t := ⟨(q[k]).a.toNat, by omega⟩
   obtain ⟨nj, hnj⟩ : ∃ t : Nat, (q[k]).b = t := ⟨(q[k]).b.toNat, by omega⟩
   have hi : ni < (runM c l (q.take k)).1.length := by omega
   have hj : nj < (runM c l (q.take k)).1.length := by omega
   have hi2 : ni < l.length := by omega
   have hj2 : nj < l.length := by omega
   rw [atV_get hni hi, atV_get hnj hj] at g6
   have bi := hokk _ (List.getElem_mem hi)
   have bj := hokk _ (List.getElem_mem hj)
   refine dregL (L0 := [Res.blk b11 106 (PP.c (q[k])), Res.blk b5 24 c.c]) [] mixed rfl zB ?_
   refine rn [23,0,2] ?_
   refine dq 1 rfl (yR (i := 0) rfl rfl rfl (by decide)) ?_
   refine rn [23,2,5] ?_
   refine g_val 39 (v' := .int .i64 ((ni : Nat) : Int)) rfl (by rw [hni]) ?_
   refine rn [23,3,2] ?_
   refine dq 4 rfl (yR (i := 1) rfl rfl rfl (by decide)) ?_
   refine rn [23,5,5] ?_
   refine g_val 42 (v' := .int .i64 ((nj : Nat) : Int)) rfl (by rw [hnj]) ?_
   refine rn [23,6,2] ?_
   refine dq 7 rfl (yR (i := 0) rfl rfl rfl (by decide)) ?_
   refine rn [23,8,5] ?_
   refine g_val 45 (v' := .int .i64 ((ni : Nat) : Int)) rfl (by rw [hni]) ?_
   refine rn [23,11,2] ?_
   refine dq 12 rfl (yR (i := 1) rfl rfl rfl (by decide)) ?_
   refine rn [23,13,5] ?_
   refine g_val 50 (v' := .int .i64 ((nj : Nat) : Int)) rfl (by rw [hnj]) ?_
   refine rn [23,16,45] ?_
   refine yB [9, 14] (by kernel_rfl) (by simp) zB ⟨dpick rfl (G.quiet (zR (i := ni) rfl rfl rfl (InRow.rdb (A := A14) (els := ((runM c l (q.take k)).1).map V.c) (by simp [yF]) (zM (c := V.c) (fun _ => rfl) _)) (by first | omega | (simp; done) | (simp; omega))) rfl ?_), dpick rfl (G.quiet (zR (i := nj) rfl rfl rfl (InRow.rdb (A := A14) (els := ((runM c l (q.take k)).1).map V.c) (by simp [yF]) (zM (c := V.c) (fun _ => rfl) _)) (by first | omega | (simp; done) | (simp; omega))) rfl ?_), trivial⟩
   ·refine yB [10, 14] (by kernel_rfl) (by simp) zB ⟨dpick rfl (G.quiet (zT (i := ni) rfl (InRow.rdb (A := A14) (els := ((runM c l (q.take k)).1).map V.c) (by simp [yF]) (zM (c := V.c) (fun _ => rfl) _)) (zS (by first | assumption | omega | (simp_all; done) | (simp_all; omega))) rfl) rfl ?_), dpick rfl (G.quiet (zR (i := nj) rfl rfl rfl (InRow.rdb (A := A14) (els := ((runM c l (q.take k)).1).map V.c) (by simp [yF]) (zM (c := V.c) (fun _ => rfl) _)) (by first | omega | (simp; done) | (simp; omega))) rfl ?_), trivial⟩
    ·refine dop 14 rfl (G.quiet (zR (i := nj) rfl rfl rfl (InRow.rdb (A := A14) (els := ((runM c l (q.take k)).1).map V.c) (by simp [yF]) (zM (c := V.c) (fun _ => rfl) _)) (by first | omega | (simp; done) | (simp; omega))) rfl ?_)
     refine dop 15 rfl (G.quiet (zT (i := nj) rfl (InRow.rdb (A := A14) (els := ((runM c l (q.take k)).1).map V.c) (by simp [yF]) (zM (c := V.c) (fun _ => rfl) _)) (zS (by first | assumption | omega | (simp_all; done) | (simp_all; omega))) rfl) rfl ?_)
     refine dop 17 rfl (zG rfl (fun w1 hw1 => xW _ _ c w1 bi bj) rfl ?_)
     refine rn [23,18,2,23,19,40,23,20,40,23,21,40] ?_
     refine dop 22 rfl (G.quiet (zR (i := ni) rfl rfl rfl (InRow.rdb (A := A14) (els := ((runM c l (q.take k)).1).map V.c) (by simp [yF]) (zM (c := V.c) (fun _ => rfl) _)) (by first | omega | (simp; done) | (simp; omega))) rfl ?_)
     refine dop 23 rfl (yA (A := A14) (i := ni) (o := 0) (cs' := V.c ((apS ((runM c l (q.take k)).1[ni]) ((runM c l (q.take k)).1[nj]) c))) rfl rfl rfl rfl rfl (zS (by first | assumption | omega | (simp_all; done) | (simp_all; omega))) (by first | (simp; done) | exact Nat.le_refl _) rfl (yE rfl) ?_)
     refine zF (A := A14) (((runM c l (q.take k)).1.set ni (apS ((runM c l (q.take k)).1[ni]) ((runM c l (q.take k)).1[nj]) c)).map V.c) (by simp only [List.map_set]) ?_
     refine dop 24 rfl (G.quiet (zR (i := nj) rfl rfl rfl (InRow.rdb (A := A14) (els := (((runM c l (q.take k)).1.set ni (apS ((runM c l (q.take k)).1[ni]) ((runM c l (q.take k)).1[nj]) c))).map V.c) (by first | rfl | assumption | (simp; done) | (simp_all; done) | (simp; omega) | (simp_all; omega)) (zM (c := V.c) (fun _ => rfl) _)) (by first | omega | (simp; done) | (simp; omega))) rfl ?_)
     refine dop 25 rfl (yA (A := A14) (i := nj) (o := 0) (cs' := V.c ((apD ((runM c l (q.take k)).1[ni]) ((runM c l (q.take k)).1[nj]) c))) rfl rfl rfl rfl rfl (zS (by first | assumption | omega | (simp_all; done) | (simp_all; omega))) (by first | (simp; done) | exact Nat.le_refl _) rfl (yE rfl) ?_)
     refine zF (A := A14) ((((runM c l (q.take k)).1.set ni (apS ((runM c l (q.take k)).1[ni]) ((runM c l (q.take k)).1[nj]) c)).set nj (apD ((runM c l (q.take k)).1[ni]) ((runM c l (q.take k)).1[nj]) c)).map V.c) (by simp only [List.map_set]) ?_
     refine rn [27,7,10,2,2] ?_
     refine g_op (g_lit rfl rfl rfl rfl rfl fun b62 => ?_)
     refine zJ (b := b62) ((([(decide (reqV (runM c l (q.take k)).1 (q[k]).a (q[k]).b c = 0))] : List Bool).map (fun v : Bool => [Value.bool v])).flatten) rfl ?_
     refine g_op (zY (A := B1) (els := ((runM c l (q.take k)).2).map (fun v : Bool => [Value.bool v])) (news := (([(decide (reqV (runM c l (q.take k)).1 (q[k]).a (q[k]).b c = 0))] : List Bool).map (fun v : Bool => [Value.bool v]))) rfl rfl (InL.rdb (b := b62) rfl (by simp) rfl) (yG (c := (fun v : Bool => [Value.bool v])) (by intro x; simp [Value.oneCell']) _) (by first | omega | (simp; omega) | (simp_all; omega)) rfl fun A63 cap63 => ⟨_, inferInstance, ?_⟩)
     refine zF (A := A63) ((((runM c l (q.take k)).2 ++ [(decide (reqV (runM c l (q.take k)).1 (q[k]).a (q[k]).b c = 0))])).map (fun v : Bool => [Value.bool v])) (by first | rfl | exact List.map_append.symm | (simp; done)) ?_
     refine rn [3,9,15,7,10,43,2,9] ?_
     have e2 : (runM c l (q.take k)).2 ++ [decide (reqV (runM c l (q.take k)).1 (q[k]).a (q[k]).b c = 0)] = (runM c l (q.take (k + 1))).2 := by rw [yU lt_q]; rfl
     have e3 : (runM c l (q.take k)).2.length + 1 = (runM c l (q.take (k + 1))).2.length := by rw [← e2]; simp
     have e1 : ((runM c l (q.take k)).1.set ni (apS (runM c l (q.take k)).1[ni] (runM c l (q.take k)).1[nj] c)).set nj (apD (runM c l (q.take k)).1[ni] (runM c l (q.take k)).1[nj] c) = (runM c l (q.take (k + 1))).1 := by rw [yU lt_q, step_in hni hnj hi hj g6]; unfold stepM16; dsimp only; rw [if_pos (show okReq (runM c l (q.take k)).1 (q[k]) c = true from h2)]
     rw [e3, e2, e1]
     exact g_ag ((k + 1), A63, cap63) (by (try dsimp only); exact (by first | exact lt_k | omega))
    ·refine yB [10, 15] (by kernel_rfl) (by simp) zB ⟨dpick rfl (G.quiet (zT (i := ni) rfl (InRow.rdb (A := A14) (els := ((runM c l (q.take k)).1).map V.c) (by simp [yF]) (zM (c := V.c) (fun _ => rfl) _)) (zS (by first | assumption | omega | (simp_all; done) | (simp_all; omega))) rfl) rfl ?_), dpick rfl (G.quiet (zT (i := nj) rfl (InRow.rdb (A := A14) (els := ((runM c l (q.take k)).1).map V.c) (by simp [yF]) (zM (c := V.c) (fun _ => rfl) _)) (zS (by first | assumption | omega | (simp_all; done) | (simp_all; omega))) rfl) rfl ?_), trivial⟩
     ·refine dop 15 rfl (G.quiet (zT (i := nj) rfl (InRow.rdb (A := A14) (els := ((runM c l (q.take k)).1).map V.c) (by simp [yF]) (zM (c := V.c) (fun _ => rfl) _)) (zS (by first | assumption | omega | (simp_all; done) | (simp_all; omega))) rfl) rfl ?_)
      refine dop 17 rfl (zG rfl (fun w1 hw1 => xW _ _ c w1 bi bj) rfl ?_)
      refine rn [23,18,2,23,19,40,23,20,40,23,21,40] ?_
      refine dop 22 rfl (G.quiet (zR (i := ni) rfl rfl rfl (InRow.rdb (A := A14) (els := ((runM c l (q.take k)).1).map V.c) (by simp [yF]) (zM (c := V.c) (fun _ => rfl) _)) (by first | omega | (simp; done) | (simp; omega))) rfl ?_)
      refine dop 23 rfl (yA (A := A14) (i := ni) (o := 0) (cs' := V.c ((apS ((runM c l (q.take k)).1[ni]) ((runM c l (q.take k)).1[nj]) c))) rfl rfl rfl rfl rfl (zS (by first | assumption | omega | (simp_all; done) | (simp_all; omega))) (by first | (simp; done) | exact Nat.le_refl _) rfl (yE rfl) ?_)
      refine zF (A := A14) (((runM c l (q.take k)).1.set ni (apS ((runM c l (q.take k)).1[ni]) ((runM c l (q.take k)).1[nj]) c)).map V.c) (by simp only [List.map_set]) ?_
      refine dop 24 rfl (G.quiet (zR (i := nj) rfl rfl rfl (InRow.rdb (A := A14) (els := (((runM c l (q.take k)).1.set ni (apS ((runM c l (q.take k)).1[ni]) ((runM c l (q.take k)).1[nj]) c))).map V.c) (by first | rfl | assumption | (simp; done) | (simp_all; done) | (simp; omega) | (simp_all; omega)) (zM (c := V.c) (fun _ => rfl) _)) (by first | omega | (simp; done) | (simp; omega))) rfl ?_)
      refine dop 25 rfl (yA (A := A14) (i := nj) (o := 0) (cs' := V.c ((apD ((runM c l (q.take k)).1[ni]) ((runM c l (q.take k)).1[nj]) c))) rfl rfl rfl rfl rfl (zS (by first | assumption | omega | (simp_all; done) | (simp_all; omega))) (by first | (simp; done) | exact Nat.le_refl _) rfl (yE rfl) ?_)
      refine zF (A := A14) ((((runM c l (q.take k)).1.set ni (apS ((runM c l (q.take k)).1[ni]) ((runM c l (q.take k)).1[nj]) c)).set nj (apD ((runM c l (q.take k)).1[ni]) ((runM c l (q.take k)).1[nj]) c)).map V.c) (by simp only [List.map_set]) ?_
      refine rn [27,7,10,2,2] ?_
      refine g_op (g_lit rfl rfl rfl rfl rfl fun b62 => ?_)
      refine zJ (b := b62) ((([(decide (reqV (runM c l (q.take k)).1 (q[k]).a (q[k]).b c = 0))] : List Bool).map (fun v : Bool => [Value.bool v])).flatten) rfl ?_
      refine g_op (zY (A := B1) (els := ((runM c l (q.take k)).2).map (fun v : Bool => [Value.bool v])) (news := (([(decide (reqV (runM c l (q.take k)).1 (q[k]).a (q[k]).b c = 0))] : List Bool).map (fun v : Bool => [Value.bool v]))) rfl rfl (InL.rdb (b := b62) rfl (by simp) rfl) (yG (c := (fun v : Bool => [Value.bool v])) (by intro x; simp [Value.oneCell']) _) (by first | omega | (simp; omega) | (simp_all; omega)) rfl fun A63 cap63 => ⟨_, inferInstance, ?_⟩)
      refine zF (A := A63) ((((runM c l (q.take k)).2 ++ [(decide (reqV (runM c l (q.take k)).1 (q[k]).a (q[k]).b c = 0))])).map (fun v : Bool => [Value.bool v])) (by first | rfl | exact List.map_append.symm | (simp; done)) ?_
      refine rn [3,9,15,7,10,43,2,9] ?_
      have e2 : (runM c l (q.take k)).2 ++ [decide (reqV (runM c l (q.take k)).1 (q[k]).a (q[k]).b c = 0)] = (runM c l (q.take (k + 1))).2 := by rw [yU lt_q]; rfl
      have e3 : (runM c l (q.take k)).2.length + 1 = (runM c l (q.take (k + 1))).2.length := by rw [← e2]; simp
      have e1 : ((runM c l (q.take k)).1.set ni (apS (runM c l (q.take k)).1[ni] (runM c l (q.take k)).1[nj] c)).set nj (apD (runM c l (q.take k)).1[ni] (runM c l (q.take k)).1[nj] c) = (runM c l (q.take (k + 1))).1 := by rw [yU lt_q, step_in hni hnj hi hj g6]; unfold stepM16; dsimp only; rw [if_pos (show okReq (runM c l (q.take k)).1 (q[k]) c = true from h2)]
      rw [e3, e2, e1]
      exact g_ag ((k + 1), A63, cap63) (by (try dsimp only); exact (by first | exact lt_k | omega))
     ·refine dop 10 rfl (G.quiet (zT (i := ni) rfl (InRow.rdb (A := A14) (els := ((runM c l (q.take k)).1).map V.c) (by simp [yF]) (zM (c := V.c) (fun _ => rfl) _)) (zS (by first | assumption | omega | (simp_all; done) | (simp_all; omega))) rfl) rfl ?_)
      refine dop 17 rfl (zG rfl (fun w1 hw1 => xW _ _ c w1 bi bj) rfl ?_)
      refine rn [23,18,2,23,19,40,23,20,40,23,21,40] ?_
      refine dop 22 rfl (G.quiet (zR (i := ni) rfl rfl rfl (InRow.rdb (A := A14) (els := ((runM c l (q.take k)).1).map V.c) (by simp [yF]) (zM (c := V.c) (fun _ => rfl) _)) (by first | omega | (simp; done) | (simp; omega))) rfl ?_)
      refine dop 23 rfl (yA (A := A14) (i := ni) (o := 0) (cs' := V.c ((apS ((runM c l (q.take k)).1[ni]) ((runM c l (q.take k)).1[nj]) c))) rfl rfl rfl rfl rfl (zS (by first | assumption | omega | (simp_all; done) | (simp_all; omega))) (by first | (simp; done) | exact Nat.le_refl _) rfl (yE rfl) ?_)
      refine zF (A := A14) (((runM c l (q.take k)).1.set ni (apS ((runM c l (q.take k)).1[ni]) ((runM c l (q.take k)).1[nj]) c)).map V.c) (by simp only [List.map_set]) ?_
      refine dop 24 rfl (G.quiet (zR (i := nj) rfl rfl rfl (InRow.rdb (A := A14) (els := (((runM c l (q.take k)).1.set ni (apS ((runM c l (q.take k)).1[ni]) ((runM c l (q.take k)).1[nj]) c))).map V.c) (by first | rfl | assumption | (simp; done) | (simp_all; done) | (simp; omega) | (simp_all; omega)) (zM (c := V.c) (fun _ => rfl) _)) (by first | omega | (simp; done) | (simp; omega))) rfl ?_)
      refine dop 25 rfl (yA (A := A14) (i := nj) (o := 0) (cs' := V.c ((apD ((runM c l (q.take k)).1[ni]) ((runM c l (q.take k)).1[nj]) c))) rfl rfl rfl rfl rfl (zS (by first | assumption | omega | (simp_all; done) | (simp_all; omega))) (by first | (simp; done) | exact Nat.le_refl _) rfl (yE rfl) ?_)
      refine zF (A := A14) ((((runM c l (q.take k)).1.set ni (apS ((runM c l (q.take k)).1[ni]) ((runM c l (q.take k)).1[nj]) c)).set nj (apD ((runM c l (q.take k)).1[ni]) ((runM c l (q.take k)).1[nj]) c)).map V.c) (by simp only [List.map_set]) ?_
      refine rn [27,7,10,2,2] ?_
      refine g_op (g_lit rfl rfl rfl rfl rfl fun b62 => ?_)
      refine zJ (b := b62) ((([(decide (reqV (runM c l (q.take k)).1 (q[k]).a (q[k]).b c = 0))] : List Bool).map (fun v : Bool => [Value.bool v])).flatten) rfl ?_
      refine g_op (zY (A := B1) (els := ((runM c l (q.take k)).2).map (fun v : Bool => [Value.bool v])) (news := (([(decide (reqV (runM c l (q.take k)).1 (q[k]).a (q[k]).b c = 0))] : List Bool).map (fun v : Bool => [Value.bool v]))) rfl rfl (InL.rdb (b := b62) rfl (by simp) rfl) (yG (c := (fun v : Bool => [Value.bool v])) (by intro x; simp [Value.oneCell']) _) (by first | omega | (simp; omega) | (simp_all; omega)) rfl fun A63 cap63 => ⟨_, inferInstance, ?_⟩)
      refine zF (A := A63) ((((runM c l (q.take k)).2 ++ [(decide (reqV (runM c l (q.take k)).1 (q[k]).a (q[k]).b c = 0))])).map (fun v : Bool => [Value.bool v])) (by first | rfl | exact List.map_append.symm | (simp; done)) ?_
      refine rn [3,9,15,7,10,43,2,9] ?_
      have e2 : (runM c l (q.take k)).2 ++ [decide (reqV (runM c l (q.take k)).1 (q[k]).a (q[k]).b c = 0)] = (runM c l (q.take (k + 1))).2 := by rw [yU lt_q]; rfl
      have e3 : (runM c l (q.take k)).2.length + 1 = (runM c l (q.take (k + 1))).2.length := by rw [← e2]; simp
      have e1 : ((runM c l (q.take k)).1.set ni (apS (runM c l (q.take k)).1[ni] (runM c l (q.take k)).1[nj] c)).set nj (apD (runM c l (q.take k)).1[ni] (runM c l (q.take k)).1[nj] c) = (runM c l (q.take (k + 1))).1 := by rw [yU lt_q, step_in hni hnj hi hj g6]; unfold stepM16; dsimp only; rw [if_pos (show okReq (runM c l (q.take k)).1 (q[k]) c = true from h2)]
      rw [e3, e2, e1]
      exact g_ag ((k + 1), A63, cap63) (by (try dsimp only); exact (by first | exact lt_k | omega))
   ·refine yB [9, 15] (by kernel_rfl) (by simp) zB ⟨dpick rfl (G.quiet (zR (i := ni) rfl rfl rfl (InRow.rdb (A := A14) (els := ((runM c l (q.take k)).1).map V.c) (by simp [yF]) (zM (c := V.c) (fun _ => rfl) _)) (by first | omega | (simp; done) | (simp; omega))) rfl ?_), dpick rfl (G.quiet (zT (i := nj) rfl (InRow.rdb (A := A14) (els := ((runM c l (q.take k)).1).map V.c) (by simp [yF]) (zM (c := V.c) (fun _ => rfl) _)) (zS (by first | assumption | omega | (simp_all; done) | (simp_all; omega))) rfl) rfl ?_), trivial⟩
    ·refine yB [10, 15] (by kernel_rfl) (by simp) zB ⟨dpick rfl (G.quiet (zT (i := ni) rfl (InRow.rdb (A := A14) (els := ((runM c l (q.take k)).1).map V.c) (by simp [yF]) (zM (c := V.c) (fun _ => rfl) _)) (zS (by first | assumption | omega | (simp_all; done) | (simp_all; omega))) rfl) rfl ?_), dpick rfl (G.quiet (zT (i := nj) rfl (InRow.rdb (A := A14) (els := ((runM c l (q.take k)).1).map V.c) (by simp [yF]) (zM (c := V.c) (fun _ => rfl) _)) (zS (by first | assumption | omega | (simp_all; done) | (simp_all; omega))) rfl) rfl ?_), trivial⟩
     ·refine dop 15 rfl (G.quiet (zT (i := nj) rfl (InRow.rdb (A := A14) (els := ((runM c l (q.take k)).1).map V.c) (by simp [yF]) (zM (c := V.c) (fun _ => rfl) _)) (zS (by first | assumption | omega | (simp_all; done) | (simp_all; omega))) rfl) rfl ?_)
      refine dop 17 rfl (zG rfl (fun w1 hw1 => xW _ _ c w1 bi bj) rfl ?_)
      refine rn [23,18,2,23,19,40,23,20,40,23,21,40] ?_
      refine dop 22 rfl (G.quiet (zR (i := ni) rfl rfl rfl (InRow.rdb (A := A14) (els := ((runM c l (q.take k)).1).map V.c) (by simp [yF]) (zM (c := V.c) (fun _ => rfl) _)) (by first | omega | (simp; done) | (simp; omega))) rfl ?_)
      refine dop 23 rfl (yA (A := A14) (i := ni) (o := 0) (cs' := V.c ((apS ((runM c l (q.take k)).1[ni]) ((runM c l (q.take k)).1[nj]) c))) rfl rfl rfl rfl rfl (zS (by first | assumption | omega | (simp_all; done) | (simp_all; omega))) (by first | (simp; done) | exact Nat.le_refl _) rfl (yE rfl) ?_)
      refine zF (A := A14) (((runM c l (q.take k)).1.set ni (apS ((runM c l (q.take k)).1[ni]) ((runM c l (q.take k)).1[nj]) c)).map V.c) (by simp only [List.map_set]) ?_
      refine dop 24 rfl (G.quiet (zR (i := nj) rfl rfl rfl (InRow.rdb (A := A14) (els := (((runM c l (q.take k)).1.set ni (apS ((runM c l (q.take k)).1[ni]) ((runM c l (q.take k)).1[nj]) c))).map V.c) (by first | rfl | assumption | (simp; done) | (simp_all; done) | (simp; omega) | (simp_all; omega)) (zM (c := V.c) (fun _ => rfl) _)) (by first | omega | (simp; done) | (simp; omega))) rfl ?_)
      refine dop 25 rfl (yA (A := A14) (i := nj) (o := 0) (cs' := V.c ((apD ((runM c l (q.take k)).1[ni]) ((runM c l (q.take k)).1[nj]) c))) rfl rfl rfl rfl rfl (zS (by first | assumption | omega | (simp_all; done) | (simp_all; omega))) (by first | (simp; done) | exact Nat.le_refl _) rfl (yE rfl) ?_)
      refine zF (A := A14) ((((runM c l (q.take k)).1.set ni (apS ((runM c l (q.take k)).1[ni]) ((runM c l (q.take k)).1[nj]) c)).set nj (apD ((runM c l (q.take k)).1[ni]) ((runM c l (q.take k)).1[nj]) c)).map V.c) (by simp only [List.map_set]) ?_
      refine rn [27,7,10,2,2] ?_
      refine g_op (g_lit rfl rfl rfl rfl rfl fun b62 => ?_)
      refine zJ (b := b62) ((([(decide (reqV (runM c l (q.take k)).1 (q[k]).a (q[k]).b c = 0))] : List Bool).map (fun v : Bool => [Value.bool v])).flatten) rfl ?_
      refine g_op (zY (A := B1) (els := ((runM c l (q.take k)).2).map (fun v : Bool => [Value.bool v])) (news := (([(decide (reqV (runM c l (q.take k)).1 (q[k]).a (q[k]).b c = 0))] : List Bool).map (fun v : Bool => [Value.bool v]))) rfl rfl (InL.rdb (b := b62) rfl (by simp) rfl) (yG (c := (fun v : Bool => [Value.bool v])) (by intro x; simp [Value.oneCell']) _) (by first | omega | (simp; omega) | (simp_all; omega)) rfl fun A63 cap63 => ⟨_, inferInstance, ?_⟩)
      refine zF (A := A63) ((((runM c l (q.take k)).2 ++ [(decide (reqV (runM c l (q.take k)).1 (q[k]).a (q[k]).b c = 0))])).map (fun v : Bool => [Value.bool v])) (by first | rfl | exact List.map_append.symm | (simp; done)) ?_
      refine rn [3,9,15,7,10,43,2,9] ?_
      have e2 : (runM c l (q.take k)).2 ++ [decide (reqV (runM c l (q.take k)).1 (q[k]).a (q[k]).b c = 0)] = (runM c l (q.take (k + 1))).2 := by rw [yU lt_q]; rfl
      have e3 : (runM c l (q.take k)).2.length + 1 = (runM c l (q.take (k + 1))).2.length := by rw [← e2]; simp
      have e1 : ((runM c l (q.take k)).1.set ni (apS (runM c l (q.take k)).1[ni] (runM c l (q.take k)).1[nj] c)).set nj (apD (runM c l (q.take k)).1[ni] (runM c l (q.take k)).1[nj] c) = (runM c l (q.take (k + 1))).1 := by rw [yU lt_q, step_in hni hnj hi hj g6]; unfold stepM16; dsimp only; rw [if_pos (show okReq (runM c l (q.take k)).1 (q[k]) c = true from h2)]
      rw [e3, e2, e1]
      exact g_ag ((k + 1), A63, cap63) (by (try dsimp only); exact (by first | exact lt_k | omega))
     ·refine dop 10 rfl (G.quiet (zT (i := ni) rfl (InRow.rdb (A := A14) (els := ((runM c l (q.take k)).1).map V.c) (by simp [yF]) (zM (c := V.c) (fun _ => rfl) _)) (zS (by first | assumption | omega | (simp_all; done) | (simp_all; omega))) rfl) rfl ?_)
      refine dop 17 rfl (zG rfl (fun w1 hw1 => xW _ _ c w1 bi bj) rfl ?_)
      refine rn [23,18,2,23,19,40,23,20,40,23,21,40] ?_
      refine dop 22 rfl (G.quiet (zR (i := ni) rfl rfl rfl (InRow.rdb (A := A14) (els := ((runM c l (q.take k)).1).map V.c) (by simp [yF]) (zM (c := V.c) (fun _ => rfl) _)) (by first | omega | (simp; done) | (simp; omega))) rfl ?_)
      refine dop 23 rfl (yA (A := A14) (i := ni) (o := 0) (cs' := V.c ((apS ((runM c l (q.take k)).1[ni]) ((runM c l (q.take k)).1[nj]) c))) rfl rfl rfl rfl rfl (zS (by first | assumption | omega | (simp_all; done) | (simp_all; omega))) (by first | (simp; done) | exact Nat.le_refl _) rfl (yE rfl) ?_)
      refine zF (A := A14) (((runM c l (q.take k)).1.set ni (apS ((runM c l (q.take k)).1[ni]) ((runM c l (q.take k)).1[nj]) c)).map V.c) (by simp only [List.map_set]) ?_
      refine dop 24 rfl (G.quiet (zR (i := nj) rfl rfl rfl (InRow.rdb (A := A14) (els := (((runM c l (q.take k)).1.set ni (apS ((runM c l (q.take k)).1[ni]) ((runM c l (q.take k)).1[nj]) c))).map V.c) (by first | rfl | assumption | (simp; done) | (simp_all; done) | (simp; omega) | (simp_all; omega)) (zM (c := V.c) (fun _ => rfl) _)) (by first | omega | (simp; done) | (simp; omega))) rfl ?_)
      refine dop 25 rfl (yA (A := A14) (i := nj) (o := 0) (cs' := V.c ((apD ((runM c l (q.take k)).1[ni]) ((runM c l (q.take k)).1[nj]) c))) rfl rfl rfl rfl rfl (zS (by first | assumption | omega | (simp_all; done) | (simp_all; omega))) (by first | (simp; done) | exact Nat.le_refl _) rfl (yE rfl) ?_)
      refine zF (A := A14) ((((runM c l (q.take k)).1.set ni (apS ((runM c l (q.take k)).1[ni]) ((runM c l (q.take k)).1[nj]) c)).set nj (apD ((runM c l (q.take k)).1[ni]) ((runM c l (q.take k)).1[nj]) c)).map V.c) (by simp only [List.map_set]) ?_
      refine rn [27,7,10,2,2] ?_
      refine g_op (g_lit rfl rfl rfl rfl rfl fun b62 => ?_)
      refine zJ (b := b62) ((([(decide (reqV (runM c l (q.take k)).1 (q[k]).a (q[k]).b c = 0))] : List Bool).map (fun v : Bool => [Value.bool v])).flatten) rfl ?_
      refine g_op (zY (A := B1) (els := ((runM c l (q.take k)).2).map (fun v : Bool => [Value.bool v])) (news := (([(decide (reqV (runM c l (q.take k)).1 (q[k]).a (q[k]).b c = 0))] : List Bool).map (fun v : Bool => [Value.bool v]))) rfl rfl (InL.rdb (b := b62) rfl (by simp) rfl) (yG (c := (fun v : Bool => [Value.bool v])) (by intro x; simp [Value.oneCell']) _) (by first | omega | (simp; omega) | (simp_all; omega)) rfl fun A63 cap63 => ⟨_, inferInstance, ?_⟩)
      refine zF (A := A63) ((((runM c l (q.take k)).2 ++ [(decide (reqV (runM c l (q.take k)).1 (q[k]).a (q[k]).b c = 0))])).map (fun v : Bool => [Value.bool v])) (by first | rfl | exact List.map_append.symm | (simp; done)) ?_
      refine rn [3,9,15,7,10,43,2,9] ?_
      have e2 : (runM c l (q.take k)).2 ++ [decide (reqV (runM c l (q.take k)).1 (q[k]).a (q[k]).b c = 0)] = (runM c l (q.take (k + 1))).2 := by rw [yU lt_q]; rfl
      have e3 : (runM c l (q.take k)).2.length + 1 = (runM c l (q.take (k + 1))).2.length := by rw [← e2]; simp
      have e1 : ((runM c l (q.take k)).1.set ni (apS (runM c l (q.take k)).1[ni] (runM c l (q.take k)).1[nj] c)).set nj (apD (runM c l (q.take k)).1[ni] (runM c l (q.take k)).1[nj] c) = (runM c l (q.take (k + 1))).1 := by rw [yU lt_q, step_in hni hnj hi hj g6]; unfold stepM16; dsimp only; rw [if_pos (show okReq (runM c l (q.take k)).1 (q[k]) c = true from h2)]
      rw [e3, e2, e1]
      exact g_ag ((k + 1), A63, cap63) (by (try dsimp only); exact (by first | exact lt_k | omega))
    ·refine dop 9 rfl (G.quiet (zR (i := ni) rfl rfl rfl (InRow.rdb (A := A14) (els := ((runM c l (q.take k)).1).map V.c) (by simp [yF]) (zM (c := V.c) (fun _ => rfl) _)) (by first | omega | (simp; done) | (simp; omega))) rfl ?_)
     refine dop 10 rfl (G.quiet (zT (i := ni) rfl (InRow.rdb (A := A14) (els := ((runM c l (q.take k)).1).map V.c) (by simp [yF]) (zM (c := V.c) (fun _ => rfl) _)) (zS (by first | assumption | omega | (simp_all; done) | (simp_all; omega))) rfl) rfl ?_)
     refine dop 17 rfl (zG rfl (fun w1 hw1 => xW _ _ c w1 bi bj) rfl ?_)
     refine rn [23,18,2,23,19,40,23,20,40,23,21,40] ?_
     refine dop 22 rfl (G.quiet (zR (i := ni) rfl rfl rfl (InRow.rdb (A := A14) (els := ((runM c l (q.take k)).1).map V.c) (by simp [yF]) (zM (c := V.c) (fun _ => rfl) _)) (by first | omega | (simp; done) | (simp; omega))) rfl ?_)
     refine dop 23 rfl (yA (A := A14) (i := ni) (o := 0) (cs' := V.c ((apS ((runM c l (q.take k)).1[ni]) ((runM c l (q.take k)).1[nj]) c))) rfl rfl rfl rfl rfl (zS (by first | assumption | omega | (simp_all; done) | (simp_all; omega))) (by first | (simp; done) | exact Nat.le_refl _) rfl (yE rfl) ?_)
     refine zF (A := A14) (((runM c l (q.take k)).1.set ni (apS ((runM c l (q.take k)).1[ni]) ((runM c l (q.take k)).1[nj]) c)).map V.c) (by simp only [List.map_set]) ?_
     refine dop 24 rfl (G.quiet (zR (i := nj) rfl rfl rfl (InRow.rdb (A := A14) (els := (((runM c l (q.take k)).1.set ni (apS ((runM c l (q.take k)).1[ni]) ((runM c l (q.take k)).1[nj]) c))).map V.c) (by first | rfl | assumption | (simp; done) | (simp_all; done) | (simp; omega) | (simp_all; omega)) (zM (c := V.c) (fun _ => rfl) _)) (by first | omega | (simp; done) | (simp; omega))) rfl ?_)
     refine dop 25 rfl (yA (A := A14) (i := nj) (o := 0) (cs' := V.c ((apD ((runM c l (q.take k)).1[ni]) ((runM c l (q.take k)).1[nj]) c))) rfl rfl rfl rfl rfl (zS (by first | assumption | omega | (simp_all; done) | (simp_all; omega))) (by first | (simp; done) | exact Nat.le_refl _) rfl (yE rfl) ?_)
     refine zF (A := A14) ((((runM c l (q.take k)).1.set ni (apS ((runM c l (q.take k)).1[ni]) ((runM c l (q.take k)).1[nj]) c)).set nj (apD ((runM c l (q.take k)).1[ni]) ((runM c l (q.take k)).1[nj]) c)).map V.c) (by simp only [List.map_set]) ?_
     refine rn [27,7,10,2,2] ?_
     refine g_op (g_lit rfl rfl rfl rfl rfl fun b62 => ?_)
     refine zJ (b := b62) ((([(decide (reqV (runM c l (q.take k)).1 (q[k]).a (q[k]).b c = 0))] : List Bool).map (fun v : Bool => [Value.bool v])).flatten) rfl ?_
     refine g_op (zY (A := B1) (els := ((runM c l (q.take k)).2).map (fun v : Bool => [Value.bool v])) (news := (([(decide (reqV (runM c l (q.take k)).1 (q[k]).a (q[k]).b c = 0))] : List Bool).map (fun v : Bool => [Value.bool v]))) rfl rfl (InL.rdb (b := b62) rfl (by simp) rfl) (yG (c := (fun v : Bool => [Value.bool v])) (by intro x; simp [Value.oneCell']) _) (by first | omega | (simp; omega) | (simp_all; omega)) rfl fun A63 cap63 => ⟨_, inferInstance, ?_⟩)
     refine zF (A := A63) ((((runM c l (q.take k)).2 ++ [(decide (reqV (runM c l (q.take k)).1 (q[k]).a (q[k]).b c = 0))])).map (fun v : Bool => [Value.bool v])) (by first | rfl | exact List.map_append.symm | (simp; done)) ?_
     refine rn [3,9,15,7,10,43,2,9] ?_
     have e2 : (runM c l (q.take k)).2 ++ [decide (reqV (runM c l (q.take k)).1 (q[k]).a (q[k]).b c = 0)] = (runM c l (q.take (k + 1))).2 := by rw [yU lt_q]; rfl
     have e3 : (runM c l (q.take k)).2.length + 1 = (runM c l (q.take (k + 1))).2.length := by rw [← e2]; simp
     have e1 : ((runM c l (q.take k)).1.set ni (apS (runM c l (q.take k)).1[ni] (runM c l (q.take k)).1[nj] c)).set nj (apD (runM c l (q.take k)).1[ni] (runM c l (q.take k)).1[nj] c) = (runM c l (q.take (k + 1))).1 := by rw [yU lt_q, step_in hni hnj hi hj g6]; unfold stepM16; dsimp only; rw [if_pos (show okReq (runM c l (q.take k)).1 (q[k]) c = true from h2)]
     rw [e3, e2, e1]
     exact g_ag ((k + 1), A63, cap63) (by (try dsimp only); exact (by first | exact lt_k | omega))
  ·refine rn [12,7,10,2,2] ?_
   refine g_op (g_lit rfl rfl rfl rfl rfl fun b62 => ?_)
   refine zJ (b := b62) ((([(decide (reqV (runM c l (q.take k)).1 (q[k]).a (q[k]).b c = 0))] : List Bool).map (fun v : Bool => [Value.bool v])).flatten) rfl ?_
   refine g_op (zY (A := B1) (els := ((runM c l (q.take k)).2).map (fun v : Bool => [Value.bool v])) (news := (([(decide (reqV (runM c l (q.take k)).1 (q[k]).a (q[k]).b c = 0))] : List Bool).map (fun v : Bool => [Value.bool v]))) rfl rfl (InL.rdb (b := b62) rfl (by simp) rfl) (yG (c := (fun v : Bool => [Value.bool v])) (by intro x; simp [Value.oneCell']) _) (by first | omega | (simp; omega) | (simp_all; omega)) rfl fun A63 cap63 => ⟨_, inferInstance, ?_⟩)
   refine zF (A := A63) ((((runM c l (q.take k)).2 ++ [(decide (reqV (runM c l (q.take k)).1 (q[k]).a (q[k]).b c = 0))])).map (fun v : Bool => [Value.bool v])) (by first | rfl | exact List.map_append.symm | (simp; done)) ?_
   refine rn [3,9,15,7,10,43,2,9] ?_
   have e2 : (runM c l (q.take k)).2 ++ [decide (reqV (runM c l (q.take k)).1 (q[k]).a (q[k]).b c = 0)] = (runM c l (q.take (k + 1))).2 := by rw [yU lt_q]; rfl
   have e3 : (runM c l (q.take k)).2.length + 1 = (runM c l (q.take (k + 1))).2.length := by rw [← e2]; simp
   have e1 : (runM c l (q.take k)).1 = (runM c l (q.take (k + 1))).1 := by rw [yU lt_q]; unfold stepM16; dsimp only; rw [if_neg (by rw [show okReq (runM c l (q.take k)).1 (q[k]) c = false from h2]; simp)]
   rw [e3, e2, e1]
   exact g_ag ((k + 1), A63, cap63) (by (try dsimp only); exact (by first | exact lt_k | omega))
 ·have eq_k : k = (min q.length P) := by have h9 := of_decide_eq_false h1; omega
  refine rn [16] ?_
  refine zE (zE (zQ ?_))
  refine rn [7,1,2,2,3,3,0,11] ?_
  exact fin2 rfl (.tmp rfl) (.tmp rfl) (fun w' hw' => ⟨(A14, cap14, B1, capb), (by exact trivial), by rw [← eq_k], by rw [← eq_k]; exact zA w' hw'⟩) _ (.inl rfl)
end Go.Proofs.YtdddiilocbbkkaaGreat
