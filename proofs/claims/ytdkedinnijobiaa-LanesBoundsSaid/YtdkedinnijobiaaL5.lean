/- LanesBounds: for every size, class and number the law returns true. No condition. -/
import Derived.Test.YtdkedinnijobiaaW6
namespace Go.Proofs.Ytdkedinnijobiaa
open Go.RowKit Go.Eg
set_option synthInstance.maxSize 3000
set_option linter.unusedSimpArgs false
set_option linter.unusedVariables false
def fillB (c : Int) (k : Nat) (q : LL) : Prop := (c = 0 → q.f.length = k ∧ q.v = []) ∧ (c = 1 → q.v.length = k ∧ q.f = [])
theorem fill_ok {sz k : Nat} {c : Int} (i : Int) {q : LL} (hc : c = 0 ∨ c = 1) (h : fillB c k q) (hk : k < sz) : pushE sz c q = 0 ∧ fillB c (k + 1) (pushL sz c i q) := by
  rcases hc with rfl | rfl
  · obtain ⟨h1, h2⟩ := h.1 rfl
    have h3 : q.f.length < sz := by omega
    refine ⟨by simp [pushE, h3], fun _ => ?_, by simp⟩
    rw [show pushL sz 0 i q = ⟨q.f ++ [i], q.v⟩ from by simp [pushL, h3]]
    simp [h1, h2]
  · obtain ⟨h1, h2⟩ := h.2 rfl
    have h3 : q.v.length < sz := by omega
    refine ⟨by simp [pushE, h3], by simp, fun _ => ?_⟩
    rw [show pushL sz 1 i q = ⟨q.f, q.v ++ [i]⟩ from by simp [pushL, h3]]
    simp [h1, h2]
theorem fill_full {sz : Nat} {c : Int} (i : Int) {q : LL} (hc : c = 0 ∨ c = 1) (h : fillB c sz q) : pushE sz c q = 6 ∧ pushL sz c i q = q := by
  rcases hc with rfl | rfl
  · obtain ⟨h1, h2⟩ := h.1 rfl
    simp [pushE, pushL, h1]
  · obtain ⟨h1, h2⟩ := h.2 rfl
    simp [pushE, pushL, h1]
theorem fill_end {sz : Nat} {c d : Int} {q : LL} (hc : c = 0 ∨ c = 1) (hd : d = 1 - c) (h : fillB c sz q) (hs : 0 < sz) : (allL c q).length = sz ∧ freeL sz c q = 0 ∧ pushE sz d q = 0 ∧ (allL d (pushL sz d 5 q)).length = 1 := by
  subst hd
  rcases hc with rfl | rfl
  · obtain ⟨h1, h2⟩ := h.1 rfl
    simp [pushE, pushL, allL, freeL, h1, h2, hs]
  · obtain ⟨h1, h2⟩ := h.2 rfl
    simp [pushE, pushL, allL, freeL, h1, h2, hs]

set_option maxHeartbeats 400000 in
theorem law_lanesBounds (n : Nat) (cl : Nat) (ex : Nat) (w : World) (h_n : n < 256) (h_cl : cl < 256) (h_ex : ex < 256) : Pur Try.prog 6 [.int .u8 ((n : Nat) : Int), .int .u8 ((cl : Nat) : Int), .int .u8 ((ex : Nat) : Int)] w (.bool true) := by
  refine g_start Try.func6 rfl 71 rfl (by simp) ([]) [] (WOK.start _ _) _ rfl ?_
  have hcc : (((cl % 2) : Nat) : Int) = 0 ∨ (((cl % 2) : Nat) : Int) = 1 := by omega
  refine g_seq ?_
  refine g_region ?_
  refine s_q (q_assign rfl) rfl ?_
  refine g_nil ?_
  refine g_then ?_
  refine g_seq ?_
  refine g_region ?_
  refine s_q (q_move rfl) rfl ?_
  refine s_q (q_convz (z := ((n : Nat) : Int)) rfl (wi64 (by omega) (by omega))) rfl ?_
  refine s_q (q_remn (a := n) (b := 30) rfl rfl (by first | omega | (simp; omega) | (simp_all; omega))) rfl ?_
  refine s_q (q_inc rfl rfl (by omega)) rfl ?_
  refine s_q (q_move rfl) rfl ?_
  refine s_q (q_convz (z := ((cl : Nat) : Int)) rfl (wi64 (by omega) (by omega))) rfl ?_
  refine s_q (q_remn (a := cl) (b := 2) rfl rfl (by first | omega | (simp; omega) | (simp_all; omega))) rfl ?_
  refine s_q (q_assign rfl) rfl ?_
  refine s_q (q_assign rfl) rfl ?_
  refine g_nil ?_
  refine g_then ?_
  refine g_seq ?_
  refine g_region ?_
  refine s_q (q_move rfl) rfl ?_
  refine g_op (g_ownS [] rfl (fun w1 hw1 ho1 => by have h7 := lnew_any (((n % 30) + 1)) w1 (by omega); exact h7) rfl ?_)
  rintro ⟨b19, ba19, bb19, g19, gg19⟩ ⟨r19, s19, rr19, ss19⟩
  refine ⟨_, _, inferInstance, inferInstance, ?_⟩
  simp only at r19 s19 rr19 ss19
  refine s_q (q_assign rfl) rfl ?_
  refine g_nil ?_
  refine g_then ?_
  refine g_seq ?_
  refine g_seq ?_
  refine g_region ?_
  refine s_q (q_move rfl) rfl ?_
  refine s_q (q_eqp (b := false) rfl rfl rfl) rfl ?_
  refine g_nil ?_
  refine g_then ?_
  refine g_false rfl ?_
  refine g_skip ?_
  refine g_then ?_
  refine g_seq ?_
  refine g_seq ?_
  refine g_region ?_
  refine s_q (q_move rfl) rfl ?_
  refine s_q (q_move rfl) rfl ?_
  refine g_nil ?_
  refine g_then ?_
  refine g_block ?_
  refine g_loopk [2, 6, 7, 8, 9, 22] (fun (x : Nat × Rg × Rg × LL) => [(23, .int .i64 ((x.1 : Nat) : Int))]) (fun (x : Nat × Rg × Rg × LL) => [Res.blk b19 52 [Value.pointer (some ⟨ba19, 0, none⟩), Value.pointer (some ⟨bb19, 0, none⟩)], Res.blk ba19 64 (Rg.c x.2.1), Res.row (Rg.A x.2.1) (Rg.s x.2.1).length (Rg.cap x.2.1) 3 1 (Rg.s x.2.1), Res.blk bb19 64 (Rg.c x.2.2.1), Res.row (Rg.A x.2.2.1) (Rg.s x.2.2.1).length (Rg.cap x.2.2.1) 3 1 (Rg.s x.2.2.1)]) (fun (x : Nat × Rg × Rg × LL) => x.1 ≤ ((n % 30) + 1) ∧ Rg.Rep x.2.1 1 ((x.2.2.2).f.map (fun v : Int => [Value.int .i64 v])) ∧ Rg.Rep x.2.2.1 1 ((x.2.2.2).v.map (fun v : Int => [Value.int .i64 v])) ∧ Rg.size x.2.1 = ((n % 30) + 1) ∧ Rg.size x.2.2.1 = ((n % 30) + 1) ∧ fillB (((cl % 2) : Nat) : Int) x.1 x.2.2.2) (fun (x : Nat × Rg × Rg × LL) => ((n % 30) + 1) - x.1) (0, g19, gg19, (LL.mk [] [])) (by (try dsimp only); exact ⟨Nat.zero_le _, r19, rr19, s19, ss19, (by simp [fillB])⟩) rfl (by repeat (first | exact trivial | refine ⟨rfl, ?_⟩)) wok_sub ?_
  rintro ⟨k, g1, g2, q⟩ ⟨le_k, h0, hh1, s0, ss1, hf⟩
  replace le_k : k ≤ ((n % 30) + 1) := le_k
  replace h0 : Rg.Rep g1 1 ((q).f.map (fun v : Int => [Value.int .i64 v])) := h0
  replace hh1 : Rg.Rep g2 1 ((q).v.map (fun v : Int => [Value.int .i64 v])) := hh1
  replace s0 : Rg.size g1 = ((n % 30) + 1) := s0
  replace ss1 : Rg.size g2 = ((n % 30) + 1) := ss1
  replace hf : fillB (((cl % 2) : Nat) : Int) k q := hf
  refine g_setL (L' := [Res.blk b19 52 [Value.pointer (some ⟨ba19, 0, none⟩), Value.pointer (some ⟨bb19, 0, none⟩)], Res.blk ba19 64 (Rg.c g1), Res.row (Rg.A g1) (Rg.s g1).length (Rg.cap g1) 3 1 (Rg.s g1), Res.blk bb19 64 (Rg.c g2), Res.row (Rg.A g2) (Rg.s g2).length (Rg.cap g2) 3 1 (Rg.s g2)]) rfl ?_
  refine g_val 23 (v' := .int .i64 ((k : Nat) : Int)) rfl rfl ?_
  refine g_seq ?_
  refine g_region ?_
  refine s_q (q_lss rfl rfl) rfl ?_
  refine g_nil ?_
  refine g_then ?_
  refine g_seq ?_
  refine g_cond rfl (fun h1 => ?_) (fun h1 => ?_)
  · have lt_k : k < ((n % 30) + 1) := by have h9 := of_decide_eq_true h1; omega
    refine g_skip ?_
    refine g_then ?_
    refine g_seq ?_
    refine g_block ?_
    refine g_seq ?_
    refine g_region ?_
    refine s_q (q_move rfl) rfl ?_
    refine s_q (q_assign rfl) rfl ?_
    refine g_nil ?_
    refine g_then ?_
    refine g_seq ?_
    refine g_region ?_
    refine s_q (q_move rfl) rfl ?_
    refine s_q (q_move rfl) rfl ?_
    refine s_q (q_move rfl) rfl ?_
    refine g_op (g_ownS [Res.blk b19 52 [Value.pointer (some ⟨ba19, 0, none⟩), Value.pointer (some ⟨bb19, 0, none⟩)], Res.blk ba19 64 (Rg.c g1), Res.row (Rg.A g1) (Rg.s g1).length (Rg.cap g1) 3 1 (Rg.s g1), Res.blk bb19 64 (Rg.c g2), Res.row (Rg.A g2) (Rg.s g2).length (Rg.cap g2) 3 1 (Rg.s g2)] rfl (fun w1 hw1 ho1 => by have h7 := lpush_any b19 ba19 bb19 g1 g2 q ((n % 30) + 1) ((((cl % 2) : Nat) : Int)) (((k : Nat) : Int)) w1 ho1 h0 hh1 s0 ss1 (by omega); exact h7) rfl ?_)
    rintro ⟨g29, gg29⟩ ⟨r29, rr29, s29, ss29⟩
    refine ⟨_, _, inferInstance, inferInstance, ?_⟩
    simp only at r29 rr29 s29 ss29
    refine s_q (q_neq rfl rfl) rfl ?_
    refine g_litb 30 (b := false) rfl (by rw [(fill_ok 0 hcc hf lt_k).1]; decide) ?_
    refine g_nil ?_
    refine g_then ?_
    refine g_false rfl ?_
    refine g_skip ?_
    refine g_blk_n ?_
    refine g_then ?_
    refine g_region ?_
    refine s_q (q_inc rfl rfl (by omega)) rfl ?_
    refine s_q (q_move rfl) rfl ?_
    refine g_nil ?_
    exact g_again ((k + 1), g29, gg29, (pushL ((n % 30) + 1) ((((cl % 2) : Nat) : Int)) (((k : Nat) : Int)) q)) (by (try dsimp only); exact ⟨(by first | exact lt_k | omega), r29, rr29, s29, ss29, (fill_ok _ hcc hf lt_k).2⟩) (by first | omega | (simp only; omega)) (by repeat (first | exact trivial | refine ⟨rfl, ?_⟩)) wok_sub
  · have eq_k : k = ((n % 30) + 1) := by have h9 := of_decide_eq_false h1; omega
    refine g_exit ?_
    refine g_then_x (g_then_x (g_blk_hit ?_))
    refine g_then ?_
    refine g_seq ?_
    refine g_seq ?_
    refine g_region ?_
    refine s_q (q_move rfl) rfl ?_
    refine s_q (q_convz (z := ((ex : Nat) : Int)) rfl (wi64 (by omega) (by omega))) rfl ?_
    refine s_q (q_remn (a := ex) (b := 5) rfl rfl (by first | omega | (simp; omega) | (simp_all; omega))) rfl ?_
    refine s_q (q_inc rfl rfl (by omega)) rfl ?_
    refine s_q (q_move rfl) rfl ?_
    refine g_nil ?_
    refine g_then ?_
    refine g_block ?_
    refine g_loopk [6, 7, 8, 9, 35] (fun (x : Nat × Rg × Rg × LL) => [(36, .int .i64 ((x.1 : Nat) : Int))]) (fun (x : Nat × Rg × Rg × LL) => [Res.blk b19 52 [Value.pointer (some ⟨ba19, 0, none⟩), Value.pointer (some ⟨bb19, 0, none⟩)], Res.blk ba19 64 (Rg.c x.2.1), Res.row (Rg.A x.2.1) (Rg.s x.2.1).length (Rg.cap x.2.1) 3 1 (Rg.s x.2.1), Res.blk bb19 64 (Rg.c x.2.2.1), Res.row (Rg.A x.2.2.1) (Rg.s x.2.2.1).length (Rg.cap x.2.2.1) 3 1 (Rg.s x.2.2.1)]) (fun (x : Nat × Rg × Rg × LL) => x.1 ≤ ((ex % 5) + 1) ∧ Rg.Rep x.2.1 1 ((x.2.2.2).f.map (fun v : Int => [Value.int .i64 v])) ∧ Rg.Rep x.2.2.1 1 ((x.2.2.2).v.map (fun v : Int => [Value.int .i64 v])) ∧ Rg.size x.2.1 = ((n % 30) + 1) ∧ Rg.size x.2.2.1 = ((n % 30) + 1) ∧ fillB (((cl % 2) : Nat) : Int) ((n % 30) + 1) x.2.2.2) (fun (x : Nat × Rg × Rg × LL) => ((ex % 5) + 1) - x.1) (0, g1, g2, q) (by (try dsimp only); exact ⟨Nat.zero_le _, h0, hh1, s0, ss1, (by rw [← eq_k]; exact hf)⟩) rfl (by repeat (first | exact trivial | refine ⟨rfl, ?_⟩)) wok_sub ?_
    rintro ⟨j, g1, g2, q⟩ ⟨le_j, h0, hh1, s0, ss1, hf2⟩
    replace le_j : j ≤ ((ex % 5) + 1) := le_j
    replace h0 : Rg.Rep g1 1 ((q).f.map (fun v : Int => [Value.int .i64 v])) := h0
    replace hh1 : Rg.Rep g2 1 ((q).v.map (fun v : Int => [Value.int .i64 v])) := hh1
    replace s0 : Rg.size g1 = ((n % 30) + 1) := s0
    replace ss1 : Rg.size g2 = ((n % 30) + 1) := ss1
    replace hf2 : fillB (((cl % 2) : Nat) : Int) ((n % 30) + 1) q := hf2
    refine g_setL (L' := [Res.blk b19 52 [Value.pointer (some ⟨ba19, 0, none⟩), Value.pointer (some ⟨bb19, 0, none⟩)], Res.blk ba19 64 (Rg.c g1), Res.row (Rg.A g1) (Rg.s g1).length (Rg.cap g1) 3 1 (Rg.s g1), Res.blk bb19 64 (Rg.c g2), Res.row (Rg.A g2) (Rg.s g2).length (Rg.cap g2) 3 1 (Rg.s g2)]) rfl ?_
    refine g_val 36 (v' := .int .i64 ((j : Nat) : Int)) rfl rfl ?_
    refine g_seq ?_
    refine g_region ?_
    refine s_q (q_lss rfl rfl) rfl ?_
    refine g_nil ?_
    refine g_then ?_
    refine g_seq ?_
    refine g_cond rfl (fun h2 => ?_) (fun h2 => ?_)
    · have lt_j : j < ((ex % 5) + 1) := by have h9 := of_decide_eq_true h2; omega
      refine g_skip ?_
      refine g_then ?_
      refine g_seq ?_
      refine g_block ?_
      refine g_seq ?_
      refine g_region ?_
      refine s_q (q_move rfl) rfl ?_
      refine s_q (q_move rfl) rfl ?_
      refine g_op (g_ownS [Res.blk b19 52 [Value.pointer (some ⟨ba19, 0, none⟩), Value.pointer (some ⟨bb19, 0, none⟩)], Res.blk ba19 64 (Rg.c g1), Res.row (Rg.A g1) (Rg.s g1).length (Rg.cap g1) 3 1 (Rg.s g1), Res.blk bb19 64 (Rg.c g2), Res.row (Rg.A g2) (Rg.s g2).length (Rg.cap g2) 3 1 (Rg.s g2)] rfl (fun w1 hw1 ho1 => by have h7 := lpush_any b19 ba19 bb19 g1 g2 q ((n % 30) + 1) ((((cl % 2) : Nat) : Int)) (9) w1 ho1 h0 hh1 s0 ss1 (by omega); exact h7) rfl ?_)
      rintro ⟨g40, gg40⟩ ⟨r40, rr40, s40, ss40⟩
      refine ⟨_, _, inferInstance, inferInstance, ?_⟩
      simp only at r40 rr40 s40 ss40
      refine s_q (q_neq rfl rfl) rfl ?_
      refine g_litb 41 (b := false) rfl (by rw [(fill_full 0 hcc hf2).1]; decide) ?_
      refine g_nil ?_
      refine g_then ?_
      refine g_false rfl ?_
      refine g_skip ?_
      refine g_blk_n ?_
      refine g_then ?_
      refine g_region ?_
      refine s_q (q_inc rfl rfl (by omega)) rfl ?_
      refine s_q (q_move rfl) rfl ?_
      refine g_nil ?_
      exact g_again ((j + 1), g40, gg40, (pushL ((n % 30) + 1) ((((cl % 2) : Nat) : Int)) (9) q)) (by (try dsimp only); exact ⟨(by first | exact lt_j | omega), r40, rr40, s40, ss40, (by rw [(fill_full _ hcc hf2).2]; exact hf2)⟩) (by first | omega | (simp only; omega)) (by repeat (first | exact trivial | refine ⟨rfl, ?_⟩)) wok_sub
    · have eq_j : j = ((ex % 5) + 1) := by have h9 := of_decide_eq_false h2; omega
      have fe := fill_end (d := (((1 - (cl % 2)) : Nat) : Int)) hcc (by omega) hf2 (by omega)
      refine g_exit ?_
      refine g_then_x (g_then_x (g_blk_hit ?_))
      refine g_then ?_
      refine g_seq ?_
      refine g_region ?_
      refine g_op (g_pure rfl (fun w1 hw1 => alive_any w1) rfl ?_)
      refine s_q (q_move rfl) rfl ?_
      refine s_qg (q_move rfl) rfl rfl rfl ?_
      refine s_qg (q_move rfl) rfl rfl rfl ?_
      refine g_gt rfl rfl (g_keep [Res.blk b19 52 [Value.pointer (some ⟨ba19, 0, none⟩), Value.pointer (some ⟨bb19, 0, none⟩)], Res.blk ba19 64 (Rg.c g1), Res.row (Rg.A g1) (Rg.s g1).length (Rg.cap g1) 3 1 (Rg.s g1), Res.blk bb19 64 (Rg.c g2), Res.row (Rg.A g2) (Rg.s g2).length (Rg.cap g2) 3 1 (Rg.s g2)] rfl (fun w1 hw1 ho1 => by exact llen_any b19 ba19 bb19 g1 g2 q ((n % 30) + 1) ((((cl % 2) : Nat) : Int)) w1 ho1 h0 hh1 s0 ss1 (by omega)) rfl ?_)
      refine s_qg (q_move rfl) rfl rfl rfl ?_
      refine s_qg (q_eql rfl rfl) rfl rfl rfl ?_
      refine g_litb 49 (b := true) rfl (by rw [fe.1]; exact decide_eq_true rfl) ?_
      refine s_q (q_pick_t rfl rfl) rfl ?_
      refine s_q (q_move rfl) rfl ?_
      refine s_qg (q_move rfl) rfl rfl rfl ?_
      refine s_qg (q_move rfl) rfl rfl rfl ?_
      refine g_gt rfl rfl (g_keep [Res.blk b19 52 [Value.pointer (some ⟨ba19, 0, none⟩), Value.pointer (some ⟨bb19, 0, none⟩)], Res.blk ba19 64 (Rg.c g1), Res.row (Rg.A g1) (Rg.s g1).length (Rg.cap g1) 3 1 (Rg.s g1), Res.blk bb19 64 (Rg.c g2), Res.row (Rg.A g2) (Rg.s g2).length (Rg.cap g2) 3 1 (Rg.s g2)] rfl (fun w1 hw1 ho1 => by exact lfree_any b19 ba19 bb19 g1 g2 q ((n % 30) + 1) ((((cl % 2) : Nat) : Int)) w1 ho1 h0 hh1 s0 ss1 (by omega)) rfl ?_)
      refine s_qg (q_eql rfl rfl) rfl rfl rfl ?_
      refine g_litb 55 (b := true) rfl (by rw [fe.2.1]; decide) ?_
      refine s_q (q_pick_t rfl rfl) rfl ?_
      refine s_q (q_move rfl) rfl ?_
      refine s_qg (q_move rfl) rfl rfl rfl ?_
      refine s_qg (q_move rfl) rfl rfl rfl ?_
      refine s_qg (q_subn (a := 1) (b := (cl % 2)) rfl rfl (by first | omega | (simp; omega) | (simp_all; omega)) (by first | omega | (simp; omega) | (simp_all; omega))) rfl rfl rfl ?_
      refine g_gt rfl rfl (g_ownS [Res.blk b19 52 [Value.pointer (some ⟨ba19, 0, none⟩), Value.pointer (some ⟨bb19, 0, none⟩)], Res.blk ba19 64 (Rg.c g1), Res.row (Rg.A g1) (Rg.s g1).length (Rg.cap g1) 3 1 (Rg.s g1), Res.blk bb19 64 (Rg.c g2), Res.row (Rg.A g2) (Rg.s g2).length (Rg.cap g2) 3 1 (Rg.s g2)] rfl (fun w1 hw1 ho1 => by have h7 := lpush_any b19 ba19 bb19 g1 g2 q ((n % 30) + 1) ((((1 - (cl % 2)) : Nat) : Int)) (5) w1 ho1 h0 hh1 s0 ss1 (by omega); exact h7) rfl ?_)
      rintro ⟨g61, gg61⟩ ⟨r61, rr61, s61, ss61⟩
      refine ⟨_, _, inferInstance, inferInstance, ?_⟩
      simp only at r61 rr61 s61 ss61
      refine s_qg (q_eql rfl rfl) rfl rfl rfl ?_
      refine g_litb 62 (b := true) rfl (by simp only [fe.2.2.1]; decide) ?_
      refine s_q (q_pick_t rfl rfl) rfl ?_
      refine s_q (q_move rfl) rfl ?_
      refine s_qg (q_move rfl) rfl rfl rfl ?_
      refine s_qg (q_move rfl) rfl rfl rfl ?_
      refine s_qg (q_subn (a := 1) (b := (cl % 2)) rfl rfl (by first | omega | (simp; omega) | (simp_all; omega)) (by first | omega | (simp; omega) | (simp_all; omega))) rfl rfl rfl ?_
      refine g_gt rfl rfl (g_keep [Res.blk b19 52 [Value.pointer (some ⟨ba19, 0, none⟩), Value.pointer (some ⟨bb19, 0, none⟩)], Res.blk ba19 64 (Rg.c g61), Res.row (Rg.A g61) (Rg.s g61).length (Rg.cap g61) 3 1 (Rg.s g61), Res.blk bb19 64 (Rg.c gg61), Res.row (Rg.A gg61) (Rg.s gg61).length (Rg.cap gg61) 3 1 (Rg.s gg61)] rfl (fun w1 hw1 ho1 => by exact llen_any b19 ba19 bb19 g61 gg61 (pushL ((n % 30) + 1) ((((1 - (cl % 2)) : Nat) : Int)) (5) q) ((n % 30) + 1) ((((1 - (cl % 2)) : Nat) : Int)) w1 ho1 r61 rr61 s61 ss61 (by omega)) rfl ?_)
      refine s_qg (q_eql rfl rfl) rfl rfl rfl ?_
      refine g_litb 69 (b := true) rfl (by simp only [fe.2.2.2]; decide) ?_
      refine s_q (q_pick_t rfl rfl) rfl ?_
      refine s_q (q_assign rfl) rfl ?_
      refine g_nil ?_
      refine g_then ?_
      refine g_ret ?_
      exact fin1 rfl (.tmp rfl) (fun w' hw' => ⟨by first | rfl | (simp_all; done) | (simp_all; omega), hw'.upd⟩) _ (.inl rfl)

theorem main_lanesBounds (v0 : Value) (v1 : Value) (v2 : Value) (W : World) (a0 : Arg Try.prog W 5 v0) (a1 : Arg Try.prog W 5 v1) (a2 : Arg Try.prog W 5 v2) : Pur Try.prog 6 [v0, v1, v2] W (.bool true) := by
  obtain ⟨z0, rfl, hz0⟩ := Arg.int Try.underlying5 a0
  obtain ⟨n, rfl⟩ : ∃ q : Nat, z0 = q := ⟨z0.toNat, by have h0 : 0 ≤ z0 ∧ z0 ≤ 255 := hz0; omega⟩
  have h_n : n < 256 := by have h0 : 0 ≤ ((n : Nat) : Int) ∧ ((n : Nat) : Int) ≤ 255 := hz0; omega
  obtain ⟨z1, rfl, hz1⟩ := Arg.int Try.underlying5 a1
  obtain ⟨cl, rfl⟩ : ∃ q : Nat, z1 = q := ⟨z1.toNat, by have h0 : 0 ≤ z1 ∧ z1 ≤ 255 := hz1; omega⟩
  have h_cl : cl < 256 := by have h0 : 0 ≤ ((cl : Nat) : Int) ∧ ((cl : Nat) : Int) ≤ 255 := hz1; omega
  obtain ⟨z2, rfl, hz2⟩ := Arg.int Try.underlying5 a2
  obtain ⟨ex, rfl⟩ : ∃ q : Nat, z2 = q := ⟨z2.toNat, by have h0 : 0 ≤ z2 ∧ z2 ≤ 255 := hz2; omega⟩
  have h_ex : ex < 256 := by have h0 : 0 ≤ ((ex : Nat) : Int) ∧ ((ex : Nat) : Int) ≤ 255 := hz2; omega
  exact law_lanesBounds n cl ex W h_n h_cl h_ex

namespace LawLanesBounds
open Go.ChangeShapes Go.WideShapes Go.ChangeAt Go.RowKit Go.Eg
set_option linter.unusedVariables false
theorem own : ownKnob Try.prog.godebug = none := by kernel_rfl
theorem laidOut : laidOutB Try.prog = true := by kernel_rfl
set_option maxRecDepth 100000 in
theorem lifted (os : Os) (started : os.Started) (H : Type) (enc : TypeId × Value → H) :
    ReturnsInHanded {} Try.checked os 6 .any (Rows.lanesBoundsSpec.pre6 enc Try.prog Try.f6 Rows.lanesBoundsRow.domain false) (Rows.lanesBoundsSpec.post enc Try.prog Try.f6 false true false false) := by
  refine returnsInHanded_of_change (C := Try.checked) own started (by kernel_rfl) Try.func6
    (ChangeSpec.witness6 (enc := enc) (C := Try.checked) false ⟨#[], #[.int .u8 0, .int .u8 0, .int .u8 0], []⟩ 8 (by kernel_rfl) (by kernel_rfl) (by kernel_rfl) (by kernel_rfl)) ?_
  intro W base args ds gs before hval0 hW hcnd _
  have hval : ∀ (j : Nat) t v, Try.f6.params[j]? = some t → args[j]? = some v → Value.okWide Try.prog W .any base t v := hval0
  have hW' := hW
  obtain ⟨p, q, hA0, hV, rfl, hfz, hnd⟩ := hW
  have hA : DataW.TrodAll enc Try.prog W 0 (fun _ => true) true Try.f6.params.toList args.toList ds p := hA0
  rw [Try.params6] at hA hval
  obtain ⟨v0, vs0, d0, ds0, p0, q0, hargs, rfl, rfl, h0, r0⟩ := trodAll_cons hA
  obtain ⟨v1, vs1, d1, ds1, p1, q1, rfl, rfl, rfl, h1, r1⟩ := trodAll_cons r0
  obtain ⟨v2, vs2, d2, ds2, p2, q2, rfl, rfl, rfl, h2, r2⟩ := trodAll_cons r1
  obtain ⟨rfl, rfl, rfl⟩ := trodAll_nil r2
  obtain rfl : args = #[v0, v1, v2] := by cases args; simp_all
  obtain ⟨rfl, rfl⟩ := trodVars_none hV
  have a0 := Arg.of h0 (hval 0 5 v0 rfl rfl)
  have lt0 : ∀ x ∈ p0, x.block < W.heap.size := by obtain ⟨m, hm⟩ := h0; exact DataW.trod_lt m _ _ _ hm
  have a1 := Arg.of h1 (hval 1 5 v1 rfl rfl)
  have lt1 : ∀ x ∈ p1, x.block < W.heap.size := by obtain ⟨m, hm⟩ := h1; exact DataW.trod_lt m _ _ _ hm
  have a2 := Arg.of h2 (hval 2 5 v2 rfl rfl)
  have lt2 : ∀ x ∈ p2, x.block < W.heap.size := by obtain ⟨m, hm⟩ := h2; exact DataW.trod_lt m _ _ _ hm
  clear hA0 hval0
  simp only [List.append_nil] at hW'
  refine Calls.mono (main_lanesBounds v0 v1 v2 W a0 a1 a2) ?_
  rintro e W' ⟨v, rfl, rfl, hu⟩
  have bel := hu.below
  have targ := (trodAll_cons_mk (Below.trod laidOut (by kernel_rfl) (of_decide_eq_true (by kernel_rfl)) h0 bel lt0) (trodAll_cons_mk (Below.trod laidOut (by kernel_rfl) (of_decide_eq_true (by kernel_rfl)) h1 bel lt1) (trodAll_cons_mk (Below.trod laidOut (by kernel_rfl) (of_decide_eq_true (by kernel_rfl)) h2 bel lt2) trodAll_mk0)))
  simp only [List.append_nil] at targ
  exact ⟨_, rfl, _, _, _, [], _, [], hW', trodAll_mk1 (shut_bool Try.underlying4 _), targ, rfl, bel.frame _, fun h => by cases h⟩
theorem over : Rows.lanesBoundsRow.holds Try.pinned (OpenSpec.ofChange Rows.lanesBoundsSpec) :=
  OpenClaim.holds_of_wide 6 Try.f6 rfl rfl rfl rfl rfl rfl rfl ⟨rfl, rfl, rfl, rfl, rfl⟩ rfl rfl rfl rfl rfl (by kernel_rfl) Try.func6 (by kernel_rfl)
    (of_decide_eq_true (by kernel_rfl)) (by unfold Func.isWrapper; first | (rw [if_pos (by decide +kernel)]; kernel_rfl) | (rw [if_neg (by decide +kernel)]; exact ⟨rfl, rfl⟩))
    (fun os started H enc _ => lifted os started H enc)
theorem proved : Rows.LanesBoundsSaid := over
end LawLanesBounds
end Go.Proofs.Ytdkedinnijobiaa
