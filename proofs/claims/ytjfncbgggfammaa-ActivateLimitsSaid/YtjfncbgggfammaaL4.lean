/- ActivateLimits: for every queue, limit and list of weights the law returns true. No condition. -/
import Derived.Test.YtjfncbgggfammaaWH
namespace Go.Proofs.Ytjfncbgggfammaa
open Go.RowKit Go.Eg
set_option synthInstance.maxSize 3000
set_option linter.unusedSimpArgs false
set_option linter.unusedVariables false
set_option maxRecDepth 100000
set_option maxHeartbeats 400000 in
theorem law_activateLimits (A_l : Option Addr) (c_l : Nat) (l : List Int) (lim : Int) (A_ws : Option Addr) (c_ws : Nat) (ws : List Int) (w : World) (o_l : Old w A_l l.length 1 (l.map (fun v : Int => [Value.int .i64 v]))) (h_l : l.length ≤ c_l ∧ c_l ≤ 9223372036854775807) (k_l : ∀ x ∈ l, (fun x : Int => -9223372036854775808 ≤ x ∧ x ≤ 9223372036854775807) x) (h_lim : 0 ≤ lim ∧ lim ≤ 18446744073709551615) (o_ws : Old w A_ws ws.length 1 (ws.map (fun v : Int => [Value.int .u64 v]))) (h_ws : ws.length ≤ c_ws ∧ c_ws ≤ 9223372036854775807) (k_ws : ∀ x ∈ ws, (fun x : Int => 0 ≤ x ∧ x ≤ 18446744073709551615) x) : Pur Try.prog 5 [.slice A_l l.length c_l, .int .u64 lim, .slice A_ws ws.length c_ws] w (.bool true) := by
  refine g_start Try.func5 rfl 84 rfl (by simp) ([]) [] (WOK.start _ _) _ rfl ?_
  refine g_seq ?_
  refine g_region ?_
  refine s_q (q_assign rfl) rfl ?_
  refine g_nil ?_
  refine g_then ?_
  refine g_seq ?_
  refine g_seq ?_
  refine g_region ?_
  refine s_q (q_move rfl) rfl ?_
  refine s_q (q_len rfl) rfl ?_
  refine s_q (q_gtr rfl rfl) rfl ?_
  refine s_q (q_move rfl) rfl ?_
  refine g_split 16 rfl (fun h1 => ?_) (fun h1 => ?_)
  · refine g_gf rfl rfl rfl rfl ?_
    refine g_gf rfl rfl rfl rfl ?_
    refine g_gf rfl rfl rfl rfl ?_
    refine s_q (q_pick_t rfl rfl) rfl ?_
    refine g_nil ?_
    refine g_then ?_
    refine g_true rfl ?_
    refine g_seq ?_
    refine g_region ?_
    refine g_op (g_pure rfl (fun w1 hw1 => alive_any w1) rfl ?_)
    refine s_q (q_assign rfl) rfl ?_
    refine g_nil ?_
    refine g_then ?_
    refine g_ret ?_
    refine g_then_ret ?_
    exact fin1 rfl (.tmp rfl) (fun w' hw' => ⟨by first | rfl | (simp_all; done) | (simp_all; omega), hw'.upd⟩) _ (.inl rfl)
  · have hn60 : l.length ≤ 60 := by have h9 := of_decide_eq_false h1; omega
    have hokw : okU ws := fun x hx => k_ws x hx
    have hbl := bat_len lim ws l 0 true
    have hdl : (l.drop (batF lim ws l 0 true).length).length = l.length - (batF lim ws l 0 true).length := by simp
    refine s_qg (q_move rfl) rfl rfl rfl ?_
    refine s_qg (q_len rfl) rfl rfl rfl ?_
    refine s_qg (q_gtr rfl rfl) rfl rfl rfl ?_
    refine s_q (q_pick_f rfl rfl) rfl ?_
    refine g_nil ?_
    refine g_then ?_
    refine g_cond rfl (fun h2 => ?_) (fun h2 => ?_)
    · refine g_seq ?_
      refine g_region ?_
      refine g_op (g_pure rfl (fun w1 hw1 => alive_any w1) rfl ?_)
      refine s_q (q_assign rfl) rfl ?_
      refine g_nil ?_
      refine g_then ?_
      refine g_ret ?_
      refine g_then_ret ?_
      exact fin1 rfl (.tmp rfl) (fun w' hw' => ⟨by first | rfl | (simp_all; done) | (simp_all; omega), hw'.upd⟩) _ (.inl rfl)
    · refine g_skip ?_
      refine g_then ?_
      refine g_seq ?_
      refine g_region ?_
      refine s_q (q_move rfl) rfl ?_
      refine g_op (g_ownS [] rfl (fun w1 hw1 ho1 => by have h7 := queue_any A_l c_l l w1 (Rdb.toOld (o_l.rdb rfl) hw1) h_l.1 (by omega); exact h7) rfl ?_)
      rintro ⟨b23, g23⟩ ⟨r23, s23⟩
      refine ⟨_, _, inferInstance, inferInstance, ?_⟩
      simp only at r23 s23
      refine s_q (q_assign rfl) rfl ?_
      refine g_nil ?_
      refine g_then ?_
      refine g_seq ?_
      refine g_seq ?_
      refine g_region ?_
      refine s_q (q_move rfl) rfl ?_
      refine s_q (q_eqp (b := false) rfl rfl rfl) rfl ?_
      refine g_nil ?_
      refine g_then ?_
      refine g_false rfl ?_
      refine g_skip ?_
      refine g_then ?_
      refine g_seq ?_
      refine g_region ?_
      refine s_q (q_move rfl) rfl ?_
      refine s_q (q_move rfl) rfl ?_
      refine s_q (q_move rfl) rfl ?_
      refine g_op (g_ownS [Res.blk b23 50 (Rg.c g23), Res.row (Rg.A g23) (Rg.s g23).length (Rg.cap g23) 3 1 (Rg.s g23)] rfl (fun w1 hw1 ho1 => by have h7 := step_any b23 g23 (lim) A_ws (ws.length) (c_ws) ws l w1 ho1 r23 (Rd.ofOld hw1 o_ws (by omega) (by simp)) hokw h_lim (by first | omega | (simp; omega)); exact h7) rfl ?_)
      rintro ⟨A29, cap29, g29⟩ ⟨r29, s29⟩
      refine ⟨_, _, inferInstance, inferInstance, ?_⟩
      simp only at r29 s29
      refine s_q (q_assign rfl) rfl ?_
      refine g_nil ?_
      refine g_then ?_
      refine g_seq ?_
      refine g_region ?_
      refine s_q (q_move rfl) rfl ?_
      refine s_q (q_move rfl) rfl ?_
      refine g_op (g_pure rfl (fun w1 hw1 => rweight_any A_ws A29 (ws.length) (c_ws) ((batF lim ws l 0 true).length) (cap29) (ws) ((batF lim ws l 0 true)) w1 (Rdb.toOld (o_ws.rdb rfl) hw1) (Rdb.toOld (InRow.rdb (A := A29) (els := ((batF lim ws l 0 true)).map (fun v : Int => [Value.int .i64 v])) (by first | rfl | assumption | (simp; done) | (simp_all; done) | (simp; omega) | (simp_all; omega)) (map_cat (c := (fun v : Int => [Value.int .i64 v])) (fun _ => rfl) _)) hw1) hokw (by first | omega | (simp; omega) | (simp; done))) rfl ?_)
      refine s_q (q_move rfl) rfl ?_
      refine s_q (q_extract rfl rfl) rfl ?_
      refine s_q (q_extract rfl rfl) rfl ?_
      refine s_q (q_assign rfl) rfl ?_
      refine s_q (q_assign rfl) rfl ?_
      refine g_nil ?_
      refine g_then ?_
      refine g_seq ?_
      refine g_region ?_
      refine s_q (q_move rfl) rfl ?_
      refine g_op (g_lit rfl rfl rfl rfl rfl fun b38 => ?_)
      refine g_norow (t := 38) (T := 3) (k := 1) rfl fun A38 cap38 hc38 => ?_
      refine g_rowels (A := A38) (([] : List Int).map (fun v : Int => [Value.int .i64 v])) rfl ?_
      refine s_q (q_move rfl) rfl ?_
      refine g_op (g_append (A := A38) (els := (([] : List Int)).map (fun v : Int => [Value.int .i64 v])) (news := (((batF lim ws l 0 true)).map (fun v : Int => [Value.int .i64 v]))) rfl rfl (InRow.rdb (A := A29) (els := ((batF lim ws l 0 true)).map (fun v : Int => [Value.int .i64 v])) (by first | rfl | assumption | (simp; done) | (simp_all; done) | (simp; omega) | (simp_all; omega)) (map_cat (c := (fun v : Int => [Value.int .i64 v])) (fun _ => rfl) _)) (map_one (c := (fun v : Int => [Value.int .i64 v])) (by intro x; simp [Value.oneCell']) _) (by first | omega | (simp; omega) | (simp_all; omega)) rfl fun A40 cap40 => ⟨_, inferInstance, ?_⟩)
      refine g_rowels (A := A40) (((batF lim ws l 0 true)).map (fun v : Int => [Value.int .i64 v])) (by first | rfl | exact List.map_append.symm | (simp; done)) ?_
      refine g_rown (A := A40) ((batF lim ws l 0 true).length) (by simp) ?_
      refine g_val 40 (v' := .slice A40 ((batF lim ws l 0 true).length) cap40) rfl (by simp) ?_
      refine s_q (q_move rfl) rfl ?_
      refine g_op (g_ownS [Res.blk b23 50 (Rg.c g29), Res.row (Rg.A g29) (Rg.s g29).length (Rg.cap g29) 3 1 (Rg.s g29)] rfl (fun w1 hw1 ho1 => by have h7 := all_i b23 g29 (l.drop (batF lim ws l 0 true).length) w1 ho1 r29; exact h7) rfl ?_)
      rintro ⟨A42, cap42⟩ _
      refine ⟨_, _, inferInstance, inferInstance, ?_⟩
      refine s_q (q_move rfl) rfl ?_
      refine g_op (g_keep [Res.blk b23 50 (Rg.c g29), Res.row (Rg.A g29) (Rg.s g29).length (Rg.cap g29) 3 1 (Rg.s g29)] rfl (fun w1 hw1 ho1 => by exact len_i b23 g29 (l.drop (batF lim ws l 0 true).length) w1 ho1 r29) rfl ?_)
      refine s_q (q_minn (a := ((l.drop (batF lim ws l 0 true).length)).length) (b := 1) rfl rfl) rfl ?_
      refine g_rowfact A42 fun hcp4 _ _ => ?_
      refine s_q (q_slice_h (h := (min (l.drop (batF lim ws l 0 true).length).length 1)) rfl rfl rfl (by omega)) rfl ?_
      refine g_op (g_append (A := A40) (els := ((batF lim ws l 0 true)).map (fun v : Int => [Value.int .i64 v])) (news := ((((l.drop (batF lim ws l 0 true).length).take (min (l.drop (batF lim ws l 0 true).length).length 1))).map (fun v : Int => [Value.int .i64 v]))) rfl rfl (by rw [List.map_take]; exact Rdb.h (cap := cap42) (InRow.rdb (A := A42) (els := ((l.drop (batF lim ws l 0 true).length)).map (fun v : Int => [Value.int .i64 v])) (by simp) (map_cat (c := (fun v : Int => [Value.int .i64 v])) (fun _ => rfl) _)) (by omega) hcp4) (map_one (c := (fun v : Int => [Value.int .i64 v])) (by intro x; simp [Value.oneCell']) _) (by first | omega | (simp; omega) | (simp_all; omega)) rfl fun A47 cap47 => ⟨_, inferInstance, ?_⟩)
      refine g_rowels (A := A47) ((((batF lim ws l 0 true) ++ ((l.drop (batF lim ws l 0 true).length).take (min (l.drop (batF lim ws l 0 true).length).length 1)))).map (fun v : Int => [Value.int .i64 v])) (by first | rfl | exact List.map_append.symm | (simp; done)) ?_
      refine g_op (g_pure rfl (fun w1 hw1 => rweight_any A_ws A47 (ws.length) (c_ws) (((batF lim ws l 0 true).length + (min (l.drop (batF lim ws l 0 true).length).length 1))) (cap47) (ws) (((batF lim ws l 0 true) ++ ((l.drop (batF lim ws l 0 true).length).take (min (l.drop (batF lim ws l 0 true).length).length 1)))) w1 (Rdb.toOld (o_ws.rdb rfl) hw1) (Rdb.toOld (InRow.rdb (A := A47) (els := (((batF lim ws l 0 true) ++ ((l.drop (batF lim ws l 0 true).length).take (min (l.drop (batF lim ws l 0 true).length).length 1)))).map (fun v : Int => [Value.int .i64 v])) (by first | rfl | assumption | (simp; done) | (simp_all; done) | (simp; omega) | (simp_all; omega)) (map_cat (c := (fun v : Int => [Value.int .i64 v])) (fun _ => rfl) _)) hw1) hokw (by first | omega | (simp; omega) | (simp; done))) rfl ?_)
      have hfit := fun h1 => bat_fit (lim := lim) (l := l) hokw h_lim.1 h1
      have hmore := fun hn hf => bat_more (lim := lim) (l := l) hokw hn hf
      refine s_q (q_move rfl) rfl ?_
      refine s_q (q_extract rfl rfl) rfl ?_
      refine s_q (q_extract rfl rfl) rfl ?_
      refine s_q (q_assign rfl) rfl ?_
      refine s_q (q_assign rfl) rfl ?_
      refine g_nil ?_
      refine g_then ?_
      refine g_seq ?_
      refine g_region ?_
      refine g_op (g_pure rfl (fun w1 hw1 => alive_any w1) rfl ?_)
      refine s_q (q_move rfl) rfl ?_
      refine s_qg (q_move rfl) rfl rfl rfl ?_
      refine s_qg (q_len rfl) rfl rfl rfl ?_
      refine s_qg (q_eql rfl rfl) rfl rfl rfl ?_
      refine s_qg (q_move rfl) rfl rfl rfl ?_
      refine g_split 56 rfl (fun h3 => ?_) (fun h3 => ?_)
      · refine g_gf rfl rfl rfl rfl ?_
        refine g_gf rfl rfl rfl rfl ?_
        refine g_gu rfl rfl rfl ?_
        refine g_gu rfl rfl rfl ?_
        refine g_gu rfl rfl rfl ?_
        refine g_gf rfl rfl rfl rfl ?_
        refine s_qg (q_pick_t rfl rfl) rfl rfl rfl ?_
        refine s_q (q_pick_t rfl rfl) rfl ?_
        refine s_q (q_move rfl) rfl ?_
        refine s_qg (q_move rfl) rfl rfl rfl ?_
        refine g_gt rfl rfl (g_keep [Res.blk b23 50 (Rg.c g29), Res.row (Rg.A g29) (Rg.s g29).length (Rg.cap g29) 3 1 (Rg.s g29)] rfl (fun w1 hw1 ho1 => by exact len_i b23 g29 (l.drop (batF lim ws l 0 true).length) w1 ho1 r29) rfl ?_)
        refine s_qg (q_eql rfl rfl) rfl rfl rfl ?_
        refine s_qg (q_move rfl) rfl rfl rfl ?_
        refine g_split 69 rfl (fun h4 => ?_) (fun h4 => ?_)
        · refine g_gf rfl rfl rfl rfl ?_
          refine g_gf rfl rfl rfl rfl ?_
          refine s_qg (q_pick_t rfl rfl) rfl rfl rfl ?_
          refine s_qg (q_move rfl) rfl rfl rfl ?_
          refine g_gf rfl rfl rfl rfl ?_
          refine g_gf rfl rfl rfl rfl ?_
          refine g_gf rfl rfl rfl rfl ?_
          refine s_qg (q_pick_t rfl rfl) rfl rfl rfl ?_
          refine s_qg (q_move rfl) rfl rfl rfl ?_
          refine g_gf rfl rfl rfl rfl ?_
          refine g_gf rfl rfl rfl rfl ?_
          refine g_gf rfl rfl rfl rfl ?_
          refine s_qg (q_pick_t rfl rfl) rfl rfl rfl ?_
          refine s_q (q_pick_t rfl rfl) rfl ?_
          refine s_q (q_assign rfl) rfl ?_
          refine g_nil ?_
          refine g_then ?_
          refine g_ret ?_
          exact fin1 rfl (.tmp rfl) (fun w' hw' => ⟨by first | rfl | (simp_all; done) | (simp_all; omega), hw'.upd⟩) _ (.inl rfl)
        · have hq : (batF lim ws l 0 true).length < l.length := by have h9 := of_decide_eq_false h4; omega
          refine s_qg (q_move rfl) rfl rfl rfl ?_
          refine s_qg (q_not rfl) rfl rfl rfl ?_
          refine s_qg (q_pick_f rfl rfl) rfl rfl rfl ?_
          refine s_qg (q_move rfl) rfl rfl rfl ?_
          refine g_split 73 rfl (fun h5 => ?_) (fun h5 => ?_)
          · refine g_gf rfl rfl rfl rfl ?_
            refine g_gf rfl rfl rfl rfl ?_
            refine g_gf rfl rfl rfl rfl ?_
            refine s_qg (q_pick_t rfl rfl) rfl rfl rfl ?_
            refine s_qg (q_move rfl) rfl rfl rfl ?_
            refine g_gf rfl rfl rfl rfl ?_
            refine g_gf rfl rfl rfl rfl ?_
            refine g_gf rfl rfl rfl rfl ?_
            refine s_qg (q_pick_t rfl rfl) rfl rfl rfl ?_
            refine s_q (q_pick_t rfl rfl) rfl ?_
            refine s_q (q_assign rfl) rfl ?_
            refine g_nil ?_
            refine g_then ?_
            refine g_ret ?_
            exact fin1 rfl (.tmp rfl) (fun w' hw' => ⟨by first | rfl | (simp_all; done) | (simp_all; omega), hw'.upd⟩) _ (.inl rfl)
          · have hf9 := by simpa only [Bool.not_eq_false'] using h5
            refine s_qg (q_move rfl) rfl rfl rfl ?_
            refine s_qg (q_move rfl) rfl rfl rfl ?_
            refine s_qg (q_gtr rfl rfl) rfl rfl rfl ?_
            refine g_litb 76 (b := true) rfl (decide_eq_true (by have h9 := hmore hq hf9; omega)) ?_
            refine s_qg (q_pick_f rfl rfl) rfl rfl rfl ?_
            refine s_qg (q_move rfl) rfl rfl rfl ?_
            refine g_gf rfl rfl rfl rfl ?_
            refine g_gf rfl rfl rfl rfl ?_
            refine g_gf rfl rfl rfl rfl ?_
            refine s_qg (q_pick_t rfl rfl) rfl rfl rfl ?_
            refine s_q (q_pick_t rfl rfl) rfl ?_
            refine s_q (q_assign rfl) rfl ?_
            refine g_nil ?_
            refine g_then ?_
            refine g_ret ?_
            exact fin1 rfl (.tmp rfl) (fun w' hw' => ⟨by first | rfl | (simp_all; done) | (simp_all; omega), hw'.upd⟩) _ (.inl rfl)
      · have hne1 : (batF lim ws l 0 true).length ≠ 1 := by have h9 := of_decide_eq_false h3; omega
        refine s_qg (q_move rfl) rfl rfl rfl ?_
        refine s_qg (q_move rfl) rfl rfl rfl ?_
        refine g_split 58 rfl (fun h6 => ?_) (fun h6 => ?_)
        · refine s_qg (q_move rfl) rfl rfl rfl ?_
          refine s_qg (q_move rfl) rfl rfl rfl ?_
          refine s_qg (q_leq rfl rfl) rfl rfl rfl ?_
          refine g_litb 61 (b := true) rfl (decide_eq_true (hfit hne1).2) ?_
          refine s_qg (q_pick_t rfl rfl) rfl rfl rfl ?_
          refine s_qg (q_pick_f rfl rfl) rfl rfl rfl ?_
          refine s_q (q_pick_t rfl rfl) rfl ?_
          refine s_q (q_move rfl) rfl ?_
          refine s_qg (q_move rfl) rfl rfl rfl ?_
          refine g_gt rfl rfl (g_keep [Res.blk b23 50 (Rg.c g29), Res.row (Rg.A g29) (Rg.s g29).length (Rg.cap g29) 3 1 (Rg.s g29)] rfl (fun w1 hw1 ho1 => by exact len_i b23 g29 (l.drop (batF lim ws l 0 true).length) w1 ho1 r29) rfl ?_)
          refine s_qg (q_eql rfl rfl) rfl rfl rfl ?_
          refine s_qg (q_move rfl) rfl rfl rfl ?_
          refine g_split 69 rfl (fun h7 => ?_) (fun h7 => ?_)
          · refine g_gf rfl rfl rfl rfl ?_
            refine g_gf rfl rfl rfl rfl ?_
            refine s_qg (q_pick_t rfl rfl) rfl rfl rfl ?_
            refine s_qg (q_move rfl) rfl rfl rfl ?_
            refine g_gf rfl rfl rfl rfl ?_
            refine g_gf rfl rfl rfl rfl ?_
            refine g_gf rfl rfl rfl rfl ?_
            refine s_qg (q_pick_t rfl rfl) rfl rfl rfl ?_
            refine s_qg (q_move rfl) rfl rfl rfl ?_
            refine g_gf rfl rfl rfl rfl ?_
            refine g_gf rfl rfl rfl rfl ?_
            refine g_gf rfl rfl rfl rfl ?_
            refine s_qg (q_pick_t rfl rfl) rfl rfl rfl ?_
            refine s_q (q_pick_t rfl rfl) rfl ?_
            refine s_q (q_assign rfl) rfl ?_
            refine g_nil ?_
            refine g_then ?_
            refine g_ret ?_
            exact fin1 rfl (.tmp rfl) (fun w' hw' => ⟨by first | rfl | (simp_all; done) | (simp_all; omega), hw'.upd⟩) _ (.inl rfl)
          · have hq : (batF lim ws l 0 true).length < l.length := by have h9 := of_decide_eq_false h7; omega
            refine s_qg (q_move rfl) rfl rfl rfl ?_
            refine s_qg (q_not rfl) rfl rfl rfl ?_
            refine s_qg (q_pick_f rfl rfl) rfl rfl rfl ?_
            refine s_qg (q_move rfl) rfl rfl rfl ?_
            refine g_split 73 rfl (fun h8 => ?_) (fun h8 => ?_)
            · refine g_gf rfl rfl rfl rfl ?_
              refine g_gf rfl rfl rfl rfl ?_
              refine g_gf rfl rfl rfl rfl ?_
              refine s_qg (q_pick_t rfl rfl) rfl rfl rfl ?_
              refine s_qg (q_move rfl) rfl rfl rfl ?_
              refine g_gf rfl rfl rfl rfl ?_
              refine g_gf rfl rfl rfl rfl ?_
              refine g_gf rfl rfl rfl rfl ?_
              refine s_qg (q_pick_t rfl rfl) rfl rfl rfl ?_
              refine s_q (q_pick_t rfl rfl) rfl ?_
              refine s_q (q_assign rfl) rfl ?_
              refine g_nil ?_
              refine g_then ?_
              refine g_ret ?_
              exact fin1 rfl (.tmp rfl) (fun w' hw' => ⟨by first | rfl | (simp_all; done) | (simp_all; omega), hw'.upd⟩) _ (.inl rfl)
            · have hf9 := by simpa only [Bool.not_eq_false'] using h8
              refine s_qg (q_move rfl) rfl rfl rfl ?_
              refine s_qg (q_move rfl) rfl rfl rfl ?_
              refine s_qg (q_gtr rfl rfl) rfl rfl rfl ?_
              refine g_litb 76 (b := true) rfl (decide_eq_true (by have h9 := hmore hq hf9; omega)) ?_
              refine s_qg (q_pick_f rfl rfl) rfl rfl rfl ?_
              refine s_qg (q_move rfl) rfl rfl rfl ?_
              refine g_gf rfl rfl rfl rfl ?_
              refine g_gf rfl rfl rfl rfl ?_
              refine g_gf rfl rfl rfl rfl ?_
              refine s_qg (q_pick_t rfl rfl) rfl rfl rfl ?_
              refine s_q (q_pick_t rfl rfl) rfl ?_
              refine s_q (q_assign rfl) rfl ?_
              refine g_nil ?_
              refine g_then ?_
              refine g_ret ?_
              exact fin1 rfl (.tmp rfl) (fun w' hw' => ⟨by first | rfl | (simp_all; done) | (simp_all; omega), hw'.upd⟩) _ (.inl rfl)
        · exact absurd (hfit hne1).1 (by rw [h6]; decide)

theorem main_activateLimits (v0 : Value) (v1 : Value) (v2 : Value) (W : World) (a0 : Arg Try.prog W 22 v0) (a1 : Arg Try.prog W 23 v1) (a2 : Arg Try.prog W 24 v2) : Pur Try.prog 5 [v0, v1, v2] W (.bool true) := by
  obtain ⟨A_l, c_l, l, rfl, hle0, hm0, o_l, k_l⟩ := Arg.slice (fun v : Int => [Value.int .i64 v]) (fun x : Int => -9223372036854775808 ≤ x ∧ x ≤ 9223372036854775807) Try.underlying22 (show Try.prog.cellsOf 3 = 1 by kernel_rfl) (by omega) (fun f cs h => OKc.int Try.underlying3 h) a0
  have h_l : l.length ≤ c_l ∧ c_l ≤ 9223372036854775807 := ⟨hle0, by unfold maxLen at hm0; omega⟩
  obtain ⟨lim, rfl, h_lim⟩ := Arg.int Try.underlying23 a1
  obtain ⟨A_ws, c_ws, ws, rfl, hle2, hm2, o_ws, k_ws⟩ := Arg.slice (fun v : Int => [Value.int .u64 v]) (fun x : Int => 0 ≤ x ∧ x ≤ 18446744073709551615) Try.underlying24 (show Try.prog.cellsOf 23 = 1 by kernel_rfl) (by omega) (fun f cs h => OKc.int Try.underlying23 h) a2
  have h_ws : ws.length ≤ c_ws ∧ c_ws ≤ 9223372036854775807 := ⟨hle2, by unfold maxLen at hm2; omega⟩
  exact law_activateLimits A_l c_l l lim A_ws c_ws ws W o_l h_l k_l h_lim o_ws h_ws k_ws

namespace LawActivateLimits
open Go.ChangeShapes Go.WideShapes Go.ChangeAt Go.RowKit Go.Eg
set_option linter.unusedVariables false
theorem own : ownKnob Try.prog.godebug = none := by kernel_rfl
theorem laidOut : laidOutB Try.prog = true := by kernel_rfl
set_option maxRecDepth 100000 in
theorem lifted (os : Os) (started : os.Started) (H : Type) (enc : TypeId × Value → H) :
    ReturnsInHanded {} Try.checked os 5 .any (Rows.activateLimitsSpec.pre6 enc Try.prog Try.f5 Rows.activateLimitsRow.domain false) (Rows.activateLimitsSpec.post enc Try.prog Try.f5 false true false false) := by
  refine returnsInHanded_of_change (C := Try.checked) own started (by kernel_rfl) Try.func5
    (ChangeSpec.witness6 (enc := enc) (C := Try.checked) false ⟨#[], #[.slice none 0 0, .int .u64 0, .slice none 0 0], []⟩ 8 (by kernel_rfl) (by kernel_rfl) (by kernel_rfl) (by kernel_rfl)) ?_
  intro W base args ds gs before hval0 hW hcnd _
  have hval : ∀ (j : Nat) t v, Try.f5.params[j]? = some t → args[j]? = some v → Value.okWide Try.prog W .any base t v := hval0
  have hW' := hW
  obtain ⟨p, q, hA0, hV, rfl, hfz, hnd⟩ := hW
  have hA : DataW.TrodAll enc Try.prog W 0 (fun _ => true) true Try.f5.params.toList args.toList ds p := hA0
  rw [Try.params5] at hA hval
  obtain ⟨v0, vs0, d0, ds0, p0, q0, hargs, rfl, rfl, h0, r0⟩ := trodAll_cons hA
  obtain ⟨v1, vs1, d1, ds1, p1, q1, rfl, rfl, rfl, h1, r1⟩ := trodAll_cons r0
  obtain ⟨v2, vs2, d2, ds2, p2, q2, rfl, rfl, rfl, h2, r2⟩ := trodAll_cons r1
  obtain ⟨rfl, rfl, rfl⟩ := trodAll_nil r2
  obtain rfl : args = #[v0, v1, v2] := by cases args; simp_all
  obtain ⟨rfl, rfl⟩ := trodVars_none hV
  have a0 := Arg.of h0 (hval 0 22 v0 rfl rfl)
  have lt0 : ∀ x ∈ p0, x.block < W.heap.size := by obtain ⟨m, hm⟩ := h0; exact DataW.trod_lt m _ _ _ hm
  have a1 := Arg.of h1 (hval 1 23 v1 rfl rfl)
  have lt1 : ∀ x ∈ p1, x.block < W.heap.size := by obtain ⟨m, hm⟩ := h1; exact DataW.trod_lt m _ _ _ hm
  have a2 := Arg.of h2 (hval 2 24 v2 rfl rfl)
  have lt2 : ∀ x ∈ p2, x.block < W.heap.size := by obtain ⟨m, hm⟩ := h2; exact DataW.trod_lt m _ _ _ hm
  clear hA0 hval0
  simp only [List.append_nil] at hW'
  refine Calls.mono (main_activateLimits v0 v1 v2 W a0 a1 a2) ?_
  rintro e W' ⟨v, rfl, rfl, hu⟩
  have bel := hu.below
  have targ := (trodAll_cons_mk (Below.trod laidOut (by kernel_rfl) (of_decide_eq_true (by kernel_rfl)) h0 bel lt0) (trodAll_cons_mk (Below.trod laidOut (by kernel_rfl) (of_decide_eq_true (by kernel_rfl)) h1 bel lt1) (trodAll_cons_mk (Below.trod laidOut (by kernel_rfl) (of_decide_eq_true (by kernel_rfl)) h2 bel lt2) trodAll_mk0)))
  simp only [List.append_nil] at targ
  exact ⟨_, rfl, _, _, _, [], _, [], hW', trodAll_mk1 (shut_bool Try.underlying4 _), targ, rfl, bel.frame _, fun h => by cases h⟩
theorem over : Rows.activateLimitsRow.holds Try.pinned (OpenSpec.ofChange Rows.activateLimitsSpec) :=
  OpenClaim.holds_of_wide 5 Try.f5 rfl rfl rfl rfl rfl rfl rfl ⟨rfl, rfl, rfl, rfl, rfl⟩ rfl rfl rfl rfl rfl (by kernel_rfl) Try.func5 (by kernel_rfl)
    (of_decide_eq_true (by kernel_rfl)) (by unfold Func.isWrapper; first | (rw [if_pos (by decide +kernel)]; kernel_rfl) | (rw [if_neg (by decide +kernel)]; exact ⟨rfl, rfl⟩))
    (fun os started H enc _ => lifted os started H enc)
theorem proved : Rows.ActivateLimitsSaid := over
end LawActivateLimits
end Go.Proofs.Ytjfncbgggfammaa
