/- ActivateDrains: for every queue and lists of limits and weights the law returns true. No condition. -/
import Derived.Test.YtjfncbgggfammaaWC
namespace Go.Proofs.Ytjfncbgggfammaa
open Go.RowKit Go.Eg
set_option synthInstance.maxSize 3000
set_option linter.unusedSimpArgs false
set_option linter.unusedVariables false
set_option maxRecDepth 100000
set_option maxHeartbeats 400000 in
theorem law_activateDrains (A_l : Option Addr) (c_l : Nat) (l : List Int) (A_lims : Option Addr) (c_lims : Nat) (lims : List Int) (A_ws : Option Addr) (c_ws : Nat) (ws : List Int) (w : World) (o_l : Old w A_l l.length 1 (l.map (fun v : Int => [Value.int .i64 v]))) (h_l : l.length ≤ c_l ∧ c_l ≤ 9223372036854775807) (k_l : ∀ x ∈ l, (fun x : Int => -9223372036854775808 ≤ x ∧ x ≤ 9223372036854775807) x) (o_lims : Old w A_lims lims.length 1 (lims.map (fun v : Int => [Value.int .u64 v]))) (h_lims : lims.length ≤ c_lims ∧ c_lims ≤ 9223372036854775807) (k_lims : ∀ x ∈ lims, (fun x : Int => 0 ≤ x ∧ x ≤ 18446744073709551615) x) (o_ws : Old w A_ws ws.length 1 (ws.map (fun v : Int => [Value.int .u64 v]))) (h_ws : ws.length ≤ c_ws ∧ c_ws ≤ 9223372036854775807) (k_ws : ∀ x ∈ ws, (fun x : Int => 0 ≤ x ∧ x ≤ 18446744073709551615) x) : Pur Try.prog 4 [.slice A_l l.length c_l, .slice A_lims lims.length c_lims, .slice A_ws ws.length c_ws] w (.bool true) := by
  refine g_start Try.func4 rfl 81 rfl (by simp) ([]) [] (WOK.start _ _) _ rfl ?_
  refine g_seq ?_
  refine g_region ?_
  refine s_q (q_assign rfl) rfl ?_
  refine g_nil ?_
  refine g_then ?_
  refine g_seq ?_
  refine g_seq ?_
  refine g_region ?_
  refine s_q (q_move rfl) rfl ?_
  refine s_q (q_len rfl) rfl ?_
  refine s_q (q_gtr rfl rfl) rfl ?_
  refine s_q (q_move rfl) rfl ?_
  refine g_split 16 rfl (fun h1 => ?_) (fun h1 => ?_)
  · refine g_gf rfl rfl rfl rfl ?_
    refine g_gf rfl rfl rfl rfl ?_
    refine g_gf rfl rfl rfl rfl ?_
    refine s_q (q_pick_t rfl rfl) rfl ?_
    refine s_q (q_move rfl) rfl ?_
    refine g_gf rfl rfl rfl rfl ?_
    refine g_gf rfl rfl rfl rfl ?_
    refine g_gf rfl rfl rfl rfl ?_
    refine s_q (q_pick_t rfl rfl) rfl ?_
    refine g_nil ?_
    refine g_then ?_
    refine g_true rfl ?_
    refine g_seq ?_
    refine g_region ?_
    refine g_op (g_pure rfl (fun w1 hw1 => alive_any w1) rfl ?_)
    refine s_q (q_assign rfl) rfl ?_
    refine g_nil ?_
    refine g_then ?_
    refine g_ret ?_
    refine g_then_ret ?_
    exact fin1 rfl (.tmp rfl) (fun w' hw' => ⟨by first | rfl | (simp_all; done) | (simp_all; omega), hw'.upd⟩) _ (.inl rfl)
  · have hn60 : l.length ≤ 60 := by have h9 := of_decide_eq_false h1; omega
    refine s_qg (q_move rfl) rfl rfl rfl ?_
    refine s_qg (q_len rfl) rfl rfl rfl ?_
    refine s_qg (q_gtr rfl rfl) rfl rfl rfl ?_
    refine s_q (q_pick_f rfl rfl) rfl ?_
    refine s_q (q_move rfl) rfl ?_
    refine g_split 21 rfl (fun h2 => ?_) (fun h2 => ?_)
    · refine g_gf rfl rfl rfl rfl ?_
      refine g_gf rfl rfl rfl rfl ?_
      refine g_gf rfl rfl rfl rfl ?_
      refine s_q (q_pick_t rfl rfl) rfl ?_
      refine g_nil ?_
      refine g_then ?_
      refine g_true rfl ?_
      refine g_seq ?_
      refine g_region ?_
      refine g_op (g_pure rfl (fun w1 hw1 => alive_any w1) rfl ?_)
      refine s_q (q_assign rfl) rfl ?_
      refine g_nil ?_
      refine g_then ?_
      refine g_ret ?_
      refine g_then_ret ?_
      exact fin1 rfl (.tmp rfl) (fun w' hw' => ⟨by first | rfl | (simp_all; done) | (simp_all; omega), hw'.upd⟩) _ (.inl rfl)
    · refine s_qg (q_move rfl) rfl rfl rfl ?_
      refine s_qg (q_len rfl) rfl rfl rfl ?_
      refine s_qg (q_gtr rfl rfl) rfl rfl rfl ?_
      refine s_q (q_pick_f rfl rfl) rfl ?_
      refine g_nil ?_
      refine g_then ?_
      refine g_cond rfl (fun h3 => ?_) (fun h3 => ?_)
      · refine g_seq ?_
        refine g_region ?_
        refine g_op (g_pure rfl (fun w1 hw1 => alive_any w1) rfl ?_)
        refine s_q (q_assign rfl) rfl ?_
        refine g_nil ?_
        refine g_then ?_
        refine g_ret ?_
        refine g_then_ret ?_
        exact fin1 rfl (.tmp rfl) (fun w' hw' => ⟨by first | rfl | (simp_all; done) | (simp_all; omega), hw'.upd⟩) _ (.inl rfl)
      · refine g_skip ?_
        refine g_then ?_
        refine g_seq ?_
        refine g_region ?_
        refine s_q (q_move rfl) rfl ?_
        refine g_op (g_ownS [] rfl (fun w1 hw1 ho1 => by have h7 := queue_any A_l c_l l w1 (Rdb.toOld (o_l.rdb rfl) hw1) h_l.1 (by omega); exact h7) rfl ?_)
        rintro ⟨b28, g28⟩ ⟨r28, s28⟩
        refine ⟨_, _, inferInstance, inferInstance, ?_⟩
        simp only at r28 s28
        refine s_q (q_assign rfl) rfl ?_
        refine g_nil ?_
        refine g_then ?_
        refine g_seq ?_
        refine g_seq ?_
        refine g_region ?_
        refine s_q (q_move rfl) rfl ?_
        refine s_q (q_eqp (b := false) rfl rfl rfl) rfl ?_
        refine g_nil ?_
        refine g_then ?_
        refine g_false rfl ?_
        refine g_skip ?_
        refine g_then ?_
        refine g_seq ?_
        refine g_region ?_
        refine s_q (q_assign rfl) rfl ?_
        refine g_nilrow 8 3 1 rfl fun Az1 capz1 hcz1 => ?_
        refine g_rowels (A := Az1) (([] : List Int).map (fun v : Int => [Value.int .i64 v])) rfl ?_
        refine g_nil ?_
        refine g_then ?_
        refine g_seq ?_
        refine g_seq ?_
        refine g_region ?_
        refine s_q (q_move rfl) rfl ?_
        refine s_q (q_len rfl) rfl ?_
        refine s_q (q_move rfl) rfl ?_
        refine g_nil ?_
        refine g_then ?_
        refine g_block ?_
        refine g_loopk [0, 1, 2, 6, 7, 32] (fun (x : Nat × Nat × Rg × Option Addr × Nat × List Int) => [(8, .slice x.2.2.2.1 x.2.2.2.2.2.length x.2.2.2.2.1), (33, .int .i64 ((x.1 : Nat) : Int))]) (fun (x : Nat × Nat × Rg × Option Addr × Nat × List Int) => [Res.row x.2.2.2.1 (x.2.2.2.2.2).length x.2.2.2.2.1 3 1 ((x.2.2.2.2.2).map (fun v : Int => [Value.int .i64 v])), Res.blk b28 50 (Rg.c x.2.2.1), Res.row (Rg.A x.2.2.1) (Rg.s x.2.2.1).length (Rg.cap x.2.2.1) 3 1 (Rg.s x.2.2.1)]) (fun (x : Nat × Nat × Rg × Option Addr × Nat × List Int) => x.1 ≤ l.length ∧ (x.2.2.1).Rep 1 ((l.drop x.2.1).map (fun v : Int => [Value.int .i64 v])) ∧ x.2.1 ≤ l.length ∧ x.1 ≤ x.2.1 ∧ x.2.2.2.2.2 = l.take x.2.1) (fun (x : Nat × Nat × Rg × Option Addr × Nat × List Int) => l.length - x.1) (0, 0, g28, Az1, capz1, []) (by (try dsimp only); exact ⟨Nat.zero_le _, (by simpa using r28), (by omega), (by omega), rfl⟩) rfl (by repeat (first | exact trivial | refine ⟨rfl, ?_⟩)) wok_sub ?_
        rintro ⟨i, k, g1, B, bc, o⟩ ⟨le_i, hr, hk, hik, ho⟩
        replace le_i : i ≤ l.length := le_i
        replace hr : (g1).Rep 1 ((l.drop k).map (fun v : Int => [Value.int .i64 v])) := hr
        replace hk : k ≤ l.length := hk
        replace hik : i ≤ k := hik
        replace ho : o = l.take k := ho
        refine g_setL (L' := [Res.row B (o).length bc 3 1 ((o).map (fun v : Int => [Value.int .i64 v])), Res.blk b28 50 (Rg.c g1), Res.row (Rg.A g1) (Rg.s g1).length (Rg.cap g1) 3 1 (Rg.s g1)]) rfl ?_
        refine g_val 8 (v' := .slice B o.length bc) rfl rfl ?_
        refine g_val 33 (v' := .int .i64 ((i : Nat) : Int)) rfl rfl ?_
        refine g_seq ?_
        refine g_region ?_
        refine s_q (q_lss rfl rfl) rfl ?_
        refine g_nil ?_
        refine g_then ?_
        refine g_seq ?_
        refine g_cond rfl (fun h4 => ?_) (fun h4 => ?_)
        · have lt_i : i < l.length := by have h9 := of_decide_eq_true h4; omega
          refine g_skip ?_
          refine g_then ?_
          refine g_seq ?_
          refine g_block ?_
          refine g_seq ?_
          refine g_region ?_
          refine s_q (q_move rfl) rfl ?_
          refine s_q (q_assign rfl) rfl ?_
          refine g_nil ?_
          refine g_then ?_
          refine g_seq ?_
          refine g_region ?_
          refine s_q (q_assign rfl) rfl ?_
          refine g_nil ?_
          refine g_then ?_
          refine g_seq ?_
          refine g_seq ?_
          refine g_region ?_
          refine s_q (q_move rfl) rfl ?_
          refine s_q (q_move rfl) rfl ?_
          refine s_q (q_len rfl) rfl ?_
          refine s_q (q_lss rfl rfl) rfl ?_
          refine g_nil ?_
          refine g_then ?_
          refine g_cond rfl (fun h5 => ?_) (fun h5 => ?_)
          · have hil : i < lims.length := by have h9 := of_decide_eq_true h5; omega
            have hbd := bat_dn lims[i] ws l k hk
            refine g_region ?_
            refine s_q (q_move rfl) rfl ?_
            refine s_q (q_move rfl) rfl ?_
            refine s_q (q_index (i := i) rfl rfl rfl (o_lims.rdb rfl) (by first | exact lt_i | omega)) rfl ?_
            refine s_q (q_load_el (i := i) (o := 0) rfl (o_lims.rdb rfl) (map_get (by first | assumption | omega)) rfl rfl) rfl ?_
            refine s_q (q_assign rfl) rfl ?_
            refine g_nil ?_
            refine g_then ?_
            refine g_seq ?_
            refine g_region ?_
            refine s_q (q_move rfl) rfl ?_
            refine g_op (g_keep [Res.blk b28 50 (Rg.c g1), Res.row (Rg.A g1) (Rg.s g1).length (Rg.cap g1) 3 1 (Rg.s g1)] rfl (fun w1 hw1 ho1 => by exact len_i b28 g1 (l.drop k) w1 ho1 hr) rfl ?_)
            refine s_q (q_assign rfl) rfl ?_
            refine g_nil ?_
            refine g_then ?_
            refine g_seq ?_
            refine g_region ?_
            refine s_q (q_move rfl) rfl ?_
            refine s_q (q_move rfl) rfl ?_
            refine s_q (q_move rfl) rfl ?_
            refine g_op (g_ownS [Res.blk b28 50 (Rg.c g1), Res.row (Rg.A g1) (Rg.s g1).length (Rg.cap g1) 3 1 (Rg.s g1)] rfl (fun w1 hw1 ho1 => by have h7 := step_any b28 g1 (lims[i]) A_ws (ws.length) (c_ws) ws (l.drop k) w1 ho1 hr (Rd.ofOld hw1 o_ws (by omega) (by simp)) (fun x hx => k_ws x hx) (by first | omega | exact k_lims _ (List.getElem_mem _)) (by simp; omega); exact h7) rfl ?_)
            rintro ⟨A49, cap49, g49⟩ ⟨r49, s49⟩
            refine ⟨_, _, inferInstance, inferInstance, ?_⟩
            simp only at r49 s49
            refine s_q (q_assign rfl) rfl ?_
            refine g_nil ?_
            refine g_then ?_
            refine g_seq ?_
            refine g_seq ?_
            refine g_region ?_
            refine s_q (q_move rfl) rfl ?_
            refine s_q (q_gtr rfl rfl) rfl ?_
            refine s_q (q_move rfl) rfl ?_
            refine g_split 52 rfl (fun h6 => ?_) (fun h6 => ?_)
            · have hk3 : k < l.length := by have h9 := of_decide_eq_true h6; rw [List.length_drop] at h9; omega
              refine s_qg (q_move rfl) rfl rfl rfl ?_
              refine s_qg (q_len rfl) rfl rfl rfl ?_
              refine s_qg (q_eql rfl rfl) rfl rfl rfl ?_
              refine s_q (q_pick_t rfl rfl) rfl ?_
              refine s_q (q_move rfl) rfl ?_
              refine g_split 57 rfl (fun h7 => ?_) (fun h7 => ?_)
              · exact absurd (of_decide_eq_true h7) (by have h9 := hbd.2 hk3; omega)
              · refine s_qg (q_move rfl) rfl rfl rfl ?_
                refine s_qg (q_len rfl) rfl rfl rfl ?_
                refine s_qg (q_move rfl) rfl rfl rfl ?_
                refine s_qg (q_move rfl) rfl rfl rfl ?_
                refine g_gt rfl rfl (g_keep [Res.blk b28 50 (Rg.c g49), Res.row (Rg.A g49) (Rg.s g49).length (Rg.cap g49) 3 1 (Rg.s g49)] rfl (fun w1 hw1 ho1 => by exact len_i b28 g49 ((l.drop k).drop (batF lims[i] ws (l.drop k) 0 true).length) w1 ho1 r49) rfl ?_)
                refine s_qg (q_subn (a := ((l.drop k)).length) (b := (((l.drop k).drop (batF lims[i] ws (l.drop k) 0 true).length)).length) rfl rfl (by first | omega | (simp; omega) | (simp_all; omega)) (by first | omega | (simp; omega) | (simp_all; omega))) rfl rfl rfl ?_
                refine s_qg (q_neq rfl rfl) rfl rfl rfl ?_
                refine s_q (q_pick_f rfl rfl) rfl ?_
                refine g_nil ?_
                refine g_then ?_
                refine g_cond rfl (fun h8 => ?_) (fun h8 => ?_)
                · exact absurd h8 (by have h9 := hbd; simp only [List.length_drop]; simp; omega)
                · refine g_skip ?_
                  refine g_then ?_
                  refine g_region ?_
                  refine s_q (q_move rfl) rfl ?_
                  refine s_q (q_move rfl) rfl ?_
                  refine g_op (g_append (A := B) (els := (o).map (fun v : Int => [Value.int .i64 v])) (news := (((batF lims[i] ws (l.drop k) 0 true)).map (fun v : Int => [Value.int .i64 v]))) rfl rfl (InRow.rdb (A := A49) (els := ((batF lims[i] ws (l.drop k) 0 true)).map (fun v : Int => [Value.int .i64 v])) (by first | rfl | assumption | (simp; done) | (simp_all; done) | (simp; omega) | (simp_all; omega)) (map_cat (c := (fun v : Int => [Value.int .i64 v])) (fun _ => rfl) _)) (map_one (c := (fun v : Int => [Value.int .i64 v])) (by intro x; simp [Value.oneCell']) _) (by first | omega | (simp; omega) | (simp_all; omega)) rfl fun A68 cap68 => ⟨_, inferInstance, ?_⟩)
                  refine g_rowels (A := A68) (((o ++ (batF lims[i] ws (l.drop k) 0 true))).map (fun v : Int => [Value.int .i64 v])) (by first | rfl | exact List.map_append.symm | (simp; done)) ?_
                  refine s_q (q_assign rfl) rfl ?_
                  refine g_nil ?_
                  refine g_blk_n ?_
                  refine g_then ?_
                  refine g_region ?_
                  refine s_q (q_inc rfl rfl (by omega)) rfl ?_
                  refine s_q (q_move rfl) rfl ?_
                  refine g_nil ?_
                  refine g_rown (A := A68) ((o ++ (batF lims[i] ws (l.drop k) 0 true))).length (by simp) ?_
                  refine g_val 8 (v' := .slice A68 ((o ++ (batF lims[i] ws (l.drop k) 0 true))).length cap68) rfl (by simp) ?_
                  exact g_again ((i + 1), (k + (batF lims[i] ws (l.drop k) 0 true).length), g49, A68, cap68, (o ++ (batF lims[i] ws (l.drop k) 0 true))) (by (try dsimp only); exact ⟨(by first | exact lt_i | omega), (by have h9 := r49; rw [bat_dl] at h9; exact h9), (by have h9 := bat_dn lims[i] ws l k hk; omega), (by have h9 := bat_dn lims[i] ws l k hk; omega), (by rw [ho]; exact bat_cat _ _ _ _)⟩) (by first | omega | (simp only; omega)) (by repeat (first | exact trivial | refine ⟨rfl, ?_⟩)) wok_sub
            · refine g_gf rfl rfl rfl rfl ?_
              refine g_gf rfl rfl rfl rfl ?_
              refine g_gf rfl rfl rfl rfl ?_
              refine s_q (q_pick_f rfl rfl) rfl ?_
              refine s_q (q_move rfl) rfl ?_
              refine s_qg (q_move rfl) rfl rfl rfl ?_
              refine s_qg (q_len rfl) rfl rfl rfl ?_
              refine s_qg (q_move rfl) rfl rfl rfl ?_
              refine s_qg (q_move rfl) rfl rfl rfl ?_
              refine g_gt rfl rfl (g_keep [Res.blk b28 50 (Rg.c g49), Res.row (Rg.A g49) (Rg.s g49).length (Rg.cap g49) 3 1 (Rg.s g49)] rfl (fun w1 hw1 ho1 => by exact len_i b28 g49 ((l.drop k).drop (batF lims[i] ws (l.drop k) 0 true).length) w1 ho1 r49) rfl ?_)
              refine s_qg (q_subn (a := ((l.drop k)).length) (b := (((l.drop k).drop (batF lims[i] ws (l.drop k) 0 true).length)).length) rfl rfl (by first | omega | (simp; omega) | (simp_all; omega)) (by first | omega | (simp; omega) | (simp_all; omega))) rfl rfl rfl ?_
              refine s_qg (q_neq rfl rfl) rfl rfl rfl ?_
              refine s_q (q_pick_f rfl rfl) rfl ?_
              refine g_nil ?_
              refine g_then ?_
              refine g_cond rfl (fun h9 => ?_) (fun h9 => ?_)
              · exact absurd h9 (by have h9 := hbd; simp only [List.length_drop]; simp; omega)
              · refine g_skip ?_
                refine g_then ?_
                refine g_region ?_
                refine s_q (q_move rfl) rfl ?_
                refine s_q (q_move rfl) rfl ?_
                refine g_op (g_append (A := B) (els := (o).map (fun v : Int => [Value.int .i64 v])) (news := (((batF lims[i] ws (l.drop k) 0 true)).map (fun v : Int => [Value.int .i64 v]))) rfl rfl (InRow.rdb (A := A49) (els := ((batF lims[i] ws (l.drop k) 0 true)).map (fun v : Int => [Value.int .i64 v])) (by first | rfl | assumption | (simp; done) | (simp_all; done) | (simp; omega) | (simp_all; omega)) (map_cat (c := (fun v : Int => [Value.int .i64 v])) (fun _ => rfl) _)) (map_one (c := (fun v : Int => [Value.int .i64 v])) (by intro x; simp [Value.oneCell']) _) (by first | omega | (simp; omega) | (simp_all; omega)) rfl fun A68 cap68 => ⟨_, inferInstance, ?_⟩)
                refine g_rowels (A := A68) (((o ++ (batF lims[i] ws (l.drop k) 0 true))).map (fun v : Int => [Value.int .i64 v])) (by first | rfl | exact List.map_append.symm | (simp; done)) ?_
                refine s_q (q_assign rfl) rfl ?_
                refine g_nil ?_
                refine g_blk_n ?_
                refine g_then ?_
                refine g_region ?_
                refine s_q (q_inc rfl rfl (by omega)) rfl ?_
                refine s_q (q_move rfl) rfl ?_
                refine g_nil ?_
                refine g_rown (A := A68) ((o ++ (batF lims[i] ws (l.drop k) 0 true))).length (by simp) ?_
                refine g_val 8 (v' := .slice A68 ((o ++ (batF lims[i] ws (l.drop k) 0 true))).length cap68) rfl (by simp) ?_
                exact g_again ((i + 1), (k + (batF lims[i] ws (l.drop k) 0 true).length), g49, A68, cap68, (o ++ (batF lims[i] ws (l.drop k) 0 true))) (by (try dsimp only); exact ⟨(by first | exact lt_i | omega), (by have h9 := r49; rw [bat_dl] at h9; exact h9), (by have h9 := bat_dn lims[i] ws l k hk; omega), (by have h9 := bat_dn lims[i] ws l k hk; omega), (by rw [ho]; exact bat_cat _ _ _ _)⟩) (by first | omega | (simp only; omega)) (by repeat (first | exact trivial | refine ⟨rfl, ?_⟩)) wok_sub
          · have hbd := bat_dn 0 ws l k hk
            refine g_skip ?_
            refine g_then ?_
            refine g_seq ?_
            refine g_region ?_
            refine s_q (q_move rfl) rfl ?_
            refine g_op (g_keep [Res.blk b28 50 (Rg.c g1), Res.row (Rg.A g1) (Rg.s g1).length (Rg.cap g1) 3 1 (Rg.s g1)] rfl (fun w1 hw1 ho1 => by exact len_i b28 g1 (l.drop k) w1 ho1 hr) rfl ?_)
            refine s_q (q_assign rfl) rfl ?_
            refine g_nil ?_
            refine g_then ?_
            refine g_seq ?_
            refine g_region ?_
            refine s_q (q_move rfl) rfl ?_
            refine s_q (q_move rfl) rfl ?_
            refine s_q (q_move rfl) rfl ?_
            refine g_op (g_ownS [Res.blk b28 50 (Rg.c g1), Res.row (Rg.A g1) (Rg.s g1).length (Rg.cap g1) 3 1 (Rg.s g1)] rfl (fun w1 hw1 ho1 => by have h7 := step_any b28 g1 (0) A_ws (ws.length) (c_ws) ws (l.drop k) w1 ho1 hr (Rd.ofOld hw1 o_ws (by omega) (by simp)) (fun x hx => k_ws x hx) (by first | omega | exact k_lims _ (List.getElem_mem _)) (by simp; omega); exact h7) rfl ?_)
            rintro ⟨A49, cap49, g49⟩ ⟨r49, s49⟩
            refine ⟨_, _, inferInstance, inferInstance, ?_⟩
            simp only at r49 s49
            refine s_q (q_assign rfl) rfl ?_
            refine g_nil ?_
            refine g_then ?_
            refine g_seq ?_
            refine g_seq ?_
            refine g_region ?_
            refine s_q (q_move rfl) rfl ?_
            refine s_q (q_gtr rfl rfl) rfl ?_
            refine s_q (q_move rfl) rfl ?_
            refine g_split 52 rfl (fun h10 => ?_) (fun h10 => ?_)
            · have hk3 : k < l.length := by have h9 := of_decide_eq_true h10; rw [List.length_drop] at h9; omega
              refine s_qg (q_move rfl) rfl rfl rfl ?_
              refine s_qg (q_len rfl) rfl rfl rfl ?_
              refine s_qg (q_eql rfl rfl) rfl rfl rfl ?_
              refine s_q (q_pick_t rfl rfl) rfl ?_
              refine s_q (q_move rfl) rfl ?_
              refine g_split 57 rfl (fun h11 => ?_) (fun h11 => ?_)
              · exact absurd (of_decide_eq_true h11) (by have h9 := hbd.2 hk3; omega)
              · refine s_qg (q_move rfl) rfl rfl rfl ?_
                refine s_qg (q_len rfl) rfl rfl rfl ?_
                refine s_qg (q_move rfl) rfl rfl rfl ?_
                refine s_qg (q_move rfl) rfl rfl rfl ?_
                refine g_gt rfl rfl (g_keep [Res.blk b28 50 (Rg.c g49), Res.row (Rg.A g49) (Rg.s g49).length (Rg.cap g49) 3 1 (Rg.s g49)] rfl (fun w1 hw1 ho1 => by exact len_i b28 g49 ((l.drop k).drop (batF 0 ws (l.drop k) 0 true).length) w1 ho1 r49) rfl ?_)
                refine s_qg (q_subn (a := ((l.drop k)).length) (b := (((l.drop k).drop (batF 0 ws (l.drop k) 0 true).length)).length) rfl rfl (by first | omega | (simp; omega) | (simp_all; omega)) (by first | omega | (simp; omega) | (simp_all; omega))) rfl rfl rfl ?_
                refine s_qg (q_neq rfl rfl) rfl rfl rfl ?_
                refine s_q (q_pick_f rfl rfl) rfl ?_
                refine g_nil ?_
                refine g_then ?_
                refine g_cond rfl (fun h12 => ?_) (fun h12 => ?_)
                · exact absurd h12 (by have h9 := hbd; simp only [List.length_drop]; simp; omega)
                · refine g_skip ?_
                  refine g_then ?_
                  refine g_region ?_
                  refine s_q (q_move rfl) rfl ?_
                  refine s_q (q_move rfl) rfl ?_
                  refine g_op (g_append (A := B) (els := (o).map (fun v : Int => [Value.int .i64 v])) (news := (((batF 0 ws (l.drop k) 0 true)).map (fun v : Int => [Value.int .i64 v]))) rfl rfl (InRow.rdb (A := A49) (els := ((batF 0 ws (l.drop k) 0 true)).map (fun v : Int => [Value.int .i64 v])) (by first | rfl | assumption | (simp; done) | (simp_all; done) | (simp; omega) | (simp_all; omega)) (map_cat (c := (fun v : Int => [Value.int .i64 v])) (fun _ => rfl) _)) (map_one (c := (fun v : Int => [Value.int .i64 v])) (by intro x; simp [Value.oneCell']) _) (by first | omega | (simp; omega) | (simp_all; omega)) rfl fun A68 cap68 => ⟨_, inferInstance, ?_⟩)
                  refine g_rowels (A := A68) (((o ++ (batF 0 ws (l.drop k) 0 true))).map (fun v : Int => [Value.int .i64 v])) (by first | rfl | exact List.map_append.symm | (simp; done)) ?_
                  refine s_q (q_assign rfl) rfl ?_
                  refine g_nil ?_
                  refine g_blk_n ?_
                  refine g_then ?_
                  refine g_region ?_
                  refine s_q (q_inc rfl rfl (by omega)) rfl ?_
                  refine s_q (q_move rfl) rfl ?_
                  refine g_nil ?_
                  refine g_rown (A := A68) ((o ++ (batF 0 ws (l.drop k) 0 true))).length (by simp) ?_
                  refine g_val 8 (v' := .slice A68 ((o ++ (batF 0 ws (l.drop k) 0 true))).length cap68) rfl (by simp) ?_
                  exact g_again ((i + 1), (k + (batF (0) ws (l.drop k) 0 true).length), g49, A68, cap68, (o ++ (batF 0 ws (l.drop k) 0 true))) (by (try dsimp only); exact ⟨(by first | exact lt_i | omega), (by have h9 := r49; rw [bat_dl] at h9; exact h9), (by have h9 := bat_dn (0) ws l k hk; omega), (by have h9 := bat_dn (0) ws l k hk; omega), (by rw [ho]; exact bat_cat _ _ _ _)⟩) (by first | omega | (simp only; omega)) (by repeat (first | exact trivial | refine ⟨rfl, ?_⟩)) wok_sub
            · refine g_gf rfl rfl rfl rfl ?_
              refine g_gf rfl rfl rfl rfl ?_
              refine g_gf rfl rfl rfl rfl ?_
              refine s_q (q_pick_f rfl rfl) rfl ?_
              refine s_q (q_move rfl) rfl ?_
              refine s_qg (q_move rfl) rfl rfl rfl ?_
              refine s_qg (q_len rfl) rfl rfl rfl ?_
              refine s_qg (q_move rfl) rfl rfl rfl ?_
              refine s_qg (q_move rfl) rfl rfl rfl ?_
              refine g_gt rfl rfl (g_keep [Res.blk b28 50 (Rg.c g49), Res.row (Rg.A g49) (Rg.s g49).length (Rg.cap g49) 3 1 (Rg.s g49)] rfl (fun w1 hw1 ho1 => by exact len_i b28 g49 ((l.drop k).drop (batF 0 ws (l.drop k) 0 true).length) w1 ho1 r49) rfl ?_)
              refine s_qg (q_subn (a := ((l.drop k)).length) (b := (((l.drop k).drop (batF 0 ws (l.drop k) 0 true).length)).length) rfl rfl (by first | omega | (simp; omega) | (simp_all; omega)) (by first | omega | (simp; omega) | (simp_all; omega))) rfl rfl rfl ?_
              refine s_qg (q_neq rfl rfl) rfl rfl rfl ?_
              refine s_q (q_pick_f rfl rfl) rfl ?_
              refine g_nil ?_
              refine g_then ?_
              refine g_cond rfl (fun h13 => ?_) (fun h13 => ?_)
              · exact absurd h13 (by have h9 := hbd; simp only [List.length_drop]; simp; omega)
              · refine g_skip ?_
                refine g_then ?_
                refine g_region ?_
                refine s_q (q_move rfl) rfl ?_
                refine s_q (q_move rfl) rfl ?_
                refine g_op (g_append (A := B) (els := (o).map (fun v : Int => [Value.int .i64 v])) (news := (((batF 0 ws (l.drop k) 0 true)).map (fun v : Int => [Value.int .i64 v]))) rfl rfl (InRow.rdb (A := A49) (els := ((batF 0 ws (l.drop k) 0 true)).map (fun v : Int => [Value.int .i64 v])) (by first | rfl | assumption | (simp; done) | (simp_all; done) | (simp; omega) | (simp_all; omega)) (map_cat (c := (fun v : Int => [Value.int .i64 v])) (fun _ => rfl) _)) (map_one (c := (fun v : Int => [Value.int .i64 v])) (by intro x; simp [Value.oneCell']) _) (by first | omega | (simp; omega) | (simp_all; omega)) rfl fun A68 cap68 => ⟨_, inferInstance, ?_⟩)
                refine g_rowels (A := A68) (((o ++ (batF 0 ws (l.drop k) 0 true))).map (fun v : Int => [Value.int .i64 v])) (by first | rfl | exact List.map_append.symm | (simp; done)) ?_
                refine s_q (q_assign rfl) rfl ?_
                refine g_nil ?_
                refine g_blk_n ?_
                refine g_then ?_
                refine g_region ?_
                refine s_q (q_inc rfl rfl (by omega)) rfl ?_
                refine s_q (q_move rfl) rfl ?_
                refine g_nil ?_
                refine g_rown (A := A68) ((o ++ (batF 0 ws (l.drop k) 0 true))).length (by simp) ?_
                refine g_val 8 (v' := .slice A68 ((o ++ (batF 0 ws (l.drop k) 0 true))).length cap68) rfl (by simp) ?_
                exact g_again ((i + 1), (k + (batF (0) ws (l.drop k) 0 true).length), g49, A68, cap68, (o ++ (batF 0 ws (l.drop k) 0 true))) (by (try dsimp only); exact ⟨(by first | exact lt_i | omega), (by have h9 := r49; rw [bat_dl] at h9; exact h9), (by have h9 := bat_dn (0) ws l k hk; omega), (by have h9 := bat_dn (0) ws l k hk; omega), (by rw [ho]; exact bat_cat _ _ _ _)⟩) (by first | omega | (simp only; omega)) (by repeat (first | exact trivial | refine ⟨rfl, ?_⟩)) wok_sub
        · have eq_i : i = l.length := by have h9 := of_decide_eq_false h4; omega
          have hke : k = l.length := by omega
          have hol : o = l := by rw [ho, hke, List.take_length]
          refine g_exit ?_
          refine g_then_x (g_then_x (g_blk_hit ?_))
          refine g_then ?_
          refine g_seq ?_
          refine g_region ?_
          refine g_op (g_pure rfl (fun w1 hw1 => alive_any w1) rfl ?_)
          refine s_q (q_move rfl) rfl ?_
          refine s_qg (q_move rfl) rfl rfl rfl ?_
          refine s_qg (q_move rfl) rfl rfl rfl ?_
          refine g_gt rfl rfl (g_pure rfl (fun w1 hw1 => equal_i B A_l _ _ _ _ (o) (l) w1 (Rdb.toOld (InRow.rdb (A := B) (els := (o).map (fun v : Int => [Value.int .i64 v])) (by first | rfl | assumption | (simp; done) | (simp_all; done) | (simp; omega) | (simp_all; omega)) (map_cat (c := (fun v : Int => [Value.int .i64 v])) (fun _ => rfl) _)) hw1) (Rdb.toOld (o_l.rdb rfl) hw1) (row_max (A := B) hw1)) rfl ?_)
          refine s_q (q_pick_t rfl rfl) rfl ?_
          refine s_q (q_move rfl) rfl ?_
          refine g_split 76 rfl (fun h14 => ?_) (fun h14 => ?_)
          · refine s_qg (q_move rfl) rfl rfl rfl ?_
            refine g_gt rfl rfl (g_keep [Res.blk b28 50 (Rg.c g1), Res.row (Rg.A g1) (Rg.s g1).length (Rg.cap g1) 3 1 (Rg.s g1)] rfl (fun w1 hw1 ho1 => by exact len_i b28 g1 (l.drop k) w1 ho1 hr) rfl ?_)
            refine s_qg (q_eql rfl rfl) rfl rfl rfl ?_
            refine s_q (q_pick_t rfl rfl) rfl ?_
            refine s_q (q_assign rfl) rfl ?_
            refine g_nil ?_
            refine g_then ?_
            refine g_ret ?_
            exact fin1 rfl (.tmp rfl) (fun w' hw' => ⟨by first | rfl | (simp_all; done) | (simp_all; omega), hw'.upd⟩) _ (.inl rfl)
          · refine g_gf rfl rfl rfl rfl ?_
            refine g_gf rfl rfl rfl rfl ?_
            refine g_gf rfl rfl rfl rfl ?_
            refine s_q (q_pick_f rfl rfl) rfl ?_
            refine s_q (q_assign rfl) rfl ?_
            refine g_nil ?_
            refine g_then ?_
            refine g_ret ?_
            exact fin1 rfl (.tmp rfl) (fun w' hw' => ⟨by first | rfl | (simp_all; done) | (simp_all; omega), hw'.upd⟩) _ (.inl rfl)

theorem main_activateDrains (v0 : Value) (v1 : Value) (v2 : Value) (W : World) (a0 : Arg Try.prog W 22 v0) (a1 : Arg Try.prog W 24 v1) (a2 : Arg Try.prog W 24 v2) : Pur Try.prog 4 [v0, v1, v2] W (.bool true) := by
  obtain ⟨A_l, c_l, l, rfl, hle0, hm0, o_l, k_l⟩ := Arg.slice (fun v : Int => [Value.int .i64 v]) (fun x : Int => -9223372036854775808 ≤ x ∧ x ≤ 9223372036854775807) Try.underlying22 (show Try.prog.cellsOf 3 = 1 by kernel_rfl) (by omega) (fun f cs h => OKc.int Try.underlying3 h) a0
  have h_l : l.length ≤ c_l ∧ c_l ≤ 9223372036854775807 := ⟨hle0, by unfold maxLen at hm0; omega⟩
  obtain ⟨A_lims, c_lims, lims, rfl, hle1, hm1, o_lims, k_lims⟩ := Arg.slice (fun v : Int => [Value.int .u64 v]) (fun x : Int => 0 ≤ x ∧ x ≤ 18446744073709551615) Try.underlying24 (show Try.prog.cellsOf 23 = 1 by kernel_rfl) (by omega) (fun f cs h => OKc.int Try.underlying23 h) a1
  have h_lims : lims.length ≤ c_lims ∧ c_lims ≤ 9223372036854775807 := ⟨hle1, by unfold maxLen at hm1; omega⟩
  obtain ⟨A_ws, c_ws, ws, rfl, hle2, hm2, o_ws, k_ws⟩ := Arg.slice (fun v : Int => [Value.int .u64 v]) (fun x : Int => 0 ≤ x ∧ x ≤ 18446744073709551615) Try.underlying24 (show Try.prog.cellsOf 23 = 1 by kernel_rfl) (by omega) (fun f cs h => OKc.int Try.underlying23 h) a2
  have h_ws : ws.length ≤ c_ws ∧ c_ws ≤ 9223372036854775807 := ⟨hle2, by unfold maxLen at hm2; omega⟩
  exact law_activateDrains A_l c_l l A_lims c_lims lims A_ws c_ws ws W o_l h_l k_l o_lims h_lims k_lims o_ws h_ws k_ws

namespace LawActivateDrains
open Go.ChangeShapes Go.WideShapes Go.ChangeAt Go.RowKit Go.Eg
set_option linter.unusedVariables false
theorem own : ownKnob Try.prog.godebug = none := by kernel_rfl
theorem laidOut : laidOutB Try.prog = true := by kernel_rfl
set_option maxRecDepth 100000 in
theorem lifted (os : Os) (started : os.Started) (H : Type) (enc : TypeId × Value → H) :
    ReturnsInHanded {} Try.checked os 4 .any (Rows.activateDrainsSpec.pre6 enc Try.prog Try.f4 Rows.activateDrainsRow.domain false) (Rows.activateDrainsSpec.post enc Try.prog Try.f4 false true false false) := by
  refine returnsInHanded_of_change (C := Try.checked) own started (by kernel_rfl) Try.func4
    (ChangeSpec.witness6 (enc := enc) (C := Try.checked) false ⟨#[], #[.slice none 0 0, .slice none 0 0, .slice none 0 0], []⟩ 8 (by kernel_rfl) (by kernel_rfl) (by kernel_rfl) (by kernel_rfl)) ?_
  intro W base args ds gs before hval0 hW hcnd _
  have hval : ∀ (j : Nat) t v, Try.f4.params[j]? = some t → args[j]? = some v → Value.okWide Try.prog W .any base t v := hval0
  have hW' := hW
  obtain ⟨p, q, hA0, hV, rfl, hfz, hnd⟩ := hW
  have hA : DataW.TrodAll enc Try.prog W 0 (fun _ => true) true Try.f4.params.toList args.toList ds p := hA0
  rw [Try.params4] at hA hval
  obtain ⟨v0, vs0, d0, ds0, p0, q0, hargs, rfl, rfl, h0, r0⟩ := trodAll_cons hA
  obtain ⟨v1, vs1, d1, ds1, p1, q1, rfl, rfl, rfl, h1, r1⟩ := trodAll_cons r0
  obtain ⟨v2, vs2, d2, ds2, p2, q2, rfl, rfl, rfl, h2, r2⟩ := trodAll_cons r1
  obtain ⟨rfl, rfl, rfl⟩ := trodAll_nil r2
  obtain rfl : args = #[v0, v1, v2] := by cases args; simp_all
  obtain ⟨rfl, rfl⟩ := trodVars_none hV
  have a0 := Arg.of h0 (hval 0 22 v0 rfl rfl)
  have lt0 : ∀ x ∈ p0, x.block < W.heap.size := by obtain ⟨m, hm⟩ := h0; exact DataW.trod_lt m _ _ _ hm
  have a1 := Arg.of h1 (hval 1 24 v1 rfl rfl)
  have lt1 : ∀ x ∈ p1, x.block < W.heap.size := by obtain ⟨m, hm⟩ := h1; exact DataW.trod_lt m _ _ _ hm
  have a2 := Arg.of h2 (hval 2 24 v2 rfl rfl)
  have lt2 : ∀ x ∈ p2, x.block < W.heap.size := by obtain ⟨m, hm⟩ := h2; exact DataW.trod_lt m _ _ _ hm
  clear hA0 hval0
  simp only [List.append_nil] at hW'
  refine Calls.mono (main_activateDrains v0 v1 v2 W a0 a1 a2) ?_
  rintro e W' ⟨v, rfl, rfl, hu⟩
  have bel := hu.below
  have targ := (trodAll_cons_mk (Below.trod laidOut (by kernel_rfl) (of_decide_eq_true (by kernel_rfl)) h0 bel lt0) (trodAll_cons_mk (Below.trod laidOut (by kernel_rfl) (of_decide_eq_true (by kernel_rfl)) h1 bel lt1) (trodAll_cons_mk (Below.trod laidOut (by kernel_rfl) (of_decide_eq_true (by kernel_rfl)) h2 bel lt2) trodAll_mk0)))
  simp only [List.append_nil] at targ
  exact ⟨_, rfl, _, _, _, [], _, [], hW', trodAll_mk1 (shut_bool Try.underlying4 _), targ, rfl, bel.frame _, fun h => by cases h⟩
theorem over : Rows.activateDrainsRow.holds Try.pinned (OpenSpec.ofChange Rows.activateDrainsSpec) :=
  OpenClaim.holds_of_wide 4 Try.f4 rfl rfl rfl rfl rfl rfl rfl ⟨rfl, rfl, rfl, rfl, rfl⟩ rfl rfl rfl rfl rfl (by kernel_rfl) Try.func4 (by kernel_rfl)
    (of_decide_eq_true (by kernel_rfl)) (by unfold Func.isWrapper; first | (rw [if_pos (by decide +kernel)]; kernel_rfl) | (rw [if_neg (by decide +kernel)]; exact ⟨rfl, rfl⟩))
    (fun os started H enc _ => lifted os started H enc)
theorem proved : Rows.ActivateDrainsSaid := over
end LawActivateDrains
end Go.Proofs.Ytjfncbgggfammaa
