/- AssignForecast: for every balance, limit and list of weights the law returns true. No condition. -/
import Derived.Test.YtmolaicpbaiioaaWF
namespace Go.Proofs.Ytmolaicpbaiioaa
open Go.RowKit Go.Eg
set_option synthInstance.maxSize 3000
set_option linter.unusedSimpArgs false
set_option linter.unusedVariables false
set_option maxRecDepth 100000
set_option maxHeartbeats 400000 in
theorem law_assignForecast (bal : Nat) (lim : Nat) (A_l : Option Addr) (c_l : Nat) (l : List Int) (w : World) (h_bal : bal < 4294967296) (h_lim : lim < 4294967296) (o_l : Old w A_l l.length 1 (l.map (fun v : Int => [Value.int .u32 v]))) (h_l : l.length ≤ c_l ∧ c_l ≤ 9223372036854775807) (k_l : ∀ x ∈ l, (fun x : Int => 0 ≤ x ∧ x ≤ 4294967295) x) : Pur Try.prog 4 [.int .u32 ((bal : Nat) : Int), .int .u32 ((lim : Nat) : Int), .slice A_l l.length c_l] w (.bool true) := by
  refine g_start Try.func4 rfl 111 rfl (by simp) ([]) [] (WOK.start _ _) _ rfl ?_
  refine g_seq ?_
  refine g_region ?_
  refine s_q (q_assign rfl) rfl ?_
  refine g_nil ?_
  refine g_then ?_
  refine g_seq ?_
  refine g_seq ?_
  refine g_region ?_
  refine s_q (q_move rfl) rfl ?_
  refine s_q (q_len rfl) rfl ?_
  refine s_q (q_gtr rfl rfl) rfl ?_
  refine g_nil ?_
  refine g_then ?_
  refine g_cond rfl (fun h1 => ?_) (fun h1 => ?_)
  · refine g_seq ?_
    refine g_region ?_
    refine g_op (g_pure rfl (fun w1 hw1 => alive_any w1) rfl ?_)
    refine s_q (q_assign rfl) rfl ?_
    refine g_nil ?_
    refine g_then ?_
    refine g_ret ?_
    refine g_then_ret ?_
    exact fin1 rfl (.tmp rfl) (fun w' hw' => ⟨by first | rfl | (simp_all; done) | (simp_all; omega), hw'.upd⟩) _ (.inl rfl)
  · have hn60 : l.length ≤ 60 := by have h9 := of_decide_eq_false h1; omega
    refine g_skip ?_
    refine g_then ?_
    refine g_seq ?_
    refine g_region ?_
    refine s_q (q_assign rfl) rfl ?_
    refine g_nilrow 7 35 1 rfl fun Az1 capz1 hcz1 => ?_
    refine g_rowels (A := Az1) (([] : List Int).map (fun v : Int => [Value.int .u64 v])) rfl ?_
    refine g_nil ?_
    refine g_then ?_
    refine g_seq ?_
    refine g_seq ?_
    refine g_region ?_
    refine s_q (q_move rfl) rfl ?_
    refine s_q (q_len rfl) rfl ?_
    refine s_q (q_move rfl) rfl ?_
    refine g_nil ?_
    refine g_then ?_
    refine g_block ?_
    refine g_loopk [0, 1, 6, 21, 22] (fun (x : Nat × Option Addr × Nat × List Int) => [(7, .slice x.2.1 x.2.2.2.length x.2.2.1), (23, .int .i64 ((x.1 : Nat) : Int))]) (fun (x : Nat × Option Addr × Nat × List Int) => [Res.row x.2.1 (x.2.2.2).length x.2.2.1 35 1 ((x.2.2.2).map (fun v : Int => [Value.int .u64 v]))]) (fun (x : Nat × Option Addr × Nat × List Int) => x.1 ≤ l.length ∧ x.2.2.2 = l.take x.1) (fun (x : Nat × Option Addr × Nat × List Int) => l.length - x.1) (0, Az1, capz1, []) (by (try dsimp only); exact ⟨Nat.zero_le _, (by simp)⟩) rfl (by repeat (first | exact trivial | refine ⟨rfl, ?_⟩)) wok_sub ?_
    rintro ⟨k, B, bc, W⟩ ⟨le_k, hW⟩
    replace le_k : k ≤ l.length := le_k
    replace hW : W = l.take k := hW
    refine g_setL (L' := [Res.row B (W).length bc 35 1 ((W).map (fun v : Int => [Value.int .u64 v]))]) rfl ?_
    refine g_val 7 (v' := .slice B W.length bc) rfl rfl ?_
    refine g_val 23 (v' := .int .i64 ((k : Nat) : Int)) rfl rfl ?_
    have hWl : W.length = min k l.length := by rw [hW]; simp
    refine g_seq ?_
    refine g_region ?_
    refine s_q (q_lss rfl rfl) rfl ?_
    refine g_nil ?_
    refine g_then ?_
    refine g_seq ?_
    refine g_cond rfl (fun h2 => ?_) (fun h2 => ?_)
    · have lt_k : k < l.length := by have h9 := of_decide_eq_true h2; omega
      have hx := k_l _ (List.getElem_mem lt_k)
      refine g_skip ?_
      refine g_then ?_
      refine g_seq ?_
      refine g_block ?_
      refine g_seq ?_
      refine g_region ?_
      refine s_q (q_index (i := k) rfl rfl rfl (o_l.rdb rfl) (by first | exact lt_k | omega)) rfl ?_
      refine s_q (q_load_el (i := k) (o := 0) rfl (o_l.rdb rfl) (map_get (by first | assumption | omega)) rfl rfl) rfl ?_
      refine s_q (q_assign rfl) rfl ?_
      refine g_nil ?_
      refine g_then ?_
      refine g_region ?_
      refine s_q (q_move rfl) rfl ?_
      refine s_q (q_move rfl) rfl ?_
      refine s_q (q_convz (z := l[k]) rfl (wu64 (by omega) (by omega))) rfl ?_
      refine g_op (g_lit rfl rfl rfl rfl rfl fun b30 => ?_)
      refine g_blkc (b := b30) ((([l[k]] : List Int).map (fun v : Int => [Value.int .u64 v])).flatten) rfl ?_
      refine g_op (g_append (A := B) (els := (W).map (fun v : Int => [Value.int .u64 v])) (news := (([l[k]] : List Int).map (fun v : Int => [Value.int .u64 v]))) rfl rfl (InL.rdb (b := b30) rfl (by simp) rfl) (map_one (c := (fun v : Int => [Value.int .u64 v])) (by intro x; simp [Value.oneCell']) _) (by first | omega | (simp; omega) | (simp_all; omega)) rfl fun A31 cap31 => ⟨_, inferInstance, ?_⟩)
      refine g_rowels (A := A31) (((W ++ [l[k]])).map (fun v : Int => [Value.int .u64 v])) (by first | rfl | exact List.map_append.symm | (simp; done)) ?_
      refine s_q (q_assign rfl) rfl ?_
      refine g_nil ?_
      refine g_blk_n ?_
      refine g_then ?_
      refine g_region ?_
      refine s_q (q_inc rfl rfl (by omega)) rfl ?_
      refine s_q (q_move rfl) rfl ?_
      refine g_nil ?_
      refine g_rown (A := A31) ((W ++ [l[k]])).length (by simp) ?_
      refine g_val 7 (v' := .slice A31 ((W ++ [l[k]])).length cap31) rfl (by simp) ?_
      exact g_again ((k + 1), A31, cap31, (W ++ [l[k]])) (by (try dsimp only); exact ⟨(by first | exact lt_k | omega), (by rw [hW, List.take_append_getElem lt_k])⟩) (by first | omega | (simp only; omega)) (by repeat (first | exact trivial | refine ⟨rfl, ?_⟩)) wok_sub
    · have eq_k : k = l.length := by have h9 := of_decide_eq_false h2; omega
      have hWe : W = l := by rw [hW, eq_k, List.take_length]
      refine g_rowels (A := B) (l.map (fun v : Int => [Value.int .u64 v])) (by rw [hWe]) ?_
      refine g_rown (A := B) l.length (by rw [hWe]) ?_
      refine g_val 7 (v' := .slice B l.length bc) rfl (by rw [hWe]) ?_
      refine g_exit ?_
      refine g_then_x (g_then_x (g_blk_hit ?_))
      refine g_then ?_
      refine g_seq ?_
      refine g_region ?_
      refine s_q (q_move rfl) rfl ?_
      refine s_q (q_convz (z := ((bal : Nat) : Int)) rfl (wu64 (by omega) (by omega))) rfl ?_
      refine s_q (q_move rfl) rfl ?_
      refine s_q (q_convz (z := ((lim : Nat) : Int)) rfl (wu64 (by omega) (by omega))) rfl ?_
      refine s_q (q_move rfl) rfl ?_
      refine g_op (g_ownS [] rfl (fun w1 hw1 ho1 => by have h7 := forecast_any bal lim B (l.length) (bc) (l) w1 (Rdb.toOld (InRow.rdb (A := B) (els := (l).map (fun v : Int => [Value.int .u64 v])) (by first | rfl | assumption | (simp; done) | (simp_all; done) | (simp; omega) | (simp_all; omega)) (map_cat (c := (fun v : Int => [Value.int .u64 v])) (fun _ => rfl) _)) hw1) (fun x hx => by have h9 := k_l x hx; omega) (by omega) (by omega) (by first | omega | (simp; done) | (simp; omega)); exact h7) rfl ?_)
      rintro ⟨A38, cap38⟩ _
      refine ⟨_, _, inferInstance, inferInstance, ?_⟩
      generalize hfc38 : fcV ((bal : Nat) : Int) ((lim : Nat) : Int) l = fc38
      have hfl : fc38.length = l.length := by rw [← hfc38]; exact fcF_len
      refine g_rowfact A38 fun hcp _ _ => ?_
      refine s_q (q_assign rfl) rfl ?_
      refine g_nil ?_
      refine g_then ?_
      refine g_seq ?_
      refine g_region ?_
      refine s_q (q_move rfl) rfl ?_
      refine s_q (q_convz (z := ((bal : Nat) : Int)) rfl (wu64 (by omega) (by omega))) rfl ?_
      refine s_q (q_move rfl) rfl ?_
      refine s_q (q_convz (z := ((lim : Nat) : Int)) rfl (wu64 (by omega) (by omega))) rfl ?_
      refine s_q (q_move rfl) rfl ?_
      refine g_op (g_ownS [] rfl (fun w1 hw1 ho1 => by have h7 := rforecast_any bal lim B (bc) (l) w1 (Rdb.toOld (InRow.rdb (A := B) (els := (l).map (fun v : Int => [Value.int .u64 v])) (by first | rfl | assumption | (simp; done) | (simp_all; done) | (simp; omega) | (simp_all; omega)) (map_cat (c := (fun v : Int => [Value.int .u64 v])) (fun _ => rfl) _)) hw1) (fun x hx => by have h9 := k_l x hx; omega) (by omega) (by omega) (by omega); exact h7) rfl ?_)
      rintro ⟨A44, cap44, wl⟩ ⟨⟨bb, he44⟩, hwl⟩
      refine ⟨_, _, inferInstance, inferInstance, ?_⟩
      simp only at he44 hwl
      rw [hfc38] at he44
      have hlate := fc_late (lim := ((lim : Nat) : Int)) (by omega) (ws := l.drop wl.length) (k := 301) (b := bb) (by omega)
      have hno : 0 < ((lim : Nat) : Int) → l.sum ≤ ((lim : Nat) : Int) * 2147483648 → ∀ x ∈ fc38, x ≠ -1 := fun h1 h2 => by rw [← hfc38]; exact fcF_no h1 (fun w hw => (k_l w hw).1) (by omega) (by omega)
      generalize fcF ((lim : Nat) : Int) (l.drop wl.length) 301 bb = rst at he44 hlate
      have hel9 := congrArg List.length he44
      simp only [List.length_append] at hel9
      refine s_q (q_assign rfl) rfl ?_
      refine g_nil ?_
      refine g_then ?_
      refine g_seq ?_
      refine g_seq ?_
      refine g_region ?_
      refine s_q (q_move rfl) rfl ?_
      refine s_q (q_len rfl) rfl ?_
      refine s_q (q_move rfl) rfl ?_
      refine s_q (q_len rfl) rfl ?_
      refine s_q (q_neq rfl rfl) rfl ?_
      refine g_litb 49 (b := false) rfl (by simp; omega) ?_
      refine s_q (q_move rfl) rfl ?_
      refine s_qg (q_move rfl) rfl rfl rfl ?_
      refine s_qg (q_len rfl) rfl rfl rfl ?_
      refine s_qg (q_move rfl) rfl rfl rfl ?_
      refine s_qg (q_len rfl) rfl rfl rfl ?_
      refine s_qg (q_gtr rfl rfl) rfl rfl rfl ?_
      refine g_litb 55 (b := false) rfl (by simp; omega) ?_
      refine s_q (q_pick_f rfl rfl) rfl ?_
      refine s_q (q_move rfl) rfl ?_
      refine s_qg (q_move rfl) rfl rfl rfl ?_
      refine s_qg (q_move rfl) rfl rfl rfl ?_
      refine s_qg (q_len rfl) rfl rfl rfl ?_
      refine s_qg (q_move rfl) rfl rfl rfl ?_
      refine s_qg (q_len rfl) rfl rfl rfl ?_
      refine s_qg (q_minn (a := wl.length) (b := fc38.length) rfl rfl) rfl rfl rfl ?_
      refine s_qg (q_slice_h (h := min wl.length fc38.length) rfl rfl rfl (by omega)) rfl rfl rfl ?_
      refine s_qg (q_move rfl) rfl rfl rfl ?_
      refine g_gt rfl rfl (g_pure rfl (fun w1 hw1 => equal_i (subA A38 cap38 0 1) A44 _ _ _ _ ((fc38.take (min wl.length fc38.length))) (wl) w1 (Rdb.toOld (rdb_take' (A := A38) (l := fc38) (InRow.rdb (by simp) (map_cat (c := (fun v : Int => [Value.int .i64 v])) (fun _ => rfl) _)) (by omega) (by omega)) hw1) (Rdb.toOld (InRow.rdb (A := A44) (els := (wl).map (fun v : Int => [Value.int .i64 v])) (by first | rfl | assumption | (simp; done) | (simp_all; done) | (simp; omega) | (simp_all; omega)) (map_cat (c := (fun v : Int => [Value.int .i64 v])) (fun _ => rfl) _)) hw1) (by first | omega | (simp; omega) | (simp_all; omega))) rfl ?_)
      refine g_litb 66 (b := true) rfl (by rw [show min wl.length fc38.length = wl.length by omega, he44]; simp) ?_
      refine s_qg (q_not rfl) rfl rfl rfl ?_
      refine s_q (q_pick_f rfl rfl) rfl ?_
      refine g_nil ?_
      refine g_then ?_
      refine g_false rfl ?_
      refine g_skip ?_
      refine g_then ?_
      refine g_seq ?_
      refine g_region ?_
      refine s_q (q_assign rfl) rfl ?_
      refine g_nil ?_
      refine g_then ?_
      refine g_seq ?_
      refine g_seq ?_
      refine g_region ?_
      refine s_q (q_move rfl) rfl ?_
      refine s_q (q_len rfl) rfl ?_
      refine s_q (q_move rfl) rfl ?_
      refine g_nil ?_
      refine g_then ?_
      refine g_block ?_
      refine g_loopk [1, 6, 10, 11, 69, 70] (fun (x : Nat) => [(12, .int .u64 ((l.take x).sum)), (71, .int .i64 ((x : Nat) : Int))]) (fun (x : Nat) => [Res.row B l.length bc 35 1 (l.map (fun v : Int => [Value.int .u64 v])), Res.row A38 fc38.length cap38 3 1 (fc38.map (fun v : Int => [Value.int .i64 v])), Res.row A44 wl.length cap44 3 1 (wl.map (fun v : Int => [Value.int .i64 v]))]) (fun (x : Nat) => x ≤ l.length) (fun (x : Nat) => l.length - x) 0 (by (try dsimp only); exact Nat.zero_le _) rfl (by repeat (first | exact trivial | refine ⟨rfl, ?_⟩)) wok_sub ?_
      rintro k2 le_k2
      replace le_k2 : k2 ≤ l.length := le_k2
      refine g_seq ?_
      refine g_region ?_
      refine s_q (q_lss rfl rfl) rfl ?_
      refine g_nil ?_
      refine g_then ?_
      refine g_seq ?_
      refine g_cond rfl (fun h3 => ?_) (fun h3 => ?_)
      · have lt_k2 : k2 < l.length := by have h9 := of_decide_eq_true h3; omega
        refine g_skip ?_
        refine g_then ?_
        refine g_seq ?_
        refine g_block ?_
        refine g_seq ?_
        refine g_region ?_
        refine s_q (q_index (i := k2) rfl rfl rfl (InRow.rdb (A := B) (els := (l).map (fun v : Int => [Value.int .u64 v])) (by first | rfl | assumption | (simp; done) | (simp_all; done) | (simp; omega) | (simp_all; omega)) (map_cat (c := (fun v : Int => [Value.int .u64 v])) (fun _ => rfl) _)) (by first | exact lt_k2 | omega)) rfl ?_
        refine s_q (q_load_el (i := k2) (o := 0) rfl (InRow.rdb (A := B) (els := (l).map (fun v : Int => [Value.int .u64 v])) (by first | rfl | assumption | (simp; done) | (simp_all; done) | (simp; omega) | (simp_all; omega)) (map_cat (c := (fun v : Int => [Value.int .u64 v])) (fun _ => rfl) _)) (map_get (by first | assumption | omega | (simp_all; done) | (simp_all; omega))) rfl rfl) rfl ?_
        refine s_q (q_assign rfl) rfl ?_
        refine g_nil ?_
        refine g_then ?_
        refine g_region ?_
        refine s_q (q_move rfl) rfl ?_
        refine s_q (q_move rfl) rfl ?_
        refine s_q (q_addz (z := (l.take (k2 + 1)).sum) rfl rfl (by have h9 := sum_take (l := l) (fun x hx => by have h9 := k_l x hx; omega) (k := k2) (by omega); have h8 := sum_le (l := l) (fun x hx => by have h9 := k_l x hx; omega) (k2 + 1); have h7 := sum_bd (l := l) (fun x hx => (k_l x hx).2); rw [← h9.1]; exact wu64 (by omega) (by omega))) rfl ?_
        refine s_q (q_assign rfl) rfl ?_
        refine g_nil ?_
        refine g_blk_n ?_
        refine g_then ?_
        refine g_region ?_
        refine s_q (q_inc rfl rfl (by omega)) rfl ?_
        refine s_q (q_move rfl) rfl ?_
        refine g_nil ?_
        exact g_again (k2 + 1) (by (try dsimp only); exact (by first | exact lt_k2 | omega)) (by first | omega | (simp only; omega)) (by repeat (first | exact trivial | refine ⟨rfl, ?_⟩)) wok_sub
      · have eq_k2 : k2 = l.length := by have h9 := of_decide_eq_false h3; omega
        refine g_val 12 (v' := .int .u64 l.sum) rfl (by rw [eq_k2, List.take_length]) ?_
        refine g_exit ?_
        refine g_then_x (g_then_x (g_blk_hit ?_))
        refine g_then ?_
        refine g_seq ?_
        refine g_seq ?_
        refine g_region ?_
        refine s_q (q_move rfl) rfl ?_
        refine s_q (q_move rfl) rfl ?_
        refine s_q (q_len rfl) rfl ?_
        refine s_q (q_slice_l (l := wl.length) rfl rfl rfl (by omega)) rfl ?_
        refine g_val 82 (v' := .slice (subA A38 cap38 wl.length 1) rst.length (cap38 - wl.length)) rfl (by congr 1; omega) ?_
        refine s_q (q_len rfl) rfl ?_
        refine s_q (q_move rfl) rfl ?_
        refine g_nil ?_
        refine g_then ?_
        refine g_block ?_
        refine g_loopk [1, 6, 12, 82, 83] (fun (x : Nat) => [(84, .int .i64 ((x : Nat) : Int))]) (fun (x : Nat) => [Res.row A38 fc38.length cap38 3 1 (fc38.map (fun v : Int => [Value.int .i64 v]))]) (fun (x : Nat) => x ≤ rst.length) (fun (x : Nat) => rst.length - x) 0 (by (try dsimp only); exact Nat.zero_le _) rfl (by repeat (first | exact trivial | refine ⟨rfl, ?_⟩)) wok_sub ?_
        rintro i le_i
        replace le_i : i ≤ rst.length := le_i
        refine g_seq ?_
        refine g_region ?_
        refine s_q (q_lss rfl rfl) rfl ?_
        refine g_nil ?_
        refine g_then ?_
        refine g_seq ?_
        refine g_cond rfl (fun h4 => ?_) (fun h4 => ?_)
        · have lt_i : i < rst.length := by have h9 := of_decide_eq_true h4; omega
          have hri := hlate _ (List.getElem_mem lt_i)
          have hrm : rst[i] ∈ fc38 := by rw [he44]; exact List.mem_append_right _ (List.getElem_mem lt_i)
          refine g_skip ?_
          refine g_then ?_
          refine g_seq ?_
          refine g_block ?_
          refine g_seq ?_
          refine g_region ?_
          refine s_q (q_index (i := i) rfl rfl rfl (rdb_drop (A := A38) (l := fc38) (InRow.rdb (by simp) (map_cat (c := (fun v : Int => [Value.int .i64 v])) (fun _ => rfl) _)) he44 (by omega)) (by first | exact lt_i | omega)) rfl ?_
          refine s_q (q_load_el (i := i) (o := 0) rfl (rdb_drop (A := A38) (l := fc38) (InRow.rdb (by simp) (map_cat (c := (fun v : Int => [Value.int .i64 v])) (fun _ => rfl) _)) he44 (by omega)) (map_get (by first | assumption | omega)) rfl rfl) rfl ?_
          refine s_q (q_assign rfl) rfl ?_
          refine g_nil ?_
          refine g_then ?_
          refine g_seq ?_
          refine g_region ?_
          refine s_q (q_move rfl) rfl ?_
          refine s_q (q_eql rfl rfl) rfl ?_
          refine s_q (q_move rfl) rfl ?_
          refine g_split 90 rfl (fun h5 => ?_) (fun h5 => ?_)
          · have hm1 : rst[i] = -1 := of_decide_eq_true h5
            refine s_qg (q_move rfl) rfl rfl rfl ?_
            refine s_qg (q_gtr rfl rfl) rfl rfl rfl ?_
            refine s_q (q_pick_t rfl rfl) rfl ?_
            refine s_q (q_move rfl) rfl ?_
            refine g_split 94 rfl (fun h6 => ?_) (fun h6 => ?_)
            · have hlp : 0 < lim := by have h9 := of_decide_eq_true h6; omega
              refine s_qg (q_move rfl) rfl rfl rfl ?_
              refine s_qg (q_move rfl) rfl rfl rfl ?_
              refine s_qg (q_convz (z := ((lim : Nat) : Int)) rfl (wu64 (by omega) (by omega))) rfl rfl rfl ?_
              refine s_qg (q_shl31 (a := lim) rfl rfl (by omega)) rfl rfl rfl ?_
              refine s_qg (q_leq rfl rfl) rfl rfl rfl ?_
              refine g_litb 99 (b := false) rfl (by have h9 := hno (by omega); refine decide_eq_false fun hc => h9 (by omega) _ hrm hm1) ?_
              refine s_q (q_pick_t rfl rfl) rfl ?_
              refine s_q (q_move rfl) rfl ?_
              refine s_qg (q_move rfl) rfl rfl rfl ?_
              refine s_qg (q_neq rfl rfl) rfl rfl rfl ?_
              refine g_litb 103 (b := false) rfl (by rw [hm1]; rfl) ?_
              refine s_qg (q_move rfl) rfl rfl rfl ?_
              refine g_gf rfl rfl rfl rfl ?_
              refine g_gf rfl rfl rfl rfl ?_
              refine s_qg (q_pick_f rfl rfl) rfl rfl rfl ?_
              refine s_q (q_pick_f rfl rfl) rfl ?_
              refine g_nil ?_
              refine g_then ?_
              refine g_false rfl ?_
              refine g_skip ?_
              refine g_blk_n ?_
              refine g_then ?_
              refine g_region ?_
              refine s_q (q_inc rfl rfl (by omega)) rfl ?_
              refine s_q (q_move rfl) rfl ?_
              refine g_nil ?_
              exact g_again (i + 1) (by (try dsimp only); exact (by first | exact lt_i | omega)) (by first | omega | (simp only; omega)) (by repeat (first | exact trivial | refine ⟨rfl, ?_⟩)) wok_sub
            · refine g_gf rfl rfl rfl rfl ?_
              refine g_gf rfl rfl rfl rfl ?_
              refine g_gf rfl rfl rfl rfl ?_
              refine g_gf rfl rfl rfl rfl ?_
              refine g_gf rfl rfl rfl rfl ?_
              refine s_q (q_pick_f rfl rfl) rfl ?_
              refine s_q (q_move rfl) rfl ?_
              refine s_qg (q_move rfl) rfl rfl rfl ?_
              refine s_qg (q_neq rfl rfl) rfl rfl rfl ?_
              refine g_litb 103 (b := false) rfl (by rw [hm1]; rfl) ?_
              refine s_qg (q_move rfl) rfl rfl rfl ?_
              refine g_gf rfl rfl rfl rfl ?_
              refine g_gf rfl rfl rfl rfl ?_
              refine s_qg (q_pick_f rfl rfl) rfl rfl rfl ?_
              refine s_q (q_pick_f rfl rfl) rfl ?_
              refine g_nil ?_
              refine g_then ?_
              refine g_false rfl ?_
              refine g_skip ?_
              refine g_blk_n ?_
              refine g_then ?_
              refine g_region ?_
              refine s_q (q_inc rfl rfl (by omega)) rfl ?_
              refine s_q (q_move rfl) rfl ?_
              refine g_nil ?_
              exact g_again (i + 1) (by (try dsimp only); exact (by first | exact lt_i | omega)) (by first | omega | (simp only; omega)) (by repeat (first | exact trivial | refine ⟨rfl, ?_⟩)) wok_sub
          · have hm1 : ¬ rst[i] = -1 := of_decide_eq_false h5
            refine g_gf rfl rfl rfl rfl ?_
            refine g_gf rfl rfl rfl rfl ?_
            refine s_q (q_pick_f rfl rfl) rfl ?_
            refine s_q (q_move rfl) rfl ?_
            refine g_gf rfl rfl rfl rfl ?_
            refine g_gf rfl rfl rfl rfl ?_
            refine g_gf rfl rfl rfl rfl ?_
            refine g_gf rfl rfl rfl rfl ?_
            refine g_gf rfl rfl rfl rfl ?_
            refine s_q (q_pick_f rfl rfl) rfl ?_
            refine s_q (q_move rfl) rfl ?_
            refine s_qg (q_move rfl) rfl rfl rfl ?_
            refine s_qg (q_neq rfl rfl) rfl rfl rfl ?_
            refine g_litb 103 (b := true) rfl (by simp [hm1]) ?_
            refine s_qg (q_move rfl) rfl rfl rfl ?_
            refine s_qg (q_move rfl) rfl rfl rfl ?_
            refine s_qg (q_leq rfl rfl) rfl rfl rfl ?_
            refine g_litb 106 (b := false) rfl (by exact decide_eq_false (by omega)) ?_
            refine s_qg (q_pick_t rfl rfl) rfl rfl rfl ?_
            refine s_q (q_pick_f rfl rfl) rfl ?_
            refine g_nil ?_
            refine g_then ?_
            refine g_false rfl ?_
            refine g_skip ?_
            refine g_blk_n ?_
            refine g_then ?_
            refine g_region ?_
            refine s_q (q_inc rfl rfl (by omega)) rfl ?_
            refine s_q (q_move rfl) rfl ?_
            refine g_nil ?_
            exact g_again (i + 1) (by (try dsimp only); exact (by first | exact lt_i | omega)) (by first | omega | (simp only; omega)) (by repeat (first | exact trivial | refine ⟨rfl, ?_⟩)) wok_sub
        · have eq_i : i = rst.length := by have h9 := of_decide_eq_false h4; omega
          refine g_exit ?_
          refine g_then_x (g_then_x (g_blk_hit ?_))
          refine g_then ?_
          refine g_seq ?_
          refine g_region ?_
          refine g_op (g_pure rfl (fun w1 hw1 => alive_any w1) rfl ?_)
          refine s_q (q_assign rfl) rfl ?_
          refine g_nil ?_
          refine g_then ?_
          refine g_ret ?_
          exact fin1 rfl (.tmp rfl) (fun w' hw' => ⟨by first | rfl | (simp_all; done) | (simp_all; omega), hw'.upd⟩) _ (.inl rfl)

theorem main_assignForecast (v0 : Value) (v1 : Value) (v2 : Value) (W : World) (a0 : Arg Try.prog W 45 v0) (a1 : Arg Try.prog W 45 v1) (a2 : Arg Try.prog W 46 v2) : Pur Try.prog 4 [v0, v1, v2] W (.bool true) := by
  obtain ⟨z0, rfl, hz0⟩ := Arg.int Try.underlying45 a0
  obtain ⟨bal, rfl⟩ : ∃ q : Nat, z0 = q := ⟨z0.toNat, by have h0 : 0 ≤ z0 ∧ z0 ≤ 4294967295 := hz0; omega⟩
  have h_bal : bal < 4294967296 := by have h0 : 0 ≤ ((bal : Nat) : Int) ∧ ((bal : Nat) : Int) ≤ 4294967295 := hz0; omega
  obtain ⟨z1, rfl, hz1⟩ := Arg.int Try.underlying45 a1
  obtain ⟨lim, rfl⟩ : ∃ q : Nat, z1 = q := ⟨z1.toNat, by have h0 : 0 ≤ z1 ∧ z1 ≤ 4294967295 := hz1; omega⟩
  have h_lim : lim < 4294967296 := by have h0 : 0 ≤ ((lim : Nat) : Int) ∧ ((lim : Nat) : Int) ≤ 4294967295 := hz1; omega
  obtain ⟨A_l, c_l, l, rfl, hle2, hm2, o_l, k_l⟩ := Arg.slice (fun v : Int => [Value.int .u32 v]) (fun x : Int => 0 ≤ x ∧ x ≤ 4294967295) Try.underlying46 (show Try.prog.cellsOf 45 = 1 by kernel_rfl) (by omega) (fun f cs h => OKc.int Try.underlying45 h) a2
  have h_l : l.length ≤ c_l ∧ c_l ≤ 9223372036854775807 := ⟨hle2, by unfold maxLen at hm2; omega⟩
  exact law_assignForecast bal lim A_l c_l l W h_bal h_lim o_l h_l k_l

namespace LawAssignForecast
open Go.ChangeShapes Go.WideShapes Go.ChangeAt Go.RowKit Go.Eg
set_option linter.unusedVariables false
theorem own : ownKnob Try.prog.godebug = none := by kernel_rfl
theorem laidOut : laidOutB Try.prog = true := by kernel_rfl
set_option maxRecDepth 100000 in
theorem lifted (os : Os) (started : os.Started) (H : Type) (enc : TypeId × Value → H) :
    ReturnsInHanded {} Try.checked os 4 .any (Rows.assignForecastSpec.pre6 enc Try.prog Try.f4 Rows.assignForecastRow.domain false) (Rows.assignForecastSpec.post enc Try.prog Try.f4 false true false false) := by
  refine returnsInHanded_of_change (C := Try.checked) own started (by kernel_rfl) Try.func4
    (ChangeSpec.witness6 (enc := enc) (C := Try.checked) false ⟨#[], #[.int .u32 0, .int .u32 0, .slice none 0 0], []⟩ 8 (by kernel_rfl) (by kernel_rfl) (by kernel_rfl) (by kernel_rfl)) ?_
  intro W base args ds gs before hval0 hW hcnd _
  have hval : ∀ (j : Nat) t v, Try.f4.params[j]? = some t → args[j]? = some v → Value.okWide Try.prog W .any base t v := hval0
  have hW' := hW
  obtain ⟨p, q, hA0, hV, rfl, hfz, hnd⟩ := hW
  have hA : DataW.TrodAll enc Try.prog W 0 (fun _ => true) true Try.f4.params.toList args.toList ds p := hA0
  rw [Try.params4] at hA hval
  obtain ⟨v0, vs0, d0, ds0, p0, q0, hargs, rfl, rfl, h0, r0⟩ := trodAll_cons hA
  obtain ⟨v1, vs1, d1, ds1, p1, q1, rfl, rfl, rfl, h1, r1⟩ := trodAll_cons r0
  obtain ⟨v2, vs2, d2, ds2, p2, q2, rfl, rfl, rfl, h2, r2⟩ := trodAll_cons r1
  obtain ⟨rfl, rfl, rfl⟩ := trodAll_nil r2
  obtain rfl : args = #[v0, v1, v2] := by cases args; simp_all
  obtain ⟨rfl, rfl⟩ := trodVars_none hV
  have a0 := Arg.of h0 (hval 0 45 v0 rfl rfl)
  have lt0 : ∀ x ∈ p0, x.block < W.heap.size := by obtain ⟨m, hm⟩ := h0; exact DataW.trod_lt m _ _ _ hm
  have a1 := Arg.of h1 (hval 1 45 v1 rfl rfl)
  have lt1 : ∀ x ∈ p1, x.block < W.heap.size := by obtain ⟨m, hm⟩ := h1; exact DataW.trod_lt m _ _ _ hm
  have a2 := Arg.of h2 (hval 2 46 v2 rfl rfl)
  have lt2 : ∀ x ∈ p2, x.block < W.heap.size := by obtain ⟨m, hm⟩ := h2; exact DataW.trod_lt m _ _ _ hm
  clear hA0 hval0
  simp only [List.append_nil] at hW'
  refine Calls.mono (main_assignForecast v0 v1 v2 W a0 a1 a2) ?_
  rintro e W' ⟨v, rfl, rfl, hu⟩
  have bel := hu.below
  have targ := (trodAll_cons_mk (Below.trod laidOut (by kernel_rfl) (of_decide_eq_true (by kernel_rfl)) h0 bel lt0) (trodAll_cons_mk (Below.trod laidOut (by kernel_rfl) (of_decide_eq_true (by kernel_rfl)) h1 bel lt1) (trodAll_cons_mk (Below.trod laidOut (by kernel_rfl) (of_decide_eq_true (by kernel_rfl)) h2 bel lt2) trodAll_mk0)))
  simp only [List.append_nil] at targ
  exact ⟨_, rfl, _, _, _, [], _, [], hW', trodAll_mk1 (shut_bool Try.underlying4 _), targ, rfl, bel.frame _, fun h => by cases h⟩
theorem over : Rows.assignForecastRow.holds Try.pinned (OpenSpec.ofChange Rows.assignForecastSpec) :=
  OpenClaim.holds_of_wide 4 Try.f4 rfl rfl rfl rfl rfl rfl rfl ⟨rfl, rfl, rfl, rfl, rfl⟩ rfl rfl rfl rfl rfl (by kernel_rfl) Try.func4 (by kernel_rfl)
    (of_decide_eq_true (by kernel_rfl)) (by unfold Func.isWrapper; first | (rw [if_pos (by decide +kernel)]; kernel_rfl) | (rw [if_neg (by decide +kernel)]; exact ⟨rfl, rfl⟩))
    (fun os started H enc _ => lifted os started H enc)
theorem proved : Rows.AssignForecastSaid := over
end LawAssignForecast
end Go.Proofs.Ytmolaicpbaiioaa
