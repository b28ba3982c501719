/- walk of the reference wait -/
import Derived.Test.YtjfncbgggfammaaWF
namespace Go.Proofs.Ytjfncbgggfammaa
open Go.RowKit Go.Eg
set_option synthInstance.maxSize 3000
set_option linter.unusedSimpArgs false
set_option linter.unusedVariables false
set_option maxRecDepth 100000
set_option maxHeartbeats 400000 in
theorem rwait_any (A : Option Addr) (cap : Nat) (l : List Int) (lim w9 : Int) (W : Option Addr) (wn wc : Nat) (ws : List Int) (w : World) (hl9 : Old w A l.length 1 (l.map (fun v : Int => [Value.int .i64 v]))) (hcl : l.length ≤ cap) (hw9 : Old w W wn 1 (ws.map (fun v : Int => [Value.int .u64 v]))) (hokw : okU ws) (hlim : 0 ≤ lim ∧ lim ≤ 18446744073709551615) (hwR : 0 ≤ w9 ∧ w9 ≤ 18446744073709551615) (hln : l.length ≤ 100) : Pur Try.prog 18 [.slice A l.length cap, .int .u64 lim, .slice W wn wc, .int .u64 w9] w (.int .i64 (waitV lim ws l w9)) := by
  refine g_start Try.func18 rfl 56 rfl (by simp) ([]) [] (WOK.start _ _) _ rfl ?_
  refine g_seq ?_
  refine g_region ?_
  refine s_q (q_assign rfl) rfl ?_
  refine g_nil ?_
  refine g_then ?_
  refine g_seq ?_
  refine g_region ?_
  refine s_q (q_assign rfl) rfl ?_
  refine g_nilrow 9 23 1 rfl fun Az1 capz1 hcz1 => ?_
  refine g_rowels (A := Az1) (([] : List Int).map (fun v : Int => [Value.int .u64 v])) rfl ?_
  refine g_nil ?_
  refine g_then ?_
  refine g_seq ?_
  refine g_region ?_
  refine s_q (q_assign rfl) rfl ?_
  refine g_nilrow 10 3 1 rfl fun Az2 capz2 hcz2 => ?_
  refine g_rowels (A := Az2) (([] : List Int).map (fun v : Int => [Value.int .i64 v])) rfl ?_
  refine g_nil ?_
  refine g_then ?_
  refine g_seq ?_
  refine g_seq ?_
  refine g_region ?_
  refine s_q (q_assign rfl) rfl ?_
  refine g_nil ?_
  refine g_then ?_
  refine g_block ?_
  refine g_loopk [0, 1, 2, 3, 8] (fun (x : Nat × Option Addr × Nat × List Int × Option Addr × Nat × List Int) => [(9, .slice x.2.1 x.2.2.2.1.length x.2.2.1), (10, .slice x.2.2.2.2.1 x.2.2.2.2.2.2.length x.2.2.2.2.2.1), (11, .int .i64 ((x.1 : Nat) : Int))]) (fun (x : Nat × Option Addr × Nat × List Int × Option Addr × Nat × List Int) => [Res.row x.2.1 (x.2.2.2.1).length x.2.2.1 23 1 ((x.2.2.2.1).map (fun v : Int => [Value.int .u64 v])), Res.row x.2.2.2.2.1 (x.2.2.2.2.2.2).length x.2.2.2.2.2.1 3 1 ((x.2.2.2.2.2.2).map (fun v : Int => [Value.int .i64 v]))]) (fun (x : Nat × Option Addr × Nat × List Int × Option Addr × Nat × List Int) => x.1 ≤ l.length ∧ x.2.2.2.1 = (l.take x.1).map (ofW ws) ∧ x.2.2.2.2.2.2 = rgI x.1) (fun (x : Nat × Option Addr × Nat × List Int × Option Addr × Nat × List Int) => l.length - x.1) (0, Az1, capz1, [], Az2, capz2, []) (by (try dsimp only); exact ⟨(by omega), (by simp), rfl⟩) rfl (by repeat (first | exact trivial | refine ⟨rfl, ?_⟩)) wok_sub ?_
  rintro ⟨k, B, bc, o, C, cc, y⟩ ⟨hk, ho, hx⟩
  replace hk : k ≤ l.length := hk
  replace ho : o = (l.take k).map (ofW ws) := ho
  replace hx : y = rgI k := hx
  refine g_setL (L' := [Res.row B (o).length bc 23 1 ((o).map (fun v : Int => [Value.int .u64 v])), Res.row C (y).length cc 3 1 ((y).map (fun v : Int => [Value.int .i64 v]))]) rfl ?_
  refine g_val 9 (v' := .slice B o.length bc) rfl rfl ?_
  refine g_val 10 (v' := .slice C y.length cc) rfl rfl ?_
  refine g_val 11 (v' := .int .i64 ((k : Nat) : Int)) rfl rfl ?_
  have hol : o.length = k := by rw [ho]; simp; omega
  have hxl : y.length = k := by rw [hx]; exact rgI_len k
  refine g_seq ?_
  refine g_seq ?_
  refine g_region ?_
  refine s_q (q_move rfl) rfl ?_
  refine s_q (q_move rfl) rfl ?_
  refine s_q (q_len rfl) rfl ?_
  refine s_q (q_lss rfl rfl) rfl ?_
  refine g_nil ?_
  refine g_then ?_
  refine g_cond rfl (fun h1 => ?_) (fun h1 => ?_)
  · have hk1 : k < l.length := by have h9 := of_decide_eq_true h1; omega
    refine g_skip ?_
    refine g_then ?_
    refine g_seq ?_
    refine g_block ?_
    refine g_seq ?_
    refine g_region ?_
    refine s_q (q_move rfl) rfl ?_
    refine s_q (q_move rfl) rfl ?_
    refine s_q (q_move rfl) rfl ?_
    refine s_q (q_move rfl) rfl ?_
    refine s_q (q_index (i := k) rfl rfl rfl (hl9.rdb rfl) (by first | omega | (simp; done) | (simp; omega))) rfl ?_
    refine s_q (q_load_el (i := k) (o := 0) rfl (hl9.rdb rfl) (map_get (by first | exact (by first | omega | (simp; done) | (simp; omega)) | omega | (simp_all; done) | (simp_all; omega))) rfl rfl) rfl ?_
    refine g_op (g_pure rfl (fun w1 hw1 => of13_any W (wn) (wc) (ws) _ w1 (Rdb.toOld (hw9.rdb rfl) hw1)) rfl ?_)
    refine g_op (g_lit rfl rfl rfl rfl rfl fun b27 => ?_)
    refine g_blkc (b := b27) ((([(ofW ws (l[k]))] : List Int).map (fun v : Int => [Value.int .u64 v])).flatten) rfl ?_
    refine g_op (g_append (A := B) (els := (o).map (fun v : Int => [Value.int .u64 v])) (news := (([(ofW ws (l[k]))] : List Int).map (fun v : Int => [Value.int .u64 v]))) rfl rfl (InL.rdb (b := b27) rfl (by simp) rfl) (map_one (c := (fun v : Int => [Value.int .u64 v])) (by intro x; simp [Value.oneCell']) _) (by first | omega | (simp; omega) | (simp_all; omega)) rfl fun A28 cap28 => ⟨_, inferInstance, ?_⟩)
    refine g_rowels (A := A28) (((o ++ [(ofW ws (l[k]))])).map (fun v : Int => [Value.int .u64 v])) (by first | rfl | exact List.map_append.symm | (simp; done)) ?_
    refine s_q (q_assign rfl) rfl ?_
    refine g_nil ?_
    refine g_then ?_
    refine g_region ?_
    refine s_q (q_move rfl) rfl ?_
    refine s_q (q_move rfl) rfl ?_
    refine g_op (g_lit rfl rfl rfl rfl rfl fun b31 => ?_)
    refine g_blkc (b := b31) ((([((k : Nat) : Int)] : List Int).map (fun v : Int => [Value.int .i64 v])).flatten) rfl ?_
    refine g_op (g_append (A := C) (els := (y).map (fun v : Int => [Value.int .i64 v])) (news := (([((k : Nat) : Int)] : List Int).map (fun v : Int => [Value.int .i64 v]))) rfl rfl (InL.rdb (b := b31) rfl (by simp) rfl) (map_one (c := (fun v : Int => [Value.int .i64 v])) (by intro x; simp [Value.oneCell']) _) (by first | omega | (simp; omega) | (simp_all; omega)) rfl fun A32 cap32 => ⟨_, inferInstance, ?_⟩)
    refine g_rowels (A := A32) (((y ++ [((k : Nat) : Int)])).map (fun v : Int => [Value.int .i64 v])) (by first | rfl | exact List.map_append.symm | (simp; done)) ?_
    refine s_q (q_assign rfl) rfl ?_
    refine g_nil ?_
    refine g_blk_n ?_
    refine g_then ?_
    refine g_region ?_
    refine s_q (q_move rfl) rfl ?_
    refine s_q (q_inc rfl rfl (by omega)) rfl ?_
    refine s_q (q_assign rfl) rfl ?_
    refine g_nil ?_
    refine g_rown (A := A28) ((o ++ [(ofW ws (l[k]))])).length (by simp) ?_
    refine g_val 9 (v' := .slice A28 ((o ++ [(ofW ws (l[k]))])).length cap28) rfl (by simp) ?_
    refine g_rown (A := A32) ((y ++ [((k : Nat) : Int)])).length (by simp) ?_
    refine g_val 10 (v' := .slice A32 ((y ++ [((k : Nat) : Int)])).length cap32) rfl (by simp) ?_
    exact g_again ((k + 1), A28, cap28, (o ++ [(ofW ws (l[k]))]), A32, cap32, (y ++ [((k : Nat) : Int)])) (by (try dsimp only); exact ⟨(by omega), (by rw [ho, ← List.take_append_getElem hk1, List.map_append]; rfl), (by rw [hx]; exact rgI_succ k)⟩) (by dsimp only; omega) (by repeat (first | exact trivial | refine ⟨rfl, ?_⟩)) wok_sub
  · have hk2 : k = l.length := by have h9 := of_decide_eq_false h1; omega
    refine g_exit ?_
    refine g_then_x (g_then_x (g_blk_hit ?_))
    refine g_then ?_
    refine g_seq ?_
    refine g_region ?_
    refine s_q (q_move rfl) rfl ?_
    refine s_q (q_move rfl) rfl ?_
    refine g_op (g_lit rfl rfl rfl rfl rfl fun b35 => ?_)
    refine g_blkc (b := b35) ((([w9] : List Int).map (fun v : Int => [Value.int .u64 v])).flatten) rfl ?_
    refine g_op (g_append (A := B) (els := (o).map (fun v : Int => [Value.int .u64 v])) (news := (([w9] : List Int).map (fun v : Int => [Value.int .u64 v]))) rfl rfl (InL.rdb (b := b35) rfl (by simp) rfl) (map_one (c := (fun v : Int => [Value.int .u64 v])) (by intro x; simp [Value.oneCell']) _) (by first | omega | (simp; omega) | (simp_all; omega)) rfl fun A36 cap36 => ⟨_, inferInstance, ?_⟩)
    refine g_rowels (A := A36) (((o ++ [w9])).map (fun v : Int => [Value.int .u64 v])) (by first | rfl | exact List.map_append.symm | (simp; done)) ?_
    refine s_q (q_assign rfl) rfl ?_
    refine g_nil ?_
    refine g_then ?_
    refine g_seq ?_
    refine g_region ?_
    refine s_q (q_move rfl) rfl ?_
    refine s_q (q_move rfl) rfl ?_
    refine s_q (q_len rfl) rfl ?_
    refine g_op (g_lit rfl rfl rfl rfl rfl fun b40 => ?_)
    refine g_blkc (b := b40) ((([((l.length : Nat) : Int)] : List Int).map (fun v : Int => [Value.int .i64 v])).flatten) rfl ?_
    refine g_op (g_append (A := C) (els := (y).map (fun v : Int => [Value.int .i64 v])) (news := (([((l.length : Nat) : Int)] : List Int).map (fun v : Int => [Value.int .i64 v]))) rfl rfl (InL.rdb (b := b40) rfl (by simp) rfl) (map_one (c := (fun v : Int => [Value.int .i64 v])) (by intro x; simp [Value.oneCell']) _) (by first | omega | (simp; omega) | (simp_all; omega)) rfl fun A41 cap41 => ⟨_, inferInstance, ?_⟩)
    refine g_rowels (A := A41) (((y ++ [((l.length : Nat) : Int)])).map (fun v : Int => [Value.int .i64 v])) (by first | rfl | exact List.map_append.symm | (simp; done)) ?_
    refine s_q (q_assign rfl) rfl ?_
    refine g_nil ?_
    refine g_then ?_
    refine g_seq ?_
    refine g_region ?_
    refine s_q (q_assign rfl) rfl ?_
    refine g_nil ?_
    refine g_then ?_
    refine g_block ?_
    refine g_rown (A := A36) (o ++ [w9]).length (by simp) ?_
    refine g_rown (A := A41) (y ++ [((l.length : Nat) : Int)]).length (by simp) ?_
    refine g_val 9 (v' := .slice A36 (o ++ [w9]).length cap36) rfl (by simp) ?_
    refine g_rowfact A41 fun hcp _ _ => ?_
    have hIl : (y ++ [((l.length : Nat) : Int)]).length = l.length + 1 := by simp; omega
    have hcp2 : l.length + 1 ≤ cap41 := by rw [← hIl]; exact hcp
    have hokA : okU (o ++ [w9]) := fun v hv => (List.mem_append.1 hv).elim (fun hv => by rw [ho] at hv; exact okU_map hokw v hv) (fun hv => by simp at hv; omega)
    refine g_val 10 (v' := .slice (subA A41 cap41 0 1) ((y ++ [((l.length : Nat) : Int)]).drop 0).length (cap41 - 0)) rfl (by rw [subA_zero]; simp) ?_
    refine g_loopk [1, 8, 9] (fun (x : Nat × Int) => [(10, .slice (subA A41 cap41 x.1 1) ((y ++ [((l.length : Nat) : Int)]).drop x.1).length (cap41 - x.1)), (12, .int .i64 x.2)]) (fun (x : Nat × Int) => [Res.row A36 (o ++ [w9]).length cap36 23 1 ((o ++ [w9]).map (fun v : Int => [Value.int .u64 v])), Res.row A41 (y ++ [((l.length : Nat) : Int)]).length cap41 3 1 ((y ++ [((l.length : Nat) : Int)]).map (fun v : Int => [Value.int .i64 v]))]) (fun (x : Nat × Int) => x.1 ≤ l.length ∧ (1 ≤ x.2 ∧ x.2 ≤ (x.1 : Int) + 1) ∧ waitV lim ws l w9 = cntV lim (o ++ [w9]) ((y ++ [((l.length : Nat) : Int)]).drop x.1) x.2 0 true) (fun (x : Nat × Int) => l.length + 1 - x.1) (0, 1) (by (try dsimp only); exact ⟨(by omega), (by omega), (by rw [List.drop_zero, wait_ref, ho, hx, hk2, List.take_length, rgI_succ])⟩) rfl (by repeat (first | exact trivial | refine ⟨rfl, ?_⟩)) wok_sub ?_
    rintro ⟨d, kk⟩ ⟨hd, hkk, hcn⟩
    replace hd : d ≤ l.length := hd
    replace hkk : 1 ≤ kk ∧ kk ≤ (d : Int) + 1 := hkk
    replace hcn : waitV lim ws l w9 = cntV lim (o ++ [w9]) ((y ++ [((l.length : Nat) : Int)]).drop d) kk 0 true := hcn
    refine g_setL (L' := [Res.row A36 (o ++ [w9]).length cap36 23 1 ((o ++ [w9]).map (fun v : Int => [Value.int .u64 v])), Res.row A41 (y ++ [((l.length : Nat) : Int)]).length cap41 3 1 ((y ++ [((l.length : Nat) : Int)]).map (fun v : Int => [Value.int .i64 v]))]) rfl ?_
    refine g_val 10 (v' := .slice (subA A41 cap41 d 1) ((y ++ [((l.length : Nat) : Int)]).drop d).length (cap41 - d)) rfl rfl ?_
    refine g_val 12 (v' := .int .i64 kk) rfl rfl ?_
    refine g_seq ?_
    refine g_block ?_
    refine g_seq ?_
    refine g_region ?_
    refine s_q (q_move rfl) rfl ?_
    refine s_q (q_move rfl) rfl ?_
    refine s_q (q_move rfl) rfl ?_
    refine g_op (g_pure rfl (fun w1 hw1 => rstep_any (subA A41 cap41 d 1) ((cap41 - d)) ((y ++ [((l.length : Nat) : Int)]).drop d) (lim) A36 ((o ++ [w9]).length) (cap36) (o ++ [w9]) w1 (Rdb.toOld (rdb_drop14n (A := A41) (l := (y ++ [((l.length : Nat) : Int)])) (InRow.rdb (by simp) (map_cat (c := (fun v : Int => [Value.int .i64 v])) (fun _ => rfl) _)) (by rw [hIl]; omega) (by rw [hIl]; exact hcp2)) hw1) (by rw [List.length_drop, hIl]; omega) (Rdb.toOld (InRow.rdb (A := A36) (els := ((o ++ [w9])).map (fun v : Int => [Value.int .u64 v])) (by first | rfl | assumption | (simp; done) | (simp_all; done) | (simp; omega) | (simp_all; omega)) (map_cat (c := (fun v : Int => [Value.int .u64 v])) (fun _ => rfl) _)) hw1) hokA hlim (by rw [List.length_drop, hIl]; omega)) rfl ?_)
    refine s_q (q_assign rfl) rfl ?_
    refine g_nil ?_
    refine g_then ?_
    refine g_seq ?_
    refine g_seq ?_
    refine g_region ?_
    refine s_q (q_move rfl) rfl ?_
    refine s_q (q_move rfl) rfl ?_
    refine s_q (q_len rfl) rfl ?_
    refine s_q (q_eql rfl rfl) rfl ?_
    refine g_nil ?_
    refine g_then ?_
    refine g_cond rfl (fun h2 => ?_) (fun h2 => ?_)
    · have hwk : waitV lim ws l w9 = kk := by rw [hcn, cnt_cut, if_pos (List.drop_eq_nil_of_le (by have h9 := of_decide_eq_true h2; omega))]
      refine g_seq ?_
      refine g_region ?_
      refine s_q (q_move rfl) rfl ?_
      refine s_q (q_assign rfl) rfl ?_
      refine g_nil ?_
      refine g_then ?_
      refine g_ret ?_
      refine g_then_ret (g_blk_ret (g_then_ret (g_then_ret (g_blk_ret ?_))))
      exact fin1 rfl (.tmp rfl) (fun w' hw' => ⟨by rw [hwk], hw'.upd⟩) _ (.inl rfl)
    · have hdl : ((y ++ [((l.length : Nat) : Int)]).drop d).length = l.length + 1 - d := by rw [List.length_drop, hIl]
      have hb1 := bat_len lim (o ++ [w9]) ((y ++ [((l.length : Nat) : Int)]).drop d) 0 true
      have hb2 := bat_ge lim (o ++ [w9]) ((y ++ [((l.length : Nat) : Int)]).drop d) (fun hc => by have h9 := congrArg List.length hc; rw [hdl] at h9; simp at h9; omega)
      have hb3 : (batF lim (o ++ [w9]) ((y ++ [((l.length : Nat) : Int)]).drop d) 0 true).length < ((y ++ [((l.length : Nat) : Int)]).drop d).length := by have h9 := of_decide_eq_false h2; omega
      have hcc : waitV lim ws l w9 = cntV lim (o ++ [w9]) ((y ++ [((l.length : Nat) : Int)]).drop (d + (batF lim (o ++ [w9]) ((y ++ [((l.length : Nat) : Int)]).drop d) 0 true).length)) (kk + 1) 0 true := by rw [hcn, cnt_cut, if_neg (fun hc => by have h9 := congrArg List.length hc; rw [List.length_drop] at h9; simp only [List.length_nil] at h9; omega), List.drop_drop]
      refine g_skip ?_
      refine g_then ?_
      refine g_region ?_
      refine s_q (q_move rfl) rfl ?_
      refine s_q (q_move rfl) rfl ?_
      refine s_q (q_slice_l (l := (batF lim (o ++ [w9]) ((y ++ [((l.length : Nat) : Int)]).drop d) 0 true).length) rfl rfl rfl (by omega)) rfl ?_
      refine s_q (q_assign rfl) rfl ?_
      refine g_nil ?_
      refine g_blk_n ?_
      refine g_then ?_
      refine g_region ?_
      refine s_q (q_move rfl) rfl ?_
      refine s_q (q_addz (z := kk + 1) rfl rfl (wi64 (by omega) (by omega))) rfl ?_
      refine s_q (q_assign rfl) rfl ?_
      refine g_nil ?_
      refine g_val 10 (v' := .slice (subA A41 cap41 (d + (batF lim (o ++ [w9]) ((y ++ [((l.length : Nat) : Int)]).drop d) 0 true).length) 1) ((y ++ [((l.length : Nat) : Int)]).drop (d + (batF lim (o ++ [w9]) ((y ++ [((l.length : Nat) : Int)]).drop d) 0 true).length)).length (cap41 - (d + (batF lim (o ++ [w9]) ((y ++ [((l.length : Nat) : Int)]).drop d) 0 true).length))) rfl (by rw [subA_sub _ _ _ _ (by omega), List.length_drop, List.length_drop, Nat.sub_sub, Nat.sub_sub]) ?_
      exact g_again ((d + (batF lim (o ++ [w9]) ((y ++ [((l.length : Nat) : Int)]).drop d) 0 true).length), (kk + 1)) (by (try dsimp only); exact ⟨(by omega), (by omega), hcc⟩) (by dsimp only; omega) (by repeat (first | exact trivial | refine ⟨rfl, ?_⟩)) wok_sub
end Go.Proofs.Ytjfncbgggfammaa
