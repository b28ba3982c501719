/- walk of Forecast -/
import Derived.Test.YtmolaicpbaiioaaW8
namespace Go.Proofs.Ytmolaicpbaiioaa
open Go.RowKit Go.Eg
set_option synthInstance.maxSize 3000
set_option linter.unusedSimpArgs false
set_option linter.unusedVariables false
set_option maxRecDepth 100000
theorem fc_z {lim : Int} {l : List Int} {i : Nat} (h : i < l.length) {k b : Int} (hk : ¬ 0 < k) : fcF lim (l.drop i) k b = k :: fcF lim (l.drop (i + 1)) k b := by
  rw [List.drop_eq_getElem_cons h, fcF, if_neg hk]
theorem fc_c {lim : Int} {l : List Int} {i : Nat} (h : i < l.length) {k b : Int} (hk : 0 < k) (hc : l[i] ≤ b) : fcF lim (l.drop i) k b = k :: fcF lim (l.drop (i + 1)) k (b - l[i]) := by
  rw [List.drop_eq_getElem_cons h, fcF, if_pos hk, if_pos hc]
theorem fc_m {lim : Int} {l : List Int} {i : Nat} (h : i < l.length) {k b : Int} (hk : 0 < k) (hc : ¬ l[i] ≤ b) (hm : lim = 0 ∨ 2147483648 < ceilV (l[i] - b) lim ∨ 2147483648 < k + ceilV (l[i] - b) lim) : fcF lim (l.drop i) k b = -1 :: fcF lim (l.drop (i + 1)) (-1) b := by
  rw [List.drop_eq_getElem_cons h, fcF, if_pos hk, if_neg hc, if_pos hm]
theorem fc_a {lim : Int} {l : List Int} {i : Nat} (h : i < l.length) {k b nd : Int} (hk : 0 < k) (hc : ¬ l[i] ≤ b) (hnd : nd = ceilV (l[i] - b) lim) (h1 : lim ≠ 0) (h2 : nd ≤ 2147483648) (h3 : k + nd ≤ 2147483648) : fcF lim (l.drop i) k b = (k + nd) :: fcF lim (l.drop (i + 1)) (k + nd) (b + lim * nd - l[i]) := by
  subst hnd
  rw [List.drop_eq_getElem_cons h, fcF, if_pos hk, if_neg hc, if_neg (by omega)]

set_option maxHeartbeats 400000 in
theorem forecast_any (bal lim : Nat) (A : Option Addr) (n cap : Nat) (l : List Int) (w : World) (ha : Old w A n 1 (l.map (fun v : Int => [Value.int .u64 v]))) (hl : okU l) (hb9 : bal < 18446744073709551616) (hl2 : lim < 18446744073709551616) (hn9 : n ≤ 100000) : Own2 (ι := (Option Addr × Nat)) Try.prog 16 [.int .u64 ((bal : Nat) : Int), .int .u64 ((lim : Nat) : Int), .slice A n cap] w [] (fun x => True) (fun x => .slice x.1 (fcV ((bal : Nat) : Int) ((lim : Nat) : Int) l).length x.2) (fun x => [Res.row x.1 (fcV ((bal : Nat) : Int) ((lim : Nat) : Int) l).length x.2 3 1 ((fcV ((bal : Nat) : Int) ((lim : Nat) : Int) l).map (fun v : Int => [Value.int .i64 v]))]) (fun x => []) := by
  refine g_start Try.func16 rfl 73 rfl (by simp) (fps []) [] (WOK.start _ _) _ rfl ?_
  have hn : n = l.length := by simpa using ha.len
  refine g_seq ?_
  refine g_region ?_
  refine s_q (q_assign rfl) rfl ?_
  refine g_nil ?_
  refine g_then ?_
  refine g_seq ?_
  refine g_region ?_
  refine s_q (q_move rfl) rfl ?_
  refine s_q (q_len rfl) rfl ?_
  refine g_op (g_make0 (n := n) rfl rfl rfl rfl (by omega) rfl fun g16 => ?_)
  refine g_rowels (A := some ⟨g16, 0, none⟩) (([] : List Int).map (fun v : Int => [Value.int .i64 v])) rfl ?_
  refine s_q (q_assign rfl) rfl ?_
  refine g_nil ?_
  refine g_then ?_
  refine g_seq ?_
  refine g_region ?_
  refine s_q (q_assign rfl) rfl ?_
  refine g_nil ?_
  refine g_then ?_
  refine g_seq ?_
  refine g_region ?_
  refine s_q (q_move rfl) rfl ?_
  refine s_q (q_build (c := [Value.int .u64 0, Value.int .u64 ((bal : Nat) : Int)]) rfl rfl) rfl ?_
  refine g_op (g_alloc rfl fun b9 => ?_)
  refine g_op (g_storew rfl rfl rfl rfl rfl ?_)
  refine g_blkc (b := b9) (Wd ((bal : Nat) : Int)) (by simp [Wd, splice]; omega) ?_
  refine g_nil ?_
  refine g_then ?_
  refine g_seq ?_
  refine g_region ?_
  refine s_q (q_move rfl) rfl ?_
  refine g_op (g_ownS [Res.blk b9 89 (Wd ((bal : Nat) : Int))] rfl (fun w1 hw1 ho1 => by have h7 := wadd_any b9 ((bal : Nat) : Int) (((lim : Nat) : Int)) w1 ho1 (by omega) (by omega) (by omega); exact h7) rfl ?_)
  rintro ⟨⟩ _
  refine ⟨_, _, inferInstance, inferInstance, ?_⟩
  refine g_nil ?_
  refine g_then ?_
  refine g_seq ?_
  refine g_seq ?_
  refine g_region ?_
  refine s_q (q_move rfl) rfl ?_
  refine s_q (q_len rfl) rfl ?_
  refine s_q (q_move rfl) rfl ?_
  refine g_nil ?_
  refine g_then ?_
  refine g_block ?_
  refine g_loopk [1, 6, 9, 21, 22] (fun (x : Nat × Option Addr × Nat × List Int × Int × Int) => [(7, .slice x.2.1 x.2.2.2.1.length x.2.2.1), (8, .int .i64 x.2.2.2.2.1), (23, .int .i64 ((x.1 : Nat) : Int))]) (fun (x : Nat × Option Addr × Nat × List Int × Int × Int) => [Res.row x.2.1 (x.2.2.2.1).length x.2.2.1 3 1 ((x.2.2.2.1).map (fun v : Int => [Value.int .i64 v])), Res.blk b9 89 (Wd x.2.2.2.2.2)]) (fun (x : Nat × Option Addr × Nat × List Int × Int × Int) => x.1 ≤ n ∧ (fcV ((bal : Nat) : Int) ((lim : Nat) : Int) l) = x.2.2.2.1 ++ fcF ((lim : Nat) : Int) (l.drop x.1) x.2.2.2.2.1 x.2.2.2.2.2 ∧ (x.2.2.2.1).length = x.1 ∧ (-1 ≤ x.2.2.2.2.1 ∧ x.2.2.2.2.1 ≤ 2147483648) ∧ 0 ≤ x.2.2.2.2.2 ∧ (0 < x.2.2.2.2.1 → x.2.2.2.2.2 ≤ (x.2.2.2.2.1 + 1) * 18446744073709551616)) (fun (x : Nat × Option Addr × Nat × List Int × Int × Int) => n - x.1) (0, (some ⟨g16, 0, none⟩), n, [], 1, (((bal : Nat) : Int) + ((lim : Nat) : Int))) (by (try dsimp only); exact ⟨Nat.zero_le _, rfl, rfl, (by omega), (by omega), (fun _ => by omega)⟩) rfl (by repeat (first | exact trivial | refine ⟨rfl, ?_⟩)) wok_sub ?_
  rintro ⟨i, B, bc, out, k, b⟩ ⟨le_i, hs, ho, hk, hb0, hb1⟩
  replace le_i : i ≤ n := le_i
  replace hs : (fcV ((bal : Nat) : Int) ((lim : Nat) : Int) l) = out ++ fcF ((lim : Nat) : Int) (l.drop i) k b := hs
  replace ho : (out).length = i := ho
  replace hk : -1 ≤ k ∧ k ≤ 2147483648 := hk
  replace hb0 : 0 ≤ b := hb0
  replace hb1 : 0 < k → b ≤ (k + 1) * 18446744073709551616 := hb1
  refine g_setL (L' := [Res.row B (out).length bc 3 1 ((out).map (fun v : Int => [Value.int .i64 v])), Res.blk b9 89 (Wd b)]) rfl ?_
  refine g_val 7 (v' := .slice B out.length bc) rfl rfl ?_
  refine g_val 8 (v' := .int .i64 k) rfl rfl ?_
  refine g_val 23 (v' := .int .i64 ((i : Nat) : Int)) rfl rfl ?_
  refine g_seq ?_
  refine g_region ?_
  refine s_q (q_lss rfl rfl) rfl ?_
  refine g_nil ?_
  refine g_then ?_
  refine g_seq ?_
  refine g_cond rfl (fun h1 => ?_) (fun h1 => ?_)
  · have lt_i : i < n := by have h9 := of_decide_eq_true h1; omega
    replace lt_i : i < l.length := by omega
    have hwU := hl l[i] (List.getElem_mem lt_i)
    refine g_skip ?_
    refine g_then ?_
    refine g_seq ?_
    refine g_block ?_
    refine g_seq ?_
    refine g_region ?_
    refine s_q (q_index (i := i) rfl rfl rfl (ha.rdb rfl) (by first | exact lt_i | omega)) rfl ?_
    refine s_q (q_load_el (i := i) (o := 0) rfl (ha.rdb rfl) (map_get (by first | assumption | omega)) rfl rfl) rfl ?_
    refine s_q (q_assign rfl) rfl ?_
    refine g_nil ?_
    refine g_then ?_
    refine g_seq ?_
    refine g_seq ?_
    refine g_region ?_
    refine s_q (q_move rfl) rfl ?_
    refine s_q (q_gtr rfl rfl) rfl ?_
    refine s_q (q_move rfl) rfl ?_
    refine g_split 29 rfl (fun h2 => ?_) (fun h2 => ?_)
    · have hk0 : 0 < k := of_decide_eq_true h2
      have hb2 := hb1 hk0
      refine s_qg (q_move rfl) rfl rfl rfl ?_
      refine g_gt rfl rfl (g_keep [Res.blk b9 89 (Wd b)] rfl (fun w1 hw1 ho1 => by exact covers_any b9 b (l[i]) w1 ho1 (by omega) (by omega)) rfl ?_)
      refine s_qg (q_not rfl) rfl rfl rfl ?_
      refine s_q (q_pick_t rfl rfl) rfl ?_
      refine g_nil ?_
      refine g_then ?_
      refine g_cond rfl (fun h3 => ?_) (fun h3 => ?_)
      · have hncov : ¬ l[i] ≤ b := by simpa using h3
        refine g_seq ?_
        refine g_region ?_
        refine s_q (q_move rfl) rfl ?_
        refine s_q (q_field rfl) rfl ?_
        refine s_q (q_load rfl rfl) rfl ?_
        refine s_q (q_subz (z := l[i] - b) rfl rfl (by rw [IntKind.wrap_u64]; omega)) rfl ?_
        refine s_q (q_move rfl) rfl ?_
        refine g_op (g_pure rfl (fun w1 hw1 => ceil_any _ _ w1 (show U64 (l[i] - b) from by unfold U64; omega) (show U64 ((lim : Nat) : Int) from by unfold U64; omega)) rfl ?_)
        refine s_q (q_move rfl) rfl ?_
        refine s_q (q_extract rfl rfl) rfl ?_
        refine s_q (q_extract rfl rfl) rfl ?_
        refine s_q (q_assign rfl) rfl ?_
        refine s_q (q_assign rfl) rfl ?_
        have hnd0 := ceil_bd (a := l[i] - b) (d := ((lim : Nat) : Int)) (by unfold U64; omega) (by unfold U64; omega)
        obtain ⟨nd, hnd⟩ : ∃ z : Nat, (z : Int) = ceilV (l[i] - b) ((lim : Nat) : Int) := ⟨(ceilV (l[i] - b) ((lim : Nat) : Int)).toNat, by omega⟩
        refine g_val 12 (v' := .int .u64 ((nd : Nat) : Int)) rfl (by rw [hnd]) ?_
        refine g_nil ?_
        refine g_then ?_
        refine g_seq ?_
        refine g_region ?_
        refine s_q (q_move rfl) rfl ?_
        refine s_q (q_not rfl) rfl ?_
        refine s_q (q_move rfl) rfl ?_
        refine g_split 45 rfl (fun h4 => ?_) (fun h4 => ?_)
        · have hmm : ((lim : Nat) : Int) = 0 := by have h9 := h4; simp [ceilB] at h9; omega
          refine g_gf rfl rfl rfl rfl ?_
          refine g_gf rfl rfl rfl rfl ?_
          refine s_q (q_pick_t rfl rfl) rfl ?_
          refine s_q (q_move rfl) rfl ?_
          refine g_gf rfl rfl rfl rfl ?_
          refine g_gf rfl rfl rfl rfl ?_
          refine g_gf rfl rfl rfl rfl ?_
          refine g_gf rfl rfl rfl rfl ?_
          refine g_gf rfl rfl rfl rfl ?_
          refine s_q (q_pick_t rfl rfl) rfl ?_
          refine g_nil ?_
          refine g_then ?_
          refine g_true rfl ?_
          refine g_region ?_
          refine s_q (q_assign rfl) rfl ?_
          refine g_nil ?_
          refine g_then ?_
          refine g_seq ?_
          refine g_seq ?_
          refine g_region ?_
          refine s_q (q_move rfl) rfl ?_
          refine s_q (q_gtr rfl rfl) rfl ?_
          refine g_litb 64 (b := false) rfl (by first | exact decide_eq_false hz0 | decide) ?_
          refine g_nil ?_
          refine g_then ?_
          refine g_false rfl ?_
          refine g_skip ?_
          refine g_then ?_
          refine g_region ?_
          refine s_q (q_move rfl) rfl ?_
          refine s_q (q_move rfl) rfl ?_
          refine g_op (g_lit rfl rfl rfl rfl rfl fun b69 => ?_)
          refine g_blkc (b := b69) ((([(-1)] : List Int).map (fun v : Int => [Value.int .i64 v])).flatten) rfl ?_
          refine g_op (g_append (A := B) (els := (out).map (fun v : Int => [Value.int .i64 v])) (news := (([(-1)] : List Int).map (fun v : Int => [Value.int .i64 v]))) rfl rfl (InL.rdb (b := b69) rfl (by simp) rfl) (map_one (c := (fun v : Int => [Value.int .i64 v])) (by intro x; simp [Value.oneCell']) _) (by first | omega | (simp; omega) | (simp_all; omega)) rfl fun A70 cap70 => ⟨_, inferInstance, ?_⟩)
          refine g_rowels (A := A70) (((out ++ [(-1)])).map (fun v : Int => [Value.int .i64 v])) (by first | rfl | exact List.map_append.symm | (simp; done)) ?_
          refine s_q (q_assign rfl) rfl ?_
          refine g_nil ?_
          refine g_blk_n ?_
          refine g_then ?_
          refine g_region ?_
          refine s_q (q_inc rfl rfl (by omega)) rfl ?_
          refine s_q (q_move rfl) rfl ?_
          refine g_nil ?_
          refine g_rown (A := A70) ((out ++ [(-1)])).length (by simp) ?_
          refine g_val 7 (v' := .slice A70 ((out ++ [(-1)])).length cap70) rfl (by simp) ?_
          exact g_again ((i + 1), A70, cap70, (out ++ [(-1)]), (-1), b) (by (try dsimp only); exact ⟨(by first | exact lt_i | omega), (by rw [hs, fc_m lt_i hk0 hncov (by rw [← hnd]; omega)]; simp), (by simp; omega), (by first | omega | (simp; done)), (by omega), (by omega)⟩) (by first | omega | (simp only; omega)) (by repeat (first | exact trivial | refine ⟨rfl, ?_⟩)) wok_sub
        · have hl0 : ((lim : Nat) : Int) ≠ 0 := by have h9 := h4; simp [ceilB] at h9; omega
          refine s_qg (q_move rfl) rfl rfl rfl ?_
          refine s_qg (q_gtr rfl rfl) rfl rfl rfl ?_
          refine s_q (q_pick_f rfl rfl) rfl ?_
          refine s_q (q_move rfl) rfl ?_
          refine g_split 49 rfl (fun h5 => ?_) (fun h5 => ?_)
          · have hmm : 2147483648 < ((nd : Nat) : Int) := of_decide_eq_true h5
            refine g_gf rfl rfl rfl rfl ?_
            refine g_gf rfl rfl rfl rfl ?_
            refine g_gf rfl rfl rfl rfl ?_
            refine g_gf rfl rfl rfl rfl ?_
            refine g_gf rfl rfl rfl rfl ?_
            refine s_q (q_pick_t rfl rfl) rfl ?_
            refine g_nil ?_
            refine g_then ?_
            refine g_true rfl ?_
            refine g_region ?_
            refine s_q (q_assign rfl) rfl ?_
            refine g_nil ?_
            refine g_then ?_
            refine g_seq ?_
            refine g_seq ?_
            refine g_region ?_
            refine s_q (q_move rfl) rfl ?_
            refine s_q (q_gtr rfl rfl) rfl ?_
            refine g_litb 64 (b := false) rfl (by first | exact decide_eq_false hz0 | decide) ?_
            refine g_nil ?_
            refine g_then ?_
            refine g_false rfl ?_
            refine g_skip ?_
            refine g_then ?_
            refine g_region ?_
            refine s_q (q_move rfl) rfl ?_
            refine s_q (q_move rfl) rfl ?_
            refine g_op (g_lit rfl rfl rfl rfl rfl fun b69 => ?_)
            refine g_blkc (b := b69) ((([(-1)] : List Int).map (fun v : Int => [Value.int .i64 v])).flatten) rfl ?_
            refine g_op (g_append (A := B) (els := (out).map (fun v : Int => [Value.int .i64 v])) (news := (([(-1)] : List Int).map (fun v : Int => [Value.int .i64 v]))) rfl rfl (InL.rdb (b := b69) rfl (by simp) rfl) (map_one (c := (fun v : Int => [Value.int .i64 v])) (by intro x; simp [Value.oneCell']) _) (by first | omega | (simp; omega) | (simp_all; omega)) rfl fun A70 cap70 => ⟨_, inferInstance, ?_⟩)
            refine g_rowels (A := A70) (((out ++ [(-1)])).map (fun v : Int => [Value.int .i64 v])) (by first | rfl | exact List.map_append.symm | (simp; done)) ?_
            refine s_q (q_assign rfl) rfl ?_
            refine g_nil ?_
            refine g_blk_n ?_
            refine g_then ?_
            refine g_region ?_
            refine s_q (q_inc rfl rfl (by omega)) rfl ?_
            refine s_q (q_move rfl) rfl ?_
            refine g_nil ?_
            refine g_rown (A := A70) ((out ++ [(-1)])).length (by simp) ?_
            refine g_val 7 (v' := .slice A70 ((out ++ [(-1)])).length cap70) rfl (by simp) ?_
            exact g_again ((i + 1), A70, cap70, (out ++ [(-1)]), (-1), b) (by (try dsimp only); exact ⟨(by first | exact lt_i | omega), (by rw [hs, fc_m lt_i hk0 hncov (by rw [← hnd]; omega)]; simp), (by simp; omega), (by first | omega | (simp; done)), (by omega), (by omega)⟩) (by first | omega | (simp only; omega)) (by repeat (first | exact trivial | refine ⟨rfl, ?_⟩)) wok_sub
          · have hn31 : ((nd : Nat) : Int) ≤ 2147483648 := by have h9 := of_decide_eq_false h5; omega
            refine s_qg (q_move rfl) rfl rfl rfl ?_
            refine s_qg (q_move rfl) rfl rfl rfl ?_
            refine s_qg (q_convz (z := ((nd : Nat) : Int)) rfl (wi64 (by omega) (by omega))) rfl rfl rfl ?_
            refine s_qg (q_addz (z := k + ((nd : Nat) : Int)) rfl rfl (wi64 (by omega) (by omega))) rfl rfl rfl ?_
            refine s_qg (q_gtr rfl rfl) rfl rfl rfl ?_
            refine s_q (q_pick_f rfl rfl) rfl ?_
            refine g_nil ?_
            refine g_then ?_
            refine g_cond rfl (fun h6 => ?_) (fun h6 => ?_)
            · have hmm : 2147483648 < k + ((nd : Nat) : Int) := of_decide_eq_true h6
              refine g_region ?_
              refine s_q (q_assign rfl) rfl ?_
              refine g_nil ?_
              refine g_then ?_
              refine g_seq ?_
              refine g_seq ?_
              refine g_region ?_
              refine s_q (q_move rfl) rfl ?_
              refine s_q (q_gtr rfl rfl) rfl ?_
              refine g_litb 64 (b := false) rfl (by first | exact decide_eq_false hz0 | decide) ?_
              refine g_nil ?_
              refine g_then ?_
              refine g_false rfl ?_
              refine g_skip ?_
              refine g_then ?_
              refine g_region ?_
              refine s_q (q_move rfl) rfl ?_
              refine s_q (q_move rfl) rfl ?_
              refine g_op (g_lit rfl rfl rfl rfl rfl fun b69 => ?_)
              refine g_blkc (b := b69) ((([(-1)] : List Int).map (fun v : Int => [Value.int .i64 v])).flatten) rfl ?_
              refine g_op (g_append (A := B) (els := (out).map (fun v : Int => [Value.int .i64 v])) (news := (([(-1)] : List Int).map (fun v : Int => [Value.int .i64 v]))) rfl rfl (InL.rdb (b := b69) rfl (by simp) rfl) (map_one (c := (fun v : Int => [Value.int .i64 v])) (by intro x; simp [Value.oneCell']) _) (by first | omega | (simp; omega) | (simp_all; omega)) rfl fun A70 cap70 => ⟨_, inferInstance, ?_⟩)
              refine g_rowels (A := A70) (((out ++ [(-1)])).map (fun v : Int => [Value.int .i64 v])) (by first | rfl | exact List.map_append.symm | (simp; done)) ?_
              refine s_q (q_assign rfl) rfl ?_
              refine g_nil ?_
              refine g_blk_n ?_
              refine g_then ?_
              refine g_region ?_
              refine s_q (q_inc rfl rfl (by omega)) rfl ?_
              refine s_q (q_move rfl) rfl ?_
              refine g_nil ?_
              refine g_rown (A := A70) ((out ++ [(-1)])).length (by simp) ?_
              refine g_val 7 (v' := .slice A70 ((out ++ [(-1)])).length cap70) rfl (by simp) ?_
              exact g_again ((i + 1), A70, cap70, (out ++ [(-1)]), (-1), b) (by (try dsimp only); exact ⟨(by first | exact lt_i | omega), (by rw [hs, fc_m lt_i hk0 hncov (by rw [← hnd]; omega)]; simp), (by simp; omega), (by first | omega | (simp; done)), (by omega), (by omega)⟩) (by first | omega | (simp only; omega)) (by repeat (first | exact trivial | refine ⟨rfl, ?_⟩)) wok_sub
            · have hnk : k + ((nd : Nat) : Int) ≤ 2147483648 := by have h9 := of_decide_eq_false h6; omega
              have hm : ((lim * nd : Nat) : Int) ≤ ((18446744073709551616 * nd : Nat) : Int) := by have h9 := Nat.mul_le_mul_right nd (Nat.le_of_lt hl2); omega
              rw [Int.natCast_mul, Int.natCast_mul] at hm
              have hm0 : 0 ≤ ((lim : Nat) : Int) * ((nd : Nat) : Int) := Int.mul_nonneg (by omega) (by omega)
              have hcm : l[i] - b ≤ ((lim : Nat) : Int) * ((nd : Nat) : Int) := by have h9 := ceil_mul (a := l[i] - b) (d := ((lim : Nat) : Int)) (by omega) (by omega); rw [← hnd, Int.mul_comm] at h9; exact h9
              refine g_seq ?_
              refine g_region ?_
              refine s_q (q_move rfl) rfl ?_
              refine s_q (q_move rfl) rfl ?_
              refine s_q (q_convz (z := ((nd : Nat) : Int)) rfl (wi64 (by omega) (by omega))) rfl ?_
              refine s_q (q_addz (z := k + ((nd : Nat) : Int)) rfl rfl (wi64 (by omega) (by omega))) rfl ?_
              refine s_q (q_assign rfl) rfl ?_
              refine g_nil ?_
              refine g_then ?_
              refine g_region ?_
              refine s_q (q_move rfl) rfl ?_
              refine s_q (q_move rfl) rfl ?_
              refine g_op (g_ownS [Res.blk b9 89 (Wd b)] rfl (fun w1 hw1 ho1 => by have h7 := wtimes_any b9 b lim nd w1 ho1 (by omega) (by omega) (by omega) (by rw [Int.natCast_mul]; omega); exact h7) rfl ?_)
              rintro ⟨⟩ _
              refine ⟨_, _, inferInstance, inferInstance, ?_⟩
              refine g_nil ?_
              refine g_then ?_
              refine g_seq ?_
              refine g_seq ?_
              refine g_region ?_
              refine s_q (q_move rfl) rfl ?_
              refine s_q (q_gtr rfl rfl) rfl ?_
              refine g_litb 64 (b := true) rfl (by first | exact decide_eq_true hk0 | exact decide_eq_true (by omega)) ?_
              refine g_nil ?_
              refine g_then ?_
              refine g_true rfl ?_
              refine g_region ?_
              refine s_q (q_move rfl) rfl ?_
              refine g_op (g_ownS [Res.blk b9 89 (Wd (b + (((lim : Nat) : Int)) * (((nd : Nat) : Int))))] rfl (fun w1 hw1 ho1 => by have h7 := wsub_any b9 (b + (((lim : Nat) : Int)) * (((nd : Nat) : Int))) (l[i]) w1 ho1 (by omega) (by omega) (by omega); exact h7) rfl ?_)
              rintro ⟨⟩ _
              refine ⟨_, _, inferInstance, inferInstance, ?_⟩
              refine g_nil ?_
              refine g_then ?_
              refine g_region ?_
              refine s_q (q_move rfl) rfl ?_
              refine s_q (q_move rfl) rfl ?_
              refine g_op (g_lit rfl rfl rfl rfl rfl fun b69 => ?_)
              refine g_blkc (b := b69) ((([(k + ((nd : Nat) : Int))] : List Int).map (fun v : Int => [Value.int .i64 v])).flatten) rfl ?_
              refine g_op (g_append (A := B) (els := (out).map (fun v : Int => [Value.int .i64 v])) (news := (([(k + ((nd : Nat) : Int))] : List Int).map (fun v : Int => [Value.int .i64 v]))) rfl rfl (InL.rdb (b := b69) rfl (by simp) rfl) (map_one (c := (fun v : Int => [Value.int .i64 v])) (by intro x; simp [Value.oneCell']) _) (by first | omega | (simp; omega) | (simp_all; omega)) rfl fun A70 cap70 => ⟨_, inferInstance, ?_⟩)
              refine g_rowels (A := A70) (((out ++ [(k + ((nd : Nat) : Int))])).map (fun v : Int => [Value.int .i64 v])) (by first | rfl | exact List.map_append.symm | (simp; done)) ?_
              refine s_q (q_assign rfl) rfl ?_
              refine g_nil ?_
              refine g_blk_n ?_
              refine g_then ?_
              refine g_region ?_
              refine s_q (q_inc rfl rfl (by omega)) rfl ?_
              refine s_q (q_move rfl) rfl ?_
              refine g_nil ?_
              refine g_rown (A := A70) ((out ++ [(k + ((nd : Nat) : Int))])).length (by simp) ?_
              refine g_val 7 (v' := .slice A70 ((out ++ [(k + ((nd : Nat) : Int))])).length cap70) rfl (by simp) ?_
              exact g_again ((i + 1), A70, cap70, (out ++ [(k + ((nd : Nat) : Int))]), (k + ((nd : Nat) : Int)), (b + ((lim : Nat) : Int) * ((nd : Nat) : Int) - l[i])) (by (try dsimp only); exact ⟨(by first | exact lt_i | omega), (by rw [hs, fc_a lt_i hk0 hncov hnd (by omega) (by omega) (by omega)]; simp), (by simp; omega), (by first | omega | (simp; done)), (by omega), (by omega)⟩) (by first | omega | (simp only; omega)) (by repeat (first | exact trivial | refine ⟨rfl, ?_⟩)) wok_sub
      · have hcov : l[i] ≤ b := by simpa using h3
        refine g_skip ?_
        refine g_then ?_
        refine g_seq ?_
        refine g_seq ?_
        refine g_region ?_
        refine s_q (q_move rfl) rfl ?_
        refine s_q (q_gtr rfl rfl) rfl ?_
        refine g_litb 64 (b := true) rfl (by first | exact decide_eq_true hk0 | exact decide_eq_true (by omega)) ?_
        refine g_nil ?_
        refine g_then ?_
        refine g_true rfl ?_
        refine g_region ?_
        refine s_q (q_move rfl) rfl ?_
        refine g_op (g_ownS [Res.blk b9 89 (Wd b)] rfl (fun w1 hw1 ho1 => by have h7 := wsub_any b9 b (l[i]) w1 ho1 (by omega) (by omega) (by omega); exact h7) rfl ?_)
        rintro ⟨⟩ _
        refine ⟨_, _, inferInstance, inferInstance, ?_⟩
        refine g_nil ?_
        refine g_then ?_
        refine g_region ?_
        refine s_q (q_move rfl) rfl ?_
        refine s_q (q_move rfl) rfl ?_
        refine g_op (g_lit rfl rfl rfl rfl rfl fun b69 => ?_)
        refine g_blkc (b := b69) ((([k] : List Int).map (fun v : Int => [Value.int .i64 v])).flatten) rfl ?_
        refine g_op (g_append (A := B) (els := (out).map (fun v : Int => [Value.int .i64 v])) (news := (([k] : List Int).map (fun v : Int => [Value.int .i64 v]))) rfl rfl (InL.rdb (b := b69) rfl (by simp) rfl) (map_one (c := (fun v : Int => [Value.int .i64 v])) (by intro x; simp [Value.oneCell']) _) (by first | omega | (simp; omega) | (simp_all; omega)) rfl fun A70 cap70 => ⟨_, inferInstance, ?_⟩)
        refine g_rowels (A := A70) (((out ++ [k])).map (fun v : Int => [Value.int .i64 v])) (by first | rfl | exact List.map_append.symm | (simp; done)) ?_
        refine s_q (q_assign rfl) rfl ?_
        refine g_nil ?_
        refine g_blk_n ?_
        refine g_then ?_
        refine g_region ?_
        refine s_q (q_inc rfl rfl (by omega)) rfl ?_
        refine s_q (q_move rfl) rfl ?_
        refine g_nil ?_
        refine g_rown (A := A70) ((out ++ [k])).length (by simp) ?_
        refine g_val 7 (v' := .slice A70 ((out ++ [k])).length cap70) rfl (by simp) ?_
        exact g_again ((i + 1), A70, cap70, (out ++ [k]), k, (b - l[i])) (by (try dsimp only); exact ⟨(by first | exact lt_i | omega), (by rw [hs, fc_c lt_i hk0 hcov]; simp), (by simp; omega), (by first | omega | (simp; done)), (by omega), (by omega)⟩) (by first | omega | (simp only; omega)) (by repeat (first | exact trivial | refine ⟨rfl, ?_⟩)) wok_sub
    · have hz0 : ¬ 0 < k := of_decide_eq_false h2
      refine g_gf rfl rfl rfl rfl ?_
      refine g_gf rfl rfl rfl rfl ?_
      refine g_gf rfl rfl rfl rfl ?_
      refine s_q (q_pick_f rfl rfl) rfl ?_
      refine g_nil ?_
      refine g_then ?_
      refine g_false rfl ?_
      refine g_skip ?_
      refine g_then ?_
      refine g_seq ?_
      refine g_seq ?_
      refine g_region ?_
      refine s_q (q_move rfl) rfl ?_
      refine s_q (q_gtr rfl rfl) rfl ?_
      refine g_litb 64 (b := false) rfl (by first | exact decide_eq_false hz0 | decide) ?_
      refine g_nil ?_
      refine g_then ?_
      refine g_false rfl ?_
      refine g_skip ?_
      refine g_then ?_
      refine g_region ?_
      refine s_q (q_move rfl) rfl ?_
      refine s_q (q_move rfl) rfl ?_
      refine g_op (g_lit rfl rfl rfl rfl rfl fun b69 => ?_)
      refine g_blkc (b := b69) ((([k] : List Int).map (fun v : Int => [Value.int .i64 v])).flatten) rfl ?_
      refine g_op (g_append (A := B) (els := (out).map (fun v : Int => [Value.int .i64 v])) (news := (([k] : List Int).map (fun v : Int => [Value.int .i64 v]))) rfl rfl (InL.rdb (b := b69) rfl (by simp) rfl) (map_one (c := (fun v : Int => [Value.int .i64 v])) (by intro x; simp [Value.oneCell']) _) (by first | omega | (simp; omega) | (simp_all; omega)) rfl fun A70 cap70 => ⟨_, inferInstance, ?_⟩)
      refine g_rowels (A := A70) (((out ++ [k])).map (fun v : Int => [Value.int .i64 v])) (by first | rfl | exact List.map_append.symm | (simp; done)) ?_
      refine s_q (q_assign rfl) rfl ?_
      refine g_nil ?_
      refine g_blk_n ?_
      refine g_then ?_
      refine g_region ?_
      refine s_q (q_inc rfl rfl (by omega)) rfl ?_
      refine s_q (q_move rfl) rfl ?_
      refine g_nil ?_
      refine g_rown (A := A70) ((out ++ [k])).length (by simp) ?_
      refine g_val 7 (v' := .slice A70 ((out ++ [k])).length cap70) rfl (by simp) ?_
      exact g_again ((i + 1), A70, cap70, (out ++ [k]), k, b) (by (try dsimp only); exact ⟨(by first | exact lt_i | omega), (by rw [hs, fc_z lt_i hz0]; simp), (by simp; omega), (by first | omega | (simp; done)), (by omega), (by omega)⟩) (by first | omega | (simp only; omega)) (by repeat (first | exact trivial | refine ⟨rfl, ?_⟩)) wok_sub
  · have eq_i : i = n := by have h9 := of_decide_eq_false h1; omega
    refine g_exit ?_
    refine g_then_x (g_then_x (g_blk_hit ?_))
    refine g_then ?_
    refine g_seq ?_
    refine g_region ?_
    refine s_q (q_move rfl) rfl ?_
    refine s_q (q_assign rfl) rfl ?_
    refine g_nil ?_
    refine g_then ?_
    refine g_ret ?_
    have hR : (fcV ((bal : Nat) : Int) ((lim : Nat) : Int) l) = out := by rw [hs, eq_i, hn, List.drop_length]; simp [fcF]
    exact fin1 rfl (.tmp rfl) (fun w' hw' => ⟨(B, bc), (by first | exact trivial | (dsimp only; exact trivial)), by rw [hR], by have h9 := wok_sub (L' := [Res.row B (out).length bc 3 1 ((out).map (fun v : Int => [Value.int .i64 v]))]) w' hw'; show WOK _ _ [Res.row ((B, bc)).1 (fcV ((bal : Nat) : Int) ((lim : Nat) : Int) l).length ((B, bc)).2 3 1 ((fcV ((bal : Nat) : Int) ((lim : Nat) : Int) l).map (fun v : Int => [Value.int .i64 v]))] _; rw [hR]; exact h9⟩) _ (.inl rfl)
end Go.Proofs.Ytmolaicpbaiioaa
