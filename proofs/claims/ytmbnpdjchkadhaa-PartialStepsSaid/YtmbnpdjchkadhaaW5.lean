/- walks of requests and the reference Step -/
import Derived.Test.YtmbnpdjchkadhaaW4
namespace Go.Proofs.Ytmbnpdjchkadhaa
open Go.RowKit Go.Eg
set_option synthInstance.maxSize 3000
set_option linter.unusedSimpArgs false
set_option linter.unusedVariables false
set_option maxHeartbeats 400000 in
theorem requests_any (A : Option Addr) (n cap : Nat) (l : List R) (w : World) (hl : Rd w [] A n 2 (l.map R.c)) (hb : n ≤ 1000000) : Own2 (ι := (Option Addr × Nat)) Try.prog 17 [.slice A n cap] w [] (fun x => True) (fun x => .slice x.1 l.length x.2) (fun x => [Res.row x.1 l.length x.2 41 2 (l.map R.c)]) (fun x => []) := by
  refine g_start Try.func17 rfl 18 rfl (by simp) (fps []) [] (WOK.start _ _) _ rfl ?_
  have hln : n = l.length := by have := hl.old.len; simpa using this
  refine g_seq ?_
  refine g_region ?_
  refine s_q (q_assign rfl) rfl ?_
  refine g_nil ?_
  refine g_then ?_
  refine g_seq ?_
  refine g_region ?_
  refine s_q (q_assign rfl) rfl ?_
  refine g_nilrow 3 41 2 rfl fun Az1 capz1 hcz1 => ?_
  refine g_rowels (A := Az1) (([] : List R).map R.c) rfl ?_
  refine g_nil ?_
  refine g_then ?_
  refine g_seq ?_
  refine g_seq ?_
  refine g_region ?_
  refine s_q (q_move rfl) rfl ?_
  refine s_q (q_len rfl) rfl ?_
  refine s_q (q_move rfl) rfl ?_
  refine g_nil ?_
  refine g_then ?_
  refine g_block ?_
  refine g_rowels (A := Az1) ((l.take 0).map R.c) (by simp) ?_
  refine g_loopk [2, 6, 7] (fun (x : Nat × Option Addr × Nat) => [(3, .slice x.2.1 x.1 x.2.2), (8, .int .i64 ((x.1 : Nat) : Int))]) (fun (x : Nat × Option Addr × Nat) => [Res.row x.2.1 x.1 x.2.2 41 2 ((l.take x.1).map R.c)]) (fun (x : Nat × Option Addr × Nat) => x.1 ≤ l.length) (fun (x : Nat × Option Addr × Nat) => l.length - x.1) (0, Az1, capz1) (by (try dsimp only); exact Nat.zero_le _) rfl (by repeat (first | exact trivial | refine ⟨rfl, ?_⟩)) wok_sub ?_
  rintro ⟨k, A1, cap1⟩ le_k
  replace le_k : k ≤ l.length := le_k
  refine g_setL (L' := [Res.row A1 k cap1 41 2 ((l.take k).map R.c)]) rfl ?_
  refine g_val 3 (v' := .slice A1 k cap1) rfl rfl ?_
  refine g_val 8 (v' := .int .i64 ((k : Nat) : Int)) rfl rfl ?_
  refine g_seq ?_
  refine g_region ?_
  refine s_q (q_lss rfl rfl) rfl ?_
  refine g_nil ?_
  refine g_then ?_
  refine g_seq ?_
  refine g_cond rfl (fun h1 => ?_) (fun h1 => ?_)
  · have lt_k : k < l.length := by have h9 := of_decide_eq_true h1; omega
    refine g_skip ?_
    refine g_then ?_
    refine g_seq ?_
    refine g_block ?_
    refine g_seq ?_
    refine g_region ?_
    refine s_q (q_index (i := k) rfl rfl rfl hl.rdb (by first | exact lt_k | omega)) rfl ?_
    refine s_q (q_load_ew (i := k) rfl hl.rdb (map_get (by first | exact (by first | exact lt_k | omega) | omega | (simp_all; done) | (simp_all; omega))) rfl) rfl ?_
    refine g_op (g_alloc rfl fun b5 => ?_)
    refine g_op (g_storew rfl rfl rfl rfl rfl ?_)
    refine g_nil ?_
    refine g_then ?_
    refine g_region ?_
    refine s_q (q_move rfl) rfl ?_
    refine s_q (q_loadw rfl rfl) rfl ?_
    refine g_op (g_lit rfl rfl rfl rfl rfl fun b14 => ?_)
    refine g_blkc (b := b14) ((([l[k]] : List R).map R.c).flatten) rfl ?_
    refine g_op (g_append (A := A1) (els := ((l.take k)).map R.c) (news := (([l[k]] : List R).map R.c)) rfl rfl (InL.rdb (b := b14) rfl (by simp [R.c]) rfl) (map_one (c := R.c) (by intro x; simp [R.c, Value.oneCell']) _) (by first | omega | (simp; omega) | (simp_all; omega)) rfl fun A15 cap15 => ⟨_, inferInstance, ?_⟩)
    refine g_rowels (A := A15) ((((l.take k) ++ [l[k]])).map R.c) (by first | rfl | exact List.map_append.symm | (simp; done)) ?_
    refine s_q (q_assign rfl) rfl ?_
    refine g_nil ?_
    refine g_blk_n ?_
    refine g_then ?_
    refine g_region ?_
    refine s_q (q_inc rfl rfl (by omega)) rfl ?_
    refine s_q (q_move rfl) rfl ?_
    refine g_nil ?_
    refine g_rowels (A := A15) ((l.take (k + 1)).map R.c) (by rw [← List.take_append_getElem lt_k]) ?_
    exact g_again ((k + 1), A15, cap15) (by (try dsimp only); exact (by first | exact lt_k | omega)) (by first | omega | (simp only; omega)) (by repeat (first | exact trivial | refine ⟨rfl, ?_⟩)) wok_sub
  · have eq_k : k = l.length := by have h9 := of_decide_eq_false h1; omega
    subst eq_k
    refine g_exit ?_
    refine g_then_x (g_then_x (g_blk_hit ?_))
    refine g_then ?_
    refine g_seq ?_
    refine g_region ?_
    refine s_q (q_move rfl) rfl ?_
    refine s_q (q_assign rfl) rfl ?_
    refine g_nil ?_
    refine g_then ?_
    refine g_ret ?_
    refine g_rowels (A := A1) (l.map R.c) (by simp) ?_
    exact fin1 rfl (.tmp rfl) (fun w' hw' => ⟨(A1, cap1), (by first | exact trivial | (dsimp only; exact trivial)), rfl, by have h9 := wok_sub (L' := [Res.row A1 l.length cap1 41 2 (l.map R.c)]) w' hw'; exact h9⟩) _ (.inl rfl)

theorem avail_nonneg (x : V) (c : C) : 0 ≤ avail x c := by
  unfold avail
  split
  · omega
  · split
    · omega
    · rw [IntKind.wrap_u64]; omega
theorem pos_add {l : List Y} {y : Y} : pos (l ++ [y]) = pos l ++ (if y.a = 0 then [] else [y]) := by
  unfold pos
  rw [List.filter_append]
  by_cases h : y.a = 0 <;> simp [h]

set_option maxHeartbeats 400000 in
theorem rstep_any (A B : Option Addr) (n cap capq P : Nat) (l : List V) (q : List R) (c : C) (w : World) (hl : Rd w [] A n 7 (l.map V.c)) (hq : Rd w [] B q.length 2 (q.map R.c)) (hcq : q.length ≤ capq) (hb : n ≤ 1000000) (hbq : q.length ≤ 1000000) (hP : c.parts = ((P : Nat) : Int)) (hok : ∀ x ∈ q, x.ok) : Own2 (ι := (Option Addr × Nat × Option Addr × Nat)) Try.prog 18 [.slice A n cap, .slice B q.length capq, c.v] w [] (fun x => True) (fun x => .tuple [.slice x.1 l.length x.2.1, .slice x.2.2.1 (pos (run c l (q.take (min q.length P))).2).length x.2.2.2, .int .i64 (((min q.length P) : Nat) : Int)].toArray) (fun x => [Res.row x.1 l.length x.2.1 24 7 ((run c l (q.take (min q.length P))).1.map V.c), Res.row x.2.2.1 (pos (run c l (q.take (min q.length P))).2).length x.2.2.2 51 3 ((pos (run c l (q.take (min q.length P))).2).map Y.c)]) (fun x => []) := by
  refine g_start Try.func18 rfl 80 rfl (by simp) (fps []) [] (WOK.start _ _) _ rfl ?_
  have hln : n = l.length := by have := hl.old.len; simpa using this
  refine g_seq ?_
  refine g_region ?_
  refine g_op (g_box rfl rfl rfl fun b5 => ?_)
  refine s_q (q_assign rfl) rfl ?_
  refine s_q (q_assign rfl) rfl ?_
  refine s_q (q_assign rfl) rfl ?_
  refine g_nil ?_
  refine g_then ?_
  refine g_seq ?_
  refine g_region ?_
  refine g_op (g_lit rfl rfl rfl rfl rfl fun b16 => ?_)
  refine g_norow (t := 16) (T := 24) (k := 7) rfl fun A16 cap16 hc16 => ?_
  refine g_rowels (A := A16) (([] : List V).map V.c) rfl ?_
  refine s_q (q_move rfl) rfl ?_
  refine g_op (g_append (A := A16) (els := (([] : List V)).map V.c) (news := ((l).map V.c)) rfl rfl hl.rdb (map_one (c := V.c) (by intro x; simp [V.c, Value.oneCell']) _) (by first | omega | (simp; omega) | (simp_all; omega)) rfl fun A18 cap18 => ⟨_, inferInstance, ?_⟩)
  refine g_rowels (A := A18) ((l).map V.c) (by first | rfl | exact List.map_append.symm | (simp; done)) ?_
  refine g_rown (A := A18) (n) (by simp) ?_
  refine g_val 18 (v' := .slice A18 (n) cap18) rfl (by simp) ?_
  refine s_q (q_assign rfl) rfl ?_
  refine g_nil ?_
  refine g_then ?_
  refine g_seq ?_
  refine g_region ?_
  refine s_q (q_assign rfl) rfl ?_
  refine g_nilrow 10 51 3 rfl fun Az1 capz1 hcz1 => ?_
  refine g_rowels (A := Az1) (([] : List Y).map Y.c) rfl ?_
  refine g_nil ?_
  refine g_then ?_
  refine g_seq ?_
  refine g_region ?_
  refine s_q (q_assign rfl) rfl ?_
  refine g_nil ?_
  refine g_then ?_
  refine g_seq ?_
  refine g_seq ?_
  refine g_region ?_
  refine s_q (q_assign rfl) rfl ?_
  refine g_nil ?_
  refine g_then ?_
  refine g_block ?_
  refine g_rowels (A := A18) ((run c l (q.take 0)).1.map V.c) (by simp [run]) ?_
  refine g_rown (A := A18) l.length (by first | rfl | omega | (simp; omega)) ?_
  refine g_val 9 (v' := .slice A18 l.length cap18) rfl (by first | rfl | rw [hln] | (simp; omega)) ?_
  refine g_rowels (A := Az1) ((pos (run c l (q.take 0)).2).map Y.c) (by simp [run, pos]) ?_
  refine g_val 10 (v' := .slice Az1 (pos (run c l (q.take 0)).2).length capz1) rfl (by simp [run, pos]) ?_
  refine g_rown (A := Az1) (pos (run c l (q.take 0)).2).length (by simp [run, pos]) ?_
  refine g_loopk [1, 5, 6, 7, 8] (fun (x : Nat × Option Addr × Nat × Option Addr × Nat) => [(9, .slice x.2.1 l.length x.2.2.1), (10, .slice x.2.2.2.1 (pos (run c l (q.take x.1)).2).length x.2.2.2.2), (11, .int .i64 ((x.1 : Nat) : Int)), (12, .int .i64 ((x.1 : Nat) : Int))]) (fun (x : Nat × Option Addr × Nat × Option Addr × Nat) => [Res.blk b5 26 c.c, Res.row x.2.1 l.length x.2.2.1 24 7 (((run c l (q.take x.1)).1).map V.c), Res.row x.2.2.2.1 (pos (run c l (q.take x.1)).2).length x.2.2.2.2 51 3 ((pos (run c l (q.take x.1)).2).map Y.c)]) (fun (x : Nat × Option Addr × Nat × Option Addr × Nat) => x.1 ≤ (min q.length P)) (fun (x : Nat × Option Addr × Nat × Option Addr × Nat) => (min q.length P) - x.1) (0, A18, cap18, Az1, capz1) (by (try dsimp only); exact (by omega)) rfl (by repeat (first | exact trivial | refine ⟨rfl, ?_⟩)) wok_sub ?_
  rintro ⟨k, A1, cap1, B1, capb⟩ le_k
  replace le_k : k ≤ (min q.length P) := le_k
  refine g_setL (L' := [Res.blk b5 26 c.c, Res.row A1 l.length cap1 24 7 (((run c l (q.take k)).1).map V.c), Res.row B1 (pos (run c l (q.take k)).2).length capb 51 3 ((pos (run c l (q.take k)).2).map Y.c)]) rfl ?_
  refine g_val 9 (v' := .slice A1 l.length cap1) rfl rfl ?_
  refine g_val 10 (v' := .slice B1 (pos (run c l (q.take k)).2).length capb) rfl rfl ?_
  refine g_val 11 (v' := .int .i64 ((k : Nat) : Int)) rfl rfl ?_
  refine g_val 12 (v' := .int .i64 ((k : Nat) : Int)) rfl rfl ?_
  have hpl := pos_le (run c l (q.take k)).2
  have hr1 := runp_len c l (q.take k)
  have hr2 : (q.take k).length ≤ k := List.length_take_le _ _
  have hr4 := run_len c l (q.take k)
  refine g_seq ?_
  refine g_seq ?_
  refine g_region ?_
  refine s_q (q_move rfl) rfl ?_
  refine s_q (q_move rfl) rfl ?_
  refine s_q (q_len rfl) rfl ?_
  refine s_q (q_lss rfl rfl) rfl ?_
  refine s_q (q_move rfl) rfl ?_
  refine g_split 23 rfl (fun h1 => ?_) (fun h1 => ?_)
  · refine s_qg (q_move rfl) rfl rfl rfl ?_
    refine s_qg (q_field rfl) rfl rfl rfl ?_
    refine s_qg (q_load rfl rfl) rfl rfl rfl ?_
    refine s_qg (q_lss rfl rfl) rfl rfl rfl ?_
    refine s_q (q_pick_t rfl rfl) rfl ?_
    refine g_nil ?_
    refine g_then ?_
    refine g_cond rfl (fun h2 => ?_) (fun h2 => ?_)
    · have lt_q : k < q.length := by simp at h1; omega
      have lt_M : k < (min q.length P) := by simp [hP] at h2; omega
      refine g_skip ?_
      refine g_then ?_
      refine g_seq ?_
      refine g_block ?_
      refine g_seq ?_
      refine g_region ?_
      refine s_q (q_move rfl) rfl ?_
      refine s_q (q_inc rfl rfl (by omega)) rfl ?_
      refine s_q (q_assign rfl) rfl ?_
      refine g_nil ?_
      refine g_then ?_
      refine g_seq ?_
      refine g_region ?_
      refine s_q (q_move rfl) rfl ?_
      refine s_q (q_move rfl) rfl ?_
      refine s_q (q_index (i := k) rfl rfl rfl hq.rdb (by first | omega | (simp; done) | (simp; omega))) rfl ?_
      refine s_q (q_load_ew (i := k) rfl hq.rdb (map_get (by first | exact (by first | omega | (simp; done) | (simp; omega)) | omega | (simp_all; done) | (simp_all; omega))) rfl) rfl ?_
      refine g_op (g_alloc rfl fun b13 => ?_)
      refine g_op (g_storew rfl rfl rfl rfl rfl ?_)
      refine g_nil ?_
      refine g_then ?_
      refine g_seq ?_
      refine g_seq ?_
      refine g_region ?_
      refine s_q (q_field rfl) rfl ?_
      refine s_q (q_load rfl rfl) rfl ?_
      refine s_q (q_lss rfl rfl) rfl ?_
      refine s_q (q_move rfl) rfl ?_
      refine g_split 40 rfl (fun h3 => ?_) (fun h3 => ?_)
      · have hno : ¬ inB (run c l (q.take k)).1 (q[k]) := fun h => by simp at h3; exact absurd h.1 (by omega)
        refine g_gf rfl rfl rfl rfl ?_
        refine g_gf rfl rfl rfl rfl ?_
        refine g_gf rfl rfl rfl rfl ?_
        refine g_gf rfl rfl rfl rfl ?_
        refine g_gf rfl rfl rfl rfl ?_
        refine s_q (q_pick_t rfl rfl) rfl ?_
        refine g_nil ?_
        refine g_then ?_
        refine g_true rfl ?_
        refine g_exit ?_
        refine g_then_x (g_blk_hit ?_)
        refine g_then ?_
        refine g_region ?_
        refine s_q (q_move rfl) rfl ?_
        refine s_q (q_inc rfl rfl (by omega)) rfl ?_
        refine s_q (q_assign rfl) rfl ?_
        refine g_nil ?_
        have e1 : (run c l (q.take k)).1 = (run c l (q.take (k + 1))).1 := by rw [run_o lt_q, payO_out hno]
        have e2 : (run c l (q.take k)).2 = (run c l (q.take (k + 1))).2 := by rw [run_p lt_q, payP_out hno]
        rw [e1, e2]
        exact g_again ((k + 1), A1, cap1, B1, capb) (by (try dsimp only); exact (by omega)) (by first | omega | (simp only; omega)) (by repeat (first | exact trivial | refine ⟨rfl, ?_⟩)) wok_sub
      · refine s_qg (q_field rfl) rfl rfl rfl ?_
        refine s_qg (q_load rfl rfl) rfl rfl rfl ?_
        refine s_qg (q_move rfl) rfl rfl rfl ?_
        refine s_qg (q_len rfl) rfl rfl rfl ?_
        refine s_qg (q_geq rfl rfl) rfl rfl rfl ?_
        refine s_q (q_pick_f rfl rfl) rfl ?_
        refine g_nil ?_
        refine g_then ?_
        refine g_cond rfl (fun h4 => ?_) (fun h4 => ?_)
        · have hno : ¬ inB (run c l (q.take k)).1 (q[k]) := fun h => by simp at h4; exact absurd h.2 (by rw [hr4]; omega)
          refine g_exit ?_
          refine g_then_x (g_blk_hit ?_)
          refine g_then ?_
          refine g_region ?_
          refine s_q (q_move rfl) rfl ?_
          refine s_q (q_inc rfl rfl (by omega)) rfl ?_
          refine s_q (q_assign rfl) rfl ?_
          refine g_nil ?_
          have e1 : (run c l (q.take k)).1 = (run c l (q.take (k + 1))).1 := by rw [run_o lt_q, payO_out hno]
          have e2 : (run c l (q.take k)).2 = (run c l (q.take (k + 1))).2 := by rw [run_p lt_q, payP_out hno]
          rw [e1, e2]
          exact g_again ((k + 1), A1, cap1, B1, capb) (by (try dsimp only); exact (by omega)) (by first | omega | (simp only; omega)) (by repeat (first | exact trivial | refine ⟨rfl, ?_⟩)) wok_sub
        · obtain ⟨ix, hix⟩ : ∃ ix : Nat, (q[k]).i = ix := ⟨(q[k]).i.toNat, by simp at h3; omega⟩
          have hx : ix < (run c l (q.take k)).1.length := by rw [hr4]; simp at h4; omega
          have hx1 : ix < l.length := by omega
          refine g_skip ?_
          refine g_then ?_
          refine g_seq ?_
          refine g_region ?_
          refine s_q (q_move rfl) rfl ?_
          refine s_q (q_field rfl) rfl ?_
          refine s_q (q_load rfl rfl) rfl ?_
          refine g_val 49 (v' := .int .i64 ((ix : Nat) : Int)) rfl (by rw [hix]) ?_
          refine s_q (q_index (i := ix) rfl rfl rfl (InRow.rdb (A := A1) (els := ((run c l (q.take k)).1).map V.c) (by simp [run_len]) (map_cat (c := V.c) (fun _ => rfl) _)) (by first | omega | (simp; done) | (simp; omega))) rfl ?_
          refine s_q (q_load_ew (i := ix) rfl (InRow.rdb (A := A1) (els := ((run c l (q.take k)).1).map V.c) (by simp [run_len]) (map_cat (c := V.c) (fun _ => rfl) _)) (map_get (by first | assumption | omega | (simp_all; done) | (simp_all; omega))) rfl) rfl ?_
          refine g_op (g_alloc rfl fun b14 => ?_)
          refine g_op (g_storew rfl rfl rfl rfl rfl ?_)
          refine g_nil ?_
          refine g_then ?_
          refine g_seq ?_
          refine d_region [] mixed rfl rfl ?_
          refine d_q 0 rfl (by kernel_rfl) (q_field rfl) wok_sub rfl (ls' := #[true, false, false, false, false, false, false]) rfl ?_
          refine d_q 1 rfl (by kernel_rfl) (q_load rfl rfl) wok_sub rfl (ls' := #[true, true, false, false, false, false, false]) rfl ?_
          refine d_q 2 rfl (by kernel_rfl) (q_loadw rfl rfl) wok_sub rfl (ls' := #[true, true, true, false, false, false, false]) rfl ?_
          refine d_q 3 rfl (by kernel_rfl) (q_loadw rfl rfl) wok_sub rfl (ls' := #[true, true, true, true, false, false, false]) rfl ?_
          refine d_op 4 rfl (by kernel_rfl) (ls' := #[true, true, true, true, true, false, false]) rfl wok_sub (g_pure rfl (fun w hw => ravail_any _ _ w) rfl ?_)
          refine d_q 5 rfl (by kernel_rfl) (q_min rfl rfl) wok_sub rfl (ls' := #[true, true, true, true, true, true, false]) rfl ?_
          refine d_q 6 rfl (by kernel_rfl) (q_assign rfl) wok_sub rfl (ls' := #[true, true, true, true, true, true, true]) rfl ?_
          refine d_end (by kernel_rfl) (.inr wok_sub) ?_
          refine g_then ?_
          refine g_seq ?_
          refine g_region ?_
          refine s_q (q_field rfl) rfl ?_
          refine s_q (q_load rfl rfl) rfl ?_
          refine s_q (q_move rfl) rfl ?_
          refine s_q (q_sub rfl rfl) rfl ?_
          refine s_q (q_field rfl) rfl ?_
          refine g_op (g_store rfl rfl rfl rfl rfl rfl rfl ?_)
          refine g_blkc (b := b14) (V.c (apV ((run c l (q.take k)).1)[ix] ((q[k]).m) c)) (by simp [apV, avail_eq, splice, V.c]) ?_
          refine g_nil ?_
          refine g_then ?_
          refine g_seq ?_
          refine g_region ?_
          refine s_q (q_move rfl) rfl ?_
          refine s_q (q_field rfl) rfl ?_
          refine s_q (q_load rfl rfl) rfl ?_
          refine g_val 65 (v' := .int .i64 ((ix : Nat) : Int)) rfl (by rw [hix]) ?_
          refine s_q (q_loadw rfl rfl) rfl ?_
          refine g_op (g_ownS [] rfl (fun w1 hw1 ho1 => by have h7 := put7 A1 (l.length) (cap1) ((run c l (q.take k)).1) (ix) ((apV ((run c l (q.take k)).1)[ix] ((q[k]).m) c)) w1 (Rd.ofRow (A := A1) hw1) (by first | omega | (simp; omega)) (by first | assumption | omega | (simp; omega)); exact h7) rfl ?_)
          rintro ⟨A67, cap67⟩ _
          refine ⟨_, _, inferInstance, inferInstance, ?_⟩
          refine s_q (q_assign rfl) rfl ?_
          refine g_nil ?_
          refine g_then ?_
          refine g_seq ?_
          refine g_region ?_
          refine s_q (q_move rfl) rfl ?_
          refine s_q (q_gtr rfl rfl) rfl ?_
          refine g_nil ?_
          refine g_then ?_
          refine g_cond rfl (fun h5 => ?_) (fun h5 => ?_)
          · refine g_region ?_
            refine s_q (q_move rfl) rfl ?_
            refine s_q (q_field rfl) rfl ?_
            refine s_q (q_load rfl rfl) rfl ?_
            refine g_val 72 (v' := .int .i64 ((ix : Nat) : Int)) rfl (by rw [hix]) ?_
            refine s_q (q_move rfl) rfl ?_
            refine s_q (q_build rfl rfl) rfl ?_
            refine g_op (g_lit rfl rfl rfl rfl rfl fun b75 => ?_)
            refine g_blkc (b := b75) ((([(Y.mk ((ix : Nat) : Int) (min ((q[k]).m) (ravail ((run c l (q.take k)).1)[ix] c)) false)] : List Y).map Y.c).flatten) rfl ?_
            refine g_op (g_append (A := B1) (els := ((pos (run c l (q.take k)).2)).map Y.c) (news := (([(Y.mk ((ix : Nat) : Int) (min ((q[k]).m) (ravail ((run c l (q.take k)).1)[ix] c)) false)] : List Y).map Y.c)) rfl rfl (InL.rdb (b := b75) rfl (by simp [Y.c]) rfl) (map_one (c := Y.c) (by intro x; simp [Y.c, Value.oneCell']) _) (by first | omega | (simp; omega) | (simp_all; omega)) rfl fun A76 cap76 => ⟨_, inferInstance, ?_⟩)
            refine g_rowels (A := A76) ((((pos (run c l (q.take k)).2) ++ [(Y.mk ((ix : Nat) : Int) (min ((q[k]).m) (ravail ((run c l (q.take k)).1)[ix] c)) false)])).map Y.c) (by first | rfl | exact List.map_append.symm | (simp; done)) ?_
            refine s_q (q_assign rfl) rfl ?_
            refine g_nil ?_
            refine g_blk_n ?_
            refine g_then ?_
            refine g_region ?_
            refine s_q (q_move rfl) rfl ?_
            refine s_q (q_inc rfl rfl (by omega)) rfl ?_
            refine s_q (q_assign rfl) rfl ?_
            refine g_nil ?_
            have e1 : ((run c l (q.take k)).1).set ix (apV ((run c l (q.take k)).1)[ix] ((q[k]).m) c) = (run c l (q.take (k + 1))).1 := by rw [run_o lt_q, payO_in hix hx]
            have e2 : pos (run c l (q.take k)).2 ++ [(Y.mk ((ix : Nat) : Int) (min ((q[k]).m) (ravail ((run c l (q.take k)).1)[ix] c)) false)] = pos (run c l (q.take (k + 1))).2 := by rw [run_p lt_q, payP_in hix hx, pos_add, avail_eq]; rw [if_neg (show ¬ min ((q[k]).m) (ravail ((run c l (q.take k)).1)[ix] c) = 0 by simp at h5; omega)]
            have e3 : (pos (run c l (q.take k)).2).length + 1 = (pos (run c l (q.take (k + 1))).2).length := by rw [← e2]; simp
            rw [e1, e3, e2, run_len]
            exact g_again ((k + 1), A67, cap67, A76, cap76) (by (try dsimp only); exact (by omega)) (by first | omega | (simp only; omega)) (by repeat (first | exact trivial | refine ⟨rfl, ?_⟩)) wok_sub
          · refine g_skip ?_
            refine g_blk_n ?_
            refine g_then ?_
            refine g_region ?_
            refine s_q (q_move rfl) rfl ?_
            refine s_q (q_inc rfl rfl (by omega)) rfl ?_
            refine s_q (q_assign rfl) rfl ?_
            refine g_nil ?_
            have e1 : ((run c l (q.take k)).1).set ix (apV ((run c l (q.take k)).1)[ix] ((q[k]).m) c) = (run c l (q.take (k + 1))).1 := by rw [run_o lt_q, payO_in hix hx]
            have hnn := avail_nonneg (((run c l (q.take k)).1)[ix]) c
            rw [avail_eq] at hnn
            have hm0 := (hok (q[k]) (List.getElem_mem _)).m
            have e2 : pos (run c l (q.take k)).2 = pos (run c l (q.take (k + 1))).2 := by rw [run_p lt_q, payP_in hix hx, pos_add, avail_eq]; rw [if_pos (show min ((q[k]).m) (ravail ((run c l (q.take k)).1)[ix] c) = 0 by simp at h5; omega)]; simp
            rw [e1, e2, run_len]
            exact g_again ((k + 1), A67, cap67, B1, capb) (by (try dsimp only); exact (by omega)) (by first | omega | (simp only; omega)) (by repeat (first | exact trivial | refine ⟨rfl, ?_⟩)) wok_sub
    · have eq_k : k = (min q.length P) := by simp [hP] at h2; simp at h1; omega
      refine g_exit ?_
      refine g_then_x (g_then_x (g_blk_hit ?_))
      refine g_then ?_
      refine g_seq ?_
      refine g_region ?_
      refine s_q (q_move rfl) rfl ?_
      refine s_q (q_move rfl) rfl ?_
      refine s_q (q_move rfl) rfl ?_
      refine s_q (q_assign rfl) rfl ?_
      refine s_q (q_assign rfl) rfl ?_
      refine s_q (q_assign rfl) rfl ?_
      refine g_nil ?_
      refine g_then ?_
      refine g_ret ?_
      exact fin3 rfl (.tmp rfl) (.tmp rfl) (.tmp rfl) (fun w' hw' => ⟨(A1, cap1, B1, capb), (by first | exact trivial | (dsimp only; exact trivial)), by rw [← eq_k], by have h9 := wok_sub (L' := [Res.row A1 l.length cap1 24 7 ((run c l (q.take k)).1.map V.c), Res.row B1 (pos (run c l (q.take k)).2).length capb 51 3 ((pos (run c l (q.take k)).2).map Y.c)]) w' hw'; show WOK _ _ [Res.row ((A1, cap1, B1, capb)).1 l.length ((A1, cap1, B1, capb)).2.1 24 7 ((run c l (q.take (min q.length P))).1.map V.c), Res.row ((A1, cap1, B1, capb)).2.2.1 (pos (run c l (q.take (min q.length P))).2).length ((A1, cap1, B1, capb)).2.2.2 51 3 ((pos (run c l (q.take (min q.length P))).2).map Y.c)] _; rw [← eq_k]; exact h9⟩) _ (.inl rfl)
  · have eq_k : k = (min q.length P) := by simp at h1; omega
    refine g_gf rfl rfl rfl rfl ?_
    refine g_gf rfl rfl rfl rfl ?_
    refine g_gf rfl rfl rfl rfl ?_
    refine g_gf rfl rfl rfl rfl ?_
    refine s_q (q_pick_f rfl rfl) rfl ?_
    refine g_nil ?_
    refine g_then ?_
    refine g_false rfl ?_
    refine g_exit ?_
    refine g_then_x (g_then_x (g_blk_hit ?_))
    refine g_then ?_
    refine g_seq ?_
    refine g_region ?_
    refine s_q (q_move rfl) rfl ?_
    refine s_q (q_move rfl) rfl ?_
    refine s_q (q_move rfl) rfl ?_
    refine s_q (q_assign rfl) rfl ?_
    refine s_q (q_assign rfl) rfl ?_
    refine s_q (q_assign rfl) rfl ?_
    refine g_nil ?_
    refine g_then ?_
    refine g_ret ?_
    exact fin3 rfl (.tmp rfl) (.tmp rfl) (.tmp rfl) (fun w' hw' => ⟨(A1, cap1, B1, capb), (by first | exact trivial | (dsimp only; exact trivial)), by rw [← eq_k], by have h9 := wok_sub (L' := [Res.row A1 l.length cap1 24 7 ((run c l (q.take k)).1.map V.c), Res.row B1 (pos (run c l (q.take k)).2).length capb 51 3 ((pos (run c l (q.take k)).2).map Y.c)]) w' hw'; show WOK _ _ [Res.row ((A1, cap1, B1, capb)).1 l.length ((A1, cap1, B1, capb)).2.1 24 7 ((run c l (q.take (min q.length P))).1.map V.c), Res.row ((A1, cap1, B1, capb)).2.2.1 (pos (run c l (q.take (min q.length P))).2).length ((A1, cap1, B1, capb)).2.2.2 51 3 ((pos (run c l (q.take (min q.length P))).2).map Y.c)] _; rw [← eq_k]; exact h9⟩) _ (.inl rfl)
end Go.Proofs.Ytmbnpdjchkadhaa
