/- AssignTrue: for every limit and list of weights the law returns true. No condition. -/
import Derived.Test.YtmolaicpbaiioaaWT
namespace Go.Proofs.Ytmolaicpbaiioaa
open Go.RowKit Go.Eg
set_option synthInstance.maxSize 3000
set_option linter.unusedSimpArgs false
set_option linter.unusedVariables false
set_option maxRecDepth 100000
set_option maxHeartbeats 400000 in
theorem law_assignTrue (lim : Nat) (A_l : Option Addr) (c_l : Nat) (l : List Int) (w : World) (h_lim : lim < 65536) (o_l : Old w A_l l.length 1 (l.map (fun v : Int => [Value.int .u16 v]))) (h_l : l.length ≤ c_l ∧ c_l ≤ 9223372036854775807) (k_l : ∀ x ∈ l, (fun x : Int => 0 ≤ x ∧ x ≤ 65535) x) : Pur Try.prog 5 [.int .u16 ((lim : Nat) : Int), .slice A_l l.length c_l] w (.bool true) := by
  refine g_start Try.func5 rfl 125 rfl (by simp) ([]) [] (WOK.start _ _) _ rfl ?_
  refine g_seq ?_
  refine g_region ?_
  refine s_q (q_assign rfl) rfl ?_
  refine g_nil ?_
  refine g_then ?_
  refine g_seq ?_
  refine g_seq ?_
  refine g_region ?_
  refine s_q (q_move rfl) rfl ?_
  refine s_q (q_len rfl) rfl ?_
  refine s_q (q_gtr rfl rfl) rfl ?_
  refine g_nil ?_
  refine g_then ?_
  refine g_cond rfl (fun h1 => ?_) (fun h1 => ?_)
  · refine g_seq ?_
    refine g_region ?_
    refine g_op (g_pure rfl (fun w1 hw1 => alive_any w1) rfl ?_)
    refine s_q (q_assign rfl) rfl ?_
    refine g_nil ?_
    refine g_then ?_
    refine g_ret ?_
    refine g_then_ret ?_
    exact fin1 rfl (.tmp rfl) (fun w' hw' => ⟨by first | rfl | (simp_all; done) | (simp_all; omega), hw'.upd⟩) _ (.inl rfl)
  · have hn30 : l.length ≤ 30 := by have h9 := of_decide_eq_false h1; omega
    refine g_skip ?_
    refine g_then ?_
    refine g_seq ?_
    refine g_region ?_
    refine g_op (g_ownS [] rfl (fun w1 hw1 ho1 => by have h7 := lnew_any (30) w1 (by omega); exact h7) rfl ?_)
    rintro ⟨b19, ba19, bb19, g19, gg19⟩ ⟨r19, s19, rr19, ss19⟩
    refine ⟨_, _, inferInstance, inferInstance, ?_⟩
    simp only at r19 s19 rr19 ss19
    refine g_op (g_ownS [] rfl (fun w1 hw1 ho1 => by have h7 := mnew_any w1; exact h7) rfl ?_)
    rintro mb20 _
    refine ⟨_, _, inferInstance, inferInstance, ?_⟩
    refine s_q (q_assign rfl) rfl ?_
    refine s_q (q_assign rfl) rfl ?_
    refine g_nil ?_
    refine g_then ?_
    refine g_seq ?_
    refine g_seq ?_
    refine g_region ?_
    refine s_q (q_move rfl) rfl ?_
    refine s_q (q_eqp (b := false) rfl rfl rfl) rfl ?_
    refine s_q (q_move rfl) rfl ?_
    refine s_qg (q_move rfl) rfl rfl rfl ?_
    refine s_qg (q_eqp (b := false) rfl rfl rfl) rfl rfl rfl ?_
    refine s_q (q_pick_f rfl rfl) rfl ?_
    refine g_nil ?_
    refine g_then ?_
    refine g_false rfl ?_
    refine g_skip ?_
    refine g_then ?_
    refine g_seq ?_
    refine g_region ?_
    refine s_q (q_assign rfl) rfl ?_
    refine g_nilrow 7 35 1 rfl fun Az1 capz1 hcz1 => ?_
    refine g_rowels (A := Az1) (([] : List Int).map (fun v : Int => [Value.int .u64 v])) rfl ?_
    refine g_nil ?_
    refine g_then ?_
    refine g_seq ?_
    refine g_seq ?_
    refine g_region ?_
    refine s_q (q_move rfl) rfl ?_
    refine s_q (q_len rfl) rfl ?_
    refine s_q (q_move rfl) rfl ?_
    refine g_nil ?_
    refine g_then ?_
    refine g_block ?_
    refine g_loopk [0, 4, 5, 6, 27, 28] (fun (x : Nat × Option Addr × Nat × List Int × Rg × Rg × LL) => [(7, .slice x.2.1 x.2.2.2.1.length x.2.2.1), (29, .int .i64 ((x.1 : Nat) : Int))]) (fun (x : Nat × Option Addr × Nat × List Int × Rg × Rg × LL) => [Res.row x.2.1 (x.2.2.2.1).length x.2.2.1 35 1 ((x.2.2.2.1).map (fun v : Int => [Value.int .u64 v])), Res.blk b19 77 [Value.pointer (some ⟨ba19, 0, none⟩), Value.pointer (some ⟨bb19, 0, none⟩)], Res.blk ba19 108 (Rg.c x.2.2.2.2.1), Res.row (Rg.A x.2.2.2.2.1) (Rg.s x.2.2.2.2.1).length (Rg.cap x.2.2.2.2.1) 3 1 (Rg.s x.2.2.2.2.1), Res.blk bb19 108 (Rg.c x.2.2.2.2.2.1), Res.row (Rg.A x.2.2.2.2.2.1) (Rg.s x.2.2.2.2.2.1).length (Rg.cap x.2.2.2.2.2.1) 3 1 (Rg.s x.2.2.2.2.2.1), Res.blk mb20 84 (M.c M0)]) (fun (x : Nat × Option Addr × Nat × List Int × Rg × Rg × LL) => x.1 ≤ l.length ∧ x.2.2.2.1 = l.take x.1 ∧ Rg.Rep x.2.2.2.2.1 1 ((x.2.2.2.2.2.2).f.map (fun v : Int => [Value.int .i64 v])) ∧ Rg.Rep x.2.2.2.2.2.1 1 ((x.2.2.2.2.2.2).v.map (fun v : Int => [Value.int .i64 v])) ∧ Rg.size x.2.2.2.2.1 = 30 ∧ Rg.size x.2.2.2.2.2.1 = 30 ∧ x.2.2.2.2.2.2 = LL.mk [] (rg x.1)) (fun (x : Nat × Option Addr × Nat × List Int × Rg × Rg × LL) => l.length - x.1) (0, Az1, capz1, [], g19, gg19, (LL.mk [] [])) (by (try dsimp only); exact ⟨Nat.zero_le _, (by simp), r19, rr19, s19, ss19, rfl⟩) rfl (by repeat (first | exact trivial | refine ⟨rfl, ?_⟩)) wok_sub ?_
    rintro ⟨k, B, bc, W, g1, g2, q⟩ ⟨le_k, hW, h0, hh1, s0, ss1, hqe⟩
    replace le_k : k ≤ l.length := le_k
    replace hW : W = l.take k := hW
    replace h0 : Rg.Rep g1 1 ((q).f.map (fun v : Int => [Value.int .i64 v])) := h0
    replace hh1 : Rg.Rep g2 1 ((q).v.map (fun v : Int => [Value.int .i64 v])) := hh1
    replace s0 : Rg.size g1 = 30 := s0
    replace ss1 : Rg.size g2 = 30 := ss1
    replace hqe : q = LL.mk [] (rg k) := hqe
    refine g_setL (L' := [Res.row B (W).length bc 35 1 ((W).map (fun v : Int => [Value.int .u64 v])), Res.blk b19 77 [Value.pointer (some ⟨ba19, 0, none⟩), Value.pointer (some ⟨bb19, 0, none⟩)], Res.blk ba19 108 (Rg.c g1), Res.row (Rg.A g1) (Rg.s g1).length (Rg.cap g1) 3 1 (Rg.s g1), Res.blk bb19 108 (Rg.c g2), Res.row (Rg.A g2) (Rg.s g2).length (Rg.cap g2) 3 1 (Rg.s g2), Res.blk mb20 84 (M.c M0)]) rfl ?_
    refine g_val 7 (v' := .slice B W.length bc) rfl rfl ?_
    refine g_val 29 (v' := .int .i64 ((k : Nat) : Int)) rfl rfl ?_
    have hWl : W.length = min k l.length := by rw [hW]; simp
    refine g_seq ?_
    refine g_region ?_
    refine s_q (q_lss rfl rfl) rfl ?_
    refine g_nil ?_
    refine g_then ?_
    refine g_seq ?_
    refine g_cond rfl (fun h2 => ?_) (fun h2 => ?_)
    · have lt_k : k < l.length := by have h9 := of_decide_eq_true h2; omega
      have hx := k_l _ (List.getElem_mem lt_k)
      have hps := (rg_push (k := k) (by omega)).1
      rw [← hqe] at hps
      refine g_skip ?_
      refine g_then ?_
      refine g_seq ?_
      refine g_block ?_
      refine g_seq ?_
      refine g_region ?_
      refine s_q (q_move rfl) rfl ?_
      refine s_q (q_index (i := k) rfl rfl rfl (o_l.rdb rfl) (by first | exact lt_k | omega)) rfl ?_
      refine s_q (q_load_el (i := k) (o := 0) rfl (o_l.rdb rfl) (map_get (by first | assumption | omega)) rfl rfl) rfl ?_
      refine s_q (q_assign rfl) rfl ?_
      refine s_q (q_assign rfl) rfl ?_
      refine g_nil ?_
      refine g_then ?_
      refine g_seq ?_
      refine g_region ?_
      refine s_q (q_move rfl) rfl ?_
      refine s_q (q_move rfl) rfl ?_
      refine s_q (q_convz (z := l[k]) rfl (wu64 (by omega) (by omega))) rfl ?_
      refine g_op (g_lit rfl rfl rfl rfl rfl fun b37 => ?_)
      refine g_blkc (b := b37) ((([l[k]] : List Int).map (fun v : Int => [Value.int .u64 v])).flatten) rfl ?_
      refine g_op (g_append (A := B) (els := (W).map (fun v : Int => [Value.int .u64 v])) (news := (([l[k]] : List Int).map (fun v : Int => [Value.int .u64 v]))) rfl rfl (InL.rdb (b := b37) rfl (by simp) rfl) (map_one (c := (fun v : Int => [Value.int .u64 v])) (by intro x; simp [Value.oneCell']) _) (by first | omega | (simp; omega) | (simp_all; omega)) rfl fun A38 cap38 => ⟨_, inferInstance, ?_⟩)
      refine g_rowels (A := A38) (((W ++ [l[k]])).map (fun v : Int => [Value.int .u64 v])) (by first | rfl | exact List.map_append.symm | (simp; done)) ?_
      refine s_q (q_assign rfl) rfl ?_
      refine g_nil ?_
      refine g_then ?_
      refine g_seq ?_
      refine g_region ?_
      refine s_q (q_move rfl) rfl ?_
      refine s_q (q_move rfl) rfl ?_
      refine g_op (g_ownS [Res.blk b19 77 [Value.pointer (some ⟨ba19, 0, none⟩), Value.pointer (some ⟨bb19, 0, none⟩)], Res.blk ba19 108 (Rg.c g1), Res.row (Rg.A g1) (Rg.s g1).length (Rg.cap g1) 3 1 (Rg.s g1), Res.blk bb19 108 (Rg.c g2), Res.row (Rg.A g2) (Rg.s g2).length (Rg.cap g2) 3 1 (Rg.s g2)] rfl (fun w1 hw1 ho1 => by have h7 := lpush_any b19 ba19 bb19 g1 g2 q 30 (1) (((k : Nat) : Int)) w1 ho1 h0 hh1 s0 ss1 (by omega); exact h7) rfl ?_)
      rintro ⟨g41, gg41⟩ ⟨r41, rr41, s41, ss41⟩
      refine ⟨_, _, inferInstance, inferInstance, ?_⟩
      simp only at r41 rr41 s41 ss41
      refine s_q (q_neq rfl rfl) rfl ?_
      refine g_litb 42 (b := false) rfl (by rw [hps]; rfl) ?_
      refine g_nil ?_
      refine g_then ?_
      refine g_false rfl ?_
      refine g_skip ?_
      refine g_blk_n ?_
      refine g_then ?_
      refine g_region ?_
      refine s_q (q_inc rfl rfl (by omega)) rfl ?_
      refine s_q (q_move rfl) rfl ?_
      refine g_nil ?_
      refine g_rown (A := A38) ((W ++ [l[k]])).length (by simp) ?_
      refine g_val 7 (v' := .slice A38 ((W ++ [l[k]])).length cap38) rfl (by simp) ?_
      exact g_again ((k + 1), A38, cap38, (W ++ [l[k]]), g41, gg41, (pushL 30 (1) (((k : Nat) : Int)) q)) (by (try dsimp only); exact ⟨(by first | exact lt_k | omega), (by rw [hW, List.take_append_getElem lt_k]), r41, rr41, s41, ss41, (by rw [hqe]; exact (rg_push (by omega)).2)⟩) (by first | omega | (simp only; omega)) (by repeat (first | exact trivial | refine ⟨rfl, ?_⟩)) wok_sub
    · have eq_k : k = l.length := by have h9 := of_decide_eq_false h2; omega
      have hWe : W = l := by rw [hW, eq_k, List.take_length]
      refine g_rowels (A := B) (l.map (fun v : Int => [Value.int .u64 v])) (by rw [hWe]) ?_
      refine g_rown (A := B) l.length (by rw [hWe]) ?_
      refine g_val 7 (v' := .slice B l.length bc) rfl (by rw [hWe]) ?_
      refine g_exit ?_
      refine g_then_x (g_then_x (g_blk_hit ?_))
      refine g_then ?_
      refine g_seq ?_
      refine g_region ?_
      refine s_q (q_move rfl) rfl ?_
      refine s_q (q_convz (z := ((lim : Nat) : Int)) rfl (wu64 (by omega) (by omega))) rfl ?_
      refine s_q (q_move rfl) rfl ?_
      refine g_op (g_ownS [] rfl (fun w1 hw1 ho1 => by have h7 := forecast_any 0 lim B (l.length) (bc) (l) w1 (Rdb.toOld (InRow.rdb (A := B) (els := (l).map (fun v : Int => [Value.int .u64 v])) (by first | rfl | assumption | (simp; done) | (simp_all; done) | (simp; omega) | (simp_all; omega)) (map_cat (c := (fun v : Int => [Value.int .u64 v])) (fun _ => rfl) _)) hw1) (fun x hx => by have h9 := k_l x hx; omega) (by omega) (by omega) (by first | omega | (simp; done) | (simp; omega)); exact h7) rfl ?_)
      rintro ⟨A47, cap47⟩ _
      refine ⟨_, _, inferInstance, inferInstance, ?_⟩
      refine s_q (q_assign rfl) rfl ?_
      generalize hwn : fcV 0 ((lim : Nat) : Int) l = wnt
      have hwl : wnt.length = l.length := by rw [← hwn]; exact fcF_len
      have hW0 : ∀ x ∈ l, 0 ≤ x := fun x hx => (k_l x hx).1
      refine g_nil ?_
      refine g_then ?_
      refine g_seq ?_
      refine g_seq ?_
      refine g_region ?_
      refine s_q (q_move rfl) rfl ?_
      refine s_q (q_len rfl) rfl ?_
      refine s_q (q_move rfl) rfl ?_
      refine s_q (q_len rfl) rfl ?_
      refine s_q (q_neq rfl rfl) rfl ?_
      refine g_litb 52 (b := false) rfl (by simp; omega) ?_
      refine g_nil ?_
      refine g_then ?_
      refine g_false rfl ?_
      refine g_skip ?_
      refine g_then ?_
      refine g_seq ?_
      refine g_region ?_
      refine s_q (q_assign rfl) rfl ?_
      refine g_nil ?_
      refine g_then ?_
      refine g_seq ?_
      refine g_seq ?_
      refine g_region ?_
      refine s_q (q_assign rfl) rfl ?_
      refine g_nil ?_
      refine g_then ?_
      refine g_block ?_
      refine g_loopk [0, 4, 5, 6, 7, 10] (fun (x : Nat × Nat × Rg × Rg × LL × M) => [(12, .int .i64 ((x.1 : Nat) : Int)), (11, .int .i64 ((x.2.1 : Nat) : Int))]) (fun (x : Nat × Nat × Rg × Rg × LL × M) => [Res.row A47 wnt.length cap47 3 1 (wnt.map (fun v : Int => [Value.int .i64 v])), Res.row B l.length bc 35 1 (l.map (fun v : Int => [Value.int .u64 v])), Res.blk b19 77 [Value.pointer (some ⟨ba19, 0, none⟩), Value.pointer (some ⟨bb19, 0, none⟩)], Res.blk ba19 108 (Rg.c x.2.2.1), Res.row (Rg.A x.2.2.1) (Rg.s x.2.2.1).length (Rg.cap x.2.2.1) 3 1 (Rg.s x.2.2.1), Res.blk bb19 108 (Rg.c x.2.2.2.1), Res.row (Rg.A x.2.2.2.1) (Rg.s x.2.2.2.1).length (Rg.cap x.2.2.2.1) 3 1 (Rg.s x.2.2.2.1), Res.blk mb20 84 (M.c x.2.2.2.2.2)]) (fun (x : Nat × Nat × Rg × Rg × LL × M) => 1 ≤ x.1 ∧ x.1 ≤ 201 ∧ x.2.1 ≤ l.length ∧ Rg.Rep x.2.2.1 1 ((x.2.2.2.2.1).f.map (fun v : Int => [Value.int .i64 v])) ∧ Rg.Rep x.2.2.2.1 1 ((x.2.2.2.2.1).v.map (fun v : Int => [Value.int .i64 v])) ∧ Rg.size x.2.2.1 = 30 ∧ Rg.size x.2.2.2.1 = 30 ∧ x.2.2.2.2.1 = LL.mk [] ((rg l.length).drop x.2.1) ∧ (x.2.2.2.2.2).ok ∧ (x.2.2.2.2.2).bal ≤ 65535 * (x.1 : Int) ∧ wnt.drop x.2.1 = fcF ((lim : Nat) : Int) (l.drop x.2.1) ((x.1 : Nat) : Int) ((x.2.2.2.2.2).bal + ((lim : Nat) : Int))) (fun (x : Nat × Nat × Rg × Rg × LL × M) => 202 - x.1) (1, 0, g1, g2, q, M0) (by (try dsimp only); exact ⟨(by omega), (by omega), (by omega), h0, hh1, s0, ss1, (by rw [hqe, eq_k]; rfl), M0_ok, (by decide), (by rw [← hwn]; rfl)⟩) rfl (by repeat (first | exact trivial | refine ⟨rfl, ?_⟩)) wok_sub ?_
      rintro ⟨kk, nx, g1, g2, q, m⟩ ⟨hk1, hk2, hnx, h0, hh1, s0, ss1, hqe, hmk, hmb, hwd⟩
      replace hk1 : 1 ≤ kk := hk1
      replace hk2 : kk ≤ 201 := hk2
      replace hnx : nx ≤ l.length := hnx
      replace h0 : Rg.Rep g1 1 ((q).f.map (fun v : Int => [Value.int .i64 v])) := h0
      replace hh1 : Rg.Rep g2 1 ((q).v.map (fun v : Int => [Value.int .i64 v])) := hh1
      replace s0 : Rg.size g1 = 30 := s0
      replace ss1 : Rg.size g2 = 30 := ss1
      replace hqe : q = LL.mk [] ((rg l.length).drop nx) := hqe
      replace hmk : (m).ok := hmk
      replace hmb : (m).bal ≤ 65535 * (kk : Int) := hmb
      replace hwd : wnt.drop nx = fcF ((lim : Nat) : Int) (l.drop nx) ((kk : Nat) : Int) ((m).bal + ((lim : Nat) : Int)) := hwd
      refine g_setL (L' := [Res.row A47 wnt.length cap47 3 1 (wnt.map (fun v : Int => [Value.int .i64 v])), Res.row B l.length bc 35 1 (l.map (fun v : Int => [Value.int .u64 v])), Res.blk b19 77 [Value.pointer (some ⟨ba19, 0, none⟩), Value.pointer (some ⟨bb19, 0, none⟩)], Res.blk ba19 108 (Rg.c g1), Res.row (Rg.A g1) (Rg.s g1).length (Rg.cap g1) 3 1 (Rg.s g1), Res.blk bb19 108 (Rg.c g2), Res.row (Rg.A g2) (Rg.s g2).length (Rg.cap g2) 3 1 (Rg.s g2), Res.blk mb20 84 (M.c m)]) rfl ?_
      refine g_val 12 (v' := .int .i64 ((kk : Nat) : Int)) rfl rfl ?_
      refine g_val 11 (v' := .int .i64 ((nx : Nat) : Int)) rfl rfl ?_
      have hl9 : q.f.length ≤ 30 ∧ q.v.length ≤ 30 := by rw [hqe]; simp [rg_len]; omega
      have hmr := bal_rng m
      refine g_seq ?_
      refine g_seq ?_
      refine g_region ?_
      refine s_q (q_move rfl) rfl ?_
      refine s_q (q_leq rfl rfl) rfl ?_
      refine g_nil ?_
      refine g_then ?_
      refine g_cond rfl (fun h3 => ?_) (fun h3 => ?_)
      · have hk3 : kk ≤ 200 := by have h9 := of_decide_eq_true h3; omega
        refine g_skip ?_
        refine g_then ?_
        refine g_seq ?_
        refine g_block ?_
        refine g_seq ?_
        refine g_region ?_
        refine s_q (q_move rfl) rfl ?_
        refine s_q (q_move rfl) rfl ?_
        refine s_q (q_move rfl) rfl ?_
        refine s_q (q_move rfl) rfl ?_
        refine s_q (q_convz (z := ((lim : Nat) : Int)) rfl (wu64 (by omega) (by omega))) rfl ?_
        refine s_q (q_move rfl) rfl ?_
        refine g_op (g_ownS [Res.blk b19 77 [Value.pointer (some ⟨ba19, 0, none⟩), Value.pointer (some ⟨bb19, 0, none⟩)], Res.blk ba19 108 (Rg.c g1), Res.row (Rg.A g1) (Rg.s g1).length (Rg.cap g1) 3 1 (Rg.s g1), Res.blk bb19 108 (Rg.c g2), Res.row (Rg.A g2) (Rg.s g2).length (Rg.cap g2) 3 1 (Rg.s g2), Res.blk mb20 84 (M.c m)] rfl (fun w1 hw1 ho1 => by have h7 := astep_any (((kk : Nat) : Int)) (((lim : Nat) : Int)) b19 ba19 bb19 mb20 g1 g2 q 30 m B (l.length) (bc) (l) w1 ho1 h0 hh1 s0 ss1 (by omega) hl9 (Rd.ofRow (A := B) hw1) (by omega); exact h7) rfl ?_)
        rintro ⟨O63, oc63, g63, gg63⟩ ⟨r63, rr63, s63, ss63⟩
        refine ⟨_, _, inferInstance, inferInstance, ?_⟩
        simp only at r63 rr63 s63 ss63
        have hq63 := stepM_len (W := l) (e := ((kk : Nat) : Int)) (lim := ((lim : Nat) : Int)) (m := m) hl9
        generalize hst63 : (stepM l (((kk : Nat) : Int)) (((lim : Nat) : Int)) q m) = st63 at r63 rr63 hq63 ⊢
        rw [hqe] at hst63
        have hT := step_true (wnt := wnt) (k := ((kk : Nat) : Int)) hW0 hst63 (by omega) (by omega) hnx hmk (by omega) hwd
        have hT2 := hT.2.1
        refine s_q (q_len rfl) rfl ?_
        refine s_q (q_move rfl) rfl ?_
        refine g_nil ?_
        refine g_then ?_
        refine g_block ?_
        refine g_loopk [0, 4, 5, 6, 7, 10, 12, 63, 64] (fun (x : Nat) => [(11, .int .i64 ((nx + x : Nat) : Int)), (65, .int .i64 ((x : Nat) : Int))]) (fun (x : Nat) => [Res.row O63 st63.1.length oc63 42 3 (st63.1.map As.cs), Res.row A47 wnt.length cap47 3 1 (wnt.map (fun v : Int => [Value.int .i64 v])), Res.row B l.length bc 35 1 (l.map (fun v : Int => [Value.int .u64 v])), Res.blk b19 77 [Value.pointer (some ⟨ba19, 0, none⟩), Value.pointer (some ⟨bb19, 0, none⟩)], Res.blk ba19 108 (Rg.c g63), Res.row (Rg.A g63) (Rg.s g63).length (Rg.cap g63) 3 1 (Rg.s g63), Res.blk bb19 108 (Rg.c gg63), Res.row (Rg.A gg63) (Rg.s gg63).length (Rg.cap gg63) 3 1 (Rg.s gg63), Res.blk mb20 84 (M.c st63.2.2)]) (fun (x : Nat) => x ≤ st63.1.length) (fun (x : Nat) => st63.1.length - x) 0 (by (try dsimp only); exact Nat.zero_le _) rfl (by repeat (first | exact trivial | refine ⟨rfl, ?_⟩)) wok_sub ?_
        rintro j le_j
        replace le_j : j ≤ st63.1.length := le_j
        refine g_seq ?_
        refine g_region ?_
        refine s_q (q_lss rfl rfl) rfl ?_
        refine g_nil ?_
        refine g_then ?_
        refine g_seq ?_
        refine g_cond rfl (fun h4 => ?_) (fun h4 => ?_)
        · have lt_j : j < st63.1.length := by have h9 := of_decide_eq_true h4; omega
          have hTi := hT.2.2.1 j lt_j
          have hTw := hT.2.2.2.1 j lt_j
          have hnw : nx + j < wnt.length := by omega
          rw [List.getElem?_eq_getElem hnw] at hTw
          replace hTw := Option.some.inj hTw
          refine g_skip ?_
          refine g_then ?_
          refine g_seq ?_
          refine g_block ?_
          refine g_seq ?_
          refine g_region ?_
          refine s_q (q_index (i := j) rfl rfl rfl (InRow.rdb (A := O63) (els := (st63.1).map As.cs) (by first | rfl | assumption | (simp; done) | (simp_all; done) | (simp; omega) | (simp_all; omega)) (map_cat (c := As.cs) (fun _ => rfl) _)) (by first | exact lt_j | omega)) rfl ?_
          refine s_q (q_load_ew (i := j) rfl (InRow.rdb (A := O63) (els := (st63.1).map As.cs) (by first | rfl | assumption | (simp; done) | (simp_all; done) | (simp; omega) | (simp_all; omega)) (map_cat (c := As.cs) (fun _ => rfl) _)) (map_get (by first | assumption | omega | (simp_all; done) | (simp_all; omega))) rfl) rfl ?_
          refine g_op (g_alloc rfl fun b14 => ?_)
          refine g_op (g_storew rfl rfl rfl rfl rfl ?_)
          refine g_nil ?_
          refine g_then ?_
          refine g_seq ?_
          refine g_seq ?_
          refine g_region ?_
          refine s_q (q_move rfl) rfl ?_
          refine s_q (q_move rfl) rfl ?_
          refine s_q (q_len rfl) rfl ?_
          refine s_q (q_geq rfl rfl) rfl ?_
          refine g_litb 72 (b := false) rfl (by simp; omega) ?_
          refine s_q (q_move rfl) rfl ?_
          refine s_qg (q_field rfl) rfl rfl rfl ?_
          refine s_qg (q_load rfl rfl) rfl rfl rfl ?_
          refine s_qg (q_move rfl) rfl rfl rfl ?_
          refine s_qg (q_neq rfl rfl) rfl rfl rfl ?_
          refine g_litb 77 (b := false) rfl (by rw [hTi]; simp) ?_
          refine s_q (q_pick_f rfl rfl) rfl ?_
          refine s_q (q_move rfl) rfl ?_
          refine s_qg (q_move rfl) rfl rfl rfl ?_
          refine s_qg (q_move rfl) rfl rfl rfl ?_
          refine s_qg (q_index (i := (nx + j)) rfl rfl rfl (InRow.rdb (A := A47) (els := (wnt).map (fun v : Int => [Value.int .i64 v])) (by first | rfl | assumption | (simp; done) | (simp_all; done) | (simp; omega) | (simp_all; omega)) (map_cat (c := (fun v : Int => [Value.int .i64 v])) (fun _ => rfl) _)) (by first | omega | (simp; done) | (simp; omega))) rfl rfl rfl ?_
          refine s_qg (q_load_el (i := (nx + j)) (o := 0) rfl (InRow.rdb (A := A47) (els := (wnt).map (fun v : Int => [Value.int .i64 v])) (by first | rfl | assumption | (simp; done) | (simp_all; done) | (simp; omega) | (simp_all; omega)) (map_cat (c := (fun v : Int => [Value.int .i64 v])) (fun _ => rfl) _)) (map_get (by first | assumption | omega | (simp_all; done) | (simp_all; omega))) rfl rfl) rfl rfl rfl ?_
          refine s_qg (q_move rfl) rfl rfl rfl ?_
          refine s_qg (q_neq rfl rfl) rfl rfl rfl ?_
          refine g_litb 85 (b := false) rfl (by rw [hTw]; simp) ?_
          refine s_q (q_pick_f rfl rfl) rfl ?_
          refine g_nil ?_
          refine g_then ?_
          refine g_false rfl ?_
          refine g_skip ?_
          refine g_then ?_
          refine g_region ?_
          refine s_q (q_move rfl) rfl ?_
          refine s_q (q_inc rfl rfl (by omega)) rfl ?_
          refine s_q (q_assign rfl) rfl ?_
          refine g_nil ?_
          refine g_blk_n ?_
          refine g_then ?_
          refine g_region ?_
          refine s_q (q_inc rfl rfl (by omega)) rfl ?_
          refine s_q (q_move rfl) rfl ?_
          refine g_nil ?_
          exact g_again (j + 1) (by (try dsimp only); exact (by first | exact lt_j | omega)) (by first | omega | (simp only; omega)) (by repeat (first | exact trivial | refine ⟨rfl, ?_⟩)) wok_sub
        · have eq_j : j = st63.1.length := by have h9 := of_decide_eq_false h4; omega
          refine g_val 11 (v' := .int .i64 ((nx + st63.1.length : Nat) : Int)) rfl (by rw [eq_j]) ?_
          refine g_exit ?_
          refine g_then_x (g_then_x (g_blk_hit ?_))
          refine g_blk_n ?_
          refine g_then ?_
          refine g_region ?_
          refine s_q (q_move rfl) rfl ?_
          refine s_q (q_inc rfl rfl (by omega)) rfl ?_
          refine s_q (q_assign rfl) rfl ?_
          refine g_nil ?_
          exact g_again ((kk + 1), (nx + st63.1.length), g63, gg63, st63.2.1, st63.2.2) (by (try dsimp only); exact ⟨(by omega), (by omega), hT.2.1, r63, rr63, s63, ss63, hT.1, hT.2.2.2.2.2.2, (by have h9 := hT.2.2.2.2.2.1; omega), hT.2.2.2.2.1⟩) (by dsimp only; omega) (by repeat (first | exact trivial | refine ⟨rfl, ?_⟩)) wok_sub
      · have hk3 : kk = 201 := by have h9 := of_decide_eq_false h3; omega
        refine g_exit ?_
        refine g_then_x (g_then_x (g_blk_hit ?_))
        refine g_then ?_
        refine g_seq ?_
        refine g_region ?_
        refine g_op (g_pure rfl (fun w1 hw1 => alive_any w1) rfl ?_)
        refine s_q (q_move rfl) rfl ?_
        refine s_qg (q_move rfl) rfl rfl rfl ?_
        refine s_qg (q_move rfl) rfl rfl rfl ?_
        refine s_qg (q_len rfl) rfl rfl rfl ?_
        refine s_qg (q_eql rfl rfl) rfl rfl rfl ?_
        refine s_qg (q_move rfl) rfl rfl rfl ?_
        refine g_split 96 rfl (fun h5 => ?_) (fun h5 => ?_)
        · refine g_gf rfl rfl rfl rfl ?_
          refine g_gf rfl rfl rfl rfl ?_
          refine g_gf rfl rfl rfl rfl ?_
          refine g_gf rfl rfl rfl rfl ?_
          refine g_gf rfl rfl rfl rfl ?_
          refine s_qg (q_pick_t rfl rfl) rfl rfl rfl ?_
          refine s_qg (q_move rfl) rfl rfl rfl ?_
          refine g_gf rfl rfl rfl rfl ?_
          refine g_gf rfl rfl rfl rfl ?_
          refine g_gf rfl rfl rfl rfl ?_
          refine g_gf rfl rfl rfl rfl ?_
          refine g_gf rfl rfl rfl rfl ?_
          refine s_qg (q_pick_t rfl rfl) rfl rfl rfl ?_
          refine s_q (q_pick_t rfl rfl) rfl ?_
          refine s_q (q_move rfl) rfl ?_
          refine s_qg (q_move rfl) rfl rfl rfl ?_
          refine s_qg (q_move rfl) rfl rfl rfl ?_
          refine g_gt rfl rfl (g_pure rfl (fun w1 hw1 => astep_nil1 (1) (5) (some ⟨mb20, 0, none⟩) B l.length bc w1) rfl ?_)
          refine s_qg (q_len rfl) rfl rfl rfl ?_
          refine s_qg (q_eql rfl rfl) rfl rfl rfl ?_
          refine g_litb 116 (b := true) rfl (by decide) ?_
          refine s_q (q_pick_t rfl rfl) rfl ?_
          refine s_q (q_move rfl) rfl ?_
          refine s_qg (q_move rfl) rfl rfl rfl ?_
          refine s_qg (q_move rfl) rfl rfl rfl ?_
          refine g_gt rfl rfl (g_pure rfl (fun w1 hw1 => astep_nil2 (1) (5) b19 B l.length bc w1) rfl ?_)
          refine s_qg (q_len rfl) rfl rfl rfl ?_
          refine s_qg (q_eql rfl rfl) rfl rfl rfl ?_
          refine g_litb 123 (b := true) rfl (by decide) ?_
          refine s_q (q_pick_t rfl rfl) rfl ?_
          refine s_q (q_assign rfl) rfl ?_
          refine g_nil ?_
          refine g_then ?_
          refine g_ret ?_
          exact fin1 rfl (.tmp rfl) (fun w' hw' => ⟨by first | rfl | (simp_all; done) | (simp_all; omega), hw'.upd⟩) _ (.inl rfl)
        · have hne : nx < l.length := by have h9 := of_decide_eq_false h5; omega
          have hnw : nx < wnt.length := by omega
          have hfl := fc_late (lim := ((lim : Nat) : Int)) (by omega) (ws := l.drop nx) (k := ((kk : Nat) : Int)) (b := m.bal + ((lim : Nat) : Int)) (by omega) wnt[nx] (by rw [← hwd, List.drop_eq_getElem_cons hnw]; exact List.mem_cons_self ..)
          refine s_qg (q_move rfl) rfl rfl rfl ?_
          refine s_qg (q_move rfl) rfl rfl rfl ?_
          refine s_qg (q_index (i := nx) rfl rfl rfl (InRow.rdb (A := A47) (els := (wnt).map (fun v : Int => [Value.int .i64 v])) (by first | rfl | assumption | (simp; done) | (simp_all; done) | (simp; omega) | (simp_all; omega)) (map_cat (c := (fun v : Int => [Value.int .i64 v])) (fun _ => rfl) _)) (by first | omega | (simp; done) | (simp; omega))) rfl rfl rfl ?_
          refine s_qg (q_load_el (i := nx) (o := 0) rfl (InRow.rdb (A := A47) (els := (wnt).map (fun v : Int => [Value.int .i64 v])) (by first | rfl | assumption | (simp; done) | (simp_all; done) | (simp; omega) | (simp_all; omega)) (map_cat (c := (fun v : Int => [Value.int .i64 v])) (fun _ => rfl) _)) (map_get (by first | assumption | omega | (simp_all; done) | (simp_all; omega))) rfl rfl) rfl rfl rfl ?_
          refine s_qg (q_gtr rfl rfl) rfl rfl rfl ?_
          refine s_qg (q_pick_f rfl rfl) rfl rfl rfl ?_
          refine s_qg (q_move rfl) rfl rfl rfl ?_
          refine g_split 103 rfl (fun h6 => ?_) (fun h6 => ?_)
          · refine g_gf rfl rfl rfl rfl ?_
            refine g_gf rfl rfl rfl rfl ?_
            refine g_gf rfl rfl rfl rfl ?_
            refine g_gf rfl rfl rfl rfl ?_
            refine g_gf rfl rfl rfl rfl ?_
            refine s_qg (q_pick_t rfl rfl) rfl rfl rfl ?_
            refine s_q (q_pick_t rfl rfl) rfl ?_
            refine s_q (q_move rfl) rfl ?_
            refine s_qg (q_move rfl) rfl rfl rfl ?_
            refine s_qg (q_move rfl) rfl rfl rfl ?_
            refine g_gt rfl rfl (g_pure rfl (fun w1 hw1 => astep_nil1 (1) (5) (some ⟨mb20, 0, none⟩) B l.length bc w1) rfl ?_)
            refine s_qg (q_len rfl) rfl rfl rfl ?_
            refine s_qg (q_eql rfl rfl) rfl rfl rfl ?_
            refine g_litb 116 (b := true) rfl (by decide) ?_
            refine s_q (q_pick_t rfl rfl) rfl ?_
            refine s_q (q_move rfl) rfl ?_
            refine s_qg (q_move rfl) rfl rfl rfl ?_
            refine s_qg (q_move rfl) rfl rfl rfl ?_
            refine g_gt rfl rfl (g_pure rfl (fun w1 hw1 => astep_nil2 (1) (5) b19 B l.length bc w1) rfl ?_)
            refine s_qg (q_len rfl) rfl rfl rfl ?_
            refine s_qg (q_eql rfl rfl) rfl rfl rfl ?_
            refine g_litb 123 (b := true) rfl (by decide) ?_
            refine s_q (q_pick_t rfl rfl) rfl ?_
            refine s_q (q_assign rfl) rfl ?_
            refine g_nil ?_
            refine g_then ?_
            refine g_ret ?_
            exact fin1 rfl (.tmp rfl) (fun w' hw' => ⟨by first | rfl | (simp_all; done) | (simp_all; omega), hw'.upd⟩) _ (.inl rfl)
          · have hle2 : ¬ 200 < wnt[nx] := of_decide_eq_false h6
            refine s_qg (q_move rfl) rfl rfl rfl ?_
            refine s_qg (q_move rfl) rfl rfl rfl ?_
            refine s_qg (q_index (i := nx) rfl rfl rfl (InRow.rdb (A := A47) (els := (wnt).map (fun v : Int => [Value.int .i64 v])) (by first | rfl | assumption | (simp; done) | (simp_all; done) | (simp; omega) | (simp_all; omega)) (map_cat (c := (fun v : Int => [Value.int .i64 v])) (fun _ => rfl) _)) (by first | omega | (simp; done) | (simp; omega))) rfl rfl rfl ?_
            refine s_qg (q_load_el (i := nx) (o := 0) rfl (InRow.rdb (A := A47) (els := (wnt).map (fun v : Int => [Value.int .i64 v])) (by first | rfl | assumption | (simp; done) | (simp_all; done) | (simp; omega) | (simp_all; omega)) (map_cat (c := (fun v : Int => [Value.int .i64 v])) (fun _ => rfl) _)) (map_get (by first | assumption | omega | (simp_all; done) | (simp_all; omega))) rfl rfl) rfl rfl rfl ?_
            refine s_qg (q_eql rfl rfl) rfl rfl rfl ?_
            refine g_litb 108 (b := true) rfl (by exact decide_eq_true (by omega)) ?_
            refine s_qg (q_pick_f rfl rfl) rfl rfl rfl ?_
            refine s_q (q_pick_t rfl rfl) rfl ?_
            refine s_q (q_move rfl) rfl ?_
            refine s_qg (q_move rfl) rfl rfl rfl ?_
            refine s_qg (q_move rfl) rfl rfl rfl ?_
            refine g_gt rfl rfl (g_pure rfl (fun w1 hw1 => astep_nil1 (1) (5) (some ⟨mb20, 0, none⟩) B l.length bc w1) rfl ?_)
            refine s_qg (q_len rfl) rfl rfl rfl ?_
            refine s_qg (q_eql rfl rfl) rfl rfl rfl ?_
            refine g_litb 116 (b := true) rfl (by decide) ?_
            refine s_q (q_pick_t rfl rfl) rfl ?_
            refine s_q (q_move rfl) rfl ?_
            refine s_qg (q_move rfl) rfl rfl rfl ?_
            refine s_qg (q_move rfl) rfl rfl rfl ?_
            refine g_gt rfl rfl (g_pure rfl (fun w1 hw1 => astep_nil2 (1) (5) b19 B l.length bc w1) rfl ?_)
            refine s_qg (q_len rfl) rfl rfl rfl ?_
            refine s_qg (q_eql rfl rfl) rfl rfl rfl ?_
            refine g_litb 123 (b := true) rfl (by decide) ?_
            refine s_q (q_pick_t rfl rfl) rfl ?_
            refine s_q (q_assign rfl) rfl ?_
            refine g_nil ?_
            refine g_then ?_
            refine g_ret ?_
            exact fin1 rfl (.tmp rfl) (fun w' hw' => ⟨by first | rfl | (simp_all; done) | (simp_all; omega), hw'.upd⟩) _ (.inl rfl)

theorem main_assignTrue (v0 : Value) (v1 : Value) (W : World) (a0 : Arg Try.prog W 51 v0) (a1 : Arg Try.prog W 52 v1) : Pur Try.prog 5 [v0, v1] W (.bool true) := by
  obtain ⟨z0, rfl, hz0⟩ := Arg.int Try.underlying51 a0
  obtain ⟨lim, rfl⟩ : ∃ q : Nat, z0 = q := ⟨z0.toNat, by have h0 : 0 ≤ z0 ∧ z0 ≤ 65535 := hz0; omega⟩
  have h_lim : lim < 65536 := by have h0 : 0 ≤ ((lim : Nat) : Int) ∧ ((lim : Nat) : Int) ≤ 65535 := hz0; omega
  obtain ⟨A_l, c_l, l, rfl, hle1, hm1, o_l, k_l⟩ := Arg.slice (fun v : Int => [Value.int .u16 v]) (fun x : Int => 0 ≤ x ∧ x ≤ 65535) Try.underlying52 (show Try.prog.cellsOf 51 = 1 by kernel_rfl) (by omega) (fun f cs h => OKc.int Try.underlying51 h) a1
  have h_l : l.length ≤ c_l ∧ c_l ≤ 9223372036854775807 := ⟨hle1, by unfold maxLen at hm1; omega⟩
  exact law_assignTrue lim A_l c_l l W h_lim o_l h_l k_l

namespace LawAssignTrue
open Go.ChangeShapes Go.WideShapes Go.ChangeAt Go.RowKit Go.Eg
set_option linter.unusedVariables false
theorem own : ownKnob Try.prog.godebug = none := by kernel_rfl
theorem laidOut : laidOutB Try.prog = true := by kernel_rfl
set_option maxRecDepth 100000 in
theorem lifted (os : Os) (started : os.Started) (H : Type) (enc : TypeId × Value → H) :
    ReturnsInHanded {} Try.checked os 5 .any (Rows.assignTrueSpec.pre6 enc Try.prog Try.f5 Rows.assignTrueRow.domain false) (Rows.assignTrueSpec.post enc Try.prog Try.f5 false true false false) := by
  refine returnsInHanded_of_change (C := Try.checked) own started (by kernel_rfl) Try.func5
    (ChangeSpec.witness6 (enc := enc) (C := Try.checked) false ⟨#[], #[.int .u16 0, .slice none 0 0], []⟩ 8 (by kernel_rfl) (by kernel_rfl) (by kernel_rfl) (by kernel_rfl)) ?_
  intro W base args ds gs before hval0 hW hcnd _
  have hval : ∀ (j : Nat) t v, Try.f5.params[j]? = some t → args[j]? = some v → Value.okWide Try.prog W .any base t v := hval0
  have hW' := hW
  obtain ⟨p, q, hA0, hV, rfl, hfz, hnd⟩ := hW
  have hA : DataW.TrodAll enc Try.prog W 0 (fun _ => true) true Try.f5.params.toList args.toList ds p := hA0
  rw [Try.params5] at hA hval
  obtain ⟨v0, vs0, d0, ds0, p0, q0, hargs, rfl, rfl, h0, r0⟩ := trodAll_cons hA
  obtain ⟨v1, vs1, d1, ds1, p1, q1, rfl, rfl, rfl, h1, r1⟩ := trodAll_cons r0
  obtain ⟨rfl, rfl, rfl⟩ := trodAll_nil r1
  obtain rfl : args = #[v0, v1] := by cases args; simp_all
  obtain ⟨rfl, rfl⟩ := trodVars_none hV
  have a0 := Arg.of h0 (hval 0 51 v0 rfl rfl)
  have lt0 : ∀ x ∈ p0, x.block < W.heap.size := by obtain ⟨m, hm⟩ := h0; exact DataW.trod_lt m _ _ _ hm
  have a1 := Arg.of h1 (hval 1 52 v1 rfl rfl)
  have lt1 : ∀ x ∈ p1, x.block < W.heap.size := by obtain ⟨m, hm⟩ := h1; exact DataW.trod_lt m _ _ _ hm
  clear hA0 hval0
  simp only [List.append_nil] at hW'
  refine Calls.mono (main_assignTrue v0 v1 W a0 a1) ?_
  rintro e W' ⟨v, rfl, rfl, hu⟩
  have bel := hu.below
  have targ := (trodAll_cons_mk (Below.trod laidOut (by kernel_rfl) (of_decide_eq_true (by kernel_rfl)) h0 bel lt0) (trodAll_cons_mk (Below.trod laidOut (by kernel_rfl) (of_decide_eq_true (by kernel_rfl)) h1 bel lt1) trodAll_mk0))
  simp only [List.append_nil] at targ
  exact ⟨_, rfl, _, _, _, [], _, [], hW', trodAll_mk1 (shut_bool Try.underlying4 _), targ, rfl, bel.frame _, fun h => by cases h⟩
theorem over : Rows.assignTrueRow.holds Try.pinned (OpenSpec.ofChange Rows.assignTrueSpec) :=
  OpenClaim.holds_of_wide 5 Try.f5 rfl rfl rfl rfl rfl rfl rfl ⟨rfl, rfl, rfl, rfl, rfl⟩ rfl rfl rfl rfl rfl (by kernel_rfl) Try.func5 (by kernel_rfl)
    (of_decide_eq_true (by kernel_rfl)) (by unfold Func.isWrapper; first | (rw [if_pos (by decide +kernel)]; kernel_rfl) | (rw [if_neg (by decide +kernel)]; exact ⟨rfl, rfl⟩))
    (fun os started H enc _ => lifted os started H enc)
theorem proved : Rows.AssignTrueSaid := over
end LawAssignTrue
end Go.Proofs.Ytmolaicpbaiioaa
