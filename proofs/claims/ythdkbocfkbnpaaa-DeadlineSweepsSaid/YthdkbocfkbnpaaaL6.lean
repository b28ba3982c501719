/- DeadlineSweeps: for every start, every list of flags and every configuration the law returns true. No condition. -/
import Derived.Test.YthdkbocfkbnpaaaW9
namespace Go.Proofs.Ythdkbocfkbnpaaa
open Go.RowKit Go.Eg
set_option synthInstance.maxSize 3000
set_option linter.unusedSimpArgs false
set_option linter.unusedVariables false
theorem swp_enough {c : C} (hc : Cok c) {N m b s : Nat} (hN : c.capa = (N : Int)) (hm : blN c = (m : Int)) (hb : ¬ (b : Int) / c.elen ≤ sweepV c) (hs : min N (b * m) ≤ s) : N ≤ s := by
  have h1 := bl_pos hc
  have h2 := hc.elen
  have h3 := hc.capa
  have h4 := blocks_bd hc
  have h5 : blocksV c ≤ b := by
    refine Classical.byContradiction fun h => ?_
    have h6 : (b : Int) ≤ blocksV c - 1 := by omega
    have h7 : (b : Int) / c.elen ≤ (blocksV c - 1) / c.elen := Int.ediv_le_ediv (by omega) h6
    exact hb h7
  have h8 : (N : Int) ≤ b * m := by
    have h9 : (c.capa - 1) / blN c + 1 ≤ b := h5
    rw [hN, hm] at h9
    have h10 := Int.lt_ediv_add_one_mul_self ((N : Int) - 1) (show 0 < (m : Int) by omega)
    have h11 : (((N : Int) - 1) / (m : Int) + 1) * (m : Int) ≤ (b : Int) * m := Int.mul_le_mul_of_nonneg_right h9 (by omega)
    omega
  have h12 : N ≤ b * m := by exact_mod_cast h8
  omega
theorem swp_succ {b m N s made : Nat} (h : min N (b * m) ≤ s) (h2 : min N m ≤ made) : min N ((b + 1) * m) ≤ s + made := by
  rw [Nat.add_mul, Nat.one_mul]; omega
theorem div_bd {b : Nat} {c : C} (hc : Cok c) : 0 ≤ (b : Int) / c.elen ∧ (b : Int) / c.elen ≤ b := by
  have := hc.elen
  exact ⟨Int.ediv_nonneg (by omega) (by omega), Int.ediv_le_self _ (by omega)⟩

set_option maxHeartbeats 12000000 in
theorem law_deadlineSweeps (start : Nat) (A_rd : Option Addr) (c_rd : Nat) (rd : List Bool) (c : C) (w : World) (h_start : start < 65536) (o_rd : Old w A_rd rd.length 1 (rd.map (fun v : Bool => [Value.bool v]))) (h_rd : rd.length ≤ c_rd ∧ c_rd ≤ 9223372036854775807) (k_rd : ∀ x ∈ rd, (fun _ : Bool => True) x) (k_c : (c).ok) : Pur Try.prog 7 [.int .u16 ((start : Nat) : Int), .slice A_rd rd.length c_rd, c.v] w (.bool true) := by
  refine g_start Try.func7 rfl 99 rfl (by simp) ([]) [] (WOK.start _ _) _ rfl ?_
  refine g_seq ?_
  refine g_region ?_
  refine g_op (g_box rfl rfl rfl fun b5 => ?_)
  refine s_q (q_assign rfl) rfl ?_
  refine g_nil ?_
  refine g_then ?_
  refine g_seq ?_
  refine g_seq ?_
  refine g_region ?_
  refine s_q (q_loadw rfl rfl) rfl ?_
  refine g_op (g_pure rfl (fun w hw => chk_any _ w) rfl ?_)
  refine s_q (q_neq rfl rfl) rfl ?_
  refine s_q (q_move rfl) rfl ?_
  refine g_split 17 rfl (fun h1 => ?_) (fun h1 => ?_)
  · refine g_gf rfl rfl rfl rfl ?_
    refine g_gf rfl rfl rfl rfl ?_
    refine g_gf rfl rfl rfl rfl ?_
    refine s_q (q_pick_t rfl rfl) rfl ?_
    refine s_q (q_move rfl) rfl ?_
    refine g_gf rfl rfl rfl rfl ?_
    refine g_gf rfl rfl rfl rfl ?_
    refine g_gf rfl rfl rfl rfl ?_
    refine s_q (q_pick_t rfl rfl) rfl ?_
    refine g_nil ?_
    refine g_then ?_
    refine g_true rfl ?_
    refine g_seq ?_
    refine g_region ?_
    refine g_op (g_pure rfl (fun w1 hw1 => alive_any w1) rfl ?_)
    refine s_q (q_assign rfl) rfl ?_
    refine g_nil ?_
    refine g_then ?_
    refine g_ret ?_
    refine g_then_ret ?_
    exact fin1 rfl (.tmp rfl) (fun w' hw' => ⟨by first | rfl | (simp_all; done) | (simp_all; omega), hw'.upd⟩) _ (.inl rfl)
  · have hc0 := chk_ok (by simpa using h1) k_c
    refine s_qg (q_field rfl) rfl rfl rfl ?_
    refine s_qg (q_load rfl rfl) rfl rfl rfl ?_
    refine s_qg (q_gtr rfl rfl) rfl rfl rfl ?_
    refine s_q (q_pick_f rfl rfl) rfl ?_
    refine s_q (q_move rfl) rfl ?_
    refine g_split 22 rfl (fun h2 => ?_) (fun h2 => ?_)
    · refine g_gf rfl rfl rfl rfl ?_
      refine g_gf rfl rfl rfl rfl ?_
      refine g_gf rfl rfl rfl rfl ?_
      refine s_q (q_pick_t rfl rfl) rfl ?_
      refine g_nil ?_
      refine g_then ?_
      refine g_true rfl ?_
      refine g_seq ?_
      refine g_region ?_
      refine g_op (g_pure rfl (fun w1 hw1 => alive_any w1) rfl ?_)
      refine s_q (q_assign rfl) rfl ?_
      refine g_nil ?_
      refine g_then ?_
      refine g_ret ?_
      refine g_then_ret ?_
      exact fin1 rfl (.tmp rfl) (fun w' hw' => ⟨by first | rfl | (simp_all; done) | (simp_all; omega), hw'.upd⟩) _ (.inl rfl)
    · have hcap : c.capa ≤ 100 := by have h9 := of_decide_eq_false h2; omega
      refine s_qg (q_move rfl) rfl rfl rfl ?_
      refine s_qg (q_len rfl) rfl rfl rfl ?_
      refine s_qg (q_gtr rfl rfl) rfl rfl rfl ?_
      refine s_q (q_pick_f rfl rfl) rfl ?_
      refine g_nil ?_
      refine g_then ?_
      refine g_cond rfl (fun h3 => ?_) (fun h3 => ?_)
      · refine g_seq ?_
        refine g_region ?_
        refine g_op (g_pure rfl (fun w1 hw1 => alive_any w1) rfl ?_)
        refine s_q (q_assign rfl) rfl ?_
        refine g_nil ?_
        refine g_then ?_
        refine g_ret ?_
        refine g_then_ret ?_
        exact fin1 rfl (.tmp rfl) (fun w' hw' => ⟨by first | rfl | (simp_all; done) | (simp_all; omega), hw'.upd⟩) _ (.inl rfl)
      · have hrdl : rd.length ≤ 1000 := by have h9 := of_decide_eq_false h3; omega
        have c1 := hc0.capa; have c2 := hc0.elen; have c3 := bl_pos hc0; have c4 := hc0.parts; have c5 := hc0.vis; have c6 := hc0.pays; have c7 := sweep_bd hc0
        obtain ⟨N, hN⟩ : ∃ N : Nat, c.capa = N := ⟨c.capa.toNat, by omega⟩
        obtain ⟨m, hm⟩ : ∃ m : Nat, blN c = m := ⟨(blN c).toNat, by omega⟩
        obtain ⟨Vv, hVv⟩ : ∃ m : Nat, c.vis - c.parts = m := ⟨(c.vis - c.parts).toNat, by omega⟩
        obtain ⟨Pp, hPp⟩ : ∃ m : Nat, c.pays - c.parts = m := ⟨(c.pays - c.parts).toNat, by omega⟩
        have hmV : m = min Vv Pp := by unfold blN at hm; omega
        refine g_skip ?_
        refine g_then ?_
        refine g_seq ?_
        refine g_region ?_
        refine s_q (q_move rfl) rfl ?_
        refine s_q (q_convz (z := ((start : Nat) : Int)) rfl (wi64 (by omega) (by omega))) rfl ?_
        refine s_q (q_field rfl) rfl ?_
        refine s_q (q_load rfl rfl) rfl ?_
        refine g_val 31 (v' := .int .i64 ((N : Nat) : Int)) rfl (by rw [hN]) ?_
        refine s_q (q_remn (a := start) (b := N) rfl rfl (by first | omega | (simp; omega) | (simp_all; omega))) rfl ?_
        refine s_q (q_assign rfl) rfl ?_
        refine g_nil ?_
        refine g_then ?_
        refine g_seq ?_
        refine g_region ?_
        refine s_q (q_assign rfl) rfl ?_
        refine g_nil ?_
        refine g_then ?_
        refine g_seq ?_
        refine g_region ?_
        refine s_q (q_assign rfl) rfl ?_
        refine g_nil ?_
        refine g_then ?_
        refine g_seq ?_
        refine g_seq ?_
        refine g_region ?_
        refine s_q (q_assign rfl) rfl ?_
        refine g_nil ?_
        refine g_then ?_
        refine g_block ?_
        refine g_loopk [1, 5, 6] (fun (x : Nat × Nat × Nat × Nat) => [(10, .int .i64 ((x.1 : Nat) : Int)), (8, .int .i64 ((x.2.1 : Nat) : Int)), (9, .int .i64 ((x.2.2.1 : Nat) : Int)), (7, .int .i64 ((x.2.2.2 : Nat) : Int))]) (fun (x : Nat × Nat × Nat × Nat) => [Res.blk b5 26 c.c]) (fun (x : Nat × Nat × Nat × Nat) => x.1 ≤ x.2.1 ∧ x.2.1 ≤ 2 * N ∧ x.2.2.1 ≤ 100 * x.1 ∧ x.2.2.2 < N ∧ min N (x.1 * m) ≤ x.2.1) (fun (x : Nat × Nat × Nat × Nat) => 2 * N + 1 - x.1) (0, 0, 0, (start % N)) (by (try dsimp only); exact ⟨(by omega), (by omega), (by omega), (Nat.mod_lt _ (by omega)), (by simp)⟩) rfl (by repeat (first | exact trivial | refine ⟨rfl, ?_⟩)) wok_sub ?_
        rintro ⟨b, s, u, a⟩ ⟨hbs, hs2, hu, ha, hmin⟩
        replace hbs : b ≤ s := hbs
        replace hs2 : s ≤ 2 * N := hs2
        replace hu : u ≤ 100 * b := hu
        replace ha : a < N := ha
        replace hmin : min N (b * m) ≤ s := hmin
        refine g_setL (L' := [Res.blk b5 26 c.c]) rfl ?_
        refine g_val 10 (v' := .int .i64 ((b : Nat) : Int)) rfl rfl ?_
        refine g_val 8 (v' := .int .i64 ((s : Nat) : Int)) rfl rfl ?_
        refine g_val 9 (v' := .int .i64 ((u : Nat) : Int)) rfl rfl ?_
        refine g_val 7 (v' := .int .i64 ((a : Nat) : Int)) rfl rfl ?_
        refine g_seq ?_
        refine g_seq ?_
        refine d_regionL (L0 := [Res.blk b5 26 c.c]) [] mixed rfl rfl wok_sub ?_
        refine d_q 0 rfl (by kernel_rfl) (q_move rfl) wok_sub rfl (ls' := #[true, false, false, false, false, false, false, false, false, false, false, false, false]) rfl ?_
        refine d_q 1 rfl (by kernel_rfl) (q_field rfl) wok_sub rfl (ls' := #[true, true, false, false, false, false, false, false, false, false, false, false, false]) rfl ?_
        refine d_q 2 rfl (by kernel_rfl) (q_load rfl rfl) wok_sub rfl (ls' := #[true, true, true, false, false, false, false, false, false, false, false, false, false]) rfl ?_
        refine d_q 3 rfl (by kernel_rfl) (q_quo rfl rfl (by omega)) wok_sub rfl (ls' := #[true, true, true, true, false, false, false, false, false, false, false, false, false]) rfl ?_
        refine g_val 36 (v' := .int .i64 (((b : Nat) : Int) / c.elen)) rfl (by rw [Int.tdiv_eq_ediv_of_nonneg (by omega), wi64 (by have h9 := div_bd (b := b) hc0; omega) (by have h9 := div_bd (b := b) hc0; omega)]) ?_
        refine d_q 4 rfl (by kernel_rfl) (q_loadw rfl rfl) wok_sub rfl (ls' := #[true, true, true, true, true, false, false, false, false, false, false, false, false]) rfl ?_
        refine d_op 5 rfl (by kernel_rfl) (ls' := #[true, true, true, true, true, true, false, false, false, false, false, false, false]) rfl wok_sub (g_pure rfl (fun w1 hw1 => sw_any c w1 hc0) rfl ?_)
        refine d_q 6 rfl (by kernel_rfl) (q_leq rfl rfl) wok_sub rfl (ls' := #[true, true, true, true, true, true, true, false, false, false, false, false, false]) rfl ?_
        refine d_q 7 rfl (by kernel_rfl) (q_move rfl) wok_sub rfl (ls' := #[true, true, true, true, true, true, true, true, false, false, false, false, false]) rfl ?_
        refine g_split 40 rfl (fun h4 => ?_) (fun h4 => ?_)
        · refine d_qg 8 rfl (by kernel_rfl) (q_move rfl) rfl rfl wok_sub rfl (ls' := #[true, true, true, true, true, true, true, true, true, false, false, false, false]) rfl ?_
          refine d_qg 9 rfl (by kernel_rfl) (q_field rfl) rfl rfl wok_sub rfl (ls' := #[true, true, true, true, true, true, true, true, true, true, false, false, false]) rfl ?_
          refine d_qg 10 rfl (by kernel_rfl) (q_load rfl rfl) rfl rfl wok_sub rfl (ls' := #[true, true, true, true, true, true, true, true, true, true, true, false, false]) rfl ?_
          refine g_val 43 (v' := .int .i64 ((N : Nat) : Int)) rfl (by rw [hN]) ?_
          refine d_qg 11 rfl (by kernel_rfl) (q_lss rfl rfl) rfl rfl wok_sub rfl (ls' := #[true, true, true, true, true, true, true, true, true, true, true, true, false]) rfl ?_
          refine d_q 12 rfl (by kernel_rfl) (q_pick_t rfl rfl) wok_sub rfl (ls' := #[true, true, true, true, true, true, true, true, true, true, true, true, true]) rfl ?_
          refine d_end (by kernel_rfl) (.inr wok_sub) ?_
          refine g_then ?_
          refine g_cond rfl (fun h5 => ?_) (fun h5 => ?_)
          · have hsN : s < N := by have h9 := of_decide_eq_true h5; omega
            refine g_skip ?_
            refine g_then ?_
            refine g_seq ?_
            refine g_block ?_
            refine g_seq ?_
            refine g_region ?_
            refine s_q (q_field rfl) rfl ?_
            refine s_q (q_load rfl rfl) rfl ?_
            refine g_val 49 (v' := .int .i64 ((N : Nat) : Int)) rfl (by rw [hN]) ?_
            refine g_op (g_make (n := N) rfl rfl rfl rfl (by omega) rfl fun g50 => ?_)
            refine g_rowels (A := some ⟨g50, 0, none⟩) ((List.replicate N false).map (fun v : Bool => [Value.bool v])) (by simp) ?_
            refine s_q (q_assign rfl) rfl ?_
            refine g_nil ?_
            refine g_then ?_
            refine g_seq ?_
            refine g_seq ?_
            refine g_region ?_
            refine s_q (q_move rfl) rfl ?_
            refine s_q (q_len rfl) rfl ?_
            refine s_q (q_move rfl) rfl ?_
            refine g_nil ?_
            refine g_then ?_
            refine g_block ?_
            refine g_loopk [1, 5, 6, 7, 8, 10, 11, 52] (fun (x : Nat × Nat × List Bool) => [(53, .int .i64 ((x.1 : Nat) : Int)), (9, .int .i64 ((x.2.1 : Nat) : Int))]) (fun (x : Nat × Nat × List Bool) => [Res.row (some ⟨g50, 0, none⟩) N N 4 1 ((x.2.2).map (fun v : Bool => [Value.bool v])), Res.blk b5 26 c.c]) (fun (x : Nat × Nat × List Bool) => x.1 ≤ N ∧ (x.2.2).length = N ∧ x.2.1 = u + x.1) (fun (x : Nat × Nat × List Bool) => N - x.1) (0, u, (List.replicate N false)) (by (try dsimp only); exact ⟨(by omega), (by simp), rfl⟩) rfl (by repeat (first | exact trivial | refine ⟨rfl, ?_⟩)) wok_sub ?_
            rintro ⟨i, u2, rl⟩ ⟨hiN, hrl, hu2⟩
            replace hiN : i ≤ N := hiN
            replace hrl : (rl).length = N := hrl
            replace hu2 : u2 = u + i := hu2
            refine g_setL (L' := [Res.row (some ⟨g50, 0, none⟩) N N 4 1 ((rl).map (fun v : Bool => [Value.bool v])), Res.blk b5 26 c.c]) rfl ?_
            refine g_val 53 (v' := .int .i64 ((i : Nat) : Int)) rfl rfl ?_
            refine g_val 9 (v' := .int .i64 ((u2 : Nat) : Int)) rfl rfl ?_
            refine g_seq ?_
            refine g_region ?_
            refine s_q (q_lss rfl rfl) rfl ?_
            refine g_nil ?_
            refine g_then ?_
            refine g_seq ?_
            refine g_cond rfl (fun h6 => ?_) (fun h6 => ?_)
            · have lt_i : i < N := by have h9 := of_decide_eq_true h6; omega
              refine g_skip ?_
              refine g_then ?_
              refine g_seq ?_
              refine g_block ?_
              refine g_seq ?_
              refine g_region ?_
              refine s_q (q_move rfl) rfl ?_
              refine s_q (q_assign rfl) rfl ?_
              refine g_nil ?_
              refine g_then ?_
              refine g_seq ?_
              refine g_region ?_
              refine s_q (q_move rfl) rfl ?_
              refine s_q (q_move rfl) rfl ?_
              refine s_q (q_move rfl) rfl ?_
              refine s_q (q_move rfl) rfl ?_
              refine s_q (q_len rfl) rfl ?_
              refine s_q (q_lss rfl rfl) rfl ?_
              refine s_q (q_move rfl) rfl ?_
              refine g_split 62 rfl (fun h7 => ?_) (fun h7 => ?_)
              · have lt_u : u2 < rd.length := by have h9 := of_decide_eq_true h7; omega
                refine s_qg (q_move rfl) rfl rfl rfl ?_
                refine s_qg (q_move rfl) rfl rfl rfl ?_
                refine s_qg (q_index (i := u2) rfl rfl rfl (o_rd.rdb rfl) (by first | omega | (simp; done) | (simp; omega))) rfl rfl rfl ?_
                refine s_qg (q_load_el (i := u2) (o := 0) rfl (o_rd.rdb rfl) (map_get (by first | assumption | omega)) rfl rfl) rfl rfl rfl ?_
                refine s_q (q_pick_t rfl rfl) rfl ?_
                refine s_q (q_index (i := i) rfl rfl rfl (InRow.rdb (A := (some ⟨g50, 0, none⟩)) (els := (rl).map (fun v : Bool => [Value.bool v])) (by first | rfl | assumption | (simp; done) | (simp_all; done) | (simp; omega) | (simp_all; omega)) (map_cat (c := (fun v : Bool => [Value.bool v])) (fun _ => rfl) _)) (by first | omega | (simp; done) | (simp; omega))) rfl ?_
                refine g_op (g_store_el (A := (some ⟨g50, 0, none⟩)) (i := i) (o := 0) (cs' := (fun v : Bool => [Value.bool v]) ((rd[u2]))) rfl rfl rfl rfl rfl (map_get (by first | assumption | omega | (simp_all; done) | (simp_all; omega))) (by first | (simp; done) | exact Nat.le_refl _) rfl rfl ?_)
                refine g_rowels (A := (some ⟨g50, 0, none⟩)) ((rl.set i (rd[u2])).map (fun v : Bool => [Value.bool v])) (by simp only [List.map_set]) ?_
                refine g_nil ?_
                refine g_then ?_
                refine g_region ?_
                refine s_q (q_move rfl) rfl ?_
                refine s_q (q_inc rfl rfl (by omega)) rfl ?_
                refine s_q (q_assign rfl) rfl ?_
                refine g_nil ?_
                refine g_blk_n ?_
                refine g_then ?_
                refine g_region ?_
                refine s_q (q_inc rfl rfl (by omega)) rfl ?_
                refine s_q (q_move rfl) rfl ?_
                refine g_nil ?_
                exact g_again ((i + 1), (u2 + 1), (rl.set i (rd[u2]))) (by (try dsimp only); exact ⟨(by omega), (by simp; omega), (by omega)⟩) (by dsimp only; omega) (by repeat (first | exact trivial | refine ⟨rfl, ?_⟩)) wok_sub
              · refine g_gf rfl rfl rfl rfl ?_
                refine g_gf rfl rfl rfl rfl ?_
                refine g_gf rfl rfl rfl rfl ?_
                refine g_gf rfl rfl rfl rfl ?_
                refine s_q (q_pick_f rfl rfl) rfl ?_
                refine s_q (q_index (i := i) rfl rfl rfl (InRow.rdb (A := (some ⟨g50, 0, none⟩)) (els := (rl).map (fun v : Bool => [Value.bool v])) (by first | rfl | assumption | (simp; done) | (simp_all; done) | (simp; omega) | (simp_all; omega)) (map_cat (c := (fun v : Bool => [Value.bool v])) (fun _ => rfl) _)) (by first | omega | (simp; done) | (simp; omega))) rfl ?_
                refine g_op (g_store_el (A := (some ⟨g50, 0, none⟩)) (i := i) (o := 0) (cs' := (fun v : Bool => [Value.bool v]) (false)) rfl rfl rfl rfl rfl (map_get (by first | assumption | omega | (simp_all; done) | (simp_all; omega))) (by first | (simp; done) | exact Nat.le_refl _) rfl rfl ?_)
                refine g_rowels (A := (some ⟨g50, 0, none⟩)) ((rl.set i false).map (fun v : Bool => [Value.bool v])) (by simp only [List.map_set]) ?_
                refine g_nil ?_
                refine g_then ?_
                refine g_region ?_
                refine s_q (q_move rfl) rfl ?_
                refine s_q (q_inc rfl rfl (by omega)) rfl ?_
                refine s_q (q_assign rfl) rfl ?_
                refine g_nil ?_
                refine g_blk_n ?_
                refine g_then ?_
                refine g_region ?_
                refine s_q (q_inc rfl rfl (by omega)) rfl ?_
                refine s_q (q_move rfl) rfl ?_
                refine g_nil ?_
                exact g_again ((i + 1), (u2 + 1), (rl.set i false)) (by (try dsimp only); exact ⟨(by omega), (by simp; omega), (by omega)⟩) (by dsimp only; omega) (by repeat (first | exact trivial | refine ⟨rfl, ?_⟩)) wok_sub
            · have eq_i : i = N := by have h9 := of_decide_eq_false h6; omega
              refine g_exit ?_
              refine g_then_x (g_then_x (g_blk_hit ?_))
              refine g_then ?_
              refine g_seq ?_
              refine g_region ?_
              refine s_q (q_assign rfl) rfl ?_
              refine g_nil ?_
              refine g_then ?_
              refine g_seq ?_
              refine g_region ?_
              refine s_q (q_move rfl) rfl ?_
              refine s_q (q_move rfl) rfl ?_
              refine s_q (q_field rfl) rfl ?_
              refine s_q (q_load rfl rfl) rfl ?_
              refine s_q (q_field rfl) rfl ?_
              refine s_q (q_load rfl rfl) rfl ?_
              refine s_q (q_subz (z := ((Vv : Nat) : Int)) rfl rfl (by rw [wi64 (by omega) (by omega)]; omega)) rfl ?_
              refine s_q (q_field rfl) rfl ?_
              refine s_q (q_load rfl rfl) rfl ?_
              refine s_q (q_field rfl) rfl ?_
              refine s_q (q_load rfl rfl) rfl ?_
              refine s_q (q_subz (z := ((Pp : Nat) : Int)) rfl rfl (by rw [wi64 (by omega) (by omega)]; omega)) rfl ?_
              refine g_op (g_ownS [] rfl (fun w1 hw1 ho1 => by have h7 := sweep_any a Vv Pp (some ⟨g50, 0, none⟩) N (rl) w1 (by rw [hrl]; exact (show Rd w1 [] _ _ _ _ from (Rd.ofRow (A := (some ⟨g50, 0, none⟩)) hw1)).old) (by omega) (by omega) (by omega) (by omega); rw [hrl] at h7; exact h7) rfl ?_)
              rintro ⟨Q85, qc85, ql85, md85, at85⟩ ⟨x85, y85, z85⟩
              refine ⟨_, _, inferInstance, inferInstance, ?_⟩
              simp only at x85 y85 z85
              refine s_q (q_move rfl) rfl ?_
              refine s_q (q_extract rfl rfl) rfl ?_
              refine s_q (q_extract rfl rfl) rfl ?_
              refine s_q (q_extract rfl rfl) rfl ?_
              refine s_q (q_assign rfl) rfl ?_
              refine s_q (q_assign rfl) rfl ?_
              refine g_nil ?_
              refine g_then ?_
              refine g_region ?_
              refine s_q (q_move rfl) rfl ?_
              refine s_q (q_move rfl) rfl ?_
              refine s_q (q_addn (a := s) (b := md85) rfl rfl (by first | omega | (simp; omega) | (simp_all; omega))) rfl ?_
              refine s_q (q_assign rfl) rfl ?_
              refine g_nil ?_
              refine g_blk_n ?_
              refine g_then ?_
              refine g_region ?_
              refine s_q (q_move rfl) rfl ?_
              refine s_q (q_inc rfl rfl (by omega)) rfl ?_
              refine s_q (q_assign rfl) rfl ?_
              refine g_nil ?_
              exact g_again ((b + 1), (s + md85), u2, at85) (by (try dsimp only); exact ⟨(by omega), (by omega), (by omega), z85, (swp_succ hmin (by rw [hmV]; exact x85))⟩) (by dsimp only; omega) (by repeat (first | exact trivial | refine ⟨rfl, ?_⟩)) wok_sub
          · have hend : N ≤ s := by have h9 := of_decide_eq_false h5; omega
            refine g_exit ?_
            refine g_then_x (g_then_x (g_blk_hit ?_))
            refine g_then ?_
            refine g_seq ?_
            refine g_region ?_
            refine g_op (g_pure rfl (fun w1 hw1 => alive_any w1) rfl ?_)
            refine s_q (q_move rfl) rfl ?_
            refine s_qg (q_move rfl) rfl rfl rfl ?_
            refine s_qg (q_field rfl) rfl rfl rfl ?_
            refine s_qg (q_load rfl rfl) rfl rfl rfl ?_
            refine g_val 96 (v' := .int .i64 ((N : Nat) : Int)) rfl (by rw [hN]) ?_
            refine s_qg (q_geq rfl rfl) rfl rfl rfl ?_
            refine g_litb 97 (b := true) rfl (by simp; omega) ?_
            refine s_q (q_pick_t rfl rfl) rfl ?_
            refine s_q (q_assign rfl) rfl ?_
            refine g_nil ?_
            refine g_then ?_
            refine g_ret ?_
            exact fin1 rfl (.tmp rfl) (fun w' hw' => ⟨by first | rfl | (simp_all; done) | (simp_all; omega), hw'.upd⟩) _ (.inl rfl)
        · have hend : N ≤ s := swp_enough hc0 hN hm (by simpa using h4) hmin
          refine d_gf 8 rfl (by kernel_rfl) rfl rfl rfl wok_sub rfl (ls' := #[true, true, true, true, true, true, true, true, true, false, false, false, false]) rfl ?_
          refine d_gf 9 rfl (by kernel_rfl) rfl rfl rfl wok_sub rfl (ls' := #[true, true, true, true, true, true, true, true, true, true, false, false, false]) rfl ?_
          refine d_gf 10 rfl (by kernel_rfl) rfl rfl rfl wok_sub rfl (ls' := #[true, true, true, true, true, true, true, true, true, true, true, false, false]) rfl ?_
          refine d_gf 11 rfl (by kernel_rfl) rfl rfl rfl wok_sub rfl (ls' := #[true, true, true, true, true, true, true, true, true, true, true, true, false]) rfl ?_
          refine d_q 12 rfl (by kernel_rfl) (q_pick_f rfl rfl) wok_sub rfl (ls' := #[true, true, true, true, true, true, true, true, true, true, true, true, true]) rfl ?_
          refine d_end (by kernel_rfl) (.inr wok_sub) ?_
          refine g_then ?_
          refine g_false rfl ?_
          refine g_exit ?_
          refine g_then_x (g_then_x (g_blk_hit ?_))
          refine g_then ?_
          refine g_seq ?_
          refine g_region ?_
          refine g_op (g_pure rfl (fun w1 hw1 => alive_any w1) rfl ?_)
          refine s_q (q_move rfl) rfl ?_
          refine s_qg (q_move rfl) rfl rfl rfl ?_
          refine s_qg (q_field rfl) rfl rfl rfl ?_
          refine s_qg (q_load rfl rfl) rfl rfl rfl ?_
          refine g_val 96 (v' := .int .i64 ((N : Nat) : Int)) rfl (by rw [hN]) ?_
          refine s_qg (q_geq rfl rfl) rfl rfl rfl ?_
          refine g_litb 97 (b := true) rfl (by simp; omega) ?_
          refine s_q (q_pick_t rfl rfl) rfl ?_
          refine s_q (q_assign rfl) rfl ?_
          refine g_nil ?_
          refine g_then ?_
          refine g_ret ?_
          exact fin1 rfl (.tmp rfl) (fun w' hw' => ⟨by first | rfl | (simp_all; done) | (simp_all; omega), hw'.upd⟩) _ (.inl rfl)

theorem main_deadlineSweeps (v0 : Value) (v1 : Value) (v2 : Value) (W : World) (a0 : Arg Try.prog W 39 v0) (a1 : Arg Try.prog W 54 v1) (a2 : Arg Try.prog W 26 v2) : Pur Try.prog 7 [v0, v1, v2] W (.bool true) := by
  obtain ⟨z0, rfl, hz0⟩ := Arg.int Try.underlying39 a0
  obtain ⟨start, rfl⟩ : ∃ q : Nat, z0 = q := ⟨z0.toNat, by have h0 : 0 ≤ z0 ∧ z0 ≤ 65535 := hz0; omega⟩
  have h_start : start < 65536 := by have h0 : 0 ≤ ((start : Nat) : Int) ∧ ((start : Nat) : Int) ≤ 65535 := hz0; omega
  obtain ⟨A_rd, c_rd, rd, rfl, hle1, hm1, o_rd, k_rd⟩ := Arg.slice (fun v : Bool => [Value.bool v]) (fun _ : Bool => True) Try.underlying54 (show Try.prog.cellsOf 4 = 1 by kernel_rfl) (by omega) (fun f cs h => by obtain ⟨z, hz⟩ := OKc.bool Try.underlying4 h; exact ⟨z, hz, trivial⟩) a1
  have h_rd : rd.length ≤ c_rd ∧ c_rd ≤ 9223372036854775807 := ⟨hle1, by unfold maxLen at hm1; omega⟩
  obtain ⟨cs, rfl, f, h⟩ := Arg.agg Try.underlying26 a2
  obtain ⟨c, rfl, k_c⟩ := openC f cs h
  exact law_deadlineSweeps start A_rd c_rd rd c W h_start o_rd h_rd k_rd k_c

namespace LawDeadlineSweeps
open Go.ChangeShapes Go.WideShapes Go.ChangeAt Go.RowKit Go.Eg
set_option linter.unusedVariables false
theorem own : ownKnob Try.prog.godebug = none := by kernel_rfl
theorem laidOut : laidOutB Try.prog = true := by kernel_rfl
set_option maxRecDepth 100000 in
theorem lifted (os : Os) (started : os.Started) (H : Type) (enc : TypeId × Value → H) :
    ReturnsInHanded {} Try.checked os 7 .any (Rows.deadlineSweepsSpec.pre6 enc Try.prog Try.f7 Rows.deadlineSweepsRow.domain false) (Rows.deadlineSweepsSpec.post enc Try.prog Try.f7 false true false false) := by
  refine returnsInHanded_of_change (C := Try.checked) own started (by kernel_rfl) Try.func7
    (ChangeSpec.witness6 (enc := enc) (C := Try.checked) false ⟨#[], #[.int .u16 0, .slice none 0 0, .agg #[.int .i64 0, .int .i64 0, .int .u64 0, .int .u64 0, .int .u64 0, .int .u64 0, .int .u64 0, .int .u64 0, .int .u64 0, .int .u64 0, .int .i64 0, .int .i64 0, .int .i64 0, .int .i64 0, .int .i64 0, .int .i64 0, .int .i64 0, .int .i64 0, .int .u64 0, .int .u64 0]], []⟩ 8 (by kernel_rfl) (by kernel_rfl) (by kernel_rfl) (by kernel_rfl)) ?_
  intro W base args ds gs before hval0 hW hcnd _
  have hval : ∀ (j : Nat) t v, Try.f7.params[j]? = some t → args[j]? = some v → Value.okWide Try.prog W .any base t v := hval0
  have hW' := hW
  obtain ⟨p, q, hA0, hV, rfl, hfz, hnd⟩ := hW
  have hA : DataW.TrodAll enc Try.prog W 0 (fun _ => true) true Try.f7.params.toList args.toList ds p := hA0
  rw [Try.params7] at hA hval
  obtain ⟨v0, vs0, d0, ds0, p0, q0, hargs, rfl, rfl, h0, r0⟩ := trodAll_cons hA
  obtain ⟨v1, vs1, d1, ds1, p1, q1, rfl, rfl, rfl, h1, r1⟩ := trodAll_cons r0
  obtain ⟨v2, vs2, d2, ds2, p2, q2, rfl, rfl, rfl, h2, r2⟩ := trodAll_cons r1
  obtain ⟨rfl, rfl, rfl⟩ := trodAll_nil r2
  obtain rfl : args = #[v0, v1, v2] := by cases args; simp_all
  obtain ⟨rfl, rfl⟩ := trodVars_none hV
  have a0 := Arg.of h0 (hval 0 39 v0 rfl rfl)
  have lt0 : ∀ x ∈ p0, x.block < W.heap.size := by obtain ⟨m, hm⟩ := h0; exact DataW.trod_lt m _ _ _ hm
  have a1 := Arg.of h1 (hval 1 54 v1 rfl rfl)
  have lt1 : ∀ x ∈ p1, x.block < W.heap.size := by obtain ⟨m, hm⟩ := h1; exact DataW.trod_lt m _ _ _ hm
  have a2 := Arg.of h2 (hval 2 26 v2 rfl rfl)
  have lt2 : ∀ x ∈ p2, x.block < W.heap.size := by obtain ⟨m, hm⟩ := h2; exact DataW.trod_lt m _ _ _ hm
  clear hA0 hval0
  simp only [List.append_nil] at hW'
  refine Calls.mono (main_deadlineSweeps v0 v1 v2 W a0 a1 a2) ?_
  rintro e W' ⟨v, rfl, rfl, hu⟩
  have bel := hu.below
  have targ := (trodAll_cons_mk (Below.trod laidOut (by kernel_rfl) (of_decide_eq_true (by kernel_rfl)) h0 bel lt0) (trodAll_cons_mk (Below.trod laidOut (by kernel_rfl) (of_decide_eq_true (by kernel_rfl)) h1 bel lt1) (trodAll_cons_mk (Below.trod laidOut (by kernel_rfl) (of_decide_eq_true (by kernel_rfl)) h2 bel lt2) trodAll_mk0)))
  simp only [List.append_nil] at targ
  exact ⟨_, rfl, _, _, _, [], _, [], hW', trodAll_mk1 (shut_bool Try.underlying4 _), targ, rfl, bel.frame _, fun h => by cases h⟩
theorem over : Rows.deadlineSweepsRow.holds Try.pinned (OpenSpec.ofChange Rows.deadlineSweepsSpec) :=
  OpenClaim.holds_of_wide 7 Try.f7 rfl rfl rfl rfl rfl rfl rfl ⟨rfl, rfl, rfl, rfl, rfl⟩ rfl rfl rfl rfl rfl (by kernel_rfl) Try.func7 (by kernel_rfl)
    (of_decide_eq_true (by kernel_rfl)) (by unfold Func.isWrapper; first | (rw [if_pos (by decide +kernel)]; kernel_rfl) | (rw [if_neg (by decide +kernel)]; exact ⟨rfl, rfl⟩))
    (fun os started H enc _ => lifted os started H enc)
theorem proved : Rows.DeadlineSweepsSaid := over
end LawDeadlineSweeps
end Go.Proofs.Ythdkbocfkbnpaaa
