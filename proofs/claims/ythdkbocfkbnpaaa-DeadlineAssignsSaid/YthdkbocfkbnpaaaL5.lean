/- DeadlineAssigns: for every list of weights and every configuration the law returns true. No condition. -/
import Derived.Test.YthdkbocfkbnpaaaW8
namespace Go.Proofs.Ythdkbocfkbnpaaa
open Go.RowKit Go.Eg
set_option synthInstance.maxSize 3000
set_option linter.unusedSimpArgs false
set_option linter.unusedVariables false
set_option maxHeartbeats 12000000 in
theorem law_deadlineAssigns (PA : Option Addr) (nA : Nat) (lA : List Int) (PB : Option Addr) (nB : Nat) (lB : List Int) (PD : Option Addr) (nD : Nat) (lD : List Int) (c : C) (w : World) (oA : Old w PA lA.length 1 (lA.map (fun v : Int => [Value.int .u16 v]))) (hA : lA.length ≤ nA ∧ nA ≤ 9223372036854775807) (kA : ∀ x ∈ lA, 0 ≤ x ∧ x ≤ 65535) (oB : Old w PB lB.length 1 (lB.map (fun v : Int => [Value.int .u16 v]))) (hB : lB.length ≤ nB ∧ nB ≤ 9223372036854775807) (kB : ∀ x ∈ lB, 0 ≤ x ∧ x ≤ 65535) (oD : Old w PD lD.length 1 (lD.map (fun v : Int => [Value.int .u16 v]))) (hD : lD.length ≤ nD ∧ nD ≤ 9223372036854775807) (kD : ∀ x ∈ lD, 0 ≤ x ∧ x ≤ 65535) (k_c : (c).ok) : Pur Try.prog 6 [.agg [.slice PA lA.length nA, .slice PB lB.length nB, .slice PD lD.length nD].toArray, c.v] w (.bool true) := by
  refine g_start Try.func6 rfl 177 rfl (by simp) ([]) [] (WOK.start _ _) _ rfl ?_
  refine g_seq ?_
  refine g_region ?_
  refine g_op (g_box (c := [Value.slice PA lA.length nA, Value.slice PB lB.length nB, Value.slice PD lD.length nD]) rfl rfl rfl fun b2 => ?_)
  refine g_op (g_box rfl rfl rfl fun b3 => ?_)
  refine s_q (q_assign rfl) rfl ?_
  refine g_nil ?_
  refine g_then ?_
  refine g_seq ?_
  refine d_regionL (L0 := [Res.blk b2 38 [Value.slice PA lA.length nA, Value.slice PB lB.length nB, Value.slice PD lD.length nD], Res.blk b3 26 c.c]) [] mixed rfl rfl wok_sub ?_
  refine d_q 0 rfl (by kernel_rfl) (q_index_arr (i := 0) rfl rfl rfl (by decide)) wok_sub rfl (ls' := #[true, false, false, false, false, false, false]) rfl ?_
  refine d_q 1 rfl (by kernel_rfl) (q_load rfl rfl) wok_sub rfl (ls' := #[true, true, false, false, false, false, false]) rfl ?_
  refine d_q 2 rfl (by kernel_rfl) (q_index_arr (i := 1) rfl rfl rfl (by decide)) wok_sub rfl (ls' := #[true, true, true, false, false, false, false]) rfl ?_
  refine d_q 3 rfl (by kernel_rfl) (q_load rfl rfl) wok_sub rfl (ls' := #[true, true, true, true, false, false, false]) rfl ?_
  refine d_q 4 rfl (by kernel_rfl) (q_assign rfl) wok_sub rfl (ls' := #[true, true, true, true, true, false, false]) rfl ?_
  refine d_q 5 rfl (by kernel_rfl) (q_assign rfl) wok_sub rfl (ls' := #[true, true, true, true, true, true, false]) rfl ?_
  refine d_q 6 rfl (by kernel_rfl) (q_assign rfl) wok_sub rfl (ls' := #[true, true, true, true, true, true, true]) rfl ?_
  refine d_end (by kernel_rfl) (.inr wok_sub) ?_
  refine g_then ?_
  refine g_seq ?_
  refine g_seq ?_
  refine g_region ?_
  refine s_q (q_index_arr (i := 2) rfl rfl rfl (by decide)) rfl ?_
  refine s_q (q_load rfl rfl) rfl ?_
  refine s_q (q_len rfl) rfl ?_
  refine s_q (q_gtr rfl rfl) rfl ?_
  refine g_nil ?_
  refine g_then ?_
  refine g_cond rfl (fun h1 => ?_) (fun h1 => ?_)
  · have hD0 : 0 < lD.length := by simpa using h1
    refine g_region ?_
    refine s_q (q_index_arr (i := 2) rfl rfl rfl (by decide)) rfl ?_
    refine s_q (q_load rfl rfl) rfl ?_
    refine s_q (q_index (i := 0) rfl rfl rfl (oD.rdb rfl) (by first | omega | (simp; done) | (simp; omega))) rfl ?_
    refine s_q (q_load_el (i := 0) (o := 0) rfl (oD.rdb rfl) (map_get (by first | assumption | omega)) rfl rfl) rfl ?_
    refine s_q (q_assign rfl) rfl ?_
    obtain ⟨wt, hw0, hwt⟩ : ∃ z : Int, (0 ≤ z ∧ z ≤ 65535) ∧ z = lD[0] := ⟨_, kD _ (List.getElem_mem hD0), rfl⟩
    refine g_val 7 (v' := .int .u16 wt) rfl (by rw [hwt]) ?_
    refine g_nil ?_
    refine g_then ?_
    refine g_seq ?_
    refine g_seq ?_
    refine g_region ?_
    refine s_q (q_loadw rfl rfl) rfl ?_
    refine g_op (g_pure rfl (fun w hw => chk_any _ w) rfl ?_)
    refine s_q (q_neq rfl rfl) rfl ?_
    refine s_q (q_move rfl) rfl ?_
    refine g_split 36 rfl (fun h2 => ?_) (fun h2 => ?_)
    · refine g_gf rfl rfl rfl rfl ?_
      refine g_gf rfl rfl rfl rfl ?_
      refine g_gf rfl rfl rfl rfl ?_
      refine s_q (q_pick_t rfl rfl) rfl ?_
      refine s_q (q_move rfl) rfl ?_
      refine g_gf rfl rfl rfl rfl ?_
      refine g_gf rfl rfl rfl rfl ?_
      refine g_gf rfl rfl rfl rfl ?_
      refine s_q (q_pick_t rfl rfl) rfl ?_
      refine s_q (q_move rfl) rfl ?_
      refine g_gf rfl rfl rfl rfl ?_
      refine g_gf rfl rfl rfl rfl ?_
      refine g_gf rfl rfl rfl rfl ?_
      refine s_q (q_pick_t rfl rfl) rfl ?_
      refine s_q (q_move rfl) rfl ?_
      refine g_gf rfl rfl rfl rfl ?_
      refine g_gf rfl rfl rfl rfl ?_
      refine g_gf rfl rfl rfl rfl ?_
      refine s_q (q_pick_t rfl rfl) rfl ?_
      refine g_nil ?_
      refine g_then ?_
      refine g_true rfl ?_
      refine g_seq ?_
      refine g_region ?_
      refine g_op (g_pure rfl (fun w1 hw1 => alive_any w1) rfl ?_)
      refine s_q (q_assign rfl) rfl ?_
      refine g_nil ?_
      refine g_then ?_
      refine g_ret ?_
      refine g_then_ret ?_
      exact fin1 rfl (.tmp rfl) (fun w' hw' => ⟨by first | rfl | (simp_all; done) | (simp_all; omega), hw'.upd⟩) _ (.inl rfl)
    · have hc0 := chk_ok (by simpa using h2) k_c
      refine s_qg (q_move rfl) rfl rfl rfl ?_
      refine s_qg (q_len rfl) rfl rfl rfl ?_
      refine s_qg (q_gtr rfl rfl) rfl rfl rfl ?_
      refine s_q (q_pick_f rfl rfl) rfl ?_
      refine s_q (q_move rfl) rfl ?_
      refine g_split 41 rfl (fun h3 => ?_) (fun h3 => ?_)
      · refine g_gf rfl rfl rfl rfl ?_
        refine g_gf rfl rfl rfl rfl ?_
        refine g_gf rfl rfl rfl rfl ?_
        refine s_q (q_pick_t rfl rfl) rfl ?_
        refine s_q (q_move rfl) rfl ?_
        refine g_gf rfl rfl rfl rfl ?_
        refine g_gf rfl rfl rfl rfl ?_
        refine g_gf rfl rfl rfl rfl ?_
        refine s_q (q_pick_t rfl rfl) rfl ?_
        refine s_q (q_move rfl) rfl ?_
        refine g_gf rfl rfl rfl rfl ?_
        refine g_gf rfl rfl rfl rfl ?_
        refine g_gf rfl rfl rfl rfl ?_
        refine s_q (q_pick_t rfl rfl) rfl ?_
        refine g_nil ?_
        refine g_then ?_
        refine g_true rfl ?_
        refine g_seq ?_
        refine g_region ?_
        refine g_op (g_pure rfl (fun w1 hw1 => alive_any w1) rfl ?_)
        refine s_q (q_assign rfl) rfl ?_
        refine g_nil ?_
        refine g_then ?_
        refine g_ret ?_
        refine g_then_ret ?_
        exact fin1 rfl (.tmp rfl) (fun w' hw' => ⟨by first | rfl | (simp_all; done) | (simp_all; omega), hw'.upd⟩) _ (.inl rfl)
      · have nA20 : lA.length ≤ 20 := by have h9 := of_decide_eq_false h3; omega
        refine s_qg (q_move rfl) rfl rfl rfl ?_
        refine s_qg (q_len rfl) rfl rfl rfl ?_
        refine s_qg (q_gtr rfl rfl) rfl rfl rfl ?_
        refine s_q (q_pick_f rfl rfl) rfl ?_
        refine s_q (q_move rfl) rfl ?_
        refine g_split 46 rfl (fun h4 => ?_) (fun h4 => ?_)
        · refine g_gf rfl rfl rfl rfl ?_
          refine g_gf rfl rfl rfl rfl ?_
          refine g_gf rfl rfl rfl rfl ?_
          refine s_q (q_pick_t rfl rfl) rfl ?_
          refine s_q (q_move rfl) rfl ?_
          refine g_gf rfl rfl rfl rfl ?_
          refine g_gf rfl rfl rfl rfl ?_
          refine g_gf rfl rfl rfl rfl ?_
          refine s_q (q_pick_t rfl rfl) rfl ?_
          refine g_nil ?_
          refine g_then ?_
          refine g_true rfl ?_
          refine g_seq ?_
          refine g_region ?_
          refine g_op (g_pure rfl (fun w1 hw1 => alive_any w1) rfl ?_)
          refine s_q (q_assign rfl) rfl ?_
          refine g_nil ?_
          refine g_then ?_
          refine g_ret ?_
          refine g_then_ret ?_
          exact fin1 rfl (.tmp rfl) (fun w' hw' => ⟨by first | rfl | (simp_all; done) | (simp_all; omega), hw'.upd⟩) _ (.inl rfl)
        · have nB20 : lB.length ≤ 20 := by have h9 := of_decide_eq_false h4; omega
          refine s_qg (q_field rfl) rfl rfl rfl ?_
          refine s_qg (q_load rfl rfl) rfl rfl rfl ?_
          refine s_qg (q_lss rfl rfl) rfl rfl rfl ?_
          refine s_q (q_pick_f rfl rfl) rfl ?_
          refine s_q (q_move rfl) rfl ?_
          refine g_split 51 rfl (fun h5 => ?_) (fun h5 => ?_)
          · refine g_gf rfl rfl rfl rfl ?_
            refine g_gf rfl rfl rfl rfl ?_
            refine g_gf rfl rfl rfl rfl ?_
            refine s_q (q_pick_t rfl rfl) rfl ?_
            refine g_nil ?_
            refine g_then ?_
            refine g_true rfl ?_
            refine g_seq ?_
            refine g_region ?_
            refine g_op (g_pure rfl (fun w1 hw1 => alive_any w1) rfl ?_)
            refine s_q (q_assign rfl) rfl ?_
            refine g_nil ?_
            refine g_then ?_
            refine g_ret ?_
            refine g_then_ret ?_
            exact fin1 rfl (.tmp rfl) (fun w' hw' => ⟨by first | rfl | (simp_all; done) | (simp_all; omega), hw'.upd⟩) _ (.inl rfl)
          · have cm : 16 ≤ c.minch := by have h9 := of_decide_eq_false h5; omega
            refine s_qg (q_field rfl) rfl rfl rfl ?_
            refine s_qg (q_load rfl rfl) rfl rfl rfl ?_
            refine s_qg (q_gtr rfl rfl) rfl rfl rfl ?_
            refine s_q (q_pick_f rfl rfl) rfl ?_
            refine g_nil ?_
            refine g_then ?_
            refine g_cond rfl (fun h6 => ?_) (fun h6 => ?_)
            · refine g_seq ?_
              refine g_region ?_
              refine g_op (g_pure rfl (fun w1 hw1 => alive_any w1) rfl ?_)
              refine s_q (q_assign rfl) rfl ?_
              refine g_nil ?_
              refine g_then ?_
              refine g_ret ?_
              refine g_then_ret ?_
              exact fin1 rfl (.tmp rfl) (fun w' hw' => ⟨by first | rfl | (simp_all; done) | (simp_all; omega), hw'.upd⟩) _ (.inl rfl)
            · have cf : c.fcap ≤ 10000 := by have h9 := of_decide_eq_false h6; omega
              have km := hc0.minch
              have kf := hc0.fcap
              refine g_skip ?_
              refine g_then ?_
              refine g_seq ?_
              refine g_region ?_
              refine s_q (q_build (c := [Value.slice none ((LL.mk [] [])).f.length 0, Value.slice none ((LL.mk [] [])).v.length 0, Value.int .i64 ((100 : Nat) : Int)]) rfl rfl) rfl ?_
              refine g_op (g_box (c := [Value.slice none ((LL.mk [] [])).f.length 0, Value.slice none ((LL.mk [] [])).v.length 0, Value.int .i64 ((100 : Nat) : Int)]) rfl rfl rfl fun b58 => ?_)
              refine g_roNil none 1 ?_
              refine g_roEq (A := none) (n := 0) (els := []) ((LL.mk [] [])).v.length (((LL.mk [] [])).v.map (fun v : Int => [Value.int .i64 v])) rfl rfl ?_
              refine g_roNil none 1 ?_
              refine g_roEq (A := none) (n := 0) (els := []) ((LL.mk [] [])).f.length (((LL.mk [] [])).f.map (fun v : Int => [Value.int .i64 v])) rfl rfl ?_
              refine s_q (q_build (c := R0.c) rfl rfl) rfl ?_
              refine g_op (g_box (c := R0.c) rfl rfl rfl fun b60 => ?_)
              refine s_q (q_assign rfl) rfl ?_
              refine s_q (q_assign rfl) rfl ?_
              refine g_nil ?_
              refine g_then ?_
              refine g_seq ?_
              refine g_region ?_
              refine s_q (q_assign rfl) rfl ?_
              refine g_nilrow 10 22 1 rfl fun Az1 capz1 hcz1 => ?_
              refine g_rowels (A := Az1) (([] : List Int).map (fun v : Int => [Value.int .u64 v])) rfl ?_
              refine g_nil ?_
              refine g_then ?_
              refine g_seq ?_
              refine g_region ?_
              refine s_q (q_assign rfl) rfl ?_
              refine s_q (q_assign rfl) rfl ?_
              refine g_nil ?_
              refine g_then ?_
              refine g_seq ?_
              refine g_seq ?_
              refine g_region ?_
              refine s_q (q_move rfl) rfl ?_
              refine s_q (q_len rfl) rfl ?_
              refine s_q (q_move rfl) rfl ?_
              refine g_nil ?_
              refine g_then ?_
              refine g_block ?_
              refine g_loopk [3, 4, 6, 7, 8, 9, 12, 61, 62] (fun (x : Nat × Option Addr × Nat × List Int × Int × LL × Option Addr × Nat × Option Addr × Nat) => [(10, .slice x.2.1 x.2.2.2.1.length x.2.2.1), (11, .int .u64 x.2.2.2.2.1), (63, .int .i64 ((x.1 : Nat) : Int))]) (fun (x : Nat × Option Addr × Nat × List Int × Int × LL × Option Addr × Nat × Option Addr × Nat) => [Res.row x.2.1 (x.2.2.2.1).length x.2.2.1 22 1 ((x.2.2.2.1).map (fun v : Int => [Value.int .u64 v])), Res.blk b3 26 c.c, Res.blk b60 46 R0.c, Res.blk b58 43 [Value.slice x.2.2.2.2.2.2.1 (x.2.2.2.2.2.1).f.length x.2.2.2.2.2.2.2.1, Value.slice x.2.2.2.2.2.2.2.2.1 (x.2.2.2.2.2.1).v.length x.2.2.2.2.2.2.2.2.2, Value.int .i64 ((100 : Nat) : Int)], Res.ro x.2.2.2.2.2.2.1 (x.2.2.2.2.2.1).f.length 1 ((x.2.2.2.2.2.1).f.map (fun v : Int => [Value.int .i64 v])), Res.ro x.2.2.2.2.2.2.2.2.1 (x.2.2.2.2.2.1).v.length 1 ((x.2.2.2.2.2.1).v.map (fun v : Int => [Value.int .i64 v]))]) (fun (x : Nat × Option Addr × Nat × List Int × Int × LL × Option Addr × Nat × Option Addr × Nat) => x.1 ≤ lA.length ∧ x.2.2.2.1.length = x.1 ∧ PreI x.2.2.2.1 x.2.2.2.2.2.1 ∧ remW x.2.2.2.1 x.2.2.2.2.2.1 = x.2.2.2.2.1 ∧ lenL x.2.2.2.2.2.1 = x.1 ∧ 0 ≤ x.2.2.2.2.1 ∧ x.2.2.2.2.1 ≤ 255 * (x.1 : Int) ∧ (x.2.2.2.2.2.1).f.length ≤ x.2.2.2.2.2.2.2.1 ∧ (x.2.2.2.2.2.1).v.length ≤ x.2.2.2.2.2.2.2.2.2 ∧ ((x.2.2.2.2.2.1).f.length ≤ 100 ∧ (x.2.2.2.2.2.1).v.length ≤ 100)) (fun (x : Nat × Option Addr × Nat × List Int × Int × LL × Option Addr × Nat × Option Addr × Nat) => lA.length - x.1) (0, Az1, capz1, [], 0, (LL.mk [] []), none, 0, none, 0) (by (try dsimp only); exact ⟨Nat.zero_le _, rfl, ⟨by simp, by simp [els]⟩, (by simp [remW, els]), rfl, (by omega), (by simp), (by simp), (by simp), ⟨by simp, by simp⟩⟩) rfl (by repeat (first | exact trivial | refine ⟨rfl, ?_⟩)) wok_sub ?_
              rintro ⟨k, A, cap, W, ah, q, B0, d0, B1, d1⟩ ⟨le_k, hW, hI, hrm, hl1, ha0, ha1, u0, u1, hq⟩
              replace le_k : k ≤ lA.length := le_k
              replace hW : W.length = k := hW
              replace hI : PreI W q := hI
              replace hrm : remW W q = ah := hrm
              replace hl1 : lenL q = k := hl1
              replace ha0 : 0 ≤ ah := ha0
              replace ha1 : ah ≤ 255 * (k : Int) := ha1
              replace u0 : (q).f.length ≤ d0 := u0
              replace u1 : (q).v.length ≤ d1 := u1
              replace hq : (q).f.length ≤ 100 ∧ (q).v.length ≤ 100 := hq
              refine g_setL (L' := [Res.row A (W).length cap 22 1 ((W).map (fun v : Int => [Value.int .u64 v])), Res.blk b3 26 c.c, Res.blk b60 46 R0.c, Res.blk b58 43 [Value.slice B0 (q).f.length d0, Value.slice B1 (q).v.length d1, Value.int .i64 ((100 : Nat) : Int)], Res.ro B0 (q).f.length 1 ((q).f.map (fun v : Int => [Value.int .i64 v])), Res.ro B1 (q).v.length 1 ((q).v.map (fun v : Int => [Value.int .i64 v]))]) rfl ?_
              refine g_val 10 (v' := .slice A W.length cap) rfl rfl ?_
              refine g_val 11 (v' := .int .u64 ah) rfl rfl ?_
              refine g_val 63 (v' := .int .i64 ((k : Nat) : Int)) rfl rfl ?_
              refine g_seq ?_
              refine g_region ?_
              refine s_q (q_lss rfl rfl) rfl ?_
              refine g_nil ?_
              refine g_then ?_
              refine g_seq ?_
              refine g_cond rfl (fun h7 => ?_) (fun h7 => ?_)
              · have lt_k : k < lA.length := by have h9 := of_decide_eq_true h7; omega
                refine g_skip ?_
                refine g_then ?_
                refine g_seq ?_
                refine g_block ?_
                refine g_seq ?_
                refine g_region ?_
                refine s_q (q_move rfl) rfl ?_
                refine s_q (q_index (i := k) rfl rfl rfl (oA.rdb rfl) (by first | exact lt_k | omega)) rfl ?_
                refine s_q (q_load_el (i := k) (o := 0) rfl (oA.rdb rfl) (map_get (by first | assumption | omega)) rfl rfl) rfl ?_
                refine s_q (q_assign rfl) rfl ?_
                refine s_q (q_assign rfl) rfl ?_
                refine g_nil ?_
                refine g_then ?_
                refine g_seq ?_
                refine g_region ?_
                refine s_q (q_move rfl) rfl ?_
                refine s_q (q_move rfl) rfl ?_
                refine s_q (q_rem rfl rfl (by decide)) rfl ?_
                refine g_val 70 (v' := .int .u16 (lA[k] % 256)) rfl (by rw [Int.tmod_eq_emod_of_nonneg (by have h9 := kA _ (List.getElem_mem lt_k); omega)]) ?_
                refine s_q (q_convz (z := lA[k] % 256) rfl (wu64 (by omega) (by omega))) rfl ?_
                refine g_op (g_lit rfl rfl rfl rfl rfl fun b72 => ?_)
                refine g_blkc (b := b72) ((([(lA[k] % 256)] : List Int).map (fun v : Int => [Value.int .u64 v])).flatten) rfl ?_
                refine g_op (g_append (A := A) (els := (W).map (fun v : Int => [Value.int .u64 v])) (news := (([(lA[k] % 256)] : List Int).map (fun v : Int => [Value.int .u64 v]))) rfl rfl (InL.rdb (b := b72) rfl (by simp) rfl) (map_one (c := (fun v : Int => [Value.int .u64 v])) (by intro x; simp [Value.oneCell']) _) (by first | omega | (simp; omega) | (simp_all; omega)) rfl fun A73 cap73 => ⟨_, inferInstance, ?_⟩)
                refine g_rowels (A := A73) (((W ++ [(lA[k] % 256)])).map (fun v : Int => [Value.int .u64 v])) (by first | rfl | exact List.map_append.symm | (simp; done)) ?_
                refine s_q (q_assign rfl) rfl ?_
                refine g_nil ?_
                refine g_then ?_
                refine g_seq ?_
                refine g_region ?_
                refine s_q (q_move rfl) rfl ?_
                refine s_q (q_move rfl) rfl ?_
                refine s_q (q_rem rfl rfl (by decide)) rfl ?_
                refine g_val 76 (v' := .int .u16 (lA[k] % 256)) rfl (by rw [Int.tmod_eq_emod_of_nonneg (by have h9 := kA _ (List.getElem_mem lt_k); omega)]) ?_
                refine s_q (q_convz (z := lA[k] % 256) rfl (wu64 (by omega) (by omega))) rfl ?_
                refine s_q (q_addz (z := ah + lA[k] % 256) rfl rfl (wu64 (by omega) (by omega))) rfl ?_
                refine s_q (q_assign rfl) rfl ?_
                refine g_nil ?_
                refine g_then ?_
                refine g_region ?_
                refine s_q (q_move rfl) rfl ?_
                refine s_q (q_move rfl) rfl ?_
                refine s_q (q_remn (a := k) (b := 2) rfl rfl (by first | omega | (simp; omega) | (simp_all; omega))) rfl ?_
                refine s_q (q_move rfl) rfl ?_
                refine g_op (g_ownS [Res.blk b58 43 [Value.slice B0 (q).f.length d0, Value.slice B1 (q).v.length d1, Value.int .i64 ((100 : Nat) : Int)], Res.ro B0 (q).f.length 1 ((q).f.map (fun v : Int => [Value.int .i64 v])), Res.ro B1 (q).v.length 1 ((q).v.map (fun v : Int => [Value.int .i64 v]))] rfl (fun w1 hw1 ho1 => by have h7 := rpush_any b58 B0 B1 d0 d1 q 100 (((k : Nat) : Int)) ((((k % 2) : Nat) : Int)) w1 ho1 u0 u1 (by omega) hq; exact h7) rfl ?_)
                rintro ⟨A83, c83, AA83, cc83⟩ ⟨u83, uu83⟩
                refine ⟨_, _, inferInstance, inferInstance, ?_⟩
                simp only at u83 uu83
                have hq83 := pushL_len ((((k % 2) : Nat) : Int)) (((k : Nat) : Int)) hq
                refine g_nil ?_
                refine g_blk_n ?_
                refine g_then ?_
                refine g_region ?_
                refine s_q (q_inc rfl rfl (by omega)) rfl ?_
                refine s_q (q_move rfl) rfl ?_
                refine g_nil ?_
                have hkA := kA _ (List.getElem_mem lt_k)
                have hP := hI.push (c := (((k % 2 : Nat)) : Int)) (i := ((k : Nat) : Int)) (w := lA[k] % 256) (by omega) (by omega) (by rw [hW]) (by omega)
                refine g_rown (A := A73) ((W ++ [(lA[k] % 256)])).length (by simp) ?_
                refine g_val 10 (v' := .slice A73 ((W ++ [(lA[k] % 256)])).length cap73) rfl (by simp) ?_
                exact g_again ((k + 1), A73, cap73, (W ++ [(lA[k] % 256)]), (ah + lA[k] % 256), (pushL 100 ((((k % 2) : Nat) : Int)) (((k : Nat) : Int)) q), A83, c83, AA83, cc83) (by (try dsimp only); exact ⟨(by first | exact lt_k | omega), (by simp; omega), hP.1, (by rw [hP.2.1, hrm]), (by rw [hP.2.2.1, hl1]), (by omega), (by omega), u83, uu83, hq83⟩) (by first | omega | (simp only; omega)) (by repeat (first | exact trivial | refine ⟨rfl, ?_⟩)) wok_sub
              · have eq_k : k = lA.length := by have h9 := of_decide_eq_false h7; omega
                refine g_exit ?_
                refine g_then_x (g_then_x (g_blk_hit ?_))
                refine g_then ?_
                refine g_seq ?_
                refine g_region ?_
                refine s_q (q_move rfl) rfl ?_
                refine s_q (q_len rfl) rfl ?_
                refine g_val 86 (v' := .int .i64 ((lA.length : Nat) : Int)) rfl (by rw [hW, eq_k]) ?_
                refine s_q (q_assign rfl) rfl ?_
                refine g_nil ?_
                refine g_then ?_
                refine g_seq ?_
                refine g_region ?_
                refine s_q (q_move rfl) rfl ?_
                refine s_q (q_move rfl) rfl ?_
                refine s_q (q_rem rfl rfl (by decide)) rfl ?_
                refine g_val 89 (v' := .int .u16 (wt % 256)) rfl (by rw [Int.tmod_eq_emod_of_nonneg (by have h9 := hw0; omega)]) ?_
                refine s_q (q_convz (z := wt % 256) rfl (wu64 (by omega) (by omega))) rfl ?_
                refine g_op (g_lit rfl rfl rfl rfl rfl fun b91 => ?_)
                refine g_blkc (b := b91) ((([(wt % 256)] : List Int).map (fun v : Int => [Value.int .u64 v])).flatten) rfl ?_
                refine g_op (g_append (A := A) (els := (W).map (fun v : Int => [Value.int .u64 v])) (news := (([(wt % 256)] : List Int).map (fun v : Int => [Value.int .u64 v]))) rfl rfl (InL.rdb (b := b91) rfl (by simp) rfl) (map_one (c := (fun v : Int => [Value.int .u64 v])) (by intro x; simp [Value.oneCell']) _) (by first | omega | (simp; omega) | (simp_all; omega)) rfl fun A92 cap92 => ⟨_, inferInstance, ?_⟩)
                refine g_rowels (A := A92) (((W ++ [(wt % 256)])).map (fun v : Int => [Value.int .u64 v])) (by first | rfl | exact List.map_append.symm | (simp; done)) ?_
                refine s_q (q_assign rfl) rfl ?_
                refine g_nil ?_
                refine g_then ?_
                refine g_seq ?_
                refine g_region ?_
                refine s_q (q_move rfl) rfl ?_
                refine s_q (q_move rfl) rfl ?_
                refine g_op (g_ownS [Res.blk b58 43 [Value.slice B0 (q).f.length d0, Value.slice B1 (q).v.length d1, Value.int .i64 ((100 : Nat) : Int)], Res.ro B0 (q).f.length 1 ((q).f.map (fun v : Int => [Value.int .i64 v])), Res.ro B1 (q).v.length 1 ((q).v.map (fun v : Int => [Value.int .i64 v]))] rfl (fun w1 hw1 ho1 => by have h7 := rpush_any b58 B0 B1 d0 d1 q 100 (((lA.length : Nat) : Int)) (1) w1 ho1 u0 u1 (by omega) hq; exact h7) rfl ?_)
                rintro ⟨A95, c95, AA95, cc95⟩ ⟨u95, uu95⟩
                refine ⟨_, _, inferInstance, inferInstance, ?_⟩
                simp only at u95 uu95
                have hq95 := pushL_len (1) (((lA.length : Nat) : Int)) hq
                have hO := hI.push (c := 1) (i := ((lA.length : Nat) : Int)) (w := wt % 256) (.inr rfl) (by omega) (by rw [hW, eq_k]) (by omega)
                refine g_nil ?_
                refine g_then ?_
                refine g_seq ?_
                refine g_region ?_
                refine s_q (q_move rfl) rfl ?_
                refine s_q (q_move rfl) rfl ?_
                refine s_q (q_rem rfl rfl (by decide)) rfl ?_
                refine g_val 99 (v' := .int .u16 (wt % 256)) rfl (by rw [Int.tmod_eq_emod_of_nonneg (by omega)]) ?_
                refine s_q (q_convz (z := wt % 256) rfl (wu64 (by omega) (by omega))) rfl ?_
                refine s_q (q_loadw rfl rfl) rfl ?_
                refine g_op (g_pure rfl (fun w1 hw1 => exit_any _ _ _ _ w1 (by unfold U64; omega) (by unfold U64; omega) hc0 (by unfold I64; omega)) rfl ?_)
                refine s_q (q_move rfl) rfl ?_
                refine s_q (q_extract rfl rfl) rfl ?_
                refine s_q (q_extract rfl rfl) rfl ?_
                refine s_q (q_assign rfl) rfl ?_
                obtain ⟨hxb, K, hK, hK1, hK3, hK4, hK5⟩ := exit_asg (a := ah) (b := wt % 256) hc0 (by omega) (by omega) cm cf
                refine g_val 16 (v' := .int .i64 ((K + 1 : Nat) : Int)) rfl (by rw [hK]) ?_
                refine s_q (q_assign rfl) rfl ?_
                refine g_nil ?_
                refine g_then ?_
                refine g_seq ?_
                refine g_seq ?_
                refine g_region ?_
                refine s_q (q_move rfl) rfl ?_
                refine g_litb 105 (b := true) rfl (hxb) ?_
                refine s_q (q_not rfl) rfl ?_
                refine g_nil ?_
                refine g_then ?_
                refine g_false rfl ?_
                refine g_skip ?_
                refine g_then ?_
                refine g_seq ?_
                refine g_seq ?_
                refine g_region ?_
                refine s_q (q_assign rfl) rfl ?_
                refine g_nil ?_
                refine g_then ?_
                refine g_block ?_
                refine g_rown (A := A92) ((W ++ [wt % 256])).length (by simp) ?_
                refine g_val 10 (v' := .slice A92 ((W ++ [wt % 256])).length cap92) rfl (by simp) ?_
                refine g_loopk [3, 4, 6, 8, 9, 15, 16] (fun (x : Nat × Option Addr × Nat × List Int × Int × LL × R × Option Addr × Nat × Option Addr × Nat) => [(18, .int .i64 ((x.1 : Nat) : Int)), (10, .slice x.2.1 x.2.2.2.1.length x.2.2.1), (12, .int .u64 x.2.2.2.2.1)]) (fun (x : Nat × Option Addr × Nat × List Int × Int × LL × R × Option Addr × Nat × Option Addr × Nat) => [Res.row x.2.1 (x.2.2.2.1).length x.2.2.1 22 1 ((x.2.2.2.1).map (fun v : Int => [Value.int .u64 v])), Res.blk b3 26 c.c, Res.blk b60 46 (R.c x.2.2.2.2.2.2.1), Res.blk b58 43 [Value.slice x.2.2.2.2.2.2.2.1 (x.2.2.2.2.2.1).f.length x.2.2.2.2.2.2.2.2.1, Value.slice x.2.2.2.2.2.2.2.2.2.1 (x.2.2.2.2.2.1).v.length x.2.2.2.2.2.2.2.2.2.2, Value.int .i64 ((100 : Nat) : Int)], Res.ro x.2.2.2.2.2.2.2.1 (x.2.2.2.2.2.1).f.length 1 ((x.2.2.2.2.2.1).f.map (fun v : Int => [Value.int .i64 v])), Res.ro x.2.2.2.2.2.2.2.2.2.1 (x.2.2.2.2.2.1).v.length 1 ((x.2.2.2.2.2.1).v.map (fun v : Int => [Value.int .i64 v]))]) (fun (x : Nat × Option Addr × Nat × List Int × Int × LL × R × Option Addr × Nat × Option Addr × Nat) => 1 ≤ x.1 ∧ x.1 ≤ K + 1 ∧ PreI x.2.2.2.1 x.2.2.2.2.2.1 ∧ (((lA.length : Nat)) : Int) ∈ els x.2.2.2.2.2.1 ∧ (x.2.2.2.2.2.2.1).b = gr c x.1 - (ah + wt % 256 + x.2.2.2.2.1) + remW x.2.2.2.1 x.2.2.2.2.2.1 ∧ 0 ≤ (x.2.2.2.2.2.2.1).b ∧ (0 ≤ x.2.2.2.2.1 ∧ x.2.2.2.2.1 ≤ c.fcap) ∧ lenL x.2.2.2.2.2.1 ≤ 21 + min (x.1 - 1) lB.length ∧ x.2.2.2.1.length ≤ 21 + min (x.1 - 1) lB.length ∧ (x.2.2.2.2.2.1).f.length ≤ x.2.2.2.2.2.2.2.2.1 ∧ (x.2.2.2.2.2.1).v.length ≤ x.2.2.2.2.2.2.2.2.2.2 ∧ ((x.2.2.2.2.2.1).f.length ≤ 100 ∧ (x.2.2.2.2.2.1).v.length ≤ 100) ∧ (x.1 = 1 ∨ ((x.2.2.2.2.2.2.1).b < ofW x.2.2.2.1 (headI x.2.2.2.2.2.1) ∧ headB x.2.2.2.2.2.1 = true))) (fun (x : Nat × Option Addr × Nat × List Int × Int × LL × R × Option Addr × Nat × Option Addr × Nat) => K + 1 - x.1) (1, A92, cap92, (W ++ [wt % 256]), 0, (pushL 100 1 (((lA.length : Nat) : Int)) q), R0, A95, c95, AA95, cc95) (by (try dsimp only); exact ⟨(by omega), (by omega), hO.1, hO.2.2.2.2, (by rw [gr_one, hO.2.1, hrm]; show (0 : Int) = _; omega), (Int.le_refl 0), (by omega), (by rw [hO.2.2.1]; omega), (by simp; omega), u95, uu95, hq95, (.inl rfl)⟩) rfl (by repeat (first | exact trivial | refine ⟨rfl, ?_⟩)) wok_sub ?_
                rintro ⟨e, A2, cap2, W2, fo, q2, m2, B2, d2, B3, d3⟩ ⟨he1, he2, hI2, hown, hbal, hmb, hfo, hln, hWl, u2, u3, hq2, hst⟩
                replace he1 : 1 ≤ e := he1
                replace he2 : e ≤ K + 1 := he2
                replace hI2 : PreI W2 q2 := hI2
                replace hown : (((lA.length : Nat)) : Int) ∈ els q2 := hown
                replace hbal : (m2).b = gr c e - (ah + wt % 256 + fo) + remW W2 q2 := hbal
                replace hmb : 0 ≤ (m2).b := hmb
                replace hfo : 0 ≤ fo ∧ fo ≤ c.fcap := hfo
                replace hln : lenL q2 ≤ 21 + min (e - 1) lB.length := hln
                replace hWl : W2.length ≤ 21 + min (e - 1) lB.length := hWl
                replace u2 : (q2).f.length ≤ d2 := u2
                replace u3 : (q2).v.length ≤ d3 := u3
                replace hq2 : (q2).f.length ≤ 100 ∧ (q2).v.length ≤ 100 := hq2
                replace hst : e = 1 ∨ ((m2).b < ofW W2 (headI q2) ∧ headB q2 = true) := hst
                refine g_setL (L' := [Res.row A2 (W2).length cap2 22 1 ((W2).map (fun v : Int => [Value.int .u64 v])), Res.blk b3 26 c.c, Res.blk b60 46 (R.c m2), Res.blk b58 43 [Value.slice B2 (q2).f.length d2, Value.slice B3 (q2).v.length d3, Value.int .i64 ((100 : Nat) : Int)], Res.ro B2 (q2).f.length 1 ((q2).f.map (fun v : Int => [Value.int .i64 v])), Res.ro B3 (q2).v.length 1 ((q2).v.map (fun v : Int => [Value.int .i64 v]))]) rfl ?_
                refine g_val 18 (v' := .int .i64 ((e : Nat) : Int)) rfl rfl ?_
                refine g_val 10 (v' := .slice A2 W2.length cap2) rfl rfl ?_
                refine g_val 12 (v' := .int .u64 fo) rfl rfl ?_
                refine g_seq ?_
                refine g_seq ?_
                refine g_region ?_
                refine s_q (q_move rfl) rfl ?_
                refine s_q (q_move rfl) rfl ?_
                refine s_q (q_lss rfl rfl) rfl ?_
                refine g_nil ?_
                refine g_then ?_
                refine g_cond rfl (fun h8 => ?_) (fun h8 => ?_)
                · have lt_e : e < K + 1 := by have h9 := of_decide_eq_true h8; omega
                  have hgs := gr_succ c e
                  have hgl := gr_le (c := c) (by omega) (show e + 1 ≤ K + 1 by omega)
                  have hg0 := gr_le (c := c) (by omega) he1
                  rw [gr_one] at hg0
                  refine g_skip ?_
                  refine g_then ?_
                  refine g_seq ?_
                  refine g_block ?_
                  refine g_seq ?_
                  refine g_seq ?_
                  refine d_regionL (L0 := [Res.blk b3 26 c.c]) [] mixed rfl rfl wok_sub ?_
                  refine d_q 0 rfl (by kernel_rfl) (q_move rfl) wok_sub rfl (ls' := #[true, false, false, false, false, false, false, false, false, false, false, false, false, false, false, false, false, false]) rfl ?_
                  refine d_q 1 rfl (by kernel_rfl) (q_move rfl) wok_sub rfl (ls' := #[true, true, false, false, false, false, false, false, false, false, false, false, false, false, false, false, false, false]) rfl ?_
                  refine d_q 2 rfl (by kernel_rfl) (q_len rfl) wok_sub rfl (ls' := #[true, true, true, false, false, false, false, false, false, false, false, false, false, false, false, false, false, false]) rfl ?_
                  refine d_q 3 rfl (by kernel_rfl) (q_leq rfl rfl) wok_sub rfl (ls' := #[true, true, true, true, false, false, false, false, false, false, false, false, false, false, false, false, false, false]) rfl ?_
                  refine d_q 4 rfl (by kernel_rfl) (q_move rfl) wok_sub rfl (ls' := #[true, true, true, true, true, false, false, false, false, false, false, false, false, false, false, false, false, false]) rfl ?_
                  refine g_split 116 rfl (fun h9 => ?_) (fun h9 => ?_)
                  · have hle9 : e ≤ lB.length := by have h9 := of_decide_eq_true h9; omega
                    have hlt9 : e - 1 < lB.length := by omega
                    have hkB := kB _ (List.getElem_mem hlt9)
                    refine d_qg 5 rfl (by kernel_rfl) (q_move rfl) rfl rfl wok_sub rfl (ls' := #[true, true, true, true, true, true, false, false, false, false, false, false, false, false, false, false, false, false]) rfl ?_
                    refine d_qg 6 rfl (by kernel_rfl) (q_move rfl) rfl rfl wok_sub rfl (ls' := #[true, true, true, true, true, true, true, false, false, false, false, false, false, false, false, false, false, false]) rfl ?_
                    refine d_qg 7 rfl (by kernel_rfl) (q_move rfl) rfl rfl wok_sub rfl (ls' := #[true, true, true, true, true, true, true, true, false, false, false, false, false, false, false, false, false, false]) rfl ?_
                    refine d_qg 8 rfl (by kernel_rfl) (q_subn (a := e) (b := 1) rfl rfl (by first | omega | (simp; omega) | (simp_all; omega)) (by first | omega | (simp; omega) | (simp_all; omega))) rfl rfl wok_sub rfl (ls' := #[true, true, true, true, true, true, true, true, true, false, false, false, false, false, false, false, false, false]) rfl ?_
                    refine d_qg 9 rfl (by kernel_rfl) (q_index (i := (e - 1)) rfl rfl rfl (oB.rdb rfl) (by first | omega | (simp; done) | (simp; omega))) rfl rfl wok_sub rfl (ls' := #[true, true, true, true, true, true, true, true, true, true, false, false, false, false, false, false, false, false]) rfl ?_
                    refine d_qg 10 rfl (by kernel_rfl) (q_load_el (i := (e - 1)) (o := 0) rfl (oB.rdb rfl) (map_get (by first | assumption | omega)) rfl rfl) rfl rfl wok_sub rfl (ls' := #[true, true, true, true, true, true, true, true, true, true, true, false, false, false, false, false, false, false]) rfl ?_
                    refine d_qg 11 rfl (by kernel_rfl) (q_rem rfl rfl (by decide)) rfl rfl wok_sub rfl (ls' := #[true, true, true, true, true, true, true, true, true, true, true, true, false, false, false, false, false, false]) rfl ?_
                    refine g_val 123 (v' := .int .u16 (lB[e - 1] % 256)) rfl (by rw [Int.tmod_eq_emod_of_nonneg (by omega)]) ?_
                    refine d_qg 12 rfl (by kernel_rfl) (q_convz (z := lB[e - 1] % 256) rfl (wu64 (by omega) (by omega))) rfl rfl wok_sub rfl (ls' := #[true, true, true, true, true, true, true, true, true, true, true, true, true, false, false, false, false, false]) rfl ?_
                    refine d_qg 13 rfl (by kernel_rfl) (q_addz (z := fo + (lB[e - 1] % 256)) rfl rfl (wu64 (by omega) (by omega))) rfl rfl wok_sub rfl (ls' := #[true, true, true, true, true, true, true, true, true, true, true, true, true, true, false, false, false, false]) rfl ?_
                    refine d_qg 14 rfl (by kernel_rfl) (q_field rfl) rfl rfl wok_sub rfl (ls' := #[true, true, true, true, true, true, true, true, true, true, true, true, true, true, true, false, false, false]) rfl ?_
                    refine d_qg 15 rfl (by kernel_rfl) (q_load rfl rfl) rfl rfl wok_sub rfl (ls' := #[true, true, true, true, true, true, true, true, true, true, true, true, true, true, true, true, false, false]) rfl ?_
                    refine d_qg 16 rfl (by kernel_rfl) (q_leq rfl rfl) rfl rfl wok_sub rfl (ls' := #[true, true, true, true, true, true, true, true, true, true, true, true, true, true, true, true, true, false]) rfl ?_
                    refine d_q 17 rfl (by kernel_rfl) (q_pick_t rfl rfl) wok_sub rfl (ls' := #[true, true, true, true, true, true, true, true, true, true, true, true, true, true, true, true, true, true]) rfl ?_
                    refine d_end (by kernel_rfl) (.inr wok_sub) ?_
                    refine g_then ?_
                    refine g_cond rfl (fun h10 => ?_) (fun h10 => ?_)
                    · have hfcap := h10
                      have hP3 := hI2.push (c := 0) (i := ((W2.length : Nat) : Int)) (w := lB[e - 1] % 256) (.inl rfl) (by omega) rfl (by omega)
                      obtain ⟨fo2, hfo2⟩ : ∃ z : Int, z = fo + lB[e - 1] % 256 := ⟨_, rfl⟩
                      have hf2 : 0 ≤ fo2 ∧ fo2 ≤ c.fcap := by have h9 := of_decide_eq_true hfcap; omega
                      have hI3 := hP3.1
                      have ho3 := hP3.2.2.2.1 _ hown
                      have hb3 : m2.b = gr c e - (ah + wt % 256 + fo2) + remW (W2 ++ [lB[e - 1] % 256]) (pushL 100 0 ((W2.length : Nat) : Int) q2) := by rw [hP3.2.1]; omega
                      refine g_seq ?_
                      refine g_region ?_
                      refine s_q (q_move rfl) rfl ?_
                      refine s_q (q_move rfl) rfl ?_
                      refine s_q (q_move rfl) rfl ?_
                      refine s_q (q_subn (a := e) (b := 1) rfl rfl (by first | omega | (simp; omega) | (simp_all; omega)) (by first | omega | (simp; omega) | (simp_all; omega))) rfl ?_
                      refine s_q (q_index (i := (e - 1)) rfl rfl rfl (oB.rdb rfl) (by first | omega | (simp; done) | (simp; omega))) rfl ?_
                      refine s_q (q_load_el (i := (e - 1)) (o := 0) rfl (oB.rdb rfl) (map_get (by first | assumption | omega)) rfl rfl) rfl ?_
                      refine s_q (q_rem rfl rfl (by decide)) rfl ?_
                      refine g_val 136 (v' := .int .u16 (lB[e - 1] % 256)) rfl (by rw [Int.tmod_eq_emod_of_nonneg (by omega)]) ?_
                      refine s_q (q_convz (z := lB[e - 1] % 256) rfl (wu64 (by omega) (by omega))) rfl ?_
                      refine s_q (q_addz (z := fo + (lB[e - 1] % 256)) rfl rfl (wu64 (by omega) (by omega))) rfl ?_
                      refine s_q (q_assign rfl) rfl ?_
                      refine g_nil ?_
                      refine g_then ?_
                      refine g_seq ?_
                      refine g_region ?_
                      refine s_q (q_move rfl) rfl ?_
                      refine s_q (q_move rfl) rfl ?_
                      refine s_q (q_len rfl) rfl ?_
                      refine g_op (g_ownS [Res.blk b58 43 [Value.slice B2 (q2).f.length d2, Value.slice B3 (q2).v.length d3, Value.int .i64 ((100 : Nat) : Int)], Res.ro B2 (q2).f.length 1 ((q2).f.map (fun v : Int => [Value.int .i64 v])), Res.ro B3 (q2).v.length 1 ((q2).v.map (fun v : Int => [Value.int .i64 v]))] rfl (fun w1 hw1 ho1 => by have h7 := rpush_any b58 B2 B3 d2 d3 q2 100 (((W2.length : Nat) : Int)) (0) w1 ho1 u2 u3 (by omega) hq2; exact h7) rfl ?_)
                      rintro ⟨A142, c142, AA142, cc142⟩ ⟨u142, uu142⟩
                      refine ⟨_, _, inferInstance, inferInstance, ?_⟩
                      simp only at u142 uu142
                      have hq142 := pushL_len (0) (((W2.length : Nat) : Int)) hq2
                      refine g_nil ?_
                      refine g_then ?_
                      refine g_region ?_
                      refine s_q (q_move rfl) rfl ?_
                      refine s_q (q_move rfl) rfl ?_
                      refine s_q (q_move rfl) rfl ?_
                      refine s_q (q_subn (a := e) (b := 1) rfl rfl (by first | omega | (simp; omega) | (simp_all; omega)) (by first | omega | (simp; omega) | (simp_all; omega))) rfl ?_
                      refine s_q (q_index (i := (e - 1)) rfl rfl rfl (oB.rdb rfl) (by first | omega | (simp; done) | (simp; omega))) rfl ?_
                      refine s_q (q_load_el (i := (e - 1)) (o := 0) rfl (oB.rdb rfl) (map_get (by first | assumption | omega)) rfl rfl) rfl ?_
                      refine s_q (q_rem rfl rfl (by decide)) rfl ?_
                      refine g_val 149 (v' := .int .u16 (lB[e - 1] % 256)) rfl (by rw [Int.tmod_eq_emod_of_nonneg (by omega)]) ?_
                      refine s_q (q_convz (z := lB[e - 1] % 256) rfl (wu64 (by omega) (by omega))) rfl ?_
                      refine g_op (g_lit rfl rfl rfl rfl rfl fun b151 => ?_)
                      refine g_blkc (b := b151) ((([(lB[e - 1] % 256)] : List Int).map (fun v : Int => [Value.int .u64 v])).flatten) rfl ?_
                      refine g_op (g_append (A := A2) (els := (W2).map (fun v : Int => [Value.int .u64 v])) (news := (([(lB[e - 1] % 256)] : List Int).map (fun v : Int => [Value.int .u64 v]))) rfl rfl (InL.rdb (b := b151) rfl (by simp) rfl) (map_one (c := (fun v : Int => [Value.int .u64 v])) (by intro x; simp [Value.oneCell']) _) (by first | omega | (simp; omega) | (simp_all; omega)) rfl fun A152 cap152 => ⟨_, inferInstance, ?_⟩)
                      refine g_rowels (A := A152) (((W2 ++ [(lB[e - 1] % 256)])).map (fun v : Int => [Value.int .u64 v])) (by first | rfl | exact List.map_append.symm | (simp; done)) ?_
                      refine s_q (q_assign rfl) rfl ?_
                      refine g_nil ?_
                      refine g_then ?_
                      refine g_seq ?_
                      refine g_region ?_
                      refine s_q (q_move rfl) rfl ?_
                      refine s_q (q_move rfl) rfl ?_
                      refine s_q (q_move rfl) rfl ?_
                      refine s_q (q_field rfl) rfl ?_
                      refine s_q (q_load rfl rfl) rfl ?_
                      refine s_q (q_move rfl) rfl ?_
                      refine g_op (g_ownS [Res.blk b58 43 [Value.slice A142 ((pushL 100 (0) (((W2.length : Nat) : Int)) q2)).f.length c142, Value.slice AA142 ((pushL 100 (0) (((W2.length : Nat) : Int)) q2)).v.length cc142, Value.int .i64 ((100 : Nat) : Int)], Res.ro A142 ((pushL 100 (0) (((W2.length : Nat) : Int)) q2)).f.length 1 (((pushL 100 (0) (((W2.length : Nat) : Int)) q2)).f.map (fun v : Int => [Value.int .i64 v])), Res.ro AA142 ((pushL 100 (0) (((W2.length : Nat) : Int)) q2)).v.length 1 (((pushL 100 (0) (((W2.length : Nat) : Int)) q2)).v.map (fun v : Int => [Value.int .i64 v])), Res.blk b60 46 (R.c m2)] rfl (fun w1 hw1 ho1 => by have h7 := rstep_any (((e : Nat) : Int)) ((c).minch) b58 b60 A142 AA142 c142 cc142 (pushL 100 (0) (((W2.length : Nat) : Int)) q2) 100 m2 A152 ((W2.length + 1)) (cap152) ((W2 ++ [(lB[e - 1] % 256)])) w1 ho1 u142 uu142 (by omega) hq142 (Rd.ofRow (A := A152) hw1) (by omega); exact h7) rfl ?_)
                      rintro ⟨O159, oc159, A159, c159, AA159, cc159⟩ ⟨u159, uu159⟩
                      refine ⟨_, _, inferInstance, inferInstance, ?_⟩
                      simp only at u159 uu159
                      have hq159 := stepR_len (W := (W2 ++ [(lB[e - 1] % 256)])) (e := ((e : Nat) : Int)) (lim := (c).minch) (m := m2) hq142
                      generalize hst159 : (stepR ((W2 ++ [(lB[e - 1] % 256)])) (((e : Nat) : Int)) ((c).minch) (pushL 100 (0) (((W2.length : Nat) : Int)) q2) m2) = st159 at u159 uu159 hq159 ⊢
                      refine s_q (q_len rfl) rfl ?_
                      refine s_q (q_move rfl) rfl ?_
                      refine g_nil ?_
                      refine g_then ?_
                      refine g_block ?_
                      have hse := stepR_e hst159
                      have hcnt : st159.1.length ≤ 201 := by have h9 := stepR_cnt hst159; unfold lenL at h9; omega
                      refine g_loopk [3, 4, 6, 8, 9, 10, 12, 15, 16, 18, 159, 160] (fun (x : Nat) => [(161, .int .i64 ((x : Nat) : Int))]) (fun (x : Nat) => [Res.row O159 (st159.1.length) oc159 52 3 ((st159.1).map As.cs), Res.row A152 ((W2.length + 1)) cap152 22 1 (((W2 ++ [(lB[e - 1] % 256)])).map (fun v : Int => [Value.int .u64 v])), Res.blk b3 26 c.c, Res.blk b60 46 (R.c st159.2.2), Res.blk b58 43 [Value.slice A159 (st159.2.1).f.length c159, Value.slice AA159 (st159.2.1).v.length cc159, Value.int .i64 ((100 : Nat) : Int)], Res.ro A159 (st159.2.1).f.length 1 ((st159.2.1).f.map (fun v : Int => [Value.int .i64 v])), Res.ro AA159 (st159.2.1).v.length 1 ((st159.2.1).v.map (fun v : Int => [Value.int .i64 v]))]) (fun (x : Nat) => x ≤ st159.1.length ∧ (∀ a ∈ (st159.1).take x, a.i ≠ (((lA.length : Nat)) : Int))) (fun (x : Nat) => st159.1.length - x) 0 (by (try dsimp only); exact ⟨Nat.zero_le _, (by simp)⟩) rfl (by repeat (first | exact trivial | refine ⟨rfl, ?_⟩)) wok_sub ?_
                      rintro j ⟨le_j, hno⟩
                      replace le_j : j ≤ st159.1.length := le_j
                      replace hno : ∀ a ∈ (st159.1).take j, a.i ≠ (((lA.length : Nat)) : Int) := hno
                      refine g_seq ?_
                      refine g_region ?_
                      refine s_q (q_lss rfl rfl) rfl ?_
                      refine g_nil ?_
                      refine g_then ?_
                      refine g_seq ?_
                      refine g_cond rfl (fun h11 => ?_) (fun h11 => ?_)
                      · have lt_j : j < st159.1.length := by have h9 := of_decide_eq_true h11; omega
                        refine g_skip ?_
                        refine g_then ?_
                        refine g_seq ?_
                        refine g_block ?_
                        refine g_seq ?_
                        refine g_region ?_
                        refine s_q (q_index (i := j) rfl rfl rfl (InRow.rdb (A := O159) (els := (st159.1).map As.cs) (by first | rfl | assumption | (simp; done) | (simp_all; done) | (simp; omega) | (simp_all; omega)) (map_cat (c := As.cs) (fun _ => rfl) _)) (by first | exact lt_j | omega)) rfl ?_
                        refine s_q (q_load_ew (i := j) rfl (InRow.rdb (A := O159) (els := (st159.1).map As.cs) (by first | rfl | assumption | (simp; done) | (simp_all; done) | (simp; omega) | (simp_all; omega)) (map_cat (c := As.cs) (fun _ => rfl) _)) (map_get (by first | assumption | omega | (simp_all; done) | (simp_all; omega))) rfl) rfl ?_
                        refine g_op (g_alloc rfl fun b20 => ?_)
                        refine g_op (g_storew rfl rfl rfl rfl rfl ?_)
                        refine g_nil ?_
                        refine g_then ?_
                        refine g_seq ?_
                        refine g_region ?_
                        refine s_q (q_field rfl) rfl ?_
                        refine s_q (q_load rfl rfl) rfl ?_
                        refine s_q (q_move rfl) rfl ?_
                        refine s_q (q_eql rfl rfl) rfl ?_
                        refine g_nil ?_
                        refine g_then ?_
                        refine g_cond rfl (fun h12 => ?_) (fun h12 => ?_)
                        · refine g_seq ?_
                          refine g_region ?_
                          refine g_op (g_pure rfl (fun w1 hw1 => alive_any w1) rfl ?_)
                          refine s_q (q_move rfl) rfl ?_
                          refine s_qg (q_field rfl) rfl rfl rfl ?_
                          refine s_qg (q_load rfl rfl) rfl rfl rfl ?_
                          refine s_qg (q_move rfl) rfl rfl rfl ?_
                          refine s_qg (q_leq rfl rfl) rfl rfl rfl ?_
                          refine g_litb 174 (b := true) rfl (by have h9 := hse _ (List.getElem_mem lt_j); rw [h9]; simp; omega) ?_
                          refine s_q (q_pick_t rfl rfl) rfl ?_
                          refine s_q (q_assign rfl) rfl ?_
                          refine g_nil ?_
                          refine g_then ?_
                          refine g_ret ?_
                          refine g_blk_ret (g_then_ret (g_then_ret (g_blk_ret (g_blk_ret (g_then_ret (g_then_ret (g_blk_ret (g_then_ret ?_))))))))
                          exact fin1 rfl (.tmp rfl) (fun w' hw' => ⟨by first | rfl | (simp_all; done) | (simp_all; omega), hw'.upd⟩) _ (.inl rfl)
                        · have hneq := of_decide_eq_false h12
                          refine g_skip ?_
                          refine g_blk_n ?_
                          refine g_then ?_
                          refine g_region ?_
                          refine s_q (q_inc rfl rfl (by omega)) rfl ?_
                          refine s_q (q_move rfl) rfl ?_
                          refine g_nil ?_
                          exact g_again (j + 1) (by (try dsimp only); exact ⟨(by first | exact lt_j | omega), (by rw [← List.take_append_getElem lt_j]; intro a ha; rcases List.mem_append.1 ha with ha | ha; exact hno a ha; simp at ha; subst ha; simpa using hneq)⟩) (by first | omega | (simp only; omega)) (by repeat (first | exact trivial | refine ⟨rfl, ?_⟩)) wok_sub
                      · have eq_j : j = st159.1.length := by have h9 := of_decide_eq_false h11; omega
                        refine g_exit ?_
                        refine g_then_x (g_then_x (g_blk_hit ?_))
                        refine g_blk_n ?_
                        refine g_then ?_
                        refine g_region ?_
                        refine s_q (q_move rfl) rfl ?_
                        refine s_q (q_inc rfl rfl (by omega)) rfl ?_
                        refine s_q (q_assign rfl) rfl ?_
                        refine g_nil ?_
                        have hx9 : ∀ a ∈ st159.1, a.i ≠ (((lA.length : Nat)) : Int) := by rw [← List.take_length (l := st159.1), ← eq_j]; exact hno
                        have hN := asg_next hst159 hI3 ho3 hb3 hmb (by omega) (by omega) (by omega) (by omega) hx9
                        refine g_val 12 (v' := .int .u64 fo2) rfl (by first | rfl | rw [hfo2]) ?_
                        refine g_rown (A := A152) ((W2 ++ [(lB[e - 1] % 256)])).length (by simp) ?_
                        refine g_val 10 (v' := .slice A152 ((W2 ++ [(lB[e - 1] % 256)])).length cap152) rfl (by simp) ?_
                        exact g_again ((e + 1), A152, cap152, (W2 ++ [(lB[e - 1] % 256)]), fo2, st159.2.1, st159.2.2, A159, c159, AA159, cc159) (by (try dsimp only); exact ⟨(by omega), (by omega), hN.1, hN.2.1, (by rw [gr_succ]; exact hN.2.2.1), hN.2.2.2.1, hf2, (by have h9 := hN.2.2.2.2.2.2; omega), (by first | omega | (simp; omega)), u159, uu159, hq159, (.inr ⟨hN.2.2.2.2.1, hN.2.2.2.2.2.1⟩)⟩) (by dsimp only; omega) (by repeat (first | exact trivial | refine ⟨rfl, ?_⟩)) wok_sub
                    · obtain ⟨fo2, hfo2⟩ : ∃ z : Int, z = fo := ⟨_, rfl⟩
                      have hf2 : 0 ≤ fo2 ∧ fo2 ≤ c.fcap := by omega
                      have hI3 := hI2
                      have ho3 := hown
                      have hb3 : m2.b = gr c e - (ah + wt % 256 + fo2) + remW W2 q2 := by omega
                      refine g_skip ?_
                      refine g_then ?_
                      refine g_seq ?_
                      refine g_region ?_
                      refine s_q (q_move rfl) rfl ?_
                      refine s_q (q_move rfl) rfl ?_
                      refine s_q (q_move rfl) rfl ?_
                      refine s_q (q_field rfl) rfl ?_
                      refine s_q (q_load rfl rfl) rfl ?_
                      refine s_q (q_move rfl) rfl ?_
                      refine g_op (g_ownS [Res.blk b58 43 [Value.slice B2 (q2).f.length d2, Value.slice B3 (q2).v.length d3, Value.int .i64 ((100 : Nat) : Int)], Res.ro B2 (q2).f.length 1 ((q2).f.map (fun v : Int => [Value.int .i64 v])), Res.ro B3 (q2).v.length 1 ((q2).v.map (fun v : Int => [Value.int .i64 v])), Res.blk b60 46 (R.c m2)] rfl (fun w1 hw1 ho1 => by have h7 := rstep_any (((e : Nat) : Int)) ((c).minch) b58 b60 B2 B3 d2 d3 q2 100 m2 A2 (W2.length) (cap2) (W2) w1 ho1 u2 u3 (by omega) hq2 (Rd.ofRow (A := A2) hw1) (by omega); exact h7) rfl ?_)
                      rintro ⟨O159, oc159, A159, c159, AA159, cc159⟩ ⟨u159, uu159⟩
                      refine ⟨_, _, inferInstance, inferInstance, ?_⟩
                      simp only at u159 uu159
                      have hq159 := stepR_len (W := W2) (e := ((e : Nat) : Int)) (lim := (c).minch) (m := m2) hq2
                      generalize hst159 : (stepR W2 (((e : Nat) : Int)) ((c).minch) q2 m2) = st159 at u159 uu159 hq159 ⊢
                      refine s_q (q_len rfl) rfl ?_
                      refine s_q (q_move rfl) rfl ?_
                      refine g_nil ?_
                      refine g_then ?_
                      refine g_block ?_
                      have hse := stepR_e hst159
                      have hcnt : st159.1.length ≤ 201 := by have h9 := stepR_cnt hst159; unfold lenL at h9; omega
                      refine g_loopk [3, 4, 6, 8, 9, 10, 12, 15, 16, 18, 159, 160] (fun (x : Nat) => [(161, .int .i64 ((x : Nat) : Int))]) (fun (x : Nat) => [Res.row O159 (st159.1.length) oc159 52 3 ((st159.1).map As.cs), Res.row A2 (W2.length) cap2 22 1 ((W2).map (fun v : Int => [Value.int .u64 v])), Res.blk b3 26 c.c, Res.blk b60 46 (R.c st159.2.2), Res.blk b58 43 [Value.slice A159 (st159.2.1).f.length c159, Value.slice AA159 (st159.2.1).v.length cc159, Value.int .i64 ((100 : Nat) : Int)], Res.ro A159 (st159.2.1).f.length 1 ((st159.2.1).f.map (fun v : Int => [Value.int .i64 v])), Res.ro AA159 (st159.2.1).v.length 1 ((st159.2.1).v.map (fun v : Int => [Value.int .i64 v]))]) (fun (x : Nat) => x ≤ st159.1.length ∧ (∀ a ∈ (st159.1).take x, a.i ≠ (((lA.length : Nat)) : Int))) (fun (x : Nat) => st159.1.length - x) 0 (by (try dsimp only); exact ⟨Nat.zero_le _, (by simp)⟩) rfl (by repeat (first | exact trivial | refine ⟨rfl, ?_⟩)) wok_sub ?_
                      rintro j ⟨le_j, hno⟩
                      replace le_j : j ≤ st159.1.length := le_j
                      replace hno : ∀ a ∈ (st159.1).take j, a.i ≠ (((lA.length : Nat)) : Int) := hno
                      refine g_seq ?_
                      refine g_region ?_
                      refine s_q (q_lss rfl rfl) rfl ?_
                      refine g_nil ?_
                      refine g_then ?_
                      refine g_seq ?_
                      refine g_cond rfl (fun h13 => ?_) (fun h13 => ?_)
                      · have lt_j : j < st159.1.length := by have h9 := of_decide_eq_true h13; omega
                        refine g_skip ?_
                        refine g_then ?_
                        refine g_seq ?_
                        refine g_block ?_
                        refine g_seq ?_
                        refine g_region ?_
                        refine s_q (q_index (i := j) rfl rfl rfl (InRow.rdb (A := O159) (els := (st159.1).map As.cs) (by first | rfl | assumption | (simp; done) | (simp_all; done) | (simp; omega) | (simp_all; omega)) (map_cat (c := As.cs) (fun _ => rfl) _)) (by first | exact lt_j | omega)) rfl ?_
                        refine s_q (q_load_ew (i := j) rfl (InRow.rdb (A := O159) (els := (st159.1).map As.cs) (by first | rfl | assumption | (simp; done) | (simp_all; done) | (simp; omega) | (simp_all; omega)) (map_cat (c := As.cs) (fun _ => rfl) _)) (map_get (by first | assumption | omega | (simp_all; done) | (simp_all; omega))) rfl) rfl ?_
                        refine g_op (g_alloc rfl fun b20 => ?_)
                        refine g_op (g_storew rfl rfl rfl rfl rfl ?_)
                        refine g_nil ?_
                        refine g_then ?_
                        refine g_seq ?_
                        refine g_region ?_
                        refine s_q (q_field rfl) rfl ?_
                        refine s_q (q_load rfl rfl) rfl ?_
                        refine s_q (q_move rfl) rfl ?_
                        refine s_q (q_eql rfl rfl) rfl ?_
                        refine g_nil ?_
                        refine g_then ?_
                        refine g_cond rfl (fun h14 => ?_) (fun h14 => ?_)
                        · refine g_seq ?_
                          refine g_region ?_
                          refine g_op (g_pure rfl (fun w1 hw1 => alive_any w1) rfl ?_)
                          refine s_q (q_move rfl) rfl ?_
                          refine s_qg (q_field rfl) rfl rfl rfl ?_
                          refine s_qg (q_load rfl rfl) rfl rfl rfl ?_
                          refine s_qg (q_move rfl) rfl rfl rfl ?_
                          refine s_qg (q_leq rfl rfl) rfl rfl rfl ?_
                          refine g_litb 174 (b := true) rfl (by have h9 := hse _ (List.getElem_mem lt_j); rw [h9]; simp; omega) ?_
                          refine s_q (q_pick_t rfl rfl) rfl ?_
                          refine s_q (q_assign rfl) rfl ?_
                          refine g_nil ?_
                          refine g_then ?_
                          refine g_ret ?_
                          refine g_blk_ret (g_then_ret (g_then_ret (g_blk_ret (g_blk_ret (g_then_ret (g_then_ret (g_blk_ret (g_then_ret ?_))))))))
                          exact fin1 rfl (.tmp rfl) (fun w' hw' => ⟨by first | rfl | (simp_all; done) | (simp_all; omega), hw'.upd⟩) _ (.inl rfl)
                        · have hneq := of_decide_eq_false h14
                          refine g_skip ?_
                          refine g_blk_n ?_
                          refine g_then ?_
                          refine g_region ?_
                          refine s_q (q_inc rfl rfl (by omega)) rfl ?_
                          refine s_q (q_move rfl) rfl ?_
                          refine g_nil ?_
                          exact g_again (j + 1) (by (try dsimp only); exact ⟨(by first | exact lt_j | omega), (by rw [← List.take_append_getElem lt_j]; intro a ha; rcases List.mem_append.1 ha with ha | ha; exact hno a ha; simp at ha; subst ha; simpa using hneq)⟩) (by first | omega | (simp only; omega)) (by repeat (first | exact trivial | refine ⟨rfl, ?_⟩)) wok_sub
                      · have eq_j : j = st159.1.length := by have h9 := of_decide_eq_false h13; omega
                        refine g_exit ?_
                        refine g_then_x (g_then_x (g_blk_hit ?_))
                        refine g_blk_n ?_
                        refine g_then ?_
                        refine g_region ?_
                        refine s_q (q_move rfl) rfl ?_
                        refine s_q (q_inc rfl rfl (by omega)) rfl ?_
                        refine s_q (q_assign rfl) rfl ?_
                        refine g_nil ?_
                        have hx9 : ∀ a ∈ st159.1, a.i ≠ (((lA.length : Nat)) : Int) := by rw [← List.take_length (l := st159.1), ← eq_j]; exact hno
                        have hN := asg_next hst159 hI3 ho3 hb3 hmb (by omega) (by omega) (by omega) (by omega) hx9
                        refine g_val 12 (v' := .int .u64 fo2) rfl (by first | rfl | rw [hfo2]) ?_
                        exact g_again ((e + 1), A2, cap2, W2, fo2, st159.2.1, st159.2.2, A159, c159, AA159, cc159) (by (try dsimp only); exact ⟨(by omega), (by omega), hN.1, hN.2.1, (by rw [gr_succ]; exact hN.2.2.1), hN.2.2.2.1, hf2, (by have h9 := hN.2.2.2.2.2.2; omega), (by first | omega | (simp; omega)), u159, uu159, hq159, (.inr ⟨hN.2.2.2.2.1, hN.2.2.2.2.2.1⟩)⟩) (by dsimp only; omega) (by repeat (first | exact trivial | refine ⟨rfl, ?_⟩)) wok_sub
                  · obtain ⟨fo2, hfo2⟩ : ∃ z : Int, z = fo := ⟨_, rfl⟩
                    have hf2 : 0 ≤ fo2 ∧ fo2 ≤ c.fcap := by omega
                    have hI3 := hI2
                    have ho3 := hown
                    have hb3 : m2.b = gr c e - (ah + wt % 256 + fo2) + remW W2 q2 := by omega
                    refine d_gf 5 rfl (by kernel_rfl) rfl rfl rfl wok_sub rfl (ls' := #[true, true, true, true, true, true, false, false, false, false, false, false, false, false, false, false, false, false]) rfl ?_
                    refine d_gf 6 rfl (by kernel_rfl) rfl rfl rfl wok_sub rfl (ls' := #[true, true, true, true, true, true, true, false, false, false, false, false, false, false, false, false, false, false]) rfl ?_
                    refine d_gf 7 rfl (by kernel_rfl) rfl rfl rfl wok_sub rfl (ls' := #[true, true, true, true, true, true, true, true, false, false, false, false, false, false, false, false, false, false]) rfl ?_
                    refine d_gf 8 rfl (by kernel_rfl) rfl rfl rfl wok_sub rfl (ls' := #[true, true, true, true, true, true, true, true, true, false, false, false, false, false, false, false, false, false]) rfl ?_
                    refine d_gf 9 rfl (by kernel_rfl) rfl rfl rfl wok_sub rfl (ls' := #[true, true, true, true, true, true, true, true, true, true, false, false, false, false, false, false, false, false]) rfl ?_
                    refine d_gf 10 rfl (by kernel_rfl) rfl rfl rfl wok_sub rfl (ls' := #[true, true, true, true, true, true, true, true, true, true, true, false, false, false, false, false, false, false]) rfl ?_
                    refine d_gf 11 rfl (by kernel_rfl) rfl rfl rfl wok_sub rfl (ls' := #[true, true, true, true, true, true, true, true, true, true, true, true, false, false, false, false, false, false]) rfl ?_
                    refine d_gf 12 rfl (by kernel_rfl) rfl rfl rfl wok_sub rfl (ls' := #[true, true, true, true, true, true, true, true, true, true, true, true, true, false, false, false, false, false]) rfl ?_
                    refine d_gf 13 rfl (by kernel_rfl) rfl rfl rfl wok_sub rfl (ls' := #[true, true, true, true, true, true, true, true, true, true, true, true, true, true, false, false, false, false]) rfl ?_
                    refine d_gf 14 rfl (by kernel_rfl) rfl rfl rfl wok_sub rfl (ls' := #[true, true, true, true, true, true, true, true, true, true, true, true, true, true, true, false, false, false]) rfl ?_
                    refine d_gf 15 rfl (by kernel_rfl) rfl rfl rfl wok_sub rfl (ls' := #[true, true, true, true, true, true, true, true, true, true, true, true, true, true, true, true, false, false]) rfl ?_
                    refine d_gf 16 rfl (by kernel_rfl) rfl rfl rfl wok_sub rfl (ls' := #[true, true, true, true, true, true, true, true, true, true, true, true, true, true, true, true, true, false]) rfl ?_
                    refine d_q 17 rfl (by kernel_rfl) (q_pick_f rfl rfl) wok_sub rfl (ls' := #[true, true, true, true, true, true, true, true, true, true, true, true, true, true, true, true, true, true]) rfl ?_
                    refine d_end (by kernel_rfl) (.inr wok_sub) ?_
                    refine g_then ?_
                    refine g_false rfl ?_
                    refine g_skip ?_
                    refine g_then ?_
                    refine g_seq ?_
                    refine g_region ?_
                    refine s_q (q_move rfl) rfl ?_
                    refine s_q (q_move rfl) rfl ?_
                    refine s_q (q_move rfl) rfl ?_
                    refine s_q (q_field rfl) rfl ?_
                    refine s_q (q_load rfl rfl) rfl ?_
                    refine s_q (q_move rfl) rfl ?_
                    refine g_op (g_ownS [Res.blk b58 43 [Value.slice B2 (q2).f.length d2, Value.slice B3 (q2).v.length d3, Value.int .i64 ((100 : Nat) : Int)], Res.ro B2 (q2).f.length 1 ((q2).f.map (fun v : Int => [Value.int .i64 v])), Res.ro B3 (q2).v.length 1 ((q2).v.map (fun v : Int => [Value.int .i64 v])), Res.blk b60 46 (R.c m2)] rfl (fun w1 hw1 ho1 => by have h7 := rstep_any (((e : Nat) : Int)) ((c).minch) b58 b60 B2 B3 d2 d3 q2 100 m2 A2 (W2.length) (cap2) (W2) w1 ho1 u2 u3 (by omega) hq2 (Rd.ofRow (A := A2) hw1) (by omega); exact h7) rfl ?_)
                    rintro ⟨O159, oc159, A159, c159, AA159, cc159⟩ ⟨u159, uu159⟩
                    refine ⟨_, _, inferInstance, inferInstance, ?_⟩
                    simp only at u159 uu159
                    have hq159 := stepR_len (W := W2) (e := ((e : Nat) : Int)) (lim := (c).minch) (m := m2) hq2
                    generalize hst159 : (stepR W2 (((e : Nat) : Int)) ((c).minch) q2 m2) = st159 at u159 uu159 hq159 ⊢
                    refine s_q (q_len rfl) rfl ?_
                    refine s_q (q_move rfl) rfl ?_
                    refine g_nil ?_
                    refine g_then ?_
                    refine g_block ?_
                    have hse := stepR_e hst159
                    have hcnt : st159.1.length ≤ 201 := by have h9 := stepR_cnt hst159; unfold lenL at h9; omega
                    refine g_loopk [3, 4, 6, 8, 9, 10, 12, 15, 16, 18, 159, 160] (fun (x : Nat) => [(161, .int .i64 ((x : Nat) : Int))]) (fun (x : Nat) => [Res.row O159 (st159.1.length) oc159 52 3 ((st159.1).map As.cs), Res.row A2 (W2.length) cap2 22 1 ((W2).map (fun v : Int => [Value.int .u64 v])), Res.blk b3 26 c.c, Res.blk b60 46 (R.c st159.2.2), Res.blk b58 43 [Value.slice A159 (st159.2.1).f.length c159, Value.slice AA159 (st159.2.1).v.length cc159, Value.int .i64 ((100 : Nat) : Int)], Res.ro A159 (st159.2.1).f.length 1 ((st159.2.1).f.map (fun v : Int => [Value.int .i64 v])), Res.ro AA159 (st159.2.1).v.length 1 ((st159.2.1).v.map (fun v : Int => [Value.int .i64 v]))]) (fun (x : Nat) => x ≤ st159.1.length ∧ (∀ a ∈ (st159.1).take x, a.i ≠ (((lA.length : Nat)) : Int))) (fun (x : Nat) => st159.1.length - x) 0 (by (try dsimp only); exact ⟨Nat.zero_le _, (by simp)⟩) rfl (by repeat (first | exact trivial | refine ⟨rfl, ?_⟩)) wok_sub ?_
                    rintro j ⟨le_j, hno⟩
                    replace le_j : j ≤ st159.1.length := le_j
                    replace hno : ∀ a ∈ (st159.1).take j, a.i ≠ (((lA.length : Nat)) : Int) := hno
                    refine g_seq ?_
                    refine g_region ?_
                    refine s_q (q_lss rfl rfl) rfl ?_
                    refine g_nil ?_
                    refine g_then ?_
                    refine g_seq ?_
                    refine g_cond rfl (fun h15 => ?_) (fun h15 => ?_)
                    · have lt_j : j < st159.1.length := by have h9 := of_decide_eq_true h15; omega
                      refine g_skip ?_
                      refine g_then ?_
                      refine g_seq ?_
                      refine g_block ?_
                      refine g_seq ?_
                      refine g_region ?_
                      refine s_q (q_index (i := j) rfl rfl rfl (InRow.rdb (A := O159) (els := (st159.1).map As.cs) (by first | rfl | assumption | (simp; done) | (simp_all; done) | (simp; omega) | (simp_all; omega)) (map_cat (c := As.cs) (fun _ => rfl) _)) (by first | exact lt_j | omega)) rfl ?_
                      refine s_q (q_load_ew (i := j) rfl (InRow.rdb (A := O159) (els := (st159.1).map As.cs) (by first | rfl | assumption | (simp; done) | (simp_all; done) | (simp; omega) | (simp_all; omega)) (map_cat (c := As.cs) (fun _ => rfl) _)) (map_get (by first | assumption | omega | (simp_all; done) | (simp_all; omega))) rfl) rfl ?_
                      refine g_op (g_alloc rfl fun b20 => ?_)
                      refine g_op (g_storew rfl rfl rfl rfl rfl ?_)
                      refine g_nil ?_
                      refine g_then ?_
                      refine g_seq ?_
                      refine g_region ?_
                      refine s_q (q_field rfl) rfl ?_
                      refine s_q (q_load rfl rfl) rfl ?_
                      refine s_q (q_move rfl) rfl ?_
                      refine s_q (q_eql rfl rfl) rfl ?_
                      refine g_nil ?_
                      refine g_then ?_
                      refine g_cond rfl (fun h16 => ?_) (fun h16 => ?_)
                      · refine g_seq ?_
                        refine g_region ?_
                        refine g_op (g_pure rfl (fun w1 hw1 => alive_any w1) rfl ?_)
                        refine s_q (q_move rfl) rfl ?_
                        refine s_qg (q_field rfl) rfl rfl rfl ?_
                        refine s_qg (q_load rfl rfl) rfl rfl rfl ?_
                        refine s_qg (q_move rfl) rfl rfl rfl ?_
                        refine s_qg (q_leq rfl rfl) rfl rfl rfl ?_
                        refine g_litb 174 (b := true) rfl (by have h9 := hse _ (List.getElem_mem lt_j); rw [h9]; simp; omega) ?_
                        refine s_q (q_pick_t rfl rfl) rfl ?_
                        refine s_q (q_assign rfl) rfl ?_
                        refine g_nil ?_
                        refine g_then ?_
                        refine g_ret ?_
                        refine g_blk_ret (g_then_ret (g_then_ret (g_blk_ret (g_blk_ret (g_then_ret (g_then_ret (g_blk_ret (g_then_ret ?_))))))))
                        exact fin1 rfl (.tmp rfl) (fun w' hw' => ⟨by first | rfl | (simp_all; done) | (simp_all; omega), hw'.upd⟩) _ (.inl rfl)
                      · have hneq := of_decide_eq_false h16
                        refine g_skip ?_
                        refine g_blk_n ?_
                        refine g_then ?_
                        refine g_region ?_
                        refine s_q (q_inc rfl rfl (by omega)) rfl ?_
                        refine s_q (q_move rfl) rfl ?_
                        refine g_nil ?_
                        exact g_again (j + 1) (by (try dsimp only); exact ⟨(by first | exact lt_j | omega), (by rw [← List.take_append_getElem lt_j]; intro a ha; rcases List.mem_append.1 ha with ha | ha; exact hno a ha; simp at ha; subst ha; simpa using hneq)⟩) (by first | omega | (simp only; omega)) (by repeat (first | exact trivial | refine ⟨rfl, ?_⟩)) wok_sub
                    · have eq_j : j = st159.1.length := by have h9 := of_decide_eq_false h15; omega
                      refine g_exit ?_
                      refine g_then_x (g_then_x (g_blk_hit ?_))
                      refine g_blk_n ?_
                      refine g_then ?_
                      refine g_region ?_
                      refine s_q (q_move rfl) rfl ?_
                      refine s_q (q_inc rfl rfl (by omega)) rfl ?_
                      refine s_q (q_assign rfl) rfl ?_
                      refine g_nil ?_
                      have hx9 : ∀ a ∈ st159.1, a.i ≠ (((lA.length : Nat)) : Int) := by rw [← List.take_length (l := st159.1), ← eq_j]; exact hno
                      have hN := asg_next hst159 hI3 ho3 hb3 hmb (by omega) (by omega) (by omega) (by omega) hx9
                      refine g_val 12 (v' := .int .u64 fo2) rfl (by first | rfl | rw [hfo2]) ?_
                      exact g_again ((e + 1), A2, cap2, W2, fo2, st159.2.1, st159.2.2, A159, c159, AA159, cc159) (by (try dsimp only); exact ⟨(by omega), (by omega), hN.1, hN.2.1, (by rw [gr_succ]; exact hN.2.2.1), hN.2.2.2.1, hf2, (by have h9 := hN.2.2.2.2.2.2; omega), (by first | omega | (simp; omega)), u159, uu159, hq159, (.inr ⟨hN.2.2.2.2.1, hN.2.2.2.2.2.1⟩)⟩) (by dsimp only; omega) (by repeat (first | exact trivial | refine ⟨rfl, ?_⟩)) wok_sub
                · exfalso
                  have h9 := of_decide_eq_false h8
                  obtain rfl : e = K + 1 := by omega
                  rcases hst with h8 | h8
                  · omega
                  · exact asg_end hI2 hbal h8.1 h8.2 (by omega) hK4
  · obtain ⟨wt, hw0, hwt⟩ : ∃ z : Int, (0 ≤ z ∧ z ≤ 65535) ∧ z = 0 := ⟨_, by omega, rfl⟩
    refine g_val 7 (v' := .int .u16 wt) rfl (by rw [hwt]) ?_
    refine g_skip ?_
    refine g_then ?_
    refine g_seq ?_
    refine g_seq ?_
    refine g_region ?_
    refine s_q (q_loadw rfl rfl) rfl ?_
    refine g_op (g_pure rfl (fun w hw => chk_any _ w) rfl ?_)
    refine s_q (q_neq rfl rfl) rfl ?_
    refine s_q (q_move rfl) rfl ?_
    refine g_split 36 rfl (fun h17 => ?_) (fun h17 => ?_)
    · refine g_gf rfl rfl rfl rfl ?_
      refine g_gf rfl rfl rfl rfl ?_
      refine g_gf rfl rfl rfl rfl ?_
      refine s_q (q_pick_t rfl rfl) rfl ?_
      refine s_q (q_move rfl) rfl ?_
      refine g_gf rfl rfl rfl rfl ?_
      refine g_gf rfl rfl rfl rfl ?_
      refine g_gf rfl rfl rfl rfl ?_
      refine s_q (q_pick_t rfl rfl) rfl ?_
      refine s_q (q_move rfl) rfl ?_
      refine g_gf rfl rfl rfl rfl ?_
      refine g_gf rfl rfl rfl rfl ?_
      refine g_gf rfl rfl rfl rfl ?_
      refine s_q (q_pick_t rfl rfl) rfl ?_
      refine s_q (q_move rfl) rfl ?_
      refine g_gf rfl rfl rfl rfl ?_
      refine g_gf rfl rfl rfl rfl ?_
      refine g_gf rfl rfl rfl rfl ?_
      refine s_q (q_pick_t rfl rfl) rfl ?_
      refine g_nil ?_
      refine g_then ?_
      refine g_true rfl ?_
      refine g_seq ?_
      refine g_region ?_
      refine g_op (g_pure rfl (fun w1 hw1 => alive_any w1) rfl ?_)
      refine s_q (q_assign rfl) rfl ?_
      refine g_nil ?_
      refine g_then ?_
      refine g_ret ?_
      refine g_then_ret ?_
      exact fin1 rfl (.tmp rfl) (fun w' hw' => ⟨by first | rfl | (simp_all; done) | (simp_all; omega), hw'.upd⟩) _ (.inl rfl)
    · have hc0 := chk_ok (by simpa using h17) k_c
      refine s_qg (q_move rfl) rfl rfl rfl ?_
      refine s_qg (q_len rfl) rfl rfl rfl ?_
      refine s_qg (q_gtr rfl rfl) rfl rfl rfl ?_
      refine s_q (q_pick_f rfl rfl) rfl ?_
      refine s_q (q_move rfl) rfl ?_
      refine g_split 41 rfl (fun h18 => ?_) (fun h18 => ?_)
      · refine g_gf rfl rfl rfl rfl ?_
        refine g_gf rfl rfl rfl rfl ?_
        refine g_gf rfl rfl rfl rfl ?_
        refine s_q (q_pick_t rfl rfl) rfl ?_
        refine s_q (q_move rfl) rfl ?_
        refine g_gf rfl rfl rfl rfl ?_
        refine g_gf rfl rfl rfl rfl ?_
        refine g_gf rfl rfl rfl rfl ?_
        refine s_q (q_pick_t rfl rfl) rfl ?_
        refine s_q (q_move rfl) rfl ?_
        refine g_gf rfl rfl rfl rfl ?_
        refine g_gf rfl rfl rfl rfl ?_
        refine g_gf rfl rfl rfl rfl ?_
        refine s_q (q_pick_t rfl rfl) rfl ?_
        refine g_nil ?_
        refine g_then ?_
        refine g_true rfl ?_
        refine g_seq ?_
        refine g_region ?_
        refine g_op (g_pure rfl (fun w1 hw1 => alive_any w1) rfl ?_)
        refine s_q (q_assign rfl) rfl ?_
        refine g_nil ?_
        refine g_then ?_
        refine g_ret ?_
        refine g_then_ret ?_
        exact fin1 rfl (.tmp rfl) (fun w' hw' => ⟨by first | rfl | (simp_all; done) | (simp_all; omega), hw'.upd⟩) _ (.inl rfl)
      · have nA20 : lA.length ≤ 20 := by have h9 := of_decide_eq_false h18; omega
        refine s_qg (q_move rfl) rfl rfl rfl ?_
        refine s_qg (q_len rfl) rfl rfl rfl ?_
        refine s_qg (q_gtr rfl rfl) rfl rfl rfl ?_
        refine s_q (q_pick_f rfl rfl) rfl ?_
        refine s_q (q_move rfl) rfl ?_
        refine g_split 46 rfl (fun h19 => ?_) (fun h19 => ?_)
        · refine g_gf rfl rfl rfl rfl ?_
          refine g_gf rfl rfl rfl rfl ?_
          refine g_gf rfl rfl rfl rfl ?_
          refine s_q (q_pick_t rfl rfl) rfl ?_
          refine s_q (q_move rfl) rfl ?_
          refine g_gf rfl rfl rfl rfl ?_
          refine g_gf rfl rfl rfl rfl ?_
          refine g_gf rfl rfl rfl rfl ?_
          refine s_q (q_pick_t rfl rfl) rfl ?_
          refine g_nil ?_
          refine g_then ?_
          refine g_true rfl ?_
          refine g_seq ?_
          refine g_region ?_
          refine g_op (g_pure rfl (fun w1 hw1 => alive_any w1) rfl ?_)
          refine s_q (q_assign rfl) rfl ?_
          refine g_nil ?_
          refine g_then ?_
          refine g_ret ?_
          refine g_then_ret ?_
          exact fin1 rfl (.tmp rfl) (fun w' hw' => ⟨by first | rfl | (simp_all; done) | (simp_all; omega), hw'.upd⟩) _ (.inl rfl)
        · have nB20 : lB.length ≤ 20 := by have h9 := of_decide_eq_false h19; omega
          refine s_qg (q_field rfl) rfl rfl rfl ?_
          refine s_qg (q_load rfl rfl) rfl rfl rfl ?_
          refine s_qg (q_lss rfl rfl) rfl rfl rfl ?_
          refine s_q (q_pick_f rfl rfl) rfl ?_
          refine s_q (q_move rfl) rfl ?_
          refine g_split 51 rfl (fun h20 => ?_) (fun h20 => ?_)
          · refine g_gf rfl rfl rfl rfl ?_
            refine g_gf rfl rfl rfl rfl ?_
            refine g_gf rfl rfl rfl rfl ?_
            refine s_q (q_pick_t rfl rfl) rfl ?_
            refine g_nil ?_
            refine g_then ?_
            refine g_true rfl ?_
            refine g_seq ?_
            refine g_region ?_
            refine g_op (g_pure rfl (fun w1 hw1 => alive_any w1) rfl ?_)
            refine s_q (q_assign rfl) rfl ?_
            refine g_nil ?_
            refine g_then ?_
            refine g_ret ?_
            refine g_then_ret ?_
            exact fin1 rfl (.tmp rfl) (fun w' hw' => ⟨by first | rfl | (simp_all; done) | (simp_all; omega), hw'.upd⟩) _ (.inl rfl)
          · have cm : 16 ≤ c.minch := by have h9 := of_decide_eq_false h20; omega
            refine s_qg (q_field rfl) rfl rfl rfl ?_
            refine s_qg (q_load rfl rfl) rfl rfl rfl ?_
            refine s_qg (q_gtr rfl rfl) rfl rfl rfl ?_
            refine s_q (q_pick_f rfl rfl) rfl ?_
            refine g_nil ?_
            refine g_then ?_
            refine g_cond rfl (fun h21 => ?_) (fun h21 => ?_)
            · refine g_seq ?_
              refine g_region ?_
              refine g_op (g_pure rfl (fun w1 hw1 => alive_any w1) rfl ?_)
              refine s_q (q_assign rfl) rfl ?_
              refine g_nil ?_
              refine g_then ?_
              refine g_ret ?_
              refine g_then_ret ?_
              exact fin1 rfl (.tmp rfl) (fun w' hw' => ⟨by first | rfl | (simp_all; done) | (simp_all; omega), hw'.upd⟩) _ (.inl rfl)
            · have cf : c.fcap ≤ 10000 := by have h9 := of_decide_eq_false h21; omega
              have km := hc0.minch
              have kf := hc0.fcap
              refine g_skip ?_
              refine g_then ?_
              refine g_seq ?_
              refine g_region ?_
              refine s_q (q_build (c := [Value.slice none ((LL.mk [] [])).f.length 0, Value.slice none ((LL.mk [] [])).v.length 0, Value.int .i64 ((100 : Nat) : Int)]) rfl rfl) rfl ?_
              refine g_op (g_box (c := [Value.slice none ((LL.mk [] [])).f.length 0, Value.slice none ((LL.mk [] [])).v.length 0, Value.int .i64 ((100 : Nat) : Int)]) rfl rfl rfl fun b58 => ?_)
              refine g_roNil none 1 ?_
              refine g_roEq (A := none) (n := 0) (els := []) ((LL.mk [] [])).v.length (((LL.mk [] [])).v.map (fun v : Int => [Value.int .i64 v])) rfl rfl ?_
              refine g_roNil none 1 ?_
              refine g_roEq (A := none) (n := 0) (els := []) ((LL.mk [] [])).f.length (((LL.mk [] [])).f.map (fun v : Int => [Value.int .i64 v])) rfl rfl ?_
              refine s_q (q_build (c := R0.c) rfl rfl) rfl ?_
              refine g_op (g_box (c := R0.c) rfl rfl rfl fun b60 => ?_)
              refine s_q (q_assign rfl) rfl ?_
              refine s_q (q_assign rfl) rfl ?_
              refine g_nil ?_
              refine g_then ?_
              refine g_seq ?_
              refine g_region ?_
              refine s_q (q_assign rfl) rfl ?_
              refine g_nilrow 10 22 1 rfl fun Az2 capz2 hcz2 => ?_
              refine g_rowels (A := Az2) (([] : List Int).map (fun v : Int => [Value.int .u64 v])) rfl ?_
              refine g_nil ?_
              refine g_then ?_
              refine g_seq ?_
              refine g_region ?_
              refine s_q (q_assign rfl) rfl ?_
              refine s_q (q_assign rfl) rfl ?_
              refine g_nil ?_
              refine g_then ?_
              refine g_seq ?_
              refine g_seq ?_
              refine g_region ?_
              refine s_q (q_move rfl) rfl ?_
              refine s_q (q_len rfl) rfl ?_
              refine s_q (q_move rfl) rfl ?_
              refine g_nil ?_
              refine g_then ?_
              refine g_block ?_
              refine g_loopk [3, 4, 6, 7, 8, 9, 12, 61, 62] (fun (x : Nat × Option Addr × Nat × List Int × Int × LL × Option Addr × Nat × Option Addr × Nat) => [(10, .slice x.2.1 x.2.2.2.1.length x.2.2.1), (11, .int .u64 x.2.2.2.2.1), (63, .int .i64 ((x.1 : Nat) : Int))]) (fun (x : Nat × Option Addr × Nat × List Int × Int × LL × Option Addr × Nat × Option Addr × Nat) => [Res.row x.2.1 (x.2.2.2.1).length x.2.2.1 22 1 ((x.2.2.2.1).map (fun v : Int => [Value.int .u64 v])), Res.blk b3 26 c.c, Res.blk b60 46 R0.c, Res.blk b58 43 [Value.slice x.2.2.2.2.2.2.1 (x.2.2.2.2.2.1).f.length x.2.2.2.2.2.2.2.1, Value.slice x.2.2.2.2.2.2.2.2.1 (x.2.2.2.2.2.1).v.length x.2.2.2.2.2.2.2.2.2, Value.int .i64 ((100 : Nat) : Int)], Res.ro x.2.2.2.2.2.2.1 (x.2.2.2.2.2.1).f.length 1 ((x.2.2.2.2.2.1).f.map (fun v : Int => [Value.int .i64 v])), Res.ro x.2.2.2.2.2.2.2.2.1 (x.2.2.2.2.2.1).v.length 1 ((x.2.2.2.2.2.1).v.map (fun v : Int => [Value.int .i64 v]))]) (fun (x : Nat × Option Addr × Nat × List Int × Int × LL × Option Addr × Nat × Option Addr × Nat) => x.1 ≤ lA.length ∧ x.2.2.2.1.length = x.1 ∧ PreI x.2.2.2.1 x.2.2.2.2.2.1 ∧ remW x.2.2.2.1 x.2.2.2.2.2.1 = x.2.2.2.2.1 ∧ lenL x.2.2.2.2.2.1 = x.1 ∧ 0 ≤ x.2.2.2.2.1 ∧ x.2.2.2.2.1 ≤ 255 * (x.1 : Int) ∧ (x.2.2.2.2.2.1).f.length ≤ x.2.2.2.2.2.2.2.1 ∧ (x.2.2.2.2.2.1).v.length ≤ x.2.2.2.2.2.2.2.2.2 ∧ ((x.2.2.2.2.2.1).f.length ≤ 100 ∧ (x.2.2.2.2.2.1).v.length ≤ 100)) (fun (x : Nat × Option Addr × Nat × List Int × Int × LL × Option Addr × Nat × Option Addr × Nat) => lA.length - x.1) (0, Az2, capz2, [], 0, (LL.mk [] []), none, 0, none, 0) (by (try dsimp only); exact ⟨Nat.zero_le _, rfl, ⟨by simp, by simp [els]⟩, (by simp [remW, els]), rfl, (by omega), (by simp), (by simp), (by simp), ⟨by simp, by simp⟩⟩) rfl (by repeat (first | exact trivial | refine ⟨rfl, ?_⟩)) wok_sub ?_
              rintro ⟨k, A, cap, W, ah, q, B0, d0, B1, d1⟩ ⟨le_k, hW, hI, hrm, hl1, ha0, ha1, u0, u1, hq⟩
              replace le_k : k ≤ lA.length := le_k
              replace hW : W.length = k := hW
              replace hI : PreI W q := hI
              replace hrm : remW W q = ah := hrm
              replace hl1 : lenL q = k := hl1
              replace ha0 : 0 ≤ ah := ha0
              replace ha1 : ah ≤ 255 * (k : Int) := ha1
              replace u0 : (q).f.length ≤ d0 := u0
              replace u1 : (q).v.length ≤ d1 := u1
              replace hq : (q).f.length ≤ 100 ∧ (q).v.length ≤ 100 := hq
              refine g_setL (L' := [Res.row A (W).length cap 22 1 ((W).map (fun v : Int => [Value.int .u64 v])), Res.blk b3 26 c.c, Res.blk b60 46 R0.c, Res.blk b58 43 [Value.slice B0 (q).f.length d0, Value.slice B1 (q).v.length d1, Value.int .i64 ((100 : Nat) : Int)], Res.ro B0 (q).f.length 1 ((q).f.map (fun v : Int => [Value.int .i64 v])), Res.ro B1 (q).v.length 1 ((q).v.map (fun v : Int => [Value.int .i64 v]))]) rfl ?_
              refine g_val 10 (v' := .slice A W.length cap) rfl rfl ?_
              refine g_val 11 (v' := .int .u64 ah) rfl rfl ?_
              refine g_val 63 (v' := .int .i64 ((k : Nat) : Int)) rfl rfl ?_
              refine g_seq ?_
              refine g_region ?_
              refine s_q (q_lss rfl rfl) rfl ?_
              refine g_nil ?_
              refine g_then ?_
              refine g_seq ?_
              refine g_cond rfl (fun h22 => ?_) (fun h22 => ?_)
              · have lt_k : k < lA.length := by have h9 := of_decide_eq_true h22; omega
                refine g_skip ?_
                refine g_then ?_
                refine g_seq ?_
                refine g_block ?_
                refine g_seq ?_
                refine g_region ?_
                refine s_q (q_move rfl) rfl ?_
                refine s_q (q_index (i := k) rfl rfl rfl (oA.rdb rfl) (by first | exact lt_k | omega)) rfl ?_
                refine s_q (q_load_el (i := k) (o := 0) rfl (oA.rdb rfl) (map_get (by first | assumption | omega)) rfl rfl) rfl ?_
                refine s_q (q_assign rfl) rfl ?_
                refine s_q (q_assign rfl) rfl ?_
                refine g_nil ?_
                refine g_then ?_
                refine g_seq ?_
                refine g_region ?_
                refine s_q (q_move rfl) rfl ?_
                refine s_q (q_move rfl) rfl ?_
                refine s_q (q_rem rfl rfl (by decide)) rfl ?_
                refine g_val 70 (v' := .int .u16 (lA[k] % 256)) rfl (by rw [Int.tmod_eq_emod_of_nonneg (by have h9 := kA _ (List.getElem_mem lt_k); omega)]) ?_
                refine s_q (q_convz (z := lA[k] % 256) rfl (wu64 (by omega) (by omega))) rfl ?_
                refine g_op (g_lit rfl rfl rfl rfl rfl fun b72 => ?_)
                refine g_blkc (b := b72) ((([(lA[k] % 256)] : List Int).map (fun v : Int => [Value.int .u64 v])).flatten) rfl ?_
                refine g_op (g_append (A := A) (els := (W).map (fun v : Int => [Value.int .u64 v])) (news := (([(lA[k] % 256)] : List Int).map (fun v : Int => [Value.int .u64 v]))) rfl rfl (InL.rdb (b := b72) rfl (by simp) rfl) (map_one (c := (fun v : Int => [Value.int .u64 v])) (by intro x; simp [Value.oneCell']) _) (by first | omega | (simp; omega) | (simp_all; omega)) rfl fun A73 cap73 => ⟨_, inferInstance, ?_⟩)
                refine g_rowels (A := A73) (((W ++ [(lA[k] % 256)])).map (fun v : Int => [Value.int .u64 v])) (by first | rfl | exact List.map_append.symm | (simp; done)) ?_
                refine s_q (q_assign rfl) rfl ?_
                refine g_nil ?_
                refine g_then ?_
                refine g_seq ?_
                refine g_region ?_
                refine s_q (q_move rfl) rfl ?_
                refine s_q (q_move rfl) rfl ?_
                refine s_q (q_rem rfl rfl (by decide)) rfl ?_
                refine g_val 76 (v' := .int .u16 (lA[k] % 256)) rfl (by rw [Int.tmod_eq_emod_of_nonneg (by have h9 := kA _ (List.getElem_mem lt_k); omega)]) ?_
                refine s_q (q_convz (z := lA[k] % 256) rfl (wu64 (by omega) (by omega))) rfl ?_
                refine s_q (q_addz (z := ah + lA[k] % 256) rfl rfl (wu64 (by omega) (by omega))) rfl ?_
                refine s_q (q_assign rfl) rfl ?_
                refine g_nil ?_
                refine g_then ?_
                refine g_region ?_
                refine s_q (q_move rfl) rfl ?_
                refine s_q (q_move rfl) rfl ?_
                refine s_q (q_remn (a := k) (b := 2) rfl rfl (by first | omega | (simp; omega) | (simp_all; omega))) rfl ?_
                refine s_q (q_move rfl) rfl ?_
                refine g_op (g_ownS [Res.blk b58 43 [Value.slice B0 (q).f.length d0, Value.slice B1 (q).v.length d1, Value.int .i64 ((100 : Nat) : Int)], Res.ro B0 (q).f.length 1 ((q).f.map (fun v : Int => [Value.int .i64 v])), Res.ro B1 (q).v.length 1 ((q).v.map (fun v : Int => [Value.int .i64 v]))] rfl (fun w1 hw1 ho1 => by have h7 := rpush_any b58 B0 B1 d0 d1 q 100 (((k : Nat) : Int)) ((((k % 2) : Nat) : Int)) w1 ho1 u0 u1 (by omega) hq; exact h7) rfl ?_)
                rintro ⟨A83, c83, AA83, cc83⟩ ⟨u83, uu83⟩
                refine ⟨_, _, inferInstance, inferInstance, ?_⟩
                simp only at u83 uu83
                have hq83 := pushL_len ((((k % 2) : Nat) : Int)) (((k : Nat) : Int)) hq
                refine g_nil ?_
                refine g_blk_n ?_
                refine g_then ?_
                refine g_region ?_
                refine s_q (q_inc rfl rfl (by omega)) rfl ?_
                refine s_q (q_move rfl) rfl ?_
                refine g_nil ?_
                have hkA := kA _ (List.getElem_mem lt_k)
                have hP := hI.push (c := (((k % 2 : Nat)) : Int)) (i := ((k : Nat) : Int)) (w := lA[k] % 256) (by omega) (by omega) (by rw [hW]) (by omega)
                refine g_rown (A := A73) ((W ++ [(lA[k] % 256)])).length (by simp) ?_
                refine g_val 10 (v' := .slice A73 ((W ++ [(lA[k] % 256)])).length cap73) rfl (by simp) ?_
                exact g_again ((k + 1), A73, cap73, (W ++ [(lA[k] % 256)]), (ah + lA[k] % 256), (pushL 100 ((((k % 2) : Nat) : Int)) (((k : Nat) : Int)) q), A83, c83, AA83, cc83) (by (try dsimp only); exact ⟨(by first | exact lt_k | omega), (by simp; omega), hP.1, (by rw [hP.2.1, hrm]), (by rw [hP.2.2.1, hl1]), (by omega), (by omega), u83, uu83, hq83⟩) (by first | omega | (simp only; omega)) (by repeat (first | exact trivial | refine ⟨rfl, ?_⟩)) wok_sub
              · have eq_k : k = lA.length := by have h9 := of_decide_eq_false h22; omega
                refine g_exit ?_
                refine g_then_x (g_then_x (g_blk_hit ?_))
                refine g_then ?_
                refine g_seq ?_
                refine g_region ?_
                refine s_q (q_move rfl) rfl ?_
                refine s_q (q_len rfl) rfl ?_
                refine g_val 86 (v' := .int .i64 ((lA.length : Nat) : Int)) rfl (by rw [hW, eq_k]) ?_
                refine s_q (q_assign rfl) rfl ?_
                refine g_nil ?_
                refine g_then ?_
                refine g_seq ?_
                refine g_region ?_
                refine s_q (q_move rfl) rfl ?_
                refine s_q (q_move rfl) rfl ?_
                refine s_q (q_rem rfl rfl (by decide)) rfl ?_
                refine g_val 89 (v' := .int .u16 (wt % 256)) rfl (by rw [Int.tmod_eq_emod_of_nonneg (by have h9 := hw0; omega)]) ?_
                refine s_q (q_convz (z := wt % 256) rfl (wu64 (by omega) (by omega))) rfl ?_
                refine g_op (g_lit rfl rfl rfl rfl rfl fun b91 => ?_)
                refine g_blkc (b := b91) ((([(wt % 256)] : List Int).map (fun v : Int => [Value.int .u64 v])).flatten) rfl ?_
                refine g_op (g_append (A := A) (els := (W).map (fun v : Int => [Value.int .u64 v])) (news := (([(wt % 256)] : List Int).map (fun v : Int => [Value.int .u64 v]))) rfl rfl (InL.rdb (b := b91) rfl (by simp) rfl) (map_one (c := (fun v : Int => [Value.int .u64 v])) (by intro x; simp [Value.oneCell']) _) (by first | omega | (simp; omega) | (simp_all; omega)) rfl fun A92 cap92 => ⟨_, inferInstance, ?_⟩)
                refine g_rowels (A := A92) (((W ++ [(wt % 256)])).map (fun v : Int => [Value.int .u64 v])) (by first | rfl | exact List.map_append.symm | (simp; done)) ?_
                refine s_q (q_assign rfl) rfl ?_
                refine g_nil ?_
                refine g_then ?_
                refine g_seq ?_
                refine g_region ?_
                refine s_q (q_move rfl) rfl ?_
                refine s_q (q_move rfl) rfl ?_
                refine g_op (g_ownS [Res.blk b58 43 [Value.slice B0 (q).f.length d0, Value.slice B1 (q).v.length d1, Value.int .i64 ((100 : Nat) : Int)], Res.ro B0 (q).f.length 1 ((q).f.map (fun v : Int => [Value.int .i64 v])), Res.ro B1 (q).v.length 1 ((q).v.map (fun v : Int => [Value.int .i64 v]))] rfl (fun w1 hw1 ho1 => by have h7 := rpush_any b58 B0 B1 d0 d1 q 100 (((lA.length : Nat) : Int)) (1) w1 ho1 u0 u1 (by omega) hq; exact h7) rfl ?_)
                rintro ⟨A95, c95, AA95, cc95⟩ ⟨u95, uu95⟩
                refine ⟨_, _, inferInstance, inferInstance, ?_⟩
                simp only at u95 uu95
                have hq95 := pushL_len (1) (((lA.length : Nat) : Int)) hq
                have hO := hI.push (c := 1) (i := ((lA.length : Nat) : Int)) (w := wt % 256) (.inr rfl) (by omega) (by rw [hW, eq_k]) (by omega)
                refine g_nil ?_
                refine g_then ?_
                refine g_seq ?_
                refine g_region ?_
                refine s_q (q_move rfl) rfl ?_
                refine s_q (q_move rfl) rfl ?_
                refine s_q (q_rem rfl rfl (by decide)) rfl ?_
                refine g_val 99 (v' := .int .u16 (wt % 256)) rfl (by rw [Int.tmod_eq_emod_of_nonneg (by omega)]) ?_
                refine s_q (q_convz (z := wt % 256) rfl (wu64 (by omega) (by omega))) rfl ?_
                refine s_q (q_loadw rfl rfl) rfl ?_
                refine g_op (g_pure rfl (fun w1 hw1 => exit_any _ _ _ _ w1 (by unfold U64; omega) (by unfold U64; omega) hc0 (by unfold I64; omega)) rfl ?_)
                refine s_q (q_move rfl) rfl ?_
                refine s_q (q_extract rfl rfl) rfl ?_
                refine s_q (q_extract rfl rfl) rfl ?_
                refine s_q (q_assign rfl) rfl ?_
                obtain ⟨hxb, K, hK, hK1, hK3, hK4, hK5⟩ := exit_asg (a := ah) (b := wt % 256) hc0 (by omega) (by omega) cm cf
                refine g_val 16 (v' := .int .i64 ((K + 1 : Nat) : Int)) rfl (by rw [hK]) ?_
                refine s_q (q_assign rfl) rfl ?_
                refine g_nil ?_
                refine g_then ?_
                refine g_seq ?_
                refine g_seq ?_
                refine g_region ?_
                refine s_q (q_move rfl) rfl ?_
                refine g_litb 105 (b := true) rfl (hxb) ?_
                refine s_q (q_not rfl) rfl ?_
                refine g_nil ?_
                refine g_then ?_
                refine g_false rfl ?_
                refine g_skip ?_
                refine g_then ?_
                refine g_seq ?_
                refine g_seq ?_
                refine g_region ?_
                refine s_q (q_assign rfl) rfl ?_
                refine g_nil ?_
                refine g_then ?_
                refine g_block ?_
                refine g_rown (A := A92) ((W ++ [wt % 256])).length (by simp) ?_
                refine g_val 10 (v' := .slice A92 ((W ++ [wt % 256])).length cap92) rfl (by simp) ?_
                refine g_loopk [3, 4, 6, 8, 9, 15, 16] (fun (x : Nat × Option Addr × Nat × List Int × Int × LL × R × Option Addr × Nat × Option Addr × Nat) => [(18, .int .i64 ((x.1 : Nat) : Int)), (10, .slice x.2.1 x.2.2.2.1.length x.2.2.1), (12, .int .u64 x.2.2.2.2.1)]) (fun (x : Nat × Option Addr × Nat × List Int × Int × LL × R × Option Addr × Nat × Option Addr × Nat) => [Res.row x.2.1 (x.2.2.2.1).length x.2.2.1 22 1 ((x.2.2.2.1).map (fun v : Int => [Value.int .u64 v])), Res.blk b3 26 c.c, Res.blk b60 46 (R.c x.2.2.2.2.2.2.1), Res.blk b58 43 [Value.slice x.2.2.2.2.2.2.2.1 (x.2.2.2.2.2.1).f.length x.2.2.2.2.2.2.2.2.1, Value.slice x.2.2.2.2.2.2.2.2.2.1 (x.2.2.2.2.2.1).v.length x.2.2.2.2.2.2.2.2.2.2, Value.int .i64 ((100 : Nat) : Int)], Res.ro x.2.2.2.2.2.2.2.1 (x.2.2.2.2.2.1).f.length 1 ((x.2.2.2.2.2.1).f.map (fun v : Int => [Value.int .i64 v])), Res.ro x.2.2.2.2.2.2.2.2.2.1 (x.2.2.2.2.2.1).v.length 1 ((x.2.2.2.2.2.1).v.map (fun v : Int => [Value.int .i64 v]))]) (fun (x : Nat × Option Addr × Nat × List Int × Int × LL × R × Option Addr × Nat × Option Addr × Nat) => 1 ≤ x.1 ∧ x.1 ≤ K + 1 ∧ PreI x.2.2.2.1 x.2.2.2.2.2.1 ∧ (((lA.length : Nat)) : Int) ∈ els x.2.2.2.2.2.1 ∧ (x.2.2.2.2.2.2.1).b = gr c x.1 - (ah + wt % 256 + x.2.2.2.2.1) + remW x.2.2.2.1 x.2.2.2.2.2.1 ∧ 0 ≤ (x.2.2.2.2.2.2.1).b ∧ (0 ≤ x.2.2.2.2.1 ∧ x.2.2.2.2.1 ≤ c.fcap) ∧ lenL x.2.2.2.2.2.1 ≤ 21 + min (x.1 - 1) lB.length ∧ x.2.2.2.1.length ≤ 21 + min (x.1 - 1) lB.length ∧ (x.2.2.2.2.2.1).f.length ≤ x.2.2.2.2.2.2.2.2.1 ∧ (x.2.2.2.2.2.1).v.length ≤ x.2.2.2.2.2.2.2.2.2.2 ∧ ((x.2.2.2.2.2.1).f.length ≤ 100 ∧ (x.2.2.2.2.2.1).v.length ≤ 100) ∧ (x.1 = 1 ∨ ((x.2.2.2.2.2.2.1).b < ofW x.2.2.2.1 (headI x.2.2.2.2.2.1) ∧ headB x.2.2.2.2.2.1 = true))) (fun (x : Nat × Option Addr × Nat × List Int × Int × LL × R × Option Addr × Nat × Option Addr × Nat) => K + 1 - x.1) (1, A92, cap92, (W ++ [wt % 256]), 0, (pushL 100 1 (((lA.length : Nat) : Int)) q), R0, A95, c95, AA95, cc95) (by (try dsimp only); exact ⟨(by omega), (by omega), hO.1, hO.2.2.2.2, (by rw [gr_one, hO.2.1, hrm]; show (0 : Int) = _; omega), (Int.le_refl 0), (by omega), (by rw [hO.2.2.1]; omega), (by simp; omega), u95, uu95, hq95, (.inl rfl)⟩) rfl (by repeat (first | exact trivial | refine ⟨rfl, ?_⟩)) wok_sub ?_
                rintro ⟨e, A2, cap2, W2, fo, q2, m2, B2, d2, B3, d3⟩ ⟨he1, he2, hI2, hown, hbal, hmb, hfo, hln, hWl, u2, u3, hq2, hst⟩
                replace he1 : 1 ≤ e := he1
                replace he2 : e ≤ K + 1 := he2
                replace hI2 : PreI W2 q2 := hI2
                replace hown : (((lA.length : Nat)) : Int) ∈ els q2 := hown
                replace hbal : (m2).b = gr c e - (ah + wt % 256 + fo) + remW W2 q2 := hbal
                replace hmb : 0 ≤ (m2).b := hmb
                replace hfo : 0 ≤ fo ∧ fo ≤ c.fcap := hfo
                replace hln : lenL q2 ≤ 21 + min (e - 1) lB.length := hln
                replace hWl : W2.length ≤ 21 + min (e - 1) lB.length := hWl
                replace u2 : (q2).f.length ≤ d2 := u2
                replace u3 : (q2).v.length ≤ d3 := u3
                replace hq2 : (q2).f.length ≤ 100 ∧ (q2).v.length ≤ 100 := hq2
                replace hst : e = 1 ∨ ((m2).b < ofW W2 (headI q2) ∧ headB q2 = true) := hst
                refine g_setL (L' := [Res.row A2 (W2).length cap2 22 1 ((W2).map (fun v : Int => [Value.int .u64 v])), Res.blk b3 26 c.c, Res.blk b60 46 (R.c m2), Res.blk b58 43 [Value.slice B2 (q2).f.length d2, Value.slice B3 (q2).v.length d3, Value.int .i64 ((100 : Nat) : Int)], Res.ro B2 (q2).f.length 1 ((q2).f.map (fun v : Int => [Value.int .i64 v])), Res.ro B3 (q2).v.length 1 ((q2).v.map (fun v : Int => [Value.int .i64 v]))]) rfl ?_
                refine g_val 18 (v' := .int .i64 ((e : Nat) : Int)) rfl rfl ?_
                refine g_val 10 (v' := .slice A2 W2.length cap2) rfl rfl ?_
                refine g_val 12 (v' := .int .u64 fo) rfl rfl ?_
                refine g_seq ?_
                refine g_seq ?_
                refine g_region ?_
                refine s_q (q_move rfl) rfl ?_
                refine s_q (q_move rfl) rfl ?_
                refine s_q (q_lss rfl rfl) rfl ?_
                refine g_nil ?_
                refine g_then ?_
                refine g_cond rfl (fun h23 => ?_) (fun h23 => ?_)
                · have lt_e : e < K + 1 := by have h9 := of_decide_eq_true h23; omega
                  have hgs := gr_succ c e
                  have hgl := gr_le (c := c) (by omega) (show e + 1 ≤ K + 1 by omega)
                  have hg0 := gr_le (c := c) (by omega) he1
                  rw [gr_one] at hg0
                  refine g_skip ?_
                  refine g_then ?_
                  refine g_seq ?_
                  refine g_block ?_
                  refine g_seq ?_
                  refine g_seq ?_
                  refine d_regionL (L0 := [Res.blk b3 26 c.c]) [] mixed rfl rfl wok_sub ?_
                  refine d_q 0 rfl (by kernel_rfl) (q_move rfl) wok_sub rfl (ls' := #[true, false, false, false, false, false, false, false, false, false, false, false, false, false, false, false, false, false]) rfl ?_
                  refine d_q 1 rfl (by kernel_rfl) (q_move rfl) wok_sub rfl (ls' := #[true, true, false, false, false, false, false, false, false, false, false, false, false, false, false, false, false, false]) rfl ?_
                  refine d_q 2 rfl (by kernel_rfl) (q_len rfl) wok_sub rfl (ls' := #[true, true, true, false, false, false, false, false, false, false, false, false, false, false, false, false, false, false]) rfl ?_
                  refine d_q 3 rfl (by kernel_rfl) (q_leq rfl rfl) wok_sub rfl (ls' := #[true, true, true, true, false, false, false, false, false, false, false, false, false, false, false, false, false, false]) rfl ?_
                  refine d_q 4 rfl (by kernel_rfl) (q_move rfl) wok_sub rfl (ls' := #[true, true, true, true, true, false, false, false, false, false, false, false, false, false, false, false, false, false]) rfl ?_
                  refine g_split 116 rfl (fun h24 => ?_) (fun h24 => ?_)
                  · have hle9 : e ≤ lB.length := by have h9 := of_decide_eq_true h24; omega
                    have hlt9 : e - 1 < lB.length := by omega
                    have hkB := kB _ (List.getElem_mem hlt9)
                    refine d_qg 5 rfl (by kernel_rfl) (q_move rfl) rfl rfl wok_sub rfl (ls' := #[true, true, true, true, true, true, false, false, false, false, false, false, false, false, false, false, false, false]) rfl ?_
                    refine d_qg 6 rfl (by kernel_rfl) (q_move rfl) rfl rfl wok_sub rfl (ls' := #[true, true, true, true, true, true, true, false, false, false, false, false, false, false, false, false, false, false]) rfl ?_
                    refine d_qg 7 rfl (by kernel_rfl) (q_move rfl) rfl rfl wok_sub rfl (ls' := #[true, true, true, true, true, true, true, true, false, false, false, false, false, false, false, false, false, false]) rfl ?_
                    refine d_qg 8 rfl (by kernel_rfl) (q_subn (a := e) (b := 1) rfl rfl (by first | omega | (simp; omega) | (simp_all; omega)) (by first | omega | (simp; omega) | (simp_all; omega))) rfl rfl wok_sub rfl (ls' := #[true, true, true, true, true, true, true, true, true, false, false, false, false, false, false, false, false, false]) rfl ?_
                    refine d_qg 9 rfl (by kernel_rfl) (q_index (i := (e - 1)) rfl rfl rfl (oB.rdb rfl) (by first | omega | (simp; done) | (simp; omega))) rfl rfl wok_sub rfl (ls' := #[true, true, true, true, true, true, true, true, true, true, false, false, false, false, false, false, false, false]) rfl ?_
                    refine d_qg 10 rfl (by kernel_rfl) (q_load_el (i := (e - 1)) (o := 0) rfl (oB.rdb rfl) (map_get (by first | assumption | omega)) rfl rfl) rfl rfl wok_sub rfl (ls' := #[true, true, true, true, true, true, true, true, true, true, true, false, false, false, false, false, false, false]) rfl ?_
                    refine d_qg 11 rfl (by kernel_rfl) (q_rem rfl rfl (by decide)) rfl rfl wok_sub rfl (ls' := #[true, true, true, true, true, true, true, true, true, true, true, true, false, false, false, false, false, false]) rfl ?_
                    refine g_val 123 (v' := .int .u16 (lB[e - 1] % 256)) rfl (by rw [Int.tmod_eq_emod_of_nonneg (by omega)]) ?_
                    refine d_qg 12 rfl (by kernel_rfl) (q_convz (z := lB[e - 1] % 256) rfl (wu64 (by omega) (by omega))) rfl rfl wok_sub rfl (ls' := #[true, true, true, true, true, true, true, true, true, true, true, true, true, false, false, false, false, false]) rfl ?_
                    refine d_qg 13 rfl (by kernel_rfl) (q_addz (z := fo + (lB[e - 1] % 256)) rfl rfl (wu64 (by omega) (by omega))) rfl rfl wok_sub rfl (ls' := #[true, true, true, true, true, true, true, true, true, true, true, true, true, true, false, false, false, false]) rfl ?_
                    refine d_qg 14 rfl (by kernel_rfl) (q_field rfl) rfl rfl wok_sub rfl (ls' := #[true, true, true, true, true, true, true, true, true, true, true, true, true, true, true, false, false, false]) rfl ?_
                    refine d_qg 15 rfl (by kernel_rfl) (q_load rfl rfl) rfl rfl wok_sub rfl (ls' := #[true, true, true, true, true, true, true, true, true, true, true, true, true, true, true, true, false, false]) rfl ?_
                    refine d_qg 16 rfl (by kernel_rfl) (q_leq rfl rfl) rfl rfl wok_sub rfl (ls' := #[true, true, true, true, true, true, true, true, true, true, true, true, true, true, true, true, true, false]) rfl ?_
                    refine d_q 17 rfl (by kernel_rfl) (q_pick_t rfl rfl) wok_sub rfl (ls' := #[true, true, true, true, true, true, true, true, true, true, true, true, true, true, true, true, true, true]) rfl ?_
                    refine d_end (by kernel_rfl) (.inr wok_sub) ?_
                    refine g_then ?_
                    refine g_cond rfl (fun h25 => ?_) (fun h25 => ?_)
                    · have hfcap := h25
                      have hP3 := hI2.push (c := 0) (i := ((W2.length : Nat) : Int)) (w := lB[e - 1] % 256) (.inl rfl) (by omega) rfl (by omega)
                      obtain ⟨fo2, hfo2⟩ : ∃ z : Int, z = fo + lB[e - 1] % 256 := ⟨_, rfl⟩
                      have hf2 : 0 ≤ fo2 ∧ fo2 ≤ c.fcap := by have h9 := of_decide_eq_true hfcap; omega
                      have hI3 := hP3.1
                      have ho3 := hP3.2.2.2.1 _ hown
                      have hb3 : m2.b = gr c e - (ah + wt % 256 + fo2) + remW (W2 ++ [lB[e - 1] % 256]) (pushL 100 0 ((W2.length : Nat) : Int) q2) := by rw [hP3.2.1]; omega
                      refine g_seq ?_
                      refine g_region ?_
                      refine s_q (q_move rfl) rfl ?_
                      refine s_q (q_move rfl) rfl ?_
                      refine s_q (q_move rfl) rfl ?_
                      refine s_q (q_subn (a := e) (b := 1) rfl rfl (by first | omega | (simp; omega) | (simp_all; omega)) (by first | omega | (simp; omega) | (simp_all; omega))) rfl ?_
                      refine s_q (q_index (i := (e - 1)) rfl rfl rfl (oB.rdb rfl) (by first | omega | (simp; done) | (simp; omega))) rfl ?_
                      refine s_q (q_load_el (i := (e - 1)) (o := 0) rfl (oB.rdb rfl) (map_get (by first | assumption | omega)) rfl rfl) rfl ?_
                      refine s_q (q_rem rfl rfl (by decide)) rfl ?_
                      refine g_val 136 (v' := .int .u16 (lB[e - 1] % 256)) rfl (by rw [Int.tmod_eq_emod_of_nonneg (by omega)]) ?_
                      refine s_q (q_convz (z := lB[e - 1] % 256) rfl (wu64 (by omega) (by omega))) rfl ?_
                      refine s_q (q_addz (z := fo + (lB[e - 1] % 256)) rfl rfl (wu64 (by omega) (by omega))) rfl ?_
                      refine s_q (q_assign rfl) rfl ?_
                      refine g_nil ?_
                      refine g_then ?_
                      refine g_seq ?_
                      refine g_region ?_
                      refine s_q (q_move rfl) rfl ?_
                      refine s_q (q_move rfl) rfl ?_
                      refine s_q (q_len rfl) rfl ?_
                      refine g_op (g_ownS [Res.blk b58 43 [Value.slice B2 (q2).f.length d2, Value.slice B3 (q2).v.length d3, Value.int .i64 ((100 : Nat) : Int)], Res.ro B2 (q2).f.length 1 ((q2).f.map (fun v : Int => [Value.int .i64 v])), Res.ro B3 (q2).v.length 1 ((q2).v.map (fun v : Int => [Value.int .i64 v]))] rfl (fun w1 hw1 ho1 => by have h7 := rpush_any b58 B2 B3 d2 d3 q2 100 (((W2.length : Nat) : Int)) (0) w1 ho1 u2 u3 (by omega) hq2; exact h7) rfl ?_)
                      rintro ⟨A142, c142, AA142, cc142⟩ ⟨u142, uu142⟩
                      refine ⟨_, _, inferInstance, inferInstance, ?_⟩
                      simp only at u142 uu142
                      have hq142 := pushL_len (0) (((W2.length : Nat) : Int)) hq2
                      refine g_nil ?_
                      refine g_then ?_
                      refine g_region ?_
                      refine s_q (q_move rfl) rfl ?_
                      refine s_q (q_move rfl) rfl ?_
                      refine s_q (q_move rfl) rfl ?_
                      refine s_q (q_subn (a := e) (b := 1) rfl rfl (by first | omega | (simp; omega) | (simp_all; omega)) (by first | omega | (simp; omega) | (simp_all; omega))) rfl ?_
                      refine s_q (q_index (i := (e - 1)) rfl rfl rfl (oB.rdb rfl) (by first | omega | (simp; done) | (simp; omega))) rfl ?_
                      refine s_q (q_load_el (i := (e - 1)) (o := 0) rfl (oB.rdb rfl) (map_get (by first | assumption | omega)) rfl rfl) rfl ?_
                      refine s_q (q_rem rfl rfl (by decide)) rfl ?_
                      refine g_val 149 (v' := .int .u16 (lB[e - 1] % 256)) rfl (by rw [Int.tmod_eq_emod_of_nonneg (by omega)]) ?_
                      refine s_q (q_convz (z := lB[e - 1] % 256) rfl (wu64 (by omega) (by omega))) rfl ?_
                      refine g_op (g_lit rfl rfl rfl rfl rfl fun b151 => ?_)
                      refine g_blkc (b := b151) ((([(lB[e - 1] % 256)] : List Int).map (fun v : Int => [Value.int .u64 v])).flatten) rfl ?_
                      refine g_op (g_append (A := A2) (els := (W2).map (fun v : Int => [Value.int .u64 v])) (news := (([(lB[e - 1] % 256)] : List Int).map (fun v : Int => [Value.int .u64 v]))) rfl rfl (InL.rdb (b := b151) rfl (by simp) rfl) (map_one (c := (fun v : Int => [Value.int .u64 v])) (by intro x; simp [Value.oneCell']) _) (by first | omega | (simp; omega) | (simp_all; omega)) rfl fun A152 cap152 => ⟨_, inferInstance, ?_⟩)
                      refine g_rowels (A := A152) (((W2 ++ [(lB[e - 1] % 256)])).map (fun v : Int => [Value.int .u64 v])) (by first | rfl | exact List.map_append.symm | (simp; done)) ?_
                      refine s_q (q_assign rfl) rfl ?_
                      refine g_nil ?_
                      refine g_then ?_
                      refine g_seq ?_
                      refine g_region ?_
                      refine s_q (q_move rfl) rfl ?_
                      refine s_q (q_move rfl) rfl ?_
                      refine s_q (q_move rfl) rfl ?_
                      refine s_q (q_field rfl) rfl ?_
                      refine s_q (q_load rfl rfl) rfl ?_
                      refine s_q (q_move rfl) rfl ?_
                      refine g_op (g_ownS [Res.blk b58 43 [Value.slice A142 ((pushL 100 (0) (((W2.length : Nat) : Int)) q2)).f.length c142, Value.slice AA142 ((pushL 100 (0) (((W2.length : Nat) : Int)) q2)).v.length cc142, Value.int .i64 ((100 : Nat) : Int)], Res.ro A142 ((pushL 100 (0) (((W2.length : Nat) : Int)) q2)).f.length 1 (((pushL 100 (0) (((W2.length : Nat) : Int)) q2)).f.map (fun v : Int => [Value.int .i64 v])), Res.ro AA142 ((pushL 100 (0) (((W2.length : Nat) : Int)) q2)).v.length 1 (((pushL 100 (0) (((W2.length : Nat) : Int)) q2)).v.map (fun v : Int => [Value.int .i64 v])), Res.blk b60 46 (R.c m2)] rfl (fun w1 hw1 ho1 => by have h7 := rstep_any (((e : Nat) : Int)) ((c).minch) b58 b60 A142 AA142 c142 cc142 (pushL 100 (0) (((W2.length : Nat) : Int)) q2) 100 m2 A152 ((W2.length + 1)) (cap152) ((W2 ++ [(lB[e - 1] % 256)])) w1 ho1 u142 uu142 (by omega) hq142 (Rd.ofRow (A := A152) hw1) (by omega); exact h7) rfl ?_)
                      rintro ⟨O159, oc159, A159, c159, AA159, cc159⟩ ⟨u159, uu159⟩
                      refine ⟨_, _, inferInstance, inferInstance, ?_⟩
                      simp only at u159 uu159
                      have hq159 := stepR_len (W := (W2 ++ [(lB[e - 1] % 256)])) (e := ((e : Nat) : Int)) (lim := (c).minch) (m := m2) hq142
                      generalize hst159 : (stepR ((W2 ++ [(lB[e - 1] % 256)])) (((e : Nat) : Int)) ((c).minch) (pushL 100 (0) (((W2.length : Nat) : Int)) q2) m2) = st159 at u159 uu159 hq159 ⊢
                      refine s_q (q_len rfl) rfl ?_
                      refine s_q (q_move rfl) rfl ?_
                      refine g_nil ?_
                      refine g_then ?_
                      refine g_block ?_
                      have hse := stepR_e hst159
                      have hcnt : st159.1.length ≤ 201 := by have h9 := stepR_cnt hst159; unfold lenL at h9; omega
                      refine g_loopk [3, 4, 6, 8, 9, 10, 12, 15, 16, 18, 159, 160] (fun (x : Nat) => [(161, .int .i64 ((x : Nat) : Int))]) (fun (x : Nat) => [Res.row O159 (st159.1.length) oc159 52 3 ((st159.1).map As.cs), Res.row A152 ((W2.length + 1)) cap152 22 1 (((W2 ++ [(lB[e - 1] % 256)])).map (fun v : Int => [Value.int .u64 v])), Res.blk b3 26 c.c, Res.blk b60 46 (R.c st159.2.2), Res.blk b58 43 [Value.slice A159 (st159.2.1).f.length c159, Value.slice AA159 (st159.2.1).v.length cc159, Value.int .i64 ((100 : Nat) : Int)], Res.ro A159 (st159.2.1).f.length 1 ((st159.2.1).f.map (fun v : Int => [Value.int .i64 v])), Res.ro AA159 (st159.2.1).v.length 1 ((st159.2.1).v.map (fun v : Int => [Value.int .i64 v]))]) (fun (x : Nat) => x ≤ st159.1.length ∧ (∀ a ∈ (st159.1).take x, a.i ≠ (((lA.length : Nat)) : Int))) (fun (x : Nat) => st159.1.length - x) 0 (by (try dsimp only); exact ⟨Nat.zero_le _, (by simp)⟩) rfl (by repeat (first | exact trivial | refine ⟨rfl, ?_⟩)) wok_sub ?_
                      rintro j ⟨le_j, hno⟩
                      replace le_j : j ≤ st159.1.length := le_j
                      replace hno : ∀ a ∈ (st159.1).take j, a.i ≠ (((lA.length : Nat)) : Int) := hno
                      refine g_seq ?_
                      refine g_region ?_
                      refine s_q (q_lss rfl rfl) rfl ?_
                      refine g_nil ?_
                      refine g_then ?_
                      refine g_seq ?_
                      refine g_cond rfl (fun h26 => ?_) (fun h26 => ?_)
                      · have lt_j : j < st159.1.length := by have h9 := of_decide_eq_true h26; omega
                        refine g_skip ?_
                        refine g_then ?_
                        refine g_seq ?_
                        refine g_block ?_
                        refine g_seq ?_
                        refine g_region ?_
                        refine s_q (q_index (i := j) rfl rfl rfl (InRow.rdb (A := O159) (els := (st159.1).map As.cs) (by first | rfl | assumption | (simp; done) | (simp_all; done) | (simp; omega) | (simp_all; omega)) (map_cat (c := As.cs) (fun _ => rfl) _)) (by first | exact lt_j | omega)) rfl ?_
                        refine s_q (q_load_ew (i := j) rfl (InRow.rdb (A := O159) (els := (st159.1).map As.cs) (by first | rfl | assumption | (simp; done) | (simp_all; done) | (simp; omega) | (simp_all; omega)) (map_cat (c := As.cs) (fun _ => rfl) _)) (map_get (by first | assumption | omega | (simp_all; done) | (simp_all; omega))) rfl) rfl ?_
                        refine g_op (g_alloc rfl fun b20 => ?_)
                        refine g_op (g_storew rfl rfl rfl rfl rfl ?_)
                        refine g_nil ?_
                        refine g_then ?_
                        refine g_seq ?_
                        refine g_region ?_
                        refine s_q (q_field rfl) rfl ?_
                        refine s_q (q_load rfl rfl) rfl ?_
                        refine s_q (q_move rfl) rfl ?_
                        refine s_q (q_eql rfl rfl) rfl ?_
                        refine g_nil ?_
                        refine g_then ?_
                        refine g_cond rfl (fun h27 => ?_) (fun h27 => ?_)
                        · refine g_seq ?_
                          refine g_region ?_
                          refine g_op (g_pure rfl (fun w1 hw1 => alive_any w1) rfl ?_)
                          refine s_q (q_move rfl) rfl ?_
                          refine s_qg (q_field rfl) rfl rfl rfl ?_
                          refine s_qg (q_load rfl rfl) rfl rfl rfl ?_
                          refine s_qg (q_move rfl) rfl rfl rfl ?_
                          refine s_qg (q_leq rfl rfl) rfl rfl rfl ?_
                          refine g_litb 174 (b := true) rfl (by have h9 := hse _ (List.getElem_mem lt_j); rw [h9]; simp; omega) ?_
                          refine s_q (q_pick_t rfl rfl) rfl ?_
                          refine s_q (q_assign rfl) rfl ?_
                          refine g_nil ?_
                          refine g_then ?_
                          refine g_ret ?_
                          refine g_blk_ret (g_then_ret (g_then_ret (g_blk_ret (g_blk_ret (g_then_ret (g_then_ret (g_blk_ret (g_then_ret ?_))))))))
                          exact fin1 rfl (.tmp rfl) (fun w' hw' => ⟨by first | rfl | (simp_all; done) | (simp_all; omega), hw'.upd⟩) _ (.inl rfl)
                        · have hneq := of_decide_eq_false h27
                          refine g_skip ?_
                          refine g_blk_n ?_
                          refine g_then ?_
                          refine g_region ?_
                          refine s_q (q_inc rfl rfl (by omega)) rfl ?_
                          refine s_q (q_move rfl) rfl ?_
                          refine g_nil ?_
                          exact g_again (j + 1) (by (try dsimp only); exact ⟨(by first | exact lt_j | omega), (by rw [← List.take_append_getElem lt_j]; intro a ha; rcases List.mem_append.1 ha with ha | ha; exact hno a ha; simp at ha; subst ha; simpa using hneq)⟩) (by first | omega | (simp only; omega)) (by repeat (first | exact trivial | refine ⟨rfl, ?_⟩)) wok_sub
                      · have eq_j : j = st159.1.length := by have h9 := of_decide_eq_false h26; omega
                        refine g_exit ?_
                        refine g_then_x (g_then_x (g_blk_hit ?_))
                        refine g_blk_n ?_
                        refine g_then ?_
                        refine g_region ?_
                        refine s_q (q_move rfl) rfl ?_
                        refine s_q (q_inc rfl rfl (by omega)) rfl ?_
                        refine s_q (q_assign rfl) rfl ?_
                        refine g_nil ?_
                        have hx9 : ∀ a ∈ st159.1, a.i ≠ (((lA.length : Nat)) : Int) := by rw [← List.take_length (l := st159.1), ← eq_j]; exact hno
                        have hN := asg_next hst159 hI3 ho3 hb3 hmb (by omega) (by omega) (by omega) (by omega) hx9
                        refine g_val 12 (v' := .int .u64 fo2) rfl (by first | rfl | rw [hfo2]) ?_
                        refine g_rown (A := A152) ((W2 ++ [(lB[e - 1] % 256)])).length (by simp) ?_
                        refine g_val 10 (v' := .slice A152 ((W2 ++ [(lB[e - 1] % 256)])).length cap152) rfl (by simp) ?_
                        exact g_again ((e + 1), A152, cap152, (W2 ++ [(lB[e - 1] % 256)]), fo2, st159.2.1, st159.2.2, A159, c159, AA159, cc159) (by (try dsimp only); exact ⟨(by omega), (by omega), hN.1, hN.2.1, (by rw [gr_succ]; exact hN.2.2.1), hN.2.2.2.1, hf2, (by have h9 := hN.2.2.2.2.2.2; omega), (by first | omega | (simp; omega)), u159, uu159, hq159, (.inr ⟨hN.2.2.2.2.1, hN.2.2.2.2.2.1⟩)⟩) (by dsimp only; omega) (by repeat (first | exact trivial | refine ⟨rfl, ?_⟩)) wok_sub
                    · obtain ⟨fo2, hfo2⟩ : ∃ z : Int, z = fo := ⟨_, rfl⟩
                      have hf2 : 0 ≤ fo2 ∧ fo2 ≤ c.fcap := by omega
                      have hI3 := hI2
                      have ho3 := hown
                      have hb3 : m2.b = gr c e - (ah + wt % 256 + fo2) + remW W2 q2 := by omega
                      refine g_skip ?_
                      refine g_then ?_
                      refine g_seq ?_
                      refine g_region ?_
                      refine s_q (q_move rfl) rfl ?_
                      refine s_q (q_move rfl) rfl ?_
                      refine s_q (q_move rfl) rfl ?_
                      refine s_q (q_field rfl) rfl ?_
                      refine s_q (q_load rfl rfl) rfl ?_
                      refine s_q (q_move rfl) rfl ?_
                      refine g_op (g_ownS [Res.blk b58 43 [Value.slice B2 (q2).f.length d2, Value.slice B3 (q2).v.length d3, Value.int .i64 ((100 : Nat) : Int)], Res.ro B2 (q2).f.length 1 ((q2).f.map (fun v : Int => [Value.int .i64 v])), Res.ro B3 (q2).v.length 1 ((q2).v.map (fun v : Int => [Value.int .i64 v])), Res.blk b60 46 (R.c m2)] rfl (fun w1 hw1 ho1 => by have h7 := rstep_any (((e : Nat) : Int)) ((c).minch) b58 b60 B2 B3 d2 d3 q2 100 m2 A2 (W2.length) (cap2) (W2) w1 ho1 u2 u3 (by omega) hq2 (Rd.ofRow (A := A2) hw1) (by omega); exact h7) rfl ?_)
                      rintro ⟨O159, oc159, A159, c159, AA159, cc159⟩ ⟨u159, uu159⟩
                      refine ⟨_, _, inferInstance, inferInstance, ?_⟩
                      simp only at u159 uu159
                      have hq159 := stepR_len (W := W2) (e := ((e : Nat) : Int)) (lim := (c).minch) (m := m2) hq2
                      generalize hst159 : (stepR W2 (((e : Nat) : Int)) ((c).minch) q2 m2) = st159 at u159 uu159 hq159 ⊢
                      refine s_q (q_len rfl) rfl ?_
                      refine s_q (q_move rfl) rfl ?_
                      refine g_nil ?_
                      refine g_then ?_
                      refine g_block ?_
                      have hse := stepR_e hst159
                      have hcnt : st159.1.length ≤ 201 := by have h9 := stepR_cnt hst159; unfold lenL at h9; omega
                      refine g_loopk [3, 4, 6, 8, 9, 10, 12, 15, 16, 18, 159, 160] (fun (x : Nat) => [(161, .int .i64 ((x : Nat) : Int))]) (fun (x : Nat) => [Res.row O159 (st159.1.length) oc159 52 3 ((st159.1).map As.cs), Res.row A2 (W2.length) cap2 22 1 ((W2).map (fun v : Int => [Value.int .u64 v])), Res.blk b3 26 c.c, Res.blk b60 46 (R.c st159.2.2), Res.blk b58 43 [Value.slice A159 (st159.2.1).f.length c159, Value.slice AA159 (st159.2.1).v.length cc159, Value.int .i64 ((100 : Nat) : Int)], Res.ro A159 (st159.2.1).f.length 1 ((st159.2.1).f.map (fun v : Int => [Value.int .i64 v])), Res.ro AA159 (st159.2.1).v.length 1 ((st159.2.1).v.map (fun v : Int => [Value.int .i64 v]))]) (fun (x : Nat) => x ≤ st159.1.length ∧ (∀ a ∈ (st159.1).take x, a.i ≠ (((lA.length : Nat)) : Int))) (fun (x : Nat) => st159.1.length - x) 0 (by (try dsimp only); exact ⟨Nat.zero_le _, (by simp)⟩) rfl (by repeat (first | exact trivial | refine ⟨rfl, ?_⟩)) wok_sub ?_
                      rintro j ⟨le_j, hno⟩
                      replace le_j : j ≤ st159.1.length := le_j
                      replace hno : ∀ a ∈ (st159.1).take j, a.i ≠ (((lA.length : Nat)) : Int) := hno
                      refine g_seq ?_
                      refine g_region ?_
                      refine s_q (q_lss rfl rfl) rfl ?_
                      refine g_nil ?_
                      refine g_then ?_
                      refine g_seq ?_
                      refine g_cond rfl (fun h28 => ?_) (fun h28 => ?_)
                      · have lt_j : j < st159.1.length := by have h9 := of_decide_eq_true h28; omega
                        refine g_skip ?_
                        refine g_then ?_
                        refine g_seq ?_
                        refine g_block ?_
                        refine g_seq ?_
                        refine g_region ?_
                        refine s_q (q_index (i := j) rfl rfl rfl (InRow.rdb (A := O159) (els := (st159.1).map As.cs) (by first | rfl | assumption | (simp; done) | (simp_all; done) | (simp; omega) | (simp_all; omega)) (map_cat (c := As.cs) (fun _ => rfl) _)) (by first | exact lt_j | omega)) rfl ?_
                        refine s_q (q_load_ew (i := j) rfl (InRow.rdb (A := O159) (els := (st159.1).map As.cs) (by first | rfl | assumption | (simp; done) | (simp_all; done) | (simp; omega) | (simp_all; omega)) (map_cat (c := As.cs) (fun _ => rfl) _)) (map_get (by first | assumption | omega | (simp_all; done) | (simp_all; omega))) rfl) rfl ?_
                        refine g_op (g_alloc rfl fun b20 => ?_)
                        refine g_op (g_storew rfl rfl rfl rfl rfl ?_)
                        refine g_nil ?_
                        refine g_then ?_
                        refine g_seq ?_
                        refine g_region ?_
                        refine s_q (q_field rfl) rfl ?_
                        refine s_q (q_load rfl rfl) rfl ?_
                        refine s_q (q_move rfl) rfl ?_
                        refine s_q (q_eql rfl rfl) rfl ?_
                        refine g_nil ?_
                        refine g_then ?_
                        refine g_cond rfl (fun h29 => ?_) (fun h29 => ?_)
                        · refine g_seq ?_
                          refine g_region ?_
                          refine g_op (g_pure rfl (fun w1 hw1 => alive_any w1) rfl ?_)
                          refine s_q (q_move rfl) rfl ?_
                          refine s_qg (q_field rfl) rfl rfl rfl ?_
                          refine s_qg (q_load rfl rfl) rfl rfl rfl ?_
                          refine s_qg (q_move rfl) rfl rfl rfl ?_
                          refine s_qg (q_leq rfl rfl) rfl rfl rfl ?_
                          refine g_litb 174 (b := true) rfl (by have h9 := hse _ (List.getElem_mem lt_j); rw [h9]; simp; omega) ?_
                          refine s_q (q_pick_t rfl rfl) rfl ?_
                          refine s_q (q_assign rfl) rfl ?_
                          refine g_nil ?_
                          refine g_then ?_
                          refine g_ret ?_
                          refine g_blk_ret (g_then_ret (g_then_ret (g_blk_ret (g_blk_ret (g_then_ret (g_then_ret (g_blk_ret (g_then_ret ?_))))))))
                          exact fin1 rfl (.tmp rfl) (fun w' hw' => ⟨by first | rfl | (simp_all; done) | (simp_all; omega), hw'.upd⟩) _ (.inl rfl)
                        · have hneq := of_decide_eq_false h29
                          refine g_skip ?_
                          refine g_blk_n ?_
                          refine g_then ?_
                          refine g_region ?_
                          refine s_q (q_inc rfl rfl (by omega)) rfl ?_
                          refine s_q (q_move rfl) rfl ?_
                          refine g_nil ?_
                          exact g_again (j + 1) (by (try dsimp only); exact ⟨(by first | exact lt_j | omega), (by rw [← List.take_append_getElem lt_j]; intro a ha; rcases List.mem_append.1 ha with ha | ha; exact hno a ha; simp at ha; subst ha; simpa using hneq)⟩) (by first | omega | (simp only; omega)) (by repeat (first | exact trivial | refine ⟨rfl, ?_⟩)) wok_sub
                      · have eq_j : j = st159.1.length := by have h9 := of_decide_eq_false h28; omega
                        refine g_exit ?_
                        refine g_then_x (g_then_x (g_blk_hit ?_))
                        refine g_blk_n ?_
                        refine g_then ?_
                        refine g_region ?_
                        refine s_q (q_move rfl) rfl ?_
                        refine s_q (q_inc rfl rfl (by omega)) rfl ?_
                        refine s_q (q_assign rfl) rfl ?_
                        refine g_nil ?_
                        have hx9 : ∀ a ∈ st159.1, a.i ≠ (((lA.length : Nat)) : Int) := by rw [← List.take_length (l := st159.1), ← eq_j]; exact hno
                        have hN := asg_next hst159 hI3 ho3 hb3 hmb (by omega) (by omega) (by omega) (by omega) hx9
                        refine g_val 12 (v' := .int .u64 fo2) rfl (by first | rfl | rw [hfo2]) ?_
                        exact g_again ((e + 1), A2, cap2, W2, fo2, st159.2.1, st159.2.2, A159, c159, AA159, cc159) (by (try dsimp only); exact ⟨(by omega), (by omega), hN.1, hN.2.1, (by rw [gr_succ]; exact hN.2.2.1), hN.2.2.2.1, hf2, (by have h9 := hN.2.2.2.2.2.2; omega), (by first | omega | (simp; omega)), u159, uu159, hq159, (.inr ⟨hN.2.2.2.2.1, hN.2.2.2.2.2.1⟩)⟩) (by dsimp only; omega) (by repeat (first | exact trivial | refine ⟨rfl, ?_⟩)) wok_sub
                  · obtain ⟨fo2, hfo2⟩ : ∃ z : Int, z = fo := ⟨_, rfl⟩
                    have hf2 : 0 ≤ fo2 ∧ fo2 ≤ c.fcap := by omega
                    have hI3 := hI2
                    have ho3 := hown
                    have hb3 : m2.b = gr c e - (ah + wt % 256 + fo2) + remW W2 q2 := by omega
                    refine d_gf 5 rfl (by kernel_rfl) rfl rfl rfl wok_sub rfl (ls' := #[true, true, true, true, true, true, false, false, false, false, false, false, false, false, false, false, false, false]) rfl ?_
                    refine d_gf 6 rfl (by kernel_rfl) rfl rfl rfl wok_sub rfl (ls' := #[true, true, true, true, true, true, true, false, false, false, false, false, false, false, false, false, false, false]) rfl ?_
                    refine d_gf 7 rfl (by kernel_rfl) rfl rfl rfl wok_sub rfl (ls' := #[true, true, true, true, true, true, true, true, false, false, false, false, false, false, false, false, false, false]) rfl ?_
                    refine d_gf 8 rfl (by kernel_rfl) rfl rfl rfl wok_sub rfl (ls' := #[true, true, true, true, true, true, true, true, true, false, false, false, false, false, false, false, false, false]) rfl ?_
                    refine d_gf 9 rfl (by kernel_rfl) rfl rfl rfl wok_sub rfl (ls' := #[true, true, true, true, true, true, true, true, true, true, false, false, false, false, false, false, false, false]) rfl ?_
                    refine d_gf 10 rfl (by kernel_rfl) rfl rfl rfl wok_sub rfl (ls' := #[true, true, true, true, true, true, true, true, true, true, true, false, false, false, false, false, false, false]) rfl ?_
                    refine d_gf 11 rfl (by kernel_rfl) rfl rfl rfl wok_sub rfl (ls' := #[true, true, true, true, true, true, true, true, true, true, true, true, false, false, false, false, false, false]) rfl ?_
                    refine d_gf 12 rfl (by kernel_rfl) rfl rfl rfl wok_sub rfl (ls' := #[true, true, true, true, true, true, true, true, true, true, true, true, true, false, false, false, false, false]) rfl ?_
                    refine d_gf 13 rfl (by kernel_rfl) rfl rfl rfl wok_sub rfl (ls' := #[true, true, true, true, true, true, true, true, true, true, true, true, true, true, false, false, false, false]) rfl ?_
                    refine d_gf 14 rfl (by kernel_rfl) rfl rfl rfl wok_sub rfl (ls' := #[true, true, true, true, true, true, true, true, true, true, true, true, true, true, true, false, false, false]) rfl ?_
                    refine d_gf 15 rfl (by kernel_rfl) rfl rfl rfl wok_sub rfl (ls' := #[true, true, true, true, true, true, true, true, true, true, true, true, true, true, true, true, false, false]) rfl ?_
                    refine d_gf 16 rfl (by kernel_rfl) rfl rfl rfl wok_sub rfl (ls' := #[true, true, true, true, true, true, true, true, true, true, true, true, true, true, true, true, true, false]) rfl ?_
                    refine d_q 17 rfl (by kernel_rfl) (q_pick_f rfl rfl) wok_sub rfl (ls' := #[true, true, true, true, true, true, true, true, true, true, true, true, true, true, true, true, true, true]) rfl ?_
                    refine d_end (by kernel_rfl) (.inr wok_sub) ?_
                    refine g_then ?_
                    refine g_false rfl ?_
                    refine g_skip ?_
                    refine g_then ?_
                    refine g_seq ?_
                    refine g_region ?_
                    refine s_q (q_move rfl) rfl ?_
                    refine s_q (q_move rfl) rfl ?_
                    refine s_q (q_move rfl) rfl ?_
                    refine s_q (q_field rfl) rfl ?_
                    refine s_q (q_load rfl rfl) rfl ?_
                    refine s_q (q_move rfl) rfl ?_
                    refine g_op (g_ownS [Res.blk b58 43 [Value.slice B2 (q2).f.length d2, Value.slice B3 (q2).v.length d3, Value.int .i64 ((100 : Nat) : Int)], Res.ro B2 (q2).f.length 1 ((q2).f.map (fun v : Int => [Value.int .i64 v])), Res.ro B3 (q2).v.length 1 ((q2).v.map (fun v : Int => [Value.int .i64 v])), Res.blk b60 46 (R.c m2)] rfl (fun w1 hw1 ho1 => by have h7 := rstep_any (((e : Nat) : Int)) ((c).minch) b58 b60 B2 B3 d2 d3 q2 100 m2 A2 (W2.length) (cap2) (W2) w1 ho1 u2 u3 (by omega) hq2 (Rd.ofRow (A := A2) hw1) (by omega); exact h7) rfl ?_)
                    rintro ⟨O159, oc159, A159, c159, AA159, cc159⟩ ⟨u159, uu159⟩
                    refine ⟨_, _, inferInstance, inferInstance, ?_⟩
                    simp only at u159 uu159
                    have hq159 := stepR_len (W := W2) (e := ((e : Nat) : Int)) (lim := (c).minch) (m := m2) hq2
                    generalize hst159 : (stepR W2 (((e : Nat) : Int)) ((c).minch) q2 m2) = st159 at u159 uu159 hq159 ⊢
                    refine s_q (q_len rfl) rfl ?_
                    refine s_q (q_move rfl) rfl ?_
                    refine g_nil ?_
                    refine g_then ?_
                    refine g_block ?_
                    have hse := stepR_e hst159
                    have hcnt : st159.1.length ≤ 201 := by have h9 := stepR_cnt hst159; unfold lenL at h9; omega
                    refine g_loopk [3, 4, 6, 8, 9, 10, 12, 15, 16, 18, 159, 160] (fun (x : Nat) => [(161, .int .i64 ((x : Nat) : Int))]) (fun (x : Nat) => [Res.row O159 (st159.1.length) oc159 52 3 ((st159.1).map As.cs), Res.row A2 (W2.length) cap2 22 1 ((W2).map (fun v : Int => [Value.int .u64 v])), Res.blk b3 26 c.c, Res.blk b60 46 (R.c st159.2.2), Res.blk b58 43 [Value.slice A159 (st159.2.1).f.length c159, Value.slice AA159 (st159.2.1).v.length cc159, Value.int .i64 ((100 : Nat) : Int)], Res.ro A159 (st159.2.1).f.length 1 ((st159.2.1).f.map (fun v : Int => [Value.int .i64 v])), Res.ro AA159 (st159.2.1).v.length 1 ((st159.2.1).v.map (fun v : Int => [Value.int .i64 v]))]) (fun (x : Nat) => x ≤ st159.1.length ∧ (∀ a ∈ (st159.1).take x, a.i ≠ (((lA.length : Nat)) : Int))) (fun (x : Nat) => st159.1.length - x) 0 (by (try dsimp only); exact ⟨Nat.zero_le _, (by simp)⟩) rfl (by repeat (first | exact trivial | refine ⟨rfl, ?_⟩)) wok_sub ?_
                    rintro j ⟨le_j, hno⟩
                    replace le_j : j ≤ st159.1.length := le_j
                    replace hno : ∀ a ∈ (st159.1).take j, a.i ≠ (((lA.length : Nat)) : Int) := hno
                    refine g_seq ?_
                    refine g_region ?_
                    refine s_q (q_lss rfl rfl) rfl ?_
                    refine g_nil ?_
                    refine g_then ?_
                    refine g_seq ?_
                    refine g_cond rfl (fun h30 => ?_) (fun h30 => ?_)
                    · have lt_j : j < st159.1.length := by have h9 := of_decide_eq_true h30; omega
                      refine g_skip ?_
                      refine g_then ?_
                      refine g_seq ?_
                      refine g_block ?_
                      refine g_seq ?_
                      refine g_region ?_
                      refine s_q (q_index (i := j) rfl rfl rfl (InRow.rdb (A := O159) (els := (st159.1).map As.cs) (by first | rfl | assumption | (simp; done) | (simp_all; done) | (simp; omega) | (simp_all; omega)) (map_cat (c := As.cs) (fun _ => rfl) _)) (by first | exact lt_j | omega)) rfl ?_
                      refine s_q (q_load_ew (i := j) rfl (InRow.rdb (A := O159) (els := (st159.1).map As.cs) (by first | rfl | assumption | (simp; done) | (simp_all; done) | (simp; omega) | (simp_all; omega)) (map_cat (c := As.cs) (fun _ => rfl) _)) (map_get (by first | assumption | omega | (simp_all; done) | (simp_all; omega))) rfl) rfl ?_
                      refine g_op (g_alloc rfl fun b20 => ?_)
                      refine g_op (g_storew rfl rfl rfl rfl rfl ?_)
                      refine g_nil ?_
                      refine g_then ?_
                      refine g_seq ?_
                      refine g_region ?_
                      refine s_q (q_field rfl) rfl ?_
                      refine s_q (q_load rfl rfl) rfl ?_
                      refine s_q (q_move rfl) rfl ?_
                      refine s_q (q_eql rfl rfl) rfl ?_
                      refine g_nil ?_
                      refine g_then ?_
                      refine g_cond rfl (fun h31 => ?_) (fun h31 => ?_)
                      · refine g_seq ?_
                        refine g_region ?_
                        refine g_op (g_pure rfl (fun w1 hw1 => alive_any w1) rfl ?_)
                        refine s_q (q_move rfl) rfl ?_
                        refine s_qg (q_field rfl) rfl rfl rfl ?_
                        refine s_qg (q_load rfl rfl) rfl rfl rfl ?_
                        refine s_qg (q_move rfl) rfl rfl rfl ?_
                        refine s_qg (q_leq rfl rfl) rfl rfl rfl ?_
                        refine g_litb 174 (b := true) rfl (by have h9 := hse _ (List.getElem_mem lt_j); rw [h9]; simp; omega) ?_
                        refine s_q (q_pick_t rfl rfl) rfl ?_
                        refine s_q (q_assign rfl) rfl ?_
                        refine g_nil ?_
                        refine g_then ?_
                        refine g_ret ?_
                        refine g_blk_ret (g_then_ret (g_then_ret (g_blk_ret (g_blk_ret (g_then_ret (g_then_ret (g_blk_ret (g_then_ret ?_))))))))
                        exact fin1 rfl (.tmp rfl) (fun w' hw' => ⟨by first | rfl | (simp_all; done) | (simp_all; omega), hw'.upd⟩) _ (.inl rfl)
                      · have hneq := of_decide_eq_false h31
                        refine g_skip ?_
                        refine g_blk_n ?_
                        refine g_then ?_
                        refine g_region ?_
                        refine s_q (q_inc rfl rfl (by omega)) rfl ?_
                        refine s_q (q_move rfl) rfl ?_
                        refine g_nil ?_
                        exact g_again (j + 1) (by (try dsimp only); exact ⟨(by first | exact lt_j | omega), (by rw [← List.take_append_getElem lt_j]; intro a ha; rcases List.mem_append.1 ha with ha | ha; exact hno a ha; simp at ha; subst ha; simpa using hneq)⟩) (by first | omega | (simp only; omega)) (by repeat (first | exact trivial | refine ⟨rfl, ?_⟩)) wok_sub
                    · have eq_j : j = st159.1.length := by have h9 := of_decide_eq_false h30; omega
                      refine g_exit ?_
                      refine g_then_x (g_then_x (g_blk_hit ?_))
                      refine g_blk_n ?_
                      refine g_then ?_
                      refine g_region ?_
                      refine s_q (q_move rfl) rfl ?_
                      refine s_q (q_inc rfl rfl (by omega)) rfl ?_
                      refine s_q (q_assign rfl) rfl ?_
                      refine g_nil ?_
                      have hx9 : ∀ a ∈ st159.1, a.i ≠ (((lA.length : Nat)) : Int) := by rw [← List.take_length (l := st159.1), ← eq_j]; exact hno
                      have hN := asg_next hst159 hI3 ho3 hb3 hmb (by omega) (by omega) (by omega) (by omega) hx9
                      refine g_val 12 (v' := .int .u64 fo2) rfl (by first | rfl | rw [hfo2]) ?_
                      exact g_again ((e + 1), A2, cap2, W2, fo2, st159.2.1, st159.2.2, A159, c159, AA159, cc159) (by (try dsimp only); exact ⟨(by omega), (by omega), hN.1, hN.2.1, (by rw [gr_succ]; exact hN.2.2.1), hN.2.2.2.1, hf2, (by have h9 := hN.2.2.2.2.2.2; omega), (by first | omega | (simp; omega)), u159, uu159, hq159, (.inr ⟨hN.2.2.2.2.1, hN.2.2.2.2.2.1⟩)⟩) (by dsimp only; omega) (by repeat (first | exact trivial | refine ⟨rfl, ?_⟩)) wok_sub
                · exfalso
                  have h9 := of_decide_eq_false h23
                  obtain rfl : e = K + 1 := by omega
                  rcases hst with h8 | h8
                  · omega
                  · exact asg_end hI2 hbal h8.1 h8.2 (by omega) hK4

theorem main_deadlineAssigns (v0 : Value) (v1 : Value) (W : World) (a0 : Arg Try.prog W 38 v0) (a1 : Arg Try.prog W 26 v1) : Pur Try.prog 6 [v0, v1] W (.bool true) := by
  obtain ⟨cs, rfl, f, h⟩ := Arg.arr Try.underlying38 a0
  obtain ⟨f, hl, h⟩ := OKc.array Try.underlying38 h
  have hT : Try.prog.cellsOf 38 = 3 := by kernel_rfl
  have hE : Try.prog.cellsOf 37 = 1 := by kernel_rfl
  rw [hT] at hl
  obtain ⟨c0, c1, c2, rfl⟩ : ∃ c0 c1 c2 : Value, cs = [c0, c1, c2] := by
    match cs, hl with
    | [c0, c1, c2], _ => exact ⟨_, _, _, rfl⟩
  have g0 := h 0 (by omega)
  have g1 := h 1 (by omega)
  have g2 := h 2 (by omega)
  rw [hE] at g0 g1 g2
  obtain ⟨PA, nA, lA, eA, hleA, hmA, oA, kA⟩ := OKc.slice (fun v : Int => [Value.int .u16 v]) (fun x : Int => 0 ≤ x ∧ x ≤ 65535) Try.underlying37 (show Try.prog.cellsOf 39 = 1 by kernel_rfl) (by omega) (fun f cs h => OKc.int Try.underlying39 h) g0
  obtain rfl : c0 = _ := by simpa using eA
  have hA : lA.length ≤ nA ∧ nA ≤ 9223372036854775807 := ⟨hleA, by unfold maxLen at hmA; omega⟩
  obtain ⟨PB, nB, lB, eB, hleB, hmB, oB, kB⟩ := OKc.slice (fun v : Int => [Value.int .u16 v]) (fun x : Int => 0 ≤ x ∧ x ≤ 65535) Try.underlying37 (show Try.prog.cellsOf 39 = 1 by kernel_rfl) (by omega) (fun f cs h => OKc.int Try.underlying39 h) g1
  obtain rfl : c1 = _ := by simpa using eB
  have hB : lB.length ≤ nB ∧ nB ≤ 9223372036854775807 := ⟨hleB, by unfold maxLen at hmB; omega⟩
  obtain ⟨PD, nD, lD, eD, hleD, hmD, oD, kD⟩ := OKc.slice (fun v : Int => [Value.int .u16 v]) (fun x : Int => 0 ≤ x ∧ x ≤ 65535) Try.underlying37 (show Try.prog.cellsOf 39 = 1 by kernel_rfl) (by omega) (fun f cs h => OKc.int Try.underlying39 h) g2
  obtain rfl : c2 = _ := by simpa using eD
  have hD : lD.length ≤ nD ∧ nD ≤ 9223372036854775807 := ⟨hleD, by unfold maxLen at hmD; omega⟩
  obtain ⟨cs, rfl, f, h⟩ := Arg.agg Try.underlying26 a1
  obtain ⟨c, rfl, k_c⟩ := openC f cs h
  exact law_deadlineAssigns PA nA lA PB nB lB PD nD lD c W oA hA kA oB hB kB oD hD kD k_c

namespace LawDeadlineAssigns
open Go.ChangeShapes Go.WideShapes Go.ChangeAt Go.RowKit Go.Eg
set_option linter.unusedVariables false
theorem own : ownKnob Try.prog.godebug = none := by kernel_rfl
theorem laidOut : laidOutB Try.prog = true := by kernel_rfl
set_option maxRecDepth 100000 in
theorem lifted (os : Os) (started : os.Started) (H : Type) (enc : TypeId × Value → H) :
    ReturnsInHanded {} Try.checked os 6 .any (Rows.deadlineAssignsSpec.pre6 enc Try.prog Try.f6 Rows.deadlineAssignsRow.domain false) (Rows.deadlineAssignsSpec.post enc Try.prog Try.f6 false true false false) := by
  refine returnsInHanded_of_change (C := Try.checked) own started (by kernel_rfl) Try.func6
    (ChangeSpec.witness6 (enc := enc) (C := Try.checked) false ⟨#[], #[.agg #[.slice none 0 0, .slice none 0 0, .slice none 0 0], .agg #[.int .i64 0, .int .i64 0, .int .u64 0, .int .u64 0, .int .u64 0, .int .u64 0, .int .u64 0, .int .u64 0, .int .u64 0, .int .u64 0, .int .i64 0, .int .i64 0, .int .i64 0, .int .i64 0, .int .i64 0, .int .i64 0, .int .i64 0, .int .i64 0, .int .u64 0, .int .u64 0]], []⟩ 8 (by kernel_rfl) (by kernel_rfl) (by kernel_rfl) (by kernel_rfl)) ?_
  intro W base args ds gs before hval0 hW hcnd _
  have hval : ∀ (j : Nat) t v, Try.f6.params[j]? = some t → args[j]? = some v → Value.okWide Try.prog W .any base t v := hval0
  have hW' := hW
  obtain ⟨p, q, hA0, hV, rfl, hfz, hnd⟩ := hW
  have hA : DataW.TrodAll enc Try.prog W 0 (fun _ => true) true Try.f6.params.toList args.toList ds p := hA0
  rw [Try.params6] at hA hval
  obtain ⟨v0, vs0, d0, ds0, p0, q0, hargs, rfl, rfl, h0, r0⟩ := trodAll_cons hA
  obtain ⟨v1, vs1, d1, ds1, p1, q1, rfl, rfl, rfl, h1, r1⟩ := trodAll_cons r0
  obtain ⟨rfl, rfl, rfl⟩ := trodAll_nil r1
  obtain rfl : args = #[v0, v1] := by cases args; simp_all
  obtain ⟨rfl, rfl⟩ := trodVars_none hV
  have a0 := Arg.of h0 (hval 0 38 v0 rfl rfl)
  have lt0 : ∀ x ∈ p0, x.block < W.heap.size := by obtain ⟨m, hm⟩ := h0; exact DataW.trod_lt m _ _ _ hm
  have a1 := Arg.of h1 (hval 1 26 v1 rfl rfl)
  have lt1 : ∀ x ∈ p1, x.block < W.heap.size := by obtain ⟨m, hm⟩ := h1; exact DataW.trod_lt m _ _ _ hm
  clear hA0 hval0
  simp only [List.append_nil] at hW'
  refine Calls.mono (main_deadlineAssigns v0 v1 W a0 a1) ?_
  rintro e W' ⟨v, rfl, rfl, hu⟩
  have bel := hu.below
  have targ := (trodAll_cons_mk (Below.trod laidOut (by kernel_rfl) (of_decide_eq_true (by kernel_rfl)) h0 bel lt0) (trodAll_cons_mk (Below.trod laidOut (by kernel_rfl) (of_decide_eq_true (by kernel_rfl)) h1 bel lt1) trodAll_mk0))
  simp only [List.append_nil] at targ
  exact ⟨_, rfl, _, _, _, [], _, [], hW', trodAll_mk1 (shut_bool Try.underlying4 _), targ, rfl, bel.frame _, fun h => by cases h⟩
theorem over : Rows.deadlineAssignsRow.holds Try.pinned (OpenSpec.ofChange Rows.deadlineAssignsSpec) :=
  OpenClaim.holds_of_wide 6 Try.f6 rfl rfl rfl rfl rfl rfl rfl ⟨rfl, rfl, rfl, rfl, rfl⟩ rfl rfl rfl rfl rfl (by kernel_rfl) Try.func6 (by kernel_rfl)
    (of_decide_eq_true (by kernel_rfl)) (by unfold Func.isWrapper; first | (rw [if_pos (by decide +kernel)]; kernel_rfl) | (rw [if_neg (by decide +kernel)]; exact ⟨rfl, rfl⟩))
    (fun os started H enc _ => lifted os started H enc)
theorem proved : Rows.DeadlineAssignsSaid := over
end LawDeadlineAssigns
end Go.Proofs.Ythdkbocfkbnpaaa
