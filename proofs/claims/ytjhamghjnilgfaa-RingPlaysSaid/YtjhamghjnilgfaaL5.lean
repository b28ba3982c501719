/- RingPlays: for every size and every list of operations the law returns true. No condition. -/
import Derived.Test.YtjhamghjnilgfaaW3
namespace Go.Proofs.Ytjhamghjnilgfaa
open Go.RowKit Go.Eg
set_option linter.unusedSimpArgs false
set_option linter.unusedVariables false
set_option maxHeartbeats 400000 in
theorem law_ringPlays_bad (z : Int) (A_l : Option Addr) (c_l : Nat) (l : List O) (w : World) (hz : z < 1 ∨ 1048576 < z) (o_l : Old w A_l l.length 2 (l.map O.c)) (h_l : l.length ≤ c_l ∧ c_l ≤ 9223372036854775807) (k_l : ∀ x ∈ l, (fun x : O => x.ok w) x) : Pur Try.prog 7 [.int .i64 z, .slice A_l l.length c_l] w (.bool true) := by
  refine g_start Try.func7 rfl 76 rfl (by simp) ([]) [] (WOK.start _ _) _ rfl ?_
  refine g_seq ?_
  refine g_region ?_
  refine s_q (q_assign rfl) rfl ?_
  refine g_nil ?_
  refine g_then ?_
  refine g_seq ?_
  refine g_region ?_
  refine s_q (q_move rfl) rfl ?_
  refine g_op (g_pure rfl (fun w1 hw1 => new_bad_i z w1 hz) rfl ?_)
  refine s_q (q_assign rfl) rfl ?_
  refine g_nil ?_
  refine g_then ?_
  refine g_seq ?_
  refine g_seq ?_
  refine g_region ?_
  refine s_q (q_move rfl) rfl ?_
  refine s_q (q_lss rfl rfl) rfl ?_
  refine s_q (q_move rfl) rfl ?_
  refine g_split 13 rfl (fun h1 => ?_) (fun h1 => ?_)
  · refine g_gf rfl rfl rfl rfl ?_
    refine g_gf rfl rfl rfl rfl ?_
    refine s_q (q_pick_t rfl rfl) rfl ?_
    refine g_nil ?_
    refine g_then ?_
    refine g_true rfl ?_
    refine g_seq ?_
    refine g_region ?_
    refine g_op (g_pure rfl (fun w1 hw1 => alive_any w1) rfl ?_)
    refine s_q (q_move rfl) rfl ?_
    refine s_qg (q_move rfl) rfl rfl rfl ?_
    refine s_qg (q_eqp (b := true) rfl rfl rfl) rfl rfl rfl ?_
    refine s_q (q_pick_t rfl rfl) rfl ?_
    refine s_q (q_assign rfl) rfl ?_
    refine g_nil ?_
    refine g_then ?_
    refine g_ret ?_
    refine g_then_ret ?_
    exact fin1 rfl (.tmp rfl) (fun w' hw' => ⟨by first | rfl | (simp_all; done) | (simp_all; omega), hw'.upd⟩) _ (.inl rfl)
  · refine s_qg (q_move rfl) rfl rfl rfl ?_
    refine s_qg (q_gtr rfl rfl) rfl rfl rfl ?_
    refine s_q (q_pick_f rfl rfl) rfl ?_
    refine g_nil ?_
    refine g_then ?_
    refine g_cond rfl (fun h2 => ?_) (fun h2 => ?_)
    · refine g_seq ?_
      refine g_region ?_
      refine g_op (g_pure rfl (fun w1 hw1 => alive_any w1) rfl ?_)
      refine s_q (q_move rfl) rfl ?_
      refine s_qg (q_move rfl) rfl rfl rfl ?_
      refine s_qg (q_eqp (b := true) rfl rfl rfl) rfl rfl rfl ?_
      refine s_q (q_pick_t rfl rfl) rfl ?_
      refine s_q (q_assign rfl) rfl ?_
      refine g_nil ?_
      refine g_then ?_
      refine g_ret ?_
      refine g_then_ret ?_
      exact fin1 rfl (.tmp rfl) (fun w' hw' => ⟨by first | rfl | (simp_all; done) | (simp_all; omega), hw'.upd⟩) _ (.inl rfl)
    · exfalso; simp at h1 h2; omega

set_option maxHeartbeats 400000 in
theorem law_ringPlays_ok (n : Nat) (A_l : Option Addr) (c_l : Nat) (l : List O) (w : World) (hn : 1 ≤ n ∧ n ≤ 1048576) (o_l : Old w A_l l.length 2 (l.map O.c)) (h_l : l.length ≤ c_l ∧ c_l ≤ 9223372036854775807) (k_l : ∀ x ∈ l, (fun x : O => x.ok w) x) : Pur Try.prog 7 [.int .i64 ((n : Nat) : Int), .slice A_l l.length c_l] w (.bool true) := by
  refine g_start Try.func7 rfl 76 rfl (by simp) ([]) [] (WOK.start _ _) _ rfl ?_
  refine g_seq ?_
  refine g_region ?_
  refine s_q (q_assign rfl) rfl ?_
  refine g_nil ?_
  refine g_then ?_
  refine g_seq ?_
  refine g_region ?_
  refine s_q (q_move rfl) rfl ?_
  refine g_op (g_ownS [] rfl (fun w1 hw1 ho1 => by have h7 := new_i (n) w1 (by omega); exact h7) rfl ?_)
  rintro ⟨b10, g10⟩ ⟨r10, s10⟩
  refine ⟨_, _, inferInstance, inferInstance, ?_⟩
  simp only at r10 s10
  refine s_q (q_assign rfl) rfl ?_
  refine g_nil ?_
  refine g_then ?_
  refine g_seq ?_
  refine g_seq ?_
  refine g_region ?_
  refine s_q (q_move rfl) rfl ?_
  refine s_q (q_lss rfl rfl) rfl ?_
  refine g_litb 12 (b := false) rfl (by simp; omega) ?_
  refine s_q (q_move rfl) rfl ?_
  refine s_qg (q_move rfl) rfl rfl rfl ?_
  refine s_qg (q_gtr rfl rfl) rfl rfl rfl ?_
  refine g_litb 15 (b := false) rfl (by simp; omega) ?_
  refine s_q (q_pick_f rfl rfl) rfl ?_
  refine g_nil ?_
  refine g_then ?_
  refine g_false rfl ?_
  refine g_skip ?_
  refine g_then ?_
  refine g_seq ?_
  refine g_seq ?_
  refine g_region ?_
  refine s_q (q_move rfl) rfl ?_
  refine s_q (q_eqp (b := false) rfl rfl rfl) rfl ?_
  refine g_nil ?_
  refine g_then ?_
  refine g_false rfl ?_
  refine g_skip ?_
  refine g_then ?_
  refine g_seq ?_
  refine g_seq ?_
  refine g_region ?_
  refine s_q (q_move rfl) rfl ?_
  refine g_op (g_ownS [] rfl (fun w1 hw1 ho1 => by have h7 := few_any A_l c_l l w1 (Rdb.toOld (o_l.rdb rfl) hw1) h_l; exact h7) rfl ?_)
  rintro f25 _
  refine ⟨_, _, inferInstance, inferInstance, ?_⟩
  refine s_q (q_not rfl) rfl ?_
  refine g_nil ?_
  refine g_then ?_
  refine g_cond rfl (fun h1 => ?_) (fun h1 => ?_)
  · refine g_seq ?_
    refine g_region ?_
    refine g_op (g_pure rfl (fun w1 hw1 => alive_any w1) rfl ?_)
    refine s_q (q_assign rfl) rfl ?_
    refine g_nil ?_
    refine g_then ?_
    refine g_ret ?_
    refine g_then_ret ?_
    exact fin1 rfl (.tmp rfl) (fun w' hw' => ⟨by first | rfl | (simp_all; done) | (simp_all; omega), hw'.upd⟩) _ (.inl rfl)
  · refine g_skip ?_
    refine g_then ?_
    refine g_seq ?_
    refine g_region ?_
    refine s_q (q_move rfl) rfl ?_
    refine s_q (q_build (c := [Value.slice none ([] : List Int).length 0, Value.int .i64 ((n : Nat) : Int)]) rfl rfl) rfl ?_
    refine g_op (g_box (c := [Value.slice none ([] : List Int).length 0, Value.int .i64 ((n : Nat) : Int)]) rfl rfl rfl fun b30 => ?_)
    refine g_roNil none 1 ?_
    refine g_roEq (A := none) (n := 0) (els := []) ([] : List Int).length (([] : List Int).map (fun v : Int => [Value.int .i64 v])) rfl rfl ?_
    refine s_q (q_assign rfl) rfl ?_
    refine g_nil ?_
    refine g_then ?_
    refine g_seq ?_
    refine g_seq ?_
    refine g_region ?_
    refine s_q (q_move rfl) rfl ?_
    refine s_q (q_len rfl) rfl ?_
    refine s_q (q_move rfl) rfl ?_
    refine g_nil ?_
    refine g_then ?_
    refine g_block ?_
    refine g_loopk [0, 4, 5, 6, 31, 32] (fun (x : Nat × Rg × Option Addr × Nat × List Int) => [(33, .int .i64 ((x.1 : Nat) : Int))]) (fun (x : Nat × Rg × Option Addr × Nat × List Int) => [Res.blk b10 61 (Rg.c x.2.1), Res.row (Rg.A x.2.1) (Rg.s x.2.1).length (Rg.cap x.2.1) 3 1 (Rg.s x.2.1), Res.blk b30 53 [Value.slice x.2.2.1 (x.2.2.2.2).length x.2.2.2.1, Value.int .i64 ((n : Nat) : Int)], Res.ro x.2.2.1 (x.2.2.2.2).length 1 ((x.2.2.2.2).map (fun v : Int => [Value.int .i64 v]))]) (fun (x : Nat × Rg × Option Addr × Nat × List Int) => x.1 ≤ l.length ∧ Rg.Rep x.2.1 1 ((x.2.2.2.2).map (fun v : Int => [Value.int .i64 v])) ∧ Rg.size x.2.1 = n ∧ (x.2.2.2.2).length ≤ x.2.2.2.1) (fun (x : Nat × Rg × Option Addr × Nat × List Int) => l.length - x.1) (0, g10, none, 0, ([] : List Int)) (by (try dsimp only); exact ⟨Nat.zero_le _, r10, (by omega), (by simp)⟩) rfl (by repeat (first | exact trivial | refine ⟨rfl, ?_⟩)) wok_sub ?_
    rintro ⟨k, g1, A1, c1, ll⟩ ⟨le_k, hr, hs1, hc1⟩
    replace le_k : k ≤ l.length := le_k
    replace hr : Rg.Rep g1 1 ((ll).map (fun v : Int => [Value.int .i64 v])) := hr
    replace hs1 : Rg.size g1 = n := hs1
    replace hc1 : (ll).length ≤ c1 := hc1
    refine g_setL (L' := [Res.blk b10 61 (Rg.c g1), Res.row (Rg.A g1) (Rg.s g1).length (Rg.cap g1) 3 1 (Rg.s g1), Res.blk b30 53 [Value.slice A1 (ll).length c1, Value.int .i64 ((n : Nat) : Int)], Res.ro A1 (ll).length 1 ((ll).map (fun v : Int => [Value.int .i64 v]))]) rfl ?_
    refine g_val 33 (v' := .int .i64 ((k : Nat) : Int)) rfl rfl ?_
    have q1 := hr.sz; have q2 := hr.hi; have q3 := hr.le; have q4 := hr.num
    refine g_seq ?_
    refine g_region ?_
    refine s_q (q_lss rfl rfl) rfl ?_
    refine g_nil ?_
    refine g_then ?_
    refine g_seq ?_
    refine g_cond rfl (fun h2 => ?_) (fun h2 => ?_)
    · have lt_k : k < l.length := by have h9 := of_decide_eq_true h2; omega
      refine g_skip ?_
      refine g_then ?_
      refine g_seq ?_
      refine g_block ?_
      refine g_seq ?_
      refine g_region ?_
      refine s_q (q_index (i := k) rfl rfl rfl (o_l.rdb rfl) (by first | exact lt_k | omega)) rfl ?_
      refine s_q (q_load_ew (i := k) rfl (o_l.rdb rfl) (map_get (by first | assumption | omega)) rfl) rfl ?_
      refine g_op (g_alloc rfl fun b8 => ?_)
      refine g_op (g_storew rfl rfl rfl rfl rfl ?_)
      refine g_nil ?_
      refine g_then ?_
      refine g_seq ?_
      refine d_regionL (L0 := [Res.blk b8 55 (O.c l[k])]) [] mixed rfl rfl wok_sub ?_
      refine d_q 0 rfl (by kernel_rfl) (q_move rfl) wok_sub rfl (ls' := #[true, false, false, false, false, false, false, false, false, false, false, false, false, false, false, false, false, false, false, false, false, false, false, false, false, false, false, false, false, false, false, false, false, false, false, false, false]) rfl ?_
      refine d_q 1 rfl (by kernel_rfl) (q_move rfl) wok_sub rfl (ls' := #[true, true, false, false, false, false, false, false, false, false, false, false, false, false, false, false, false, false, false, false, false, false, false, false, false, false, false, false, false, false, false, false, false, false, false, false, false]) rfl ?_
      refine d_q 2 rfl (by kernel_rfl) (q_loadw rfl rfl) wok_sub rfl (ls' := #[true, true, true, false, false, false, false, false, false, false, false, false, false, false, false, false, false, false, false, false, false, false, false, false, false, false, false, false, false, false, false, false, false, false, false, false, false]) rfl ?_
      refine g_val 39 (v' := .agg [.int .i64 (l[k]'lt_k).kd, .slice (l[k]'lt_k).B (l[k]'lt_k).l.length (l[k]'lt_k).bc].toArray) rfl (rfl) ?_
      have hO : O.ok w l[k] := k_l _ (List.getElem_mem lt_k)
      refine d_op 3 rfl (by kernel_rfl) (ls' := #[true, true, true, true, false, false, false, false, false, false, false, false, false, false, false, false, false, false, false, false, false, false, false, false, false, false, false, false, false, false, false, false, false, false, false, false, false]) rfl wok_sub (g_ownS [Res.blk b10 61 (Rg.c g1), Res.row (Rg.A g1) (Rg.s g1).length (Rg.cap g1) 3 1 (Rg.s g1), Res.blk b30 53 [Value.slice A1 (ll).length c1, Value.int .i64 ((n : Nat) : Int)], Res.ro A1 (ll).length 1 ((ll).map (fun v : Int => [Value.int .i64 v]))] rfl (fun w1 hw1 ho1 => by have h7 := do_any b10 g1 b30 A1 c1 ll n (l[k]'lt_k).kd (l[k]'lt_k).l (l[k]'lt_k).B (l[k]'lt_k).bc w1 ho1 hr hs1 hc1 (by omega) (Rd.ofOld hw1 hO.1 (by omega) (by simp)) hO.2; exact h7) rfl ?_)
      rintro ⟨g40, A40, c40, l40⟩ ⟨r40, s40, hc40⟩
      refine ⟨_, _, inferInstance, inferInstance, ?_⟩
      simp only at r40 s40 hc40
      have q1 := r40.sz; have q2 := r40.hi; have q3 := r40.le; have q4 := r40.num
      refine d_clsL wok_sub ?_
      refine d_q 4 rfl (by kernel_rfl) (q_not rfl) wok_sub rfl (ls' := #[true, true, true, true, true, false, false, false, false, false, false, false, false, false, false, false, false, false, false, false, false, false, false, false, false, false, false, false, false, false, false, false, false, false, false, false, false]) rfl ?_
      refine d_q 5 rfl (by kernel_rfl) (q_move rfl) wok_sub rfl (ls' := #[true, true, true, true, true, true, false, false, false, false, false, false, false, false, false, false, false, false, false, false, false, false, false, false, false, false, false, false, false, false, false, false, false, false, false, false, false]) rfl ?_
      refine d_qg 6 rfl (by kernel_rfl) (q_move rfl) rfl rfl wok_sub rfl (ls' := #[true, true, true, true, true, true, true, false, false, false, false, false, false, false, false, false, false, false, false, false, false, false, false, false, false, false, false, false, false, false, false, false, false, false, false, false, false]) rfl ?_
      refine d_qg 8 rfl (by kernel_rfl) (q_move rfl) rfl rfl wok_sub rfl (ls' := #[true, true, true, true, true, true, true, false, true, false, false, false, false, false, false, false, false, false, false, false, false, false, false, false, false, false, false, false, false, false, false, false, false, false, false, false, false]) rfl ?_
      refine d_qg 9 rfl (by kernel_rfl) (q_nilck rfl) rfl rfl wok_sub rfl (ls' := #[true, true, true, true, true, true, true, false, true, true, false, false, false, false, false, false, false, false, false, false, false, false, false, false, false, false, false, false, false, false, false, false, false, false, false, false, false]) rfl ?_
      refine d_qg 10 rfl (by kernel_rfl) (q_field rfl) rfl rfl wok_sub rfl (ls' := #[true, true, true, true, true, true, true, false, true, true, true, false, false, false, false, false, false, false, false, false, false, false, false, false, false, false, false, false, false, false, false, false, false, false, false, false, false]) rfl ?_
      refine d_qg 11 rfl (by kernel_rfl) (q_load rfl rfl) rfl rfl wok_sub rfl (ls' := #[true, true, true, true, true, true, true, false, true, true, true, true, false, false, false, false, false, false, false, false, false, false, false, false, false, false, false, false, false, false, false, false, false, false, false, false, false]) rfl ?_
      refine d_qg 12 rfl (by kernel_rfl) (q_len rfl) rfl rfl wok_sub rfl (ls' := #[true, true, true, true, true, true, true, false, true, true, true, true, true, false, false, false, false, false, false, false, false, false, false, false, false, false, false, false, false, false, false, false, false, false, false, false, false]) rfl ?_
      refine d_opg 7 rfl (by kernel_rfl) (ls' := #[true, true, true, true, true, true, true, true, true, true, true, true, true, false, false, false, false, false, false, false, false, false, false, false, false, false, false, false, false, false, false, false, false, false, false, false, false]) rfl rfl rfl wok_sub (g_keep [Res.blk b10 61 (Rg.c g40), Res.row (Rg.A g40) (Rg.s g40).length (Rg.cap g40) 3 1 (Rg.s g40)] rfl (fun w1 hw1 ho1 => by exact len_i b10 g40 l40 w1 ho1 r40) rfl ?_)
      refine d_qg 13 rfl (by kernel_rfl) (q_neq rfl rfl) rfl rfl wok_sub rfl (ls' := #[true, true, true, true, true, true, true, true, true, true, true, true, true, true, false, false, false, false, false, false, false, false, false, false, false, false, false, false, false, false, false, false, false, false, false, false, false]) rfl ?_
      refine g_litb 50 (b := false) rfl (by simp) ?_
      refine d_q 14 rfl (by kernel_rfl) (q_pick_f rfl rfl) wok_sub rfl (ls' := #[true, true, true, true, true, true, true, true, true, true, true, true, true, true, true, false, false, false, false, false, false, false, false, false, false, false, false, false, false, false, false, false, false, false, false, false, false]) rfl ?_
      refine d_q 15 rfl (by kernel_rfl) (q_move rfl) wok_sub rfl (ls' := #[true, true, true, true, true, true, true, true, true, true, true, true, true, true, true, true, false, false, false, false, false, false, false, false, false, false, false, false, false, false, false, false, false, false, false, false, false]) rfl ?_
      refine d_qg 16 rfl (by kernel_rfl) (q_move rfl) rfl rfl wok_sub rfl (ls' := #[true, true, true, true, true, true, true, true, true, true, true, true, true, true, true, true, true, false, false, false, false, false, false, false, false, false, false, false, false, false, false, false, false, false, false, false, false]) rfl ?_
      refine d_qg 18 rfl (by kernel_rfl) (q_move rfl) rfl rfl wok_sub rfl (ls' := #[true, true, true, true, true, true, true, true, true, true, true, true, true, true, true, true, true, false, true, false, false, false, false, false, false, false, false, false, false, false, false, false, false, false, false, false, false]) rfl ?_
      refine d_qg 19 rfl (by kernel_rfl) (q_move rfl) rfl rfl wok_sub rfl (ls' := #[true, true, true, true, true, true, true, true, true, true, true, true, true, true, true, true, true, false, true, true, false, false, false, false, false, false, false, false, false, false, false, false, false, false, false, false, false]) rfl ?_
      refine d_qg 20 rfl (by kernel_rfl) (q_nilck rfl) rfl rfl wok_sub rfl (ls' := #[true, true, true, true, true, true, true, true, true, true, true, true, true, true, true, true, true, false, true, true, true, false, false, false, false, false, false, false, false, false, false, false, false, false, false, false, false]) rfl ?_
      refine d_qg 21 rfl (by kernel_rfl) (q_field rfl) rfl rfl wok_sub rfl (ls' := #[true, true, true, true, true, true, true, true, true, true, true, true, true, true, true, true, true, false, true, true, true, true, false, false, false, false, false, false, false, false, false, false, false, false, false, false, false]) rfl ?_
      refine d_qg 22 rfl (by kernel_rfl) (q_load rfl rfl) rfl rfl wok_sub rfl (ls' := #[true, true, true, true, true, true, true, true, true, true, true, true, true, true, true, true, true, false, true, true, true, true, true, false, false, false, false, false, false, false, false, false, false, false, false, false, false]) rfl ?_
      refine d_qg 23 rfl (by kernel_rfl) (q_len rfl) rfl rfl wok_sub rfl (ls' := #[true, true, true, true, true, true, true, true, true, true, true, true, true, true, true, true, true, false, true, true, true, true, true, true, false, false, false, false, false, false, false, false, false, false, false, false, false]) rfl ?_
      refine d_qg 24 rfl (by kernel_rfl) (q_subn (a := n) (b := (l40).length) rfl rfl (by first | omega | (simp; omega) | (simp_all; omega)) (by first | omega | (simp; omega) | (simp_all; omega))) rfl rfl wok_sub rfl (ls' := #[true, true, true, true, true, true, true, true, true, true, true, true, true, true, true, true, true, false, true, true, true, true, true, true, true, false, false, false, false, false, false, false, false, false, false, false, false]) rfl ?_
      refine d_opg 17 rfl (by kernel_rfl) (ls' := #[true, true, true, true, true, true, true, true, true, true, true, true, true, true, true, true, true, true, true, true, true, true, true, true, true, false, false, false, false, false, false, false, false, false, false, false, false]) rfl rfl rfl wok_sub (g_keep [Res.blk b10 61 (Rg.c g40), Res.row (Rg.A g40) (Rg.s g40).length (Rg.cap g40) 3 1 (Rg.s g40)] rfl (fun w1 hw1 ho1 => by exact free_i b10 g40 l40 w1 ho1 r40) rfl ?_)
      refine d_qg 25 rfl (by kernel_rfl) (q_neq rfl rfl) rfl rfl wok_sub rfl (ls' := #[true, true, true, true, true, true, true, true, true, true, true, true, true, true, true, true, true, true, true, true, true, true, true, true, true, true, false, false, false, false, false, false, false, false, false, false, false]) rfl ?_
      refine g_litb 62 (b := false) rfl (by simp; omega) ?_
      refine d_q 26 rfl (by kernel_rfl) (q_pick_f rfl rfl) wok_sub rfl (ls' := #[true, true, true, true, true, true, true, true, true, true, true, true, true, true, true, true, true, true, true, true, true, true, true, true, true, true, true, false, false, false, false, false, false, false, false, false, false]) rfl ?_
      refine d_q 27 rfl (by kernel_rfl) (q_move rfl) wok_sub rfl (ls' := #[true, true, true, true, true, true, true, true, true, true, true, true, true, true, true, true, true, true, true, true, true, true, true, true, true, true, true, true, false, false, false, false, false, false, false, false, false]) rfl ?_
      refine d_qg 28 rfl (by kernel_rfl) (q_move rfl) rfl rfl wok_sub rfl (ls' := #[true, true, true, true, true, true, true, true, true, true, true, true, true, true, true, true, true, true, true, true, true, true, true, true, true, true, true, true, true, false, false, false, false, false, false, false, false]) rfl ?_
      refine d_qg 30 rfl (by kernel_rfl) (q_move rfl) rfl rfl wok_sub rfl (ls' := #[true, true, true, true, true, true, true, true, true, true, true, true, true, true, true, true, true, true, true, true, true, true, true, true, true, true, true, true, true, false, true, false, false, false, false, false, false]) rfl ?_
      refine d_qg 31 rfl (by kernel_rfl) (q_nilck rfl) rfl rfl wok_sub rfl (ls' := #[true, true, true, true, true, true, true, true, true, true, true, true, true, true, true, true, true, true, true, true, true, true, true, true, true, true, true, true, true, false, true, true, false, false, false, false, false]) rfl ?_
      refine d_qg 32 rfl (by kernel_rfl) (q_field rfl) rfl rfl wok_sub rfl (ls' := #[true, true, true, true, true, true, true, true, true, true, true, true, true, true, true, true, true, true, true, true, true, true, true, true, true, true, true, true, true, false, true, true, true, false, false, false, false]) rfl ?_
      refine d_qg 33 rfl (by kernel_rfl) (q_load rfl rfl) rfl rfl wok_sub rfl (ls' := #[true, true, true, true, true, true, true, true, true, true, true, true, true, true, true, true, true, true, true, true, true, true, true, true, true, true, true, true, true, false, true, true, true, true, false, false, false]) rfl ?_
      refine d_opg 29 rfl (by kernel_rfl) (ls' := #[true, true, true, true, true, true, true, true, true, true, true, true, true, true, true, true, true, true, true, true, true, true, true, true, true, true, true, true, true, true, true, true, true, true, false, false, false]) rfl rfl rfl wok_sub (g_ownS [Res.blk b10 61 (Rg.c g40), Res.row (Rg.A g40) (Rg.s g40).length (Rg.cap g40) 3 1 (Rg.s g40)] rfl (fun w1 hw1 ho1 => by have h7 := all_i b10 g40 l40 w1 ho1 r40; exact h7) rfl ?_)
      rintro ⟨A66, cap66⟩ _
      refine ⟨_, _, inferInstance, inferInstance, ?_⟩
      refine d_opg 34 rfl (by kernel_rfl) (ls' := #[true, true, true, true, true, true, true, true, true, true, true, true, true, true, true, true, true, true, true, true, true, true, true, true, true, true, true, true, true, true, true, true, true, true, true, false, false]) rfl rfl rfl wok_sub (g_pure rfl (fun w1 hw1 => equal_i A66 A40 _ _ _ _ (l40) (l40) w1 (Rdb.toOld (InRow.rdb (A := A66) (els := (l40).map (fun v : Int => [Value.int .i64 v])) (by simp) (map_cat (c := (fun v : Int => [Value.int .i64 v])) (fun _ => rfl) _)) hw1) (Rdb.toOld (Rdb.ro (A := A40) (els := (l40).map (fun v : Int => [Value.int .i64 v])) (by first | rfl | (simp; done)) (map_cat (c := (fun v : Int => [Value.int .i64 v])) (fun _ => rfl) _)) hw1) (by first | omega | (simp; omega) | (simp_all; omega))) rfl ?_)
      refine d_qg 35 rfl (by kernel_rfl) (q_not rfl) rfl rfl wok_sub rfl (ls' := #[true, true, true, true, true, true, true, true, true, true, true, true, true, true, true, true, true, true, true, true, true, true, true, true, true, true, true, true, true, true, true, true, true, true, true, true, false]) rfl ?_
      refine g_litb 72 (b := false) rfl (by simp) ?_
      refine d_q 36 rfl (by kernel_rfl) (q_pick_f rfl rfl) wok_sub rfl (ls' := #[true, true, true, true, true, true, true, true, true, true, true, true, true, true, true, true, true, true, true, true, true, true, true, true, true, true, true, true, true, true, true, true, true, true, true, true, true]) rfl ?_
      refine d_end (by kernel_rfl) (.inr wok_sub) ?_
      refine g_then ?_
      refine g_false rfl ?_
      refine g_skip ?_
      refine g_blk_n ?_
      refine g_then ?_
      refine g_region ?_
      refine s_q (q_inc rfl rfl (by omega)) rfl ?_
      refine s_q (q_move rfl) rfl ?_
      refine g_nil ?_
      exact g_again ((k + 1), g40, A40, c40, l40) (by (try dsimp only); exact ⟨(by first | exact lt_k | omega), r40, s40, hc40⟩) (by first | omega | (simp only; omega)) (by repeat (first | exact trivial | refine ⟨rfl, ?_⟩)) wok_sub
    · have eq_k : k = l.length := by have h9 := of_decide_eq_false h2; omega
      refine g_exit ?_
      refine g_then_x (g_then_x (g_blk_hit ?_))
      refine g_then ?_
      refine g_seq ?_
      refine g_region ?_
      refine g_op (g_pure rfl (fun w1 hw1 => alive_any w1) rfl ?_)
      refine s_q (q_assign rfl) rfl ?_
      refine g_nil ?_
      refine g_then ?_
      refine g_ret ?_
      exact fin1 rfl (.tmp rfl) (fun w' hw' => ⟨by first | rfl | (simp_all; done) | (simp_all; omega), hw'.upd⟩) _ (.inl rfl)

theorem main_ringPlays (v0 : Value) (v1 : Value) (W : World) (a0 : Arg Try.prog W 3 v0) (a1 : Arg Try.prog W 49 v1) : Pur Try.prog 7 [v0, v1] W (.bool true) := by
  obtain ⟨z, rfl, h_z⟩ := Arg.int Try.underlying3 a0
  obtain ⟨A_l, c_l, l, rfl, hle1, hm1, o_l, k_l⟩ := Arg.slice O.c (fun x : O => x.ok W) Try.underlying49 (show Try.prog.cellsOf 55 = 2 by kernel_rfl) (by omega) (openO) a1
  have h_l : l.length ≤ c_l ∧ c_l ≤ 9223372036854775807 := ⟨hle1, by unfold maxLen at hm1; omega⟩
  by_cases hz : z < 1 ∨ 1048576 < z
  · exact law_ringPlays_bad z A_l c_l l W hz o_l h_l k_l
  · obtain ⟨n, rfl⟩ : ∃ n : Nat, z = n := ⟨z.toNat, by omega⟩
    exact law_ringPlays_ok n A_l c_l l W (by omega) o_l h_l k_l

namespace LawRingPlays
open Go.ChangeShapes Go.WideShapes Go.ChangeAt Go.RowKit Go.Eg
set_option linter.unusedVariables false
theorem own : ownKnob Try.prog.godebug = none := by kernel_rfl
theorem laidOut : laidOutB Try.prog = true := by kernel_rfl
set_option maxRecDepth 100000 in
theorem lifted (os : Os) (started : os.Started) (H : Type) (enc : TypeId × Value → H) :
    ReturnsInHanded {} Try.checked os 7 .any (Rows.ringPlaysSpec.pre6 enc Try.prog Try.f7 Rows.ringPlaysRow.domain false) (Rows.ringPlaysSpec.post enc Try.prog Try.f7 false true false false) := by
  refine returnsInHanded_of_change (C := Try.checked) own started (by kernel_rfl) Try.func7
    (ChangeSpec.witness6 (enc := enc) (C := Try.checked) false ⟨#[], #[.int .i64 0, .slice none 0 0], []⟩ 8 (by kernel_rfl) (by kernel_rfl) (by kernel_rfl) (by kernel_rfl)) ?_
  intro W base args ds gs before hval0 hW hcnd _
  have hval : ∀ (j : Nat) t v, Try.f7.params[j]? = some t → args[j]? = some v → Value.okWide Try.prog W .any base t v := hval0
  have hW' := hW
  obtain ⟨p, q, hA0, hV, rfl, hfz, hnd⟩ := hW
  have hA : DataW.TrodAll enc Try.prog W 0 (fun _ => true) true Try.f7.params.toList args.toList ds p := hA0
  rw [Try.params7] at hA hval
  obtain ⟨v0, vs0, d0, ds0, p0, q0, hargs, rfl, rfl, h0, r0⟩ := trodAll_cons hA
  obtain ⟨v1, vs1, d1, ds1, p1, q1, rfl, rfl, rfl, h1, r1⟩ := trodAll_cons r0
  obtain ⟨rfl, rfl, rfl⟩ := trodAll_nil r1
  obtain rfl : args = #[v0, v1] := by cases args; simp_all
  obtain ⟨rfl, rfl⟩ := trodVars_none hV
  have a0 := Arg.of h0 (hval 0 3 v0 rfl rfl)
  have lt0 : ∀ x ∈ p0, x.block < W.heap.size := by obtain ⟨m, hm⟩ := h0; exact DataW.trod_lt m _ _ _ hm
  have a1 := Arg.of h1 (hval 1 49 v1 rfl rfl)
  have lt1 : ∀ x ∈ p1, x.block < W.heap.size := by obtain ⟨m, hm⟩ := h1; exact DataW.trod_lt m _ _ _ hm
  clear hA0 hval0
  simp only [List.append_nil] at hW'
  refine Calls.mono (main_ringPlays v0 v1 W a0 a1) ?_
  rintro e W' ⟨v, rfl, rfl, hu⟩
  have bel := hu.below
  have targ := (trodAll_cons_mk (Below.trod laidOut (by kernel_rfl) (of_decide_eq_true (by kernel_rfl)) h0 bel lt0) (trodAll_cons_mk (Below.trod laidOut (by kernel_rfl) (of_decide_eq_true (by kernel_rfl)) h1 bel lt1) trodAll_mk0))
  simp only [List.append_nil] at targ
  exact ⟨_, rfl, _, _, _, [], _, [], hW', trodAll_mk1 (shut_bool Try.underlying4 _), targ, rfl, bel.frame _, fun h => by cases h⟩
theorem over : Rows.ringPlaysRow.holds Try.pinned (OpenSpec.ofChange Rows.ringPlaysSpec) :=
  OpenClaim.holds_of_wide 7 Try.f7 rfl rfl rfl rfl rfl rfl rfl ⟨rfl, rfl, rfl, rfl, rfl⟩ rfl rfl rfl rfl rfl (by kernel_rfl) Try.func7 (by kernel_rfl)
    (of_decide_eq_true (by kernel_rfl)) (by unfold Func.isWrapper; first | (rw [if_pos (by decide +kernel)]; kernel_rfl) | (rw [if_neg (by decide +kernel)]; exact ⟨rfl, rfl⟩))
    (fun os started H enc _ => lifted os started H enc)
theorem proved : Rows.RingPlaysSaid := over
end LawRingPlays
end Go.Proofs.Ytjhamghjnilgfaa
