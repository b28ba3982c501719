/- AssignOrder: for every list of rounds and weights the law returns true. No condition. -/
import Derived.Test.YtmolaicpbaiioaaWR
namespace Go.Proofs.Ytmolaicpbaiioaa
open Go.RowKit Go.Eg
set_option synthInstance.maxSize 3000
set_option linter.unusedSimpArgs false
set_option linter.unusedVariables false
set_option maxRecDepth 100000
set_option maxHeartbeats 400000 in
theorem law_assignOrder (A_l : Option Addr) (c_l : Nat) (l : List Ro) (A_ws : Option Addr) (c_ws : Nat) (ws : List Int) (w : World) (o_l : Old w A_l l.length 3 (l.map Ro.c)) (h_l : l.length ≤ c_l ∧ c_l ≤ 9223372036854775807) (k_l : ∀ x ∈ l, (fun x : Ro => x.ok w) x) (o_ws : Old w A_ws ws.length 1 (ws.map (fun v : Int => [Value.int .u64 v]))) (h_ws : ws.length ≤ c_ws ∧ c_ws ≤ 9223372036854775807) (k_ws : ∀ x ∈ ws, (fun x : Int => 0 ≤ x ∧ x ≤ 18446744073709551615) x) : Pur Try.prog 3 [.slice A_l l.length c_l, .slice A_ws ws.length c_ws] w (.bool true) := by
  refine g_start Try.func3 rfl 140 rfl (by simp) ([]) [] (WOK.start _ _) _ rfl ?_
  refine g_seq ?_
  refine g_region ?_
  refine s_q (q_assign rfl) rfl ?_
  refine g_nil ?_
  refine g_then ?_
  refine g_seq ?_
  refine g_seq ?_
  refine g_region ?_
  refine s_q (q_move rfl) rfl ?_
  refine g_op (g_pure rfl (fun w1 hw1 => few_any A_l c_l l w1 (Rdb.toOld (o_l.rdb rfl) hw1) (by omega)) rfl ?_)
  refine s_q (q_not rfl) rfl ?_
  refine s_q (q_move rfl) rfl ?_
  refine g_split 20 rfl (fun h1 => ?_) (fun h1 => ?_)
  · refine g_gf rfl rfl rfl rfl ?_
    refine g_gf rfl rfl rfl rfl ?_
    refine g_gf rfl rfl rfl rfl ?_
    refine s_q (q_pick_t rfl rfl) rfl ?_
    refine g_nil ?_
    refine g_then ?_
    refine g_true rfl ?_
    refine g_seq ?_
    refine g_region ?_
    refine g_op (g_pure rfl (fun w1 hw1 => alive_any w1) rfl ?_)
    refine s_q (q_assign rfl) rfl ?_
    refine g_nil ?_
    refine g_then ?_
    refine g_ret ?_
    refine g_then_ret ?_
    exact fin1 rfl (.tmp rfl) (fun w' hw' => ⟨by first | rfl | (simp_all; done) | (simp_all; omega), hw'.upd⟩) _ (.inl rfl)
  · have hfew : fewB l = true := by simpa using h1
    have hf2 := of_decide_eq_true hfew
    refine s_qg (q_move rfl) rfl rfl rfl ?_
    refine s_qg (q_len rfl) rfl rfl rfl ?_
    refine s_qg (q_gtr rfl rfl) rfl rfl rfl ?_
    refine s_q (q_pick_f rfl rfl) rfl ?_
    refine g_nil ?_
    refine g_then ?_
    refine g_cond rfl (fun h2 => ?_) (fun h2 => ?_)
    · refine g_seq ?_
      refine g_region ?_
      refine g_op (g_pure rfl (fun w1 hw1 => alive_any w1) rfl ?_)
      refine s_q (q_assign rfl) rfl ?_
      refine g_nil ?_
      refine g_then ?_
      refine g_ret ?_
      refine g_then_ret ?_
      exact fin1 rfl (.tmp rfl) (fun w' hw' => ⟨by first | rfl | (simp_all; done) | (simp_all; omega), hw'.upd⟩) _ (.inl rfl)
    · have hws : ws.length ≤ 100 := by have h9 := of_decide_eq_false h2; omega
      refine g_skip ?_
      refine g_then ?_
      refine g_seq ?_
      refine g_region ?_
      refine g_op (g_ownS [] rfl (fun w1 hw1 ho1 => by have h7 := lnew_any (500) w1 (by omega); exact h7) rfl ?_)
      rintro ⟨b26, ba26, bb26, g26, gg26⟩ ⟨r26, s26, rr26, ss26⟩
      refine ⟨_, _, inferInstance, inferInstance, ?_⟩
      simp only at r26 s26 rr26 ss26
      refine g_op (g_ownS [] rfl (fun w1 hw1 ho1 => by have h7 := mnew_any w1; exact h7) rfl ?_)
      rintro mb27 _
      refine ⟨_, _, inferInstance, inferInstance, ?_⟩
      refine s_q (q_assign rfl) rfl ?_
      refine s_q (q_assign rfl) rfl ?_
      refine g_nil ?_
      refine g_then ?_
      refine g_seq ?_
      refine g_seq ?_
      refine g_region ?_
      refine s_q (q_move rfl) rfl ?_
      refine s_q (q_eqp (b := false) rfl rfl rfl) rfl ?_
      refine s_q (q_move rfl) rfl ?_
      refine s_qg (q_move rfl) rfl rfl rfl ?_
      refine s_qg (q_eqp (b := false) rfl rfl rfl) rfl rfl rfl ?_
      refine s_q (q_pick_f rfl rfl) rfl ?_
      refine g_nil ?_
      refine g_then ?_
      refine g_false rfl ?_
      refine g_skip ?_
      refine g_then ?_
      refine g_seq ?_
      refine g_region ?_
      refine s_q (q_build (c := [Value.slice none ((LL.mk [] [])).f.length 0, Value.slice none ((LL.mk [] [])).v.length 0, Value.int .i64 ((500 : Nat) : Int)]) rfl rfl) rfl ?_
      refine g_op (g_box (c := [Value.slice none ((LL.mk [] [])).f.length 0, Value.slice none ((LL.mk [] [])).v.length 0, Value.int .i64 ((500 : Nat) : Int)]) rfl rfl rfl fun b35 => ?_)
      refine g_roNil none 1 ?_
      refine g_roEq (A := none) (n := 0) (els := []) ((LL.mk [] [])).v.length (((LL.mk [] [])).v.map (fun v : Int => [Value.int .i64 v])) rfl rfl ?_
      refine g_roNil none 1 ?_
      refine g_roEq (A := none) (n := 0) (els := []) ((LL.mk [] [])).f.length (((LL.mk [] [])).f.map (fun v : Int => [Value.int .i64 v])) rfl rfl ?_
      refine s_q (q_assign rfl) rfl ?_
      refine g_nil ?_
      refine g_then ?_
      refine g_seq ?_
      refine g_region ?_
      refine g_op (g_alloc rfl fun b8 => ?_)
      refine g_op (g_alloc rfl fun b9 => ?_)
      refine g_noresL none 3 1 (([] : List Int).map (fun v : Int => [Value.int .i64 v])) rfl ?_
      refine g_noresL none 3 1 (([] : List Int).map (fun v : Int => [Value.int .i64 v])) rfl ?_
      refine g_noresL none 3 1 (([] : List Int).map (fun v : Int => [Value.int .i64 v])) rfl ?_
      refine g_noresL none 3 1 (([] : List Int).map (fun v : Int => [Value.int .i64 v])) rfl ?_
      refine g_nil ?_
      refine g_then ?_
      refine g_seq ?_
      refine g_region ?_
      refine s_q (q_assign rfl) rfl ?_
      refine g_nil ?_
      refine g_then ?_
      refine g_seq ?_
      refine g_seq ?_
      refine g_region ?_
      refine s_q (q_move rfl) rfl ?_
      refine s_q (q_len rfl) rfl ?_
      refine s_q (q_move rfl) rfl ?_
      refine g_nil ?_
      refine g_then ?_
      refine g_block ?_
      refine g_loopk [1, 4, 5, 6, 7, 8, 9, 36, 37] (fun (x : Nat × Rg × Rg × Option Addr × Nat × Option Addr × Nat × LL × LL × M × Int × List Int × Option Addr × Nat × Nat × List Int × Option Addr × Nat × Nat × List Int × Option Addr × Nat × Nat × List Int × Option Addr × Nat × Nat) => [(10, .int .i64 x.2.2.2.2.2.2.2.2.2.2.1), (38, .int .i64 ((x.1 : Nat) : Int))]) (fun (x : Nat × Rg × Rg × Option Addr × Nat × Option Addr × Nat × LL × LL × M × Int × List Int × Option Addr × Nat × Nat × List Int × Option Addr × Nat × Nat × List Int × Option Addr × Nat × Nat × List Int × Option Addr × Nat × Nat) => [Res.blk b8 34 [Value.slice x.2.2.2.2.2.2.2.2.2.2.2.2.1 x.2.2.2.2.2.2.2.2.2.2.2.2.2.1 x.2.2.2.2.2.2.2.2.2.2.2.2.2.2.1, Value.slice x.2.2.2.2.2.2.2.2.2.2.2.2.2.2.2.2.1 x.2.2.2.2.2.2.2.2.2.2.2.2.2.2.2.2.2.1 x.2.2.2.2.2.2.2.2.2.2.2.2.2.2.2.2.2.2.1], Res.row x.2.2.2.2.2.2.2.2.2.2.2.2.1 x.2.2.2.2.2.2.2.2.2.2.2.2.2.1 x.2.2.2.2.2.2.2.2.2.2.2.2.2.2.1 3 1 ((x.2.2.2.2.2.2.2.2.2.2.2.1).map (fun v : Int => [Value.int .i64 v])), Res.row x.2.2.2.2.2.2.2.2.2.2.2.2.2.2.2.2.1 x.2.2.2.2.2.2.2.2.2.2.2.2.2.2.2.2.2.1 x.2.2.2.2.2.2.2.2.2.2.2.2.2.2.2.2.2.2.1 3 1 ((x.2.2.2.2.2.2.2.2.2.2.2.2.2.2.2.1).map (fun v : Int => [Value.int .i64 v])), Res.blk b9 34 [Value.slice x.2.2.2.2.2.2.2.2.2.2.2.2.2.2.2.2.2.2.2.2.1 x.2.2.2.2.2.2.2.2.2.2.2.2.2.2.2.2.2.2.2.2.2.1 x.2.2.2.2.2.2.2.2.2.2.2.2.2.2.2.2.2.2.2.2.2.2.1, Value.slice x.2.2.2.2.2.2.2.2.2.2.2.2.2.2.2.2.2.2.2.2.2.2.2.2.1 x.2.2.2.2.2.2.2.2.2.2.2.2.2.2.2.2.2.2.2.2.2.2.2.2.2.1 x.2.2.2.2.2.2.2.2.2.2.2.2.2.2.2.2.2.2.2.2.2.2.2.2.2.2], Res.row x.2.2.2.2.2.2.2.2.2.2.2.2.2.2.2.2.2.2.2.2.1 x.2.2.2.2.2.2.2.2.2.2.2.2.2.2.2.2.2.2.2.2.2.1 x.2.2.2.2.2.2.2.2.2.2.2.2.2.2.2.2.2.2.2.2.2.2.1 3 1 ((x.2.2.2.2.2.2.2.2.2.2.2.2.2.2.2.2.2.2.2.1).map (fun v : Int => [Value.int .i64 v])), Res.row x.2.2.2.2.2.2.2.2.2.2.2.2.2.2.2.2.2.2.2.2.2.2.2.2.1 x.2.2.2.2.2.2.2.2.2.2.2.2.2.2.2.2.2.2.2.2.2.2.2.2.2.1 x.2.2.2.2.2.2.2.2.2.2.2.2.2.2.2.2.2.2.2.2.2.2.2.2.2.2 3 1 ((x.2.2.2.2.2.2.2.2.2.2.2.2.2.2.2.2.2.2.2.2.2.2.2.1).map (fun v : Int => [Value.int .i64 v])), Res.blk b26 77 [Value.pointer (some ⟨ba26, 0, none⟩), Value.pointer (some ⟨bb26, 0, none⟩)], Res.blk ba26 108 (Rg.c x.2.1), Res.row (Rg.A x.2.1) (Rg.s x.2.1).length (Rg.cap x.2.1) 3 1 (Rg.s x.2.1), Res.blk bb26 108 (Rg.c x.2.2.1), Res.row (Rg.A x.2.2.1) (Rg.s x.2.2.1).length (Rg.cap x.2.2.1) 3 1 (Rg.s x.2.2.1), Res.blk mb27 84 (M.c x.2.2.2.2.2.2.2.2.2.1), Res.blk b35 33 [Value.slice x.2.2.2.1 (x.2.2.2.2.2.2.2.2.1).f.length x.2.2.2.2.1, Value.slice x.2.2.2.2.2.1 (x.2.2.2.2.2.2.2.2.1).v.length x.2.2.2.2.2.2.1, Value.int .i64 ((500 : Nat) : Int)], Res.ro x.2.2.2.1 (x.2.2.2.2.2.2.2.2.1).f.length 1 ((x.2.2.2.2.2.2.2.2.1).f.map (fun v : Int => [Value.int .i64 v])), Res.ro x.2.2.2.2.2.1 (x.2.2.2.2.2.2.2.2.1).v.length 1 ((x.2.2.2.2.2.2.2.2.1).v.map (fun v : Int => [Value.int .i64 v]))]) (fun (x : Nat × Rg × Rg × Option Addr × Nat × Option Addr × Nat × LL × LL × M × Int × List Int × Option Addr × Nat × Nat × List Int × Option Addr × Nat × Nat × List Int × Option Addr × Nat × Nat × List Int × Option Addr × Nat × Nat) => x.1 ≤ l.length ∧ Rg.Rep x.2.1 1 ((x.2.2.2.2.2.2.2.1).f.map (fun v : Int => [Value.int .i64 v])) ∧ Rg.Rep x.2.2.1 1 ((x.2.2.2.2.2.2.2.1).v.map (fun v : Int => [Value.int .i64 v])) ∧ Rg.size x.2.1 = 500 ∧ Rg.size x.2.2.1 = 500 ∧ (x.2.2.2.2.2.2.2.2.1).f.length ≤ x.2.2.2.2.1 ∧ (x.2.2.2.2.2.2.2.2.1).v.length ≤ x.2.2.2.2.2.2.1 ∧ ((x.2.2.2.2.2.2.2.2.1).f.length ≤ 500 ∧ (x.2.2.2.2.2.2.2.2.1).v.length ≤ 500) ∧ ((x.2.2.2.2.2.2.2.1).f.length ≤ 500 ∧ (x.2.2.2.2.2.2.2.1).v.length ≤ 500) ∧ (x.2.2.2.2.2.2.2.2.2.1).ok ∧ (x.2.2.2.2.2.2.2.2.2.2.2.1.length ≤ 500 → x.2.2.2.2.2.2.2.2.2.2.2.1 = x.2.2.2.2.2.2.2.2.2.2.2.2.2.2.2.2.2.2.2.1 ++ (x.2.2.2.2.2.2.2.1).f) ∧ (x.2.2.2.2.2.2.2.2.2.2.2.2.2.2.2.1.length ≤ 500 → x.2.2.2.2.2.2.2.2.2.2.2.2.2.2.2.1 = x.2.2.2.2.2.2.2.2.2.2.2.2.2.2.2.2.2.2.2.2.2.2.2.1 ++ (x.2.2.2.2.2.2.2.1).v) ∧ x.2.2.2.2.2.2.2.2.2.2.2.2.2.1 = x.2.2.2.2.2.2.2.2.2.2.2.1.length ∧ x.2.2.2.2.2.2.2.2.2.2.2.2.2.2.2.2.2.1 = x.2.2.2.2.2.2.2.2.2.2.2.2.2.2.2.1.length ∧ x.2.2.2.2.2.2.2.2.2.2.2.2.2.2.2.2.2.2.2.2.2.1 = x.2.2.2.2.2.2.2.2.2.2.2.2.2.2.2.2.2.2.2.1.length ∧ x.2.2.2.2.2.2.2.2.2.2.2.2.2.2.2.2.2.2.2.2.2.2.2.2.2.1 = x.2.2.2.2.2.2.2.2.2.2.2.2.2.2.2.2.2.2.2.2.2.2.2.1.length ∧ x.2.2.2.2.2.2.2.2.2.2.1 ≤ (x.1 : Int) ∧ x.2.2.2.2.2.2.2.2.2.2.2.1.length ≤ 20 * x.1 ∧ x.2.2.2.2.2.2.2.2.2.2.2.2.2.2.2.1.length ≤ 20 * x.1 ∧ x.2.2.2.2.2.2.2.2.2.2.2.2.2.2.2.2.2.2.2.1.length + x.2.2.2.2.2.2.2.2.2.2.2.2.2.2.2.2.2.2.2.2.2.2.2.1.length ≤ 1001 * x.1) (fun (x : Nat × Rg × Rg × Option Addr × Nat × Option Addr × Nat × LL × LL × M × Int × List Int × Option Addr × Nat × Nat × List Int × Option Addr × Nat × Nat × List Int × Option Addr × Nat × Nat × List Int × Option Addr × Nat × Nat) => l.length - x.1) (0, g26, gg26, none, 0, none, 0, (LL.mk [] []), (LL.mk [] []), M0, 0, [], none, 0, 0, [], none, 0, 0, [], none, 0, 0, [], none, 0, 0) (by (try dsimp only); exact ⟨Nat.zero_le _, r26, rr26, s26, ss26, (by simp), (by simp), ⟨by simp, by simp⟩, ⟨by simp, by simp⟩, M0_ok, (by simp), (by simp), rfl, rfl, rfl, rfl, (by omega), (by simp), (by simp), (by simp)⟩) rfl (by repeat (first | exact trivial | refine ⟨rfl, ?_⟩)) wok_sub ?_
      rintro ⟨k, g1, g2, A0, c0, A1, c1, q, v, m, la, P0, aP0, nP0, kP0, P1, aP1, nP1, kP1, Q0, aQ0, nQ0, kQ0, Q1, aQ1, nQ1, kQ1⟩ ⟨le_k, h0, hh1, s0, ss1, u0, u1, hq, hl, hmk, hP0, hP1, hnP0, hnP1, hnQ0, hnQ1, hla, hlP0, hlP1, hlQ⟩
      replace le_k : k ≤ l.length := le_k
      replace h0 : Rg.Rep g1 1 ((q).f.map (fun v : Int => [Value.int .i64 v])) := h0
      replace hh1 : Rg.Rep g2 1 ((q).v.map (fun v : Int => [Value.int .i64 v])) := hh1
      replace s0 : Rg.size g1 = 500 := s0
      replace ss1 : Rg.size g2 = 500 := ss1
      replace u0 : (v).f.length ≤ c0 := u0
      replace u1 : (v).v.length ≤ c1 := u1
      replace hq : (v).f.length ≤ 500 ∧ (v).v.length ≤ 500 := hq
      replace hl : (q).f.length ≤ 500 ∧ (q).v.length ≤ 500 := hl
      replace hmk : (m).ok := hmk
      replace hP0 : P0.length ≤ 500 → P0 = Q0 ++ (q).f := hP0
      replace hP1 : P1.length ≤ 500 → P1 = Q1 ++ (q).v := hP1
      replace hnP0 : nP0 = P0.length := hnP0
      replace hnP1 : nP1 = P1.length := hnP1
      replace hnQ0 : nQ0 = Q0.length := hnQ0
      replace hnQ1 : nQ1 = Q1.length := hnQ1
      replace hla : la ≤ (k : Int) := hla
      replace hlP0 : P0.length ≤ 20 * k := hlP0
      replace hlP1 : P1.length ≤ 20 * k := hlP1
      replace hlQ : Q0.length + Q1.length ≤ 1001 * k := hlQ
      refine g_setL (L' := [Res.blk b8 34 [Value.slice aP0 nP0 kP0, Value.slice aP1 nP1 kP1], Res.row aP0 nP0 kP0 3 1 ((P0).map (fun v : Int => [Value.int .i64 v])), Res.row aP1 nP1 kP1 3 1 ((P1).map (fun v : Int => [Value.int .i64 v])), Res.blk b9 34 [Value.slice aQ0 nQ0 kQ0, Value.slice aQ1 nQ1 kQ1], Res.row aQ0 nQ0 kQ0 3 1 ((Q0).map (fun v : Int => [Value.int .i64 v])), Res.row aQ1 nQ1 kQ1 3 1 ((Q1).map (fun v : Int => [Value.int .i64 v])), Res.blk b26 77 [Value.pointer (some ⟨ba26, 0, none⟩), Value.pointer (some ⟨bb26, 0, none⟩)], Res.blk ba26 108 (Rg.c g1), Res.row (Rg.A g1) (Rg.s g1).length (Rg.cap g1) 3 1 (Rg.s g1), Res.blk bb26 108 (Rg.c g2), Res.row (Rg.A g2) (Rg.s g2).length (Rg.cap g2) 3 1 (Rg.s g2), Res.blk mb27 84 (M.c m), Res.blk b35 33 [Value.slice A0 (v).f.length c0, Value.slice A1 (v).v.length c1, Value.int .i64 ((500 : Nat) : Int)], Res.ro A0 (v).f.length 1 ((v).f.map (fun v : Int => [Value.int .i64 v])), Res.ro A1 (v).v.length 1 ((v).v.map (fun v : Int => [Value.int .i64 v]))]) rfl ?_
      refine g_val 10 (v' := .int .i64 la) rfl rfl ?_
      refine g_val 38 (v' := .int .i64 ((k : Nat) : Int)) rfl rfl ?_
      refine g_seq ?_
      refine g_region ?_
      refine s_q (q_lss rfl rfl) rfl ?_
      refine g_nil ?_
      refine g_then ?_
      refine g_seq ?_
      refine g_cond rfl (fun h3 => ?_) (fun h3 => ?_)
      · have lt_k : k < l.length := by have h9 := of_decide_eq_true h3; omega
        have hO := k_l _ (List.getElem_mem lt_k)
        have hk40 := hf2.1
        have hk20 := hf2.2 _ (List.getElem_mem lt_k)
        have hO5 := hO.lim
        refine g_skip ?_
        refine g_then ?_
        refine g_seq ?_
        refine g_block ?_
        refine g_seq ?_
        refine g_region ?_
        refine s_q (q_move rfl) rfl ?_
        refine s_q (q_index (i := k) rfl rfl rfl (o_l.rdb rfl) (by first | exact lt_k | omega)) rfl ?_
        refine s_q (q_load_ew (i := k) rfl (o_l.rdb rfl) (map_get (by first | assumption | omega)) rfl) rfl ?_
        refine g_op (g_alloc rfl fun b12 => ?_)
        refine s_q (q_assign rfl) rfl ?_
        refine g_op (g_storew rfl rfl rfl rfl rfl ?_)
        refine g_nil ?_
        refine g_then ?_
        refine g_seq ?_
        refine g_region ?_
        refine s_q (q_move rfl) rfl ?_
        refine s_q (q_move rfl) rfl ?_
        refine s_q (q_loadw rfl rfl) rfl ?_
        refine g_op (g_ownS [Res.blk b26 77 [Value.pointer (some ⟨ba26, 0, none⟩), Value.pointer (some ⟨bb26, 0, none⟩)], Res.blk ba26 108 (Rg.c g1), Res.row (Rg.A g1) (Rg.s g1).length (Rg.cap g1) 3 1 (Rg.s g1), Res.blk bb26 108 (Rg.c g2), Res.row (Rg.A g2) (Rg.s g2).length (Rg.cap g2) 3 1 (Rg.s g2), Res.blk b35 33 [Value.slice A0 (v).f.length c0, Value.slice A1 (v).v.length c1, Value.int .i64 ((500 : Nat) : Int)], Res.ro A0 (v).f.length 1 ((v).f.map (fun v : Int => [Value.int .i64 v])), Res.ro A1 (v).v.length 1 ((v).v.map (fun v : Int => [Value.int .i64 v]))] rfl (fun w1 hw1 ho1 => by have h7 := push_any b26 ba26 bb26 g1 g2 b35 A0 A1 c0 c1 q v 500 l[k] w1 ho1 h0 hh1 s0 ss1 (by omega) u0 u1 hq (Rd.ofOld hw1 hO.f (by omega) (by simp)) (Rd.ofOld hw1 hO.v (by omega) (by simp)) (by omega); exact h7) rfl ?_)
        rintro ⟨g46, gg46, A46, c46, AA46, cc46⟩ ⟨r46, rr46, s46, ss46, u46, uu46⟩
        refine ⟨_, _, inferInstance, inferInstance, ?_⟩
        simp only at r46 rr46 s46 ss46 u46 uu46
        have hq46 := pushR_len (r := l[k]) hq
        have hl46 := pushR_len (r := l[k]) hl
        generalize hpu46 : (pushR 500 l[k] q) = pu46 at r46 rr46 hl46 ⊢
        generalize hpv46 : (pushR 500 l[k] v) = pv46 at u46 uu46 hq46 ⊢
        refine g_nil ?_
        refine g_then ?_
        refine g_seq ?_
        refine g_region ?_
        refine s_q (q_index_arr (i := 0) rfl rfl rfl (by decide)) rfl ?_
        refine s_q (q_load rfl rfl) rfl ?_
        refine s_q (q_field rfl) rfl ?_
        refine s_q (q_load rfl rfl) rfl ?_
        refine g_op (g_append (A := aP0) (els := (P0).map (fun v : Int => [Value.int .i64 v])) (news := ((l[k].f).map (fun v : Int => [Value.int .i64 v]))) rfl rfl (hO.f.rdb rfl) (map_one (c := (fun v : Int => [Value.int .i64 v])) (by intro x; simp [Value.oneCell']) _) (by first | omega | (simp; omega) | (simp_all; omega)) rfl fun A51 cap51 => ⟨_, inferInstance, ?_⟩)
        refine g_rowels (A := A51) (((P0 ++ l[k].f)).map (fun v : Int => [Value.int .i64 v])) (by first | rfl | exact List.map_append.symm | (simp; done)) ?_
        refine s_q (q_index_arr (i := 0) rfl rfl rfl (by decide)) rfl ?_
        refine g_op (g_store rfl rfl rfl rfl rfl rfl rfl ?_)
        refine g_blkc (b := b8) [Value.slice A51 ((nP0 + l[k].f.length)) cap51, Value.slice aP1 (nP1) kP1] (by simp [splice]) ?_
        refine g_nil ?_
        refine g_then ?_
        refine g_seq ?_
        refine g_region ?_
        refine s_q (q_index_arr (i := 1) rfl rfl rfl (by decide)) rfl ?_
        refine s_q (q_load rfl rfl) rfl ?_
        refine s_q (q_field rfl) rfl ?_
        refine s_q (q_load rfl rfl) rfl ?_
        refine g_op (g_append (A := aP1) (els := (P1).map (fun v : Int => [Value.int .i64 v])) (news := ((l[k].v).map (fun v : Int => [Value.int .i64 v]))) rfl rfl (hO.v.rdb rfl) (map_one (c := (fun v : Int => [Value.int .i64 v])) (by intro x; simp [Value.oneCell']) _) (by first | omega | (simp; omega) | (simp_all; omega)) rfl fun A57 cap57 => ⟨_, inferInstance, ?_⟩)
        refine g_rowels (A := A57) (((P1 ++ l[k].v)).map (fun v : Int => [Value.int .i64 v])) (by first | rfl | exact List.map_append.symm | (simp; done)) ?_
        refine s_q (q_index_arr (i := 1) rfl rfl rfl (by decide)) rfl ?_
        refine g_op (g_store rfl rfl rfl rfl rfl rfl rfl ?_)
        refine g_blkc (b := b8) [Value.slice A51 ((nP0 + l[k].f.length)) cap51, Value.slice A57 ((nP1 + l[k].v.length)) cap57] (by simp [splice]) ?_
        refine g_nil ?_
        refine g_then ?_
        refine g_seq ?_
        refine g_region ?_
        refine s_q (q_move rfl) rfl ?_
        refine s_q (q_move rfl) rfl ?_
        refine s_q (q_move rfl) rfl ?_
        refine s_q (q_field rfl) rfl ?_
        refine s_q (q_load rfl rfl) rfl ?_
        refine s_q (q_move rfl) rfl ?_
        refine g_op (g_ownS [Res.blk b26 77 [Value.pointer (some ⟨ba26, 0, none⟩), Value.pointer (some ⟨bb26, 0, none⟩)], Res.blk ba26 108 (Rg.c g46), Res.row (Rg.A g46) (Rg.s g46).length (Rg.cap g46) 3 1 (Rg.s g46), Res.blk bb26 108 (Rg.c gg46), Res.row (Rg.A gg46) (Rg.s gg46).length (Rg.cap gg46) 3 1 (Rg.s gg46), Res.blk mb27 84 (M.c m)] rfl (fun w1 hw1 ho1 => by have h7 := astep_any (((k : Nat) : Int)) ((l[k]).lim) b26 ba26 bb26 mb27 g46 gg46 pu46 500 m A_ws (ws.length) (c_ws) (ws) w1 ho1 r46 rr46 s46 ss46 (by omega) hl46 (Rd.ofOld hw1 o_ws (by omega) (by simp)) (by omega); exact h7) rfl ?_)
        rintro ⟨O65, oc65, g65, gg65⟩ ⟨r65, rr65, s65, ss65⟩
        refine ⟨_, _, inferInstance, inferInstance, ?_⟩
        simp only at r65 rr65 s65 ss65
        have hq65 := stepM_len (W := ws) (e := ((k : Nat) : Int)) (lim := (l[k]).lim) (m := m) hl46
        generalize hst65 : (stepM ws (((k : Nat) : Int)) ((l[k]).lim) pu46 m) = st65 at r65 rr65 hq65 ⊢
        have hel := stepM_el hst65
        have hON := ord_next hpu46 hst65 hP0 hP1
        have hcn := stepM_cnt hst65
        have hcn2 : lenL pu46 ≤ 1000 := by unfold lenL; omega
        have hmo := (stepM_of (W := ws) (e := ((k : Nat) : Int)) (lim := l[k].lim) (q := pu46) (m := m) (fun x hx => (k_ws x hx).1) (hO.lim).1 hmk).2
        rw [hst65] at hmo
        refine s_q (q_len rfl) rfl ?_
        refine s_q (q_move rfl) rfl ?_
        refine g_nil ?_
        refine g_then ?_
        refine g_block ?_
        refine g_loopk [1, 4, 5, 6, 7, 8, 9, 11, 36, 37, 38, 65, 66] (fun (x : Nat × Int × List Int × Option Addr × Nat × Nat × List Int × Option Addr × Nat × Nat) => [(10, .int .i64 x.2.1), (67, .int .i64 ((x.1 : Nat) : Int))]) (fun (x : Nat × Int × List Int × Option Addr × Nat × Nat × List Int × Option Addr × Nat × Nat) => [Res.row O65 st65.1.length oc65 42 3 (st65.1.map As.cs), Res.blk b8 34 [Value.slice A51 ((nP0 + l[k].f.length)) cap51, Value.slice A57 ((nP1 + l[k].v.length)) cap57], Res.row A51 ((nP0 + l[k].f.length)) cap51 3 1 (((P0 ++ l[k].f)).map (fun v : Int => [Value.int .i64 v])), Res.row A57 ((nP1 + l[k].v.length)) cap57 3 1 (((P1 ++ l[k].v)).map (fun v : Int => [Value.int .i64 v])), Res.blk b9 34 [Value.slice x.2.2.2.1 x.2.2.2.2.1 x.2.2.2.2.2.1, Value.slice x.2.2.2.2.2.2.2.1 x.2.2.2.2.2.2.2.2.1 x.2.2.2.2.2.2.2.2.2], Res.row x.2.2.2.1 x.2.2.2.2.1 x.2.2.2.2.2.1 3 1 ((x.2.2.1).map (fun v : Int => [Value.int .i64 v])), Res.row x.2.2.2.2.2.2.2.1 x.2.2.2.2.2.2.2.2.1 x.2.2.2.2.2.2.2.2.2 3 1 ((x.2.2.2.2.2.2.1).map (fun v : Int => [Value.int .i64 v])), Res.blk b26 77 [Value.pointer (some ⟨ba26, 0, none⟩), Value.pointer (some ⟨bb26, 0, none⟩)], Res.blk ba26 108 (Rg.c g65), Res.row (Rg.A g65) (Rg.s g65).length (Rg.cap g65) 3 1 (Rg.s g65), Res.blk bb26 108 (Rg.c gg65), Res.row (Rg.A gg65) (Rg.s gg65).length (Rg.cap gg65) 3 1 (Rg.s gg65), Res.blk mb27 84 (M.c st65.2.2), Res.blk b35 33 [Value.slice A46 (pv46).f.length c46, Value.slice AA46 (pv46).v.length cc46, Value.int .i64 ((500 : Nat) : Int)], Res.ro A46 (pv46).f.length 1 ((pv46).f.map (fun v : Int => [Value.int .i64 v])), Res.ro AA46 (pv46).v.length 1 ((pv46).v.map (fun v : Int => [Value.int .i64 v]))]) (fun (x : Nat × Int × List Int × Option Addr × Nat × Nat × List Int × Option Addr × Nat × Nat) => x.1 ≤ st65.1.length ∧ x.2.2.1 = Q0 ++ cls 0 (st65.1.take x.1) ∧ x.2.2.2.2.2.2.1 = Q1 ++ cls 1 (st65.1.take x.1) ∧ x.2.2.2.2.1 = x.2.2.1.length ∧ x.2.2.2.2.2.2.2.2.1 = x.2.2.2.2.2.2.1.length ∧ x.2.1 ≤ ((k + 1 : Nat) : Int) ∧ x.2.2.1.length + x.2.2.2.2.2.2.1.length ≤ Q0.length + Q1.length + x.1 ∧ x.1 ≤ 1001) (fun (x : Nat × Int × List Int × Option Addr × Nat × Nat × List Int × Option Addr × Nat × Nat) => st65.1.length - x.1) (0, la, Q0, aQ0, nQ0, kQ0, Q1, aQ1, nQ1, kQ1) (by (try dsimp only); exact ⟨Nat.zero_le _, (by simp [cls]), (by simp [cls]), hnQ0, hnQ1, (by omega), (by omega), (by omega)⟩) rfl (by repeat (first | exact trivial | refine ⟨rfl, ?_⟩)) wok_sub ?_
        rintro ⟨j, la2, R0, aR0, nR0, kR0, R1, aR1, nR1, kR1⟩ ⟨le_j, hR0, hR1, hnR0, hnR1, hla2, hlR, hjj⟩
        replace le_j : j ≤ st65.1.length := le_j
        replace hR0 : R0 = Q0 ++ cls 0 (st65.1.take j) := hR0
        replace hR1 : R1 = Q1 ++ cls 1 (st65.1.take j) := hR1
        replace hnR0 : nR0 = R0.length := hnR0
        replace hnR1 : nR1 = R1.length := hnR1
        replace hla2 : la2 ≤ ((k + 1 : Nat) : Int) := hla2
        replace hlR : R0.length + R1.length ≤ Q0.length + Q1.length + j := hlR
        replace hjj : j ≤ 1001 := hjj
        refine g_setL (L' := [Res.row O65 st65.1.length oc65 42 3 (st65.1.map As.cs), Res.blk b8 34 [Value.slice A51 ((nP0 + l[k].f.length)) cap51, Value.slice A57 ((nP1 + l[k].v.length)) cap57], Res.row A51 ((nP0 + l[k].f.length)) cap51 3 1 (((P0 ++ l[k].f)).map (fun v : Int => [Value.int .i64 v])), Res.row A57 ((nP1 + l[k].v.length)) cap57 3 1 (((P1 ++ l[k].v)).map (fun v : Int => [Value.int .i64 v])), Res.blk b9 34 [Value.slice aR0 nR0 kR0, Value.slice aR1 nR1 kR1], Res.row aR0 nR0 kR0 3 1 ((R0).map (fun v : Int => [Value.int .i64 v])), Res.row aR1 nR1 kR1 3 1 ((R1).map (fun v : Int => [Value.int .i64 v])), Res.blk b26 77 [Value.pointer (some ⟨ba26, 0, none⟩), Value.pointer (some ⟨bb26, 0, none⟩)], Res.blk ba26 108 (Rg.c g65), Res.row (Rg.A g65) (Rg.s g65).length (Rg.cap g65) 3 1 (Rg.s g65), Res.blk bb26 108 (Rg.c gg65), Res.row (Rg.A gg65) (Rg.s gg65).length (Rg.cap gg65) 3 1 (Rg.s gg65), Res.blk mb27 84 (M.c st65.2.2), Res.blk b35 33 [Value.slice A46 (pv46).f.length c46, Value.slice AA46 (pv46).v.length cc46, Value.int .i64 ((500 : Nat) : Int)], Res.ro A46 (pv46).f.length 1 ((pv46).f.map (fun v : Int => [Value.int .i64 v])), Res.ro AA46 (pv46).v.length 1 ((pv46).v.map (fun v : Int => [Value.int .i64 v]))]) rfl ?_
        refine g_val 10 (v' := .int .i64 la2) rfl rfl ?_
        refine g_val 67 (v' := .int .i64 ((j : Nat) : Int)) rfl rfl ?_
        refine g_seq ?_
        refine g_region ?_
        refine s_q (q_lss rfl rfl) rfl ?_
        refine g_nil ?_
        refine g_then ?_
        refine g_seq ?_
        refine g_cond rfl (fun h4 => ?_) (fun h4 => ?_)
        · have lt_j : j < st65.1.length := by have h9 := of_decide_eq_true h4; omega
          refine g_skip ?_
          refine g_then ?_
          refine g_seq ?_
          refine g_block ?_
          refine g_seq ?_
          refine g_region ?_
          refine s_q (q_index (i := j) rfl rfl rfl (InRow.rdb (A := O65) (els := (st65.1).map As.cs) (by first | rfl | assumption | (simp; done) | (simp_all; done) | (simp; omega) | (simp_all; omega)) (map_cat (c := As.cs) (fun _ => rfl) _)) (by first | exact lt_j | omega)) rfl ?_
          refine s_q (q_load_ew (i := j) rfl (InRow.rdb (A := O65) (els := (st65.1).map As.cs) (by first | rfl | assumption | (simp; done) | (simp_all; done) | (simp; omega) | (simp_all; omega)) (map_cat (c := As.cs) (fun _ => rfl) _)) (map_get (by first | assumption | omega | (simp_all; done) | (simp_all; omega))) rfl) rfl ?_
          refine g_op (g_alloc rfl fun b14 => ?_)
          refine g_op (g_storew rfl rfl rfl rfl rfl ?_)
          refine g_nil ?_
          refine g_then ?_
          refine g_seq ?_
          refine g_seq ?_
          have he9 := (hel _ (List.getElem_mem lt_j)).2
          rcases (hel _ (List.getElem_mem lt_j)).1 with hcc | hcc
          · refine g_region ?_
            refine s_q (q_field rfl) rfl ?_
            refine s_q (q_load rfl rfl) rfl ?_
            refine s_q (q_neq rfl rfl) rfl ?_
            refine g_litb 73 (b := false) rfl (by rw [hcc]; decide) ?_
            refine s_q (q_move rfl) rfl ?_
            refine g_gf rfl rfl rfl rfl ?_
            refine g_gf rfl rfl rfl rfl ?_
            refine g_gf rfl rfl rfl rfl ?_
            refine s_q (q_pick_f rfl rfl) rfl ?_
            refine s_q (q_move rfl) rfl ?_
            refine s_qg (q_field rfl) rfl rfl rfl ?_
            refine s_qg (q_load rfl rfl) rfl rfl rfl ?_
            refine s_qg (q_move rfl) rfl rfl rfl ?_
            refine s_qg (q_lss rfl rfl) rfl rfl rfl ?_
            refine g_litb 83 (b := false) rfl (by rw [he9]; simp; omega) ?_
            refine s_q (q_pick_f rfl rfl) rfl ?_
            refine s_q (q_move rfl) rfl ?_
            refine s_qg (q_field rfl) rfl rfl rfl ?_
            refine s_qg (q_load rfl rfl) rfl rfl rfl ?_
            refine s_qg (q_move rfl) rfl rfl rfl ?_
            refine s_qg (q_inc rfl rfl (by omega)) rfl rfl rfl ?_
            refine s_qg (q_neq rfl rfl) rfl rfl rfl ?_
            refine g_litb 90 (b := false) rfl (by rw [he9]; simp) ?_
            refine s_q (q_pick_f rfl rfl) rfl ?_
            refine g_nil ?_
            refine g_then ?_
            refine g_false rfl ?_
            refine g_skip ?_
            refine g_then ?_
            refine g_seq ?_
            refine d_regionL (L0 := [Res.blk b14 42 (As.cs (st65.1)[j]), Res.blk b9 34 [Value.slice aR0 nR0 kR0, Value.slice aR1 nR1 kR1]]) [11] mixed rfl rfl wok_sub ?_
            refine d_q 0 rfl (by kernel_rfl) (q_field rfl) wok_sub rfl (ls' := #[true, false, false, false, false, false, false, false, false, false, false, false]) rfl ?_
            refine d_q 1 rfl (by kernel_rfl) (q_load rfl rfl) wok_sub rfl (ls' := #[true, true, false, false, false, false, false, false, false, false, false, false]) rfl ?_
            refine d_q 2 rfl (by kernel_rfl) (q_field rfl) wok_sub rfl (ls' := #[true, true, true, false, false, false, false, false, false, false, false, false]) rfl ?_
            refine d_q 3 rfl (by kernel_rfl) (q_load rfl rfl) wok_sub rfl (ls' := #[true, true, true, true, false, false, false, false, false, false, false, false]) rfl ?_
            refine d_q 4 rfl (by kernel_rfl) (q_index_arr (i := 0) rfl rfl hcc (by decide)) wok_sub rfl (ls' := #[true, true, true, true, true, false, false, false, false, false, false, false]) rfl ?_
            refine d_q 5 rfl (by kernel_rfl) (q_load rfl rfl) wok_sub rfl (ls' := #[true, true, true, true, true, true, false, false, false, false, false, false]) rfl ?_
            refine d_q 6 rfl (by kernel_rfl) (q_field rfl) wok_sub rfl (ls' := #[true, true, true, true, true, true, true, false, false, false, false, false]) rfl ?_
            refine d_q 7 rfl (by kernel_rfl) (q_load rfl rfl) wok_sub rfl (ls' := #[true, true, true, true, true, true, true, true, false, false, false, false]) rfl ?_
            refine d_op 8 rfl (by kernel_rfl) (ls' := #[true, true, true, true, true, true, true, true, true, false, false, false]) rfl wok_sub (g_lit rfl rfl rfl rfl rfl fun b100 => ?_)
            refine g_blkc (b := b100) ((([((st65.1)[j]).i] : List Int).map (fun v : Int => [Value.int .i64 v])).flatten) rfl ?_
            refine d_op 9 rfl (by kernel_rfl) (ls' := #[true, true, true, true, true, true, true, true, true, true, false, false]) rfl wok_sub (g_append (A := aR0) (els := (R0).map (fun v : Int => [Value.int .i64 v])) (news := (([((st65.1)[j]).i] : List Int).map (fun v : Int => [Value.int .i64 v]))) rfl rfl (InL.rdb (b := b100) rfl (by simp) rfl) (map_one (c := (fun v : Int => [Value.int .i64 v])) (by intro x; simp [Value.oneCell']) _) (by first | omega | (simp; omega) | (simp_all; omega)) rfl fun A101 cap101 => ⟨_, inferInstance, ?_⟩)
            refine g_rowels (A := A101) (((R0 ++ [((st65.1)[j]).i])).map (fun v : Int => [Value.int .i64 v])) (by first | rfl | exact List.map_append.symm | (simp; done)) ?_
            refine d_q 10 rfl (by kernel_rfl) (q_index_arr (i := 0) rfl rfl hcc (by decide)) wok_sub rfl (ls' := #[true, true, true, true, true, true, true, true, true, true, true, false]) rfl ?_
            refine d_op 11 rfl (by kernel_rfl) (ls' := #[true, true, true, true, true, true, true, true, true, true, true, true]) rfl wok_sub (g_store rfl rfl rfl rfl rfl rfl rfl ?_)
            refine g_blkc (b := b9) [Value.slice A101 ((nR0 + 1)) cap101, Value.slice aR1 (nR1) kR1] (by simp [splice]) ?_
            refine d_end (by kernel_rfl) (.inl rfl) ?_
            refine g_then ?_
            refine g_region ?_
            refine s_q (q_field rfl) rfl ?_
            refine s_q (q_load rfl rfl) rfl ?_
            refine g_val 104 (v' := .int .i64 ((k + 1 : Nat) : Int)) rfl (by rw [he9]; simp) ?_
            refine s_q (q_assign rfl) rfl ?_
            refine g_nil ?_
            refine g_blk_n ?_
            refine g_then ?_
            refine g_region ?_
            refine s_q (q_inc rfl rfl (by omega)) rfl ?_
            refine s_q (q_move rfl) rfl ?_
            refine g_nil ?_
            exact g_again ((j + 1), ((k + 1 : Nat) : Int), (R0 ++ [((st65.1)[j]).i]), A101, (nR0 + 1), cap101, R1, aR1, nR1, kR1) (by (try dsimp only); exact ⟨(by first | exact lt_j | omega), (by rw [cls_take lt_j, cls_one hcc, ← List.append_assoc, ← hR0]), (by rw [cls_take lt_j, cls_oth (by rw [hcc]; decide), List.append_nil]; exact hR1), (by simp only [List.length_append, List.length_cons, List.length_nil]; omega), hnR1, (by first | omega | (simp; omega)), (by first | omega | (simp only [List.length_append, List.length_cons, List.length_nil]; omega)), (by omega)⟩) (by first | omega | (simp only; omega)) (by repeat (first | exact trivial | refine ⟨rfl, ?_⟩)) wok_sub
          · refine g_region ?_
            refine s_q (q_field rfl) rfl ?_
            refine s_q (q_load rfl rfl) rfl ?_
            refine s_q (q_neq rfl rfl) rfl ?_
            refine g_litb 73 (b := true) rfl (by rw [hcc]; decide) ?_
            refine s_q (q_move rfl) rfl ?_
            refine s_qg (q_field rfl) rfl rfl rfl ?_
            refine s_qg (q_load rfl rfl) rfl rfl rfl ?_
            refine s_qg (q_neq rfl rfl) rfl rfl rfl ?_
            refine g_litb 77 (b := false) rfl (by rw [hcc]; decide) ?_
            refine s_q (q_pick_t rfl rfl) rfl ?_
            refine s_q (q_move rfl) rfl ?_
            refine s_qg (q_field rfl) rfl rfl rfl ?_
            refine s_qg (q_load rfl rfl) rfl rfl rfl ?_
            refine s_qg (q_move rfl) rfl rfl rfl ?_
            refine s_qg (q_lss rfl rfl) rfl rfl rfl ?_
            refine g_litb 83 (b := false) rfl (by rw [he9]; simp; omega) ?_
            refine s_q (q_pick_f rfl rfl) rfl ?_
            refine s_q (q_move rfl) rfl ?_
            refine s_qg (q_field rfl) rfl rfl rfl ?_
            refine s_qg (q_load rfl rfl) rfl rfl rfl ?_
            refine s_qg (q_move rfl) rfl rfl rfl ?_
            refine s_qg (q_inc rfl rfl (by omega)) rfl rfl rfl ?_
            refine s_qg (q_neq rfl rfl) rfl rfl rfl ?_
            refine g_litb 90 (b := false) rfl (by rw [he9]; simp) ?_
            refine s_q (q_pick_f rfl rfl) rfl ?_
            refine g_nil ?_
            refine g_then ?_
            refine g_false rfl ?_
            refine g_skip ?_
            refine g_then ?_
            refine g_seq ?_
            refine d_regionL (L0 := [Res.blk b14 42 (As.cs (st65.1)[j]), Res.blk b9 34 [Value.slice aR0 nR0 kR0, Value.slice aR1 nR1 kR1]]) [11] mixed rfl rfl wok_sub ?_
            refine d_q 0 rfl (by kernel_rfl) (q_field rfl) wok_sub rfl (ls' := #[true, false, false, false, false, false, false, false, false, false, false, false]) rfl ?_
            refine d_q 1 rfl (by kernel_rfl) (q_load rfl rfl) wok_sub rfl (ls' := #[true, true, false, false, false, false, false, false, false, false, false, false]) rfl ?_
            refine d_q 2 rfl (by kernel_rfl) (q_field rfl) wok_sub rfl (ls' := #[true, true, true, false, false, false, false, false, false, false, false, false]) rfl ?_
            refine d_q 3 rfl (by kernel_rfl) (q_load rfl rfl) wok_sub rfl (ls' := #[true, true, true, true, false, false, false, false, false, false, false, false]) rfl ?_
            refine d_q 4 rfl (by kernel_rfl) (q_index_arr (i := 1) rfl rfl hcc (by decide)) wok_sub rfl (ls' := #[true, true, true, true, true, false, false, false, false, false, false, false]) rfl ?_
            refine d_q 5 rfl (by kernel_rfl) (q_load rfl rfl) wok_sub rfl (ls' := #[true, true, true, true, true, true, false, false, false, false, false, false]) rfl ?_
            refine d_q 6 rfl (by kernel_rfl) (q_field rfl) wok_sub rfl (ls' := #[true, true, true, true, true, true, true, false, false, false, false, false]) rfl ?_
            refine d_q 7 rfl (by kernel_rfl) (q_load rfl rfl) wok_sub rfl (ls' := #[true, true, true, true, true, true, true, true, false, false, false, false]) rfl ?_
            refine d_op 8 rfl (by kernel_rfl) (ls' := #[true, true, true, true, true, true, true, true, true, false, false, false]) rfl wok_sub (g_lit rfl rfl rfl rfl rfl fun b100 => ?_)
            refine g_blkc (b := b100) ((([((st65.1)[j]).i] : List Int).map (fun v : Int => [Value.int .i64 v])).flatten) rfl ?_
            refine d_op 9 rfl (by kernel_rfl) (ls' := #[true, true, true, true, true, true, true, true, true, true, false, false]) rfl wok_sub (g_append (A := aR1) (els := (R1).map (fun v : Int => [Value.int .i64 v])) (news := (([((st65.1)[j]).i] : List Int).map (fun v : Int => [Value.int .i64 v]))) rfl rfl (InL.rdb (b := b100) rfl (by simp) rfl) (map_one (c := (fun v : Int => [Value.int .i64 v])) (by intro x; simp [Value.oneCell']) _) (by first | omega | (simp; omega) | (simp_all; omega)) rfl fun A101 cap101 => ⟨_, inferInstance, ?_⟩)
            refine g_rowels (A := A101) (((R1 ++ [((st65.1)[j]).i])).map (fun v : Int => [Value.int .i64 v])) (by first | rfl | exact List.map_append.symm | (simp; done)) ?_
            refine d_q 10 rfl (by kernel_rfl) (q_index_arr (i := 1) rfl rfl hcc (by decide)) wok_sub rfl (ls' := #[true, true, true, true, true, true, true, true, true, true, true, false]) rfl ?_
            refine d_op 11 rfl (by kernel_rfl) (ls' := #[true, true, true, true, true, true, true, true, true, true, true, true]) rfl wok_sub (g_store rfl rfl rfl rfl rfl rfl rfl ?_)
            refine g_blkc (b := b9) [Value.slice aR0 (nR0) kR0, Value.slice A101 ((nR1 + 1)) cap101] (by simp [splice]) ?_
            refine d_end (by kernel_rfl) (.inl rfl) ?_
            refine g_then ?_
            refine g_region ?_
            refine s_q (q_field rfl) rfl ?_
            refine s_q (q_load rfl rfl) rfl ?_
            refine g_val 104 (v' := .int .i64 ((k + 1 : Nat) : Int)) rfl (by rw [he9]; simp) ?_
            refine s_q (q_assign rfl) rfl ?_
            refine g_nil ?_
            refine g_blk_n ?_
            refine g_then ?_
            refine g_region ?_
            refine s_q (q_inc rfl rfl (by omega)) rfl ?_
            refine s_q (q_move rfl) rfl ?_
            refine g_nil ?_
            exact g_again ((j + 1), ((k + 1 : Nat) : Int), R0, aR0, nR0, kR0, (R1 ++ [((st65.1)[j]).i]), A101, (nR1 + 1), cap101) (by (try dsimp only); exact ⟨(by first | exact lt_j | omega), (by rw [cls_take lt_j, cls_oth (by rw [hcc]; decide), List.append_nil]; exact hR0), (by rw [cls_take lt_j, cls_one hcc, ← List.append_assoc, ← hR1]), hnR0, (by simp only [List.length_append, List.length_cons, List.length_nil]; omega), (by first | omega | (simp; omega)), (by first | omega | (simp only [List.length_append, List.length_cons, List.length_nil]; omega)), (by omega)⟩) (by first | omega | (simp only; omega)) (by repeat (first | exact trivial | refine ⟨rfl, ?_⟩)) wok_sub
        · have eq_j : j = st65.1.length := by have h9 := of_decide_eq_false h4; omega
          refine g_exit ?_
          refine g_then_x (g_then_x (g_blk_hit ?_))
          refine g_blk_n ?_
          refine g_then ?_
          refine g_region ?_
          refine s_q (q_inc rfl rfl (by omega)) rfl ?_
          refine s_q (q_move rfl) rfl ?_
          refine g_nil ?_
          exact g_again ((k + 1), g65, gg65, A46, c46, AA46, cc46, st65.2.1, pv46, st65.2.2, la2, (P0 ++ l[k].f), A51, (nP0 + l[k].f.length), cap51, (P1 ++ l[k].v), A57, (nP1 + l[k].v.length), cap57, R0, aR0, nR0, kR0, R1, aR1, nR1, kR1) (by (try dsimp only); exact ⟨(by first | exact lt_k | omega), r65, rr65, s65, ss65, u46, uu46, hq46, hq65, hmo, (by rw [eq_j, List.take_length] at hR0; rw [hR0]; exact hON.1), (by rw [eq_j, List.take_length] at hR1; rw [hR1]; exact hON.2), (by simp only [List.length_append]; omega), (by simp only [List.length_append]; omega), hnR0, hnR1, (by omega), (by simp only [List.length_append]; omega), (by simp only [List.length_append]; omega), (by omega)⟩) (by first | omega | (simp only; omega)) (by repeat (first | exact trivial | refine ⟨rfl, ?_⟩)) wok_sub
      · have eq_k : k = l.length := by have h9 := of_decide_eq_false h3; omega
        have hk40 := hf2.1
        subst hnP0 hnP1 hnQ0 hnQ1
        refine g_exit ?_
        refine g_then_x (g_then_x (g_blk_hit ?_))
        refine g_then ?_
        refine g_seq ?_
        refine g_seq ?_
        refine g_region ?_
        refine s_q (q_move rfl) rfl ?_
        refine g_nil ?_
        refine g_then ?_
        refine g_block ?_
        refine g_loopk [4, 8, 9] (fun (x : Nat) => [(107, .int .i64 ((x : Nat) : Int))]) (fun (x : Nat) => [Res.blk b8 34 [Value.slice aP0 P0.length kP0, Value.slice aP1 P1.length kP1], Res.row aP0 P0.length kP0 3 1 ((P0).map (fun v : Int => [Value.int .i64 v])), Res.row aP1 P1.length kP1 3 1 ((P1).map (fun v : Int => [Value.int .i64 v])), Res.blk b9 34 [Value.slice aQ0 Q0.length kQ0, Value.slice aQ1 Q1.length kQ1], Res.row aQ0 Q0.length kQ0 3 1 ((Q0).map (fun v : Int => [Value.int .i64 v])), Res.row aQ1 Q1.length kQ1 3 1 ((Q1).map (fun v : Int => [Value.int .i64 v]))]) (fun (x : Nat) => x ≤ 2) (fun (x : Nat) => 2 - x) 0 (by (try dsimp only); exact Nat.zero_le _) rfl (by repeat (first | exact trivial | refine ⟨rfl, ?_⟩)) wok_sub ?_
        rintro cc le_cc
        replace le_cc : cc ≤ 2 := le_cc
        refine g_seq ?_
        refine g_region ?_
        refine s_q (q_lss rfl rfl) rfl ?_
        refine g_nil ?_
        refine g_then ?_
        refine g_seq ?_
        refine g_cond rfl (fun h5 => ?_) (fun h5 => ?_)
        · have lt_cc : cc < 2 := by have h9 := of_decide_eq_true h5; omega
          refine g_skip ?_
          refine g_then ?_
          refine g_seq ?_
          refine g_block ?_
          refine g_seq ?_
          refine g_region ?_
          refine s_q (q_move rfl) rfl ?_
          refine s_q (q_assign rfl) rfl ?_
          refine g_nil ?_
          refine g_then ?_
          refine g_seq ?_
          rcases (show cc = 0 ∨ cc = 1 by omega) with hc2 | hc2
          · refine g_val 15 (v' := .int .i64 0) rfl (by rw [hc2]; rfl) ?_
            refine g_region ?_
            refine s_q (q_move rfl) rfl ?_
            refine s_q (q_index_arr (i := 0) rfl rfl rfl (by first | decide | omega)) rfl ?_
            refine s_q (q_load rfl rfl) rfl ?_
            refine s_q (q_len rfl) rfl ?_
            refine s_q (q_assign rfl) rfl ?_
            refine g_nil ?_
            refine g_then ?_
            refine g_seq ?_
            refine g_seq ?_
            refine g_region ?_
            refine s_q (q_move rfl) rfl ?_
            refine s_q (q_index_arr (i := 0) rfl rfl rfl (by first | decide | omega)) rfl ?_
            refine s_q (q_load rfl rfl) rfl ?_
            refine s_q (q_len rfl) rfl ?_
            refine g_rowfact aP0 fun hcp0 _ _ => ?_
            refine g_rowfact aP1 fun hcp1 _ _ => ?_
            refine s_q (q_gtr rfl rfl) rfl ?_
            refine g_nil ?_
            refine g_then ?_
            refine g_cond rfl (fun h6 => ?_) (fun h6 => ?_)
            · refine g_seq ?_
              refine g_region ?_
              refine g_op (g_pure rfl (fun w1 hw1 => alive_any w1) rfl ?_)
              refine s_q (q_assign rfl) rfl ?_
              refine g_nil ?_
              refine g_then ?_
              refine g_ret ?_
              refine g_then_ret (g_blk_ret (g_then_ret (g_then_ret (g_blk_ret (g_then_ret ?_)))))
              exact fin1 rfl (.tmp rfl) (fun w' hw' => ⟨by first | rfl | (simp_all; done) | (simp_all; omega), hw'.upd⟩) _ (.inl rfl)
            · have h5 := of_decide_eq_false h6
              have hq0 : P0.length ≤ 500 → Q0.length ≤ P0.length ∧ Q0 = P0.take Q0.length := fun h => ord_end (hP0 h)
              have hq1 : P1.length ≤ 500 → Q1.length ≤ P1.length ∧ Q1 = P1.take Q1.length := fun h => ord_end (hP1 h)
              refine g_skip ?_
              refine g_then ?_
              refine g_seq ?_
              refine d_region [] mixed rfl rfl ?_
              refine d_q 0 rfl (by kernel_rfl) (q_move rfl) wok_sub rfl (ls' := #[true, false, false, false, false, false, false, false, false, false, false, false, false, false, false, false, false, false]) rfl ?_
              refine d_q 1 rfl (by kernel_rfl) (q_move rfl) wok_sub rfl (ls' := #[true, true, false, false, false, false, false, false, false, false, false, false, false, false, false, false, false, false]) rfl ?_
              refine d_q 2 rfl (by kernel_rfl) (q_index_arr (i := 0) rfl rfl rfl (by first | decide | omega)) wok_sub rfl (ls' := #[true, true, true, false, false, false, false, false, false, false, false, false, false, false, false, false, false, false]) rfl ?_
              refine d_q 3 rfl (by kernel_rfl) (q_load rfl rfl) wok_sub rfl (ls' := #[true, true, true, true, false, false, false, false, false, false, false, false, false, false, false, false, false, false]) rfl ?_
              refine d_q 4 rfl (by kernel_rfl) (q_len rfl) wok_sub rfl (ls' := #[true, true, true, true, true, false, false, false, false, false, false, false, false, false, false, false, false, false]) rfl ?_
              refine d_q 5 rfl (by kernel_rfl) (q_gtr rfl rfl) wok_sub rfl (ls' := #[true, true, true, true, true, true, false, false, false, false, false, false, false, false, false, false, false, false]) rfl ?_
              refine g_litb 125 (b := false) rfl (by have h7 := hq0 (by omega); exact decide_eq_false (by omega)) ?_
              refine d_q 6 rfl (by kernel_rfl) (q_move rfl) wok_sub rfl (ls' := #[true, true, true, true, true, true, true, false, false, false, false, false, false, false, false, false, false, false]) rfl ?_
              refine d_qg 7 rfl (by kernel_rfl) (q_move rfl) rfl rfl wok_sub rfl (ls' := #[true, true, true, true, true, true, true, true, false, false, false, false, false, false, false, false, false, false]) rfl ?_
              refine d_qg 8 rfl (by kernel_rfl) (q_index_arr (i := 0) rfl rfl rfl (by first | decide | omega)) rfl rfl wok_sub rfl (ls' := #[true, true, true, true, true, true, true, true, true, false, false, false, false, false, false, false, false, false]) rfl ?_
              refine d_qg 9 rfl (by kernel_rfl) (q_load rfl rfl) rfl rfl wok_sub rfl (ls' := #[true, true, true, true, true, true, true, true, true, true, false, false, false, false, false, false, false, false]) rfl ?_
              refine d_qg 10 rfl (by kernel_rfl) (q_move rfl) rfl rfl wok_sub rfl (ls' := #[true, true, true, true, true, true, true, true, true, true, true, false, false, false, false, false, false, false]) rfl ?_
              refine d_qg 11 rfl (by kernel_rfl) (q_index_arr (i := 0) rfl rfl rfl (by first | decide | omega)) rfl rfl wok_sub rfl (ls' := #[true, true, true, true, true, true, true, true, true, true, true, true, false, false, false, false, false, false]) rfl ?_
              refine d_qg 12 rfl (by kernel_rfl) (q_load rfl rfl) rfl rfl wok_sub rfl (ls' := #[true, true, true, true, true, true, true, true, true, true, true, true, true, false, false, false, false, false]) rfl ?_
              refine d_qg 13 rfl (by kernel_rfl) (q_move rfl) rfl rfl wok_sub rfl (ls' := #[true, true, true, true, true, true, true, true, true, true, true, true, true, true, false, false, false, false]) rfl ?_
              refine d_qg 14 rfl (by kernel_rfl) (q_slice_h (h := Q0.length) rfl rfl rfl (by omega)) rfl rfl wok_sub rfl (ls' := #[true, true, true, true, true, true, true, true, true, true, true, true, true, true, true, false, false, false]) rfl ?_
              refine d_opg 15 rfl (by kernel_rfl) (ls' := #[true, true, true, true, true, true, true, true, true, true, true, true, true, true, true, true, false, false]) rfl rfl rfl wok_sub (g_pure rfl (fun w1 hw1 => equal_i aQ0 (subA aP0 kP0 0 1) _ _ _ _ (Q0) ((P0.take Q0.length)) w1 (Rdb.toOld (InRow.rdb (A := aQ0) (els := (Q0).map (fun v : Int => [Value.int .i64 v])) (by first | rfl | assumption | (simp; done) | (simp_all; done) | (simp; omega) | (simp_all; omega)) (map_cat (c := (fun v : Int => [Value.int .i64 v])) (fun _ => rfl) _)) hw1) (Rdb.toOld (rdb_take (A := aP0) (l := P0) (InRow.rdb (by simp) (map_cat (c := (fun v : Int => [Value.int .i64 v])) (fun _ => rfl) _)) (by have h7 := hq0 (by omega); omega) (by omega)) hw1) (row_max (A := aQ0) hw1)) rfl ?_)
              refine g_litb 135 (b := true) rfl (by have h7 := hq0 (by omega); exact decide_eq_true h7.2) ?_
              refine d_qg 16 rfl (by kernel_rfl) (q_not rfl) rfl rfl wok_sub rfl (ls' := #[true, true, true, true, true, true, true, true, true, true, true, true, true, true, true, true, true, false]) rfl ?_
              refine d_q 17 rfl (by kernel_rfl) (q_pick_f rfl rfl) wok_sub rfl (ls' := #[true, true, true, true, true, true, true, true, true, true, true, true, true, true, true, true, true, true]) rfl ?_
              refine d_end (by kernel_rfl) (.inr wok_sub) ?_
              refine g_then ?_
              refine g_false rfl ?_
              refine g_skip ?_
              refine g_blk_n ?_
              refine g_then ?_
              refine g_region ?_
              refine s_q (q_inc rfl rfl (by omega)) rfl ?_
              refine s_q (q_move rfl) rfl ?_
              refine g_nil ?_
              exact g_again (cc + 1) (by (try dsimp only); exact (by first | exact lt_cc | omega)) (by first | omega | (simp only; omega)) (by repeat (first | exact trivial | refine ⟨rfl, ?_⟩)) wok_sub
          · refine g_val 15 (v' := .int .i64 1) rfl (by rw [hc2]; rfl) ?_
            refine g_region ?_
            refine s_q (q_move rfl) rfl ?_
            refine s_q (q_index_arr (i := 1) rfl rfl rfl (by first | decide | omega)) rfl ?_
            refine s_q (q_load rfl rfl) rfl ?_
            refine s_q (q_len rfl) rfl ?_
            refine s_q (q_assign rfl) rfl ?_
            refine g_nil ?_
            refine g_then ?_
            refine g_seq ?_
            refine g_seq ?_
            refine g_region ?_
            refine s_q (q_move rfl) rfl ?_
            refine s_q (q_index_arr (i := 1) rfl rfl rfl (by first | decide | omega)) rfl ?_
            refine s_q (q_load rfl rfl) rfl ?_
            refine s_q (q_len rfl) rfl ?_
            refine g_rowfact aP0 fun hcp0 _ _ => ?_
            refine g_rowfact aP1 fun hcp1 _ _ => ?_
            refine s_q (q_gtr rfl rfl) rfl ?_
            refine g_nil ?_
            refine g_then ?_
            refine g_cond rfl (fun h7 => ?_) (fun h7 => ?_)
            · refine g_seq ?_
              refine g_region ?_
              refine g_op (g_pure rfl (fun w1 hw1 => alive_any w1) rfl ?_)
              refine s_q (q_assign rfl) rfl ?_
              refine g_nil ?_
              refine g_then ?_
              refine g_ret ?_
              refine g_then_ret (g_blk_ret (g_then_ret (g_then_ret (g_blk_ret (g_then_ret ?_)))))
              exact fin1 rfl (.tmp rfl) (fun w' hw' => ⟨by first | rfl | (simp_all; done) | (simp_all; omega), hw'.upd⟩) _ (.inl rfl)
            · have h5 := of_decide_eq_false h7
              have hq0 : P0.length ≤ 500 → Q0.length ≤ P0.length ∧ Q0 = P0.take Q0.length := fun h => ord_end (hP0 h)
              have hq1 : P1.length ≤ 500 → Q1.length ≤ P1.length ∧ Q1 = P1.take Q1.length := fun h => ord_end (hP1 h)
              refine g_skip ?_
              refine g_then ?_
              refine g_seq ?_
              refine d_region [] mixed rfl rfl ?_
              refine d_q 0 rfl (by kernel_rfl) (q_move rfl) wok_sub rfl (ls' := #[true, false, false, false, false, false, false, false, false, false, false, false, false, false, false, false, false, false]) rfl ?_
              refine d_q 1 rfl (by kernel_rfl) (q_move rfl) wok_sub rfl (ls' := #[true, true, false, false, false, false, false, false, false, false, false, false, false, false, false, false, false, false]) rfl ?_
              refine d_q 2 rfl (by kernel_rfl) (q_index_arr (i := 1) rfl rfl rfl (by first | decide | omega)) wok_sub rfl (ls' := #[true, true, true, false, false, false, false, false, false, false, false, false, false, false, false, false, false, false]) rfl ?_
              refine d_q 3 rfl (by kernel_rfl) (q_load rfl rfl) wok_sub rfl (ls' := #[true, true, true, true, false, false, false, false, false, false, false, false, false, false, false, false, false, false]) rfl ?_
              refine d_q 4 rfl (by kernel_rfl) (q_len rfl) wok_sub rfl (ls' := #[true, true, true, true, true, false, false, false, false, false, false, false, false, false, false, false, false, false]) rfl ?_
              refine d_q 5 rfl (by kernel_rfl) (q_gtr rfl rfl) wok_sub rfl (ls' := #[true, true, true, true, true, true, false, false, false, false, false, false, false, false, false, false, false, false]) rfl ?_
              refine g_litb 125 (b := false) rfl (by have h7 := hq1 (by omega); exact decide_eq_false (by omega)) ?_
              refine d_q 6 rfl (by kernel_rfl) (q_move rfl) wok_sub rfl (ls' := #[true, true, true, true, true, true, true, false, false, false, false, false, false, false, false, false, false, false]) rfl ?_
              refine d_qg 7 rfl (by kernel_rfl) (q_move rfl) rfl rfl wok_sub rfl (ls' := #[true, true, true, true, true, true, true, true, false, false, false, false, false, false, false, false, false, false]) rfl ?_
              refine d_qg 8 rfl (by kernel_rfl) (q_index_arr (i := 1) rfl rfl rfl (by first | decide | omega)) rfl rfl wok_sub rfl (ls' := #[true, true, true, true, true, true, true, true, true, false, false, false, false, false, false, false, false, false]) rfl ?_
              refine d_qg 9 rfl (by kernel_rfl) (q_load rfl rfl) rfl rfl wok_sub rfl (ls' := #[true, true, true, true, true, true, true, true, true, true, false, false, false, false, false, false, false, false]) rfl ?_
              refine d_qg 10 rfl (by kernel_rfl) (q_move rfl) rfl rfl wok_sub rfl (ls' := #[true, true, true, true, true, true, true, true, true, true, true, false, false, false, false, false, false, false]) rfl ?_
              refine d_qg 11 rfl (by kernel_rfl) (q_index_arr (i := 1) rfl rfl rfl (by first | decide | omega)) rfl rfl wok_sub rfl (ls' := #[true, true, true, true, true, true, true, true, true, true, true, true, false, false, false, false, false, false]) rfl ?_
              refine d_qg 12 rfl (by kernel_rfl) (q_load rfl rfl) rfl rfl wok_sub rfl (ls' := #[true, true, true, true, true, true, true, true, true, true, true, true, true, false, false, false, false, false]) rfl ?_
              refine d_qg 13 rfl (by kernel_rfl) (q_move rfl) rfl rfl wok_sub rfl (ls' := #[true, true, true, true, true, true, true, true, true, true, true, true, true, true, false, false, false, false]) rfl ?_
              refine d_qg 14 rfl (by kernel_rfl) (q_slice_h (h := Q1.length) rfl rfl rfl (by omega)) rfl rfl wok_sub rfl (ls' := #[true, true, true, true, true, true, true, true, true, true, true, true, true, true, true, false, false, false]) rfl ?_
              refine d_opg 15 rfl (by kernel_rfl) (ls' := #[true, true, true, true, true, true, true, true, true, true, true, true, true, true, true, true, false, false]) rfl rfl rfl wok_sub (g_pure rfl (fun w1 hw1 => equal_i aQ1 (subA aP1 kP1 0 1) _ _ _ _ (Q1) ((P1.take Q1.length)) w1 (Rdb.toOld (InRow.rdb (A := aQ1) (els := (Q1).map (fun v : Int => [Value.int .i64 v])) (by first | rfl | assumption | (simp; done) | (simp_all; done) | (simp; omega) | (simp_all; omega)) (map_cat (c := (fun v : Int => [Value.int .i64 v])) (fun _ => rfl) _)) hw1) (Rdb.toOld (rdb_take (A := aP1) (l := P1) (InRow.rdb (by simp) (map_cat (c := (fun v : Int => [Value.int .i64 v])) (fun _ => rfl) _)) (by have h7 := hq1 (by omega); omega) (by omega)) hw1) (row_max (A := aQ1) hw1)) rfl ?_)
              refine g_litb 135 (b := true) rfl (by have h7 := hq1 (by omega); exact decide_eq_true h7.2) ?_
              refine d_qg 16 rfl (by kernel_rfl) (q_not rfl) rfl rfl wok_sub rfl (ls' := #[true, true, true, true, true, true, true, true, true, true, true, true, true, true, true, true, true, false]) rfl ?_
              refine d_q 17 rfl (by kernel_rfl) (q_pick_f rfl rfl) wok_sub rfl (ls' := #[true, true, true, true, true, true, true, true, true, true, true, true, true, true, true, true, true, true]) rfl ?_
              refine d_end (by kernel_rfl) (.inr wok_sub) ?_
              refine g_then ?_
              refine g_false rfl ?_
              refine g_skip ?_
              refine g_blk_n ?_
              refine g_then ?_
              refine g_region ?_
              refine s_q (q_inc rfl rfl (by omega)) rfl ?_
              refine s_q (q_move rfl) rfl ?_
              refine g_nil ?_
              exact g_again (cc + 1) (by (try dsimp only); exact (by first | exact lt_cc | omega)) (by first | omega | (simp only; omega)) (by repeat (first | exact trivial | refine ⟨rfl, ?_⟩)) wok_sub
        · have eq_cc : cc = 2 := by have h9 := of_decide_eq_false h5; omega
          refine g_exit ?_
          refine g_then_x (g_then_x (g_blk_hit ?_))
          refine g_then ?_
          refine g_seq ?_
          refine g_region ?_
          refine g_op (g_pure rfl (fun w1 hw1 => alive_any w1) rfl ?_)
          refine s_q (q_assign rfl) rfl ?_
          refine g_nil ?_
          refine g_then ?_
          refine g_ret ?_
          exact fin1 rfl (.tmp rfl) (fun w' hw' => ⟨by first | rfl | (simp_all; done) | (simp_all; omega), hw'.upd⟩) _ (.inl rfl)

theorem main_assignOrder (v0 : Value) (v1 : Value) (W : World) (a0 : Arg Try.prog W 22 v0) (a1 : Arg Try.prog W 23 v1) : Pur Try.prog 3 [v0, v1] W (.bool true) := by
  obtain ⟨A_l, c_l, l, rfl, hle0, hm0, o_l, k_l⟩ := Arg.slice Ro.c (fun x : Ro => x.ok W) Try.underlying22 (show Try.prog.cellsOf 37 = 3 by kernel_rfl) (by omega) (openRo) a0
  have h_l : l.length ≤ c_l ∧ c_l ≤ 9223372036854775807 := ⟨hle0, by unfold maxLen at hm0; omega⟩
  obtain ⟨A_ws, c_ws, ws, rfl, hle1, hm1, o_ws, k_ws⟩ := Arg.slice (fun v : Int => [Value.int .u64 v]) (fun x : Int => 0 ≤ x ∧ x ≤ 18446744073709551615) Try.underlying23 (show Try.prog.cellsOf 35 = 1 by kernel_rfl) (by omega) (fun f cs h => OKc.int Try.underlying35 h) a1
  have h_ws : ws.length ≤ c_ws ∧ c_ws ≤ 9223372036854775807 := ⟨hle1, by unfold maxLen at hm1; omega⟩
  exact law_assignOrder A_l c_l l A_ws c_ws ws W o_l h_l k_l o_ws h_ws k_ws

namespace LawAssignOrder
open Go.ChangeShapes Go.WideShapes Go.ChangeAt Go.RowKit Go.Eg
set_option linter.unusedVariables false
theorem own : ownKnob Try.prog.godebug = none := by kernel_rfl
theorem laidOut : laidOutB Try.prog = true := by kernel_rfl
set_option maxRecDepth 100000 in
theorem lifted (os : Os) (started : os.Started) (H : Type) (enc : TypeId × Value → H) :
    ReturnsInHanded {} Try.checked os 3 .any (Rows.assignOrderSpec.pre6 enc Try.prog Try.f3 Rows.assignOrderRow.domain false) (Rows.assignOrderSpec.post enc Try.prog Try.f3 false true false false) := by
  refine returnsInHanded_of_change (C := Try.checked) own started (by kernel_rfl) Try.func3
    (ChangeSpec.witness6 (enc := enc) (C := Try.checked) false ⟨#[], #[.slice none 0 0, .slice none 0 0], []⟩ 8 (by kernel_rfl) (by kernel_rfl) (by kernel_rfl) (by kernel_rfl)) ?_
  intro W base args ds gs before hval0 hW hcnd _
  have hval : ∀ (j : Nat) t v, Try.f3.params[j]? = some t → args[j]? = some v → Value.okWide Try.prog W .any base t v := hval0
  have hW' := hW
  obtain ⟨p, q, hA0, hV, rfl, hfz, hnd⟩ := hW
  have hA : DataW.TrodAll enc Try.prog W 0 (fun _ => true) true Try.f3.params.toList args.toList ds p := hA0
  rw [Try.params3] at hA hval
  obtain ⟨v0, vs0, d0, ds0, p0, q0, hargs, rfl, rfl, h0, r0⟩ := trodAll_cons hA
  obtain ⟨v1, vs1, d1, ds1, p1, q1, rfl, rfl, rfl, h1, r1⟩ := trodAll_cons r0
  obtain ⟨rfl, rfl, rfl⟩ := trodAll_nil r1
  obtain rfl : args = #[v0, v1] := by cases args; simp_all
  obtain ⟨rfl, rfl⟩ := trodVars_none hV
  have a0 := Arg.of h0 (hval 0 22 v0 rfl rfl)
  have lt0 : ∀ x ∈ p0, x.block < W.heap.size := by obtain ⟨m, hm⟩ := h0; exact DataW.trod_lt m _ _ _ hm
  have a1 := Arg.of h1 (hval 1 23 v1 rfl rfl)
  have lt1 : ∀ x ∈ p1, x.block < W.heap.size := by obtain ⟨m, hm⟩ := h1; exact DataW.trod_lt m _ _ _ hm
  clear hA0 hval0
  simp only [List.append_nil] at hW'
  refine Calls.mono (main_assignOrder v0 v1 W a0 a1) ?_
  rintro e W' ⟨v, rfl, rfl, hu⟩
  have bel := hu.below
  have targ := (trodAll_cons_mk (Below.trod laidOut (by kernel_rfl) (of_decide_eq_true (by kernel_rfl)) h0 bel lt0) (trodAll_cons_mk (Below.trod laidOut (by kernel_rfl) (of_decide_eq_true (by kernel_rfl)) h1 bel lt1) trodAll_mk0))
  simp only [List.append_nil] at targ
  exact ⟨_, rfl, _, _, _, [], _, [], hW', trodAll_mk1 (shut_bool Try.underlying4 _), targ, rfl, bel.frame _, fun h => by cases h⟩
theorem over : Rows.assignOrderRow.holds Try.pinned (OpenSpec.ofChange Rows.assignOrderSpec) :=
  OpenClaim.holds_of_wide 3 Try.f3 rfl rfl rfl rfl rfl rfl rfl ⟨rfl, rfl, rfl, rfl, rfl⟩ rfl rfl rfl rfl rfl (by kernel_rfl) Try.func3 (by kernel_rfl)
    (of_decide_eq_true (by kernel_rfl)) (by unfold Func.isWrapper; first | (rw [if_pos (by decide +kernel)]; kernel_rfl) | (rw [if_neg (by decide +kernel)]; exact ⟨rfl, rfl⟩))
    (fun os started H enc _ => lifted os started H enc)
theorem proved : Rows.AssignOrderSaid := over
end LawAssignOrder
end Go.Proofs.Ytmolaicpbaiioaa
