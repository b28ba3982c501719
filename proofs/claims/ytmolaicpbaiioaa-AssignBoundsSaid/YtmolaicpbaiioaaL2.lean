/- AssignBounds: for every list of rounds and weights the law returns true. No condition. -/
import Derived.Test.YtmolaicpbaiioaaWB
namespace Go.Proofs.Ytmolaicpbaiioaa
open Go.RowKit Go.Eg
set_option synthInstance.maxSize 3000
set_option linter.unusedSimpArgs false
set_option linter.unusedVariables false
set_option maxRecDepth 100000
set_option maxHeartbeats 400000 in
theorem law_assignBounds (A_l : Option Addr) (c_l : Nat) (l : List Ro) (A_ws : Option Addr) (c_ws : Nat) (ws : List Int) (w : World) (o_l : Old w A_l l.length 3 (l.map Ro.c)) (h_l : l.length ≤ c_l ∧ c_l ≤ 9223372036854775807) (k_l : ∀ x ∈ l, (fun x : Ro => x.ok w) x) (o_ws : Old w A_ws ws.length 1 (ws.map (fun v : Int => [Value.int .u64 v]))) (h_ws : ws.length ≤ c_ws ∧ c_ws ≤ 9223372036854775807) (k_ws : ∀ x ∈ ws, (fun x : Int => 0 ≤ x ∧ x ≤ 18446744073709551615) x) : Pur Try.prog 6 [.slice A_l l.length c_l, .slice A_ws ws.length c_ws] w (.bool true) := by
  refine g_start Try.func6 rfl 112 rfl (by simp) ([]) [] (WOK.start _ _) _ rfl ?_
  refine g_seq ?_
  refine g_region ?_
  refine s_q (q_assign rfl) rfl ?_
  refine g_nil ?_
  refine g_then ?_
  refine g_seq ?_
  refine g_seq ?_
  refine g_region ?_
  refine s_q (q_move rfl) rfl ?_
  refine g_op (g_pure rfl (fun w1 hw1 => few_any A_l c_l l w1 (Rdb.toOld (o_l.rdb rfl) hw1) (by omega)) rfl ?_)
  refine s_q (q_not rfl) rfl ?_
  refine s_q (q_move rfl) rfl ?_
  refine g_split 20 rfl (fun h1 => ?_) (fun h1 => ?_)
  · refine g_gf rfl rfl rfl rfl ?_
    refine g_gf rfl rfl rfl rfl ?_
    refine g_gf rfl rfl rfl rfl ?_
    refine s_q (q_pick_t rfl rfl) rfl ?_
    refine g_nil ?_
    refine g_then ?_
    refine g_true rfl ?_
    refine g_seq ?_
    refine g_region ?_
    refine g_op (g_pure rfl (fun w1 hw1 => alive_any w1) rfl ?_)
    refine s_q (q_assign rfl) rfl ?_
    refine g_nil ?_
    refine g_then ?_
    refine g_ret ?_
    refine g_then_ret ?_
    exact fin1 rfl (.tmp rfl) (fun w' hw' => ⟨by first | rfl | (simp_all; done) | (simp_all; omega), hw'.upd⟩) _ (.inl rfl)
  · have hfew : fewB l = true := by simpa using h1
    have hf2 := of_decide_eq_true hfew
    refine s_qg (q_move rfl) rfl rfl rfl ?_
    refine s_qg (q_len rfl) rfl rfl rfl ?_
    refine s_qg (q_gtr rfl rfl) rfl rfl rfl ?_
    refine s_q (q_pick_f rfl rfl) rfl ?_
    refine g_nil ?_
    refine g_then ?_
    refine g_cond rfl (fun h2 => ?_) (fun h2 => ?_)
    · refine g_seq ?_
      refine g_region ?_
      refine g_op (g_pure rfl (fun w1 hw1 => alive_any w1) rfl ?_)
      refine s_q (q_assign rfl) rfl ?_
      refine g_nil ?_
      refine g_then ?_
      refine g_ret ?_
      refine g_then_ret ?_
      exact fin1 rfl (.tmp rfl) (fun w' hw' => ⟨by first | rfl | (simp_all; done) | (simp_all; omega), hw'.upd⟩) _ (.inl rfl)
    · have hws : ws.length ≤ 100 := by have h9 := of_decide_eq_false h2; omega
      refine g_skip ?_
      refine g_then ?_
      refine g_seq ?_
      refine g_region ?_
      refine g_op (g_ownS [] rfl (fun w1 hw1 ho1 => by have h7 := lnew_any (8) w1 (by omega); exact h7) rfl ?_)
      rintro ⟨b26, ba26, bb26, g26, gg26⟩ ⟨r26, s26, rr26, ss26⟩
      refine ⟨_, _, inferInstance, inferInstance, ?_⟩
      simp only at r26 s26 rr26 ss26
      refine g_op (g_ownS [] rfl (fun w1 hw1 ho1 => by have h7 := mnew_any w1; exact h7) rfl ?_)
      rintro mb27 _
      refine ⟨_, _, inferInstance, inferInstance, ?_⟩
      refine s_q (q_assign rfl) rfl ?_
      refine s_q (q_assign rfl) rfl ?_
      refine g_nil ?_
      refine g_then ?_
      refine g_seq ?_
      refine g_seq ?_
      refine g_region ?_
      refine s_q (q_move rfl) rfl ?_
      refine s_q (q_eqp (b := false) rfl rfl rfl) rfl ?_
      refine s_q (q_move rfl) rfl ?_
      refine s_qg (q_move rfl) rfl rfl rfl ?_
      refine s_qg (q_eqp (b := false) rfl rfl rfl) rfl rfl rfl ?_
      refine s_q (q_pick_f rfl rfl) rfl ?_
      refine g_nil ?_
      refine g_then ?_
      refine g_false rfl ?_
      refine g_skip ?_
      refine g_then ?_
      refine g_seq ?_
      refine g_region ?_
      refine s_q (q_build (c := [Value.slice none ((LL.mk [] [])).f.length 0, Value.slice none ((LL.mk [] [])).v.length 0, Value.int .i64 ((8 : Nat) : Int)]) rfl rfl) rfl ?_
      refine g_op (g_box (c := [Value.slice none ((LL.mk [] [])).f.length 0, Value.slice none ((LL.mk [] [])).v.length 0, Value.int .i64 ((8 : Nat) : Int)]) rfl rfl rfl fun b35 => ?_)
      refine g_roNil none 1 ?_
      refine g_roEq (A := none) (n := 0) (els := []) ((LL.mk [] [])).v.length (((LL.mk [] [])).v.map (fun v : Int => [Value.int .i64 v])) rfl rfl ?_
      refine g_roNil none 1 ?_
      refine g_roEq (A := none) (n := 0) (els := []) ((LL.mk [] [])).f.length (((LL.mk [] [])).f.map (fun v : Int => [Value.int .i64 v])) rfl rfl ?_
      refine s_q (q_assign rfl) rfl ?_
      refine g_nil ?_
      refine g_then ?_
      refine g_seq ?_
      refine g_seq ?_
      refine g_region ?_
      refine s_q (q_move rfl) rfl ?_
      refine s_q (q_len rfl) rfl ?_
      refine s_q (q_move rfl) rfl ?_
      refine g_nil ?_
      refine g_then ?_
      refine g_block ?_
      refine g_loopk [1, 4, 5, 6, 7, 36, 37] (fun (x : Nat × Rg × Rg × Option Addr × Nat × Option Addr × Nat × LL × LL × M) => [(38, .int .i64 ((x.1 : Nat) : Int))]) (fun (x : Nat × Rg × Rg × Option Addr × Nat × Option Addr × Nat × LL × LL × M) => [Res.blk b26 77 [Value.pointer (some ⟨ba26, 0, none⟩), Value.pointer (some ⟨bb26, 0, none⟩)], Res.blk ba26 108 (Rg.c x.2.1), Res.row (Rg.A x.2.1) (Rg.s x.2.1).length (Rg.cap x.2.1) 3 1 (Rg.s x.2.1), Res.blk bb26 108 (Rg.c x.2.2.1), Res.row (Rg.A x.2.2.1) (Rg.s x.2.2.1).length (Rg.cap x.2.2.1) 3 1 (Rg.s x.2.2.1), Res.blk mb27 84 (M.c x.2.2.2.2.2.2.2.2.2), Res.blk b35 33 [Value.slice x.2.2.2.1 (x.2.2.2.2.2.2.2.2.1).f.length x.2.2.2.2.1, Value.slice x.2.2.2.2.2.1 (x.2.2.2.2.2.2.2.2.1).v.length x.2.2.2.2.2.2.1, Value.int .i64 ((8 : Nat) : Int)], Res.ro x.2.2.2.1 (x.2.2.2.2.2.2.2.2.1).f.length 1 ((x.2.2.2.2.2.2.2.2.1).f.map (fun v : Int => [Value.int .i64 v])), Res.ro x.2.2.2.2.2.1 (x.2.2.2.2.2.2.2.2.1).v.length 1 ((x.2.2.2.2.2.2.2.2.1).v.map (fun v : Int => [Value.int .i64 v]))]) (fun (x : Nat × Rg × Rg × Option Addr × Nat × Option Addr × Nat × LL × LL × M) => x.1 ≤ l.length ∧ Rg.Rep x.2.1 1 ((x.2.2.2.2.2.2.2.1).f.map (fun v : Int => [Value.int .i64 v])) ∧ Rg.Rep x.2.2.1 1 ((x.2.2.2.2.2.2.2.1).v.map (fun v : Int => [Value.int .i64 v])) ∧ Rg.size x.2.1 = 8 ∧ Rg.size x.2.2.1 = 8 ∧ (x.2.2.2.2.2.2.2.2.1).f.length ≤ x.2.2.2.2.1 ∧ (x.2.2.2.2.2.2.2.2.1).v.length ≤ x.2.2.2.2.2.2.1 ∧ ((x.2.2.2.2.2.2.2.2.1).f.length ≤ 8 ∧ (x.2.2.2.2.2.2.2.2.1).v.length ≤ 8) ∧ ((x.2.2.2.2.2.2.2.1).f.length ≤ 8 ∧ (x.2.2.2.2.2.2.2.1).v.length ≤ 8) ∧ (x.2.2.2.2.2.2.2.2.2).ok ∧ (x.2.2.2.2.2.2.2.2.2).bal ≤ 1125899906842624 * (x.1 : Int)) (fun (x : Nat × Rg × Rg × Option Addr × Nat × Option Addr × Nat × LL × LL × M) => l.length - x.1) (0, g26, gg26, none, 0, none, 0, (LL.mk [] []), (LL.mk [] []), M0) (by (try dsimp only); exact ⟨Nat.zero_le _, r26, rr26, s26, ss26, (by simp), (by simp), ⟨by simp, by simp⟩, ⟨by simp, by simp⟩, M0_ok, (by decide)⟩) rfl (by repeat (first | exact trivial | refine ⟨rfl, ?_⟩)) wok_sub ?_
      rintro ⟨k, g1, g2, A0, c0, A1, c1, q, v, m⟩ ⟨le_k, h0, hh1, s0, ss1, u0, u1, hq, hl, hmk, hbal⟩
      replace le_k : k ≤ l.length := le_k
      replace h0 : Rg.Rep g1 1 ((q).f.map (fun v : Int => [Value.int .i64 v])) := h0
      replace hh1 : Rg.Rep g2 1 ((q).v.map (fun v : Int => [Value.int .i64 v])) := hh1
      replace s0 : Rg.size g1 = 8 := s0
      replace ss1 : Rg.size g2 = 8 := ss1
      replace u0 : (v).f.length ≤ c0 := u0
      replace u1 : (v).v.length ≤ c1 := u1
      replace hq : (v).f.length ≤ 8 ∧ (v).v.length ≤ 8 := hq
      replace hl : (q).f.length ≤ 8 ∧ (q).v.length ≤ 8 := hl
      replace hmk : (m).ok := hmk
      replace hbal : (m).bal ≤ 1125899906842624 * (k : Int) := hbal
      refine g_setL (L' := [Res.blk b26 77 [Value.pointer (some ⟨ba26, 0, none⟩), Value.pointer (some ⟨bb26, 0, none⟩)], Res.blk ba26 108 (Rg.c g1), Res.row (Rg.A g1) (Rg.s g1).length (Rg.cap g1) 3 1 (Rg.s g1), Res.blk bb26 108 (Rg.c g2), Res.row (Rg.A g2) (Rg.s g2).length (Rg.cap g2) 3 1 (Rg.s g2), Res.blk mb27 84 (M.c m), Res.blk b35 33 [Value.slice A0 (v).f.length c0, Value.slice A1 (v).v.length c1, Value.int .i64 ((8 : Nat) : Int)], Res.ro A0 (v).f.length 1 ((v).f.map (fun v : Int => [Value.int .i64 v])), Res.ro A1 (v).v.length 1 ((v).v.map (fun v : Int => [Value.int .i64 v]))]) rfl ?_
      refine g_val 38 (v' := .int .i64 ((k : Nat) : Int)) rfl rfl ?_
      refine g_seq ?_
      refine g_region ?_
      refine s_q (q_lss rfl rfl) rfl ?_
      refine g_nil ?_
      refine g_then ?_
      refine g_seq ?_
      refine g_cond rfl (fun h3 => ?_) (fun h3 => ?_)
      · have lt_k : k < l.length := by have h9 := of_decide_eq_true h3; omega
        have hO := k_l _ (List.getElem_mem lt_k)
        have hk40 := hf2.1
        have hk20 := hf2.2 _ (List.getElem_mem lt_k)
        have hO5 := hO.lim
        refine g_skip ?_
        refine g_then ?_
        refine g_seq ?_
        refine g_block ?_
        refine g_seq ?_
        refine g_region ?_
        refine s_q (q_move rfl) rfl ?_
        refine s_q (q_index (i := k) rfl rfl rfl (o_l.rdb rfl) (by first | exact lt_k | omega)) rfl ?_
        refine s_q (q_load_ew (i := k) rfl (o_l.rdb rfl) (map_get (by first | assumption | omega)) rfl) rfl ?_
        refine g_op (g_alloc rfl fun b9 => ?_)
        refine s_q (q_assign rfl) rfl ?_
        refine g_op (g_storew rfl rfl rfl rfl rfl ?_)
        refine g_nil ?_
        refine g_then ?_
        refine g_seq ?_
        refine g_seq ?_
        refine g_region ?_
        refine s_q (q_field rfl) rfl ?_
        refine s_q (q_load rfl rfl) rfl ?_
        refine s_q (q_gtr rfl rfl) rfl ?_
        refine g_nil ?_
        refine g_then ?_
        refine g_cond rfl (fun h4 => ?_) (fun h4 => ?_)
        · refine g_seq ?_
          refine g_region ?_
          refine g_op (g_pure rfl (fun w1 hw1 => alive_any w1) rfl ?_)
          refine s_q (q_assign rfl) rfl ?_
          refine g_nil ?_
          refine g_then ?_
          refine g_ret ?_
          refine g_then_ret (g_blk_ret (g_then_ret (g_then_ret (g_blk_ret (g_then_ret ?_)))))
          exact fin1 rfl (.tmp rfl) (fun w' hw' => ⟨by first | rfl | (simp_all; done) | (simp_all; omega), hw'.upd⟩) _ (.inl rfl)
        · have hlim : l[k].lim ≤ 1125899906842624 := by have h9 := of_decide_eq_false h4; omega
          refine g_skip ?_
          refine g_then ?_
          refine g_seq ?_
          refine g_region ?_
          refine s_q (q_move rfl) rfl ?_
          refine s_q (q_move rfl) rfl ?_
          refine s_q (q_loadw rfl rfl) rfl ?_
          refine g_op (g_ownS [Res.blk b26 77 [Value.pointer (some ⟨ba26, 0, none⟩), Value.pointer (some ⟨bb26, 0, none⟩)], Res.blk ba26 108 (Rg.c g1), Res.row (Rg.A g1) (Rg.s g1).length (Rg.cap g1) 3 1 (Rg.s g1), Res.blk bb26 108 (Rg.c g2), Res.row (Rg.A g2) (Rg.s g2).length (Rg.cap g2) 3 1 (Rg.s g2), Res.blk b35 33 [Value.slice A0 (v).f.length c0, Value.slice A1 (v).v.length c1, Value.int .i64 ((8 : Nat) : Int)], Res.ro A0 (v).f.length 1 ((v).f.map (fun v : Int => [Value.int .i64 v])), Res.ro A1 (v).v.length 1 ((v).v.map (fun v : Int => [Value.int .i64 v]))] rfl (fun w1 hw1 ho1 => by have h7 := push_any b26 ba26 bb26 g1 g2 b35 A0 A1 c0 c1 q v 8 l[k] w1 ho1 h0 hh1 s0 ss1 (by omega) u0 u1 hq (Rd.ofOld hw1 hO.f (by omega) (by simp)) (Rd.ofOld hw1 hO.v (by omega) (by simp)) (by omega); exact h7) rfl ?_)
          rintro ⟨g50, gg50, A50, c50, AA50, cc50⟩ ⟨r50, rr50, s50, ss50, u50, uu50⟩
          refine ⟨_, _, inferInstance, inferInstance, ?_⟩
          simp only at r50 rr50 s50 ss50 u50 uu50
          have hq50 := pushR_len (r := l[k]) hq
          have hl50 := pushR_len (r := l[k]) hl
          generalize hpu50 : (pushR 8 l[k] q) = pu50 at r50 rr50 hl50 ⊢
          generalize hpv50 : (pushR 8 l[k] v) = pv50 at u50 uu50 hq50 ⊢
          refine g_nil ?_
          refine g_then ?_
          refine g_seq ?_
          refine g_region ?_
          refine s_q (q_move rfl) rfl ?_
          refine g_op (g_keep [Res.blk mb27 84 (M.c m)] rfl (fun w1 hw1 ho1 => by exact mbalance_any mb27 m w1 ho1) rfl ?_)
          refine s_q (q_assign rfl) rfl ?_
          refine g_nil ?_
          refine g_then ?_
          refine g_seq ?_
          refine g_region ?_
          refine s_q (q_assign rfl) rfl ?_
          refine g_nil ?_
          refine g_then ?_
          refine g_seq ?_
          refine g_seq ?_
          refine g_region ?_
          refine s_q (q_move rfl) rfl ?_
          refine s_q (q_move rfl) rfl ?_
          refine s_q (q_move rfl) rfl ?_
          refine s_q (q_field rfl) rfl ?_
          refine s_q (q_load rfl rfl) rfl ?_
          refine s_q (q_move rfl) rfl ?_
          refine g_op (g_ownS [Res.blk b26 77 [Value.pointer (some ⟨ba26, 0, none⟩), Value.pointer (some ⟨bb26, 0, none⟩)], Res.blk ba26 108 (Rg.c g50), Res.row (Rg.A g50) (Rg.s g50).length (Rg.cap g50) 3 1 (Rg.s g50), Res.blk bb26 108 (Rg.c gg50), Res.row (Rg.A gg50) (Rg.s gg50).length (Rg.cap gg50) 3 1 (Rg.s gg50), Res.blk mb27 84 (M.c m)] rfl (fun w1 hw1 ho1 => by have h7 := astep_any (((k : Nat) : Int)) ((l[k]).lim) b26 ba26 bb26 mb27 g50 gg50 pu50 8 m A_ws (ws.length) (c_ws) (ws) w1 ho1 r50 rr50 s50 ss50 (by omega) hl50 (Rd.ofOld hw1 o_ws (by omega) (by simp)) (by omega); exact h7) rfl ?_)
          rintro ⟨O59, oc59, g59, gg59⟩ ⟨r59, rr59, s59, ss59⟩
          refine ⟨_, _, inferInstance, inferInstance, ?_⟩
          simp only at r59 rr59 s59 ss59
          have hq59 := stepM_len (W := ws) (e := ((k : Nat) : Int)) (lim := (l[k]).lim) (m := m) hl50
          generalize hst59 : (stepM ws (((k : Nat) : Int)) ((l[k]).lim) pu50 m) = st59 at r59 rr59 hq59 ⊢
          have hS := stepM_sum hst59 (fun x hx => (k_ws x hx).1) hmk hO5.1 (by omega)
          have hcn := stepM_cnt hst59
          have hcn2 : lenL pu50 ≤ 16 := by unfold lenL; omega
          have hmb := bal_rng m
          refine s_q (q_len rfl) rfl ?_
          refine s_q (q_move rfl) rfl ?_
          refine g_nil ?_
          refine g_then ?_
          refine g_block ?_
          refine g_loopk [1, 4, 5, 6, 7, 9, 10, 36, 37, 38, 59, 60] (fun (x : Nat) => [(11, .int .u64 (sumW ws (st59.1.take x))), (61, .int .i64 ((x : Nat) : Int))]) (fun (x : Nat) => [Res.row O59 st59.1.length oc59 42 3 (st59.1.map As.cs), Res.blk b9 37 (Ro.c l[k]), Res.blk b26 77 [Value.pointer (some ⟨ba26, 0, none⟩), Value.pointer (some ⟨bb26, 0, none⟩)], Res.blk ba26 108 (Rg.c g59), Res.row (Rg.A g59) (Rg.s g59).length (Rg.cap g59) 3 1 (Rg.s g59), Res.blk bb26 108 (Rg.c gg59), Res.row (Rg.A gg59) (Rg.s gg59).length (Rg.cap gg59) 3 1 (Rg.s gg59), Res.blk mb27 84 (M.c st59.2.2), Res.blk b35 33 [Value.slice A50 (pv50).f.length c50, Value.slice AA50 (pv50).v.length cc50, Value.int .i64 ((8 : Nat) : Int)], Res.ro A50 (pv50).f.length 1 ((pv50).f.map (fun v : Int => [Value.int .i64 v])), Res.ro AA50 (pv50).v.length 1 ((pv50).v.map (fun v : Int => [Value.int .i64 v]))]) (fun (x : Nat) => x ≤ st59.1.length) (fun (x : Nat) => st59.1.length - x) 0 (by (try dsimp only); exact Nat.zero_le _) rfl (by repeat (first | exact trivial | refine ⟨rfl, ?_⟩)) wok_sub ?_
          rintro j le_j
          replace le_j : j ≤ st59.1.length := le_j
          refine g_seq ?_
          refine g_region ?_
          refine s_q (q_lss rfl rfl) rfl ?_
          refine g_nil ?_
          refine g_then ?_
          refine g_seq ?_
          refine g_cond rfl (fun h5 => ?_) (fun h5 => ?_)
          · have lt_j : j < st59.1.length := by have h9 := of_decide_eq_true h5; omega
            refine g_skip ?_
            refine g_then ?_
            refine g_seq ?_
            refine g_block ?_
            refine g_seq ?_
            refine g_region ?_
            refine s_q (q_index (i := j) rfl rfl rfl (InRow.rdb (A := O59) (els := (st59.1).map As.cs) (by first | rfl | assumption | (simp; done) | (simp_all; done) | (simp; omega) | (simp_all; omega)) (map_cat (c := As.cs) (fun _ => rfl) _)) (by first | exact lt_j | omega)) rfl ?_
            refine s_q (q_load_ew (i := j) rfl (InRow.rdb (A := O59) (els := (st59.1).map As.cs) (by first | rfl | assumption | (simp; done) | (simp_all; done) | (simp; omega) | (simp_all; omega)) (map_cat (c := As.cs) (fun _ => rfl) _)) (map_get (by first | assumption | omega | (simp_all; done) | (simp_all; omega))) rfl) rfl ?_
            refine g_op (g_alloc rfl fun b13 => ?_)
            refine g_op (g_storew rfl rfl rfl rfl rfl ?_)
            refine g_nil ?_
            refine g_then ?_
            refine g_region ?_
            refine s_q (q_move rfl) rfl ?_
            refine s_q (q_move rfl) rfl ?_
            refine s_q (q_field rfl) rfl ?_
            refine s_q (q_load rfl rfl) rfl ?_
            refine g_op (g_pure rfl (fun w1 hw1 => of13_any A_ws (ws.length) (c_ws) (ws) _ w1 (Rdb.toOld (o_ws.rdb rfl) hw1)) rfl ?_)
            refine s_q (q_addz (z := sumW ws (st59.1.take (j + 1))) rfl rfl (by have h9 := sumW_take (W := ws) (fun x hx => (k_ws x hx).1) lt_j; rw [← h9.1]; exact wu64 (by omega) (by omega))) rfl ?_
            refine s_q (q_assign rfl) rfl ?_
            refine g_nil ?_
            refine g_blk_n ?_
            refine g_then ?_
            refine g_region ?_
            refine s_q (q_inc rfl rfl (by omega)) rfl ?_
            refine s_q (q_move rfl) rfl ?_
            refine g_nil ?_
            exact g_again (j + 1) (by (try dsimp only); exact (by first | exact lt_j | omega)) (by first | omega | (simp only; omega)) (by repeat (first | exact trivial | refine ⟨rfl, ?_⟩)) wok_sub
          · have eq_j : j = st59.1.length := by have h9 := of_decide_eq_false h5; omega
            refine g_exit ?_
            refine g_then_x (g_then_x (g_blk_hit ?_))
            refine g_then ?_
            refine g_seq ?_
            refine g_region ?_
            refine s_q (q_move rfl) rfl ?_
            refine g_op (g_keep [Res.blk b26 77 [Value.pointer (some ⟨ba26, 0, none⟩), Value.pointer (some ⟨bb26, 0, none⟩)], Res.blk ba26 108 (Rg.c g59), Res.row (Rg.A g59) (Rg.s g59).length (Rg.cap g59) 3 1 (Rg.s g59), Res.blk bb26 108 (Rg.c gg59), Res.row (Rg.A gg59) (Rg.s gg59).length (Rg.cap gg59) 3 1 (Rg.s gg59)] rfl (fun w1 hw1 ho1 => by exact head_any b26 ba26 bb26 g59 gg59 st59.2.1 8 w1 ho1 r59 rr59 s59 ss59 (by omega)) rfl ?_)
            refine s_q (q_move rfl) rfl ?_
            refine s_q (q_extract rfl rfl) rfl ?_
            refine s_q (q_extract rfl rfl) rfl ?_
            refine s_q (q_extract rfl rfl) rfl ?_
            refine s_q (q_assign rfl) rfl ?_
            refine s_q (q_assign rfl) rfl ?_
            refine s_q (q_assign rfl) rfl ?_
            refine g_val 11 (v' := .int .u64 (sumW ws st59.1)) rfl (by rw [eq_j, List.take_length]) ?_
            refine g_nil ?_
            refine g_then ?_
            refine g_seq ?_
            refine g_region ?_
            refine s_q (q_move rfl) rfl ?_
            refine s_q (q_move rfl) rfl ?_
            refine s_q (q_field rfl) rfl ?_
            refine s_q (q_load rfl rfl) rfl ?_
            refine s_q (q_addz (z := m.bal + l[k].lim) rfl rfl (wu64 (by omega) (by omega))) rfl ?_
            refine s_q (q_gtr rfl rfl) rfl ?_
            refine g_litb 83 (b := false) rfl (by simp; omega) ?_
            refine s_q (q_move rfl) rfl ?_
            refine s_qg (q_move rfl) rfl rfl rfl ?_
            refine s_qg (q_move rfl) rfl rfl rfl ?_
            refine g_gt rfl rfl (g_keep [Res.blk mb27 84 (M.c st59.2.2)] rfl (fun w1 hw1 ho1 => by exact mspent_any mb27 st59.2.2 w1 ho1) rfl ?_)
            refine s_qg (q_neq rfl rfl) rfl rfl rfl ?_
            refine g_litb 88 (b := false) rfl (by rw [hS.2.2.1]; simp) ?_
            refine s_q (q_pick_f rfl rfl) rfl ?_
            refine s_q (q_move rfl) rfl ?_
            refine s_qg (q_move rfl) rfl rfl rfl ?_
            refine s_qg (q_move rfl) rfl rfl rfl ?_
            refine g_split 92 rfl (fun h6 => ?_) (fun h6 => ?_)
            · have hB : headB st59.2.1 = true := h6
              refine s_qg (q_move rfl) rfl rfl rfl ?_
              refine g_gt rfl rfl (g_keep [Res.blk mb27 84 (M.c st59.2.2)] rfl (fun w1 hw1 ho1 => by exact mbalance_any mb27 st59.2.2 w1 ho1) rfl ?_)
              refine s_qg (q_move rfl) rfl rfl rfl ?_
              refine s_qg (q_move rfl) rfl rfl rfl ?_
              refine g_gt rfl rfl (g_pure rfl (fun w1 hw1 => of13_any A_ws (ws.length) (c_ws) (ws) ((headI st59.2.1)) w1 (Rdb.toOld (o_ws.rdb rfl) hw1)) rfl ?_)
              refine s_qg (q_geq rfl rfl) rfl rfl rfl ?_
              refine g_litb 98 (b := false) rfl (by have h9 := hS.2.2.2.1 hB; simp; omega) ?_
              refine s_qg (q_pick_t rfl rfl) rfl rfl rfl ?_
              refine s_q (q_pick_f rfl rfl) rfl ?_
              refine s_q (q_move rfl) rfl ?_
              refine s_qg (q_move rfl) rfl rfl rfl ?_
              refine s_qg (q_not rfl) rfl rfl rfl ?_
              refine s_qg (q_move rfl) rfl rfl rfl ?_
              refine g_litb 104 (b := false) rfl (by rw [hB]; rfl) ?_
              refine g_gf rfl rfl rfl rfl ?_
              refine g_gf rfl rfl rfl rfl ?_
              refine g_gf rfl rfl rfl rfl ?_
              refine s_qg (q_pick_f rfl rfl) rfl rfl rfl ?_
              refine s_q (q_pick_f rfl rfl) rfl ?_
              refine g_nil ?_
              refine g_then ?_
              refine g_false rfl ?_
              refine g_skip ?_
              refine g_blk_n ?_
              refine g_then ?_
              refine g_region ?_
              refine s_q (q_inc rfl rfl (by omega)) rfl ?_
              refine s_q (q_move rfl) rfl ?_
              refine g_nil ?_
              exact g_again ((k + 1), g59, gg59, A50, c50, AA50, cc50, st59.2.1, pv50, st59.2.2) (by (try dsimp only); exact ⟨(by first | exact lt_k | omega), r59, rr59, s59, ss59, u50, uu50, hq50, hq59, hS.2.2.2.2.2.2, (by have h9 := hS.2.2.2.2.2.1; omega)⟩) (by first | omega | (simp only; omega)) (by repeat (first | exact trivial | refine ⟨rfl, ?_⟩)) wok_sub
            · have hB : headB st59.2.1 = false := h6
              refine g_gf rfl rfl rfl rfl ?_
              refine g_gf rfl rfl rfl rfl ?_
              refine g_gf rfl rfl rfl rfl ?_
              refine g_gf rfl rfl rfl rfl ?_
              refine g_gf rfl rfl rfl rfl ?_
              refine g_gf rfl rfl rfl rfl ?_
              refine s_qg (q_pick_f rfl rfl) rfl rfl rfl ?_
              refine s_q (q_pick_f rfl rfl) rfl ?_
              refine s_q (q_move rfl) rfl ?_
              refine s_qg (q_move rfl) rfl rfl rfl ?_
              refine s_qg (q_not rfl) rfl rfl rfl ?_
              refine s_qg (q_move rfl) rfl rfl rfl ?_
              refine g_litb 104 (b := true) rfl (by rw [hB]; rfl) ?_
              refine s_qg (q_move rfl) rfl rfl rfl ?_
              refine g_gt rfl rfl (g_keep [Res.blk mb27 84 (M.c st59.2.2)] rfl (fun w1 hw1 ho1 => by exact mbalance_any mb27 st59.2.2 w1 ho1) rfl ?_)
              refine s_qg (q_neq rfl rfl) rfl rfl rfl ?_
              refine g_litb 107 (b := false) rfl (by rw [hS.2.2.2.2.1 hB]; rfl) ?_
              refine s_qg (q_pick_t rfl rfl) rfl rfl rfl ?_
              refine s_q (q_pick_f rfl rfl) rfl ?_
              refine g_nil ?_
              refine g_then ?_
              refine g_false rfl ?_
              refine g_skip ?_
              refine g_blk_n ?_
              refine g_then ?_
              refine g_region ?_
              refine s_q (q_inc rfl rfl (by omega)) rfl ?_
              refine s_q (q_move rfl) rfl ?_
              refine g_nil ?_
              exact g_again ((k + 1), g59, gg59, A50, c50, AA50, cc50, st59.2.1, pv50, st59.2.2) (by (try dsimp only); exact ⟨(by first | exact lt_k | omega), r59, rr59, s59, ss59, u50, uu50, hq50, hq59, hS.2.2.2.2.2.2, (by have h9 := hS.2.2.2.2.2.1; omega)⟩) (by first | omega | (simp only; omega)) (by repeat (first | exact trivial | refine ⟨rfl, ?_⟩)) wok_sub
      · have eq_k : k = l.length := by have h9 := of_decide_eq_false h3; omega
        refine g_exit ?_
        refine g_then_x (g_then_x (g_blk_hit ?_))
        refine g_then ?_
        refine g_seq ?_
        refine g_region ?_
        refine g_op (g_pure rfl (fun w1 hw1 => alive_any w1) rfl ?_)
        refine s_q (q_assign rfl) rfl ?_
        refine g_nil ?_
        refine g_then ?_
        refine g_ret ?_
        exact fin1 rfl (.tmp rfl) (fun w' hw' => ⟨by first | rfl | (simp_all; done) | (simp_all; omega), hw'.upd⟩) _ (.inl rfl)

theorem main_assignBounds (v0 : Value) (v1 : Value) (W : World) (a0 : Arg Try.prog W 22 v0) (a1 : Arg Try.prog W 23 v1) : Pur Try.prog 6 [v0, v1] W (.bool true) := by
  obtain ⟨A_l, c_l, l, rfl, hle0, hm0, o_l, k_l⟩ := Arg.slice Ro.c (fun x : Ro => x.ok W) Try.underlying22 (show Try.prog.cellsOf 37 = 3 by kernel_rfl) (by omega) (openRo) a0
  have h_l : l.length ≤ c_l ∧ c_l ≤ 9223372036854775807 := ⟨hle0, by unfold maxLen at hm0; omega⟩
  obtain ⟨A_ws, c_ws, ws, rfl, hle1, hm1, o_ws, k_ws⟩ := Arg.slice (fun v : Int => [Value.int .u64 v]) (fun x : Int => 0 ≤ x ∧ x ≤ 18446744073709551615) Try.underlying23 (show Try.prog.cellsOf 35 = 1 by kernel_rfl) (by omega) (fun f cs h => OKc.int Try.underlying35 h) a1
  have h_ws : ws.length ≤ c_ws ∧ c_ws ≤ 9223372036854775807 := ⟨hle1, by unfold maxLen at hm1; omega⟩
  exact law_assignBounds A_l c_l l A_ws c_ws ws W o_l h_l k_l o_ws h_ws k_ws

namespace LawAssignBounds
open Go.ChangeShapes Go.WideShapes Go.ChangeAt Go.RowKit Go.Eg
set_option linter.unusedVariables false
theorem own : ownKnob Try.prog.godebug = none := by kernel_rfl
theorem laidOut : laidOutB Try.prog = true := by kernel_rfl
set_option maxRecDepth 100000 in
theorem lifted (os : Os) (started : os.Started) (H : Type) (enc : TypeId × Value → H) :
    ReturnsInHanded {} Try.checked os 6 .any (Rows.assignBoundsSpec.pre6 enc Try.prog Try.f6 Rows.assignBoundsRow.domain false) (Rows.assignBoundsSpec.post enc Try.prog Try.f6 false true false false) := by
  refine returnsInHanded_of_change (C := Try.checked) own started (by kernel_rfl) Try.func6
    (ChangeSpec.witness6 (enc := enc) (C := Try.checked) false ⟨#[], #[.slice none 0 0, .slice none 0 0], []⟩ 8 (by kernel_rfl) (by kernel_rfl) (by kernel_rfl) (by kernel_rfl)) ?_
  intro W base args ds gs before hval0 hW hcnd _
  have hval : ∀ (j : Nat) t v, Try.f6.params[j]? = some t → args[j]? = some v → Value.okWide Try.prog W .any base t v := hval0
  have hW' := hW
  obtain ⟨p, q, hA0, hV, rfl, hfz, hnd⟩ := hW
  have hA : DataW.TrodAll enc Try.prog W 0 (fun _ => true) true Try.f6.params.toList args.toList ds p := hA0
  rw [Try.params6] at hA hval
  obtain ⟨v0, vs0, d0, ds0, p0, q0, hargs, rfl, rfl, h0, r0⟩ := trodAll_cons hA
  obtain ⟨v1, vs1, d1, ds1, p1, q1, rfl, rfl, rfl, h1, r1⟩ := trodAll_cons r0
  obtain ⟨rfl, rfl, rfl⟩ := trodAll_nil r1
  obtain rfl : args = #[v0, v1] := by cases args; simp_all
  obtain ⟨rfl, rfl⟩ := trodVars_none hV
  have a0 := Arg.of h0 (hval 0 22 v0 rfl rfl)
  have lt0 : ∀ x ∈ p0, x.block < W.heap.size := by obtain ⟨m, hm⟩ := h0; exact DataW.trod_lt m _ _ _ hm
  have a1 := Arg.of h1 (hval 1 23 v1 rfl rfl)
  have lt1 : ∀ x ∈ p1, x.block < W.heap.size := by obtain ⟨m, hm⟩ := h1; exact DataW.trod_lt m _ _ _ hm
  clear hA0 hval0
  simp only [List.append_nil] at hW'
  refine Calls.mono (main_assignBounds v0 v1 W a0 a1) ?_
  rintro e W' ⟨v, rfl, rfl, hu⟩
  have bel := hu.below
  have targ := (trodAll_cons_mk (Below.trod laidOut (by kernel_rfl) (of_decide_eq_true (by kernel_rfl)) h0 bel lt0) (trodAll_cons_mk (Below.trod laidOut (by kernel_rfl) (of_decide_eq_true (by kernel_rfl)) h1 bel lt1) trodAll_mk0))
  simp only [List.append_nil] at targ
  exact ⟨_, rfl, _, _, _, [], _, [], hW', trodAll_mk1 (shut_bool Try.underlying4 _), targ, rfl, bel.frame _, fun h => by cases h⟩
theorem over : Rows.assignBoundsRow.holds Try.pinned (OpenSpec.ofChange Rows.assignBoundsSpec) :=
  OpenClaim.holds_of_wide 6 Try.f6 rfl rfl rfl rfl rfl rfl rfl ⟨rfl, rfl, rfl, rfl, rfl⟩ rfl rfl rfl rfl rfl (by kernel_rfl) Try.func6 (by kernel_rfl)
    (of_decide_eq_true (by kernel_rfl)) (by unfold Func.isWrapper; first | (rw [if_pos (by decide +kernel)]; kernel_rfl) | (rw [if_neg (by decide +kernel)]; exact ⟨rfl, rfl⟩))
    (fun os started H enc _ => lifted os started H enc)
theorem proved : Rows.AssignBoundsSaid := over
end LawAssignBounds
end Go.Proofs.Ytmolaicpbaiioaa
