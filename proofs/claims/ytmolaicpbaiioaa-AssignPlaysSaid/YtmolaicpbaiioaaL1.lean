/- AssignPlays: for every list of rounds and weights the law returns true. No condition. -/
import Derived.Test.YtmolaicpbaiioaaWQ
namespace Go.Proofs.Ytmolaicpbaiioaa
open Go.RowKit Go.Eg
set_option synthInstance.maxSize 3000
set_option linter.unusedSimpArgs false
set_option linter.unusedVariables false
set_option maxRecDepth 100000
set_option maxHeartbeats 400000 in
theorem law_assignPlays (A_l : Option Addr) (c_l : Nat) (l : List Ro) (A_ws : Option Addr) (c_ws : Nat) (ws : List Int) (w : World) (o_l : Old w A_l l.length 3 (l.map Ro.c)) (h_l : l.length ≤ c_l ∧ c_l ≤ 9223372036854775807) (k_l : ∀ x ∈ l, (fun x : Ro => x.ok w) x) (o_ws : Old w A_ws ws.length 1 (ws.map (fun v : Int => [Value.int .u64 v]))) (h_ws : ws.length ≤ c_ws ∧ c_ws ≤ 9223372036854775807) (k_ws : ∀ x ∈ ws, (fun x : Int => 0 ≤ x ∧ x ≤ 18446744073709551615) x) : Pur Try.prog 7 [.slice A_l l.length c_l, .slice A_ws ws.length c_ws] w (.bool true) := by
  refine g_start Try.func7 rfl 94 rfl (by simp) ([]) [] (WOK.start _ _) _ rfl ?_
  refine g_seq ?_
  refine g_region ?_
  refine s_q (q_assign rfl) rfl ?_
  refine g_nil ?_
  refine g_then ?_
  refine g_seq ?_
  refine g_seq ?_
  refine g_region ?_
  refine s_q (q_move rfl) rfl ?_
  refine g_op (g_pure rfl (fun w1 hw1 => few_any A_l c_l l w1 (Rdb.toOld (o_l.rdb rfl) hw1) (by omega)) rfl ?_)
  refine s_q (q_not rfl) rfl ?_
  refine s_q (q_move rfl) rfl ?_
  refine g_split 16 rfl (fun h1 => ?_) (fun h1 => ?_)
  · refine g_gf rfl rfl rfl rfl ?_
    refine g_gf rfl rfl rfl rfl ?_
    refine g_gf rfl rfl rfl rfl ?_
    refine s_q (q_pick_t rfl rfl) rfl ?_
    refine g_nil ?_
    refine g_then ?_
    refine g_true rfl ?_
    refine g_seq ?_
    refine g_region ?_
    refine g_op (g_pure rfl (fun w1 hw1 => alive_any w1) rfl ?_)
    refine s_q (q_assign rfl) rfl ?_
    refine g_nil ?_
    refine g_then ?_
    refine g_ret ?_
    refine g_then_ret ?_
    exact fin1 rfl (.tmp rfl) (fun w' hw' => ⟨by first | rfl | (simp_all; done) | (simp_all; omega), hw'.upd⟩) _ (.inl rfl)
  · have hfew : fewB l = true := by simpa using h1
    have hf2 := of_decide_eq_true hfew
    refine s_qg (q_move rfl) rfl rfl rfl ?_
    refine s_qg (q_len rfl) rfl rfl rfl ?_
    refine s_qg (q_gtr rfl rfl) rfl rfl rfl ?_
    refine s_q (q_pick_f rfl rfl) rfl ?_
    refine g_nil ?_
    refine g_then ?_
    refine g_cond rfl (fun h2 => ?_) (fun h2 => ?_)
    · refine g_seq ?_
      refine g_region ?_
      refine g_op (g_pure rfl (fun w1 hw1 => alive_any w1) rfl ?_)
      refine s_q (q_assign rfl) rfl ?_
      refine g_nil ?_
      refine g_then ?_
      refine g_ret ?_
      refine g_then_ret ?_
      exact fin1 rfl (.tmp rfl) (fun w' hw' => ⟨by first | rfl | (simp_all; done) | (simp_all; omega), hw'.upd⟩) _ (.inl rfl)
    · have hws : ws.length ≤ 100 := by have h9 := of_decide_eq_false h2; omega
      refine g_skip ?_
      refine g_then ?_
      refine g_seq ?_
      refine g_region ?_
      refine g_op (g_ownS [] rfl (fun w1 hw1 ho1 => by have h7 := lnew_any (8) w1 (by omega); exact h7) rfl ?_)
      rintro ⟨b22, ba22, bb22, g22, gg22⟩ ⟨r22, s22, rr22, ss22⟩
      refine ⟨_, _, inferInstance, inferInstance, ?_⟩
      simp only at r22 s22 rr22 ss22
      refine g_op (g_ownS [] rfl (fun w1 hw1 ho1 => by have h7 := mnew_any w1; exact h7) rfl ?_)
      rintro mb23 _
      refine ⟨_, _, inferInstance, inferInstance, ?_⟩
      refine s_q (q_assign rfl) rfl ?_
      refine s_q (q_assign rfl) rfl ?_
      refine g_nil ?_
      refine g_then ?_
      refine g_seq ?_
      refine g_seq ?_
      refine g_region ?_
      refine s_q (q_move rfl) rfl ?_
      refine s_q (q_eqp (b := false) rfl rfl rfl) rfl ?_
      refine s_q (q_move rfl) rfl ?_
      refine s_qg (q_move rfl) rfl rfl rfl ?_
      refine s_qg (q_eqp (b := false) rfl rfl rfl) rfl rfl rfl ?_
      refine s_q (q_pick_f rfl rfl) rfl ?_
      refine g_nil ?_
      refine g_then ?_
      refine g_false rfl ?_
      refine g_skip ?_
      refine g_then ?_
      refine g_seq ?_
      refine g_region ?_
      refine s_q (q_build (c := [Value.slice none ((LL.mk [] [])).f.length 0, Value.slice none ((LL.mk [] [])).v.length 0, Value.int .i64 ((8 : Nat) : Int)]) rfl rfl) rfl ?_
      refine g_op (g_box (c := [Value.slice none ((LL.mk [] [])).f.length 0, Value.slice none ((LL.mk [] [])).v.length 0, Value.int .i64 ((8 : Nat) : Int)]) rfl rfl rfl fun b31 => ?_)
      refine g_roNil none 1 ?_
      refine g_roEq (A := none) (n := 0) (els := []) ((LL.mk [] [])).v.length (((LL.mk [] [])).v.map (fun v : Int => [Value.int .i64 v])) rfl rfl ?_
      refine g_roNil none 1 ?_
      refine g_roEq (A := none) (n := 0) (els := []) ((LL.mk [] [])).f.length (((LL.mk [] [])).f.map (fun v : Int => [Value.int .i64 v])) rfl rfl ?_
      refine s_q (q_build (c := R.c (R.of M0)) rfl rfl) rfl ?_
      refine g_op (g_box (c := R.c (R.of M0)) rfl rfl rfl fun b33 => ?_)
      refine s_q (q_assign rfl) rfl ?_
      refine s_q (q_assign rfl) rfl ?_
      refine g_nil ?_
      refine g_then ?_
      refine g_seq ?_
      refine g_seq ?_
      refine g_region ?_
      refine s_q (q_move rfl) rfl ?_
      refine s_q (q_len rfl) rfl ?_
      refine s_q (q_move rfl) rfl ?_
      refine g_nil ?_
      refine g_then ?_
      refine g_block ?_
      refine g_loopk [1, 4, 5, 6, 7, 8, 34, 35] (fun (x : Nat × Rg × Rg × Option Addr × Nat × Option Addr × Nat × LL × M) => [(36, .int .i64 ((x.1 : Nat) : Int))]) (fun (x : Nat × Rg × Rg × Option Addr × Nat × Option Addr × Nat × LL × M) => [Res.blk b33 62 (R.c (R.of x.2.2.2.2.2.2.2.2)), Res.blk b22 77 [Value.pointer (some ⟨ba22, 0, none⟩), Value.pointer (some ⟨bb22, 0, none⟩)], Res.blk ba22 108 (Rg.c x.2.1), Res.row (Rg.A x.2.1) (Rg.s x.2.1).length (Rg.cap x.2.1) 3 1 (Rg.s x.2.1), Res.blk bb22 108 (Rg.c x.2.2.1), Res.row (Rg.A x.2.2.1) (Rg.s x.2.2.1).length (Rg.cap x.2.2.1) 3 1 (Rg.s x.2.2.1), Res.blk mb23 84 (M.c x.2.2.2.2.2.2.2.2), Res.blk b31 33 [Value.slice x.2.2.2.1 (x.2.2.2.2.2.2.2.1).f.length x.2.2.2.2.1, Value.slice x.2.2.2.2.2.1 (x.2.2.2.2.2.2.2.1).v.length x.2.2.2.2.2.2.1, Value.int .i64 ((8 : Nat) : Int)], Res.ro x.2.2.2.1 (x.2.2.2.2.2.2.2.1).f.length 1 ((x.2.2.2.2.2.2.2.1).f.map (fun v : Int => [Value.int .i64 v])), Res.ro x.2.2.2.2.2.1 (x.2.2.2.2.2.2.2.1).v.length 1 ((x.2.2.2.2.2.2.2.1).v.map (fun v : Int => [Value.int .i64 v]))]) (fun (x : Nat × Rg × Rg × Option Addr × Nat × Option Addr × Nat × LL × M) => x.1 ≤ l.length ∧ Rg.Rep x.2.1 1 ((x.2.2.2.2.2.2.2.1).f.map (fun v : Int => [Value.int .i64 v])) ∧ Rg.Rep x.2.2.1 1 ((x.2.2.2.2.2.2.2.1).v.map (fun v : Int => [Value.int .i64 v])) ∧ Rg.size x.2.1 = 8 ∧ Rg.size x.2.2.1 = 8 ∧ (x.2.2.2.2.2.2.2.1).f.length ≤ x.2.2.2.2.1 ∧ (x.2.2.2.2.2.2.2.1).v.length ≤ x.2.2.2.2.2.2.1 ∧ ((x.2.2.2.2.2.2.2.1).f.length ≤ 8 ∧ (x.2.2.2.2.2.2.2.1).v.length ≤ 8) ∧ (x.2.2.2.2.2.2.2.2).ok) (fun (x : Nat × Rg × Rg × Option Addr × Nat × Option Addr × Nat × LL × M) => l.length - x.1) (0, g22, gg22, none, 0, none, 0, (LL.mk [] []), M0) (by (try dsimp only); exact ⟨Nat.zero_le _, r22, rr22, s22, ss22, (by simp), (by simp), ⟨by simp, by simp⟩, M0_ok⟩) rfl (by repeat (first | exact trivial | refine ⟨rfl, ?_⟩)) wok_sub ?_
      rintro ⟨k, g1, g2, A0, c0, A1, c1, q, m⟩ ⟨le_k, h0, hh1, s0, ss1, u0, u1, hq, hmk⟩
      replace le_k : k ≤ l.length := le_k
      replace h0 : Rg.Rep g1 1 ((q).f.map (fun v : Int => [Value.int .i64 v])) := h0
      replace hh1 : Rg.Rep g2 1 ((q).v.map (fun v : Int => [Value.int .i64 v])) := hh1
      replace s0 : Rg.size g1 = 8 := s0
      replace ss1 : Rg.size g2 = 8 := ss1
      replace u0 : (q).f.length ≤ c0 := u0
      replace u1 : (q).v.length ≤ c1 := u1
      replace hq : (q).f.length ≤ 8 ∧ (q).v.length ≤ 8 := hq
      replace hmk : (m).ok := hmk
      refine g_setL (L' := [Res.blk b33 62 (R.c (R.of m)), Res.blk b22 77 [Value.pointer (some ⟨ba22, 0, none⟩), Value.pointer (some ⟨bb22, 0, none⟩)], Res.blk ba22 108 (Rg.c g1), Res.row (Rg.A g1) (Rg.s g1).length (Rg.cap g1) 3 1 (Rg.s g1), Res.blk bb22 108 (Rg.c g2), Res.row (Rg.A g2) (Rg.s g2).length (Rg.cap g2) 3 1 (Rg.s g2), Res.blk mb23 84 (M.c m), Res.blk b31 33 [Value.slice A0 (q).f.length c0, Value.slice A1 (q).v.length c1, Value.int .i64 ((8 : Nat) : Int)], Res.ro A0 (q).f.length 1 ((q).f.map (fun v : Int => [Value.int .i64 v])), Res.ro A1 (q).v.length 1 ((q).v.map (fun v : Int => [Value.int .i64 v]))]) rfl ?_
      refine g_val 36 (v' := .int .i64 ((k : Nat) : Int)) rfl rfl ?_
      refine g_seq ?_
      refine g_region ?_
      refine s_q (q_lss rfl rfl) rfl ?_
      refine g_nil ?_
      refine g_then ?_
      refine g_seq ?_
      refine g_cond rfl (fun h3 => ?_) (fun h3 => ?_)
      · have lt_k : k < l.length := by have h9 := of_decide_eq_true h3; omega
        have hO := k_l _ (List.getElem_mem lt_k)
        have hk40 := hf2.1
        have hk20 := hf2.2 _ (List.getElem_mem lt_k)
        refine g_skip ?_
        refine g_then ?_
        refine g_seq ?_
        refine g_block ?_
        refine g_seq ?_
        refine g_region ?_
        refine s_q (q_move rfl) rfl ?_
        refine s_q (q_index (i := k) rfl rfl rfl (o_l.rdb rfl) (by first | exact lt_k | omega)) rfl ?_
        refine s_q (q_load_ew (i := k) rfl (o_l.rdb rfl) (map_get (by first | assumption | omega)) rfl) rfl ?_
        refine g_op (g_alloc rfl fun b10 => ?_)
        refine s_q (q_assign rfl) rfl ?_
        refine g_op (g_storew rfl rfl rfl rfl rfl ?_)
        refine g_nil ?_
        refine g_then ?_
        refine g_seq ?_
        refine g_region ?_
        refine s_q (q_move rfl) rfl ?_
        refine s_q (q_move rfl) rfl ?_
        refine s_q (q_loadw rfl rfl) rfl ?_
        refine g_op (g_ownS [Res.blk b22 77 [Value.pointer (some ⟨ba22, 0, none⟩), Value.pointer (some ⟨bb22, 0, none⟩)], Res.blk ba22 108 (Rg.c g1), Res.row (Rg.A g1) (Rg.s g1).length (Rg.cap g1) 3 1 (Rg.s g1), Res.blk bb22 108 (Rg.c g2), Res.row (Rg.A g2) (Rg.s g2).length (Rg.cap g2) 3 1 (Rg.s g2), Res.blk b31 33 [Value.slice A0 (q).f.length c0, Value.slice A1 (q).v.length c1, Value.int .i64 ((8 : Nat) : Int)], Res.ro A0 (q).f.length 1 ((q).f.map (fun v : Int => [Value.int .i64 v])), Res.ro A1 (q).v.length 1 ((q).v.map (fun v : Int => [Value.int .i64 v]))] rfl (fun w1 hw1 ho1 => by have h7 := push_any b22 ba22 bb22 g1 g2 b31 A0 A1 c0 c1 q q 8 l[k] w1 ho1 h0 hh1 s0 ss1 (by omega) u0 u1 hq (Rd.ofOld hw1 hO.f (by omega) (by simp)) (Rd.ofOld hw1 hO.v (by omega) (by simp)) (by omega); exact h7) rfl ?_)
        rintro ⟨g44, gg44, A44, c44, AA44, cc44⟩ ⟨r44, rr44, s44, ss44, u44, uu44⟩
        refine ⟨_, _, inferInstance, inferInstance, ?_⟩
        simp only at r44 rr44 s44 ss44 u44 uu44
        have hq44 := pushR_len (r := l[k]) hq
        have hl44 := pushR_len (r := l[k]) hq
        generalize hpu44 : (pushR 8 l[k] q) = pu44 at r44 rr44 u44 uu44 hq44 hl44 ⊢
        refine g_nil ?_
        refine g_then ?_
        refine g_seq ?_
        refine g_region ?_
        refine s_q (q_move rfl) rfl ?_
        refine s_q (q_move rfl) rfl ?_
        refine s_q (q_move rfl) rfl ?_
        refine s_q (q_field rfl) rfl ?_
        refine s_q (q_load rfl rfl) rfl ?_
        refine s_q (q_move rfl) rfl ?_
        refine g_op (g_ownS [Res.blk b22 77 [Value.pointer (some ⟨ba22, 0, none⟩), Value.pointer (some ⟨bb22, 0, none⟩)], Res.blk ba22 108 (Rg.c g44), Res.row (Rg.A g44) (Rg.s g44).length (Rg.cap g44) 3 1 (Rg.s g44), Res.blk bb22 108 (Rg.c gg44), Res.row (Rg.A gg44) (Rg.s gg44).length (Rg.cap gg44) 3 1 (Rg.s gg44), Res.blk mb23 84 (M.c m)] rfl (fun w1 hw1 ho1 => by have h7 := astep_any (((k : Nat) : Int)) ((l[k]).lim) b22 ba22 bb22 mb23 g44 gg44 pu44 8 m A_ws (ws.length) (c_ws) (ws) w1 ho1 r44 rr44 s44 ss44 (by omega) hl44 (Rd.ofOld hw1 o_ws (by omega) (by simp)) (by omega); exact h7) rfl ?_)
        rintro ⟨O51, oc51, g51, gg51⟩ ⟨r51, rr51, s51, ss51⟩
        refine ⟨_, _, inferInstance, inferInstance, ?_⟩
        simp only at r51 rr51 s51 ss51
        have hq51 := stepM_len (W := ws) (e := ((k : Nat) : Int)) (lim := (l[k]).lim) (m := m) hl44
        generalize hst51 : (stepM ws (((k : Nat) : Int)) ((l[k]).lim) pu44 m) = st51 at r51 rr51 hq51 ⊢
        have hso := stepM_of (W := ws) (e := ((k : Nat) : Int)) (lim := l[k].lim) (q := pu44) (m := m) (fun x hx => (k_ws x hx).1) (hO.lim).1 hmk
        rw [hst51] at hso
        obtain ⟨hso1, hmk2⟩ := hso
        refine s_q (q_assign rfl) rfl ?_
        refine g_nil ?_
        refine g_then ?_
        refine g_seq ?_
        refine g_region ?_
        refine s_q (q_move rfl) rfl ?_
        refine s_q (q_move rfl) rfl ?_
        refine s_q (q_move rfl) rfl ?_
        refine s_q (q_field rfl) rfl ?_
        refine s_q (q_load rfl rfl) rfl ?_
        refine s_q (q_move rfl) rfl ?_
        refine g_op (g_ownS [Res.blk b31 33 [Value.slice A44 (pu44).f.length c44, Value.slice AA44 (pu44).v.length cc44, Value.int .i64 ((8 : Nat) : Int)], Res.ro A44 (pu44).f.length 1 ((pu44).f.map (fun v : Int => [Value.int .i64 v])), Res.ro AA44 (pu44).v.length 1 ((pu44).v.map (fun v : Int => [Value.int .i64 v])), Res.blk b33 62 (R.c (R.of m))] rfl (fun w1 hw1 ho1 => by have h7 := rstep_any (((k : Nat) : Int)) ((l[k]).lim) b31 b33 A44 AA44 c44 cc44 pu44 8 (R.of m) A_ws (ws.length) (c_ws) (ws) w1 ho1 u44 uu44 (by omega) hq44 (Rd.ofOld hw1 o_ws (by omega) (by simp)) (by omega); exact h7) rfl ?_)
        rintro ⟨O58, oc58, A58, c58, AA58, cc58⟩ ⟨u58, uu58⟩
        refine ⟨_, _, inferInstance, inferInstance, ?_⟩
        simp only at u58 uu58
        have hq58 := stepR_len (W := ws) (e := ((k : Nat) : Int)) (lim := (l[k]).lim) (m := (R.of m)) hq44
        generalize hst58 : (stepR ws (((k : Nat) : Int)) ((l[k]).lim) pu44 (R.of m)) = st58 at u58 uu58 hq58 ⊢
        rw [hso1] at hst58
        subst hst58
        simp only at u58 uu58 hq58
        refine s_q (q_assign rfl) rfl ?_
        refine g_nil ?_
        refine g_then ?_
        refine g_seq ?_
        refine d_region [] mixed rfl rfl ?_
        refine d_q 0 rfl (by kernel_rfl) (q_move rfl) wok_sub rfl (ls' := #[true, false, false, false, false, false, false, false, false, false, false, false, false, false, false, false, false, false, false, false, false, false, false, false, false, false, false, false, false, false, false, false, false]) rfl ?_
        refine d_q 1 rfl (by kernel_rfl) (q_move rfl) wok_sub rfl (ls' := #[true, true, false, false, false, false, false, false, false, false, false, false, false, false, false, false, false, false, false, false, false, false, false, false, false, false, false, false, false, false, false, false, false]) rfl ?_
        refine d_op 2 rfl (by kernel_rfl) (ls' := #[true, true, true, false, false, false, false, false, false, false, false, false, false, false, false, false, false, false, false, false, false, false, false, false, false, false, false, false, false, false, false, false, false]) rfl wok_sub (g_pure rfl (fun w1 hw1 => same_any O51 O58 _ _ _ _ (st51.1) (st51.1) w1 (Rdb.toOld (InRow.rdb (A := O51) (els := (st51.1).map As.cs) (by first | rfl | assumption | (simp; done) | (simp_all; done) | (simp; omega) | (simp_all; omega)) (map_cat (c := As.cs) (fun _ => rfl) _)) hw1) (Rdb.toOld (InRow.rdb (A := O58) (els := (st51.1).map As.cs) (by first | rfl | assumption | (simp; done) | (simp_all; done) | (simp; omega) | (simp_all; omega)) (map_cat (c := As.cs) (fun _ => rfl) _)) hw1) (row_max (A := O51) hw1)) rfl ?_)
        refine d_q 3 rfl (by kernel_rfl) (q_not rfl) wok_sub rfl (ls' := #[true, true, true, true, false, false, false, false, false, false, false, false, false, false, false, false, false, false, false, false, false, false, false, false, false, false, false, false, false, false, false, false, false]) rfl ?_
        refine d_q 4 rfl (by kernel_rfl) (q_move rfl) wok_sub rfl (ls' := #[true, true, true, true, true, false, false, false, false, false, false, false, false, false, false, false, false, false, false, false, false, false, false, false, false, false, false, false, false, false, false, false, false]) rfl ?_
        refine g_split 63 rfl (fun h4 => ?_) (fun h4 => ?_)
        · refine d_gf 5 rfl (by kernel_rfl) rfl rfl rfl wok_sub rfl (ls' := #[true, true, true, true, true, true, false, false, false, false, false, false, false, false, false, false, false, false, false, false, false, false, false, false, false, false, false, false, false, false, false, false, false]) rfl ?_
          refine d_gf 6 rfl (by kernel_rfl) rfl rfl rfl wok_sub rfl (ls' := #[true, true, true, true, true, true, true, false, false, false, false, false, false, false, false, false, false, false, false, false, false, false, false, false, false, false, false, false, false, false, false, false, false]) rfl ?_
          refine d_gf 7 rfl (by kernel_rfl) rfl rfl rfl wok_sub rfl (ls' := #[true, true, true, true, true, true, true, true, false, false, false, false, false, false, false, false, false, false, false, false, false, false, false, false, false, false, false, false, false, false, false, false, false]) rfl ?_
          refine d_gf 8 rfl (by kernel_rfl) rfl rfl rfl wok_sub rfl (ls' := #[true, true, true, true, true, true, true, true, true, false, false, false, false, false, false, false, false, false, false, false, false, false, false, false, false, false, false, false, false, false, false, false, false]) rfl ?_
          refine d_gf 9 rfl (by kernel_rfl) rfl rfl rfl wok_sub rfl (ls' := #[true, true, true, true, true, true, true, true, true, true, false, false, false, false, false, false, false, false, false, false, false, false, false, false, false, false, false, false, false, false, false, false, false]) rfl ?_
          refine d_gf 10 rfl (by kernel_rfl) rfl rfl rfl wok_sub rfl (ls' := #[true, true, true, true, true, true, true, true, true, true, true, false, false, false, false, false, false, false, false, false, false, false, false, false, false, false, false, false, false, false, false, false, false]) rfl ?_
          refine d_gf 11 rfl (by kernel_rfl) rfl rfl rfl wok_sub rfl (ls' := #[true, true, true, true, true, true, true, true, true, true, true, true, false, false, false, false, false, false, false, false, false, false, false, false, false, false, false, false, false, false, false, false, false]) rfl ?_
          refine d_q 12 rfl (by kernel_rfl) (q_pick_t rfl rfl) wok_sub rfl (ls' := #[true, true, true, true, true, true, true, true, true, true, true, true, true, false, false, false, false, false, false, false, false, false, false, false, false, false, false, false, false, false, false, false, false]) rfl ?_
          refine d_q 13 rfl (by kernel_rfl) (q_move rfl) wok_sub rfl (ls' := #[true, true, true, true, true, true, true, true, true, true, true, true, true, true, false, false, false, false, false, false, false, false, false, false, false, false, false, false, false, false, false, false, false]) rfl ?_
          refine d_gf 14 rfl (by kernel_rfl) rfl rfl rfl wok_sub rfl (ls' := #[true, true, true, true, true, true, true, true, true, true, true, true, true, true, true, false, false, false, false, false, false, false, false, false, false, false, false, false, false, false, false, false, false]) rfl ?_
          refine d_gf 15 rfl (by kernel_rfl) rfl rfl rfl wok_sub rfl (ls' := #[true, true, true, true, true, true, true, true, true, true, true, true, true, true, true, true, false, false, false, false, false, false, false, false, false, false, false, false, false, false, false, false, false]) rfl ?_
          refine d_gf 16 rfl (by kernel_rfl) rfl rfl rfl wok_sub rfl (ls' := #[true, true, true, true, true, true, true, true, true, true, true, true, true, true, true, true, true, false, false, false, false, false, false, false, false, false, false, false, false, false, false, false, false]) rfl ?_
          refine d_gf 17 rfl (by kernel_rfl) rfl rfl rfl wok_sub rfl (ls' := #[true, true, true, true, true, true, true, true, true, true, true, true, true, true, true, true, true, true, false, false, false, false, false, false, false, false, false, false, false, false, false, false, false]) rfl ?_
          refine d_gf 18 rfl (by kernel_rfl) rfl rfl rfl wok_sub rfl (ls' := #[true, true, true, true, true, true, true, true, true, true, true, true, true, true, true, true, true, true, true, false, false, false, false, false, false, false, false, false, false, false, false, false, false]) rfl ?_
          refine d_gf 19 rfl (by kernel_rfl) rfl rfl rfl wok_sub rfl (ls' := #[true, true, true, true, true, true, true, true, true, true, true, true, true, true, true, true, true, true, true, true, false, false, false, false, false, false, false, false, false, false, false, false, false]) rfl ?_
          refine d_gf 20 rfl (by kernel_rfl) rfl rfl rfl wok_sub rfl (ls' := #[true, true, true, true, true, true, true, true, true, true, true, true, true, true, true, true, true, true, true, true, true, false, false, false, false, false, false, false, false, false, false, false, false]) rfl ?_
          refine d_gf 21 rfl (by kernel_rfl) rfl rfl rfl wok_sub rfl (ls' := #[true, true, true, true, true, true, true, true, true, true, true, true, true, true, true, true, true, true, true, true, true, true, false, false, false, false, false, false, false, false, false, false, false]) rfl ?_
          refine d_q 22 rfl (by kernel_rfl) (q_pick_t rfl rfl) wok_sub rfl (ls' := #[true, true, true, true, true, true, true, true, true, true, true, true, true, true, true, true, true, true, true, true, true, true, true, false, false, false, false, false, false, false, false, false, false]) rfl ?_
          refine d_q 23 rfl (by kernel_rfl) (q_move rfl) wok_sub rfl (ls' := #[true, true, true, true, true, true, true, true, true, true, true, true, true, true, true, true, true, true, true, true, true, true, true, true, false, false, false, false, false, false, false, false, false]) rfl ?_
          refine d_gf 24 rfl (by kernel_rfl) rfl rfl rfl wok_sub rfl (ls' := #[true, true, true, true, true, true, true, true, true, true, true, true, true, true, true, true, true, true, true, true, true, true, true, true, true, false, false, false, false, false, false, false, false]) rfl ?_
          refine d_gf 25 rfl (by kernel_rfl) rfl rfl rfl wok_sub rfl (ls' := #[true, true, true, true, true, true, true, true, true, true, true, true, true, true, true, true, true, true, true, true, true, true, true, true, true, true, false, false, false, false, false, false, false]) rfl ?_
          refine d_gf 26 rfl (by kernel_rfl) rfl rfl rfl wok_sub rfl (ls' := #[true, true, true, true, true, true, true, true, true, true, true, true, true, true, true, true, true, true, true, true, true, true, true, true, true, true, true, false, false, false, false, false, false]) rfl ?_
          refine d_gf 27 rfl (by kernel_rfl) rfl rfl rfl wok_sub rfl (ls' := #[true, true, true, true, true, true, true, true, true, true, true, true, true, true, true, true, true, true, true, true, true, true, true, true, true, true, true, true, false, false, false, false, false]) rfl ?_
          refine d_gf 28 rfl (by kernel_rfl) rfl rfl rfl wok_sub rfl (ls' := #[true, true, true, true, true, true, true, true, true, true, true, true, true, true, true, true, true, true, true, true, true, true, true, true, true, true, true, true, true, false, false, false, false]) rfl ?_
          refine d_gf 29 rfl (by kernel_rfl) rfl rfl rfl wok_sub rfl (ls' := #[true, true, true, true, true, true, true, true, true, true, true, true, true, true, true, true, true, true, true, true, true, true, true, true, true, true, true, true, true, true, false, false, false]) rfl ?_
          refine d_gf 30 rfl (by kernel_rfl) rfl rfl rfl wok_sub rfl (ls' := #[true, true, true, true, true, true, true, true, true, true, true, true, true, true, true, true, true, true, true, true, true, true, true, true, true, true, true, true, true, true, true, false, false]) rfl ?_
          refine d_gf 31 rfl (by kernel_rfl) rfl rfl rfl wok_sub rfl (ls' := #[true, true, true, true, true, true, true, true, true, true, true, true, true, true, true, true, true, true, true, true, true, true, true, true, true, true, true, true, true, true, true, true, false]) rfl ?_
          refine d_q 32 rfl (by kernel_rfl) (q_pick_t rfl rfl) wok_sub rfl (ls' := #[true, true, true, true, true, true, true, true, true, true, true, true, true, true, true, true, true, true, true, true, true, true, true, true, true, true, true, true, true, true, true, true, true]) rfl ?_
          refine d_end (by kernel_rfl) (.inr wok_sub) ?_
          refine g_then ?_
          refine g_true rfl ?_
          refine g_seq ?_
          refine g_region ?_
          refine s_q (q_assign rfl) rfl ?_
          refine g_nil ?_
          refine g_then ?_
          refine g_ret ?_
          refine g_blk_ret (g_then_ret (g_then_ret (g_blk_ret (g_then_ret ?_))))
          exact fin1 rfl (.tmp rfl) (fun w' hw' => ⟨by first | rfl | (simp_all; done) | (simp_all; omega), hw'.upd⟩) _ (.inl rfl)
        · refine d_qg 5 rfl (by kernel_rfl) (q_move rfl) rfl rfl wok_sub rfl (ls' := #[true, true, true, true, true, true, false, false, false, false, false, false, false, false, false, false, false, false, false, false, false, false, false, false, false, false, false, false, false, false, false, false, false]) rfl ?_
          refine d_qg 7 rfl (by kernel_rfl) (q_move rfl) rfl rfl wok_sub rfl (ls' := #[true, true, true, true, true, true, false, true, false, false, false, false, false, false, false, false, false, false, false, false, false, false, false, false, false, false, false, false, false, false, false, false, false]) rfl ?_
          refine d_qg 8 rfl (by kernel_rfl) (q_nilck rfl) rfl rfl wok_sub rfl (ls' := #[true, true, true, true, true, true, false, true, true, false, false, false, false, false, false, false, false, false, false, false, false, false, false, false, false, false, false, false, false, false, false, false, false]) rfl ?_
          refine d_qg 9 rfl (by kernel_rfl) (q_field rfl) rfl rfl wok_sub rfl (ls' := #[true, true, true, true, true, true, false, true, true, true, false, false, false, false, false, false, false, false, false, false, false, false, false, false, false, false, false, false, false, false, false, false, false]) rfl ?_
          refine d_qg 10 rfl (by kernel_rfl) (q_load rfl rfl) rfl rfl wok_sub rfl (ls' := #[true, true, true, true, true, true, false, true, true, true, true, false, false, false, false, false, false, false, false, false, false, false, false, false, false, false, false, false, false, false, false, false, false]) rfl ?_
          refine d_opg 6 rfl (by kernel_rfl) (ls' := #[true, true, true, true, true, true, true, true, true, true, true, false, false, false, false, false, false, false, false, false, false, false, false, false, false, false, false, false, false, false, false, false, false]) rfl rfl rfl wok_sub (g_keep [Res.blk mb23 84 (M.c st51.2.2)] rfl (fun w1 hw1 ho1 => by exact mbalance_any mb23 st51.2.2 w1 ho1) rfl ?_)
          refine d_qg 11 rfl (by kernel_rfl) (q_neq rfl rfl) rfl rfl wok_sub rfl (ls' := #[true, true, true, true, true, true, true, true, true, true, true, true, false, false, false, false, false, false, false, false, false, false, false, false, false, false, false, false, false, false, false, false, false]) rfl ?_
          refine g_litb 70 (b := false) rfl (by rw [show (R.of st51.2.2).b = M.bal st51.2.2 from rfl]; simp) ?_
          refine d_q 12 rfl (by kernel_rfl) (q_pick_f rfl rfl) wok_sub rfl (ls' := #[true, true, true, true, true, true, true, true, true, true, true, true, true, false, false, false, false, false, false, false, false, false, false, false, false, false, false, false, false, false, false, false, false]) rfl ?_
          refine d_q 13 rfl (by kernel_rfl) (q_move rfl) wok_sub rfl (ls' := #[true, true, true, true, true, true, true, true, true, true, true, true, true, true, false, false, false, false, false, false, false, false, false, false, false, false, false, false, false, false, false, false, false]) rfl ?_
          refine d_qg 14 rfl (by kernel_rfl) (q_move rfl) rfl rfl wok_sub rfl (ls' := #[true, true, true, true, true, true, true, true, true, true, true, true, true, true, true, false, false, false, false, false, false, false, false, false, false, false, false, false, false, false, false, false, false]) rfl ?_
          refine d_qg 16 rfl (by kernel_rfl) (q_move rfl) rfl rfl wok_sub rfl (ls' := #[true, true, true, true, true, true, true, true, true, true, true, true, true, true, true, false, true, false, false, false, false, false, false, false, false, false, false, false, false, false, false, false, false]) rfl ?_
          refine d_qg 17 rfl (by kernel_rfl) (q_nilck rfl) rfl rfl wok_sub rfl (ls' := #[true, true, true, true, true, true, true, true, true, true, true, true, true, true, true, false, true, true, false, false, false, false, false, false, false, false, false, false, false, false, false, false, false]) rfl ?_
          refine d_qg 18 rfl (by kernel_rfl) (q_field rfl) rfl rfl wok_sub rfl (ls' := #[true, true, true, true, true, true, true, true, true, true, true, true, true, true, true, false, true, true, true, false, false, false, false, false, false, false, false, false, false, false, false, false, false]) rfl ?_
          refine d_qg 19 rfl (by kernel_rfl) (q_load rfl rfl) rfl rfl wok_sub rfl (ls' := #[true, true, true, true, true, true, true, true, true, true, true, true, true, true, true, false, true, true, true, true, false, false, false, false, false, false, false, false, false, false, false, false, false]) rfl ?_
          refine d_opg 15 rfl (by kernel_rfl) (ls' := #[true, true, true, true, true, true, true, true, true, true, true, true, true, true, true, true, true, true, true, true, false, false, false, false, false, false, false, false, false, false, false, false, false]) rfl rfl rfl wok_sub (g_ownS [Res.blk b22 77 [Value.pointer (some ⟨ba22, 0, none⟩), Value.pointer (some ⟨bb22, 0, none⟩)], Res.blk ba22 108 (Rg.c g51), Res.row (Rg.A g51) (Rg.s g51).length (Rg.cap g51) 3 1 (Rg.s g51), Res.blk bb22 108 (Rg.c gg51), Res.row (Rg.A gg51) (Rg.s gg51).length (Rg.cap gg51) 3 1 (Rg.s gg51)] rfl (fun w1 hw1 ho1 => by have h7 := lall_any b22 ba22 bb22 g51 gg51 st51.2.1 8 (0) w1 ho1 r51 rr51 s51 ss51 (by omega); exact h7) rfl ?_)
          rintro ⟨A74, cap74⟩ _
          refine ⟨_, _, inferInstance, inferInstance, ?_⟩
          refine d_opg 20 rfl (by kernel_rfl) (ls' := #[true, true, true, true, true, true, true, true, true, true, true, true, true, true, true, true, true, true, true, true, true, false, false, false, false, false, false, false, false, false, false, false, false]) rfl rfl rfl wok_sub (g_pure rfl (fun w1 hw1 => equal_i A74 A58 _ _ _ _ ((allL (0) st51.2.1)) ((st51.2.1).f) w1 (Rdb.toOld (InRow.rdb (A := A74) (els := ((allL (0) st51.2.1)).map (fun v : Int => [Value.int .i64 v])) (by first | rfl | assumption | (simp; done) | (simp_all; done) | (simp; omega) | (simp_all; omega)) (map_cat (c := (fun v : Int => [Value.int .i64 v])) (fun _ => rfl) _)) hw1) (Rdb.toOld (Rdb.ro (A := A58) (els := ((st51.2.1).f).map (fun v : Int => [Value.int .i64 v])) (by first | rfl | (simp; done)) (map_cat (c := (fun v : Int => [Value.int .i64 v])) (fun _ => rfl) _)) hw1) (row_max (A := A74) hw1)) rfl ?_)
          refine d_qg 21 rfl (by kernel_rfl) (q_not rfl) rfl rfl wok_sub rfl (ls' := #[true, true, true, true, true, true, true, true, true, true, true, true, true, true, true, true, true, true, true, true, true, true, false, false, false, false, false, false, false, false, false, false, false]) rfl ?_
          refine g_litb 80 (b := false) rfl (by simp [allL]) ?_
          refine d_q 22 rfl (by kernel_rfl) (q_pick_f rfl rfl) wok_sub rfl (ls' := #[true, true, true, true, true, true, true, true, true, true, true, true, true, true, true, true, true, true, true, true, true, true, true, false, false, false, false, false, false, false, false, false, false]) rfl ?_
          refine d_q 23 rfl (by kernel_rfl) (q_move rfl) wok_sub rfl (ls' := #[true, true, true, true, true, true, true, true, true, true, true, true, true, true, true, true, true, true, true, true, true, true, true, true, false, false, false, false, false, false, false, false, false]) rfl ?_
          refine d_qg 24 rfl (by kernel_rfl) (q_move rfl) rfl rfl wok_sub rfl (ls' := #[true, true, true, true, true, true, true, true, true, true, true, true, true, true, true, true, true, true, true, true, true, true, true, true, true, false, false, false, false, false, false, false, false]) rfl ?_
          refine d_qg 26 rfl (by kernel_rfl) (q_move rfl) rfl rfl wok_sub rfl (ls' := #[true, true, true, true, true, true, true, true, true, true, true, true, true, true, true, true, true, true, true, true, true, true, true, true, true, false, true, false, false, false, false, false, false]) rfl ?_
          refine d_qg 27 rfl (by kernel_rfl) (q_nilck rfl) rfl rfl wok_sub rfl (ls' := #[true, true, true, true, true, true, true, true, true, true, true, true, true, true, true, true, true, true, true, true, true, true, true, true, true, false, true, true, false, false, false, false, false]) rfl ?_
          refine d_qg 28 rfl (by kernel_rfl) (q_field rfl) rfl rfl wok_sub rfl (ls' := #[true, true, true, true, true, true, true, true, true, true, true, true, true, true, true, true, true, true, true, true, true, true, true, true, true, false, true, true, true, false, false, false, false]) rfl ?_
          refine d_qg 29 rfl (by kernel_rfl) (q_load rfl rfl) rfl rfl wok_sub rfl (ls' := #[true, true, true, true, true, true, true, true, true, true, true, true, true, true, true, true, true, true, true, true, true, true, true, true, true, false, true, true, true, true, false, false, false]) rfl ?_
          refine d_opg 25 rfl (by kernel_rfl) (ls' := #[true, true, true, true, true, true, true, true, true, true, true, true, true, true, true, true, true, true, true, true, true, true, true, true, true, true, true, true, true, true, false, false, false]) rfl rfl rfl wok_sub (g_ownS [Res.blk b22 77 [Value.pointer (some ⟨ba22, 0, none⟩), Value.pointer (some ⟨bb22, 0, none⟩)], Res.blk ba22 108 (Rg.c g51), Res.row (Rg.A g51) (Rg.s g51).length (Rg.cap g51) 3 1 (Rg.s g51), Res.blk bb22 108 (Rg.c gg51), Res.row (Rg.A gg51) (Rg.s gg51).length (Rg.cap gg51) 3 1 (Rg.s gg51)] rfl (fun w1 hw1 ho1 => by have h7 := lall_any b22 ba22 bb22 g51 gg51 st51.2.1 8 (1) w1 ho1 r51 rr51 s51 ss51 (by omega); exact h7) rfl ?_)
          rintro ⟨A84, cap84⟩ _
          refine ⟨_, _, inferInstance, inferInstance, ?_⟩
          refine d_opg 30 rfl (by kernel_rfl) (ls' := #[true, true, true, true, true, true, true, true, true, true, true, true, true, true, true, true, true, true, true, true, true, true, true, true, true, true, true, true, true, true, true, false, false]) rfl rfl rfl wok_sub (g_pure rfl (fun w1 hw1 => equal_i A84 AA58 _ _ _ _ ((allL (1) st51.2.1)) ((st51.2.1).v) w1 (Rdb.toOld (InRow.rdb (A := A84) (els := ((allL (1) st51.2.1)).map (fun v : Int => [Value.int .i64 v])) (by first | rfl | assumption | (simp; done) | (simp_all; done) | (simp; omega) | (simp_all; omega)) (map_cat (c := (fun v : Int => [Value.int .i64 v])) (fun _ => rfl) _)) hw1) (Rdb.toOld (Rdb.ro (A := AA58) (els := ((st51.2.1).v).map (fun v : Int => [Value.int .i64 v])) (by first | rfl | (simp; done)) (map_cat (c := (fun v : Int => [Value.int .i64 v])) (fun _ => rfl) _)) hw1) (row_max (A := A84) hw1)) rfl ?_)
          refine d_qg 31 rfl (by kernel_rfl) (q_not rfl) rfl rfl wok_sub rfl (ls' := #[true, true, true, true, true, true, true, true, true, true, true, true, true, true, true, true, true, true, true, true, true, true, true, true, true, true, true, true, true, true, true, true, false]) rfl ?_
          refine g_litb 90 (b := false) rfl (by simp [allL]) ?_
          refine d_q 32 rfl (by kernel_rfl) (q_pick_f rfl rfl) wok_sub rfl (ls' := #[true, true, true, true, true, true, true, true, true, true, true, true, true, true, true, true, true, true, true, true, true, true, true, true, true, true, true, true, true, true, true, true, true]) rfl ?_
          refine d_end (by kernel_rfl) (.inr wok_sub) ?_
          refine g_then ?_
          refine g_false rfl ?_
          refine g_skip ?_
          refine g_blk_n ?_
          refine g_then ?_
          refine g_region ?_
          refine s_q (q_inc rfl rfl (by omega)) rfl ?_
          refine s_q (q_move rfl) rfl ?_
          refine g_nil ?_
          exact g_again ((k + 1), g51, gg51, A58, c58, AA58, cc58, st51.2.1, st51.2.2) (by (try dsimp only); exact ⟨(by first | exact lt_k | omega), r51, rr51, s51, ss51, u58, uu58, hq51, hmk2⟩) (by first | omega | (simp only; omega)) (by repeat (first | exact trivial | refine ⟨rfl, ?_⟩)) wok_sub
      · have eq_k : k = l.length := by have h9 := of_decide_eq_false h3; omega
        refine g_exit ?_
        refine g_then_x (g_then_x (g_blk_hit ?_))
        refine g_then ?_
        refine g_seq ?_
        refine g_region ?_
        refine g_op (g_pure rfl (fun w1 hw1 => alive_any w1) rfl ?_)
        refine s_q (q_assign rfl) rfl ?_
        refine g_nil ?_
        refine g_then ?_
        refine g_ret ?_
        exact fin1 rfl (.tmp rfl) (fun w' hw' => ⟨by first | rfl | (simp_all; done) | (simp_all; omega), hw'.upd⟩) _ (.inl rfl)

theorem main_assignPlays (v0 : Value) (v1 : Value) (W : World) (a0 : Arg Try.prog W 22 v0) (a1 : Arg Try.prog W 23 v1) : Pur Try.prog 7 [v0, v1] W (.bool true) := by
  obtain ⟨A_l, c_l, l, rfl, hle0, hm0, o_l, k_l⟩ := Arg.slice Ro.c (fun x : Ro => x.ok W) Try.underlying22 (show Try.prog.cellsOf 37 = 3 by kernel_rfl) (by omega) (openRo) a0
  have h_l : l.length ≤ c_l ∧ c_l ≤ 9223372036854775807 := ⟨hle0, by unfold maxLen at hm0; omega⟩
  obtain ⟨A_ws, c_ws, ws, rfl, hle1, hm1, o_ws, k_ws⟩ := Arg.slice (fun v : Int => [Value.int .u64 v]) (fun x : Int => 0 ≤ x ∧ x ≤ 18446744073709551615) Try.underlying23 (show Try.prog.cellsOf 35 = 1 by kernel_rfl) (by omega) (fun f cs h => OKc.int Try.underlying35 h) a1
  have h_ws : ws.length ≤ c_ws ∧ c_ws ≤ 9223372036854775807 := ⟨hle1, by unfold maxLen at hm1; omega⟩
  exact law_assignPlays A_l c_l l A_ws c_ws ws W o_l h_l k_l o_ws h_ws k_ws

namespace LawAssignPlays
open Go.ChangeShapes Go.WideShapes Go.ChangeAt Go.RowKit Go.Eg
set_option linter.unusedVariables false
theorem own : ownKnob Try.prog.godebug = none := by kernel_rfl
theorem laidOut : laidOutB Try.prog = true := by kernel_rfl
set_option maxRecDepth 100000 in
theorem lifted (os : Os) (started : os.Started) (H : Type) (enc : TypeId × Value → H) :
    ReturnsInHanded {} Try.checked os 7 .any (Rows.assignPlaysSpec.pre6 enc Try.prog Try.f7 Rows.assignPlaysRow.domain false) (Rows.assignPlaysSpec.post enc Try.prog Try.f7 false true false false) := by
  refine returnsInHanded_of_change (C := Try.checked) own started (by kernel_rfl) Try.func7
    (ChangeSpec.witness6 (enc := enc) (C := Try.checked) false ⟨#[], #[.slice none 0 0, .slice none 0 0], []⟩ 8 (by kernel_rfl) (by kernel_rfl) (by kernel_rfl) (by kernel_rfl)) ?_
  intro W base args ds gs before hval0 hW hcnd _
  have hval : ∀ (j : Nat) t v, Try.f7.params[j]? = some t → args[j]? = some v → Value.okWide Try.prog W .any base t v := hval0
  have hW' := hW
  obtain ⟨p, q, hA0, hV, rfl, hfz, hnd⟩ := hW
  have hA : DataW.TrodAll enc Try.prog W 0 (fun _ => true) true Try.f7.params.toList args.toList ds p := hA0
  rw [Try.params7] at hA hval
  obtain ⟨v0, vs0, d0, ds0, p0, q0, hargs, rfl, rfl, h0, r0⟩ := trodAll_cons hA
  obtain ⟨v1, vs1, d1, ds1, p1, q1, rfl, rfl, rfl, h1, r1⟩ := trodAll_cons r0
  obtain ⟨rfl, rfl, rfl⟩ := trodAll_nil r1
  obtain rfl : args = #[v0, v1] := by cases args; simp_all
  obtain ⟨rfl, rfl⟩ := trodVars_none hV
  have a0 := Arg.of h0 (hval 0 22 v0 rfl rfl)
  have lt0 : ∀ x ∈ p0, x.block < W.heap.size := by obtain ⟨m, hm⟩ := h0; exact DataW.trod_lt m _ _ _ hm
  have a1 := Arg.of h1 (hval 1 23 v1 rfl rfl)
  have lt1 : ∀ x ∈ p1, x.block < W.heap.size := by obtain ⟨m, hm⟩ := h1; exact DataW.trod_lt m _ _ _ hm
  clear hA0 hval0
  simp only [List.append_nil] at hW'
  refine Calls.mono (main_assignPlays v0 v1 W a0 a1) ?_
  rintro e W' ⟨v, rfl, rfl, hu⟩
  have bel := hu.below
  have targ := (trodAll_cons_mk (Below.trod laidOut (by kernel_rfl) (of_decide_eq_true (by kernel_rfl)) h0 bel lt0) (trodAll_cons_mk (Below.trod laidOut (by kernel_rfl) (of_decide_eq_true (by kernel_rfl)) h1 bel lt1) trodAll_mk0))
  simp only [List.append_nil] at targ
  exact ⟨_, rfl, _, _, _, [], _, [], hW', trodAll_mk1 (shut_bool Try.underlying4 _), targ, rfl, bel.frame _, fun h => by cases h⟩
theorem over : Rows.assignPlaysRow.holds Try.pinned (OpenSpec.ofChange Rows.assignPlaysSpec) :=
  OpenClaim.holds_of_wide 7 Try.f7 rfl rfl rfl rfl rfl rfl rfl ⟨rfl, rfl, rfl, rfl, rfl⟩ rfl rfl rfl rfl rfl (by kernel_rfl) Try.func7 (by kernel_rfl)
    (of_decide_eq_true (by kernel_rfl)) (by unfold Func.isWrapper; first | (rw [if_pos (by decide +kernel)]; kernel_rfl) | (rw [if_neg (by decide +kernel)]; exact ⟨rfl, rfl⟩))
    (fun os started H enc _ => lifted os started H enc)
theorem proved : Rows.AssignPlaysSaid := over
end LawAssignPlays
end Go.Proofs.Ytmolaicpbaiioaa
