/- LanesPlay: for every size and every list of operations the law returns true. No condition. -/
import Derived.Test.YtdkedinnijobiaaW6
namespace Go.Proofs.Ytdkedinnijobiaa
open Go.RowKit Go.Eg
set_option linter.unusedSimpArgs false
set_option linter.unusedVariables false
set_option maxHeartbeats 400000 in
theorem law_lanesPlay_bad (z : Int) (A_l : Option Addr) (c_l : Nat) (l : List O) (w : World) (hz : z < 1 ∨ 4096 < z) (o_l : Old w A_l l.length 3 (l.map O.c)) (h_l : l.length ≤ c_l ∧ c_l ≤ 9223372036854775807) (k_l : ∀ x ∈ l, (fun x : O => True) x) : Pur Try.prog 7 [.int .i64 z, .slice A_l l.length c_l] w (.bool true) := by
  refine g_start Try.func7 rfl 50 rfl (by simp) ([]) [] (WOK.start _ _) _ rfl ?_
  refine g_seq ?_
  refine g_region ?_
  refine s_q (q_assign rfl) rfl ?_
  refine g_nil ?_
  refine g_then ?_
  refine g_seq ?_
  refine g_region ?_
  refine s_q (q_move rfl) rfl ?_
  refine g_op (g_pure rfl (fun w1 hw1 => lnew_bad z w1 hz) rfl ?_)
  refine s_q (q_assign rfl) rfl ?_
  refine g_nil ?_
  refine g_then ?_
  refine g_seq ?_
  refine g_seq ?_
  refine g_region ?_
  refine s_q (q_move rfl) rfl ?_
  refine s_q (q_lss rfl rfl) rfl ?_
  refine s_q (q_move rfl) rfl ?_
  refine g_split 13 rfl (fun h1 => ?_) (fun h1 => ?_)
  · refine g_gf rfl rfl rfl rfl ?_
    refine g_gf rfl rfl rfl rfl ?_
    refine s_q (q_pick_t rfl rfl) rfl ?_
    refine g_nil ?_
    refine g_then ?_
    refine g_true rfl ?_
    refine g_seq ?_
    refine g_region ?_
    refine g_op (g_pure rfl (fun w1 hw1 => alive_any w1) rfl ?_)
    refine s_q (q_move rfl) rfl ?_
    refine s_qg (q_move rfl) rfl rfl rfl ?_
    refine s_qg (q_eqp (b := true) rfl rfl rfl) rfl rfl rfl ?_
    refine s_q (q_pick_t rfl rfl) rfl ?_
    refine s_q (q_assign rfl) rfl ?_
    refine g_nil ?_
    refine g_then ?_
    refine g_ret ?_
    refine g_then_ret ?_
    exact fin1 rfl (.tmp rfl) (fun w' hw' => ⟨by first | rfl | (simp_all; done) | (simp_all; omega), hw'.upd⟩) _ (.inl rfl)
  · refine s_qg (q_move rfl) rfl rfl rfl ?_
    refine s_qg (q_gtr rfl rfl) rfl rfl rfl ?_
    refine s_q (q_pick_f rfl rfl) rfl ?_
    refine g_nil ?_
    refine g_then ?_
    refine g_cond rfl (fun h2 => ?_) (fun h2 => ?_)
    · refine g_seq ?_
      refine g_region ?_
      refine g_op (g_pure rfl (fun w1 hw1 => alive_any w1) rfl ?_)
      refine s_q (q_move rfl) rfl ?_
      refine s_qg (q_move rfl) rfl rfl rfl ?_
      refine s_qg (q_eqp (b := true) rfl rfl rfl) rfl rfl rfl ?_
      refine s_q (q_pick_t rfl rfl) rfl ?_
      refine s_q (q_assign rfl) rfl ?_
      refine g_nil ?_
      refine g_then ?_
      refine g_ret ?_
      refine g_then_ret ?_
      exact fin1 rfl (.tmp rfl) (fun w' hw' => ⟨by first | rfl | (simp_all; done) | (simp_all; omega), hw'.upd⟩) _ (.inl rfl)
    · exfalso; simp at h1 h2; omega

set_option maxHeartbeats 400000 in
theorem law_lanesPlay_ok (n : Nat) (A_l : Option Addr) (c_l : Nat) (l : List O) (w : World) (hn : 1 ≤ n ∧ n ≤ 4096) (o_l : Old w A_l l.length 3 (l.map O.c)) (h_l : l.length ≤ c_l ∧ c_l ≤ 9223372036854775807) (k_l : ∀ x ∈ l, (fun x : O => True) x) : Pur Try.prog 7 [.int .i64 ((n : Nat) : Int), .slice A_l l.length c_l] w (.bool true) := by
  refine g_start Try.func7 rfl 50 rfl (by simp) ([]) [] (WOK.start _ _) _ rfl ?_
  refine g_seq ?_
  refine g_region ?_
  refine s_q (q_assign rfl) rfl ?_
  refine g_nil ?_
  refine g_then ?_
  refine g_seq ?_
  refine g_region ?_
  refine s_q (q_move rfl) rfl ?_
  refine g_op (g_ownS [] rfl (fun w1 hw1 ho1 => by have h7 := lnew_any (n) w1 (by omega); exact h7) rfl ?_)
  rintro ⟨b10, ba10, bb10, g10, gg10⟩ ⟨r10, s10, rr10, ss10⟩
  refine ⟨_, _, inferInstance, inferInstance, ?_⟩
  simp only at r10 s10 rr10 ss10
  refine s_q (q_assign rfl) rfl ?_
  refine g_nil ?_
  refine g_then ?_
  refine g_seq ?_
  refine g_seq ?_
  refine g_region ?_
  refine s_q (q_move rfl) rfl ?_
  refine s_q (q_lss rfl rfl) rfl ?_
  refine g_litb 12 (b := false) rfl (by simp; omega) ?_
  refine s_q (q_move rfl) rfl ?_
  refine s_qg (q_move rfl) rfl rfl rfl ?_
  refine s_qg (q_gtr rfl rfl) rfl rfl rfl ?_
  refine g_litb 15 (b := false) rfl (by simp; omega) ?_
  refine s_q (q_pick_f rfl rfl) rfl ?_
  refine g_nil ?_
  refine g_then ?_
  refine g_false rfl ?_
  refine g_skip ?_
  refine g_then ?_
  refine g_seq ?_
  refine g_seq ?_
  refine g_region ?_
  refine s_q (q_move rfl) rfl ?_
  refine s_q (q_eqp (b := false) rfl rfl rfl) rfl ?_
  refine g_nil ?_
  refine g_then ?_
  refine g_false rfl ?_
  refine g_skip ?_
  refine g_then ?_
  refine g_seq ?_
  refine g_seq ?_
  refine g_region ?_
  refine s_q (q_move rfl) rfl ?_
  refine s_q (q_len rfl) rfl ?_
  refine s_q (q_gtr rfl rfl) rfl ?_
  refine g_nil ?_
  refine g_then ?_
  refine g_cond rfl (fun h1 => ?_) (fun h1 => ?_)
  · refine g_seq ?_
    refine g_region ?_
    refine g_op (g_pure rfl (fun w1 hw1 => alive_any w1) rfl ?_)
    refine s_q (q_assign rfl) rfl ?_
    refine g_nil ?_
    refine g_then ?_
    refine g_ret ?_
    refine g_then_ret ?_
    exact fin1 rfl (.tmp rfl) (fun w' hw' => ⟨by first | rfl | (simp_all; done) | (simp_all; omega), hw'.upd⟩) _ (.inl rfl)
  · refine g_skip ?_
    refine g_then ?_
    refine g_seq ?_
    refine g_region ?_
    refine s_q (q_move rfl) rfl ?_
    refine s_q (q_build (c := [Value.slice none ((LL.mk [] [])).f.length 0, Value.slice none ((LL.mk [] [])).v.length 0, Value.int .i64 ((n : Nat) : Int)]) rfl rfl) rfl ?_
    refine g_op (g_box (c := [Value.slice none ((LL.mk [] [])).f.length 0, Value.slice none ((LL.mk [] [])).v.length 0, Value.int .i64 ((n : Nat) : Int)]) rfl rfl rfl fun b30 => ?_)
    refine g_roNil none 1 ?_
    refine g_roEq (A := none) (n := 0) (els := []) ((LL.mk [] [])).v.length (((LL.mk [] [])).v.map (fun v : Int => [Value.int .i64 v])) rfl rfl ?_
    refine g_roNil none 1 ?_
    refine g_roEq (A := none) (n := 0) (els := []) ((LL.mk [] [])).f.length (((LL.mk [] [])).f.map (fun v : Int => [Value.int .i64 v])) rfl rfl ?_
    refine s_q (q_assign rfl) rfl ?_
    refine g_nil ?_
    refine g_then ?_
    refine g_seq ?_
    refine g_seq ?_
    refine g_region ?_
    refine s_q (q_move rfl) rfl ?_
    refine s_q (q_len rfl) rfl ?_
    refine s_q (q_move rfl) rfl ?_
    refine g_nil ?_
    refine g_then ?_
    refine g_block ?_
    refine g_loopk [4, 5, 6, 31, 32] (fun (x : Nat × Rg × Rg × Option Addr × Nat × Option Addr × Nat × LL) => [(33, .int .i64 ((x.1 : Nat) : Int))]) (fun (x : Nat × Rg × Rg × Option Addr × Nat × Option Addr × Nat × LL) => [Res.blk b10 52 [Value.pointer (some ⟨ba10, 0, none⟩), Value.pointer (some ⟨bb10, 0, none⟩)], Res.blk ba10 64 (Rg.c x.2.1), Res.row (Rg.A x.2.1) (Rg.s x.2.1).length (Rg.cap x.2.1) 3 1 (Rg.s x.2.1), Res.blk bb10 64 (Rg.c x.2.2.1), Res.row (Rg.A x.2.2.1) (Rg.s x.2.2.1).length (Rg.cap x.2.2.1) 3 1 (Rg.s x.2.2.1), Res.blk b30 42 [Value.slice x.2.2.2.1 (x.2.2.2.2.2.2.2).f.length x.2.2.2.2.1, Value.slice x.2.2.2.2.2.1 (x.2.2.2.2.2.2.2).v.length x.2.2.2.2.2.2.1, Value.int .i64 ((n : Nat) : Int)], Res.ro x.2.2.2.1 (x.2.2.2.2.2.2.2).f.length 1 ((x.2.2.2.2.2.2.2).f.map (fun v : Int => [Value.int .i64 v])), Res.ro x.2.2.2.2.2.1 (x.2.2.2.2.2.2.2).v.length 1 ((x.2.2.2.2.2.2.2).v.map (fun v : Int => [Value.int .i64 v]))]) (fun (x : Nat × Rg × Rg × Option Addr × Nat × Option Addr × Nat × LL) => x.1 ≤ l.length ∧ Rg.Rep x.2.1 1 ((x.2.2.2.2.2.2.2).f.map (fun v : Int => [Value.int .i64 v])) ∧ Rg.Rep x.2.2.1 1 ((x.2.2.2.2.2.2.2).v.map (fun v : Int => [Value.int .i64 v])) ∧ Rg.size x.2.1 = n ∧ Rg.size x.2.2.1 = n ∧ (x.2.2.2.2.2.2.2).f.length ≤ x.2.2.2.2.1 ∧ (x.2.2.2.2.2.2.2).v.length ≤ x.2.2.2.2.2.2.1 ∧ ((x.2.2.2.2.2.2.2).f.length ≤ n ∧ (x.2.2.2.2.2.2.2).v.length ≤ n)) (fun (x : Nat × Rg × Rg × Option Addr × Nat × Option Addr × Nat × LL) => l.length - x.1) (0, g10, gg10, none, 0, none, 0, (LL.mk [] [])) (by (try dsimp only); exact ⟨Nat.zero_le _, r10, rr10, s10, ss10, (by simp), (by simp), ⟨by simp, by simp⟩⟩) rfl (by repeat (first | exact trivial | refine ⟨rfl, ?_⟩)) wok_sub ?_
    rintro ⟨k, g1, g2, A0, c0, A1, c1, q⟩ ⟨le_k, h0, hh1, s0, ss1, u0, u1, hq⟩
    replace le_k : k ≤ l.length := le_k
    replace h0 : Rg.Rep g1 1 ((q).f.map (fun v : Int => [Value.int .i64 v])) := h0
    replace hh1 : Rg.Rep g2 1 ((q).v.map (fun v : Int => [Value.int .i64 v])) := hh1
    replace s0 : Rg.size g1 = n := s0
    replace ss1 : Rg.size g2 = n := ss1
    replace u0 : (q).f.length ≤ c0 := u0
    replace u1 : (q).v.length ≤ c1 := u1
    replace hq : (q).f.length ≤ n ∧ (q).v.length ≤ n := hq
    refine g_setL (L' := [Res.blk b10 52 [Value.pointer (some ⟨ba10, 0, none⟩), Value.pointer (some ⟨bb10, 0, none⟩)], Res.blk ba10 64 (Rg.c g1), Res.row (Rg.A g1) (Rg.s g1).length (Rg.cap g1) 3 1 (Rg.s g1), Res.blk bb10 64 (Rg.c g2), Res.row (Rg.A g2) (Rg.s g2).length (Rg.cap g2) 3 1 (Rg.s g2), Res.blk b30 42 [Value.slice A0 (q).f.length c0, Value.slice A1 (q).v.length c1, Value.int .i64 ((n : Nat) : Int)], Res.ro A0 (q).f.length 1 ((q).f.map (fun v : Int => [Value.int .i64 v])), Res.ro A1 (q).v.length 1 ((q).v.map (fun v : Int => [Value.int .i64 v]))]) rfl ?_
    refine g_val 33 (v' := .int .i64 ((k : Nat) : Int)) rfl rfl ?_
    refine g_seq ?_
    refine g_region ?_
    refine s_q (q_lss rfl rfl) rfl ?_
    refine g_nil ?_
    refine g_then ?_
    refine g_seq ?_
    refine g_cond rfl (fun h2 => ?_) (fun h2 => ?_)
    · have lt_k : k < l.length := by have h9 := of_decide_eq_true h2; omega
      refine g_skip ?_
      refine g_then ?_
      refine g_seq ?_
      refine g_block ?_
      refine g_seq ?_
      refine g_region ?_
      refine s_q (q_index (i := k) rfl rfl rfl (o_l.rdb rfl) (by first | exact lt_k | omega)) rfl ?_
      refine s_q (q_load_ew (i := k) rfl (o_l.rdb rfl) (map_get (by first | assumption | omega)) rfl) rfl ?_
      refine g_op (g_alloc rfl fun b8 => ?_)
      refine g_op (g_storew rfl rfl rfl rfl rfl ?_)
      refine g_nil ?_
      refine g_then ?_
      refine g_seq ?_
      refine g_region ?_
      refine s_q (q_move rfl) rfl ?_
      refine s_q (q_move rfl) rfl ?_
      refine s_q (q_loadw rfl rfl) rfl ?_
      refine g_op (g_ownS [Res.blk b10 52 [Value.pointer (some ⟨ba10, 0, none⟩), Value.pointer (some ⟨bb10, 0, none⟩)], Res.blk ba10 64 (Rg.c g1), Res.row (Rg.A g1) (Rg.s g1).length (Rg.cap g1) 3 1 (Rg.s g1), Res.blk bb10 64 (Rg.c g2), Res.row (Rg.A g2) (Rg.s g2).length (Rg.cap g2) 3 1 (Rg.s g2), Res.blk b30 42 [Value.slice A0 (q).f.length c0, Value.slice A1 (q).v.length c1, Value.int .i64 ((n : Nat) : Int)], Res.ro A0 (q).f.length 1 ((q).f.map (fun v : Int => [Value.int .i64 v])), Res.ro A1 (q).v.length 1 ((q).v.map (fun v : Int => [Value.int .i64 v]))] rfl (fun w1 hw1 ho1 => by have h7 := do_any b10 ba10 bb10 g1 g2 b30 A0 A1 c0 c1 q n (l[k]'lt_k) w1 ho1 h0 hh1 s0 ss1 (by omega) u0 u1 hq; exact h7) rfl ?_)
      rintro ⟨g40, gg40, A40, c40, AA40, cc40⟩ ⟨r40, rr40, s40, ss40, u40, uu40⟩
      refine ⟨_, _, inferInstance, inferInstance, ?_⟩
      simp only at r40 rr40 s40 ss40 u40 uu40
      have hq40 := doL_len (l[k]'lt_k) hq
      refine s_q (q_not rfl) rfl ?_
      refine s_q (q_move rfl) rfl ?_
      refine s_qg (q_move rfl) rfl rfl rfl ?_
      refine s_qg (q_move rfl) rfl rfl rfl ?_
      refine g_gt rfl rfl (g_keep [Res.blk b10 52 [Value.pointer (some ⟨ba10, 0, none⟩), Value.pointer (some ⟨bb10, 0, none⟩)], Res.blk ba10 64 (Rg.c g40), Res.row (Rg.A g40) (Rg.s g40).length (Rg.cap g40) 3 1 (Rg.s g40), Res.blk bb10 64 (Rg.c gg40), Res.row (Rg.A gg40) (Rg.s gg40).length (Rg.cap gg40) 3 1 (Rg.s gg40), Res.blk b30 42 [Value.slice A40 ((doL n (l[k]'lt_k) q)).f.length c40, Value.slice AA40 ((doL n (l[k]'lt_k) q)).v.length cc40, Value.int .i64 ((n : Nat) : Int)], Res.ro A40 ((doL n (l[k]'lt_k) q)).f.length 1 (((doL n (l[k]'lt_k) q)).f.map (fun v : Int => [Value.int .i64 v])), Res.ro AA40 ((doL n (l[k]'lt_k) q)).v.length 1 (((doL n (l[k]'lt_k) q)).v.map (fun v : Int => [Value.int .i64 v]))] rfl (fun w1 hw1 ho1 => by exact same_any b10 ba10 bb10 g40 gg40 b30 A40 AA40 c40 cc40 (doL n (l[k]'lt_k) q) n w1 ho1 r40 rr40 s40 ss40 (by omega) u40 uu40 hq40) rfl ?_)
      refine s_qg (q_not rfl) rfl rfl rfl ?_
      refine s_q (q_pick_f rfl rfl) rfl ?_
      refine g_nil ?_
      refine g_then ?_
      refine g_false rfl ?_
      refine g_skip ?_
      refine g_blk_n ?_
      refine g_then ?_
      refine g_region ?_
      refine s_q (q_inc rfl rfl (by omega)) rfl ?_
      refine s_q (q_move rfl) rfl ?_
      refine g_nil ?_
      exact g_again ((k + 1), g40, gg40, A40, c40, AA40, cc40, (doL n (l[k]'lt_k) q)) (by (try dsimp only); exact ⟨(by first | exact lt_k | omega), r40, rr40, s40, ss40, u40, uu40, hq40⟩) (by first | omega | (simp only; omega)) (by repeat (first | exact trivial | refine ⟨rfl, ?_⟩)) wok_sub
    · have eq_k : k = l.length := by have h9 := of_decide_eq_false h2; omega
      refine g_exit ?_
      refine g_then_x (g_then_x (g_blk_hit ?_))
      refine g_then ?_
      refine g_seq ?_
      refine g_region ?_
      refine g_op (g_pure rfl (fun w1 hw1 => alive_any w1) rfl ?_)
      refine s_q (q_assign rfl) rfl ?_
      refine g_nil ?_
      refine g_then ?_
      refine g_ret ?_
      exact fin1 rfl (.tmp rfl) (fun w' hw' => ⟨by first | rfl | (simp_all; done) | (simp_all; omega), hw'.upd⟩) _ (.inl rfl)

theorem main_lanesPlay (v0 : Value) (v1 : Value) (W : World) (a0 : Arg Try.prog W 3 v0) (a1 : Arg Try.prog W 22 v1) : Pur Try.prog 7 [v0, v1] W (.bool true) := by
  obtain ⟨z, rfl, h_z⟩ := Arg.int Try.underlying3 a0
  obtain ⟨A_l, c_l, l, rfl, hle1, hm1, o_l, k_l⟩ := Arg.slice O.c (fun x : O => True) Try.underlying22 (show Try.prog.cellsOf 27 = 3 by kernel_rfl) (by omega) (openO) a1
  have h_l : l.length ≤ c_l ∧ c_l ≤ 9223372036854775807 := ⟨hle1, by unfold maxLen at hm1; omega⟩
  by_cases hz : z < 1 ∨ 4096 < z
  · exact law_lanesPlay_bad z A_l c_l l W hz o_l h_l k_l
  · obtain ⟨n, rfl⟩ : ∃ n : Nat, z = n := ⟨z.toNat, by omega⟩
    exact law_lanesPlay_ok n A_l c_l l W (by omega) o_l h_l k_l

namespace LawLanesPlay
open Go.ChangeShapes Go.WideShapes Go.ChangeAt Go.RowKit Go.Eg
set_option linter.unusedVariables false
theorem own : ownKnob Try.prog.godebug = none := by kernel_rfl
theorem laidOut : laidOutB Try.prog = true := by kernel_rfl
set_option maxRecDepth 100000 in
theorem lifted (os : Os) (started : os.Started) (H : Type) (enc : TypeId × Value → H) :
    ReturnsInHanded {} Try.checked os 7 .any (Rows.lanesPlaySpec.pre6 enc Try.prog Try.f7 Rows.lanesPlayRow.domain false) (Rows.lanesPlaySpec.post enc Try.prog Try.f7 false true false false) := by
  refine returnsInHanded_of_change (C := Try.checked) own started (by kernel_rfl) Try.func7
    (ChangeSpec.witness6 (enc := enc) (C := Try.checked) false ⟨#[], #[.int .i64 0, .slice none 0 0], []⟩ 8 (by kernel_rfl) (by kernel_rfl) (by kernel_rfl) (by kernel_rfl)) ?_
  intro W base args ds gs before hval0 hW hcnd _
  have hval : ∀ (j : Nat) t v, Try.f7.params[j]? = some t → args[j]? = some v → Value.okWide Try.prog W .any base t v := hval0
  have hW' := hW
  obtain ⟨p, q, hA0, hV, rfl, hfz, hnd⟩ := hW
  have hA : DataW.TrodAll enc Try.prog W 0 (fun _ => true) true Try.f7.params.toList args.toList ds p := hA0
  rw [Try.params7] at hA hval
  obtain ⟨v0, vs0, d0, ds0, p0, q0, hargs, rfl, rfl, h0, r0⟩ := trodAll_cons hA
  obtain ⟨v1, vs1, d1, ds1, p1, q1, rfl, rfl, rfl, h1, r1⟩ := trodAll_cons r0
  obtain ⟨rfl, rfl, rfl⟩ := trodAll_nil r1
  obtain rfl : args = #[v0, v1] := by cases args; simp_all
  obtain ⟨rfl, rfl⟩ := trodVars_none hV
  have a0 := Arg.of h0 (hval 0 3 v0 rfl rfl)
  have lt0 : ∀ x ∈ p0, x.block < W.heap.size := by obtain ⟨m, hm⟩ := h0; exact DataW.trod_lt m _ _ _ hm
  have a1 := Arg.of h1 (hval 1 22 v1 rfl rfl)
  have lt1 : ∀ x ∈ p1, x.block < W.heap.size := by obtain ⟨m, hm⟩ := h1; exact DataW.trod_lt m _ _ _ hm
  clear hA0 hval0
  simp only [List.append_nil] at hW'
  refine Calls.mono (main_lanesPlay v0 v1 W a0 a1) ?_
  rintro e W' ⟨v, rfl, rfl, hu⟩
  have bel := hu.below
  have targ := (trodAll_cons_mk (Below.trod laidOut (by kernel_rfl) (of_decide_eq_true (by kernel_rfl)) h0 bel lt0) (trodAll_cons_mk (Below.trod laidOut (by kernel_rfl) (of_decide_eq_true (by kernel_rfl)) h1 bel lt1) trodAll_mk0))
  simp only [List.append_nil] at targ
  exact ⟨_, rfl, _, _, _, [], _, [], hW', trodAll_mk1 (shut_bool Try.underlying4 _), targ, rfl, bel.frame _, fun h => by cases h⟩
theorem over : Rows.lanesPlayRow.holds Try.pinned (OpenSpec.ofChange Rows.lanesPlaySpec) :=
  OpenClaim.holds_of_wide 7 Try.f7 rfl rfl rfl rfl rfl rfl rfl ⟨rfl, rfl, rfl, rfl, rfl⟩ rfl rfl rfl rfl rfl (by kernel_rfl) Try.func7 (by kernel_rfl)
    (of_decide_eq_true (by kernel_rfl)) (by unfold Func.isWrapper; first | (rw [if_pos (by decide +kernel)]; kernel_rfl) | (rw [if_neg (by decide +kernel)]; exact ⟨rfl, rfl⟩))
    (fun os started H enc _ => lifted os started H enc)
theorem proved : Rows.LanesPlaySaid := over
end LawLanesPlay
end Go.Proofs.Ytdkedinnijobiaa
