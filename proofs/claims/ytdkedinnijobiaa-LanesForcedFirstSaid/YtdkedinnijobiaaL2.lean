/- LanesForcedFirst: for every size and every list of operations the law returns true. No condition. -/
import Derived.Test.YtdkedinnijobiaaW6
namespace Go.Proofs.Ytdkedinnijobiaa
open Go.RowKit Go.Eg
set_option linter.unusedSimpArgs false
set_option linter.unusedVariables false
set_option maxHeartbeats 400000 in
theorem law_lanesForcedFirst (n : Nat) (A_l : Option Addr) (c_l : Nat) (l : List O) (w : World) (h_n : n < 256) (o_l : Old w A_l l.length 3 (l.map O.c)) (h_l : l.length ≤ c_l ∧ c_l ≤ 9223372036854775807) (k_l : ∀ x ∈ l, (fun x : O => True) x) : Pur Try.prog 3 [.int .u8 ((n : Nat) : Int), .slice A_l l.length c_l] w (.bool true) := by
  refine g_start Try.func3 rfl 66 rfl (by simp) ([]) [] (WOK.start _ _) _ rfl ?_
  refine g_seq ?_
  refine g_region ?_
  refine s_q (q_assign rfl) rfl ?_
  refine g_nil ?_
  refine g_then ?_
  refine g_seq ?_
  refine g_region ?_
  refine s_q (q_move rfl) rfl ?_
  refine s_q (q_convz (z := ((n : Nat) : Int)) rfl (wi64 (by omega) (by omega))) rfl ?_
  refine s_q (q_inc rfl rfl (by omega)) rfl ?_
  refine g_op (g_ownS [] rfl (fun w1 hw1 ho1 => by have h7 := lnew_any ((n + 1)) w1 (by omega); exact h7) rfl ?_)
  rintro ⟨b16, ba16, bb16, g16, gg16⟩ ⟨r16, s16, rr16, ss16⟩
  refine ⟨_, _, inferInstance, inferInstance, ?_⟩
  simp only at r16 s16 rr16 ss16
  refine s_q (q_assign rfl) rfl ?_
  refine g_nil ?_
  refine g_then ?_
  refine g_seq ?_
  refine g_seq ?_
  refine g_region ?_
  refine s_q (q_move rfl) rfl ?_
  refine s_q (q_eqp (b := false) rfl rfl rfl) rfl ?_
  refine g_nil ?_
  refine g_then ?_
  refine g_false rfl ?_
  refine g_skip ?_
  refine g_then ?_
  refine g_seq ?_
  refine g_seq ?_
  refine g_region ?_
  refine s_q (q_move rfl) rfl ?_
  refine s_q (q_len rfl) rfl ?_
  refine s_q (q_gtr rfl rfl) rfl ?_
  refine g_nil ?_
  refine g_then ?_
  refine g_cond rfl (fun h1 => ?_) (fun h1 => ?_)
  · refine g_seq ?_
    refine g_region ?_
    refine g_op (g_pure rfl (fun w1 hw1 => alive_any w1) rfl ?_)
    refine s_q (q_assign rfl) rfl ?_
    refine g_nil ?_
    refine g_then ?_
    refine g_ret ?_
    refine g_then_ret ?_
    exact fin1 rfl (.tmp rfl) (fun w' hw' => ⟨by first | rfl | (simp_all; done) | (simp_all; omega), hw'.upd⟩) _ (.inl rfl)
  · refine g_skip ?_
    refine g_then ?_
    refine g_seq ?_
    refine g_seq ?_
    refine g_region ?_
    refine s_q (q_move rfl) rfl ?_
    refine s_q (q_len rfl) rfl ?_
    refine s_q (q_move rfl) rfl ?_
    refine g_nil ?_
    refine g_then ?_
    refine g_block ?_
    refine g_loopk [4, 5, 23, 24] (fun (x : Nat × Rg × Rg × LL) => [(25, .int .i64 ((x.1 : Nat) : Int))]) (fun (x : Nat × Rg × Rg × LL) => [Res.blk b16 52 [Value.pointer (some ⟨ba16, 0, none⟩), Value.pointer (some ⟨bb16, 0, none⟩)], Res.blk ba16 64 (Rg.c x.2.1), Res.row (Rg.A x.2.1) (Rg.s x.2.1).length (Rg.cap x.2.1) 3 1 (Rg.s x.2.1), Res.blk bb16 64 (Rg.c x.2.2.1), Res.row (Rg.A x.2.2.1) (Rg.s x.2.2.1).length (Rg.cap x.2.2.1) 3 1 (Rg.s x.2.2.1)]) (fun (x : Nat × Rg × Rg × LL) => x.1 ≤ l.length ∧ Rg.Rep x.2.1 1 ((x.2.2.2).f.map (fun v : Int => [Value.int .i64 v])) ∧ Rg.Rep x.2.2.1 1 ((x.2.2.2).v.map (fun v : Int => [Value.int .i64 v])) ∧ Rg.size x.2.1 = (n + 1) ∧ Rg.size x.2.2.1 = (n + 1)) (fun (x : Nat × Rg × Rg × LL) => l.length - x.1) (0, g16, gg16, (LL.mk [] [])) (by (try dsimp only); exact ⟨Nat.zero_le _, r16, rr16, s16, ss16⟩) rfl (by repeat (first | exact trivial | refine ⟨rfl, ?_⟩)) wok_sub ?_
    rintro ⟨k, g1, g2, q⟩ ⟨le_k, h0, hh1, s0, ss1⟩
    replace le_k : k ≤ l.length := le_k
    replace h0 : Rg.Rep g1 1 ((q).f.map (fun v : Int => [Value.int .i64 v])) := h0
    replace hh1 : Rg.Rep g2 1 ((q).v.map (fun v : Int => [Value.int .i64 v])) := hh1
    replace s0 : Rg.size g1 = (n + 1) := s0
    replace ss1 : Rg.size g2 = (n + 1) := ss1
    refine g_setL (L' := [Res.blk b16 52 [Value.pointer (some ⟨ba16, 0, none⟩), Value.pointer (some ⟨bb16, 0, none⟩)], Res.blk ba16 64 (Rg.c g1), Res.row (Rg.A g1) (Rg.s g1).length (Rg.cap g1) 3 1 (Rg.s g1), Res.blk bb16 64 (Rg.c g2), Res.row (Rg.A g2) (Rg.s g2).length (Rg.cap g2) 3 1 (Rg.s g2)]) rfl ?_
    refine g_val 25 (v' := .int .i64 ((k : Nat) : Int)) rfl rfl ?_
    have e0 := h0.num; have e1 := hh1.num; have e2 := h0.sz; have e3 := hh1.sz; have e4 := h0.le; have e5 := hh1.le
    have e6 : (allL 0 q).length ≤ 4096 ∧ (allL 1 q).length ≤ 4096 := by simp [allL]; omega
    refine g_seq ?_
    refine g_region ?_
    refine s_q (q_lss rfl rfl) rfl ?_
    refine g_nil ?_
    refine g_then ?_
    refine g_seq ?_
    refine g_cond rfl (fun h2 => ?_) (fun h2 => ?_)
    · have lt_k : k < l.length := by have h9 := of_decide_eq_true h2; omega
      refine g_skip ?_
      refine g_then ?_
      refine g_seq ?_
      refine g_block ?_
      refine g_seq ?_
      refine g_region ?_
      refine s_q (q_index (i := k) rfl rfl rfl (o_l.rdb rfl) (by first | exact lt_k | omega)) rfl ?_
      refine s_q (q_load_ew (i := k) rfl (o_l.rdb rfl) (map_get (by first | assumption | omega)) rfl) rfl ?_
      refine g_op (g_alloc rfl fun b7 => ?_)
      refine g_op (g_storew rfl rfl rfl rfl rfl ?_)
      refine g_nil ?_
      refine g_then ?_
      refine g_seq ?_
      refine g_seq ?_
      refine g_region ?_
      refine s_q (q_field rfl) rfl ?_
      refine s_q (q_load rfl rfl) rfl ?_
      refine s_q (q_not rfl) rfl ?_
      refine g_nil ?_
      refine g_then ?_
      refine g_cond rfl (fun h3 => ?_) (fun h3 => ?_)
      · refine g_seq ?_
        refine g_region ?_
        refine s_q (q_move rfl) rfl ?_
        refine s_q (q_field rfl) rfl ?_
        refine s_q (q_load rfl rfl) rfl ?_
        refine s_q (q_field rfl) rfl ?_
        refine s_q (q_load rfl rfl) rfl ?_
        refine g_op (g_ownS [Res.blk b16 52 [Value.pointer (some ⟨ba16, 0, none⟩), Value.pointer (some ⟨bb16, 0, none⟩)], Res.blk ba16 64 (Rg.c g1), Res.row (Rg.A g1) (Rg.s g1).length (Rg.cap g1) 3 1 (Rg.s g1), Res.blk bb16 64 (Rg.c g2), Res.row (Rg.A g2) (Rg.s g2).length (Rg.cap g2) 3 1 (Rg.s g2)] rfl (fun w1 hw1 ho1 => by have h7 := lpush_any b16 ba16 bb16 g1 g2 q (n + 1) ((l[k]'lt_k).cls) ((l[k]'lt_k).i) w1 ho1 h0 hh1 s0 ss1 (by omega); exact h7) rfl ?_)
        rintro ⟨g37, gg37⟩ ⟨r37, rr37, s37, ss37⟩
        refine ⟨_, _, inferInstance, inferInstance, ?_⟩
        simp only at r37 rr37 s37 ss37
        refine g_nil ?_
        refine g_then ?_
        refine g_exit ?_
        refine g_then_x (g_blk_hit ?_)
        refine g_then ?_
        refine g_region ?_
        refine s_q (q_inc rfl rfl (by omega)) rfl ?_
        refine s_q (q_move rfl) rfl ?_
        refine g_nil ?_
        exact g_again ((k + 1), g37, gg37, (pushL (n + 1) ((l[k]'lt_k).cls) ((l[k]'lt_k).i) q)) (by (try dsimp only); exact ⟨(by first | exact lt_k | omega), r37, rr37, s37, ss37⟩) (by first | omega | (simp only; omega)) (by repeat (first | exact trivial | refine ⟨rfl, ?_⟩)) wok_sub
      · refine g_skip ?_
        refine g_then ?_
        refine g_seq ?_
        refine g_region ?_
        refine s_q (q_move rfl) rfl ?_
        refine g_op (g_keep [Res.blk b16 52 [Value.pointer (some ⟨ba16, 0, none⟩), Value.pointer (some ⟨bb16, 0, none⟩)], Res.blk ba16 64 (Rg.c g1), Res.row (Rg.A g1) (Rg.s g1).length (Rg.cap g1) 3 1 (Rg.s g1), Res.blk bb16 64 (Rg.c g2), Res.row (Rg.A g2) (Rg.s g2).length (Rg.cap g2) 3 1 (Rg.s g2)] rfl (fun w1 hw1 ho1 => by exact llen_any b16 ba16 bb16 g1 g2 q (n + 1) (0) w1 ho1 h0 hh1 s0 ss1 (by omega)) rfl ?_)
        refine s_q (q_move rfl) rfl ?_
        refine g_op (g_keep [Res.blk b16 52 [Value.pointer (some ⟨ba16, 0, none⟩), Value.pointer (some ⟨bb16, 0, none⟩)], Res.blk ba16 64 (Rg.c g1), Res.row (Rg.A g1) (Rg.s g1).length (Rg.cap g1) 3 1 (Rg.s g1), Res.blk bb16 64 (Rg.c g2), Res.row (Rg.A g2) (Rg.s g2).length (Rg.cap g2) 3 1 (Rg.s g2)] rfl (fun w1 hw1 ho1 => by exact llen_any b16 ba16 bb16 g1 g2 q (n + 1) (1) w1 ho1 h0 hh1 s0 ss1 (by omega)) rfl ?_)
        refine s_q (q_assign rfl) rfl ?_
        refine s_q (q_assign rfl) rfl ?_
        refine g_nil ?_
        refine g_then ?_
        refine g_seq ?_
        refine g_region ?_
        refine s_q (q_move rfl) rfl ?_
        refine g_op (g_ownS [Res.blk b16 52 [Value.pointer (some ⟨ba16, 0, none⟩), Value.pointer (some ⟨bb16, 0, none⟩)], Res.blk ba16 64 (Rg.c g1), Res.row (Rg.A g1) (Rg.s g1).length (Rg.cap g1) 3 1 (Rg.s g1), Res.blk bb16 64 (Rg.c g2), Res.row (Rg.A g2) (Rg.s g2).length (Rg.cap g2) 3 1 (Rg.s g2)] rfl (fun w1 hw1 ho1 => by have h7 := pop_any b16 ba16 bb16 g1 g2 q (n + 1) w1 ho1 h0 hh1 s0 ss1 (by omega); exact h7) rfl ?_)
        rintro ⟨g44, gg44⟩ ⟨r44, rr44, s44, ss44⟩
        refine ⟨_, _, inferInstance, inferInstance, ?_⟩
        simp only at r44 rr44 s44 ss44
        refine s_q (q_move rfl) rfl ?_
        refine s_q (q_extract rfl rfl) rfl ?_
        refine s_q (q_extract rfl rfl) rfl ?_
        refine s_q (q_extract rfl rfl) rfl ?_
        refine s_q (q_assign rfl) rfl ?_
        refine s_q (q_assign rfl) rfl ?_
        refine s_q (q_assign rfl) rfl ?_
        refine g_nil ?_
        refine g_then ?_
        refine g_seq ?_
        refine g_region ?_
        refine s_q (q_move rfl) rfl ?_
        refine s_q (q_move rfl) rfl ?_
        refine s_q (q_move rfl) rfl ?_
        refine s_q (q_addn (a := (allL (0) q).length) (b := (allL (1) q).length) rfl rfl (by first | omega | (simp; omega) | (simp_all; omega))) rfl ?_
        refine s_q (q_gtr rfl rfl) rfl ?_
        refine s_q (q_neq_bool (by kernel_rfl) rfl rfl) rfl ?_
        refine g_litb 53 (b := false) rfl (by obtain ⟨f, v⟩ := q; cases f <;> cases v <;> simp [headB, allL] <;> omega) ?_
        refine s_q (q_move rfl) rfl ?_
        refine s_qg (q_move rfl) rfl rfl rfl ?_
        refine s_qg (q_move rfl) rfl rfl rfl ?_
        refine g_split 56 rfl (fun h4 => ?_) (fun h4 => ?_)
        · refine s_qg (q_move rfl) rfl rfl rfl ?_
          refine s_qg (q_eql rfl rfl) rfl rfl rfl ?_
          refine s_qg (q_move rfl) rfl rfl rfl ?_
          refine s_qg (q_gtr rfl rfl) rfl rfl rfl ?_
          refine s_qg (q_neq_bool (by kernel_rfl) rfl rfl) rfl rfl rfl ?_
          refine g_litb 61 (b := false) rfl (by obtain ⟨f, v⟩ := q; cases f <;> cases v <;> simp_all [headC, allL, headB]) ?_
          refine s_qg (q_pick_t rfl rfl) rfl rfl rfl ?_
          refine s_q (q_pick_f rfl rfl) rfl ?_
          refine g_nil ?_
          refine g_then ?_
          refine g_false rfl ?_
          refine g_skip ?_
          refine g_blk_n ?_
          refine g_then ?_
          refine g_region ?_
          refine s_q (q_inc rfl rfl (by omega)) rfl ?_
          refine s_q (q_move rfl) rfl ?_
          refine g_nil ?_
          exact g_again ((k + 1), g44, gg44, (popL q)) (by (try dsimp only); exact ⟨(by first | exact lt_k | omega), r44, rr44, s44, ss44⟩) (by first | omega | (simp only; omega)) (by repeat (first | exact trivial | refine ⟨rfl, ?_⟩)) wok_sub
        · refine g_gf rfl rfl rfl rfl ?_
          refine g_gf rfl rfl rfl rfl ?_
          refine g_gf rfl rfl rfl rfl ?_
          refine g_gf rfl rfl rfl rfl ?_
          refine g_gf rfl rfl rfl rfl ?_
          refine s_qg (q_pick_f rfl rfl) rfl rfl rfl ?_
          refine s_q (q_pick_f rfl rfl) rfl ?_
          refine g_nil ?_
          refine g_then ?_
          refine g_false rfl ?_
          refine g_skip ?_
          refine g_blk_n ?_
          refine g_then ?_
          refine g_region ?_
          refine s_q (q_inc rfl rfl (by omega)) rfl ?_
          refine s_q (q_move rfl) rfl ?_
          refine g_nil ?_
          exact g_again ((k + 1), g44, gg44, (popL q)) (by (try dsimp only); exact ⟨(by first | exact lt_k | omega), r44, rr44, s44, ss44⟩) (by first | omega | (simp only; omega)) (by repeat (first | exact trivial | refine ⟨rfl, ?_⟩)) wok_sub
    · have eq_k : k = l.length := by have h9 := of_decide_eq_false h2; omega
      refine g_exit ?_
      refine g_then_x (g_then_x (g_blk_hit ?_))
      refine g_then ?_
      refine g_seq ?_
      refine g_region ?_
      refine g_op (g_pure rfl (fun w1 hw1 => alive_any w1) rfl ?_)
      refine s_q (q_assign rfl) rfl ?_
      refine g_nil ?_
      refine g_then ?_
      refine g_ret ?_
      exact fin1 rfl (.tmp rfl) (fun w' hw' => ⟨by first | rfl | (simp_all; done) | (simp_all; omega), hw'.upd⟩) _ (.inl rfl)

theorem main_lanesForcedFirst (v0 : Value) (v1 : Value) (W : World) (a0 : Arg Try.prog W 5 v0) (a1 : Arg Try.prog W 22 v1) : Pur Try.prog 3 [v0, v1] W (.bool true) := by
  obtain ⟨z0, rfl, hz0⟩ := Arg.int Try.underlying5 a0
  obtain ⟨n, rfl⟩ : ∃ q : Nat, z0 = q := ⟨z0.toNat, by have h0 : 0 ≤ z0 ∧ z0 ≤ 255 := hz0; omega⟩
  have h_n : n < 256 := by have h0 : 0 ≤ ((n : Nat) : Int) ∧ ((n : Nat) : Int) ≤ 255 := hz0; omega
  obtain ⟨A_l, c_l, l, rfl, hle1, hm1, o_l, k_l⟩ := Arg.slice O.c (fun x : O => True) Try.underlying22 (show Try.prog.cellsOf 27 = 3 by kernel_rfl) (by omega) (openO) a1
  have h_l : l.length ≤ c_l ∧ c_l ≤ 9223372036854775807 := ⟨hle1, by unfold maxLen at hm1; omega⟩
  exact law_lanesForcedFirst n A_l c_l l W h_n o_l h_l k_l

namespace LawLanesForcedFirst
open Go.ChangeShapes Go.WideShapes Go.ChangeAt Go.RowKit Go.Eg
set_option linter.unusedVariables false
theorem own : ownKnob Try.prog.godebug = none := by kernel_rfl
theorem laidOut : laidOutB Try.prog = true := by kernel_rfl
set_option maxRecDepth 100000 in
theorem lifted (os : Os) (started : os.Started) (H : Type) (enc : TypeId × Value → H) :
    ReturnsInHanded {} Try.checked os 3 .any (Rows.lanesForcedFirstSpec.pre6 enc Try.prog Try.f3 Rows.lanesForcedFirstRow.domain false) (Rows.lanesForcedFirstSpec.post enc Try.prog Try.f3 false true false false) := by
  refine returnsInHanded_of_change (C := Try.checked) own started (by kernel_rfl) Try.func3
    (ChangeSpec.witness6 (enc := enc) (C := Try.checked) false ⟨#[], #[.int .u8 0, .slice none 0 0], []⟩ 8 (by kernel_rfl) (by kernel_rfl) (by kernel_rfl) (by kernel_rfl)) ?_
  intro W base args ds gs before hval0 hW hcnd _
  have hval : ∀ (j : Nat) t v, Try.f3.params[j]? = some t → args[j]? = some v → Value.okWide Try.prog W .any base t v := hval0
  have hW' := hW
  obtain ⟨p, q, hA0, hV, rfl, hfz, hnd⟩ := hW
  have hA : DataW.TrodAll enc Try.prog W 0 (fun _ => true) true Try.f3.params.toList args.toList ds p := hA0
  rw [Try.params3] at hA hval
  obtain ⟨v0, vs0, d0, ds0, p0, q0, hargs, rfl, rfl, h0, r0⟩ := trodAll_cons hA
  obtain ⟨v1, vs1, d1, ds1, p1, q1, rfl, rfl, rfl, h1, r1⟩ := trodAll_cons r0
  obtain ⟨rfl, rfl, rfl⟩ := trodAll_nil r1
  obtain rfl : args = #[v0, v1] := by cases args; simp_all
  obtain ⟨rfl, rfl⟩ := trodVars_none hV
  have a0 := Arg.of h0 (hval 0 5 v0 rfl rfl)
  have lt0 : ∀ x ∈ p0, x.block < W.heap.size := by obtain ⟨m, hm⟩ := h0; exact DataW.trod_lt m _ _ _ hm
  have a1 := Arg.of h1 (hval 1 22 v1 rfl rfl)
  have lt1 : ∀ x ∈ p1, x.block < W.heap.size := by obtain ⟨m, hm⟩ := h1; exact DataW.trod_lt m _ _ _ hm
  clear hA0 hval0
  simp only [List.append_nil] at hW'
  refine Calls.mono (main_lanesForcedFirst v0 v1 W a0 a1) ?_
  rintro e W' ⟨v, rfl, rfl, hu⟩
  have bel := hu.below
  have targ := (trodAll_cons_mk (Below.trod laidOut (by kernel_rfl) (of_decide_eq_true (by kernel_rfl)) h0 bel lt0) (trodAll_cons_mk (Below.trod laidOut (by kernel_rfl) (of_decide_eq_true (by kernel_rfl)) h1 bel lt1) trodAll_mk0))
  simp only [List.append_nil] at targ
  exact ⟨_, rfl, _, _, _, [], _, [], hW', trodAll_mk1 (shut_bool Try.underlying4 _), targ, rfl, bel.frame _, fun h => by cases h⟩
theorem over : Rows.lanesForcedFirstRow.holds Try.pinned (OpenSpec.ofChange Rows.lanesForcedFirstSpec) :=
  OpenClaim.holds_of_wide 3 Try.f3 rfl rfl rfl rfl rfl rfl rfl ⟨rfl, rfl, rfl, rfl, rfl⟩ rfl rfl rfl rfl rfl (by kernel_rfl) Try.func3 (by kernel_rfl)
    (of_decide_eq_true (by kernel_rfl)) (by unfold Func.isWrapper; first | (rw [if_pos (by decide +kernel)]; kernel_rfl) | (rw [if_neg (by decide +kernel)]; exact ⟨rfl, rfl⟩))
    (fun os started H enc _ => lifted os started H enc)
theorem proved : Rows.LanesForcedFirstSaid := over
end LawLanesForcedFirst
end Go.Proofs.Ytdkedinnijobiaa
