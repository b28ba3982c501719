/- LimitSpreads: for all numbers the law returns true. No condition. -/
import Derived.Test.YtknekmmijehfmaaW4
namespace Go.Proofs.Ytknekmmijehfmaa
open Go.RowKit Go.Eg
set_option linter.unusedSimpArgs false
set_option linter.unusedVariables false
theorem law_spreads (x y : Int) (hx : 0 ≤ x ∧ x ≤ 18446744073709551615) (hy : 0 ≤ y ∧ y ≤ 18446744073709551615) (w : World) : Pur Try.prog 6 [.int .u64 x, .int .u64 y] w (.bool true) := by
  refine g_start Try.func6 rfl 89 rfl (by simp) [] [] (WOK.start _ _) _ rfl ?_
  refine g_seq ?_
  refine g_region ?_
  refine s_q (q_assign rfl) rfl ?_
  refine g_nil ?_
  refine g_then ?_
  refine g_seq ?_
  refine g_region ?_
  refine s_q (q_move rfl) rfl ?_
  refine s_q (q_move rfl) rfl ?_
  refine g_op (g_newrow rfl (fun w hw => spread_any _ _ (by omega) (by omega) w) rfl fun A16 cap16 => ?_)
  refine s_q (q_move rfl) rfl ?_
  refine s_q (q_extract rfl rfl) rfl ?_
  refine s_q (q_extract rfl rfl) rfl ?_
  refine s_q (q_assign rfl) rfl ?_
  refine s_q (q_assign rfl) rfl ?_
  refine g_nil ?_
  refine g_then ?_
  refine g_seq ?_
  refine g_region ?_
  refine s_q (q_move rfl) rfl ?_
  refine s_q (q_move rfl) rfl ?_
  refine g_op (g_pure rfl (fun w hw => repochs_any _ _ (by omega) (by omega) w) rfl ?_)
  refine s_q (q_move rfl) rfl ?_
  refine s_q (q_extract rfl rfl) rfl ?_
  refine s_q (q_extract rfl rfl) rfl ?_
  refine s_q (q_assign rfl) rfl ?_
  refine s_q (q_assign rfl) rfl ?_
  refine g_nil ?_
  refine g_then ?_
  refine g_seq ?_
  refine g_seq ?_
  refine g_region ?_
  refine s_q (q_move rfl) rfl ?_
  refine s_q (q_not rfl) rfl ?_
  refine s_q (q_move rfl) rfl ?_
  refine g_split 27 rfl (fun h1 => ?_) (fun h1 => ?_)
  · refine g_gf rfl rfl rfl rfl ?_
    refine g_gf rfl rfl rfl rfl ?_
    refine s_q (q_pick_t rfl rfl) rfl ?_
    refine g_nil ?_
    refine g_then ?_
    refine g_true rfl ?_
    refine g_seq ?_
    refine g_region ?_
    refine g_op (g_pure rfl (fun w hw => alive_any w) rfl ?_)
    refine g_litb 31 (b := true) rfl (rfl) ?_
    refine s_q (q_move rfl) rfl ?_
    refine s_qg (q_move rfl) rfl rfl rfl ?_
    refine s_qg (q_not rfl) rfl rfl rfl ?_
    refine g_litb 34 (b := true) rfl (by have hk : sprk x y = false := (by rw [sprk_eq]; simp_all); simp [hk, sprd]) ?_
    refine s_q (q_pick_t rfl rfl) rfl ?_
    refine s_q (q_move rfl) rfl ?_
    refine s_qg (q_move rfl) rfl rfl rfl ?_
    refine s_qg (q_len rfl) rfl rfl rfl ?_
    refine s_qg (q_eql rfl rfl) rfl rfl rfl ?_
    refine g_litb 39 (b := true) rfl (by have hk : sprk x y = false := (by rw [sprk_eq]; simp_all); simp [hk, sprd]) ?_
    refine s_q (q_pick_t rfl rfl) rfl ?_
    refine s_q (q_assign rfl) rfl ?_
    refine g_nil ?_
    refine g_then ?_
    refine g_ret ?_
    refine g_then_ret ?_
    exact fin1 rfl (.tmp rfl) (fun w' hw => ⟨by first | rfl | (simp_all; done), hw.upd⟩) _ (.inl rfl)
  · refine s_qg (q_move rfl) rfl rfl rfl ?_
    refine s_qg (q_gtr rfl rfl) rfl rfl rfl ?_
    refine s_q (q_pick_f rfl rfl) rfl ?_
    refine g_nil ?_
    refine g_then ?_
    refine g_cond rfl (fun h2 => ?_) (fun h2 => ?_)
    · refine g_seq ?_
      refine g_region ?_
      refine g_op (g_pure rfl (fun w hw => alive_any w) rfl ?_)
      refine g_litb 31 (b := true) rfl (rfl) ?_
      refine s_q (q_move rfl) rfl ?_
      refine s_qg (q_move rfl) rfl rfl rfl ?_
      refine s_qg (q_not rfl) rfl rfl rfl ?_
      refine g_litb 34 (b := true) rfl (by have hk : sprk x y = false := (by rw [sprk_eq]; simp_all); simp [hk, sprd]) ?_
      refine s_q (q_pick_t rfl rfl) rfl ?_
      refine s_q (q_move rfl) rfl ?_
      refine s_qg (q_move rfl) rfl rfl rfl ?_
      refine s_qg (q_len rfl) rfl rfl rfl ?_
      refine s_qg (q_eql rfl rfl) rfl rfl rfl ?_
      refine g_litb 39 (b := true) rfl (by have hk : sprk x y = false := (by rw [sprk_eq]; simp_all); simp [hk, sprd]) ?_
      refine s_q (q_pick_t rfl rfl) rfl ?_
      refine s_q (q_assign rfl) rfl ?_
      refine g_nil ?_
      refine g_then ?_
      refine g_ret ?_
      refine g_then_ret ?_
      exact fin1 rfl (.tmp rfl) (fun w' hw => ⟨by first | rfl | (simp_all; done), hw.upd⟩) _ (.inl rfl)
    · refine g_skip ?_
      refine g_then ?_
      refine g_seq ?_
      refine g_seq ?_
      refine g_region ?_
      have hk : sprk x y = true := by rw [sprk_eq]; simp_all
      obtain ⟨hl1, hl2, hl3⟩ := sprd_all hx.1 hy.1 hk
      have hep : epn x y = cei x y := by first | (simp_all [epn, epk]; done) | (simp_all [epn, epk]; omega)
      have hcb := cei_bd hx.1 hy.1
      have hc4 : cei x y ≤ 4096 := by have hk2 := hk; simp only [sprk, Bool.not_eq_true', decide_eq_false_iff_not, not_or] at hk2; omega
      generalize hl : sprd x y = l at hl1 hl2 hl3
      have hlok : ∀ v ∈ l, 0 ≤ v ∧ v ≤ 18446744073709551615 := fun v hv => by obtain ⟨i, hi⟩ := List.mem_iff_getElem?.1 hv; have := hl3 i v hi; omega
      refine s_q (q_move rfl) rfl ?_
      refine s_q (q_not rfl) rfl ?_
      refine g_litb 42 (b := false) rfl (by simp [hk]) ?_
      refine s_q (q_move rfl) rfl ?_
      refine s_qg (q_move rfl) rfl rfl rfl ?_
      refine s_qg (q_len rfl) rfl rfl rfl ?_
      refine s_qg (q_move rfl) rfl rfl rfl ?_
      refine s_qg (q_neq rfl rfl) rfl rfl rfl ?_
      refine g_litb 47 (b := false) rfl (by simp [hep]; omega) ?_
      refine s_q (q_pick_f rfl rfl) rfl ?_
      refine g_nil ?_
      refine g_then ?_
      refine g_false rfl ?_
      refine g_skip ?_
      refine g_then ?_
      refine g_seq ?_
      refine g_seq ?_
      refine g_region ?_
      refine s_q (q_move rfl) rfl ?_
      refine s_q (q_len rfl) rfl ?_
      refine s_q (q_move rfl) rfl ?_
      refine g_nil ?_
      refine g_then ?_
      refine g_block ?_
      refine g_loopk [0, 1, 5, 7, 49, 50] (fun (k : Nat) => [(51, .int .i64 (k : Int))]) (fun _ => [Res.row A16 (l.map U1).length cap16 22 1 (l.map U1)]) (fun k => k ≤ l.length) (fun k => l.length - k) 0 (Nat.zero_le _) rfl ⟨rfl, trivial⟩ wok_id ?_
      rintro k hk1
      refine g_seq ?_
      refine g_region ?_
      refine s_q (q_lss rfl rfl) rfl ?_
      refine g_nil ?_
      refine g_then ?_
      refine g_seq ?_
      refine g_cond rfl (fun h3 => ?_) (fun h3 => ?_)
      · have hk2 : k < l.length := by simpa using h3
        obtain ⟨e1, e2, e3⟩ := hl3 k l[k] (by simp [hk2])
        have hget : (l.map U1)[k]? = some [Value.int .u64 l[k]] := by simp [hk2]
        refine g_skip ?_
        refine g_then ?_
        refine g_seq ?_
        refine g_block ?_
        refine g_seq ?_
        refine g_region ?_
        refine s_q (q_move rfl) rfl ?_
        refine s_q (q_index (i := k) rfl rfl rfl (InRow.rdb (els := l.map U1) rfl (by simp)) (by simpa using hk2)) rfl ?_
        refine s_q (q_load_el (i := k) (o := 0) rfl (InRow.rdb (els := l.map U1) rfl (by simp)) hget rfl rfl) rfl ?_
        refine s_q (q_assign rfl) rfl ?_
        refine s_q (q_assign rfl) rfl ?_
        refine g_nil ?_
        refine g_then ?_
        refine g_seq ?_
        refine g_region ?_
        refine s_q (q_move rfl) rfl ?_
        refine s_q (q_move rfl) rfl ?_
        refine s_q (q_gtr rfl rfl) rfl ?_
        refine g_litb 58 (b := false) rfl (by simp only [decide_eq_false_iff_not]; omega) ?_
        refine s_q (q_move rfl) rfl ?_
        refine s_qg (q_move rfl) rfl rfl rfl ?_
        refine s_qg (q_eql rfl rfl) rfl rfl rfl ?_
        refine g_litb 61 (b := false) rfl (by simp only [decide_eq_false_iff_not]; omega) ?_
        refine s_q (q_pick_f rfl rfl) rfl ?_
        refine s_q (q_move rfl) rfl ?_
        refine s_qg (q_move rfl) rfl rfl rfl ?_
        refine s_qg (q_inc rfl rfl (by omega)) rfl rfl rfl ?_
        refine s_qg (q_move rfl) rfl rfl rfl ?_
        refine s_qg (q_lss rfl rfl) rfl rfl rfl ?_
        refine s_qg (q_move rfl) rfl rfl rfl ?_
        refine g_split 68 rfl (fun h4 => ?_) (fun h4 => ?_)
        · refine s_qg (q_move rfl) rfl rfl rfl ?_
          refine s_qg (q_move rfl) rfl rfl rfl ?_
          refine s_qg (q_neq rfl rfl) rfl rfl rfl ?_
          refine g_litb 71 (b := false) rfl (by have h9 := e3 (by simp at h4; omega); simp [h9]) ?_
          refine s_qg (q_pick_t rfl rfl) rfl rfl rfl ?_
          refine s_q (q_pick_f rfl rfl) rfl ?_
          refine g_nil ?_
          refine g_then ?_
          refine g_false rfl ?_
          refine g_skip ?_
          refine g_blk_n ?_
          refine g_then ?_
          refine g_region ?_
          refine s_q (q_inc rfl rfl (by omega)) rfl ?_
          refine s_q (q_move rfl) rfl ?_
          refine g_nil ?_
          exact g_again (k + 1) hk2 (by omega) (by repeat (first | exact trivial | refine ⟨rfl, ?_⟩)) wok_id
        · refine g_gf rfl rfl rfl rfl ?_
          refine g_gf rfl rfl rfl rfl ?_
          refine g_gf rfl rfl rfl rfl ?_
          refine s_qg (q_pick_f rfl rfl) rfl rfl rfl ?_
          refine s_q (q_pick_f rfl rfl) rfl ?_
          refine g_nil ?_
          refine g_then ?_
          refine g_false rfl ?_
          refine g_skip ?_
          refine g_blk_n ?_
          refine g_then ?_
          refine g_region ?_
          refine s_q (q_inc rfl rfl (by omega)) rfl ?_
          refine s_q (q_move rfl) rfl ?_
          refine g_nil ?_
          exact g_again (k + 1) hk2 (by omega) (by repeat (first | exact trivial | refine ⟨rfl, ?_⟩)) wok_id
      · refine g_exit ?_
        refine g_then_x (g_then_x (g_blk_hit ?_))
        refine g_then ?_
        refine g_seq ?_
        refine g_region ?_
        refine s_q (q_move rfl) rfl ?_
        refine g_op (g_pure rfl (fun w hw => add_any A16 cap16 _ l (by simp) (by simp only [maxLen]; omega) hlok w (Rdb.toOld (InRow.rdb (els := l.map U1) rfl (by simp)) hw)) rfl ?_)
        refine s_q (q_move rfl) rfl ?_
        refine s_q (q_extract rfl rfl) rfl ?_
        refine s_q (q_extract rfl rfl) rfl ?_
        refine g_litb 79 (b := true) rfl (by simp only [decide_eq_true_eq]; omega) ?_
        refine s_q (q_assign rfl) rfl ?_
        refine s_q (q_assign rfl) rfl ?_
        refine g_nil ?_
        refine g_then ?_
        refine g_seq ?_
        refine g_region ?_
        refine g_op (g_pure rfl (fun w hw => alive_any w) rfl ?_)
        refine g_litb 80 (b := true) rfl (rfl) ?_
        refine s_q (q_move rfl) rfl ?_
        refine s_qg (q_move rfl) rfl rfl rfl ?_
        refine s_q (q_pick_t rfl rfl) rfl ?_
        refine s_q (q_move rfl) rfl ?_
        refine s_qg (q_move rfl) rfl rfl rfl ?_
        refine s_qg (q_move rfl) rfl rfl rfl ?_
        refine s_qg (q_eql rfl rfl) rfl rfl rfl ?_
        refine g_litb 87 (b := true) rfl (by rw [if_pos (by omega), hl2]; simp) ?_
        refine s_q (q_pick_t rfl rfl) rfl ?_
        refine s_q (q_assign rfl) rfl ?_
        refine g_nil ?_
        refine g_then ?_
        refine g_ret ?_
        exact fin1 rfl (.tmp rfl) (fun w' hw => ⟨by first | rfl | (simp_all; done), hw.upd⟩) _ (.inl rfl)

theorem main_spreads (v0 v1 : Value) (W : World) (a0 : Arg Try.prog W 22 v0) (a1 : Arg Try.prog W 22 v1) : Pur Try.prog 6 [v0, v1] W (.bool true) := by
  obtain ⟨x, rfl, hx⟩ := Arg.int Try.underlying22 a0
  obtain ⟨y, rfl, hy⟩ := Arg.int Try.underlying22 a1
  exact law_spreads x y hx hy W

namespace LawLimitSpreads
open Go.ChangeShapes Go.WideShapes Go.ChangeAt Go.RowKit Go.Eg
set_option linter.unusedVariables false
theorem own : ownKnob Try.prog.godebug = none := by kernel_rfl
theorem laidOut : laidOutB Try.prog = true := by kernel_rfl
set_option maxRecDepth 100000 in
theorem lifted (os : Os) (started : os.Started) (H : Type) (enc : TypeId × Value → H) :
    ReturnsInHanded {} Try.checked os 6 .any (Rows.limitSpreadsSpec.pre6 enc Try.prog Try.f6 Rows.limitSpreadsRow.domain false) (Rows.limitSpreadsSpec.post enc Try.prog Try.f6 false true false false) := by
  refine returnsInHanded_of_change (C := Try.checked) own started (by kernel_rfl) Try.func6
    (ChangeSpec.witness6 (enc := enc) (C := Try.checked) false ⟨#[], #[.int .u64 0, .int .u64 0], []⟩ 8 (by kernel_rfl) (by kernel_rfl) (by kernel_rfl) (by kernel_rfl)) ?_
  intro W base args ds gs before hval0 hW hcnd _
  have hval : ∀ (j : Nat) t v, Try.f6.params[j]? = some t → args[j]? = some v → Value.okWide Try.prog W .any base t v := hval0
  have hW' := hW
  obtain ⟨p, q, hA0, hV, rfl, hfz, hnd⟩ := hW
  have hA : DataW.TrodAll enc Try.prog W 0 (fun _ => true) true Try.f6.params.toList args.toList ds p := hA0
  rw [Try.params6] at hA hval
  obtain ⟨v0, vs0, d0, ds0, p0, q0, hargs, rfl, rfl, h0, r0⟩ := trodAll_cons hA
  obtain ⟨v1, vs1, d1, ds1, p1, q1, rfl, rfl, rfl, h1, r1⟩ := trodAll_cons r0
  obtain ⟨rfl, rfl, rfl⟩ := trodAll_nil r1
  obtain rfl : args = #[v0, v1] := by cases args; simp_all
  obtain ⟨rfl, rfl⟩ := trodVars_none hV
  have a0 := Arg.of h0 (hval 0 22 v0 rfl rfl)
  have lt0 : ∀ x ∈ p0, x.block < W.heap.size := by obtain ⟨m, hm⟩ := h0; exact DataW.trod_lt m _ _ _ hm
  have a1 := Arg.of h1 (hval 1 22 v1 rfl rfl)
  have lt1 : ∀ x ∈ p1, x.block < W.heap.size := by obtain ⟨m, hm⟩ := h1; exact DataW.trod_lt m _ _ _ hm
  clear hA0 hval0
  simp only [List.append_nil] at hW'
  refine Calls.mono (main_spreads v0 v1 W a0 a1) ?_
  rintro e W' ⟨v, rfl, rfl, hu⟩
  have bel := hu.below
  have targ := (trodAll_cons_mk (Below.trod laidOut (by kernel_rfl) (of_decide_eq_true (by kernel_rfl)) h0 bel lt0) (trodAll_cons_mk (Below.trod laidOut (by kernel_rfl) (of_decide_eq_true (by kernel_rfl)) h1 bel lt1) trodAll_mk0))
  simp only [List.append_nil] at targ
  exact ⟨_, rfl, _, _, _, [], _, [], hW', trodAll_mk1 (shut_bool Try.underlying4 _), targ, rfl, bel.frame _, fun h => by cases h⟩
theorem over : Rows.limitSpreadsRow.holds Try.pinned (OpenSpec.ofChange Rows.limitSpreadsSpec) :=
  OpenClaim.holds_of_wide 6 Try.f6 rfl rfl rfl rfl rfl rfl rfl ⟨rfl, rfl, rfl, rfl, rfl⟩ rfl rfl rfl rfl rfl (by kernel_rfl) Try.func6 (by kernel_rfl)
    (of_decide_eq_true (by kernel_rfl)) (by unfold Func.isWrapper; first | (rw [if_pos (by decide +kernel)]; kernel_rfl) | (rw [if_neg (by decide +kernel)]; exact ⟨rfl, rfl⟩))
    (fun os started H enc _ => lifted os started H enc)
theorem proved : Rows.LimitSpreadsSaid := over
end LawLimitSpreads
end Go.Proofs.Ytknekmmijehfmaa
