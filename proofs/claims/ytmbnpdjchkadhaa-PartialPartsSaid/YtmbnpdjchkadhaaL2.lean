/- PartialParts: for every validator, every two amounts and every configuration, the law returns true. No condition. -/
import Derived.Test.YtmbnpdjchkadhaaW1
namespace Go.Proofs.Ytmbnpdjchkadhaa
open Go.RowKit Go.Eg
set_option linter.unusedSimpArgs false
set_option linter.unusedVariables false
theorem avail_bd (x : V) (c : C) (hx : x.ok) (hc : c.ok) : 0 ≤ avail x c ∧ avail x c ≤ x.bal := by
  have h1 := hx.bal; have h2 := hc.minb
  unfold avail
  simp only [IntKind.wrap_u64]
  split
  · omega
  · split <;> omega
theorem avail_then (x : V) (c : C) (m : Int) (hx : x.ok) (hc : c.ok) (hm : 0 ≤ m) : avail { x with bal := IntKind.u64.wrap (x.bal - min m (avail x c)) } c = avail x c - min m (avail x c) := by
  have h1 := hx.bal; have h2 := hc.minb; have h3 := avail_bd x c hx hc
  by_cases hs : x.st ≠ 2 ∨ x.sl = true
  · have e : avail x c = 0 := by unfold avail; rw [if_pos hs]
    rw [e]
    have e2 : ∀ y, avail { x with bal := y } c = 0 := fun y => by unfold avail; rw [if_pos (show x.st ≠ 2 ∨ x.sl = true from hs)]
    rw [e2]; omega
  · by_cases hb : x.bal < c.minb
    · have e : avail x c = 0 := by unfold avail; rw [if_neg hs, if_pos hb]
      rw [e]
      unfold avail
      rw [if_neg (show ¬ (x.st ≠ 2 ∨ x.sl = true) from hs)]
      simp only [IntKind.wrap_u64]
      rw [if_pos (by omega)]; omega
    · have e : avail x c = x.bal - c.minb := by unfold avail; rw [if_neg hs, if_neg hb]; simp only [IntKind.wrap_u64]; omega
      rw [e]
      unfold avail
      rw [if_neg (show ¬ (x.st ≠ 2 ∨ x.sl = true) from hs)]
      simp only [IntKind.wrap_u64]
      rw [if_neg (by omega)]; omega

theorem law_parts (x : V) (a b : Int) (c : C) (hx : x.ok) (hc : c.ok) (ha : 0 ≤ a ∧ a ≤ 4294967295) (hb : 0 ≤ b ∧ b ≤ 4294967295) (w : World) : Pur Try.prog 4 [x.v, .agg [.int .u32 a, .int .u32 b].toArray, c.v] w (.bool true) := by
  refine g_start Try.func4 rfl 60 rfl (by simp) [] [] (WOK.start _ _) _ rfl ?_
  refine g_seq ?_
  refine g_region ?_
  refine g_op (g_box rfl rfl rfl fun b3 => ?_)
  refine g_op (g_box rfl rfl rfl fun b4 => ?_)
  refine g_op (g_box rfl rfl rfl fun b5 => ?_)
  refine s_q (q_assign rfl) rfl ?_
  refine g_nil ?_
  refine g_then ?_
  refine g_seq ?_
  refine g_seq ?_
  refine g_region ?_
  refine s_q (q_loadw rfl rfl) rfl ?_
  refine g_op (g_pure rfl (fun w hw => chk_any _ w) rfl ?_)
  refine s_q (q_neq rfl rfl) rfl ?_
  refine g_nil ?_
  refine g_then ?_
  refine g_cond rfl (fun h1 => ?_) (fun h1 => ?_)
  · refine g_seq ?_
    refine g_region ?_
    refine g_op (g_pure rfl (fun w hw => alive_any w) rfl ?_)
    refine s_q (q_assign rfl) rfl ?_
    refine g_nil ?_
    refine g_then ?_
    refine g_ret ?_
    refine g_then_ret ?_
    exact fin1 rfl (.tmp rfl) (fun w' hw => ⟨by have h0 := avail_bd x c hx hc; have hb0 := hx.bal; first | rfl | (simp_all; done) | (simp only [avail_then x c a hx hc ha.1] at *; simp_all [IntKind.wrap_u64]; done) | (simp only [avail_then x c a hx hc ha.1] at *; simp_all [IntKind.wrap_u64]; omega), hw.upd⟩) _ (.inl rfl)
  · refine g_skip ?_
    refine g_then ?_
    refine g_seq ?_
    refine d_region [] mixed rfl rfl ?_
    refine d_q 0 rfl (by kernel_rfl) (q_index_arr (i := 0) rfl rfl rfl (by decide)) wok_id rfl (ls' := #[true, false, false, false, false, false, false, false]) rfl ?_
    refine d_q 1 rfl (by kernel_rfl) (q_load rfl rfl) wok_id rfl (ls' := #[true, true, false, false, false, false, false, false]) rfl ?_
    refine d_q 2 rfl (by kernel_rfl) (q_convz rfl (wu64 (by omega) (by omega))) wok_id rfl (ls' := #[true, true, true, false, false, false, false, false]) rfl ?_
    refine d_q 3 rfl (by kernel_rfl) (q_index_arr (i := 1) rfl rfl rfl (by decide)) wok_id rfl (ls' := #[true, true, true, true, false, false, false, false]) rfl ?_
    refine d_q 4 rfl (by kernel_rfl) (q_load rfl rfl) wok_id rfl (ls' := #[true, true, true, true, true, false, false, false]) rfl ?_
    refine d_q 5 rfl (by kernel_rfl) (q_convz rfl (wu64 (by omega) (by omega))) wok_id rfl (ls' := #[true, true, true, true, true, true, false, false]) rfl ?_
    refine d_q 6 rfl (by kernel_rfl) (q_assign rfl) wok_id rfl (ls' := #[true, true, true, true, true, true, true, false]) rfl ?_
    refine d_q 7 rfl (by kernel_rfl) (q_assign rfl) wok_id rfl (ls' := #[true, true, true, true, true, true, true, true]) rfl ?_
    refine d_end (by kernel_rfl) (.inr wok_id) ?_
    refine g_then ?_
    refine g_seq ?_
    refine g_region ?_
    refine s_q (q_loadw rfl rfl) rfl ?_
    refine s_q (q_move rfl) rfl ?_
    refine s_q (q_loadw rfl rfl) rfl ?_
    refine g_op (g_pure rfl (fun w hw => apply_any _ _ _ w) rfl ?_)
    refine s_q (q_move rfl) rfl ?_
    refine s_q (q_extract rfl rfl) rfl ?_
    refine s_q (q_extract rfl rfl) rfl ?_
    refine g_op (g_alloc rfl fun b9 => ?_)
    refine g_op (g_storew rfl rfl rfl rfl rfl ?_)
    refine s_q (q_assign rfl) rfl ?_
    refine g_nil ?_
    refine g_then ?_
    refine g_seq ?_
    refine g_region ?_
    refine s_q (q_loadw rfl rfl) rfl ?_
    refine s_q (q_move rfl) rfl ?_
    refine s_q (q_loadw rfl rfl) rfl ?_
    refine g_op (g_pure rfl (fun w hw => apply_any _ _ _ w) rfl ?_)
    refine s_q (q_move rfl) rfl ?_
    refine s_q (q_extract rfl rfl) rfl ?_
    refine s_q (q_extract rfl rfl) rfl ?_
    refine g_op (g_storew rfl rfl rfl rfl rfl ?_)
    refine s_q (q_assign rfl) rfl ?_
    refine g_nil ?_
    refine g_then ?_
    refine g_seq ?_
    refine g_region ?_
    refine s_q (q_loadw rfl rfl) rfl ?_
    refine s_q (q_move rfl) rfl ?_
    refine s_q (q_move rfl) rfl ?_
    refine s_q (q_addz rfl rfl (wu64 (by omega) (by omega))) rfl ?_
    refine s_q (q_loadw rfl rfl) rfl ?_
    refine g_op (g_pure rfl (fun w hw => apply_any _ _ _ w) rfl ?_)
    refine s_q (q_move rfl) rfl ?_
    refine s_q (q_extract rfl rfl) rfl ?_
    refine s_q (q_extract rfl rfl) rfl ?_
    refine g_op (g_alloc rfl fun b12 => ?_)
    refine g_op (g_storew rfl rfl rfl rfl rfl ?_)
    refine s_q (q_assign rfl) rfl ?_
    refine g_nil ?_
    refine g_then ?_
    refine g_seq ?_
    refine g_region ?_
    refine g_op (g_pure rfl (fun w hw => alive_any w) rfl ?_)
    refine s_q (q_move rfl) rfl ?_
    refine g_split 48 rfl (fun h2 => ?_) (fun h2 => ?_)
    · refine s_qg (q_loadw rfl rfl) rfl rfl rfl ?_
      refine s_qg (q_loadw rfl rfl) rfl rfl rfl ?_
      refine s_qg (q_eqs rfl rfl rfl) rfl rfl rfl ?_
      refine s_q (q_pick_t rfl rfl) rfl ?_
      refine s_q (q_move rfl) rfl ?_
      refine g_split 53 rfl (fun h3 => ?_) (fun h3 => ?_)
      · refine s_qg (q_move rfl) rfl rfl rfl ?_
        refine s_qg (q_move rfl) rfl rfl rfl ?_
        refine s_qg (q_add rfl rfl) rfl rfl rfl ?_
        refine s_qg (q_move rfl) rfl rfl rfl ?_
        refine s_qg (q_eql rfl rfl) rfl rfl rfl ?_
        refine s_q (q_pick_t rfl rfl) rfl ?_
        refine s_q (q_assign rfl) rfl ?_
        refine g_nil ?_
        refine g_then ?_
        refine g_ret ?_
        exact fin1 rfl (.tmp rfl) (fun w' hw => ⟨by have h0 := avail_bd x c hx hc; have hb0 := hx.bal; first | rfl | (simp_all; done) | (simp only [avail_then x c a hx hc ha.1] at *; simp_all [IntKind.wrap_u64]; done) | (simp only [avail_then x c a hx hc ha.1] at *; simp_all [IntKind.wrap_u64]; omega), hw.upd⟩) _ (.inl rfl)
      · refine g_gf rfl rfl rfl rfl ?_
        refine g_gf rfl rfl rfl rfl ?_
        refine g_gf rfl rfl rfl rfl ?_
        refine g_gf rfl rfl rfl rfl ?_
        refine g_gf rfl rfl rfl rfl ?_
        refine s_q (q_pick_f rfl rfl) rfl ?_
        refine s_q (q_assign rfl) rfl ?_
        refine g_nil ?_
        refine g_then ?_
        refine g_ret ?_
        exact fin1 rfl (.tmp rfl) (fun w' hw => ⟨by have h0 := avail_bd x c hx hc; have hb0 := hx.bal; first | rfl | (simp_all; done) | (simp only [avail_then x c a hx hc ha.1] at *; simp_all [IntKind.wrap_u64]; done) | (simp only [avail_then x c a hx hc ha.1] at *; simp_all [IntKind.wrap_u64]; omega), hw.upd⟩) _ (.inl rfl)
    · refine g_gf rfl rfl rfl rfl ?_
      refine g_gf rfl rfl rfl rfl ?_
      refine g_gf rfl rfl rfl rfl ?_
      refine s_q (q_pick_f rfl rfl) rfl ?_
      refine s_q (q_move rfl) rfl ?_
      refine g_gf rfl rfl rfl rfl ?_
      refine g_gf rfl rfl rfl rfl ?_
      refine g_gf rfl rfl rfl rfl ?_
      refine g_gf rfl rfl rfl rfl ?_
      refine g_gf rfl rfl rfl rfl ?_
      refine s_q (q_pick_f rfl rfl) rfl ?_
      refine s_q (q_assign rfl) rfl ?_
      refine g_nil ?_
      refine g_then ?_
      refine g_ret ?_
      exact fin1 rfl (.tmp rfl) (fun w' hw => ⟨by have h0 := avail_bd x c hx hc; have hb0 := hx.bal; first | rfl | (simp_all; done) | (simp only [avail_then x c a hx hc ha.1] at *; simp_all [IntKind.wrap_u64]; done) | (simp only [avail_then x c a hx hc ha.1] at *; simp_all [IntKind.wrap_u64]; omega), hw.upd⟩) _ (.inl rfl)

theorem main_parts (v0 v1 v2 : Value) (W : World) (a0 : Arg Try.prog W 24 v0) (a1 : Arg Try.prog W 34 v1) (a2 : Arg Try.prog W 26 v2) : Pur Try.prog 4 [v0, v1, v2] W (.bool true) := by
  obtain ⟨cs, rfl, f, h⟩ := Arg.agg Try.underlying24 a0
  obtain ⟨x, rfl, hx⟩ := openV f cs h
  obtain ⟨cs, rfl, f, h⟩ := Arg.arr Try.underlying34 a1
  obtain ⟨f, hl, h⟩ := OKc.array Try.underlying34 h
  have hT : Try.prog.cellsOf 34 = 2 := by kernel_rfl
  have hE : Try.prog.cellsOf 33 = 1 := by kernel_rfl
  rw [hT] at hl
  obtain ⟨c0, c1, rfl⟩ : ∃ c0 c1 : Value, cs = [c0, c1] := by
    match cs, hl with
    | [c0, c1], _ => exact ⟨_, _, rfl⟩
  have h0 := h 0 (by omega)
  have h1 := h 1 (by omega)
  rw [hE] at h0 h1
  obtain ⟨a, e0, r0⟩ := OKc.int Try.underlying33 h0
  obtain ⟨b, e1, r1⟩ := OKc.int Try.underlying33 h1
  obtain rfl : c0 = _ := by simpa using e0
  obtain rfl : c1 = _ := by simpa using e1
  obtain ⟨cs, rfl, f, h⟩ := Arg.agg Try.underlying26 a2
  obtain ⟨c, rfl, hc⟩ := openC f cs h
  exact law_parts x a b c hx hc r0 r1 W

namespace LawPartialParts
open Go.ChangeShapes Go.WideShapes Go.ChangeAt Go.RowKit Go.Eg
set_option linter.unusedVariables false
theorem own : ownKnob Try.prog.godebug = none := by kernel_rfl
theorem laidOut : laidOutB Try.prog = true := by kernel_rfl
set_option maxRecDepth 100000 in
theorem lifted (os : Os) (started : os.Started) (H : Type) (enc : TypeId × Value → H) :
    ReturnsInHanded {} Try.checked os 4 .any (Rows.partialPartsSpec.pre6 enc Try.prog Try.f4 Rows.partialPartsRow.domain false) (Rows.partialPartsSpec.post enc Try.prog Try.f4 false true false false) := by
  refine returnsInHanded_of_change (C := Try.checked) own started (by kernel_rfl) Try.func4
    (ChangeSpec.witness6 (enc := enc) (C := Try.checked) false ⟨#[], #[.agg #[.int .u64 0, .int .i64 0, .bool false, .int .i64 0, .int .i64 0, .int .i64 0, .int .i64 0], .agg #[.int .u32 0, .int .u32 0], .agg #[.int .i64 0, .int .i64 0, .int .u64 0, .int .u64 0, .int .u64 0, .int .u64 0, .int .u64 0, .int .u64 0, .int .u64 0, .int .u64 0, .int .i64 0, .int .i64 0, .int .i64 0, .int .i64 0, .int .i64 0, .int .i64 0, .int .i64 0, .int .i64 0, .int .u64 0, .int .u64 0]], []⟩ 8 (by kernel_rfl) (by kernel_rfl) (by kernel_rfl) (by kernel_rfl)) ?_
  intro W base args ds gs before hval0 hW hcnd _
  have hval : ∀ (j : Nat) t v, Try.f4.params[j]? = some t → args[j]? = some v → Value.okWide Try.prog W .any base t v := hval0
  have hW' := hW
  obtain ⟨p, q, hA0, hV, rfl, hfz, hnd⟩ := hW
  have hA : DataW.TrodAll enc Try.prog W 0 (fun _ => true) true Try.f4.params.toList args.toList ds p := hA0
  rw [Try.params4] at hA hval
  obtain ⟨v0, vs0, d0, ds0, p0, q0, hargs, rfl, rfl, h0, r0⟩ := trodAll_cons hA
  obtain ⟨v1, vs1, d1, ds1, p1, q1, rfl, rfl, rfl, h1, r1⟩ := trodAll_cons r0
  obtain ⟨v2, vs2, d2, ds2, p2, q2, rfl, rfl, rfl, h2, r2⟩ := trodAll_cons r1
  obtain ⟨rfl, rfl, rfl⟩ := trodAll_nil r2
  obtain rfl : args = #[v0, v1, v2] := by cases args; simp_all
  obtain ⟨rfl, rfl⟩ := trodVars_none hV
  have a0 := Arg.of h0 (hval 0 24 v0 rfl rfl)
  have lt0 : ∀ x ∈ p0, x.block < W.heap.size := by obtain ⟨m, hm⟩ := h0; exact DataW.trod_lt m _ _ _ hm
  have a1 := Arg.of h1 (hval 1 34 v1 rfl rfl)
  have lt1 : ∀ x ∈ p1, x.block < W.heap.size := by obtain ⟨m, hm⟩ := h1; exact DataW.trod_lt m _ _ _ hm
  have a2 := Arg.of h2 (hval 2 26 v2 rfl rfl)
  have lt2 : ∀ x ∈ p2, x.block < W.heap.size := by obtain ⟨m, hm⟩ := h2; exact DataW.trod_lt m _ _ _ hm
  clear hA0 hval0
  simp only [List.append_nil] at hW'
  refine Calls.mono (main_parts v0 v1 v2 W a0 a1 a2) ?_
  rintro e W' ⟨v, rfl, rfl, hu⟩
  have bel := hu.below
  have targ := (trodAll_cons_mk (Below.trod laidOut (by kernel_rfl) (of_decide_eq_true (by kernel_rfl)) h0 bel lt0) (trodAll_cons_mk (Below.trod laidOut (by kernel_rfl) (of_decide_eq_true (by kernel_rfl)) h1 bel lt1) (trodAll_cons_mk (Below.trod laidOut (by kernel_rfl) (of_decide_eq_true (by kernel_rfl)) h2 bel lt2) trodAll_mk0)))
  simp only [List.append_nil] at targ
  exact ⟨_, rfl, _, _, _, [], _, [], hW', trodAll_mk1 (shut_bool Try.underlying4 _), targ, rfl, bel.frame _, fun h => by cases h⟩
theorem over : Rows.partialPartsRow.holds Try.pinned (OpenSpec.ofChange Rows.partialPartsSpec) :=
  OpenClaim.holds_of_wide 4 Try.f4 rfl rfl rfl rfl rfl rfl rfl ⟨rfl, rfl, rfl, rfl, rfl⟩ rfl rfl rfl rfl rfl (by kernel_rfl) Try.func4 (by kernel_rfl)
    (of_decide_eq_true (by kernel_rfl)) (by unfold Func.isWrapper; first | (rw [if_pos (by decide +kernel)]; kernel_rfl) | (rw [if_neg (by decide +kernel)]; exact ⟨rfl, rfl⟩))
    (fun os started H enc _ => lifted os started H enc)
theorem proved : Rows.PartialPartsSaid := over
end LawPartialParts
end Go.Proofs.Ytmbnpdjchkadhaa
