/- MeterSpends: for every carry, limit and list of weights the law returns true. No condition. -/
import Derived.Test.YthfcpbfnbdoakaaW2
namespace Go.Proofs.Ythfcpbfnbdoakaa
open Go.RowKit Go.Eg
set_option linter.unusedSimpArgs false
set_option linter.unusedVariables false
theorem M.bal_le (m : M) : 0 ≤ m.bal ∧ m.bal ≤ 18446744073709551615 := by simp only [M.bal, U_eq]; omega
theorem M.spent_le (m : M) : 0 ≤ m.spent ∧ m.spent ≤ 18446744073709551615 := by simp only [M.spent, U_eq]; omega
theorem take_sum {m : M} (h : m.ok) {x : Int} (hx : 0 ≤ x) (hs : m.spent + m.bal ≤ 18446744073709551615) : (m.take x).spent + (m.take x).bal = m.spent + m.bal := by
  obtain ⟨h1, h2, h3, h4⟩ := h
  unfold M.take
  by_cases hb : m.bal < x
  · rw [if_pos hb]
  · rw [if_neg hb]
    simp only [M.spent, M.bal, U_eq] at *; omega
theorem drop_spent (m : M) : m.drop.spent = m.spent := rfl
theorem drop_bal {m : M} (h : m.ok) : m.drop.bal = 0 := by
  obtain ⟨h1, h2, h3, h4⟩ := h
  simp only [M.drop, M.bal, U_eq]; omega

theorem law_spends (a b : Int) (A : Option Addr) (cap : Nat) (l : List Int) (hok : ∀ x ∈ l, 0 ≤ x ∧ x ≤ 18446744073709551615) (hcap : cap ≤ maxLen) (hlc : l.length ≤ cap) (w : World) (hold : Old w A l.length 1 (l.map (fun x => [Value.int .u64 x]))) : Pur Try.prog 4 [.int .u64 a, .int .u64 b, .slice A l.length cap] w (.bool true) := by
  unfold maxLen at hcap
  refine g_start Try.func4 rfl 62 rfl (by simp) [] [] (WOK.start _ _) _ rfl ?_
  refine g_seq ?_
  refine g_region ?_
  refine s_q (q_assign rfl) rfl ?_
  refine g_nil ?_
  refine g_then ?_
  refine g_seq ?_
  refine g_seq ?_
  refine g_region ?_
  refine s_q (q_move rfl) rfl ?_
  refine s_q (q_len rfl) rfl ?_
  refine s_q (q_gtr rfl rfl) rfl ?_
  refine g_nil ?_
  refine g_then ?_
  refine g_cond rfl (fun h1 => ?_) (fun h1 => ?_)
  · refine g_seq ?_
    refine g_region ?_
    refine g_op (g_pure rfl (fun w hw => alive_any w) rfl ?_)
    refine s_q (q_assign rfl) rfl ?_
    refine g_nil ?_
    refine g_then ?_
    refine g_ret ?_
    refine g_then_ret ?_
    exact fin1 rfl (.tmp rfl) (fun w' hw => ⟨by first | rfl | (simp_all; done), hw.upd⟩) _ (.inl rfl)
  · refine g_skip ?_
    refine g_then ?_
    refine g_seq ?_
    refine g_region ?_
    refine g_op (g_new rfl (fun w hw => new_any w) rfl fun bn15 => ?_)
    refine s_q (q_assign rfl) rfl ?_
    refine g_nil ?_
    refine g_then ?_
    refine g_seq ?_
    refine g_seq ?_
    refine g_region ?_
    refine s_q (q_move rfl) rfl ?_
    refine s_q (q_eqp (b := false) rfl rfl rfl) rfl ?_
    refine g_nil ?_
    refine g_then ?_
    refine g_false rfl ?_
    refine g_skip ?_
    refine g_then ?_
    refine g_seq ?_
    refine g_region ?_
    refine s_q (q_move rfl) rfl ?_
    refine s_q (q_move rfl) rfl ?_
    refine g_op (g_meth rfl (fun w hw => grant_any _ _ _ w hw) rfl ?_)
    refine g_nil ?_
    refine g_then ?_
    refine g_seq ?_
    refine g_region ?_
    refine s_q (q_move rfl) rfl ?_
    refine s_q (q_move rfl) rfl ?_
    refine g_op (g_meth rfl (fun w hw => grant_any _ _ _ w hw) rfl ?_)
    refine s_q (q_assign rfl) rfl ?_
    refine g_nil ?_
    refine g_then ?_
    refine g_seq ?_
    refine g_seq ?_
    refine g_region ?_
    refine s_q (q_move rfl) rfl ?_
    refine s_q (q_len rfl) rfl ?_
    refine s_q (q_move rfl) rfl ?_
    refine g_nil ?_
    refine g_then ?_
    refine g_block ?_
    refine g_loopk [7, 8, 24, 25] (fun (x : Nat × M) => [(26, .int .i64 (x.1 : Int))]) (fun x => [Res.blk bn15 50 x.2.c]) (fun x => x.1 ≤ l.length ∧ x.2.ok ∧ x.2.spent + x.2.bal = ((M0.grant a).grant b).bal) (fun x => l.length - x.1) (0, ((M0.grant a).grant b)) ⟨Nat.zero_le _, grant_ok (grant_ok M0_ok _) _, by simp only [M.grant, M.spent, U_eq]; omega⟩ rfl ⟨rfl, trivial⟩ wok_id ?_
    rintro ⟨k, m⟩ ⟨hk1, hm, hs⟩
    simp only at hk1 hm hs
    refine g_seq ?_
    refine g_region ?_
    refine s_q (q_lss rfl rfl) rfl ?_
    refine g_nil ?_
    refine g_then ?_
    refine g_seq ?_
    refine g_cond rfl (fun h2 => ?_) (fun h2 => ?_)
    · have hk : k < l.length := by simpa using h2
      have ho := hok _ (List.getElem_mem hk)
      have hget : (l.map (fun x => [Value.int .u64 x]))[k]? = some [Value.int .u64 l[k]] := by simp [hk]
      have hsum := (take_sum hm ho.1 (by have := ((M0.grant a).grant b).bal_le; omega)).trans hs
      have hmo := ((M0.grant a).grant b).bal_le
      have hb1 := (m.take l[k]).bal_le
      have hb2 := (m.take l[k]).spent_le
      refine g_skip ?_
      refine g_then ?_
      refine g_seq ?_
      refine g_block ?_
      refine g_seq ?_
      refine g_region ?_
      refine s_q (q_index (i := k) rfl rfl rfl (hold.rdb rfl) hk) rfl ?_
      refine s_q (q_load_el (i := k) (o := 0) rfl (hold.rdb rfl) hget rfl rfl) rfl ?_
      refine s_q (q_assign rfl) rfl ?_
      refine g_nil ?_
      refine g_then ?_
      refine g_seq ?_
      refine g_region ?_
      refine s_q (q_move rfl) rfl ?_
      refine s_q (q_move rfl) rfl ?_
      refine g_op (g_meth rfl (fun w hw => take_any _ _ _ w hw) rfl ?_)
      refine g_nil ?_
      refine g_then ?_
      refine g_seq ?_
      refine g_region ?_
      refine s_q (q_move rfl) rfl ?_
      refine g_op (g_pure rfl (fun w hw => spent_any _ _ w (InL.sat (by infer_instance) hw)) rfl ?_)
      refine s_q (q_move rfl) rfl ?_
      refine s_q (q_gtr rfl rfl) rfl ?_
      refine g_litb 36 (b := false) rfl (by simp only [decide_eq_false_iff_not]; omega) ?_
      refine s_q (q_move rfl) rfl ?_
      refine s_qg (q_move rfl) rfl rfl rfl ?_
      refine g_gt rfl rfl (g_pure rfl (fun w hw => spent_any _ _ w (InL.sat (by infer_instance) hw)) rfl ?_)
      refine s_qg (q_move rfl) rfl rfl rfl ?_
      refine g_gt rfl rfl (g_pure rfl (fun w hw => balance_any _ _ w (InL.sat (by infer_instance) hw)) rfl ?_)
      refine s_qg (q_add rfl rfl) rfl rfl rfl ?_
      refine s_qg (q_move rfl) rfl rfl rfl ?_
      refine s_qg (q_neq rfl rfl) rfl rfl rfl ?_
      refine g_litb 44 (b := false) rfl (by simp only [Bool.not_eq_false', decide_eq_true_eq, IntKind.wrap_u64]; omega) ?_
      refine s_q (q_pick_f rfl rfl) rfl ?_
      refine g_nil ?_
      refine g_then ?_
      refine g_false rfl ?_
      refine g_skip ?_
      refine g_blk_n ?_
      refine g_then ?_
      refine g_region ?_
      refine s_q (q_inc rfl rfl (by omega)) rfl ?_
      refine s_q (q_move rfl) rfl ?_
      refine g_nil ?_
      exact g_again (k + 1, m.take l[k]) ⟨hk, take_ok hm _, hsum⟩ (by simp only; omega) (by repeat (first | exact trivial | refine ⟨rfl, ?_⟩)) wok_id
    · refine g_exit ?_
      refine g_then_x (g_then_x (g_blk_hit ?_))
      refine g_then ?_
      refine g_seq ?_
      refine g_region ?_
      refine g_op (g_pure rfl (fun w hw => alive_any w) rfl ?_)
      refine s_q (q_move rfl) rfl ?_
      refine g_split 48 rfl (fun h3 => ?_) (fun h3 => ?_)
      · refine s_qg (q_move rfl) rfl rfl rfl ?_
        refine g_gt rfl rfl (g_meth rfl (fun w hw => drop_any _ _ w hw) rfl ?_)
        refine s_qg (q_move rfl) rfl rfl rfl ?_
        refine s_qg (q_move rfl) rfl rfl rfl ?_
        refine g_gt rfl rfl (g_pure rfl (fun w hw => spent_any _ _ w (InL.sat (by infer_instance) hw)) rfl ?_)
        refine s_qg (q_sub rfl rfl) rfl rfl rfl ?_
        refine s_qg (q_eql rfl rfl) rfl rfl rfl ?_
        refine g_litb 55 (b := true) rfl (by have h1 := drop_spent m; have h3 := ((M0.grant a).grant b).bal_le; have h4 := m.bal_le; simp only [decide_eq_true_eq, IntKind.wrap_u64, h1]; omega) ?_
        refine s_q (q_pick_t rfl rfl) rfl ?_
        refine s_q (q_move rfl) rfl ?_
        refine s_qg (q_move rfl) rfl rfl rfl ?_
        refine g_gt rfl rfl (g_pure rfl (fun w hw => balance_any _ _ w (InL.sat (by infer_instance) hw)) rfl ?_)
        refine s_qg (q_eql rfl rfl) rfl rfl rfl ?_
        refine g_litb 60 (b := true) rfl (by simp only [decide_eq_true_eq]; exact drop_bal hm) ?_
        refine s_q (q_pick_t rfl rfl) rfl ?_
        refine s_q (q_assign rfl) rfl ?_
        refine g_nil ?_
        refine g_then ?_
        refine g_ret ?_
        exact fin1 rfl (.tmp rfl) (fun w' hw => ⟨by first | rfl | (simp_all; done), hw.upd⟩) _ (.inl rfl)
      · refine g_gf rfl rfl rfl rfl ?_
        refine g_gf rfl rfl rfl rfl ?_
        refine g_gf rfl rfl rfl rfl ?_
        refine g_gf rfl rfl rfl rfl ?_
        refine g_gf rfl rfl rfl rfl ?_
        refine g_gf rfl rfl rfl rfl ?_
        refine g_gf rfl rfl rfl rfl ?_
        refine s_q (q_pick_f rfl rfl) rfl ?_
        refine s_q (q_move rfl) rfl ?_
        refine g_gf rfl rfl rfl rfl ?_
        refine g_gf rfl rfl rfl rfl ?_
        refine g_gf rfl rfl rfl rfl ?_
        refine s_q (q_pick_f rfl rfl) rfl ?_
        refine s_q (q_assign rfl) rfl ?_
        refine g_nil ?_
        refine g_then ?_
        refine g_ret ?_
        exact fin1 rfl (.tmp rfl) (fun w' hw => ⟨by first | rfl | (simp_all; done), hw.upd⟩) _ (.inl rfl)

theorem main_spends (v0 v1 v2 : Value) (W : World) (a0 : Arg Try.prog W 27 v0) (a1 : Arg Try.prog W 27 v1) (a2 : Arg Try.prog W 33 v2) : Pur Try.prog 4 [v0, v1, v2] W (.bool true) := by
  obtain ⟨a, rfl, ha⟩ := Arg.int Try.underlying27 a0
  obtain ⟨b, rfl, hb⟩ := Arg.int Try.underlying27 a1
  obtain ⟨A, cap, l, rfl, hle, hm, hold, hok⟩ := Arg.slice (fun x => [Value.int .u64 x]) (fun x => 0 ≤ x ∧ x ≤ 18446744073709551615) Try.underlying33 (show Try.prog.cellsOf 27 = 1 by kernel_rfl) (by omega) (fun f cs h => OKc.int Try.underlying27 h) a2
  exact law_spends a b A cap l hok hm hle W hold

namespace LawMeterSpends
open Go.ChangeShapes Go.WideShapes Go.ChangeAt Go.RowKit Go.Eg
set_option linter.unusedVariables false
theorem own : ownKnob Try.prog.godebug = none := by kernel_rfl
theorem laidOut : laidOutB Try.prog = true := by kernel_rfl
set_option maxRecDepth 100000 in
theorem lifted (os : Os) (started : os.Started) (H : Type) (enc : TypeId × Value → H) :
    ReturnsInHanded {} Try.checked os 4 .any (Rows.meterSpendsSpec.pre6 enc Try.prog Try.f4 Rows.meterSpendsRow.domain false) (Rows.meterSpendsSpec.post enc Try.prog Try.f4 false true false false) := by
  refine returnsInHanded_of_change (C := Try.checked) own started (by kernel_rfl) Try.func4
    (ChangeSpec.witness6 (enc := enc) (C := Try.checked) false ⟨#[], #[.int .u64 0, .int .u64 0, .slice none 0 0], []⟩ 8 (by kernel_rfl) (by kernel_rfl) (by kernel_rfl) (by kernel_rfl)) ?_
  intro W base args ds gs before hval0 hW hcnd _
  have hval : ∀ (j : Nat) t v, Try.f4.params[j]? = some t → args[j]? = some v → Value.okWide Try.prog W .any base t v := hval0
  have hW' := hW
  obtain ⟨p, q, hA0, hV, rfl, hfz, hnd⟩ := hW
  have hA : DataW.TrodAll enc Try.prog W 0 (fun _ => true) true Try.f4.params.toList args.toList ds p := hA0
  rw [Try.params4] at hA hval
  obtain ⟨v0, vs0, d0, ds0, p0, q0, hargs, rfl, rfl, h0, r0⟩ := trodAll_cons hA
  obtain ⟨v1, vs1, d1, ds1, p1, q1, rfl, rfl, rfl, h1, r1⟩ := trodAll_cons r0
  obtain ⟨v2, vs2, d2, ds2, p2, q2, rfl, rfl, rfl, h2, r2⟩ := trodAll_cons r1
  obtain ⟨rfl, rfl, rfl⟩ := trodAll_nil r2
  obtain rfl : args = #[v0, v1, v2] := by cases args; simp_all
  obtain ⟨rfl, rfl⟩ := trodVars_none hV
  have a0 := Arg.of h0 (hval 0 27 v0 rfl rfl)
  have lt0 : ∀ x ∈ p0, x.block < W.heap.size := by obtain ⟨m, hm⟩ := h0; exact DataW.trod_lt m _ _ _ hm
  have a1 := Arg.of h1 (hval 1 27 v1 rfl rfl)
  have lt1 : ∀ x ∈ p1, x.block < W.heap.size := by obtain ⟨m, hm⟩ := h1; exact DataW.trod_lt m _ _ _ hm
  have a2 := Arg.of h2 (hval 2 33 v2 rfl rfl)
  have lt2 : ∀ x ∈ p2, x.block < W.heap.size := by obtain ⟨m, hm⟩ := h2; exact DataW.trod_lt m _ _ _ hm
  clear hA0 hval0
  simp only [List.append_nil] at hW'
  refine Calls.mono (main_spends v0 v1 v2 W a0 a1 a2) ?_
  rintro e W' ⟨v, rfl, rfl, hu⟩
  have bel := hu.below
  have targ := (trodAll_cons_mk (Below.trod laidOut (by kernel_rfl) (of_decide_eq_true (by kernel_rfl)) h0 bel lt0) (trodAll_cons_mk (Below.trod laidOut (by kernel_rfl) (of_decide_eq_true (by kernel_rfl)) h1 bel lt1) (trodAll_cons_mk (Below.trod laidOut (by kernel_rfl) (of_decide_eq_true (by kernel_rfl)) h2 bel lt2) trodAll_mk0)))
  simp only [List.append_nil] at targ
  exact ⟨_, rfl, _, _, _, [], _, [], hW', trodAll_mk1 (shut_bool Try.underlying4 _), targ, rfl, bel.frame _, fun h => by cases h⟩
theorem over : Rows.meterSpendsRow.holds Try.pinned (OpenSpec.ofChange Rows.meterSpendsSpec) :=
  OpenClaim.holds_of_wide 4 Try.f4 rfl rfl rfl rfl rfl rfl rfl ⟨rfl, rfl, rfl, rfl, rfl⟩ rfl rfl rfl rfl rfl (by kernel_rfl) Try.func4 (by kernel_rfl)
    (of_decide_eq_true (by kernel_rfl)) (by unfold Func.isWrapper; first | (rw [if_pos (by decide +kernel)]; kernel_rfl) | (rw [if_neg (by decide +kernel)]; exact ⟨rfl, rfl⟩))
    (fun os started H enc _ => lifted os started H enc)
theorem proved : Rows.MeterSpendsSaid := over
end LawMeterSpends
end Go.Proofs.Ythfcpbfnbdoakaa
