/- the reference follows the meter -/
import Derived.Test.YthfcpbfnbdoakaaW1
namespace Go.Proofs.Ythfcpbfnbdoakaa
open Go.RowKit Go.Eg
set_option linter.unusedSimpArgs false
set_option linter.unusedVariables false
structure O where
  k : Int
  x : Int
  deriving DecidableEq
def O.c (x : O) : List Value := [.int .i64 x.k, .int .u64 x.x]
def O.v (x : O) : Value := .agg x.c.toArray
structure O.ok (x : O) : Prop where
  k : -9223372036854775808 ≤ x.k ∧ x.k ≤ 9223372036854775807
  x : 0 ≤ x.x ∧ x.x ≤ 18446744073709551615
theorem openO {w : World} (f : Nat) (cs : List Value) (h : OKc Try.prog w f 40 cs) : ∃ x : O, cs = x.c ∧ x.ok := by
  obtain ⟨f, hl, h⟩ := OKc.struct Try.underlying40 h
  have hT : Try.prog.cellsOf 40 = 2 := by kernel_rfl
  have hc3 : Try.prog.cellsOf 3 = 1 := by kernel_rfl
  have hc27 : Try.prog.cellsOf 27 = 1 := by kernel_rfl
  rw [hT] at hl
  obtain ⟨c0, c1, rfl⟩ : ∃ c0 c1 : Value, cs = [c0, c1] := by
    match cs, hl with
    | [c0, c1], _ => exact ⟨_, _, rfl⟩
  simp only [List.mem_cons, List.not_mem_nil, or_false, forall_eq_or_imp, forall_eq, hc3, hc27, List.drop_zero, List.drop_succ_cons, List.take_succ_cons, List.take_zero] at h
  obtain ⟨h0, h1⟩ := h
  obtain ⟨x0, e0, r0⟩ := OKc.int Try.underlying3 h0
  obtain rfl : c0 = _ := by simpa using e0
  obtain ⟨x1, e1, r1⟩ := OKc.int Try.underlying27 h1
  obtain rfl : c1 = _ := by simpa using e1
  exact ⟨⟨x0, x1⟩, rfl, ⟨r0, r1⟩⟩

structure M.ok (m : M) : Prop where
  g : 0 ≤ m.g ∧ m.g ≤ 18446744073709551615
  t : 0 ≤ m.t ∧ m.t ≤ 18446744073709551615
  d : 0 ≤ m.d ∧ m.d ≤ 18446744073709551615
  bf : 0 ≤ m.bf ∧ m.bf ≤ 18446744073709551615
def R.of (m : M) : R := ⟨m.bal, m.spent, m.g, m.t, m.d⟩
theorem U_eq (n : Int) : U n = n % 18446744073709551616 := IntKind.wrap_u64 n
theorem M0_ok : M0.ok := ⟨by decide, by decide, by decide, by decide⟩
theorem R.ext {a b : R} (h1 : a.b = b.b) (h2 : a.s = b.s) (h3 : a.g = b.g) (h4 : a.t = b.t) (h5 : a.d = b.d) : a = b := by
  cases a; cases b; simp_all
theorem R0_of : R.of M0 = R0 := by apply R.ext <;> decide
theorem of_grant {m : M} (h : m.ok) {x : Int} (hx : 0 ≤ x) : (R.of m).grant x = R.of (m.grant x) := by
  obtain ⟨h1, h2, h3, h4⟩ := h
  apply R.ext <;> simp only [R.of, R.grant, M.grant, M.bal, M.spent, U_eq] <;> omega
theorem of_take {m : M} (h : m.ok) {x : Int} (hx : 0 ≤ x) : (R.of m).take x = R.of (m.take x) := by
  obtain ⟨h1, h2, h3, h4⟩ := h
  unfold R.take M.take
  by_cases hb : m.bal < x
  · rw [if_pos hb, if_pos (show (R.of m).b < x from hb)]
  · rw [if_neg hb, if_neg (show ¬ (R.of m).b < x from hb)]
    apply R.ext <;> simp only [R.of, M.bal, M.spent, U_eq] at * <;> omega
theorem of_drop {m : M} (h : m.ok) : (R.of m).drop = R.of m.drop := by
  obtain ⟨h1, h2, h3, h4⟩ := h
  apply R.ext <;> simp only [R.of, R.drop, M.drop, M.bal, M.spent, U_eq] <;> omega
theorem grant_ok {m : M} (h : m.ok) (x : Int) : (m.grant x).ok := by
  obtain ⟨h1, h2, h3, h4⟩ := h
  constructor <;> simp only [M.grant, U_eq] <;> omega
theorem take_ok {m : M} (h : m.ok) (x : Int) : (m.take x).ok := by
  unfold M.take
  split
  · exact h
  · obtain ⟨h1, h2, h3, h4⟩ := h
    constructor <;> simp only [U_eq] <;> omega
theorem drop_ok {m : M} (h : m.ok) : m.drop.ok := by
  obtain ⟨h1, h2, h3, h4⟩ := h
  constructor <;> simp only [M.drop, U_eq] <;> omega
def M.step (m : M) (o : O) : M := if o.k = 0 then m.grant o.x else if o.k = 1 then m.take o.x else m.drop
theorem step_ok {m : M} (h : m.ok) (o : O) : (m.step o).ok := by
  unfold M.step
  split
  · exact grant_ok h _
  · split
    · exact take_ok h _
    · exact drop_ok h
theorem bal_of (m : M) : (R.of m).b = m.bal := rfl

theorem do_any (b b' : Nat) (m : M) (o : O) (hm : m.ok) (ho : o.ok) (w : World) (hb : (Res.blk b 50 m.c).sat w) (hb' : (Res.blk b' 38 (R.of m).c).sat w) (hne : b ≠ b') :
    Meth2 Try.prog 16 [.pointer (some ⟨b, 0, none⟩), .pointer (some ⟨b', 0, none⟩), o.v] w b 50 b' 38 (.bool true) (m.step o).c (R.of (m.step o)).c := by
  refine g_start Try.func16 rfl 40 rfl (by simp) [b, b'] [.blk b 50 m.c, .blk b' 38 (R.of m).c] (WOK.start2 hb hb' hne) _ rfl ?_
  refine g_seq ?_
  refine g_region ?_
  refine g_op (g_box rfl rfl rfl fun b5 => ?_)
  refine s_q (q_assign rfl) rfl ?_
  refine g_nil ?_
  refine g_then ?_
  refine g_seq ?_
  refine g_seq ?_
  refine g_region ?_
  refine s_q (q_field rfl) rfl ?_
  refine s_q (q_load rfl rfl) rfl ?_
  refine g_nil ?_
  refine g_then ?_
  refine g_block ?_
  refine g_seq ?_
  refine g_region ?_
  refine s_q (q_eql rfl rfl) rfl ?_
  refine s_q (q_assign rfl) rfl ?_
  refine g_nil ?_
  refine g_then ?_
  refine g_cond rfl (fun h1 => ?_) (fun h1 => ?_)
  · refine g_seq ?_
    refine g_region ?_
    refine s_q (q_move rfl) rfl ?_
    refine s_q (q_field rfl) rfl ?_
    refine s_q (q_load rfl rfl) rfl ?_
    refine g_op (g_meth rfl (fun w hw => rgrant_any _ _ _ w hw) rfl ?_)
    refine g_nil ?_
    refine g_then ?_
    refine g_seq ?_
    refine d_regionL (L0 := [Res.blk b5 40 o.c, Res.blk b' 38 ((R.of m).grant o.x).c]) [] mixed rfl rfl (wok_pick [0, 2] rfl (by decide) rfl) ?_
    refine d_q 0 rfl (by kernel_rfl) (q_move rfl) (wok_pick [0, 2] rfl (by decide) rfl) rfl (ls' := #[true, false, false, false, false, false, false, false, false, false]) rfl ?_
    refine d_q 1 rfl (by kernel_rfl) (q_field rfl) (wok_pick [0, 2] rfl (by decide) rfl) rfl (ls' := #[true, true, false, false, false, false, false, false, false, false]) rfl ?_
    refine d_q 2 rfl (by kernel_rfl) (q_load rfl rfl) (wok_pick [0, 2] rfl (by decide) rfl) rfl (ls' := #[true, true, true, false, false, false, false, false, false, false]) rfl ?_
    refine d_q 4 rfl (by kernel_rfl) (q_move rfl) (wok_pick [0, 2] rfl (by decide) rfl) rfl (ls' := #[true, true, true, false, true, false, false, false, false, false]) rfl ?_
    refine d_q 5 rfl (by kernel_rfl) (q_nilck rfl) (wok_pick [0, 2] rfl (by decide) rfl) rfl (ls' := #[true, true, true, false, true, true, false, false, false, false]) rfl ?_
    refine d_q 6 rfl (by kernel_rfl) (q_field rfl) (wok_pick [0, 2] rfl (by decide) rfl) rfl (ls' := #[true, true, true, false, true, true, true, false, false, false]) rfl ?_
    refine d_q 7 rfl (by kernel_rfl) (q_load rfl rfl) (wok_pick [0, 2] rfl (by decide) rfl) rfl (ls' := #[true, true, true, false, true, true, true, true, false, false]) rfl ?_
    refine d_op 3 rfl (by kernel_rfl) (ls' := #[true, true, true, true, true, true, true, true, false, false]) rfl (wok_pick [0, 2] rfl (by decide) rfl) (g_meth rfl (fun w hw => grant_any _ _ _ w hw) rfl ?_)
    refine d_q 8 rfl (by kernel_rfl) (q_eql rfl rfl) (wok_pick [0, 2] rfl (by decide) rfl) rfl (ls' := #[true, true, true, true, true, true, true, true, true, false]) rfl ?_
    refine g_litb 23 (b := true) rfl (by rw [of_grant hm ho.x.1]; simp [bal_of]) ?_
    refine d_q 9 rfl (by kernel_rfl) (q_assign rfl) (wok_pick [0, 2] rfl (by decide) rfl) rfl (ls' := #[true, true, true, true, true, true, true, true, true, true]) rfl ?_
    refine d_end (by kernel_rfl) (.inr (wok_pick [0, 2] rfl (by decide) rfl)) ?_
    refine g_then ?_
    refine g_ret ?_
    refine g_blk_ret (g_then_ret ?_)
    exact fin1 rfl (.tmp rfl) (fun w' hw => ⟨rfl, by have e : m.step o = m.grant o.x := (by simp_all [M.step]); rw [e]; exact InL.sat (by infer_instance) hw, by have e : m.step o = m.grant o.x := (by simp_all [M.step]); rw [e, ← of_grant hm ho.x.1]; exact InL.sat (by infer_instance) hw, hw.upd⟩) _ (.inl rfl)
  · refine g_seq ?_
    refine g_region ?_
    refine s_q (q_eql rfl rfl) rfl ?_
    refine s_q (q_assign rfl) rfl ?_
    refine g_nil ?_
    refine g_then ?_
    refine g_cond rfl (fun h2 => ?_) (fun h2 => ?_)
    · refine g_seq ?_
      refine d_regionL (L0 := [Res.blk b5 40 o.c]) [] mixed rfl rfl (wok_pick [0] rfl (by decide) rfl) ?_
      refine d_q 0 rfl (by kernel_rfl) (q_move rfl) (wok_pick [0] rfl (by decide) rfl) rfl (ls' := #[true, false, false, false, false, false, false, false, false, false]) rfl ?_
      refine d_q 1 rfl (by kernel_rfl) (q_field rfl) (wok_pick [0] rfl (by decide) rfl) rfl (ls' := #[true, true, false, false, false, false, false, false, false, false]) rfl ?_
      refine d_q 2 rfl (by kernel_rfl) (q_load rfl rfl) (wok_pick [0] rfl (by decide) rfl) rfl (ls' := #[true, true, true, false, false, false, false, false, false, false]) rfl ?_
      refine d_q 4 rfl (by kernel_rfl) (q_move rfl) (wok_pick [0] rfl (by decide) rfl) rfl (ls' := #[true, true, true, false, true, false, false, false, false, false]) rfl ?_
      refine d_q 5 rfl (by kernel_rfl) (q_field rfl) (wok_pick [0] rfl (by decide) rfl) rfl (ls' := #[true, true, true, false, true, true, false, false, false, false]) rfl ?_
      refine d_q 6 rfl (by kernel_rfl) (q_load rfl rfl) (wok_pick [0] rfl (by decide) rfl) rfl (ls' := #[true, true, true, false, true, true, true, false, false, false]) rfl ?_
      refine d_op 3 rfl (by kernel_rfl) (ls' := #[true, true, true, true, true, true, true, false, false, false]) rfl (wok_pick [0] rfl (by decide) rfl) (g_meth rfl (fun w hw => take_any _ _ _ w hw) rfl ?_)
      refine d_op 7 rfl (by kernel_rfl) (ls' := #[true, true, true, true, true, true, true, true, false, false]) rfl (wok_pick [0] rfl (by decide) rfl) (g_meth rfl (fun w hw => rtake_any _ _ _ w hw) rfl ?_)
      refine d_q 8 rfl (by kernel_rfl) (q_eql_bool (by kernel_rfl) rfl rfl) (wok_pick [0] rfl (by decide) rfl) rfl (ls' := #[true, true, true, true, true, true, true, true, true, false]) rfl ?_
      refine g_litb 34 (b := true) rfl (beq_self_eq_true (!decide (m.bal < o.x))) ?_
      refine d_q 9 rfl (by kernel_rfl) (q_assign rfl) (wok_pick [0] rfl (by decide) rfl) rfl (ls' := #[true, true, true, true, true, true, true, true, true, true]) rfl ?_
      refine d_end (by kernel_rfl) (.inr (wok_pick [0] rfl (by decide) rfl)) ?_
      refine g_then ?_
      refine g_ret ?_
      refine g_blk_ret (g_then_ret ?_)
      exact fin1 rfl (.tmp rfl) (fun w' hw => ⟨rfl, by have e : m.step o = m.take o.x := (by simp_all [M.step]); rw [e]; exact InL.sat (by infer_instance) hw, by have e : m.step o = m.take o.x := (by simp_all [M.step]); rw [e, ← of_take hm ho.x.1]; exact InL.sat (by infer_instance) hw, hw.upd⟩) _ (.inl rfl)
    · refine g_skip ?_
      refine g_blk_n ?_
      refine g_then ?_
      refine g_seq ?_
      refine g_region ?_
      refine s_q (q_move rfl) rfl ?_
      refine g_op (g_meth rfl (fun w hw => drop_any _ _ w hw) rfl ?_)
      refine s_q (q_move rfl) rfl ?_
      refine g_op (g_meth rfl (fun w hw => rdrop_any _ _ w hw) rfl ?_)
      refine s_q (q_eql rfl rfl) rfl ?_
      refine g_litb 39 (b := true) rfl (by simp [bal_of]) ?_
      refine s_q (q_assign rfl) rfl ?_
      refine g_nil ?_
      refine g_then ?_
      refine g_ret ?_
      exact fin1 rfl (.tmp rfl) (fun w' hw => ⟨rfl, by have e : m.step o = m.drop := (by simp_all [M.step]); rw [e]; exact InL.sat (by infer_instance) hw, by have e : m.step o = m.drop := (by simp_all [M.step]); rw [e, ← of_drop hm]; exact InL.sat (by infer_instance) hw, hw.upd⟩) _ (.inl rfl)
end Go.Proofs.Ythfcpbfnbdoakaa
