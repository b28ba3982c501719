/- the meter -/
import Derived.Test.YtmolaicpbaiioaaW5
namespace Go.Proofs.Ytmolaicpbaiioaa
open Go.RowKit Go.Eg
set_option synthInstance.maxSize 3000
set_option linter.unusedSimpArgs false
set_option linter.unusedVariables false
set_option maxRecDepth 100000
structure M.ok (m : M) : Prop where
  g : 0 ≤ m.g ∧ m.g ≤ 18446744073709551615
  t : 0 ≤ m.t ∧ m.t ≤ 18446744073709551615
  d : 0 ≤ m.d ∧ m.d ≤ 18446744073709551615
  bf : 0 ≤ m.bf ∧ m.bf ≤ 18446744073709551615
def R.of (m : M) : R := ⟨m.bal, m.spent, m.g, m.t, m.d⟩
theorem UU_eq (n : Int) : UU n = n % 18446744073709551616 := IntKind.wrap_u64 n
theorem M0_ok : M0.ok := ⟨by decide, by decide, by decide, by decide⟩
theorem R.ext {a b : R} (h1 : a.b = b.b) (h2 : a.s = b.s) (h3 : a.g = b.g) (h4 : a.t = b.t) (h5 : a.d = b.d) : a = b := by
  cases a; cases b; simp_all
theorem R0_of : R.of M0 = R0 := by apply R.ext <;> decide
theorem of_grant {m : M} (h : m.ok) {x : Int} (hx : 0 ≤ x) : (R.of m).grant x = R.of (m.grant x) := by
  obtain ⟨h1, h2, h3, h4⟩ := h
  apply R.ext <;> simp only [R.of, R.grant, M.grant, M.bal, M.spent, UU_eq] <;> omega
theorem of_take {m : M} (h : m.ok) {x : Int} (hx : 0 ≤ x) : (R.of m).take x = R.of (m.take x) := by
  obtain ⟨h1, h2, h3, h4⟩ := h
  unfold R.take M.take
  by_cases hb : m.bal < x
  · rw [if_pos hb, if_pos (show (R.of m).b < x from hb)]
  · rw [if_neg hb, if_neg (show ¬ (R.of m).b < x from hb)]
    apply R.ext <;> simp only [R.of, M.bal, M.spent, UU_eq] at * <;> omega
theorem of_drop {m : M} (h : m.ok) : (R.of m).drop = R.of m.drop := by
  obtain ⟨h1, h2, h3, h4⟩ := h
  apply R.ext <;> simp only [R.of, R.drop, M.drop, M.bal, M.spent, UU_eq] <;> omega
theorem grant_ok {m : M} (h : m.ok) (x : Int) : (m.grant x).ok := by
  obtain ⟨h1, h2, h3, h4⟩ := h
  constructor <;> simp only [M.grant, UU_eq] <;> omega
theorem take_ok {m : M} (h : m.ok) (x : Int) : (m.take x).ok := by
  unfold M.take
  split
  · exact h
  · obtain ⟨h1, h2, h3, h4⟩ := h
    constructor <;> simp only [UU_eq] <;> omega
theorem drop_ok {m : M} (h : m.ok) : m.drop.ok := by
  obtain ⟨h1, h2, h3, h4⟩ := h
  constructor <;> simp only [M.drop, UU_eq] <;> omega
def stepMF (W : List Int) (e : Int) : Nat → LL → M → List As → List As × LL × M
  | 0, q, m, out => (out, q, m)
  | n + 1, q, m, out => if headB q = false then (out, q, m.drop) else if m.bal < ofW W (headI q) then (out, q, m) else stepMF W e n (popL q) (m.take (ofW W (headI q))) (out ++ [⟨headI q, headC q, e + 1⟩])
def stepM (W : List Int) (e lim : Int) (q : LL) (m : M) : List As × LL × M := stepMF W e (lenL q + 1) q (m.grant lim) []
theorem stepMF_end {W : List Int} {e : Int} {n : Nat} {q : LL} {m : M} {out : List As} (h : headB q = false) : stepMF W e (n + 1) q m out = (out, q, m.drop) := by rw [stepMF, if_pos h]
theorem stepMF_stop {W : List Int} {e : Int} {n : Nat} {q : LL} {m : M} {out : List As} (h : headB q = true) (h2 : m.bal < ofW W (headI q)) : stepMF W e (n + 1) q m out = (out, q, m) := by rw [stepMF, if_neg (by simp [h]), if_pos h2]
theorem stepMF_go {W : List Int} {e : Int} {n : Nat} {q : LL} {m : M} {out : List As} (h : headB q = true) (h2 : ¬ m.bal < ofW W (headI q)) : stepMF W e (n + 1) q m out = stepMF W e n (popL q) (m.take (ofW W (headI q))) (out ++ [⟨headI q, headC q, e + 1⟩]) := by rw [stepMF, if_neg (by simp [h]), if_neg h2]
theorem ofW_nn {W : List Int} (h : ∀ x ∈ W, 0 ≤ x) (i : Int) : 0 ≤ ofW W i := by
  unfold ofW
  split
  · omega
  · rename_i hi
    have hj : i.toNat < W.length := by omega
    rw [List.getElem?_eq_getElem hj]
    exact h _ (List.getElem_mem hj)
theorem stepMF_of {W : List Int} {e : Int} (hW : ∀ x ∈ W, 0 ≤ x) : ∀ {n : Nat} {q : LL} {m : M} {out : List As}, m.ok → stepF W e n q (R.of m) out = ((stepMF W e n q m out).1, (stepMF W e n q m out).2.1, R.of (stepMF W e n q m out).2.2) ∧ (stepMF W e n q m out).2.2.ok
  | 0, q, m, out, h => ⟨rfl, h⟩
  | n + 1, q, m, out, h => by
    unfold stepF stepMF
    split
    · exact ⟨by rw [of_drop h], drop_ok h⟩
    · rw [show (R.of m).b = m.bal from rfl]
      split
      · exact ⟨rfl, h⟩
      · rw [of_take h (ofW_nn hW _)]
        exact stepMF_of hW (take_ok h _)
theorem stepM_of {W : List Int} {e lim : Int} {q : LL} {m : M} (hW : ∀ x ∈ W, 0 ≤ x) (hl : 0 ≤ lim) (h : m.ok) : stepR W e lim q (R.of m) = ((stepM W e lim q m).1, (stepM W e lim q m).2.1, R.of (stepM W e lim q m).2.2) ∧ (stepM W e lim q m).2.2.ok := by
  unfold stepR stepM
  rw [of_grant h hl]
  exact stepMF_of hW (grant_ok h lim)
theorem stepMF_len {W : List Int} {e : Int} : ∀ {n : Nat} {q : LL} {m : M} {out : List As}, (stepMF W e n q m out).2.1.f.length ≤ q.f.length ∧ (stepMF W e n q m out).2.1.v.length ≤ q.v.length ∧ (stepMF W e n q m out).1.length ≤ out.length + n
  | 0, _, _, _ => by simp [stepMF]
  | n + 1, q, m, out => by
    unfold stepMF
    split
    · simp
    · split
      · simp
      · have h1 := stepMF_len (W := W) (e := e) (n := n) (q := popL q) (m := m.take (ofW W (headI q))) (out := out ++ [⟨headI q, headC q, e + 1⟩])
        have h2 := popL_len q
        simp only [List.length_append, List.length_cons, List.length_nil] at h1
        omega
theorem stepM_len {W : List Int} {e lim : Int} {q : LL} {m : M} {sz : Nat} (h : q.f.length ≤ sz ∧ q.v.length ≤ sz) : (stepM W e lim q m).2.1.f.length ≤ sz ∧ (stepM W e lim q m).2.1.v.length ≤ sz := by
  have := stepMF_len (W := W) (e := e) (n := lenL q + 1) (q := q) (m := m.grant lim) (out := [])
  unfold stepM; omega
theorem As.ext_iff' (x y : As) : x = y ↔ (x.i = y.i ∧ x.c = y.c ∧ x.e = y.e) := by
  cases x; cases y; simp

set_option maxHeartbeats 400000 in
theorem mbal_any (mb : Nat) (m : M) (w : World) (hw : WOK (fps [Res.blk mb 84 (M.c m)]) w [Res.blk mb 84 (M.c m)] w)  : Keep Try.prog 43 [.pointer (some ⟨mb, 0, none⟩)] w [Res.blk mb 84 (M.c m)] (.int .u64 m.bal) := by
  refine g_start Try.func43 rfl 20 rfl (by simp) (fps [Res.blk mb 84 (M.c m)]) [Res.blk mb 84 (M.c m)] hw _ rfl ?_
  refine g_seq ?_
  refine g_region ?_
  refine s_q (q_assign rfl) rfl ?_
  refine g_nil ?_
  refine g_then ?_
  refine g_seq ?_
  refine d_region [] mixed rfl rfl ?_
  refine d_q 0 rfl (by kernel_rfl) (q_move rfl) wok_sub rfl (ls' := #[true, false, false, false, false, false, false, false, false, false, false, false, false, false, false, false, false, false]) rfl ?_
  refine d_q 1 rfl (by kernel_rfl) (q_nilck rfl) wok_sub rfl (ls' := #[true, true, false, false, false, false, false, false, false, false, false, false, false, false, false, false, false, false]) rfl ?_
  refine d_q 2 rfl (by kernel_rfl) (q_field rfl) wok_sub rfl (ls' := #[true, true, true, false, false, false, false, false, false, false, false, false, false, false, false, false, false, false]) rfl ?_
  refine d_q 3 rfl (by kernel_rfl) (q_field rfl) wok_sub rfl (ls' := #[true, true, true, true, false, false, false, false, false, false, false, false, false, false, false, false, false, false]) rfl ?_
  refine d_q 4 rfl (by kernel_rfl) (q_load rfl rfl) wok_sub rfl (ls' := #[true, true, true, true, true, false, false, false, false, false, false, false, false, false, false, false, false, false]) rfl ?_
  refine d_q 5 rfl (by kernel_rfl) (q_move rfl) wok_sub rfl (ls' := #[true, true, true, true, true, true, false, false, false, false, false, false, false, false, false, false, false, false]) rfl ?_
  refine d_q 6 rfl (by kernel_rfl) (q_nilck rfl) wok_sub rfl (ls' := #[true, true, true, true, true, true, true, false, false, false, false, false, false, false, false, false, false, false]) rfl ?_
  refine d_q 7 rfl (by kernel_rfl) (q_field rfl) wok_sub rfl (ls' := #[true, true, true, true, true, true, true, true, false, false, false, false, false, false, false, false, false, false]) rfl ?_
  refine d_q 8 rfl (by kernel_rfl) (q_field rfl) wok_sub rfl (ls' := #[true, true, true, true, true, true, true, true, true, false, false, false, false, false, false, false, false, false]) rfl ?_
  refine d_q 9 rfl (by kernel_rfl) (q_load rfl rfl) wok_sub rfl (ls' := #[true, true, true, true, true, true, true, true, true, true, false, false, false, false, false, false, false, false]) rfl ?_
  refine d_q 10 rfl (by kernel_rfl) (q_sub rfl rfl) wok_sub rfl (ls' := #[true, true, true, true, true, true, true, true, true, true, true, false, false, false, false, false, false, false]) rfl ?_
  refine d_q 11 rfl (by kernel_rfl) (q_move rfl) wok_sub rfl (ls' := #[true, true, true, true, true, true, true, true, true, true, true, true, false, false, false, false, false, false]) rfl ?_
  refine d_q 12 rfl (by kernel_rfl) (q_nilck rfl) wok_sub rfl (ls' := #[true, true, true, true, true, true, true, true, true, true, true, true, true, false, false, false, false, false]) rfl ?_
  refine d_q 13 rfl (by kernel_rfl) (q_field rfl) wok_sub rfl (ls' := #[true, true, true, true, true, true, true, true, true, true, true, true, true, true, false, false, false, false]) rfl ?_
  refine d_q 14 rfl (by kernel_rfl) (q_field rfl) wok_sub rfl (ls' := #[true, true, true, true, true, true, true, true, true, true, true, true, true, true, true, false, false, false]) rfl ?_
  refine d_q 15 rfl (by kernel_rfl) (q_load rfl rfl) wok_sub rfl (ls' := #[true, true, true, true, true, true, true, true, true, true, true, true, true, true, true, true, false, false]) rfl ?_
  refine d_q 16 rfl (by kernel_rfl) (q_sub rfl rfl) wok_sub rfl (ls' := #[true, true, true, true, true, true, true, true, true, true, true, true, true, true, true, true, true, false]) rfl ?_
  refine d_q 17 rfl (by kernel_rfl) (q_assign rfl) wok_sub rfl (ls' := #[true, true, true, true, true, true, true, true, true, true, true, true, true, true, true, true, true, true]) rfl ?_
  refine d_end (by kernel_rfl) (.inr wok_sub) ?_
  refine g_then ?_
  refine g_ret ?_
  exact fin1 rfl (.tmp rfl) (fun w' hw' => ⟨(), trivial, by first | rfl | (simp_all; done), by have h9 := wok_sub (L' := [Res.blk mb 84 (M.c m)]) w' hw'; exact h9⟩) _ (.inl rfl)

set_option maxHeartbeats 400000 in
theorem mfree_any (mb : Nat) (m : M) (w : World) (hw : WOK (fps [Res.blk mb 84 (M.c m)]) w [Res.blk mb 84 (M.c m)] w)  : Keep Try.prog 57 [.pointer (some ⟨mb, 0, none⟩)] w [Res.blk mb 84 (M.c m)] (.int .u64 (UU (18446744073709551615 - m.bal))) := by
  refine g_start Try.func57 rfl 6 rfl (by simp) (fps [Res.blk mb 84 (M.c m)]) [Res.blk mb 84 (M.c m)] hw _ rfl ?_
  refine g_seq ?_
  refine g_region ?_
  refine s_q (q_assign rfl) rfl ?_
  refine g_nil ?_
  refine g_then ?_
  refine g_seq ?_
  refine g_region ?_
  refine s_q (q_move rfl) rfl ?_
  refine g_op (g_keep [Res.blk mb 84 (M.c m)] rfl (fun w1 hw1 ho1 => by exact mbal_any mb m w1 ho1) rfl ?_)
  refine s_q (q_sub rfl rfl) rfl ?_
  refine s_q (q_assign rfl) rfl ?_
  refine g_nil ?_
  refine g_then ?_
  refine g_ret ?_
  exact fin1 rfl (.tmp rfl) (fun w' hw' => ⟨(), trivial, by first | rfl | (simp_all; done), by have h9 := wok_sub (L' := [Res.blk mb 84 (M.c m)]) w' hw'; exact h9⟩) _ (.inl rfl)

set_option maxHeartbeats 400000 in
theorem gsub_any (a b : Int) (w : World)  : Pur Try.prog 58 [.int .u64 a, .int .u64 b] w (.tuple [.int .u64 (if a < b then 0 else UU (a - b)), .bool (!decide (a < b))].toArray) := by
  refine g_start Try.func58 rfl 12 rfl (by simp) ([]) [] (WOK.start _ _) _ rfl ?_
  refine g_seq ?_
  refine g_region ?_
  refine s_q (q_assign rfl) rfl ?_
  refine s_q (q_assign rfl) rfl ?_
  refine g_nil ?_
  refine g_then ?_
  refine g_seq ?_
  refine g_seq ?_
  refine g_region ?_
  refine s_q (q_move rfl) rfl ?_
  refine s_q (q_move rfl) rfl ?_
  refine s_q (q_gtr rfl rfl) rfl ?_
  refine g_nil ?_
  refine g_then ?_
  refine g_cond rfl (fun h1 => ?_) (fun h1 => ?_)
  · refine g_seq ?_
    refine g_region ?_
    refine s_q (q_assign rfl) rfl ?_
    refine s_q (q_assign rfl) rfl ?_
    refine g_nil ?_
    refine g_then ?_
    refine g_ret ?_
    refine g_then_ret ?_
    exact fin2 rfl (.tmp rfl) (.tmp rfl) (fun w' hw' => ⟨by simp at h1; rw [if_pos (by omega), decide_eq_true (by omega)]; rfl, hw'.upd⟩) _ (.inl rfl)
  · refine g_skip ?_
    refine g_then ?_
    refine g_seq ?_
    refine g_region ?_
    refine s_q (q_move rfl) rfl ?_
    refine s_q (q_move rfl) rfl ?_
    refine s_q (q_sub rfl rfl) rfl ?_
    refine s_q (q_assign rfl) rfl ?_
    refine s_q (q_assign rfl) rfl ?_
    refine g_nil ?_
    refine g_then ?_
    refine g_ret ?_
    exact fin2 rfl (.tmp rfl) (.tmp rfl) (fun w' hw' => ⟨by simp at h1; rw [if_neg (by omega), decide_eq_false (by omega)]; rfl, hw'.upd⟩) _ (.inl rfl)

set_option maxHeartbeats 400000 in
theorem mgrant_any (mb : Nat) (m : M) (y : Int) (w : World) (hw : WOK (fps [Res.blk mb 84 (M.c m)]) w [Res.blk mb 84 (M.c m)] w)  : Own2 (ι := Unit) Try.prog 31 [.pointer (some ⟨mb, 0, none⟩), .int .u64 y] w [Res.blk mb 84 (M.c m)] (fun x => True) (fun x => .int .u64 (m.grant y).bal) (fun x => []) (fun x => [Res.blk mb 84 (M.c (m.grant y))]) := by
  refine g_start Try.func31 rfl 37 rfl (by simp) (fps [Res.blk mb 84 (M.c m)]) [Res.blk mb 84 (M.c m)] hw _ rfl ?_
  refine g_seq ?_
  refine g_region ?_
  refine s_q (q_assign rfl) rfl ?_
  refine g_nil ?_
  refine g_then ?_
  refine g_seq ?_
  refine g_seq ?_
  refine g_region ?_
  refine s_q (q_move rfl) rfl ?_
  refine s_q (q_eqp (b := false) rfl rfl rfl) rfl ?_
  refine g_nil ?_
  refine g_then ?_
  refine g_false rfl ?_
  refine g_skip ?_
  refine g_then ?_
  refine g_seq ?_
  refine d_region [17] mixed rfl rfl ?_
  refine d_q 0 rfl (by kernel_rfl) (q_move rfl) wok_sub rfl (ls' := #[true, false, false, false, false, false, false, false, false, false, false, false, false, false, false, false, false, false]) rfl ?_
  refine d_q 1 rfl (by kernel_rfl) (q_nilck rfl) wok_sub rfl (ls' := #[true, true, false, false, false, false, false, false, false, false, false, false, false, false, false, false, false, false]) rfl ?_
  refine d_q 2 rfl (by kernel_rfl) (q_field rfl) wok_sub rfl (ls' := #[true, true, true, false, false, false, false, false, false, false, false, false, false, false, false, false, false, false]) rfl ?_
  refine d_q 3 rfl (by kernel_rfl) (q_field rfl) wok_sub rfl (ls' := #[true, true, true, true, false, false, false, false, false, false, false, false, false, false, false, false, false, false]) rfl ?_
  refine d_q 4 rfl (by kernel_rfl) (q_field rfl) wok_sub rfl (ls' := #[true, true, true, true, true, false, false, false, false, false, false, false, false, false, false, false, false, false]) rfl ?_
  refine d_q 5 rfl (by kernel_rfl) (q_load rfl rfl) wok_sub rfl (ls' := #[true, true, true, true, true, true, false, false, false, false, false, false, false, false, false, false, false, false]) rfl ?_
  refine d_q 6 rfl (by kernel_rfl) (q_move rfl) wok_sub rfl (ls' := #[true, true, true, true, true, true, true, false, false, false, false, false, false, false, false, false, false, false]) rfl ?_
  refine d_q 7 rfl (by kernel_rfl) (q_move rfl) wok_sub rfl (ls' := #[true, true, true, true, true, true, true, true, false, false, false, false, false, false, false, false, false, false]) rfl ?_
  refine d_q 8 rfl (by kernel_rfl) (q_nilck rfl) wok_sub rfl (ls' := #[true, true, true, true, true, true, true, true, true, false, false, false, false, false, false, false, false, false]) rfl ?_
  refine d_q 9 rfl (by kernel_rfl) (q_field rfl) wok_sub rfl (ls' := #[true, true, true, true, true, true, true, true, true, true, false, false, false, false, false, false, false, false]) rfl ?_
  refine d_op 10 rfl (by kernel_rfl) (ls' := #[true, true, true, true, true, true, true, true, true, true, true, false, false, false, false, false, false, false]) rfl wok_sub (g_keep [Res.blk mb 84 (M.c m)] rfl (fun w1 hw1 ho1 => by exact mfree_any mb m w1 ho1) rfl ?_)
  refine d_q 11 rfl (by kernel_rfl) (q_min rfl rfl) wok_sub rfl (ls' := #[true, true, true, true, true, true, true, true, true, true, true, true, false, false, false, false, false, false]) rfl ?_
  refine d_q 12 rfl (by kernel_rfl) (q_add rfl rfl) wok_sub rfl (ls' := #[true, true, true, true, true, true, true, true, true, true, true, true, true, false, false, false, false, false]) rfl ?_
  refine d_p 13 rfl (by kernel_rfl) (fun _ => q_nilck rfl) rfl (ls' := #[true, true, true, true, true, true, true, true, true, true, true, true, true, true, false, false, false, false]) rfl ?_
  refine d_p 14 rfl (by kernel_rfl) (fun _ => q_field rfl) rfl (ls' := #[true, true, true, true, true, true, true, true, true, true, true, true, true, true, true, false, false, false]) rfl ?_
  refine d_p 15 rfl (by kernel_rfl) (fun _ => q_field rfl) rfl (ls' := #[true, true, true, true, true, true, true, true, true, true, true, true, true, true, true, true, false, false]) rfl ?_
  refine d_q 16 rfl (by kernel_rfl) (q_field rfl) wok_sub rfl (ls' := #[true, true, true, true, true, true, true, true, true, true, true, true, true, true, true, true, true, false]) rfl ?_
  refine d_op 17 rfl (by kernel_rfl) (ls' := #[true, true, true, true, true, true, true, true, true, true, true, true, true, true, true, true, true, true]) rfl wok_sub (g_store (c' := M.c ⟨UU (m.g + min y (UU (18446744073709551615 - m.bal))), m.t, m.d, m.bf⟩) rfl rfl rfl rfl rfl rfl rfl ?_)
  refine d_end (by kernel_rfl) (.inl rfl) ?_
  refine g_then ?_
  refine g_seq ?_
  refine g_region ?_
  refine s_q (q_move rfl) rfl ?_
  refine s_q (q_move rfl) rfl ?_
  refine s_q (q_nilck rfl) rfl ?_
  refine s_q (q_field rfl) rfl ?_
  refine s_q (q_field rfl) rfl ?_
  refine s_q (q_field rfl) rfl ?_
  refine s_q (q_load rfl rfl) rfl ?_
  refine s_q (q_nilck rfl) rfl ?_
  refine s_q (q_field rfl) rfl ?_
  refine g_op (g_store (c' := M.c (m.grant y)) rfl rfl rfl rfl rfl rfl rfl ?_)
  refine g_nil ?_
  refine g_then ?_
  refine g_seq ?_
  refine g_region ?_
  refine s_q (q_move rfl) rfl ?_
  refine s_q (q_nilck rfl) rfl ?_
  refine s_q (q_field rfl) rfl ?_
  refine g_op (g_keep [Res.blk mb 84 (M.c (m.grant y))] rfl (fun w1 hw1 ho1 => by exact mbal_any mb (m.grant y) w1 ho1) rfl ?_)
  refine s_q (q_assign rfl) rfl ?_
  refine g_nil ?_
  refine g_then ?_
  refine g_ret ?_
  exact fin1 rfl (.tmp rfl) (fun w' hw' => ⟨(), (by first | exact trivial | (dsimp only; exact trivial)), rfl, by have h9 := wok_sub (L' := [Res.blk mb 84 (M.c (m.grant y))]) w' hw'; exact h9⟩) _ (.inl rfl)

set_option maxHeartbeats 400000 in
theorem mtake_any (mb : Nat) (m : M) (y : Int) (w : World) (hw : WOK (fps [Res.blk mb 84 (M.c m)]) w [Res.blk mb 84 (M.c m)] w)  : Own2 (ι := Unit) Try.prog 32 [.pointer (some ⟨mb, 0, none⟩), .int .u64 y] w [Res.blk mb 84 (M.c m)] (fun x => True) (fun x => .bool (!decide (m.bal < y))) (fun x => []) (fun x => [Res.blk mb 84 (M.c (m.take y))]) := by
  refine g_start Try.func32 rfl 32 rfl (by simp) (fps [Res.blk mb 84 (M.c m)]) [Res.blk mb 84 (M.c m)] hw _ rfl ?_
  refine g_seq ?_
  refine g_region ?_
  refine s_q (q_assign rfl) rfl ?_
  refine g_nil ?_
  refine g_then ?_
  refine g_seq ?_
  refine g_seq ?_
  refine g_region ?_
  refine s_q (q_move rfl) rfl ?_
  refine s_q (q_eqp (b := false) rfl rfl rfl) rfl ?_
  refine g_nil ?_
  refine g_then ?_
  refine g_false rfl ?_
  refine g_skip ?_
  refine g_then ?_
  refine g_seq ?_
  refine g_seq ?_
  refine g_region ?_
  refine s_q (q_move rfl) rfl ?_
  refine s_q (q_nilck rfl) rfl ?_
  refine s_q (q_field rfl) rfl ?_
  refine g_op (g_keep [Res.blk mb 84 (M.c m)] rfl (fun w1 hw1 ho1 => by exact mbal_any mb m w1 ho1) rfl ?_)
  refine s_q (q_move rfl) rfl ?_
  refine g_op (g_pure rfl (fun w1 hw1 => gsub_any ((M.bal m)) (y) w1) rfl ?_)
  refine s_q (q_move rfl) rfl ?_
  refine s_q (q_extract rfl rfl) rfl ?_
  refine s_q (q_extract rfl rfl) rfl ?_
  refine s_q (q_assign rfl) rfl ?_
  refine s_q (q_assign rfl) rfl ?_
  refine g_nil ?_
  refine g_then ?_
  refine g_seq ?_
  refine g_region ?_
  refine s_q (q_move rfl) rfl ?_
  refine s_q (q_not rfl) rfl ?_
  refine g_nil ?_
  refine g_then ?_
  refine g_cond rfl (fun h1 => ?_) (fun h1 => ?_)
  · refine g_seq ?_
    refine g_region ?_
    refine s_q (q_assign rfl) rfl ?_
    refine g_nil ?_
    refine g_then ?_
    refine g_ret ?_
    refine g_then_ret ?_
    have e7 : m.take y = m := if_pos (by simp at h1; omega)
    exact fin1 rfl (.tmp rfl) (fun w' hw' => ⟨(), (by first | exact trivial | (dsimp only; exact trivial)), by simp at h1; simp; omega, by have h9 := wok_sub (L' := [Res.blk mb 84 (M.c m)]) w' hw'; show WOK _ _ [Res.blk mb 84 (M.c (m.take y))] _; rw [e7]; exact h9⟩) _ (.inl rfl)
  · refine g_skip ?_
    refine g_then ?_
    refine g_seq ?_
    refine g_region ?_
    refine s_q (q_move rfl) rfl ?_
    refine s_q (q_nilck rfl) rfl ?_
    refine s_q (q_field rfl) rfl ?_
    refine s_q (q_field rfl) rfl ?_
    refine s_q (q_field rfl) rfl ?_
    refine s_q (q_load rfl rfl) rfl ?_
    refine s_q (q_move rfl) rfl ?_
    refine s_q (q_add rfl rfl) rfl ?_
    refine s_q (q_nilck rfl) rfl ?_
    refine s_q (q_field rfl) rfl ?_
    refine s_q (q_field rfl) rfl ?_
    refine s_q (q_field rfl) rfl ?_
    refine g_op (g_store (c' := M.c ⟨m.g, UU (m.t + y), m.d, m.bf⟩) rfl rfl rfl rfl rfl rfl rfl ?_)
    refine g_nil ?_
    refine g_then ?_
    refine g_seq ?_
    refine g_region ?_
    refine s_q (q_assign rfl) rfl ?_
    refine g_nil ?_
    refine g_then ?_
    refine g_ret ?_
    have e7 : m.take y = ⟨m.g, UU (m.t + y), m.d, m.bf⟩ := if_neg (by simp at h1; omega)
    exact fin1 rfl (.tmp rfl) (fun w' hw' => ⟨(), (by first | exact trivial | (dsimp only; exact trivial)), by simp at h1; simp; omega, by have h9 := wok_sub (L' := [Res.blk mb 84 (M.c (M.mk m.g (UU (m.t + y)) m.d m.bf))]) w' hw'; show WOK _ _ [Res.blk mb 84 (M.c (m.take y))] _; rw [e7]; exact h9⟩) _ (.inl rfl)

set_option maxHeartbeats 400000 in
theorem mdrop_any (mb : Nat) (m : M) (w : World) (hw : WOK (fps [Res.blk mb 84 (M.c m)]) w [Res.blk mb 84 (M.c m)] w)  : Own2 (ι := Unit) Try.prog 35 [.pointer (some ⟨mb, 0, none⟩)] w [Res.blk mb 84 (M.c m)] (fun x => True) (fun x => .int .u64 m.bal) (fun x => []) (fun x => [Res.blk mb 84 (M.c m.drop)]) := by
  refine g_start Try.func35 rfl 23 rfl (by simp) (fps [Res.blk mb 84 (M.c m)]) [Res.blk mb 84 (M.c m)] hw _ rfl ?_
  refine g_seq ?_
  refine g_region ?_
  refine s_q (q_assign rfl) rfl ?_
  refine g_nil ?_
  refine g_then ?_
  refine g_seq ?_
  refine g_seq ?_
  refine g_region ?_
  refine s_q (q_move rfl) rfl ?_
  refine s_q (q_eqp (b := false) rfl rfl rfl) rfl ?_
  refine g_nil ?_
  refine g_then ?_
  refine g_false rfl ?_
  refine g_skip ?_
  refine g_then ?_
  refine g_seq ?_
  refine g_region ?_
  refine s_q (q_move rfl) rfl ?_
  refine s_q (q_nilck rfl) rfl ?_
  refine s_q (q_field rfl) rfl ?_
  refine g_op (g_keep [Res.blk mb 84 (M.c m)] rfl (fun w1 hw1 ho1 => by exact mbal_any mb m w1 ho1) rfl ?_)
  refine s_q (q_assign rfl) rfl ?_
  refine g_nil ?_
  refine g_then ?_
  refine g_seq ?_
  refine g_region ?_
  refine s_q (q_move rfl) rfl ?_
  refine s_q (q_nilck rfl) rfl ?_
  refine s_q (q_field rfl) rfl ?_
  refine s_q (q_field rfl) rfl ?_
  refine s_q (q_field rfl) rfl ?_
  refine s_q (q_load rfl rfl) rfl ?_
  refine s_q (q_move rfl) rfl ?_
  refine s_q (q_add rfl rfl) rfl ?_
  refine s_q (q_nilck rfl) rfl ?_
  refine s_q (q_field rfl) rfl ?_
  refine s_q (q_field rfl) rfl ?_
  refine s_q (q_field rfl) rfl ?_
  refine g_op (g_store (c' := M.c m.drop) rfl rfl rfl rfl rfl rfl rfl ?_)
  refine g_nil ?_
  refine g_then ?_
  refine g_seq ?_
  refine g_region ?_
  refine s_q (q_move rfl) rfl ?_
  refine s_q (q_assign rfl) rfl ?_
  refine g_nil ?_
  refine g_then ?_
  refine g_ret ?_
  exact fin1 rfl (.tmp rfl) (fun w' hw' => ⟨(), (by first | exact trivial | (dsimp only; exact trivial)), rfl, by have h9 := wok_sub (L' := [Res.blk mb 84 (M.c m.drop)]) w' hw'; exact h9⟩) _ (.inl rfl)

set_option maxHeartbeats 400000 in
theorem mbalance_any (mb : Nat) (m : M) (w : World) (hw : WOK (fps [Res.blk mb 84 (M.c m)]) w [Res.blk mb 84 (M.c m)] w)  : Keep Try.prog 19 [.pointer (some ⟨mb, 0, none⟩)] w [Res.blk mb 84 (M.c m)] (.int .u64 m.bal) := by
  refine g_start Try.func19 rfl 9 rfl (by simp) (fps [Res.blk mb 84 (M.c m)]) [Res.blk mb 84 (M.c m)] hw _ rfl ?_
  refine g_seq ?_
  refine g_region ?_
  refine s_q (q_assign rfl) rfl ?_
  refine g_nil ?_
  refine g_then ?_
  refine g_seq ?_
  refine g_seq ?_
  refine g_region ?_
  refine s_q (q_move rfl) rfl ?_
  refine s_q (q_eqp (b := false) rfl rfl rfl) rfl ?_
  refine g_nil ?_
  refine g_then ?_
  refine g_false rfl ?_
  refine g_skip ?_
  refine g_then ?_
  refine g_seq ?_
  refine g_region ?_
  refine s_q (q_move rfl) rfl ?_
  refine s_q (q_nilck rfl) rfl ?_
  refine s_q (q_field rfl) rfl ?_
  refine g_op (g_keep [Res.blk mb 84 (M.c m)] rfl (fun w1 hw1 ho1 => by exact mbal_any mb m w1 ho1) rfl ?_)
  refine s_q (q_assign rfl) rfl ?_
  refine g_nil ?_
  refine g_then ?_
  refine g_ret ?_
  exact fin1 rfl (.tmp rfl) (fun w' hw' => ⟨(), trivial, by first | rfl | (simp_all; done), by have h9 := wok_sub (L' := [Res.blk mb 84 (M.c m)]) w' hw'; exact h9⟩) _ (.inl rfl)

set_option maxHeartbeats 400000 in
theorem mspent_any (mb : Nat) (m : M) (w : World) (hw : WOK (fps [Res.blk mb 84 (M.c m)]) w [Res.blk mb 84 (M.c m)] w)  : Keep Try.prog 22 [.pointer (some ⟨mb, 0, none⟩)] w [Res.blk mb 84 (M.c m)] (.int .u64 m.spent) := by
  refine g_start Try.func22 rfl 16 rfl (by simp) (fps [Res.blk mb 84 (M.c m)]) [Res.blk mb 84 (M.c m)] hw _ rfl ?_
  refine g_seq ?_
  refine g_region ?_
  refine s_q (q_assign rfl) rfl ?_
  refine g_nil ?_
  refine g_then ?_
  refine g_seq ?_
  refine g_seq ?_
  refine g_region ?_
  refine s_q (q_move rfl) rfl ?_
  refine s_q (q_eqp (b := false) rfl rfl rfl) rfl ?_
  refine g_nil ?_
  refine g_then ?_
  refine g_false rfl ?_
  refine g_skip ?_
  refine g_then ?_
  refine g_seq ?_
  refine d_region [] mixed rfl rfl ?_
  refine d_q 0 rfl (by kernel_rfl) (q_move rfl) wok_sub rfl (ls' := #[true, false, false, false, false, false, false, false, false, false, false, false]) rfl ?_
  refine d_q 1 rfl (by kernel_rfl) (q_nilck rfl) wok_sub rfl (ls' := #[true, true, false, false, false, false, false, false, false, false, false, false]) rfl ?_
  refine d_q 2 rfl (by kernel_rfl) (q_field rfl) wok_sub rfl (ls' := #[true, true, true, false, false, false, false, false, false, false, false, false]) rfl ?_
  refine d_q 3 rfl (by kernel_rfl) (q_field rfl) wok_sub rfl (ls' := #[true, true, true, true, false, false, false, false, false, false, false, false]) rfl ?_
  refine d_q 4 rfl (by kernel_rfl) (q_field rfl) wok_sub rfl (ls' := #[true, true, true, true, true, false, false, false, false, false, false, false]) rfl ?_
  refine d_q 5 rfl (by kernel_rfl) (q_load rfl rfl) wok_sub rfl (ls' := #[true, true, true, true, true, true, false, false, false, false, false, false]) rfl ?_
  refine d_q 6 rfl (by kernel_rfl) (q_move rfl) wok_sub rfl (ls' := #[true, true, true, true, true, true, true, false, false, false, false, false]) rfl ?_
  refine d_q 7 rfl (by kernel_rfl) (q_nilck rfl) wok_sub rfl (ls' := #[true, true, true, true, true, true, true, true, false, false, false, false]) rfl ?_
  refine d_q 8 rfl (by kernel_rfl) (q_field rfl) wok_sub rfl (ls' := #[true, true, true, true, true, true, true, true, true, false, false, false]) rfl ?_
  refine d_q 9 rfl (by kernel_rfl) (q_load rfl rfl) wok_sub rfl (ls' := #[true, true, true, true, true, true, true, true, true, true, false, false]) rfl ?_
  refine d_q 10 rfl (by kernel_rfl) (q_sub rfl rfl) wok_sub rfl (ls' := #[true, true, true, true, true, true, true, true, true, true, true, false]) rfl ?_
  refine d_q 11 rfl (by kernel_rfl) (q_assign rfl) wok_sub rfl (ls' := #[true, true, true, true, true, true, true, true, true, true, true, true]) rfl ?_
  refine d_end (by kernel_rfl) (.inr wok_sub) ?_
  refine g_then ?_
  refine g_ret ?_
  exact fin1 rfl (.tmp rfl) (fun w' hw' => ⟨(), trivial, by first | rfl | (simp_all; done), by have h9 := wok_sub (L' := [Res.blk mb 84 (M.c m)]) w' hw'; exact h9⟩) _ (.inl rfl)

set_option maxHeartbeats 400000 in
theorem mnew_any  (w : World)  : Own2 (ι := Nat) Try.prog 12 [] w [] (fun x => True) (fun x => .pointer (some ⟨x, 0, none⟩)) (fun x => [Res.blk x 84 (M.c M0)]) (fun x => []) := by
  refine g_start Try.func12 rfl 3 rfl (by simp) (fps []) [] (WOK.start _ _) _ rfl ?_
  refine g_seq ?_
  refine g_region ?_
  refine s_q (q_assign rfl) rfl ?_
  refine g_nil ?_
  refine g_then ?_
  refine g_seq ?_
  refine g_region ?_
  refine s_q (q_build (c := M.c M0) rfl rfl) rfl ?_
  refine g_op (g_box (c := M.c M0) rfl rfl rfl fun b2 => ?_)
  refine s_q (q_assign rfl) rfl ?_
  refine g_nil ?_
  refine g_then ?_
  refine g_ret ?_
  exact fin1 rfl (.tmp rfl) (fun w' hw' => ⟨b2, (by first | exact trivial | (dsimp only; exact trivial)), rfl, by have h9 := wok_sub (L' := [Res.blk b2 84 (M.c M0)]) w' hw'; exact h9⟩) _ (.inl rfl)
end Go.Proofs.Ytmolaicpbaiioaa
