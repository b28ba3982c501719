/- the reference meter and step -/
import Derived.Test.YtmolaicpbaiioaaW4
namespace Go.Proofs.Ytmolaicpbaiioaa
open Go.RowKit Go.Eg
set_option synthInstance.maxSize 3000
set_option linter.unusedSimpArgs false
set_option linter.unusedVariables false
set_option maxRecDepth 100000
structure M where
  g : Int
  t : Int
  d : Int
  bf : Int
def M.c (x : M) : List Value := [.int .u64 x.g, .int .u64 x.t, .int .u64 x.d, .int .u64 x.bf]
structure R where
  b : Int
  s : Int
  g : Int
  t : Int
  d : Int
def R.c (x : R) : List Value := [.int .u64 x.b, .int .u64 x.s, .int .u64 x.g, .int .u64 x.t, .int .u64 x.d]
def UU (n : Int) : Int := IntKind.u64.wrap n
def M.bal (m : M) : Int := UU (UU (m.g - m.t) - m.d)
def M.grant (m : M) (l : Int) : M := ⟨UU (m.g + min l (UU (18446744073709551615 - m.bal))), m.t, m.d, m.t⟩
def M.take (m : M) (w : Int) : M := if m.bal < w then m else ⟨m.g, UU (m.t + w), m.d, m.bf⟩
def M.drop (m : M) : M := ⟨m.g, m.t, UU (m.d + m.bal), m.bf⟩
def M.spent (m : M) : Int := UU (m.t - m.bf)
def R.grant (m : R) (x : Int) : R := ⟨UU (m.b + min x (UU (18446744073709551615 - m.b))), 0, UU (m.g + min x (UU (18446744073709551615 - m.b))), m.t, m.d⟩
def R.take (m : R) (x : Int) : R := if m.b < x then m else ⟨UU (m.b - x), UU (m.s + x), m.g, UU (m.t + x), m.d⟩
def R.drop (m : R) : R := ⟨0, m.s, m.g, m.t, UU (m.d + m.b)⟩
def M0 : M := ⟨0, 0, 0, 0⟩
def R0 : R := ⟨0, 0, 0, 0, 0⟩
structure As where
  i : Int
  c : Int
  e : Int
deriving DecidableEq
def As.cs (x : As) : List Value := [.int .i64 x.i, .int .i64 x.c, .int .i64 x.e]
def ofW (W : List Int) (i : Int) : Int := if i < 0 ∨ (W.length : Int) ≤ i then 0 else (W[i.toNat]?).getD 0
theorem ofW_hi {W : List Int} {j : Nat} (h : j < W.length) : ofW W ((j : Nat) : Int) = W[j] := by
  unfold ofW
  rw [if_neg (by omega)]
  simp [h]
theorem ofW_lo {W : List Int} {i : Int} (h : i < 0 ∨ (W.length : Int) ≤ i) : ofW W i = 0 := if_pos h
def lenL (q : LL) : Nat := q.f.length + q.v.length
theorem popL_lt {q : LL} (h : headB q = true) : lenL (popL q) + 1 = lenL q := by
  obtain ⟨f, v⟩ := q
  cases f <;> cases v <;> simp_all [headB, popL, lenL] <;> omega
def stepF (W : List Int) (e : Int) : Nat → LL → R → List As → List As × LL × R
  | 0, q, m, out => (out, q, m)
  | n + 1, q, m, out => if headB q = false then (out, q, m.drop) else if m.b < ofW W (headI q) then (out, q, m) else stepF W e n (popL q) (m.take (ofW W (headI q))) (out ++ [⟨headI q, headC q, e + 1⟩])
def stepR (W : List Int) (e lim : Int) (q : LL) (m : R) : List As × LL × R := stepF W e (lenL q + 1) q (m.grant lim) []
theorem stepF_end {W : List Int} {e : Int} {n : Nat} {q : LL} {m : R} {out : List As} (h : headB q = false) : stepF W e (n + 1) q m out = (out, q, m.drop) := by rw [stepF, if_pos h]
theorem stepF_stop {W : List Int} {e : Int} {n : Nat} {q : LL} {m : R} {out : List As} (h : headB q = true) (h2 : m.b < ofW W (headI q)) : stepF W e (n + 1) q m out = (out, q, m) := by rw [stepF, if_neg (by simp [h]), if_pos h2]
theorem stepF_go {W : List Int} {e : Int} {n : Nat} {q : LL} {m : R} {out : List As} (h : headB q = true) (h2 : ¬ m.b < ofW W (headI q)) : stepF W e (n + 1) q m out = stepF W e n (popL q) (m.take (ofW W (headI q))) (out ++ [⟨headI q, headC q, e + 1⟩]) := by rw [stepF, if_neg (by simp [h]), if_neg h2]

set_option maxHeartbeats 400000 in
theorem max11_any  (w : World)  : Pur Try.prog 65 [] w (.int .u64 18446744073709551615) := by
  refine g_start Try.func65 rfl 1 rfl (by simp) ([]) [] (WOK.start _ _) _ rfl ?_
  refine g_seq ?_
  refine g_region ?_
  refine s_q (q_assign rfl) rfl ?_
  refine g_nil ?_
  refine g_then ?_
  refine g_seq ?_
  refine g_region ?_
  refine s_q (q_assign rfl) rfl ?_
  refine g_nil ?_
  refine g_then ?_
  refine g_ret ?_
  exact fin1 rfl (.tmp rfl) (fun w' hw' => ⟨by rfl, hw'.upd⟩) _ (.inl rfl)

set_option maxHeartbeats 400000 in
theorem rgrant_any (mb : Nat) (m : R) (y : Int) (w : World) (hw : WOK (fps [Res.blk mb 62 (R.c m)]) w [Res.blk mb 62 (R.c m)] w)  : Own2 (ι := Unit) Try.prog 46 [.pointer (some ⟨mb, 0, none⟩), .int .u64 y] w [Res.blk mb 62 (R.c m)] (fun x => True) (fun x => .tuple #[]) (fun x => []) (fun x => [Res.blk mb 62 (R.c (m.grant y))]) := by
  refine g_start Try.func46 rfl 33 rfl (by simp) (fps [Res.blk mb 62 (R.c m)]) [Res.blk mb 62 (R.c m)] hw _ rfl ?_
  refine g_seq ?_
  refine d_region [] mixed rfl rfl ?_
  refine d_q 0 rfl (by kernel_rfl) (q_move rfl) wok_sub rfl (ls' := #[true, false, false, false, false, false, false, false, false]) rfl ?_
  refine d_q 2 rfl (by kernel_rfl) (q_move rfl) wok_sub rfl (ls' := #[true, false, true, false, false, false, false, false, false]) rfl ?_
  refine d_q 3 rfl (by kernel_rfl) (q_nilck rfl) wok_sub rfl (ls' := #[true, false, true, true, false, false, false, false, false]) rfl ?_
  refine d_q 4 rfl (by kernel_rfl) (q_field rfl) wok_sub rfl (ls' := #[true, false, true, true, true, false, false, false, false]) rfl ?_
  refine d_q 5 rfl (by kernel_rfl) (q_load rfl rfl) wok_sub rfl (ls' := #[true, false, true, true, true, true, false, false, false]) rfl ?_
  refine d_op 1 rfl (by kernel_rfl) (ls' := #[true, true, true, true, true, true, false, false, false]) rfl wok_sub (g_pure rfl (fun w1 hw1 => max11_any w1) rfl ?_)
  refine d_q 6 rfl (by kernel_rfl) (q_sub rfl rfl) wok_sub rfl (ls' := #[true, true, true, true, true, true, true, false, false]) rfl ?_
  refine d_q 7 rfl (by kernel_rfl) (q_min rfl rfl) wok_sub rfl (ls' := #[true, true, true, true, true, true, true, true, false]) rfl ?_
  refine d_q 8 rfl (by kernel_rfl) (q_assign rfl) wok_sub rfl (ls' := #[true, true, true, true, true, true, true, true, true]) rfl ?_
  refine d_end (by kernel_rfl) (.inr wok_sub) ?_
  refine g_then ?_
  refine g_seq ?_
  refine g_region ?_
  refine s_q (q_move rfl) rfl ?_
  refine s_q (q_move rfl) rfl ?_
  refine s_q (q_nilck rfl) rfl ?_
  refine s_q (q_field rfl) rfl ?_
  refine s_q (q_load rfl rfl) rfl ?_
  refine s_q (q_move rfl) rfl ?_
  refine s_q (q_add rfl rfl) rfl ?_
  refine s_q (q_nilck rfl) rfl ?_
  refine s_q (q_field rfl) rfl ?_
  refine g_op (g_store (c' := R.c ⟨m.b, m.s, UU (m.g + min y (UU (18446744073709551615 - m.b))), m.t, m.d⟩) rfl rfl rfl rfl rfl rfl rfl ?_)
  refine g_nil ?_
  refine g_then ?_
  refine g_seq ?_
  refine g_region ?_
  refine s_q (q_move rfl) rfl ?_
  refine s_q (q_move rfl) rfl ?_
  refine s_q (q_nilck rfl) rfl ?_
  refine s_q (q_field rfl) rfl ?_
  refine s_q (q_load rfl rfl) rfl ?_
  refine s_q (q_move rfl) rfl ?_
  refine s_q (q_add rfl rfl) rfl ?_
  refine s_q (q_nilck rfl) rfl ?_
  refine s_q (q_field rfl) rfl ?_
  refine g_op (g_store (c' := R.c ⟨UU (m.b + min y (UU (18446744073709551615 - m.b))), m.s, UU (m.g + min y (UU (18446744073709551615 - m.b))), m.t, m.d⟩) rfl rfl rfl rfl rfl rfl rfl ?_)
  refine g_nil ?_
  refine g_then ?_
  refine g_region ?_
  refine s_q (q_move rfl) rfl ?_
  refine s_q (q_nilck rfl) rfl ?_
  refine s_q (q_field rfl) rfl ?_
  refine g_op (g_store (c' := R.c (m.grant y)) rfl rfl rfl rfl rfl rfl rfl ?_)
  refine g_nil ?_
  exact fin0 rfl (fun w' hw' => ⟨(), (by first | exact trivial | (dsimp only; exact trivial)), rfl, by have h9 := wok_sub (L' := [Res.blk mb 62 (R.c (m.grant y))]) w' hw'; exact h9⟩) _ (.inr rfl)

set_option maxHeartbeats 400000 in
theorem rtake_any (mb : Nat) (m : R) (y : Int) (w : World) (hw : WOK (fps [Res.blk mb 62 (R.c m)]) w [Res.blk mb 62 (R.c m)] w)  : Own2 (ι := Unit) Try.prog 49 [.pointer (some ⟨mb, 0, none⟩), .int .u64 y] w [Res.blk mb 62 (R.c m)] (fun x => True) (fun x => .bool (!decide (m.b < y))) (fun x => []) (fun x => [Res.blk mb 62 (R.c (m.take y))]) := by
  refine g_start Try.func49 rfl 38 rfl (by simp) (fps [Res.blk mb 62 (R.c m)]) [Res.blk mb 62 (R.c m)] hw _ rfl ?_
  refine g_seq ?_
  refine g_region ?_
  refine s_q (q_assign rfl) rfl ?_
  refine g_nil ?_
  refine g_then ?_
  refine g_seq ?_
  refine g_seq ?_
  refine g_region ?_
  refine s_q (q_move rfl) rfl ?_
  refine s_q (q_move rfl) rfl ?_
  refine s_q (q_nilck rfl) rfl ?_
  refine s_q (q_field rfl) rfl ?_
  refine s_q (q_load rfl rfl) rfl ?_
  refine s_q (q_gtr rfl rfl) rfl ?_
  refine g_nil ?_
  refine g_then ?_
  refine g_cond rfl (fun h1 => ?_) (fun h1 => ?_)
  · refine g_seq ?_
    refine g_region ?_
    refine s_q (q_assign rfl) rfl ?_
    refine g_nil ?_
    refine g_then ?_
    refine g_ret ?_
    refine g_then_ret ?_
    have e7 : m.take y = m := if_pos (by simp at h1; omega)
    exact fin1 rfl (.tmp rfl) (fun w' hw' => ⟨(), (by first | exact trivial | (dsimp only; exact trivial)), by simp at h1; simp; omega, by have h9 := wok_sub (L' := [Res.blk mb 62 (R.c m)]) w' hw'; show WOK _ _ [Res.blk mb 62 (R.c (m.take y))] _; rw [e7]; exact h9⟩) _ (.inl rfl)
  · refine g_skip ?_
    refine g_then ?_
    refine g_seq ?_
    refine g_region ?_
    refine s_q (q_move rfl) rfl ?_
    refine s_q (q_move rfl) rfl ?_
    refine s_q (q_nilck rfl) rfl ?_
    refine s_q (q_field rfl) rfl ?_
    refine s_q (q_load rfl rfl) rfl ?_
    refine s_q (q_move rfl) rfl ?_
    refine s_q (q_sub rfl rfl) rfl ?_
    refine s_q (q_nilck rfl) rfl ?_
    refine s_q (q_field rfl) rfl ?_
    refine g_op (g_store (c' := R.c ⟨UU (m.b - y), m.s, m.g, m.t, m.d⟩) rfl rfl rfl rfl rfl rfl rfl ?_)
    refine g_nil ?_
    refine g_then ?_
    refine g_seq ?_
    refine g_region ?_
    refine s_q (q_move rfl) rfl ?_
    refine s_q (q_move rfl) rfl ?_
    refine s_q (q_nilck rfl) rfl ?_
    refine s_q (q_field rfl) rfl ?_
    refine s_q (q_load rfl rfl) rfl ?_
    refine s_q (q_move rfl) rfl ?_
    refine s_q (q_add rfl rfl) rfl ?_
    refine s_q (q_nilck rfl) rfl ?_
    refine s_q (q_field rfl) rfl ?_
    refine g_op (g_store (c' := R.c ⟨UU (m.b - y), UU (m.s + y), m.g, m.t, m.d⟩) rfl rfl rfl rfl rfl rfl rfl ?_)
    refine g_nil ?_
    refine g_then ?_
    refine g_seq ?_
    refine g_region ?_
    refine s_q (q_move rfl) rfl ?_
    refine s_q (q_move rfl) rfl ?_
    refine s_q (q_nilck rfl) rfl ?_
    refine s_q (q_field rfl) rfl ?_
    refine s_q (q_load rfl rfl) rfl ?_
    refine s_q (q_move rfl) rfl ?_
    refine s_q (q_add rfl rfl) rfl ?_
    refine s_q (q_nilck rfl) rfl ?_
    refine s_q (q_field rfl) rfl ?_
    refine g_op (g_store (c' := R.c ⟨UU (m.b - y), UU (m.s + y), m.g, UU (m.t + y), m.d⟩) rfl rfl rfl rfl rfl rfl rfl ?_)
    refine g_nil ?_
    refine g_then ?_
    refine g_seq ?_
    refine g_region ?_
    refine s_q (q_assign rfl) rfl ?_
    refine g_nil ?_
    refine g_then ?_
    refine g_ret ?_
    have e7 : m.take y = ⟨UU (m.b - y), UU (m.s + y), m.g, UU (m.t + y), m.d⟩ := if_neg (by simp at h1; omega)
    exact fin1 rfl (.tmp rfl) (fun w' hw' => ⟨(), (by first | exact trivial | (dsimp only; exact trivial)), by simp at h1; simp; omega, by have h9 := wok_sub (L' := [Res.blk mb 62 (R.c (R.mk (UU (m.b - y)) (UU (m.s + y)) m.g (UU (m.t + y)) m.d))]) w' hw'; show WOK _ _ [Res.blk mb 62 (R.c (m.take y))] _; rw [e7]; exact h9⟩) _ (.inl rfl)

set_option maxHeartbeats 400000 in
theorem rdrop_any (mb : Nat) (m : R) (w : World) (hw : WOK (fps [Res.blk mb 62 (R.c m)]) w [Res.blk mb 62 (R.c m)] w)  : Own2 (ι := Unit) Try.prog 48 [.pointer (some ⟨mb, 0, none⟩)] w [Res.blk mb 62 (R.c m)] (fun x => True) (fun x => .int .u64 m.b) (fun x => []) (fun x => [Res.blk mb 62 (R.c m.drop)]) := by
  refine g_start Try.func48 rfl 21 rfl (by simp) (fps [Res.blk mb 62 (R.c m)]) [Res.blk mb 62 (R.c m)] hw _ rfl ?_
  refine g_seq ?_
  refine g_region ?_
  refine s_q (q_assign rfl) rfl ?_
  refine g_nil ?_
  refine g_then ?_
  refine g_seq ?_
  refine g_region ?_
  refine s_q (q_move rfl) rfl ?_
  refine s_q (q_nilck rfl) rfl ?_
  refine s_q (q_field rfl) rfl ?_
  refine s_q (q_load rfl rfl) rfl ?_
  refine s_q (q_assign rfl) rfl ?_
  refine g_nil ?_
  refine g_then ?_
  refine g_seq ?_
  refine g_region ?_
  refine s_q (q_move rfl) rfl ?_
  refine s_q (q_move rfl) rfl ?_
  refine s_q (q_nilck rfl) rfl ?_
  refine s_q (q_field rfl) rfl ?_
  refine s_q (q_load rfl rfl) rfl ?_
  refine s_q (q_move rfl) rfl ?_
  refine s_q (q_add rfl rfl) rfl ?_
  refine s_q (q_nilck rfl) rfl ?_
  refine s_q (q_field rfl) rfl ?_
  refine g_op (g_store (c' := R.c ⟨m.b, m.s, m.g, m.t, UU (m.d + m.b)⟩) rfl rfl rfl rfl rfl rfl rfl ?_)
  refine g_nil ?_
  refine g_then ?_
  refine g_seq ?_
  refine g_region ?_
  refine s_q (q_move rfl) rfl ?_
  refine s_q (q_nilck rfl) rfl ?_
  refine s_q (q_field rfl) rfl ?_
  refine g_op (g_store (c' := R.c m.drop) rfl rfl rfl rfl rfl rfl rfl ?_)
  refine g_nil ?_
  refine g_then ?_
  refine g_seq ?_
  refine g_region ?_
  refine s_q (q_move rfl) rfl ?_
  refine s_q (q_assign rfl) rfl ?_
  refine g_nil ?_
  refine g_then ?_
  refine g_ret ?_
  exact fin1 rfl (.tmp rfl) (fun w' hw' => ⟨(), (by first | exact trivial | (dsimp only; exact trivial)), rfl, by have h9 := wok_sub (L' := [Res.blk mb 62 (R.c m.drop)]) w' hw'; exact h9⟩) _ (.inl rfl)

set_option maxHeartbeats 400000 in
theorem of13_any (A : Option Addr) (n cap : Nat) (l : List Int) (i : Int) (w : World) (ha : Old w A n 1 (l.map (fun v : Int => [Value.int .u64 v]))) : Pur Try.prog 20 [.slice A n cap, .int .i64 i] w (.int .u64 (ofW l i)) := by
  refine g_start Try.func20 rfl 17 rfl (by simp) ([]) [] (WOK.start _ _) _ rfl ?_
  refine g_seq ?_
  refine g_region ?_
  refine s_q (q_assign rfl) rfl ?_
  refine g_nil ?_
  refine g_then ?_
  refine g_seq ?_
  refine g_seq ?_
  refine g_region ?_
  refine s_q (q_move rfl) rfl ?_
  refine s_q (q_lss rfl rfl) rfl ?_
  refine s_q (q_move rfl) rfl ?_
  refine g_split 7 rfl (fun h1 => ?_) (fun h1 => ?_)
  · refine g_gf rfl rfl rfl rfl ?_
    refine g_gf rfl rfl rfl rfl ?_
    refine g_gf rfl rfl rfl rfl ?_
    refine g_gf rfl rfl rfl rfl ?_
    refine s_q (q_pick_t rfl rfl) rfl ?_
    refine g_nil ?_
    refine g_then ?_
    refine g_true rfl ?_
    refine g_seq ?_
    refine g_region ?_
    refine s_q (q_assign rfl) rfl ?_
    refine g_nil ?_
    refine g_then ?_
    refine g_ret ?_
    refine g_then_ret ?_
    exact fin1 rfl (.tmp rfl) (fun w' hw' => ⟨by rw [ofW_lo (by first | exact .inl (of_decide_eq_true h1) | (have h8 := ha.len; simp only [List.length_map] at h8; simp_all; omega))], hw'.upd⟩) _ (.inl rfl)
  · refine s_qg (q_move rfl) rfl rfl rfl ?_
    refine s_qg (q_move rfl) rfl rfl rfl ?_
    refine s_qg (q_len rfl) rfl rfl rfl ?_
    refine s_qg (q_geq rfl rfl) rfl rfl rfl ?_
    refine s_q (q_pick_f rfl rfl) rfl ?_
    refine g_nil ?_
    refine g_then ?_
    refine g_cond rfl (fun h2 => ?_) (fun h2 => ?_)
    · refine g_seq ?_
      refine g_region ?_
      refine s_q (q_assign rfl) rfl ?_
      refine g_nil ?_
      refine g_then ?_
      refine g_ret ?_
      refine g_then_ret ?_
      exact fin1 rfl (.tmp rfl) (fun w' hw' => ⟨by rw [ofW_lo (.inr (by have h8 := ha.len; simp only [List.length_map] at h8; have h7 := of_decide_eq_true h2; omega))], hw'.upd⟩) _ (.inl rfl)
    · have hn : n = l.length := by simpa using ha.len
      have h9 : ¬ i < 0 ∧ ¬ (l.length : Int) ≤ i := ⟨of_decide_eq_false h1, by have h7 := of_decide_eq_false h2; omega⟩
      obtain ⟨j, rfl⟩ : ∃ j : Nat, i = j := ⟨i.toNat, by omega⟩
      have hj : j < l.length := by omega
      refine g_skip ?_
      refine g_then ?_
      refine g_seq ?_
      refine g_region ?_
      refine s_q (q_move rfl) rfl ?_
      refine s_q (q_move rfl) rfl ?_
      refine s_q (q_index (i := j) rfl rfl rfl (ha.rdb rfl) (by first | omega | (simp; done) | (simp; omega))) rfl ?_
      refine s_q (q_load_el (i := j) (o := 0) rfl (ha.rdb rfl) (map_get (by first | assumption | omega)) rfl rfl) rfl ?_
      refine s_q (q_assign rfl) rfl ?_
      refine g_nil ?_
      refine g_then ?_
      refine g_ret ?_
      exact fin1 rfl (.tmp rfl) (fun w' hw' => ⟨by rw [ofW_hi hj], hw'.upd⟩) _ (.inl rfl)

set_option maxHeartbeats 400000 in
theorem rstep_any (e lim : Int) (wb mb : Nat) (A0 A1 : Option Addr) (c0 c1 : Nat) (q : LL) (sz : Nat) (m : R) (W : Option Addr) (wn wc : Nat) (l : List Int) (w : World) (hw : WOK (fps [Res.blk wb 33 [Value.slice A0 (q).f.length c0, Value.slice A1 (q).v.length c1, Value.int .i64 ((sz : Nat) : Int)], Res.ro A0 (q).f.length 1 ((q).f.map (fun v : Int => [Value.int .i64 v])), Res.ro A1 (q).v.length 1 ((q).v.map (fun v : Int => [Value.int .i64 v])), Res.blk mb 62 (R.c m)]) w [Res.blk wb 33 [Value.slice A0 (q).f.length c0, Value.slice A1 (q).v.length c1, Value.int .i64 ((sz : Nat) : Int)], Res.ro A0 (q).f.length 1 ((q).f.map (fun v : Int => [Value.int .i64 v])), Res.ro A1 (q).v.length 1 ((q).v.map (fun v : Int => [Value.int .i64 v])), Res.blk mb 62 (R.c m)] w) (hc0 : q.f.length ≤ c0) (hc1 : q.v.length ≤ c1) (hsz : sz ≤ 4096) (hq : q.f.length ≤ sz ∧ q.v.length ≤ sz) (hw9 : Rd w [Res.blk wb 33 [Value.slice A0 (q).f.length c0, Value.slice A1 (q).v.length c1, Value.int .i64 ((sz : Nat) : Int)], Res.ro A0 (q).f.length 1 ((q).f.map (fun v : Int => [Value.int .i64 v])), Res.ro A1 (q).v.length 1 ((q).v.map (fun v : Int => [Value.int .i64 v])), Res.blk mb 62 (R.c m)] W wn 1 (l.map (fun v : Int => [Value.int .u64 v]))) (he9 : -1000000 ≤ e ∧ e ≤ 1000000000000000) : Own2 (ι := (Option Addr × Nat × Option Addr × Nat × Option Addr × Nat)) Try.prog 23 [.int .i64 e, .pointer (some ⟨wb, 0, none⟩), .pointer (some ⟨mb, 0, none⟩), .int .u64 lim, .slice W wn wc] w [Res.blk wb 33 [Value.slice A0 (q).f.length c0, Value.slice A1 (q).v.length c1, Value.int .i64 ((sz : Nat) : Int)], Res.ro A0 (q).f.length 1 ((q).f.map (fun v : Int => [Value.int .i64 v])), Res.ro A1 (q).v.length 1 ((q).v.map (fun v : Int => [Value.int .i64 v])), Res.blk mb 62 (R.c m)] (fun x => (stepR l e lim q m).2.1.f.length ≤ x.2.2.2.1 ∧ (stepR l e lim q m).2.1.v.length ≤ x.2.2.2.2.2) (fun x => .slice x.1 (stepR l e lim q m).1.length x.2.1) (fun x => [Res.row x.1 ((stepR l e lim q m).1).length x.2.1 101 3 (((stepR l e lim q m).1).map As.cs)]) (fun x => [Res.blk wb 33 [Value.slice x.2.2.1 ((stepR l e lim q m).2.1).f.length x.2.2.2.1, Value.slice x.2.2.2.2.1 ((stepR l e lim q m).2.1).v.length x.2.2.2.2.2, Value.int .i64 ((sz : Nat) : Int)], Res.ro x.2.2.1 ((stepR l e lim q m).2.1).f.length 1 (((stepR l e lim q m).2.1).f.map (fun v : Int => [Value.int .i64 v])), Res.ro x.2.2.2.2.1 ((stepR l e lim q m).2.1).v.length 1 (((stepR l e lim q m).2.1).v.map (fun v : Int => [Value.int .i64 v])), Res.blk mb 62 (R.c (stepR l e lim q m).2.2)]) := by
  refine g_start Try.func23 rfl 46 rfl (by simp) (fps [Res.blk wb 33 [Value.slice A0 (q).f.length c0, Value.slice A1 (q).v.length c1, Value.int .i64 ((sz : Nat) : Int)], Res.ro A0 (q).f.length 1 ((q).f.map (fun v : Int => [Value.int .i64 v])), Res.ro A1 (q).v.length 1 ((q).v.map (fun v : Int => [Value.int .i64 v])), Res.blk mb 62 (R.c m)]) [Res.blk wb 33 [Value.slice A0 (q).f.length c0, Value.slice A1 (q).v.length c1, Value.int .i64 ((sz : Nat) : Int)], Res.ro A0 (q).f.length 1 ((q).f.map (fun v : Int => [Value.int .i64 v])), Res.ro A1 (q).v.length 1 ((q).v.map (fun v : Int => [Value.int .i64 v])), Res.blk mb 62 (R.c m)] hw _ rfl ?_
  refine g_seq ?_
  refine g_region ?_
  refine s_q (q_assign rfl) rfl ?_
  refine g_nil ?_
  refine g_then ?_
  refine g_seq ?_
  refine g_region ?_
  refine s_q (q_move rfl) rfl ?_
  refine s_q (q_move rfl) rfl ?_
  refine g_op (g_ownS [Res.blk mb 62 (R.c m)] rfl (fun w1 hw1 ho1 => by have h7 := rgrant_any mb m (lim) w1 ho1; exact h7) rfl ?_)
  rintro ⟨⟩ _
  refine ⟨_, _, inferInstance, inferInstance, ?_⟩
  refine g_nil ?_
  refine g_then ?_
  refine g_seq ?_
  refine g_region ?_
  refine s_q (q_assign rfl) rfl ?_
  refine g_nilrow 11 101 3 rfl fun Az1 capz1 hcz1 => ?_
  refine g_rowels (A := Az1) (([] : List As).map As.cs) rfl ?_
  refine g_nil ?_
  refine g_then ?_
  refine g_block ?_
  refine g_loopk [0, 1, 2, 4, 10] (fun (x : Option Addr × Nat × List As × LL × R × Option Addr × Nat × Option Addr × Nat) => [(11, .slice x.1 x.2.2.1.length x.2.1)]) (fun (x : Option Addr × Nat × List As × LL × R × Option Addr × Nat × Option Addr × Nat) => [Res.row x.1 (x.2.2.1).length x.2.1 101 3 ((x.2.2.1).map As.cs), Res.blk wb 33 [Value.slice x.2.2.2.2.2.1 (x.2.2.2.1).f.length x.2.2.2.2.2.2.1, Value.slice x.2.2.2.2.2.2.2.1 (x.2.2.2.1).v.length x.2.2.2.2.2.2.2.2, Value.int .i64 ((sz : Nat) : Int)], Res.ro x.2.2.2.2.2.1 (x.2.2.2.1).f.length 1 ((x.2.2.2.1).f.map (fun v : Int => [Value.int .i64 v])), Res.ro x.2.2.2.2.2.2.2.1 (x.2.2.2.1).v.length 1 ((x.2.2.2.1).v.map (fun v : Int => [Value.int .i64 v])), Res.blk mb 62 (R.c x.2.2.2.2.1)]) (fun (x : Option Addr × Nat × List As × LL × R × Option Addr × Nat × Option Addr × Nat) => (stepR l e lim q m) = stepF l e (lenL x.2.2.2.1 + 1) x.2.2.2.1 x.2.2.2.2.1 x.2.2.1 ∧ (x.2.2.2.1).f.length ≤ x.2.2.2.2.2.2.1 ∧ (x.2.2.2.1).v.length ≤ x.2.2.2.2.2.2.2.2 ∧ ((x.2.2.2.1).f.length ≤ sz ∧ (x.2.2.2.1).v.length ≤ sz) ∧ (x.2.2.1).length + lenL x.2.2.2.1 = lenL q) (fun (x : Option Addr × Nat × List As × LL × R × Option Addr × Nat × Option Addr × Nat) => lenL x.2.2.2.1) (Az1, capz1, [], q, (R.grant m lim), A0, c0, A1, c1) (by (try dsimp only); exact ⟨rfl, hc0, hc1, hq, (by simp)⟩) rfl (by repeat (first | exact trivial | refine ⟨rfl, ?_⟩)) wok_sub ?_
  rintro ⟨A, cap, out, p, m1, B0, d0, B1, d1⟩ ⟨hs, u0, u1, hp, hl⟩
  replace hs : (stepR l e lim q m) = stepF l e (lenL p + 1) p m1 out := hs
  replace u0 : (p).f.length ≤ d0 := u0
  replace u1 : (p).v.length ≤ d1 := u1
  replace hp : (p).f.length ≤ sz ∧ (p).v.length ≤ sz := hp
  replace hl : (out).length + lenL p = lenL q := hl
  refine g_setL (L' := [Res.row A (out).length cap 101 3 ((out).map As.cs), Res.blk wb 33 [Value.slice B0 (p).f.length d0, Value.slice B1 (p).v.length d1, Value.int .i64 ((sz : Nat) : Int)], Res.ro B0 (p).f.length 1 ((p).f.map (fun v : Int => [Value.int .i64 v])), Res.ro B1 (p).v.length 1 ((p).v.map (fun v : Int => [Value.int .i64 v])), Res.blk mb 62 (R.c m1)]) rfl ?_
  refine g_val 11 (v' := .slice A out.length cap) rfl rfl ?_
  have hlq : lenL q ≤ 8192 := by unfold lenL; omega
  refine g_block ?_
  refine g_seq ?_
  refine g_region ?_
  refine s_q (q_move rfl) rfl ?_
  refine g_op (g_keep [Res.blk wb 33 [Value.slice B0 (p).f.length d0, Value.slice B1 (p).v.length d1, Value.int .i64 ((sz : Nat) : Int)], Res.ro B0 (p).f.length 1 ((p).f.map (fun v : Int => [Value.int .i64 v])), Res.ro B1 (p).v.length 1 ((p).v.map (fun v : Int => [Value.int .i64 v]))] rfl (fun w1 hw1 ho1 => by exact rhead_any wb B0 B1 d0 d1 p sz w1 ho1 u0 u1 (by omega) hp) rfl ?_)
  refine s_q (q_move rfl) rfl ?_
  refine s_q (q_extract rfl rfl) rfl ?_
  refine s_q (q_extract rfl rfl) rfl ?_
  refine s_q (q_extract rfl rfl) rfl ?_
  refine s_q (q_assign rfl) rfl ?_
  refine s_q (q_assign rfl) rfl ?_
  refine s_q (q_assign rfl) rfl ?_
  refine g_nil ?_
  refine g_then ?_
  refine g_seq ?_
  refine g_seq ?_
  refine g_region ?_
  refine s_q (q_move rfl) rfl ?_
  refine s_q (q_not rfl) rfl ?_
  refine g_nil ?_
  refine g_then ?_
  refine g_cond rfl (fun h1 => ?_) (fun h1 => ?_)
  · have hB : headB p = false := by simpa using h1
    have hR : (stepR l e lim q m) = (out, p, m1.drop) := by rw [hs, stepF_end hB]
    refine g_seq ?_
    refine g_region ?_
    refine s_q (q_move rfl) rfl ?_
    refine g_op (g_ownS [Res.blk mb 62 (R.c m1)] rfl (fun w1 hw1 ho1 => by have h7 := rdrop_any mb m1  w1 ho1; exact h7) rfl ?_)
    rintro ⟨⟩ _
    refine ⟨_, _, inferInstance, inferInstance, ?_⟩
    refine g_nil ?_
    refine g_then ?_
    refine g_seq ?_
    refine g_region ?_
    refine s_q (q_move rfl) rfl ?_
    refine s_q (q_assign rfl) rfl ?_
    refine g_nil ?_
    refine g_then ?_
    refine g_ret ?_
    refine g_then_ret (g_blk_ret (g_then_ret (g_blk_ret ?_)))
    exact fin1 rfl (.tmp rfl) (fun w' hw' => ⟨(A, cap, B0, d0, B1, d1), (by first | (rw [hR]; exact ⟨u0, u1⟩) | (dsimp only; (rw [hR]; exact ⟨u0, u1⟩))), by rw [hR], by have h9 := wok_sub (L' := [Res.row A (out).length cap 101 3 ((out).map As.cs), Res.blk wb 33 [Value.slice B0 (p).f.length d0, Value.slice B1 (p).v.length d1, Value.int .i64 ((sz : Nat) : Int)], Res.ro B0 (p).f.length 1 ((p).f.map (fun v : Int => [Value.int .i64 v])), Res.ro B1 (p).v.length 1 ((p).v.map (fun v : Int => [Value.int .i64 v])), Res.blk mb 62 (R.c (R.drop m1))]) w' hw'; show WOK _ _ [Res.row ((A, cap, B0, d0, B1, d1)).1 ((stepR l e lim q m).1).length ((A, cap, B0, d0, B1, d1)).2.1 101 3 (((stepR l e lim q m).1).map As.cs), Res.blk wb 33 [Value.slice ((A, cap, B0, d0, B1, d1)).2.2.1 ((stepR l e lim q m).2.1).f.length ((A, cap, B0, d0, B1, d1)).2.2.2.1, Value.slice ((A, cap, B0, d0, B1, d1)).2.2.2.2.1 ((stepR l e lim q m).2.1).v.length ((A, cap, B0, d0, B1, d1)).2.2.2.2.2, Value.int .i64 ((sz : Nat) : Int)], Res.ro ((A, cap, B0, d0, B1, d1)).2.2.1 ((stepR l e lim q m).2.1).f.length 1 (((stepR l e lim q m).2.1).f.map (fun v : Int => [Value.int .i64 v])), Res.ro ((A, cap, B0, d0, B1, d1)).2.2.2.2.1 ((stepR l e lim q m).2.1).v.length 1 (((stepR l e lim q m).2.1).v.map (fun v : Int => [Value.int .i64 v])), Res.blk mb 62 (R.c (stepR l e lim q m).2.2)] _; rw [hR]; exact h9⟩) _ (.inl rfl)
  · have hB : headB p = true := by simpa using h1
    refine g_skip ?_
    refine g_then ?_
    refine g_seq ?_
    refine g_seq ?_
    refine g_region ?_
    refine s_q (q_move rfl) rfl ?_
    refine s_q (q_move rfl) rfl ?_
    refine s_q (q_move rfl) rfl ?_
    refine g_op (g_pure rfl (fun w1 hw1 => of13_any W (wn) (wc) (l) ((headI p)) w1 (Rdb.toOld hw9.rdb hw1)) rfl ?_)
    refine g_op (g_ownS [Res.blk mb 62 (R.c m1)] rfl (fun w1 hw1 ho1 => by have h7 := rtake_any mb m1 ((ofW l ((headI p)))) w1 ho1; exact h7) rfl ?_)
    rintro ⟨⟩ _
    refine ⟨_, _, inferInstance, inferInstance, ?_⟩
    refine s_q (q_not rfl) rfl ?_
    refine g_nil ?_
    refine g_then ?_
    refine g_cond rfl (fun h2 => ?_) (fun h2 => ?_)
    · have hT : m1.b < ofW l (headI p) := by simpa using h2
      have hR : (stepR l e lim q m) = (out, p, m1.take (ofW l (headI p))) := by rw [hs, stepF_stop hB hT, show m1.take (ofW l (headI p)) = m1 from if_pos hT]
      refine g_seq ?_
      refine g_region ?_
      refine s_q (q_move rfl) rfl ?_
      refine s_q (q_assign rfl) rfl ?_
      refine g_nil ?_
      refine g_then ?_
      refine g_ret ?_
      refine g_then_ret (g_blk_ret (g_then_ret (g_blk_ret ?_)))
      exact fin1 rfl (.tmp rfl) (fun w' hw' => ⟨(A, cap, B0, d0, B1, d1), (by first | (rw [hR]; exact ⟨u0, u1⟩) | (dsimp only; (rw [hR]; exact ⟨u0, u1⟩))), by rw [hR], by have h9 := wok_sub (L' := [Res.row A (out).length cap 101 3 ((out).map As.cs), Res.blk wb 33 [Value.slice B0 (p).f.length d0, Value.slice B1 (p).v.length d1, Value.int .i64 ((sz : Nat) : Int)], Res.ro B0 (p).f.length 1 ((p).f.map (fun v : Int => [Value.int .i64 v])), Res.ro B1 (p).v.length 1 ((p).v.map (fun v : Int => [Value.int .i64 v])), Res.blk mb 62 (R.c (R.take m1 (ofW l (headI p))))]) w' hw'; show WOK _ _ [Res.row ((A, cap, B0, d0, B1, d1)).1 ((stepR l e lim q m).1).length ((A, cap, B0, d0, B1, d1)).2.1 101 3 (((stepR l e lim q m).1).map As.cs), Res.blk wb 33 [Value.slice ((A, cap, B0, d0, B1, d1)).2.2.1 ((stepR l e lim q m).2.1).f.length ((A, cap, B0, d0, B1, d1)).2.2.2.1, Value.slice ((A, cap, B0, d0, B1, d1)).2.2.2.2.1 ((stepR l e lim q m).2.1).v.length ((A, cap, B0, d0, B1, d1)).2.2.2.2.2, Value.int .i64 ((sz : Nat) : Int)], Res.ro ((A, cap, B0, d0, B1, d1)).2.2.1 ((stepR l e lim q m).2.1).f.length 1 (((stepR l e lim q m).2.1).f.map (fun v : Int => [Value.int .i64 v])), Res.ro ((A, cap, B0, d0, B1, d1)).2.2.2.2.1 ((stepR l e lim q m).2.1).v.length 1 (((stepR l e lim q m).2.1).v.map (fun v : Int => [Value.int .i64 v])), Res.blk mb 62 (R.c (stepR l e lim q m).2.2)] _; rw [hR]; exact h9⟩) _ (.inl rfl)
    · have hT : ¬ m1.b < ofW l (headI p) := by simpa using h2
      refine g_skip ?_
      refine g_then ?_
      refine g_seq ?_
      refine g_region ?_
      refine s_q (q_move rfl) rfl ?_
      refine g_op (g_ownS [Res.blk wb 33 [Value.slice B0 (p).f.length d0, Value.slice B1 (p).v.length d1, Value.int .i64 ((sz : Nat) : Int)], Res.ro B0 (p).f.length 1 ((p).f.map (fun v : Int => [Value.int .i64 v])), Res.ro B1 (p).v.length 1 ((p).v.map (fun v : Int => [Value.int .i64 v]))] rfl (fun w1 hw1 ho1 => by have h7 := rpop_any wb B0 B1 d0 d1 p sz w1 ho1 u0 u1 (by omega) hp; exact h7) rfl ?_)
      rintro ⟨A37, c37, AA37, cc37⟩ ⟨u37, uu37⟩
      refine ⟨_, _, inferInstance, inferInstance, ?_⟩
      simp only at u37 uu37
      have hq37 := popL_len p
      replace hq37 : (popL p).f.length ≤ sz ∧ (popL p).v.length ≤ sz := ⟨Nat.le_trans hq37.1 hp.1, Nat.le_trans hq37.2 hp.2⟩
      refine g_nil ?_
      refine g_then ?_
      refine g_region ?_
      refine s_q (q_move rfl) rfl ?_
      refine s_q (q_move rfl) rfl ?_
      refine s_q (q_move rfl) rfl ?_
      refine s_q (q_move rfl) rfl ?_
      refine s_q (q_addz (z := e + 1) rfl rfl (wi64 (by omega) (by omega))) rfl ?_
      refine s_q (q_build rfl rfl) rfl ?_
      refine g_op (g_lit rfl rfl rfl rfl rfl fun b44 => ?_)
      refine g_blkc (b := b44) ((([(As.mk (headI p) (headC p) (e + 1))] : List As).map As.cs).flatten) rfl ?_
      refine g_op (g_append (A := A) (els := (out).map As.cs) (news := (([(As.mk (headI p) (headC p) (e + 1))] : List As).map As.cs)) rfl rfl (InL.rdb (b := b44) rfl (by simp [As.cs]) rfl) (map_one (c := As.cs) (by intro x; simp [As.cs, Value.oneCell']) _) (by first | omega | (simp; omega) | (simp_all; omega)) rfl fun A45 cap45 => ⟨_, inferInstance, ?_⟩)
      refine g_rowels (A := A45) (((out ++ [(As.mk (headI p) (headC p) (e + 1))])).map As.cs) (by first | rfl | exact List.map_append.symm | (simp; done)) ?_
      refine s_q (q_assign rfl) rfl ?_
      refine g_nil ?_
      refine g_blk_n ?_
      refine g_rown (A := A45) ((out ++ [(As.mk (headI p) (headC p) (e + 1))])).length (by simp) ?_
      refine g_val 11 (v' := .slice A45 ((out ++ [(As.mk (headI p) (headC p) (e + 1))])).length cap45) rfl (by simp) ?_
      exact g_again (A45, cap45, (out ++ [(As.mk (headI p) (headC p) (e + 1))]), (popL p), (R.take m1 ((ofW l ((headI p))))), A37, c37, AA37, cc37) (by (try dsimp only); exact ⟨(by rw [← stepF_go hB hT, popL_lt hB]; exact hs), u37, uu37, hq37, (by have h9 := popL_lt hB; simp only [List.length_append, List.length_cons, List.length_nil]; omega)⟩) (by have h9 := popL_lt hB; dsimp only; omega) (by repeat (first | exact trivial | refine ⟨rfl, ?_⟩)) wok_sub
end Go.Proofs.Ytmolaicpbaiioaa
