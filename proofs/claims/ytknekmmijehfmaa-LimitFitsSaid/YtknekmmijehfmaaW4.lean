/- walks of Add; the elements of Spread -/
import Derived.Test.YtknekmmijehfmaaW2
namespace Go.Proofs.Ytknekmmijehfmaa
open Go.RowKit Go.Eg
set_option linter.unusedSimpArgs false
set_option linter.unusedVariables false
theorem sum_app (a b : List Int) : (a ++ b).sum = a.sum + b.sum := by
  induction a with
  | nil => simp
  | cons x a ih => simp only [List.cons_append, List.sum_cons, ih]; omega
theorem sum_nn : ∀ l : List Int, (∀ x ∈ l, 0 ≤ x) → 0 ≤ l.sum
  | [], _ => by simp
  | x :: l, h => by
    have h1 := h x (by simp)
    have h2 := sum_nn l fun y hy => h y (by simp [hy])
    simp only [List.sum_cons]; omega
theorem sum_take_le (l : List Int) (k : Nat) (h : ∀ x ∈ l, 0 ≤ x) : (l.take k).sum ≤ l.sum := by
  have h1 : l.sum = (l.take k).sum + (l.drop k).sum := by rw [← sum_app, List.take_append_drop]
  have h2 := sum_nn (l.drop k) fun x hx => h x (List.mem_of_mem_drop hx)
  omega
theorem sum_take_succ (l : List Int) (k : Nat) (hk : k < l.length) : (l.take (k + 1)).sum = (l.take k).sum + l[k] := by
  rw [List.take_add_one, List.getElem?_eq_getElem hk, sum_app]; simp
theorem spr_all : ∀ (n : Nat) (w c : Int), 0 < c → 0 ≤ w → w ≤ (n : Int) * c → (n = 0 ∨ ((n : Int) - 1) * c < w) → (spr n w c).length = n ∧ (spr n w c).sum = w ∧ ∀ (i : Nat) (x : Int), (spr n w c)[i]? = some x → 0 < x ∧ x ≤ c ∧ (i + 1 < n → x = c)
  | 0, w, c, hc, hw, h1, h2 => by
    have : w = 0 := by simp at h1; omega
    subst this
    simp [spr]
  | n + 1, w, c, hc, hw, h1, h2 => by
    have h0 : 0 ≤ (n : Int) * c := Int.mul_nonneg (by omega) (by omega)
    have h3 : (n : Int) * c < w := by
      rcases h2 with h2 | h2
      · omega
      · simpa using h2
    have h1' : w ≤ (n : Int) * c + c := by rw [Int.natCast_add, Int.add_mul] at h1; simpa using h1
    have hn : n = 0 ∨ c ≤ (n : Int) * c := by
      rcases Nat.eq_zero_or_pos n with h | h
      · exact .inl h
      · exact .inr (by have := Int.mul_le_mul_of_nonneg_right (show (1 : Int) ≤ n by omega) (show 0 ≤ c by omega); omega)
    have hpos : w > 0 := by omega
    have hmin : n = 0 ∨ min w c = c := by omega
    have e1 : ((n : Int) - 1) * c = (n : Int) * c - c := by rw [Int.sub_mul]; simp
    obtain ⟨g1, g2, g3⟩ := spr_all n (w - min w c) c hc (by omega) (by omega) (by omega)
    rw [spr_pos n hpos]
    refine ⟨by simp [g1], by simp only [List.sum_cons, g2]; omega, fun i x hi => ?_⟩
    cases i with
    | zero => simp at hi; subst hi; omega
    | succ i =>
      obtain ⟨a, b, d⟩ := g3 i x (by simpa using hi)
      exact ⟨a, b, fun h => d (by omega)⟩
theorem cei_low {w c : Int} (hw : 0 ≤ w) (hc : 0 < c) : (cei w c).toNat = 0 ∨ (cei w c - 1) * c < w := by
  by_cases h : w = 0
  · left; subst h; unfold cei; rw [if_neg (by omega)]; simp
  · right
    unfold cei
    rw [if_neg (by omega), if_neg h]
    have h1 : (w - 1) / c * c ≤ w - 1 := Int.ediv_mul_le _ (by omega)
    rw [Int.add_sub_cancel]; omega
theorem sprd_all {x y : Int} (hx : 0 ≤ x) (hy : 0 ≤ y) (hk : sprk x y = true) : ((sprd x y).length : Int) = cei x y ∧ (sprd x y).sum = x ∧ ∀ (i : Nat) (v : Int), (sprd x y)[i]? = some v → 0 < v ∧ v ≤ y ∧ ((i : Int) + 1 < cei x y → v = y) := by
  have hk2 := hk
  simp only [sprk, Bool.not_eq_true', decide_eq_false_iff_not, not_or] at hk2
  have hb := cei_bd hx hy
  have ht : ((cei x y).toNat : Int) = cei x y := by omega
  obtain ⟨h1, h2, h3⟩ := spr_all (cei x y).toNat x y (by omega) hx (by rw [ht]; exact cei_mul hx (by omega)) (by rw [ht]; exact cei_low hx (by omega))
  rw [sprd, hk, if_pos rfl]
  exact ⟨by omega, h2, fun i v hv => by obtain ⟨a, b, c⟩ := h3 i v hv; exact ⟨a, b, fun h => c (by omega)⟩⟩

theorem satur_any (A : Option Addr) (cap n : Nat) (l : List Int) (hn : n = l.length) (hcap : l.length ≤ maxLen) (hok : ∀ x ∈ l, 0 ≤ x ∧ x ≤ 18446744073709551615) (w : World) (hold : Old w A n 1 (l.map U1)) : Pur Try.prog 21 [.slice A n cap] w (.tuple [.int .u64 (if l.sum ≤ 18446744073709551615 then l.sum else 18446744073709551615), .bool (!decide (l.sum ≤ 18446744073709551615))].toArray) := by
  unfold maxLen at hcap
  subst hn
  refine g_start Try.func21 rfl 23 rfl (by simp) [] [] (WOK.start _ _) _ rfl ?_
  refine g_seq ?_
  refine g_region ?_
  refine s_q (q_assign rfl) rfl ?_
  refine s_q (q_assign rfl) rfl ?_
  refine g_nil ?_
  refine g_then ?_
  refine g_seq ?_
  refine g_region ?_
  refine s_q (q_assign rfl) rfl ?_
  refine g_nil ?_
  refine g_then ?_
  refine g_seq ?_
  refine g_seq ?_
  refine g_region ?_
  refine s_q (q_move rfl) rfl ?_
  refine s_q (q_len rfl) rfl ?_
  refine s_q (q_move rfl) rfl ?_
  refine g_nil ?_
  refine g_then ?_
  refine g_block ?_
  refine g_loopk [7, 8] (fun (z : Nat × Int) => [(9, .int .i64 (z.1 : Int)), (4, .int .u64 z.2)]) (fun _ => []) (fun z => z.1 ≤ l.length ∧ 0 ≤ z.2 ∧ z.2 ≤ 18446744073709551615 ∧ z.2 = (l.take z.1).sum) (fun z => l.length - z.1) (0, 0) ⟨Nat.zero_le _, by simp, by simp, by simp⟩ rfl ⟨rfl, rfl, trivial⟩ wok_id ?_
  rintro ⟨k, a⟩ ⟨hk1, ha1, ha2, hsum⟩
  simp only at hk1 ha1 ha2 hsum
  simp only
  refine g_seq ?_
  refine g_region ?_
  refine s_q (q_lss rfl rfl) rfl ?_
  refine g_nil ?_
  refine g_then ?_
  refine g_seq ?_
  refine g_cond rfl (fun h1 => ?_) (fun h1 => ?_)
  · have hk : k < l.length := by simpa using h1
    have ho := hok _ (List.getElem_mem hk)
    have hget : (l.map U1)[k]? = some [Value.int .u64 l[k]] := by simp [hk]
    have hts := sum_take_succ l k hk
    refine g_skip ?_
    refine g_then ?_
    refine g_seq ?_
    refine g_block ?_
    refine g_seq ?_
    refine g_region ?_
    refine s_q (q_index (i := k) rfl rfl rfl (hold.rdb rfl) hk) rfl ?_
    refine s_q (q_load_el (i := k) (o := 0) rfl (hold.rdb rfl) hget rfl rfl) rfl ?_
    refine s_q (q_assign rfl) rfl ?_
    refine g_nil ?_
    refine g_then ?_
    refine g_seq ?_
    refine g_seq ?_
    refine g_region ?_
    refine s_q (q_move rfl) rfl ?_
    refine s_q (q_move rfl) rfl ?_
    refine s_q (q_add rfl rfl) rfl ?_
    refine s_q (q_move rfl) rfl ?_
    refine s_q (q_lss rfl rfl) rfl ?_
    refine g_nil ?_
    refine g_then ?_
    refine g_cond rfl (fun h2 => ?_) (fun h2 => ?_)
    · have hov : 18446744073709551615 < a + l[k] := by have h9 := h2; simp only [decide_eq_true_eq, IntKind.wrap_u64] at h9; omega
      have htl := sum_take_le l (k + 1) fun x hx => (hok x hx).1
      refine g_seq ?_
      refine g_region ?_
      refine s_q (q_assign rfl) rfl ?_
      refine s_q (q_assign rfl) rfl ?_
      refine g_nil ?_
      refine g_then ?_
      refine g_ret ?_
      refine g_then_ret (g_blk_ret (g_then_ret (g_then_ret (g_blk_ret (g_then_ret ?_)))))
      have e : ¬ l.sum ≤ 18446744073709551615 := by omega
      exact fin2 rfl (.tmp rfl) (.tmp rfl) (fun w' hw => ⟨by simp [e], hw.upd⟩) _ (.inl rfl)
    · have hov : a + l[k] ≤ 18446744073709551615 := by have h9 := h2; simp only [decide_eq_false_iff_not, IntKind.wrap_u64] at h9; omega
      refine g_skip ?_
      refine g_then ?_
      refine g_region ?_
      refine s_q (q_move rfl) rfl ?_
      refine s_q (q_move rfl) rfl ?_
      refine s_q (q_addz rfl rfl (wu64 (by omega) (by omega))) rfl ?_
      refine s_q (q_assign rfl) rfl ?_
      refine g_nil ?_
      refine g_blk_n ?_
      refine g_then ?_
      refine g_region ?_
      refine s_q (q_inc rfl rfl (by omega)) rfl ?_
      refine s_q (q_move rfl) rfl ?_
      refine g_nil ?_
      exact g_again (k + 1, a + l[k]) ⟨hk, by simp only; omega, by simp only; omega, by simp only; omega⟩ (by simp only; omega) (by repeat (first | exact trivial | refine ⟨rfl, ?_⟩)) wok_id
  · refine g_exit ?_
    refine g_then_x (g_then_x (g_blk_hit ?_))
    refine g_then ?_
    refine g_seq ?_
    refine g_region ?_
    refine s_q (q_move rfl) rfl ?_
    refine s_q (q_assign rfl) rfl ?_
    refine s_q (q_assign rfl) rfl ?_
    refine g_nil ?_
    refine g_then ?_
    refine g_ret ?_
    have hkl : k = l.length := by simp at h1; omega
    have e0 : a = l.sum := by rw [hsum, hkl, List.take_length]
    have e : l.sum ≤ 18446744073709551615 := by omega
    exact fin2 rfl (.tmp rfl) (.tmp rfl) (fun w' hw => ⟨by simp [e, e0], hw.upd⟩) _ (.inl rfl)

theorem add_any (A : Option Addr) (cap n : Nat) (l : List Int) (hn : n = l.length) (hcap : l.length ≤ maxLen) (hok : ∀ x ∈ l, 0 ≤ x ∧ x ≤ 18446744073709551615) (w : World) (hold : Old w A n 1 (l.map U1)) : Pur Try.prog 15 [.slice A n cap] w (.tuple [.int .u64 (if l.sum ≤ 18446744073709551615 then l.sum else 0), .bool (decide (l.sum ≤ 18446744073709551615))].toArray) := by
  refine g_start Try.func15 rfl 13 rfl (by simp) [] [] (WOK.start _ _) _ rfl ?_
  refine g_seq ?_
  refine g_region ?_
  refine s_q (q_assign rfl) rfl ?_
  refine s_q (q_assign rfl) rfl ?_
  refine g_nil ?_
  refine g_then ?_
  refine g_seq ?_
  refine g_region ?_
  refine s_q (q_move rfl) rfl ?_
  refine g_op (g_pure rfl (fun w hw => satur_any A cap n l hn hcap hok w (Rdb.toOld (hold.rdb rfl) hw)) rfl ?_)
  refine s_q (q_move rfl) rfl ?_
  refine s_q (q_extract rfl rfl) rfl ?_
  refine s_q (q_extract rfl rfl) rfl ?_
  refine s_q (q_assign rfl) rfl ?_
  refine s_q (q_assign rfl) rfl ?_
  refine g_nil ?_
  refine g_then ?_
  refine g_seq ?_
  refine g_seq ?_
  refine g_region ?_
  refine s_q (q_move rfl) rfl ?_
  refine g_nil ?_
  refine g_then ?_
  refine g_cond rfl (fun h1 => ?_) (fun h1 => ?_)
  · refine g_seq ?_
    refine g_region ?_
    refine s_q (q_assign rfl) rfl ?_
    refine s_q (q_assign rfl) rfl ?_
    refine g_nil ?_
    refine g_then ?_
    refine g_ret ?_
    refine g_then_ret ?_
    exact fin2 rfl (.tmp rfl) (.tmp rfl) (fun w' hw => ⟨by first | (simp_all; done) | (simp_all; omega), hw.upd⟩) _ (.inl rfl)
  · refine g_skip ?_
    refine g_then ?_
    refine g_seq ?_
    refine g_region ?_
    refine s_q (q_move rfl) rfl ?_
    refine s_q (q_assign rfl) rfl ?_
    refine s_q (q_assign rfl) rfl ?_
    refine g_nil ?_
    refine g_then ?_
    refine g_ret ?_
    exact fin2 rfl (.tmp rfl) (.tmp rfl) (fun w' hw => ⟨by first | (simp_all; done) | (simp_all; omega), hw.upd⟩) _ (.inl rfl)
end Go.Proofs.Ytknekmmijehfmaa
