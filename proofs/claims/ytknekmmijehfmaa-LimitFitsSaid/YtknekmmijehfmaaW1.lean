/- numbers: walks of Churn, Ceil and Epochs -/
import Derived.Test.YtknekmmijehfmaaI
import Derived.Test.YtknekmmijehfmaaT
namespace Go.Proofs.Ytknekmmijehfmaa
open Go.RowKit Go.Eg
set_option linter.unusedSimpArgs false
set_option linter.unusedVariables false
def MX : Int := 18446744073709551615
def bad (w c : Int) : Bool := decide (c = 0) || decide ((if w = 0 then 0 else (w - 1) / c + 1) > 1099511627776)
def cei (w c : Int) : Int := if c = 0 then 0 else if w = 0 then 0 else (w - 1) / c + 1
def churn (a m q : Int) : Int := if q = 0 then m else max m (a / q)
def epn (w c : Int) : Int := if c = 0 ∨ 1099511627776 < cei w c then 0 else cei w c
def epk (w c : Int) : Bool := !decide (c = 0 ∨ 1099511627776 < cei w c)
theorem qz {a c : Int} (ha : 0 ≤ a) (hM : a ≤ 18446744073709551615) (hc : 0 ≤ c) : IntKind.u64.wrap (a.tdiv c) = a / c := by
  rw [Int.tdiv_eq_ediv_of_nonneg ha]
  have h1 := Int.ediv_nonneg ha hc
  have h2 := Int.ediv_le_self c ha
  exact wu64 h1 (by omega)
theorem div_dec (q c s : Int) (hc : 0 < c) (h0 : 0 ≤ s) (h1 : s < c) : (s + c * q) / c = q := by
  rw [Int.add_mul_ediv_left s q (by omega), Int.ediv_eq_zero_of_lt h0 h1, Int.zero_add]
theorem cei_ref {w c : Int} (hw : 0 ≤ w) (hc : 0 < c) : cei w c = if w % c > 0 then w / c + 1 else w / c := by
  have h1 := Int.emod_nonneg w (show c ≠ 0 by omega)
  have h2 := Int.emod_lt_of_pos w hc
  have h3 := Int.emod_add_mul_ediv w c
  unfold cei
  rw [if_neg (by omega)]
  by_cases h : w % c > 0
  · rw [if_pos h]
    by_cases hw0 : w = 0
    · subst hw0; simp at h
    · rw [if_neg hw0]
      have e : w - 1 = (w % c - 1) + c * (w / c) := by omega
      rw [e, div_dec _ _ _ hc (by omega) (by omega)]
  · rw [if_neg h]
    by_cases hw0 : w = 0
    · subst hw0; simp
    · rw [if_neg hw0]
      have e : w - 1 = (c - 1) + c * (w / c - 1) := by rw [Int.mul_sub]; omega
      rw [e, div_dec _ _ _ hc (by omega) (by omega)]; omega
theorem cei_bd {w c : Int} (hw : 0 ≤ w) (hc : 0 ≤ c) : 0 ≤ cei w c ∧ cei w c ≤ w := by
  unfold cei
  split
  · omega
  · split
    · omega
    · have h1 := Int.ediv_nonneg (show 0 ≤ w - 1 by omega) hc
      have h2 := Int.ediv_le_self c (show 0 ≤ w - 1 by omega)
      omega
theorem cei_mul {w c : Int} (hw : 0 ≤ w) (hc : 0 < c) : w ≤ cei w c * c := by
  have h1 := Int.emod_lt_of_pos (w - 1) hc
  have h3 := Int.emod_add_mul_ediv (w - 1) c
  unfold cei
  rw [if_neg (by omega)]
  split
  · omega
  · rw [Int.add_mul, Int.mul_comm]; omega
def spr : Nat → Int → Int → List Int
  | 0, _, _ => []
  | n + 1, w, c => if w > 0 then min w c :: spr n (w - min w c) c else []
def sprk (w c : Int) : Bool := !decide (c = 0 ∨ 4096 < cei w c)
def sprd (w c : Int) : List Int := if sprk w c then spr (cei w c).toNat w c else []
theorem spr_zero (n : Nat) {w c : Int} (hw : ¬ w > 0) : spr n w c = [] := by cases n <;> simp [spr, hw]
theorem spr_pos (n : Nat) {w c : Int} (hw : w > 0) : spr (n + 1) w c = min w c :: spr n (w - min w c) c := by simp [spr, hw]
abbrev U1 : Int → List Value := fun x => [.int .u64 x]

theorem churn_any (x m y : Int) (hx : 0 ≤ x ∧ x ≤ 18446744073709551615) (hy : 0 ≤ y ∧ y ≤ 18446744073709551615) (w : World) : Pur Try.prog 9 [.int .u64 x, .int .u64 m, .int .u64 y] w (.int .u64 (churn x m y)) := by
  refine g_start Try.func9 rfl 15 rfl (by simp) [] [] (WOK.start _ _) _ rfl ?_
  refine g_seq ?_
  refine g_region ?_
  refine s_q (q_assign rfl) rfl ?_
  refine g_nil ?_
  refine g_then ?_
  refine g_seq ?_
  refine g_seq ?_
  refine g_region ?_
  refine s_q (q_move rfl) rfl ?_
  refine s_q (q_eql rfl rfl) rfl ?_
  refine g_nil ?_
  refine g_then ?_
  refine g_cond rfl (fun h1 => ?_) (fun h1 => ?_)
  · refine g_seq ?_
    refine g_region ?_
    refine s_q (q_move rfl) rfl ?_
    refine s_q (q_assign rfl) rfl ?_
    refine g_nil ?_
    refine g_then ?_
    refine g_ret ?_
    refine g_then_ret ?_
    exact fin1 rfl (.tmp rfl) (fun w' hw => ⟨by simp_all [churn], hw.upd⟩) _ (.inl rfl)
  · refine g_skip ?_
    refine g_then ?_
    refine g_seq ?_
    refine g_region ?_
    refine s_q (q_move rfl) rfl ?_
    refine s_q (q_move rfl) rfl ?_
    refine s_q (q_move rfl) rfl ?_
    refine s_q (q_quo rfl rfl (by simp_all)) rfl ?_
    refine g_val 13 (v' := .int .u64 (x / y)) rfl (by rw [qz hx.1 hx.2 hy.1]) ?_
    refine s_q (q_max rfl rfl) rfl ?_
    refine s_q (q_assign rfl) rfl ?_
    refine g_nil ?_
    refine g_then ?_
    refine g_ret ?_
    exact fin1 rfl (.tmp rfl) (fun w' hw => ⟨by simp_all [churn], hw.upd⟩) _ (.inl rfl)

theorem rchurn_any (x m y : Int) (hx : 0 ≤ x ∧ x ≤ 18446744073709551615) (hy : 0 ≤ y ∧ y ≤ 18446744073709551615) (w : World) : Pur Try.prog 11 [.int .u64 x, .int .u64 m, .int .u64 y] w (.int .u64 (churn x m y)) := by
  refine g_start Try.func11 rfl 15 rfl (by simp) [] [] (WOK.start _ _) _ rfl ?_
  refine g_seq ?_
  refine g_region ?_
  refine s_q (q_assign rfl) rfl ?_
  refine g_nil ?_
  refine g_then ?_
  refine g_seq ?_
  refine g_seq ?_
  refine g_region ?_
  refine s_q (q_move rfl) rfl ?_
  refine s_q (q_eql rfl rfl) rfl ?_
  refine g_nil ?_
  refine g_then ?_
  refine g_cond rfl (fun h1 => ?_) (fun h1 => ?_)
  · refine g_seq ?_
    refine g_region ?_
    refine s_q (q_move rfl) rfl ?_
    refine s_q (q_assign rfl) rfl ?_
    refine g_nil ?_
    refine g_then ?_
    refine g_ret ?_
    refine g_then_ret ?_
    exact fin1 rfl (.tmp rfl) (fun w' hw => ⟨by simp_all [churn], hw.upd⟩) _ (.inl rfl)
  · refine g_skip ?_
    refine g_then ?_
    refine g_seq ?_
    refine g_region ?_
    refine s_q (q_move rfl) rfl ?_
    refine s_q (q_move rfl) rfl ?_
    refine s_q (q_move rfl) rfl ?_
    refine s_q (q_quo rfl rfl (by simp_all)) rfl ?_
    refine g_val 13 (v' := .int .u64 (x / y)) rfl (by rw [qz hx.1 hx.2 hy.1]) ?_
    refine s_q (q_max rfl rfl) rfl ?_
    refine s_q (q_assign rfl) rfl ?_
    refine g_nil ?_
    refine g_then ?_
    refine g_ret ?_
    exact fin1 rfl (.tmp rfl) (fun w' hw => ⟨by simp_all [churn], hw.upd⟩) _ (.inl rfl)

theorem gceil_any (x y : Int) (hx : 0 ≤ x ∧ x ≤ 18446744073709551615) (hy : 0 ≤ y ∧ y ≤ 18446744073709551615) (w : World) : Pur Try.prog 19 [.int .u64 x, .int .u64 y] w (.tuple [.int .u64 (cei x y), .bool (!decide (y = 0))].toArray) := by
  refine g_start Try.func19 rfl 17 rfl (by simp) [] [] (WOK.start _ _) _ rfl ?_
  refine g_seq ?_
  refine g_region ?_
  refine s_q (q_assign rfl) rfl ?_
  refine s_q (q_assign rfl) rfl ?_
  refine g_nil ?_
  refine g_then ?_
  refine g_seq ?_
  refine g_block ?_
  refine g_seq ?_
  refine g_region ?_
  refine s_q (q_move rfl) rfl ?_
  refine s_q (q_eql rfl rfl) rfl ?_
  refine s_q (q_assign rfl) rfl ?_
  refine g_nil ?_
  refine g_then ?_
  refine g_cond rfl (fun h1 => ?_) (fun h1 => ?_)
  · refine g_seq ?_
    refine g_region ?_
    refine s_q (q_assign rfl) rfl ?_
    refine s_q (q_assign rfl) rfl ?_
    refine g_nil ?_
    refine g_then ?_
    refine g_ret ?_
    refine g_blk_ret (g_then_ret ?_)
    exact fin2 rfl (.tmp rfl) (.tmp rfl) (fun w' hw => ⟨by simp_all [cei], hw.upd⟩) _ (.inl rfl)
  · refine g_seq ?_
    refine g_region ?_
    refine s_q (q_move rfl) rfl ?_
    refine s_q (q_eql rfl rfl) rfl ?_
    refine s_q (q_assign rfl) rfl ?_
    refine g_nil ?_
    refine g_then ?_
    refine g_cond rfl (fun h2 => ?_) (fun h2 => ?_)
    · refine g_seq ?_
      refine g_region ?_
      refine s_q (q_assign rfl) rfl ?_
      refine s_q (q_assign rfl) rfl ?_
      refine g_nil ?_
      refine g_then ?_
      refine g_ret ?_
      refine g_blk_ret (g_then_ret ?_)
      exact fin2 rfl (.tmp rfl) (.tmp rfl) (fun w' hw => ⟨by simp_all [cei], hw.upd⟩) _ (.inl rfl)
    · refine g_skip ?_
      refine g_blk_n ?_
      refine g_then ?_
      refine g_seq ?_
      refine g_region ?_
      have hy0 : y ≠ 0 := by simp_all
      have hx0 : x ≠ 0 := by simp_all
      have hd0 := Int.ediv_nonneg (show 0 ≤ x - 1 by omega) hy.1
      have hd1 := Int.ediv_le_self y (show 0 ≤ x - 1 by omega)
      refine s_q (q_move rfl) rfl ?_
      refine s_q (q_subz rfl rfl (wu64 (by omega) (by omega))) rfl ?_
      refine s_q (q_move rfl) rfl ?_
      refine s_q (q_quo rfl rfl hy0) rfl ?_
      refine g_val 15 (v' := .int .u64 ((x - 1) / y)) rfl (by rw [qz (by omega) (by omega) hy.1]) ?_
      refine s_q (q_addz rfl rfl (wu64 (by omega) (by omega))) rfl ?_
      refine s_q (q_assign rfl) rfl ?_
      refine s_q (q_assign rfl) rfl ?_
      refine g_nil ?_
      refine g_then ?_
      refine g_ret ?_
      exact fin2 rfl (.tmp rfl) (.tmp rfl) (fun w' hw => ⟨by simp_all [cei], hw.upd⟩) _ (.inl rfl)

theorem rceil_any (x y : Int) (hx : 0 ≤ x ∧ x ≤ 18446744073709551615) (hy : 0 ≤ y ∧ y ≤ 18446744073709551615) (w : World) : Pur Try.prog 20 [.int .u64 x, .int .u64 y] w (.tuple [.int .u64 (cei x y), .bool (!decide (y = 0))].toArray) := by
  refine g_start Try.func20 rfl 19 rfl (by simp) [] [] (WOK.start _ _) _ rfl ?_
  refine g_seq ?_
  refine g_region ?_
  refine s_q (q_assign rfl) rfl ?_
  refine s_q (q_assign rfl) rfl ?_
  refine g_nil ?_
  refine g_then ?_
  refine g_seq ?_
  refine g_seq ?_
  refine g_region ?_
  refine s_q (q_move rfl) rfl ?_
  refine s_q (q_eql rfl rfl) rfl ?_
  refine g_nil ?_
  refine g_then ?_
  refine g_cond rfl (fun h1 => ?_) (fun h1 => ?_)
  · refine g_seq ?_
    refine g_region ?_
    refine s_q (q_assign rfl) rfl ?_
    refine s_q (q_assign rfl) rfl ?_
    refine g_nil ?_
    refine g_then ?_
    refine g_ret ?_
    refine g_then_ret ?_
    exact fin2 rfl (.tmp rfl) (.tmp rfl) (fun w' hw => ⟨by first | (rw [hr]; simp_all; done) | simp_all [cei], hw.upd⟩) _ (.inl rfl)
  · refine g_skip ?_
    refine g_then ?_
    refine g_seq ?_
    refine g_region ?_
    have hy0 : y ≠ 0 := by simp_all
    have hr := cei_ref hx.1 (show 0 < y by omega)
    have hb := cei_bd hx.1 hy.1
    refine s_q (q_move rfl) rfl ?_
    refine s_q (q_move rfl) rfl ?_
    refine s_q (q_quo rfl rfl hy0) rfl ?_
    refine g_val 11 (v' := .int .u64 (x / y)) rfl (by rw [qz hx.1 hx.2 hy.1]) ?_
    refine s_q (q_assign rfl) rfl ?_
    refine g_nil ?_
    refine g_then ?_
    refine g_seq ?_
    refine g_seq ?_
    refine g_region ?_
    refine s_q (q_move rfl) rfl ?_
    refine s_q (q_move rfl) rfl ?_
    refine s_q (q_rem rfl rfl hy0) rfl ?_
    refine g_val 14 (v' := .int .u64 (x % y)) rfl (by rw [Int.tmod_eq_emod_of_nonneg hx.1]) ?_
    refine s_q (q_gtr rfl rfl) rfl ?_
    refine g_nil ?_
    refine g_then ?_
    refine g_cond rfl (fun h2 => ?_) (fun h2 => ?_)
    · have h2' : x % y > 0 := by simpa using h2
      rw [if_pos h2'] at hr
      have hd0 := Int.ediv_nonneg hx.1 hy.1
      refine g_region ?_
      refine s_q (q_move rfl) rfl ?_
      refine s_q (q_addz rfl rfl (wu64 (by omega) (by omega))) rfl ?_
      refine s_q (q_assign rfl) rfl ?_
      refine g_nil ?_
      refine g_then ?_
      refine g_seq ?_
      refine g_region ?_
      refine s_q (q_move rfl) rfl ?_
      refine s_q (q_assign rfl) rfl ?_
      refine s_q (q_assign rfl) rfl ?_
      refine g_nil ?_
      refine g_then ?_
      refine g_ret ?_
      exact fin2 rfl (.tmp rfl) (.tmp rfl) (fun w' hw => ⟨by first | (rw [hr]; simp_all; done) | simp_all [cei], hw.upd⟩) _ (.inl rfl)
    · have h2' : ¬ x % y > 0 := by simp at h2; omega
      rw [if_neg h2'] at hr
      refine g_skip ?_
      refine g_then ?_
      refine g_seq ?_
      refine g_region ?_
      refine s_q (q_move rfl) rfl ?_
      refine s_q (q_assign rfl) rfl ?_
      refine s_q (q_assign rfl) rfl ?_
      refine g_nil ?_
      refine g_then ?_
      refine g_ret ?_
      exact fin2 rfl (.tmp rfl) (.tmp rfl) (fun w' hw => ⟨by first | (rw [hr]; simp_all; done) | simp_all [cei], hw.upd⟩) _ (.inl rfl)

theorem epochs_any (x y : Int) (hx : 0 ≤ x ∧ x ≤ 18446744073709551615) (hy : 0 ≤ y ∧ y ≤ 18446744073709551615) (w : World) : Pur Try.prog 12 [.int .u64 x, .int .u64 y] w (.tuple [.int .i64 (epn x y), .bool (epk x y)].toArray) := by
  refine g_start Try.func12 rfl 22 rfl (by simp) [] [] (WOK.start _ _) _ rfl ?_
  refine g_seq ?_
  refine g_region ?_
  refine s_q (q_assign rfl) rfl ?_
  refine s_q (q_assign rfl) rfl ?_
  refine g_nil ?_
  refine g_then ?_
  refine g_seq ?_
  refine g_region ?_
  refine s_q (q_move rfl) rfl ?_
  refine s_q (q_move rfl) rfl ?_
  refine g_op (g_pure rfl (fun w hw => gceil_any _ _ (by omega) (by omega) w) rfl ?_)
  refine s_q (q_move rfl) rfl ?_
  refine s_q (q_extract rfl rfl) rfl ?_
  refine s_q (q_extract rfl rfl) rfl ?_
  refine s_q (q_assign rfl) rfl ?_
  refine s_q (q_assign rfl) rfl ?_
  refine g_nil ?_
  refine g_then ?_
  refine g_seq ?_
  refine g_seq ?_
  refine g_region ?_
  refine s_q (q_move rfl) rfl ?_
  refine s_q (q_not rfl) rfl ?_
  refine s_q (q_move rfl) rfl ?_
  refine g_split 16 rfl (fun h1 => ?_) (fun h1 => ?_)
  · refine g_gf rfl rfl rfl rfl ?_
    refine g_gf rfl rfl rfl rfl ?_
    refine s_q (q_pick_t rfl rfl) rfl ?_
    refine g_nil ?_
    refine g_then ?_
    refine g_true rfl ?_
    refine g_seq ?_
    refine g_region ?_
    refine s_q (q_assign rfl) rfl ?_
    refine s_q (q_assign rfl) rfl ?_
    refine g_nil ?_
    refine g_then ?_
    refine g_ret ?_
    refine g_then_ret ?_
    exact fin2 rfl (.tmp rfl) (.tmp rfl) (fun w' hw => ⟨by first | (simp_all [epn, epk]; done) | (simp_all [epn, epk]; omega), hw.upd⟩) _ (.inl rfl)
  · refine s_qg (q_move rfl) rfl rfl rfl ?_
    refine s_qg (q_gtr rfl rfl) rfl rfl rfl ?_
    refine s_q (q_pick_f rfl rfl) rfl ?_
    refine g_nil ?_
    refine g_then ?_
    refine g_cond rfl (fun h2 => ?_) (fun h2 => ?_)
    · refine g_seq ?_
      refine g_region ?_
      refine s_q (q_assign rfl) rfl ?_
      refine s_q (q_assign rfl) rfl ?_
      refine g_nil ?_
      refine g_then ?_
      refine g_ret ?_
      refine g_then_ret ?_
      exact fin2 rfl (.tmp rfl) (.tmp rfl) (fun w' hw => ⟨by first | (simp_all [epn, epk]; done) | (simp_all [epn, epk]; omega), hw.upd⟩) _ (.inl rfl)
    · refine g_skip ?_
      refine g_then ?_
      refine g_seq ?_
      refine g_region ?_
      refine s_q (q_move rfl) rfl ?_
      refine s_q (q_convz rfl (wi64 (by have := cei_bd hx.1 hy.1; omega) (by simp_all; omega))) rfl ?_
      refine s_q (q_assign rfl) rfl ?_
      refine s_q (q_assign rfl) rfl ?_
      refine g_nil ?_
      refine g_then ?_
      refine g_ret ?_
      exact fin2 rfl (.tmp rfl) (.tmp rfl) (fun w' hw => ⟨by first | (simp_all [epn, epk]; done) | (simp_all [epn, epk]; omega), hw.upd⟩) _ (.inl rfl)

theorem repochs_any (x y : Int) (hx : 0 ≤ x ∧ x ≤ 18446744073709551615) (hy : 0 ≤ y ∧ y ≤ 18446744073709551615) (w : World) : Pur Try.prog 13 [.int .u64 x, .int .u64 y] w (.tuple [.int .i64 (epn x y), .bool (epk x y)].toArray) := by
  refine g_start Try.func13 rfl 22 rfl (by simp) [] [] (WOK.start _ _) _ rfl ?_
  refine g_seq ?_
  refine g_region ?_
  refine s_q (q_assign rfl) rfl ?_
  refine s_q (q_assign rfl) rfl ?_
  refine g_nil ?_
  refine g_then ?_
  refine g_seq ?_
  refine g_region ?_
  refine s_q (q_move rfl) rfl ?_
  refine s_q (q_move rfl) rfl ?_
  refine g_op (g_pure rfl (fun w hw => rceil_any _ _ (by omega) (by omega) w) rfl ?_)
  refine s_q (q_move rfl) rfl ?_
  refine s_q (q_extract rfl rfl) rfl ?_
  refine s_q (q_extract rfl rfl) rfl ?_
  refine s_q (q_assign rfl) rfl ?_
  refine s_q (q_assign rfl) rfl ?_
  refine g_nil ?_
  refine g_then ?_
  refine g_seq ?_
  refine g_seq ?_
  refine g_region ?_
  refine s_q (q_move rfl) rfl ?_
  refine s_q (q_not rfl) rfl ?_
  refine s_q (q_move rfl) rfl ?_
  refine g_split 16 rfl (fun h1 => ?_) (fun h1 => ?_)
  · refine g_gf rfl rfl rfl rfl ?_
    refine g_gf rfl rfl rfl rfl ?_
    refine s_q (q_pick_t rfl rfl) rfl ?_
    refine g_nil ?_
    refine g_then ?_
    refine g_true rfl ?_
    refine g_seq ?_
    refine g_region ?_
    refine s_q (q_assign rfl) rfl ?_
    refine s_q (q_assign rfl) rfl ?_
    refine g_nil ?_
    refine g_then ?_
    refine g_ret ?_
    refine g_then_ret ?_
    exact fin2 rfl (.tmp rfl) (.tmp rfl) (fun w' hw => ⟨by first | (simp_all [epn, epk]; done) | (simp_all [epn, epk]; omega), hw.upd⟩) _ (.inl rfl)
  · refine s_qg (q_move rfl) rfl rfl rfl ?_
    refine s_qg (q_gtr rfl rfl) rfl rfl rfl ?_
    refine s_q (q_pick_f rfl rfl) rfl ?_
    refine g_nil ?_
    refine g_then ?_
    refine g_cond rfl (fun h2 => ?_) (fun h2 => ?_)
    · refine g_seq ?_
      refine g_region ?_
      refine s_q (q_assign rfl) rfl ?_
      refine s_q (q_assign rfl) rfl ?_
      refine g_nil ?_
      refine g_then ?_
      refine g_ret ?_
      refine g_then_ret ?_
      exact fin2 rfl (.tmp rfl) (.tmp rfl) (fun w' hw => ⟨by first | (simp_all [epn, epk]; done) | (simp_all [epn, epk]; omega), hw.upd⟩) _ (.inl rfl)
    · refine g_skip ?_
      refine g_then ?_
      refine g_seq ?_
      refine g_region ?_
      refine s_q (q_move rfl) rfl ?_
      refine s_q (q_convz rfl (wi64 (by have := cei_bd hx.1 hy.1; omega) (by simp_all; omega))) rfl ?_
      refine s_q (q_assign rfl) rfl ?_
      refine s_q (q_assign rfl) rfl ?_
      refine g_nil ?_
      refine g_then ?_
      refine g_ret ?_
      exact fin2 rfl (.tmp rfl) (.tmp rfl) (fun w' hw => ⟨by first | (simp_all [epn, epk]; done) | (simp_all [epn, epk]; omega), hw.upd⟩) _ (.inl rfl)
end Go.Proofs.Ytknekmmijehfmaa
