/- walks of Spread and of alive -/
import Derived.Test.YtknekmmijehfmaaW1
namespace Go.Proofs.Ytknekmmijehfmaa
open Go.RowKit Go.Eg
set_option linter.unusedSimpArgs false
set_option linter.unusedVariables false
theorem F_pos {F : Nat} {w c : Int} (h : w > 0) (hF : w ≤ (F : Int) * c) : ∃ F', F = F' + 1 := by
  cases F with
  | zero => simp at hF; omega
  | succ n => exact ⟨n, rfl⟩
theorem F_next {F : Nat} {w c : Int} (hc : 0 < c) (hF : w ≤ ((F + 1 : Nat) : Int) * c) : w - min w c ≤ (F : Int) * c := by
  have h0 : 0 ≤ (F : Int) * c := Int.mul_nonneg (by omega) (by omega)
  rw [Int.natCast_add, Int.add_mul] at hF
  simp at hF; omega
theorem sprk_eq (x y : Int) : sprk x y = (epk x y && !decide (epn x y > 4096)) := by
  unfold sprk epk epn
  by_cases h : y = 0 ∨ 1099511627776 < cei x y
  · rw [if_pos h]
    have h2 : y = 0 ∨ 4096 < cei x y := by omega
    simp [h, h2]
  · rw [if_neg h]
    simp only [not_or] at h
    simp [h]

theorem spread_any (x y : Int) (hx : 0 ≤ x ∧ x ≤ 18446744073709551615) (hy : 0 ≤ y ∧ y ≤ 18446744073709551615) (w : World) : NewRow Try.prog 14 [.int .u64 x, .int .u64 y] w (fun s => .tuple [s, .bool (sprk x y)].toArray) 22 1 ((sprd x y).map U1) := by
  refine g_start Try.func14 rfl 35 rfl (by simp) [] [] (WOK.start _ _) _ rfl ?_
  refine g_seq ?_
  refine g_region ?_
  refine s_q (q_assign rfl) rfl ?_
  refine s_q (q_assign rfl) rfl ?_
  refine g_nil ?_
  refine g_then ?_
  refine g_seq ?_
  refine g_region ?_
  refine s_q (q_move rfl) rfl ?_
  refine s_q (q_move rfl) rfl ?_
  refine g_op (g_pure rfl (fun w hw => epochs_any _ _ (by omega) (by omega) w) rfl ?_)
  refine s_q (q_move rfl) rfl ?_
  refine s_q (q_extract rfl rfl) rfl ?_
  refine s_q (q_extract rfl rfl) rfl ?_
  refine s_q (q_assign rfl) rfl ?_
  refine s_q (q_assign rfl) rfl ?_
  refine g_nil ?_
  refine g_then ?_
  refine g_seq ?_
  refine g_seq ?_
  refine g_region ?_
  refine s_q (q_move rfl) rfl ?_
  refine s_q (q_not rfl) rfl ?_
  refine s_q (q_move rfl) rfl ?_
  refine g_split 18 rfl (fun h1 => ?_) (fun h1 => ?_)
  · refine g_gf rfl rfl rfl rfl ?_
    refine g_gf rfl rfl rfl rfl ?_
    refine s_q (q_pick_t rfl rfl) rfl ?_
    refine g_nil ?_
    refine g_then ?_
    refine g_true rfl ?_
    refine g_seq ?_
    refine g_region ?_
    refine s_q (q_assign rfl) rfl ?_
    refine s_q (q_assign rfl) rfl ?_
    refine g_nil ?_
    refine g_then ?_
    refine g_ret ?_
    refine g_then_ret ?_
    have hk : sprk x y = false := by rw [sprk_eq]; simp_all
    have hs : sprd x y = [] := by simp [sprd, hk]
    exact fin2 rfl (.tmp rfl) (.tmp rfl) (fun w' hw => by rw [hs, hk]; exact ⟨none, 0, rfl, ⟨rfl, by simp, .inl ⟨rfl, rfl⟩⟩, hw.upd, by simp [Res.row]⟩) _ (.inl rfl)
  · refine s_qg (q_move rfl) rfl rfl rfl ?_
    refine s_qg (q_gtr rfl rfl) rfl rfl rfl ?_
    refine s_q (q_pick_f rfl rfl) rfl ?_
    refine g_nil ?_
    refine g_then ?_
    refine g_cond rfl (fun h2 => ?_) (fun h2 => ?_)
    · refine g_seq ?_
      refine g_region ?_
      refine s_q (q_assign rfl) rfl ?_
      refine s_q (q_assign rfl) rfl ?_
      refine g_nil ?_
      refine g_then ?_
      refine g_ret ?_
      refine g_then_ret ?_
      have hk : sprk x y = false := by rw [sprk_eq]; simp_all
      have hs : sprd x y = [] := by simp [sprd, hk]
      exact fin2 rfl (.tmp rfl) (.tmp rfl) (fun w' hw => by rw [hs, hk]; exact ⟨none, 0, rfl, ⟨rfl, by simp, .inl ⟨rfl, rfl⟩⟩, hw.upd, by simp [Res.row]⟩) _ (.inl rfl)
    · refine g_skip ?_
      refine g_then ?_
      refine g_seq ?_
      refine g_region ?_
      have hk : sprk x y = true := by rw [sprk_eq]; simp_all
      have hk2 := hk
      simp only [sprk, Bool.not_eq_true', decide_eq_false_iff_not, not_or] at hk2
      have hcb := cei_bd hx.1 hy.1
      have hcm := cei_mul hx.1 (show 0 < y by omega)
      have hct : ((cei x y).toNat : Int) = cei x y := by omega
      refine s_q (q_assign rfl) rfl ?_
      refine g_nilrow 8 22 1 rfl fun A0 cap0 hc0 => ?_
      refine g_nil ?_
      refine g_then ?_
      refine g_seq ?_
      refine g_block ?_
      refine g_loopk [1] (fun (z : Option Addr × Nat × List Int × Nat × Int) => [(0, .int .u64 z.2.2.2.2), (8, .slice z.1 (z.2.2.1.map U1).length z.2.1)]) (fun z => [Res.row z.1 (z.2.2.1.map U1).length z.2.1 22 1 (z.2.2.1.map U1)]) (fun z => 0 ≤ z.2.2.2.2 ∧ z.2.2.2.2 ≤ x ∧ z.2.2.2.2 ≤ (z.2.2.2.1 : Int) * y ∧ z.2.2.2.1 + z.2.2.1.length ≤ 4096 ∧ z.2.2.1 ++ spr z.2.2.2.1 z.2.2.2.2 y = spr (cei x y).toNat x y) (fun z => z.2.2.2.2.toNat) (A0, cap0, [], (cei x y).toNat, x) ⟨hx.1, Int.le_refl _, by simp only; rw [hct]; exact hcm, by simp; omega, rfl⟩ rfl ⟨rfl, rfl, trivial⟩ wok_id ?_
      rintro ⟨A, cap, out, F, wt⟩ ⟨hw0, hwx, hF, hlen, hout⟩
      simp only at hw0 hwx hF hlen hout
      simp only
      refine g_seq ?_
      refine g_seq ?_
      refine g_region ?_
      refine s_q (q_move rfl) rfl ?_
      refine s_q (q_gtr rfl rfl) rfl ?_
      refine g_nil ?_
      refine g_then ?_
      refine g_cond rfl (fun h3 => ?_) (fun h3 => ?_)
      · have hwp : wt > 0 := by simpa using h3
        obtain ⟨F', rfl⟩ := F_pos hwp hF
        refine g_skip ?_
        refine g_then ?_
        refine g_block ?_
        refine g_seq ?_
        refine g_region ?_
        refine s_q (q_move rfl) rfl ?_
        refine s_q (q_move rfl) rfl ?_
        refine s_q (q_min rfl rfl) rfl ?_
        refine s_q (q_assign rfl) rfl ?_
        refine g_nil ?_
        refine g_then ?_
        refine g_seq ?_
        refine g_region ?_
        refine s_q (q_move rfl) rfl ?_
        refine s_q (q_move rfl) rfl ?_
        refine g_op (g_lit (c := [.int .u64 (min wt y)]) rfl rfl rfl rfl rfl fun b29 => ?_)
        refine g_op (g_append rfl rfl (InL.rdb (els := [[.int .u64 (min wt y)]]) rfl (by simp) rfl) (by simp [Value.oneCell']) (by simp; omega) rfl fun A' cap' => ⟨_, inferInstance, ?_⟩)
        refine g_val 30 (v' := .slice A' ((out ++ [min wt y]).map U1).length cap') rfl (by simp) ?_
        refine g_setL (L' := [Res.blk b29 22 [.int .u64 (min wt y)], Res.row A' ((out ++ [min wt y]).map U1).length cap' 22 1 ((out ++ [min wt y]).map U1)]) (by simp) ?_
        refine s_q (q_assign rfl) rfl ?_
        refine g_nil ?_
        refine g_then ?_
        refine g_region ?_
        refine s_q (q_move rfl) rfl ?_
        refine s_q (q_move rfl) rfl ?_
        refine s_q (q_subz rfl rfl (wu64 (by omega) (by omega))) rfl ?_
        refine s_q (q_assign rfl) rfl ?_
        refine g_nil ?_
        refine g_blk_n ?_
        exact g_again (A', cap', out ++ [min wt y], F', wt - min wt y) ⟨by simp only; omega, by simp only; omega, F_next (by omega) hF, by simp; omega, by rw [← hout, spr_pos _ hwp]; simp⟩ (by simp only; omega) (by repeat (first | exact trivial | refine ⟨rfl, ?_⟩)) (wok_tail wok_id)
      · have hwp : ¬ wt > 0 := by simpa using h3
        refine g_exit ?_
        refine g_then_x (g_then_x (g_blk_hit ?_))
        refine g_then ?_
        refine g_seq ?_
        refine g_region ?_
        refine s_q (q_move rfl) rfl ?_
        refine s_q (q_assign rfl) rfl ?_
        refine s_q (q_assign rfl) rfl ?_
        refine g_nil ?_
        refine g_then ?_
        refine g_ret ?_
        have hs : sprd x y = out := by rw [sprd, hk, if_pos rfl, ← hout, spr_zero _ hwp]; simp
        exact fin2 rfl (.tmp rfl) (.tmp rfl) (fun w' hw => by rw [hs, hk]; exact ⟨A, cap, rfl, hw.sat 0 _ rfl, hw.upd, fun b hb => by simpa using hw.fr 0 _ rfl b hb⟩) _ (.inl rfl)

theorem equal_any (A B : Option Addr) (ca cb : Nat) (l m : List Int) (hl : l.length ≤ maxLen) (w : World) (ha : Old w A l.length 1 (l.map U1)) (hb : Old w B m.length 1 (m.map U1)) : Pur Try.prog 18 [.slice A l.length ca, .slice B m.length cb] w (.bool (decide (l = m))) := by
  unfold maxLen at hl
  refine g_start Try.func18 rfl 26 rfl (by simp) [] [] (WOK.start _ _) _ rfl ?_
  refine g_seq ?_
  refine g_region ?_
  refine s_q (q_assign rfl) rfl ?_
  refine g_nil ?_
  refine g_then ?_
  refine g_seq ?_
  refine g_seq ?_
  refine g_region ?_
  refine s_q (q_move rfl) rfl ?_
  refine s_q (q_len rfl) rfl ?_
  refine s_q (q_move rfl) rfl ?_
  refine s_q (q_len rfl) rfl ?_
  refine s_q (q_neq rfl rfl) rfl ?_
  refine g_nil ?_
  refine g_then ?_
  refine g_cond rfl (fun h1 => ?_) (fun h1 => ?_)
  · refine g_seq ?_
    refine g_region ?_
    refine s_q (q_assign rfl) rfl ?_
    refine g_nil ?_
    refine g_then ?_
    refine g_ret ?_
    refine g_then_ret ?_
    have hne : decide (l = m) = false := by simp only [decide_eq_false_iff_not]; intro he; subst he; simp at h1
    exact fin1 rfl (.tmp rfl) (fun w' hw => ⟨by rw [hne], hw.upd⟩) _ (.inl rfl)
  · refine g_skip ?_
    refine g_then ?_
    refine g_seq ?_
    refine g_seq ?_
    refine g_region ?_
    have hll : l.length = m.length := by simp at h1; omega
    refine s_q (q_move rfl) rfl ?_
    refine s_q (q_len rfl) rfl ?_
    refine s_q (q_move rfl) rfl ?_
    refine g_nil ?_
    refine g_then ?_
    refine g_block ?_
    refine g_loopk [0, 1, 12] (fun (k : Nat) => [(13, .int .i64 (k : Int))]) (fun _ => []) (fun k => k ≤ l.length ∧ l.take k = m.take k) (fun k => l.length - k) 0 ⟨Nat.zero_le _, by simp⟩ rfl ⟨rfl, trivial⟩ wok_id ?_
    rintro k ⟨hk1, hk2⟩
    refine g_seq ?_
    refine g_region ?_
    refine s_q (q_lss rfl rfl) rfl ?_
    refine g_nil ?_
    refine g_then ?_
    refine g_seq ?_
    refine g_cond rfl (fun h2 => ?_) (fun h2 => ?_)
    · have hk : k < l.length := by simpa using h2
      have hkm : k < m.length := by omega
      have hga : (l.map U1)[k]? = some [Value.int .u64 l[k]] := by simp [hk]
      have hgb : (m.map U1)[k]? = some [Value.int .u64 m[k]] := by simp [hkm]
      refine g_skip ?_
      refine g_then ?_
      refine g_seq ?_
      refine g_block ?_
      refine g_seq ?_
      refine g_region ?_
      refine s_q (q_move rfl) rfl ?_
      refine s_q (q_assign rfl) rfl ?_
      refine g_nil ?_
      refine g_then ?_
      refine g_seq ?_
      refine d_region [] mixed rfl rfl ?_
      refine d_q 0 rfl (by kernel_rfl) (q_move rfl) wok_id rfl (ls' := #[true, false, false, false, false, false, false, false, false]) rfl ?_
      refine d_q 1 rfl (by kernel_rfl) (q_move rfl) wok_id rfl (ls' := #[true, true, false, false, false, false, false, false, false]) rfl ?_
      refine d_q 2 rfl (by kernel_rfl) (q_index (i := k) rfl rfl rfl (ha.rdb rfl) hk) wok_id rfl (ls' := #[true, true, true, false, false, false, false, false, false]) rfl ?_
      refine d_q 3 rfl (by kernel_rfl) (q_load_el (i := k) (o := 0) rfl (ha.rdb rfl) hga rfl rfl) wok_id rfl (ls' := #[true, true, true, true, false, false, false, false, false]) rfl ?_
      refine d_q 4 rfl (by kernel_rfl) (q_move rfl) wok_id rfl (ls' := #[true, true, true, true, true, false, false, false, false]) rfl ?_
      refine d_q 5 rfl (by kernel_rfl) (q_move rfl) wok_id rfl (ls' := #[true, true, true, true, true, true, false, false, false]) rfl ?_
      refine d_q 6 rfl (by kernel_rfl) (q_index (i := k) rfl rfl rfl (hb.rdb rfl) hkm) wok_id rfl (ls' := #[true, true, true, true, true, true, true, false, false]) rfl ?_
      refine d_q 7 rfl (by kernel_rfl) (q_load_el (i := k) (o := 0) rfl (hb.rdb rfl) hgb rfl rfl) wok_id rfl (ls' := #[true, true, true, true, true, true, true, true, false]) rfl ?_
      refine d_q 8 rfl (by kernel_rfl) (q_neq rfl rfl) wok_id rfl (ls' := #[true, true, true, true, true, true, true, true, true]) rfl ?_
      refine d_end (by kernel_rfl) (.inr wok_id) ?_
      refine g_then ?_
      refine g_cond rfl (fun h3 => ?_) (fun h3 => ?_)
      · refine g_seq ?_
        refine g_region ?_
        refine s_q (q_assign rfl) rfl ?_
        refine g_nil ?_
        refine g_then ?_
        refine g_ret ?_
        refine g_blk_ret (g_then_ret (g_then_ret (g_blk_ret (g_then_ret ?_))))
        have hne : decide (l = m) = false := by simp only [decide_eq_false_iff_not]; intro he; subst he; simp at h3
        exact fin1 rfl (.tmp rfl) (fun w' hw => ⟨by rw [hne], hw.upd⟩) _ (.inl rfl)
      · have heq : l[k] = m[k] := by simpa using h3
        refine g_skip ?_
        refine g_blk_n ?_
        refine g_then ?_
        refine g_region ?_
        refine s_q (q_inc rfl rfl (by omega)) rfl ?_
        refine s_q (q_move rfl) rfl ?_
        refine g_nil ?_
        exact g_again (k + 1) ⟨hk, by rw [List.take_add_one, List.take_add_one, hk2]; simp [hk, hkm, heq]⟩ (by omega) (by repeat (first | exact trivial | refine ⟨rfl, ?_⟩)) wok_id
    · refine g_exit ?_
      refine g_then_x (g_then_x (g_blk_hit ?_))
      refine g_then ?_
      refine g_seq ?_
      refine g_region ?_
      refine s_q (q_assign rfl) rfl ?_
      refine g_nil ?_
      refine g_then ?_
      refine g_ret ?_
      have hkl : k = l.length := by simp at h2; omega
      have he : l = m := by rw [hkl, List.take_length, hll, List.take_length] at hk2; exact hk2
      exact fin1 rfl (.tmp rfl) (fun w' hw => ⟨by rw [he]; simp, hw.upd⟩) _ (.inl rfl)

theorem spread70 (w : World) : NewRow Try.prog 14 [.int .u64 70, .int .u64 32] w (fun s => .tuple [s, .bool true].toArray) 22 1 ([32, 32, 6].map U1) := by
  have h := spread_any 70 32 (by decide) (by decide) w
  have e1 : sprd 70 32 = [32, 32, 6] := by decide
  have e2 : sprk 70 32 = true := by decide
  rw [e1, e2] at h
  exact h

theorem alive_any  (w : World) : Pur Try.prog 10 [] w (.bool true) := by
  refine g_start Try.func10 rfl 21 rfl (by simp) [] [] (WOK.start _ _) _ rfl ?_
  refine g_seq ?_
  refine g_region ?_
  refine s_q (q_assign rfl) rfl ?_
  refine g_nil ?_
  refine g_then ?_
  refine g_seq ?_
  refine g_region ?_
  refine g_op (g_newrow rfl (fun w hw => spread70 w) rfl fun A4 cap4 => ?_)
  refine s_q (q_move rfl) rfl ?_
  refine s_q (q_extract rfl rfl) rfl ?_
  refine s_q (q_extract rfl rfl) rfl ?_
  refine s_q (q_assign rfl) rfl ?_
  refine s_q (q_assign rfl) rfl ?_
  refine g_nil ?_
  refine g_then ?_
  refine g_seq ?_
  refine g_region ?_
  refine g_op (g_pure rfl (fun w hw => churn_any _ _ _ (by omega) (by omega) w) rfl ?_)
  refine s_q (q_eql rfl rfl) rfl ?_
  refine g_litb 8 (b := true) rfl (by decide) ?_
  refine s_q (q_move rfl) rfl ?_
  refine g_gt rfl rfl (g_pure rfl (fun w hw => churn_any _ _ _ (by omega) (by omega) w) rfl ?_)
  refine s_qg (q_eql rfl rfl) rfl rfl rfl ?_
  refine g_litb 11 (b := true) rfl (by decide) ?_
  refine s_q (q_pick_t rfl rfl) rfl ?_
  refine s_q (q_move rfl) rfl ?_
  refine s_qg (q_move rfl) rfl rfl rfl ?_
  refine g_gt rfl rfl (g_lit (c := [.int .u64 32, .int .u64 32, .int .u64 6]) rfl rfl rfl rfl rfl fun b15 => ?_)
  refine g_gt rfl rfl (g_pure rfl (fun w hw => equal_any A4 (some ⟨b15, 0, none⟩) cap4 3 [32, 32, 6] [32, 32, 6] (by decide) w (Rdb.toOld (InRow.rdb (els := [32, 32, 6].map U1) rfl (by decide)) hw) (Rdb.toOld (InL.rdb (els := [32, 32, 6].map U1) rfl (by decide) rfl) hw)) rfl ?_)
  refine g_litb 16 (b := true) rfl (by decide) ?_
  refine s_q (q_pick_t rfl rfl) rfl ?_
  refine s_q (q_move rfl) rfl ?_
  refine s_qg (q_move rfl) rfl rfl rfl ?_
  refine s_q (q_pick_t rfl rfl) rfl ?_
  refine s_q (q_assign rfl) rfl ?_
  refine g_nil ?_
  refine g_then ?_
  refine g_ret ?_
  exact fin1 rfl (.tmp rfl) (fun w' hw => ⟨by rfl, hw.upd⟩) _ (.inl rfl)
end Go.Proofs.Ytknekmmijehfmaa
