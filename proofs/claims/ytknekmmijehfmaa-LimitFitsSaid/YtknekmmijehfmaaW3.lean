/- walks of Split -/
import Derived.Test.YtknekmmijehfmaaW2
namespace Go.Proofs.Ytknekmmijehfmaa
open Go.RowKit Go.Eg
set_option linter.unusedSimpArgs false
set_option linter.unusedVariables false
instance hb23 : HasB Try.prog 23 := ⟨by kernel_rfl⟩
def spl : List Int → Int → Nat × Int
  | [], r => (0, r)
  | a :: l, r => if r < a then (0, r) else ((spl l (r - a)).1 + 1, (spl l (r - a)).2)
theorem spl_stop {l : List Int} {k : Nat} (hk : k < l.length) {r : Int} (h : r < l[k]) : spl (l.drop k) r = (0, r) := by
  rw [List.drop_eq_getElem_cons hk, spl, if_pos h]
theorem spl_step {l : List Int} {k : Nat} (hk : k < l.length) {r : Int} (h : ¬ r < l[k]) : spl (l.drop k) r = ((spl (l.drop (k + 1)) (r - l[k])).1 + 1, (spl (l.drop (k + 1)) (r - l[k])).2) := by
  rw [List.drop_eq_getElem_cons hk, spl, if_neg h]
theorem spl_end (l : List Int) (r : Int) : spl (l.drop l.length) r = (0, r) := by simp [spl]

theorem sub_any (a b : Int) (w : World) : Pur Try.prog 23 [.int .u64 a, .int .u64 b] w (.tuple [.int .u64 (if a < b then 0 else IntKind.u64.wrap (a - b)), .bool (!decide (a < b))].toArray) := by
  refine g_start Try.func23 rfl 12 rfl (by simp) [] [] (WOK.start _ _) _ rfl ?_
  refine g_seq ?_
  refine g_region ?_
  refine s_q (q_assign rfl) rfl ?_
  refine s_q (q_assign rfl) rfl ?_
  refine g_nil ?_
  refine g_then ?_
  refine g_seq ?_
  refine g_seq ?_
  refine g_region ?_
  refine s_q (q_move rfl) rfl ?_
  refine s_q (q_move rfl) rfl ?_
  refine s_q (q_gtr rfl rfl) rfl ?_
  refine g_nil ?_
  refine g_then ?_
  refine g_cond rfl (fun h1 => ?_) (fun h1 => ?_)
  · refine g_seq ?_
    refine g_region ?_
    refine s_q (q_assign rfl) rfl ?_
    refine s_q (q_assign rfl) rfl ?_
    refine g_nil ?_
    refine g_then ?_
    refine g_ret ?_
    refine g_then_ret ?_
    exact fin2 rfl (.tmp rfl) (.tmp rfl) (fun w' hw => ⟨by first | rfl | (simp_all ; done) | (simp_all ; omega) | (simp_all  <;> intros <;> omega), hw.upd⟩) _ (.inl rfl)
  · refine g_skip ?_
    refine g_then ?_
    refine g_seq ?_
    refine g_region ?_
    refine s_q (q_move rfl) rfl ?_
    refine s_q (q_move rfl) rfl ?_
    refine s_q (q_sub rfl rfl) rfl ?_
    refine s_q (q_assign rfl) rfl ?_
    refine s_q (q_assign rfl) rfl ?_
    refine g_nil ?_
    refine g_then ?_
    refine g_ret ?_
    exact fin2 rfl (.tmp rfl) (.tmp rfl) (fun w' hw => ⟨by first | rfl | (simp_all ; done) | (simp_all ; omega) | (simp_all  <;> intros <;> omega), hw.upd⟩) _ (.inl rfl)

theorem fold_any (A : Option Addr) (cap : Nat) (l : List Int) (r0 : Int) (hcap : l.length ≤ maxLen) (hr0 : 0 ≤ r0 ∧ r0 ≤ 18446744073709551615) (hok : ∀ x ∈ l, 0 ≤ x ∧ x ≤ 18446744073709551615) (w : World) (hold : Old w A l.length 1 (l.map U1)) : Pur Try.prog 22 [.slice A l.length cap, .int .u64 r0, .func (.func 23) #[] #[]] w (.tuple [.int .u64 (spl l r0).2, .int .i64 ((spl l r0).1 : Int)].toArray) := by
  unfold maxLen at hcap
  refine g_start Try.func22 rfl 35 rfl (by simp) [] [] (WOK.start _ _) _ rfl ?_
  refine g_seq ?_
  refine g_region ?_
  refine s_q (q_assign rfl) rfl ?_
  refine s_q (q_assign rfl) rfl ?_
  refine g_nil ?_
  refine g_then ?_
  refine g_seq ?_
  refine g_seq ?_
  refine g_region ?_
  refine s_q (q_move rfl) rfl ?_
  refine s_q (q_len rfl) rfl ?_
  refine s_q (q_move rfl) rfl ?_
  refine g_nil ?_
  refine g_then ?_
  refine g_block ?_
  refine g_loopk [0, 2, 12, 13] (fun (z : Nat × Int) => [(14, .int .i64 (z.1 : Int)), (1, .int .u64 z.2)]) (fun _ => []) (fun z => z.1 ≤ l.length ∧ 0 ≤ z.2 ∧ z.2 ≤ 18446744073709551615 ∧ spl l r0 = (z.1 + (spl (l.drop z.1) z.2).1, (spl (l.drop z.1) z.2).2)) (fun z => l.length - z.1) (0, r0) ⟨Nat.zero_le _, hr0.1, hr0.2, by simp⟩ rfl ⟨rfl, rfl, trivial⟩ wok_id ?_
  rintro ⟨k, r⟩ ⟨hk1, hr1, hr2, hsp⟩
  simp only at hk1 hr1 hr2 hsp
  simp only
  refine g_seq ?_
  refine g_region ?_
  refine s_q (q_lss rfl rfl) rfl ?_
  refine g_nil ?_
  refine g_then ?_
  refine g_seq ?_
  refine g_cond rfl (fun h1 => ?_) (fun h1 => ?_)
  · have hk : k < l.length := by simpa using h1
    have ho := hok _ (List.getElem_mem hk)
    have hget : (l.map U1)[k]? = some [Value.int .u64 l[k]] := by simp [hk]
    refine g_skip ?_
    refine g_then ?_
    refine g_seq ?_
    refine g_block ?_
    refine g_seq ?_
    refine g_region ?_
    refine s_q (q_move rfl) rfl ?_
    refine s_q (q_index (i := k) rfl rfl rfl (hold.rdb rfl) hk) rfl ?_
    refine s_q (q_load_el (i := k) (o := 0) rfl (hold.rdb rfl) hget rfl rfl) rfl ?_
    refine s_q (q_assign rfl) rfl ?_
    refine s_q (q_assign rfl) rfl ?_
    refine g_nil ?_
    refine g_then ?_
    refine g_seq ?_
    refine g_region ?_
    refine s_q (q_move rfl) rfl ?_
    refine s_q (q_move rfl) rfl ?_
    refine s_q (q_move rfl) rfl ?_
    refine g_op (g_purev (f := 23) rfl rfl (fun w hw => sub_any _ _ w) rfl ?_)
    refine s_q (q_move rfl) rfl ?_
    refine s_q (q_extract rfl rfl) rfl ?_
    refine s_q (q_extract rfl rfl) rfl ?_
    refine s_q (q_assign rfl) rfl ?_
    refine s_q (q_assign rfl) rfl ?_
    refine g_nil ?_
    refine g_then ?_
    refine g_seq ?_
    refine g_seq ?_
    refine g_region ?_
    refine s_q (q_move rfl) rfl ?_
    refine s_q (q_not rfl) rfl ?_
    refine g_nil ?_
    refine g_then ?_
    refine g_cond rfl (fun h2 => ?_) (fun h2 => ?_)
    · have hlt : r < l[k] := by simpa using h2
      refine g_seq ?_
      refine g_region ?_
      refine s_q (q_move rfl) rfl ?_
      refine s_q (q_move rfl) rfl ?_
      refine s_q (q_assign rfl) rfl ?_
      refine s_q (q_assign rfl) rfl ?_
      refine g_nil ?_
      refine g_then ?_
      refine g_ret ?_
      refine g_then_ret (g_blk_ret (g_then_ret (g_then_ret (g_blk_ret (g_then_ret ?_)))))
      have e : spl l r0 = (k, r) := by rw [hsp, spl_stop hk hlt]; simp
      exact fin2 rfl (.tmp rfl) (.tmp rfl) (fun w' hw => ⟨by rw [e], hw.upd⟩) _ (.inl rfl)
    · have hge : ¬ r < l[k] := by simpa using h2
      refine g_skip ?_
      refine g_then ?_
      refine g_region ?_
      refine s_q (q_move rfl) rfl ?_
      refine g_val 30 (v' := .int .u64 (r - l[k])) rfl (by rw [if_neg hge, wu64 (by omega) (by omega)]) ?_
      refine s_q (q_assign rfl) rfl ?_
      refine g_nil ?_
      refine g_blk_n ?_
      refine g_then ?_
      refine g_region ?_
      refine s_q (q_inc rfl rfl (by omega)) rfl ?_
      refine s_q (q_move rfl) rfl ?_
      refine g_nil ?_
      exact g_again (k + 1, r - l[k]) ⟨hk, by simp only; omega, by simp only; omega, by rw [hsp, spl_step hk hge]; simp only [Prod.mk.injEq, and_true]; omega⟩ (by simp only; omega) (by repeat (first | exact trivial | refine ⟨rfl, ?_⟩)) wok_id
  · refine g_exit ?_
    refine g_then_x (g_then_x (g_blk_hit ?_))
    refine g_then ?_
    refine g_seq ?_
    refine g_region ?_
    refine s_q (q_move rfl) rfl ?_
    refine s_q (q_move rfl) rfl ?_
    refine s_q (q_len rfl) rfl ?_
    refine s_q (q_assign rfl) rfl ?_
    refine s_q (q_assign rfl) rfl ?_
    refine g_nil ?_
    refine g_then ?_
    refine g_ret ?_
    have hkl : k = l.length := by simp at h1; omega
    have e : spl l r0 = (l.length, r) := by rw [hsp, hkl, spl_end]; simp
    exact fin2 rfl (.tmp rfl) (.tmp rfl) (fun w' hw => ⟨by rw [e], hw.upd⟩) _ (.inl rfl)

theorem split_any (A : Option Addr) (cap : Nat) (l : List Int) (r0 : Int) (hcap : l.length ≤ maxLen) (hr0 : 0 ≤ r0 ∧ r0 ≤ 18446744073709551615) (hok : ∀ x ∈ l, 0 ≤ x ∧ x ≤ 18446744073709551615) (w : World) (hold : Old w A l.length 1 (l.map U1)) : Pur Try.prog 16 [.int .u64 r0, .slice A l.length cap] w (.tuple [.int .i64 ((spl l r0).1 : Int), .int .u64 (spl l r0).2].toArray) := by
  refine g_start Try.func16 rfl 16 rfl (by simp) [] [] (WOK.start _ _) _ rfl ?_
  refine g_seq ?_
  refine g_region ?_
  refine s_q (q_assign rfl) rfl ?_
  refine s_q (q_assign rfl) rfl ?_
  refine g_nil ?_
  refine g_then ?_
  refine g_seq ?_
  refine g_region ?_
  refine s_q (q_move rfl) rfl ?_
  refine s_q (q_move rfl) rfl ?_
  refine g_op (g_pure rfl (fun w hw => fold_any A cap l r0 hcap hr0 hok w (Rdb.toOld (hold.rdb rfl) hw)) rfl ?_)
  refine s_q (q_move rfl) rfl ?_
  refine s_q (q_extract rfl rfl) rfl ?_
  refine s_q (q_extract rfl rfl) rfl ?_
  refine s_q (q_assign rfl) rfl ?_
  refine s_q (q_assign rfl) rfl ?_
  refine g_nil ?_
  refine g_then ?_
  refine g_seq ?_
  refine g_region ?_
  refine s_q (q_move rfl) rfl ?_
  refine s_q (q_move rfl) rfl ?_
  refine s_q (q_assign rfl) rfl ?_
  refine s_q (q_assign rfl) rfl ?_
  refine g_nil ?_
  refine g_then ?_
  refine g_ret ?_
  exact fin2 rfl (.tmp rfl) (.tmp rfl) (fun w' hw => ⟨by rfl, hw.upd⟩) _ (.inl rfl)

theorem rsplit_any (A : Option Addr) (cap : Nat) (l : List Int) (r0 : Int) (hcap : l.length ≤ maxLen) (hr0 : 0 ≤ r0 ∧ r0 ≤ 18446744073709551615) (hok : ∀ x ∈ l, 0 ≤ x ∧ x ≤ 18446744073709551615) (w : World) (hold : Old w A l.length 1 (l.map U1)) : Pur Try.prog 17 [.int .u64 r0, .slice A l.length cap] w (.tuple [.int .i64 ((spl l r0).1 : Int), .int .u64 (spl l r0).2].toArray) := by
  unfold maxLen at hcap
  refine g_start Try.func17 rfl 30 rfl (by simp) [] [] (WOK.start _ _) _ rfl ?_
  refine g_seq ?_
  refine g_region ?_
  refine s_q (q_assign rfl) rfl ?_
  refine s_q (q_assign rfl) rfl ?_
  refine g_nil ?_
  refine g_then ?_
  refine g_seq ?_
  refine g_seq ?_
  refine g_region ?_
  refine s_q (q_assign rfl) rfl ?_
  refine g_nil ?_
  refine g_then ?_
  refine g_block ?_
  refine g_loopk [1] (fun (z : Nat × Int) => [(6, .int .i64 (z.1 : Int)), (0, .int .u64 z.2)]) (fun _ => []) (fun z => z.1 ≤ l.length ∧ 0 ≤ z.2 ∧ z.2 ≤ 18446744073709551615 ∧ spl l r0 = (z.1 + (spl (l.drop z.1) z.2).1, (spl (l.drop z.1) z.2).2)) (fun z => l.length - z.1) (0, r0) ⟨Nat.zero_le _, hr0.1, hr0.2, by simp⟩ rfl ⟨rfl, rfl, trivial⟩ wok_id ?_
  rintro ⟨k, r⟩ ⟨hk1, hr1, hr2, hsp⟩
  simp only at hk1 hr1 hr2 hsp
  simp only
  refine g_seq ?_
  refine g_seq ?_
  refine g_region ?_
  refine s_q (q_move rfl) rfl ?_
  refine s_q (q_move rfl) rfl ?_
  refine s_q (q_len rfl) rfl ?_
  refine s_q (q_lss rfl rfl) rfl ?_
  refine g_nil ?_
  refine g_then ?_
  refine g_cond rfl (fun h1 => ?_) (fun h1 => ?_)
  · have hk : k < l.length := by simpa using h1
    have ho := hok _ (List.getElem_mem hk)
    have hget : (l.map U1)[k]? = some [Value.int .u64 l[k]] := by simp [hk]
    refine g_skip ?_
    refine g_then ?_
    refine g_seq ?_
    refine g_block ?_
    refine g_seq ?_
    refine g_seq ?_
    refine g_region ?_
    refine s_q (q_move rfl) rfl ?_
    refine s_q (q_move rfl) rfl ?_
    refine s_q (q_index (i := k) rfl rfl rfl (hold.rdb rfl) hk) rfl ?_
    refine s_q (q_load_el (i := k) (o := 0) rfl (hold.rdb rfl) hget rfl rfl) rfl ?_
    refine s_q (q_move rfl) rfl ?_
    refine s_q (q_gtr rfl rfl) rfl ?_
    refine g_nil ?_
    refine g_then ?_
    refine g_cond rfl (fun h2 => ?_) (fun h2 => ?_)
    · have hlt : r < l[k] := by simpa using h2
      refine g_seq ?_
      refine g_region ?_
      refine s_q (q_move rfl) rfl ?_
      refine s_q (q_move rfl) rfl ?_
      refine s_q (q_assign rfl) rfl ?_
      refine s_q (q_assign rfl) rfl ?_
      refine g_nil ?_
      refine g_then ?_
      refine g_ret ?_
      refine g_then_ret (g_blk_ret (g_then_ret (g_then_ret (g_blk_ret (g_then_ret ?_)))))
      have e : spl l r0 = (k, r) := by rw [hsp, spl_stop hk hlt]; simp
      exact fin2 rfl (.tmp rfl) (.tmp rfl) (fun w' hw => ⟨by rw [e], hw.upd⟩) _ (.inl rfl)
    · have hge : ¬ r < l[k] := by simp at h2; omega
      refine g_skip ?_
      refine g_then ?_
      refine g_region ?_
      refine s_q (q_move rfl) rfl ?_
      refine s_q (q_move rfl) rfl ?_
      refine s_q (q_move rfl) rfl ?_
      refine s_q (q_index (i := k) rfl rfl rfl (hold.rdb rfl) hk) rfl ?_
      refine s_q (q_load_el (i := k) (o := 0) rfl (hold.rdb rfl) hget rfl rfl) rfl ?_
      refine s_q (q_subz rfl rfl (wu64 (by omega) (by omega))) rfl ?_
      refine s_q (q_assign rfl) rfl ?_
      refine g_nil ?_
      refine g_blk_n ?_
      refine g_then ?_
      refine g_region ?_
      refine s_q (q_move rfl) rfl ?_
      refine s_q (q_inc rfl rfl (by omega)) rfl ?_
      refine s_q (q_assign rfl) rfl ?_
      refine g_nil ?_
      exact g_again (k + 1, r - l[k]) ⟨hk, by simp only; omega, by simp only; omega, by rw [hsp, spl_step hk hge]; simp only [Prod.mk.injEq, and_true]; omega⟩ (by simp only; omega) (by repeat (first | exact trivial | refine ⟨rfl, ?_⟩)) wok_id
  · refine g_exit ?_
    refine g_then_x (g_then_x (g_blk_hit ?_))
    refine g_then ?_
    refine g_seq ?_
    refine g_region ?_
    refine s_q (q_move rfl) rfl ?_
    refine s_q (q_len rfl) rfl ?_
    refine s_q (q_move rfl) rfl ?_
    refine s_q (q_assign rfl) rfl ?_
    refine s_q (q_assign rfl) rfl ?_
    refine g_nil ?_
    refine g_then ?_
    refine g_ret ?_
    have hkl : k = l.length := by simp at h1; omega
    have e : spl l r0 = (l.length, r) := by rw [hsp, hkl, spl_end]; simp
    exact fin2 rfl (.tmp rfl) (.tmp rfl) (fun w' hw => ⟨by rw [e], hw.upd⟩) _ (.inl rfl)
end Go.Proofs.Ytknekmmijehfmaa
