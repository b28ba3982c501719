/- MeterRejects: for every list of operations and every weight the law returns true. No condition. -/
import Derived.Test.YthfcpbfnbdoakaaW2
namespace Go.Proofs.Ythfcpbfnbdoakaa
open Go.RowKit Go.Eg
set_option linter.unusedSimpArgs false
set_option linter.unusedVariables false
theorem take_bal {m : M} (h : m.ok) {x : Int} (hx : 0 ≤ x) (hb : ¬ m.bal < x) : (m.take x).bal = IntKind.u64.wrap (m.bal - x) := by
  obtain ⟨h1, h2, h3, h4⟩ := h
  unfold M.take
  rw [if_neg hb]
  simp only [M.bal, U_eq, IntKind.wrap_u64]; omega
theorem take_spent {m : M} (h : m.ok) {x : Int} (hx : 0 ≤ x) (hb : ¬ m.bal < x) : (m.take x).spent = IntKind.u64.wrap (m.spent + x) := by
  obtain ⟨h1, h2, h3, h4⟩ := h
  unfold M.take
  rw [if_neg hb]
  simp only [M.spent, U_eq, IntKind.wrap_u64]; omega

theorem law_rejects (A : Option Addr) (cap : Nat) (l : List O) (hcap : cap ≤ maxLen) (hlc : l.length ≤ cap) (hok : ∀ o ∈ l, o.ok) (x : Int) (hx : 0 ≤ x) (w : World) (hold : Old w A l.length 2 (l.map O.c)) : Pur Try.prog 7 [.slice A l.length cap, .int .u64 x] w (.bool true) := by
  unfold maxLen at hcap
  refine g_start Try.func7 rfl 87 rfl (by simp) [] [] (WOK.start _ _) _ rfl ?_
  refine g_seq ?_
  refine g_region ?_
  refine s_q (q_assign rfl) rfl ?_
  refine g_nil ?_
  refine g_then ?_
  refine g_seq ?_
  refine g_region ?_
  refine g_op (g_new rfl (fun w hw => new_any w) rfl fun bn12 => ?_)
  refine s_q (q_build (c := R0.c) rfl rfl) rfl ?_
  refine g_op (g_box rfl rfl rfl fun b14 => ?_)
  refine s_q (q_assign rfl) rfl ?_
  refine s_q (q_assign rfl) rfl ?_
  refine g_nil ?_
  refine g_then ?_
  refine g_seq ?_
  refine g_seq ?_
  refine g_region ?_
  refine s_q (q_move rfl) rfl ?_
  refine s_q (q_eqp (b := false) rfl rfl rfl) rfl ?_
  refine g_nil ?_
  refine g_then ?_
  refine g_false rfl ?_
  refine g_skip ?_
  refine g_then ?_
  refine g_seq ?_
  refine g_seq ?_
  refine g_region ?_
  refine s_q (q_move rfl) rfl ?_
  refine s_q (q_len rfl) rfl ?_
  refine s_q (q_gtr rfl rfl) rfl ?_
  refine g_nil ?_
  refine g_then ?_
  refine g_cond rfl (fun h1 => ?_) (fun h1 => ?_)
  · refine g_seq ?_
    refine g_region ?_
    refine g_op (g_pure rfl (fun w hw => alive_any w) rfl ?_)
    refine s_q (q_assign rfl) rfl ?_
    refine g_nil ?_
    refine g_then ?_
    refine g_ret ?_
    refine g_then_ret ?_
    exact fin1 rfl (.tmp rfl) (fun w' hw => ⟨by first | rfl | (simp_all; done), hw.upd⟩) _ (.inl rfl)
  · refine g_skip ?_
    refine g_then ?_
    refine g_seq ?_
    refine g_seq ?_
    refine g_region ?_
    refine s_q (q_move rfl) rfl ?_
    refine s_q (q_len rfl) rfl ?_
    refine s_q (q_move rfl) rfl ?_
    refine g_nil ?_
    refine g_then ?_
    refine g_block ?_
    refine g_loopk [1, 5, 6, 21, 22] (fun (x : Nat × M) => [(23, .int .i64 (x.1 : Int))]) (fun x => [Res.blk b14 38 (R.of x.2).c, Res.blk bn12 50 x.2.c]) (fun x => x.1 ≤ l.length ∧ x.2.ok) (fun x => l.length - x.1) (0, M0) ⟨Nat.zero_le _, M0_ok⟩ rfl ⟨rfl, trivial⟩ wok_id ?_
    rintro ⟨k, m⟩ ⟨hk1, hm⟩
    simp only at hk1 hm
    refine g_seq ?_
    refine g_region ?_
    refine s_q (q_lss rfl rfl) rfl ?_
    refine g_nil ?_
    refine g_then ?_
    refine g_seq ?_
    refine g_cond rfl (fun h2 => ?_) (fun h2 => ?_)
    · have hk : k < l.length := by simpa using h2
      have ho : (l[k]).ok := hok _ (List.getElem_mem hk)
      have hget : (l.map O.c)[k]? = some (l[k]).c := by simp [hk]
      refine g_skip ?_
      refine g_then ?_
      refine g_seq ?_
      refine g_block ?_
      refine g_seq ?_
      refine g_region ?_
      refine s_q (q_index (i := k) rfl rfl rfl (hold.rdb rfl) hk) rfl ?_
      refine s_q (q_load_ew (i := k) rfl (hold.rdb rfl) hget rfl) rfl ?_
      refine g_op (g_alloc rfl fun b8 => ?_)
      refine g_op (g_storew rfl rfl rfl rfl rfl ?_)
      refine g_nil ?_
      refine g_then ?_
      refine g_region ?_
      refine s_q (q_move rfl) rfl ?_
      refine s_q (q_move rfl) rfl ?_
      refine s_q (q_loadw rfl rfl) rfl ?_
      refine g_op (g_meth2 rfl (fun w h1 h2 hne => do_any _ _ _ _ hm ho w h1 h2 hne) (fun w hw => InL.ne (by rfl) hw) rfl ?_)
      refine g_nil ?_
      refine g_blk_n ?_
      refine g_then ?_
      refine g_region ?_
      refine s_q (q_inc rfl rfl (by omega)) rfl ?_
      refine s_q (q_move rfl) rfl ?_
      refine g_nil ?_
      exact g_again (k + 1, m.step l[k]) ⟨hk, step_ok hm _⟩ (by simp only; omega) (by repeat (first | exact trivial | refine ⟨rfl, ?_⟩)) (wok_pick [1, 2] rfl (by decide) rfl)
    · refine g_exit ?_
      refine g_then_x (g_then_x (g_blk_hit ?_))
      refine g_then ?_
      refine g_seq ?_
      refine g_region ?_
      refine s_q (q_move rfl) rfl ?_
      refine g_op (g_pure rfl (fun w hw => balance_any _ _ w (InL.sat (by infer_instance) hw)) rfl ?_)
      refine s_q (q_move rfl) rfl ?_
      refine g_op (g_pure rfl (fun w hw => spent_any _ _ w (InL.sat (by infer_instance) hw)) rfl ?_)
      refine s_q (q_move rfl) rfl ?_
      refine g_op (g_pure rfl (fun w hw => totals_any _ _ w (InL.sat (by infer_instance) hw)) rfl ?_)
      refine g_op (g_alloc rfl fun b11 => ?_)
      refine s_q (q_assign rfl) rfl ?_
      refine s_q (q_assign rfl) rfl ?_
      refine g_op (g_storew rfl rfl rfl rfl rfl ?_)
      refine g_nil ?_
      refine g_then ?_
      refine g_seq ?_
      refine g_seq ?_
      refine g_region ?_
      refine s_q (q_move rfl) rfl ?_
      refine s_q (q_move rfl) rfl ?_
      refine g_op (g_meth rfl (fun w hw => take_any _ _ _ w hw) rfl ?_)
      refine g_nil ?_
      refine g_then ?_
      refine g_cond rfl (fun h3 => ?_) (fun h3 => ?_)
      · have hb : ¬ m.bal < x := by simpa using h3
        refine g_seq ?_
        refine g_region ?_
        refine g_op (g_pure rfl (fun w hw => alive_any w) rfl ?_)
        refine s_q (q_move rfl) rfl ?_
        refine g_split 42 rfl (fun h4 => ?_) (fun h4 => ?_)
        · refine s_qg (q_move rfl) rfl rfl rfl ?_
          refine s_qg (q_move rfl) rfl rfl rfl ?_
          refine s_qg (q_leq rfl rfl) rfl rfl rfl ?_
          refine g_litb 45 (b := true) rfl (by simp; omega) ?_
          refine s_q (q_pick_t rfl rfl) rfl ?_
          refine s_q (q_move rfl) rfl ?_
          refine s_qg (q_move rfl) rfl rfl rfl ?_
          refine g_gt rfl rfl (g_pure rfl (fun w hw => balance_any _ _ w (InL.sat (by infer_instance) hw)) rfl ?_)
          refine s_qg (q_move rfl) rfl rfl rfl ?_
          refine s_qg (q_move rfl) rfl rfl rfl ?_
          refine s_qg (q_sub rfl rfl) rfl rfl rfl ?_
          refine s_qg (q_eql rfl rfl) rfl rfl rfl ?_
          refine g_litb 53 (b := true) rfl (by simpa using take_bal hm hx hb) ?_
          refine s_q (q_pick_t rfl rfl) rfl ?_
          refine s_q (q_move rfl) rfl ?_
          refine s_qg (q_move rfl) rfl rfl rfl ?_
          refine g_gt rfl rfl (g_pure rfl (fun w hw => spent_any _ _ w (InL.sat (by infer_instance) hw)) rfl ?_)
          refine s_qg (q_move rfl) rfl rfl rfl ?_
          refine s_qg (q_move rfl) rfl rfl rfl ?_
          refine s_qg (q_add rfl rfl) rfl rfl rfl ?_
          refine s_qg (q_eql rfl rfl) rfl rfl rfl ?_
          refine g_litb 61 (b := true) rfl (by simpa using take_spent hm hx hb) ?_
          refine s_q (q_pick_t rfl rfl) rfl ?_
          refine s_q (q_assign rfl) rfl ?_
          refine g_nil ?_
          refine g_then ?_
          refine g_ret ?_
          refine g_then_ret ?_
          exact fin1 rfl (.tmp rfl) (fun w' hw => ⟨by first | rfl | (simp_all; done), hw.upd⟩) _ (.inl rfl)
        · refine g_gf rfl rfl rfl rfl ?_
          refine g_gf rfl rfl rfl rfl ?_
          refine g_gf rfl rfl rfl rfl ?_
          refine s_q (q_pick_f rfl rfl) rfl ?_
          refine s_q (q_move rfl) rfl ?_
          refine g_gf rfl rfl rfl rfl ?_
          refine g_gf rfl rfl rfl rfl ?_
          refine g_gf rfl rfl rfl rfl ?_
          refine g_gf rfl rfl rfl rfl ?_
          refine g_gf rfl rfl rfl rfl ?_
          refine g_gf rfl rfl rfl rfl ?_
          refine s_q (q_pick_f rfl rfl) rfl ?_
          refine s_q (q_move rfl) rfl ?_
          refine g_gf rfl rfl rfl rfl ?_
          refine g_gf rfl rfl rfl rfl ?_
          refine g_gf rfl rfl rfl rfl ?_
          refine g_gf rfl rfl rfl rfl ?_
          refine g_gf rfl rfl rfl rfl ?_
          refine g_gf rfl rfl rfl rfl ?_
          refine s_q (q_pick_f rfl rfl) rfl ?_
          refine s_q (q_assign rfl) rfl ?_
          refine g_nil ?_
          refine g_then ?_
          refine g_ret ?_
          refine g_then_ret ?_
          exact fin1 rfl (.tmp rfl) (fun w' hw => ⟨by first | rfl | (simp_all; done), hw.upd⟩) _ (.inl rfl)
      · have hb : m.bal < x := by simpa using h3
        have et : m.take x = m := by unfold M.take; rw [if_pos hb]
        refine g_skip ?_
        refine g_then ?_
        refine g_seq ?_
        refine d_region [] mixed rfl rfl ?_
        refine d_op 0 rfl (by kernel_rfl) (ls' := #[true, false, false, false, false, false, false, false, false, false, false, false, false, false, false, false, false, false, false, false, false, false, false, false, false]) rfl wok_id (g_pure rfl (fun w hw => alive_any w) rfl ?_)
        refine d_q 1 rfl (by kernel_rfl) (q_move rfl) wok_id rfl (ls' := #[true, true, false, false, false, false, false, false, false, false, false, false, false, false, false, false, false, false, false, false, false, false, false, false, false]) rfl ?_
        refine g_split 64 rfl (fun h5 => ?_) (fun h5 => ?_)
        · refine d_qg 2 rfl (by kernel_rfl) (q_move rfl) rfl rfl wok_id rfl (ls' := #[true, true, true, false, false, false, false, false, false, false, false, false, false, false, false, false, false, false, false, false, false, false, false, false, false]) rfl ?_
          refine d_qg 3 rfl (by kernel_rfl) (q_move rfl) rfl rfl wok_id rfl (ls' := #[true, true, true, true, false, false, false, false, false, false, false, false, false, false, false, false, false, false, false, false, false, false, false, false, false]) rfl ?_
          refine d_qg 4 rfl (by kernel_rfl) (q_gtr rfl rfl) rfl rfl wok_id rfl (ls' := #[true, true, true, true, true, false, false, false, false, false, false, false, false, false, false, false, false, false, false, false, false, false, false, false, false]) rfl ?_
          refine g_litb 67 (b := true) rfl (by simpa using hb) ?_
          refine d_q 5 rfl (by kernel_rfl) (q_pick_t rfl rfl) wok_id rfl (ls' := #[true, true, true, true, true, true, false, false, false, false, false, false, false, false, false, false, false, false, false, false, false, false, false, false, false]) rfl ?_
          refine d_q 6 rfl (by kernel_rfl) (q_move rfl) wok_id rfl (ls' := #[true, true, true, true, true, true, true, false, false, false, false, false, false, false, false, false, false, false, false, false, false, false, false, false, false]) rfl ?_
          refine d_qg 7 rfl (by kernel_rfl) (q_move rfl) rfl rfl wok_id rfl (ls' := #[true, true, true, true, true, true, true, true, false, false, false, false, false, false, false, false, false, false, false, false, false, false, false, false, false]) rfl ?_
          refine d_qg 9 rfl (by kernel_rfl) (q_move rfl) rfl rfl wok_id rfl (ls' := #[true, true, true, true, true, true, true, true, false, true, false, false, false, false, false, false, false, false, false, false, false, false, false, false, false]) rfl ?_
          refine d_opg 8 rfl (by kernel_rfl) (ls' := #[true, true, true, true, true, true, true, true, true, true, false, false, false, false, false, false, false, false, false, false, false, false, false, false, false]) rfl rfl rfl wok_id (g_pure rfl (fun w hw => balance_any _ _ w (InL.sat (by infer_instance) hw)) rfl ?_)
          refine d_qg 10 rfl (by kernel_rfl) (q_eql rfl rfl) rfl rfl wok_id rfl (ls' := #[true, true, true, true, true, true, true, true, true, true, true, false, false, false, false, false, false, false, false, false, false, false, false, false, false]) rfl ?_
          refine g_litb 73 (b := true) rfl (by rw [et]; simp) ?_
          refine d_q 11 rfl (by kernel_rfl) (q_pick_t rfl rfl) wok_id rfl (ls' := #[true, true, true, true, true, true, true, true, true, true, true, true, false, false, false, false, false, false, false, false, false, false, false, false, false]) rfl ?_
          refine d_q 12 rfl (by kernel_rfl) (q_move rfl) wok_id rfl (ls' := #[true, true, true, true, true, true, true, true, true, true, true, true, true, false, false, false, false, false, false, false, false, false, false, false, false]) rfl ?_
          refine d_qg 13 rfl (by kernel_rfl) (q_move rfl) rfl rfl wok_id rfl (ls' := #[true, true, true, true, true, true, true, true, true, true, true, true, true, true, false, false, false, false, false, false, false, false, false, false, false]) rfl ?_
          refine d_qg 15 rfl (by kernel_rfl) (q_move rfl) rfl rfl wok_id rfl (ls' := #[true, true, true, true, true, true, true, true, true, true, true, true, true, true, false, true, false, false, false, false, false, false, false, false, false]) rfl ?_
          refine d_opg 14 rfl (by kernel_rfl) (ls' := #[true, true, true, true, true, true, true, true, true, true, true, true, true, true, true, true, false, false, false, false, false, false, false, false, false]) rfl rfl rfl wok_id (g_pure rfl (fun w hw => spent_any _ _ w (InL.sat (by infer_instance) hw)) rfl ?_)
          refine d_qg 16 rfl (by kernel_rfl) (q_eql rfl rfl) rfl rfl wok_id rfl (ls' := #[true, true, true, true, true, true, true, true, true, true, true, true, true, true, true, true, true, false, false, false, false, false, false, false, false]) rfl ?_
          refine g_litb 79 (b := true) rfl (by rw [et]; simp) ?_
          refine d_q 17 rfl (by kernel_rfl) (q_pick_t rfl rfl) wok_id rfl (ls' := #[true, true, true, true, true, true, true, true, true, true, true, true, true, true, true, true, true, true, false, false, false, false, false, false, false]) rfl ?_
          refine d_q 18 rfl (by kernel_rfl) (q_move rfl) wok_id rfl (ls' := #[true, true, true, true, true, true, true, true, true, true, true, true, true, true, true, true, true, true, true, false, false, false, false, false, false]) rfl ?_
          refine d_qg 19 rfl (by kernel_rfl) (q_move rfl) rfl rfl wok_id rfl (ls' := #[true, true, true, true, true, true, true, true, true, true, true, true, true, true, true, true, true, true, true, true, false, false, false, false, false]) rfl ?_
          refine d_qg 21 rfl (by kernel_rfl) (q_loadw rfl rfl) rfl rfl wok_id rfl (ls' := #[true, true, true, true, true, true, true, true, true, true, true, true, true, true, true, true, true, true, true, true, false, true, false, false, false]) rfl ?_
          refine d_opg 20 rfl (by kernel_rfl) (ls' := #[true, true, true, true, true, true, true, true, true, true, true, true, true, true, true, true, true, true, true, true, true, true, false, false, false]) rfl rfl rfl wok_id (g_pure rfl (fun w hw => totals_any _ _ w (InL.sat (by infer_instance) hw)) rfl ?_)
          refine d_qg 22 rfl (by kernel_rfl) (q_eqs rfl rfl rfl) rfl rfl wok_id rfl (ls' := #[true, true, true, true, true, true, true, true, true, true, true, true, true, true, true, true, true, true, true, true, true, true, true, false, false]) rfl ?_
          refine g_litb 85 (b := true) rfl (by rw [et]; simp) ?_
          refine d_q 23 rfl (by kernel_rfl) (q_pick_t rfl rfl) wok_id rfl (ls' := #[true, true, true, true, true, true, true, true, true, true, true, true, true, true, true, true, true, true, true, true, true, true, true, true, false]) rfl ?_
          refine d_q 24 rfl (by kernel_rfl) (q_assign rfl) wok_id rfl (ls' := #[true, true, true, true, true, true, true, true, true, true, true, true, true, true, true, true, true, true, true, true, true, true, true, true, true]) rfl ?_
          refine d_end (by kernel_rfl) (.inr wok_id) ?_
          refine g_then ?_
          refine g_ret ?_
          exact fin1 rfl (.tmp rfl) (fun w' hw => ⟨by first | rfl | (simp_all; done), hw.upd⟩) _ (.inl rfl)
        · refine d_gf 2 rfl (by kernel_rfl) rfl rfl rfl wok_id rfl (ls' := #[true, true, true, false, false, false, false, false, false, false, false, false, false, false, false, false, false, false, false, false, false, false, false, false, false]) rfl ?_
          refine d_gf 3 rfl (by kernel_rfl) rfl rfl rfl wok_id rfl (ls' := #[true, true, true, true, false, false, false, false, false, false, false, false, false, false, false, false, false, false, false, false, false, false, false, false, false]) rfl ?_
          refine d_gf 4 rfl (by kernel_rfl) rfl rfl rfl wok_id rfl (ls' := #[true, true, true, true, true, false, false, false, false, false, false, false, false, false, false, false, false, false, false, false, false, false, false, false, false]) rfl ?_
          refine d_q 5 rfl (by kernel_rfl) (q_pick_f rfl rfl) wok_id rfl (ls' := #[true, true, true, true, true, true, false, false, false, false, false, false, false, false, false, false, false, false, false, false, false, false, false, false, false]) rfl ?_
          refine d_q 6 rfl (by kernel_rfl) (q_move rfl) wok_id rfl (ls' := #[true, true, true, true, true, true, true, false, false, false, false, false, false, false, false, false, false, false, false, false, false, false, false, false, false]) rfl ?_
          refine d_gf 7 rfl (by kernel_rfl) rfl rfl rfl wok_id rfl (ls' := #[true, true, true, true, true, true, true, true, false, false, false, false, false, false, false, false, false, false, false, false, false, false, false, false, false]) rfl ?_
          refine d_gf 8 rfl (by kernel_rfl) rfl rfl rfl wok_id rfl (ls' := #[true, true, true, true, true, true, true, true, true, false, false, false, false, false, false, false, false, false, false, false, false, false, false, false, false]) rfl ?_
          refine d_gf 9 rfl (by kernel_rfl) rfl rfl rfl wok_id rfl (ls' := #[true, true, true, true, true, true, true, true, true, true, false, false, false, false, false, false, false, false, false, false, false, false, false, false, false]) rfl ?_
          refine d_gf 10 rfl (by kernel_rfl) rfl rfl rfl wok_id rfl (ls' := #[true, true, true, true, true, true, true, true, true, true, true, false, false, false, false, false, false, false, false, false, false, false, false, false, false]) rfl ?_
          refine d_q 11 rfl (by kernel_rfl) (q_pick_f rfl rfl) wok_id rfl (ls' := #[true, true, true, true, true, true, true, true, true, true, true, true, false, false, false, false, false, false, false, false, false, false, false, false, false]) rfl ?_
          refine d_q 12 rfl (by kernel_rfl) (q_move rfl) wok_id rfl (ls' := #[true, true, true, true, true, true, true, true, true, true, true, true, true, false, false, false, false, false, false, false, false, false, false, false, false]) rfl ?_
          refine d_gf 13 rfl (by kernel_rfl) rfl rfl rfl wok_id rfl (ls' := #[true, true, true, true, true, true, true, true, true, true, true, true, true, true, false, false, false, false, false, false, false, false, false, false, false]) rfl ?_
          refine d_gf 14 rfl (by kernel_rfl) rfl rfl rfl wok_id rfl (ls' := #[true, true, true, true, true, true, true, true, true, true, true, true, true, true, true, false, false, false, false, false, false, false, false, false, false]) rfl ?_
          refine d_gf 15 rfl (by kernel_rfl) rfl rfl rfl wok_id rfl (ls' := #[true, true, true, true, true, true, true, true, true, true, true, true, true, true, true, true, false, false, false, false, false, false, false, false, false]) rfl ?_
          refine d_gf 16 rfl (by kernel_rfl) rfl rfl rfl wok_id rfl (ls' := #[true, true, true, true, true, true, true, true, true, true, true, true, true, true, true, true, true, false, false, false, false, false, false, false, false]) rfl ?_
          refine d_q 17 rfl (by kernel_rfl) (q_pick_f rfl rfl) wok_id rfl (ls' := #[true, true, true, true, true, true, true, true, true, true, true, true, true, true, true, true, true, true, false, false, false, false, false, false, false]) rfl ?_
          refine d_q 18 rfl (by kernel_rfl) (q_move rfl) wok_id rfl (ls' := #[true, true, true, true, true, true, true, true, true, true, true, true, true, true, true, true, true, true, true, false, false, false, false, false, false]) rfl ?_
          refine d_gf 19 rfl (by kernel_rfl) rfl rfl rfl wok_id rfl (ls' := #[true, true, true, true, true, true, true, true, true, true, true, true, true, true, true, true, true, true, true, true, false, false, false, false, false]) rfl ?_
          refine d_gf 20 rfl (by kernel_rfl) rfl rfl rfl wok_id rfl (ls' := #[true, true, true, true, true, true, true, true, true, true, true, true, true, true, true, true, true, true, true, true, true, false, false, false, false]) rfl ?_
          refine d_gf 21 rfl (by kernel_rfl) rfl rfl rfl wok_id rfl (ls' := #[true, true, true, true, true, true, true, true, true, true, true, true, true, true, true, true, true, true, true, true, true, true, false, false, false]) rfl ?_
          refine d_gf 22 rfl (by kernel_rfl) rfl rfl rfl wok_id rfl (ls' := #[true, true, true, true, true, true, true, true, true, true, true, true, true, true, true, true, true, true, true, true, true, true, true, false, false]) rfl ?_
          refine d_q 23 rfl (by kernel_rfl) (q_pick_f rfl rfl) wok_id rfl (ls' := #[true, true, true, true, true, true, true, true, true, true, true, true, true, true, true, true, true, true, true, true, true, true, true, true, false]) rfl ?_
          refine d_q 24 rfl (by kernel_rfl) (q_assign rfl) wok_id rfl (ls' := #[true, true, true, true, true, true, true, true, true, true, true, true, true, true, true, true, true, true, true, true, true, true, true, true, true]) rfl ?_
          refine d_end (by kernel_rfl) (.inr wok_id) ?_
          refine g_then ?_
          refine g_ret ?_
          exact fin1 rfl (.tmp rfl) (fun w' hw => ⟨by first | rfl | (simp_all; done), hw.upd⟩) _ (.inl rfl)

theorem main_rejects (v0 v1 : Value) (W : World) (a0 : Arg Try.prog W 35 v0) (a1 : Arg Try.prog W 27 v1) : Pur Try.prog 7 [v0, v1] W (.bool true) := by
  obtain ⟨A, cap, l, rfl, hle, hm, hold, hok⟩ := Arg.slice O.c O.ok Try.underlying35 (show Try.prog.cellsOf 40 = 2 by kernel_rfl) (by omega) openO a0
  obtain ⟨x, rfl, hx⟩ := Arg.int Try.underlying27 a1
  exact law_rejects A cap l hm hle hok x hx.1 W hold

namespace LawMeterRejects
open Go.ChangeShapes Go.WideShapes Go.ChangeAt Go.RowKit Go.Eg
set_option linter.unusedVariables false
theorem own : ownKnob Try.prog.godebug = none := by kernel_rfl
theorem laidOut : laidOutB Try.prog = true := by kernel_rfl
set_option maxRecDepth 100000 in
theorem lifted (os : Os) (started : os.Started) (H : Type) (enc : TypeId × Value → H) :
    ReturnsInHanded {} Try.checked os 7 .any (Rows.meterRejectsSpec.pre6 enc Try.prog Try.f7 Rows.meterRejectsRow.domain false) (Rows.meterRejectsSpec.post enc Try.prog Try.f7 false true false false) := by
  refine returnsInHanded_of_change (C := Try.checked) own started (by kernel_rfl) Try.func7
    (ChangeSpec.witness6 (enc := enc) (C := Try.checked) false ⟨#[], #[.slice none 0 0, .int .u64 0], []⟩ 8 (by kernel_rfl) (by kernel_rfl) (by kernel_rfl) (by kernel_rfl)) ?_
  intro W base args ds gs before hval0 hW hcnd _
  have hval : ∀ (j : Nat) t v, Try.f7.params[j]? = some t → args[j]? = some v → Value.okWide Try.prog W .any base t v := hval0
  have hW' := hW
  obtain ⟨p, q, hA0, hV, rfl, hfz, hnd⟩ := hW
  have hA : DataW.TrodAll enc Try.prog W 0 (fun _ => true) true Try.f7.params.toList args.toList ds p := hA0
  rw [Try.params7] at hA hval
  obtain ⟨v0, vs0, d0, ds0, p0, q0, hargs, rfl, rfl, h0, r0⟩ := trodAll_cons hA
  obtain ⟨v1, vs1, d1, ds1, p1, q1, rfl, rfl, rfl, h1, r1⟩ := trodAll_cons r0
  obtain ⟨rfl, rfl, rfl⟩ := trodAll_nil r1
  obtain rfl : args = #[v0, v1] := by cases args; simp_all
  obtain ⟨rfl, rfl⟩ := trodVars_none hV
  have a0 := Arg.of h0 (hval 0 35 v0 rfl rfl)
  have lt0 : ∀ x ∈ p0, x.block < W.heap.size := by obtain ⟨m, hm⟩ := h0; exact DataW.trod_lt m _ _ _ hm
  have a1 := Arg.of h1 (hval 1 27 v1 rfl rfl)
  have lt1 : ∀ x ∈ p1, x.block < W.heap.size := by obtain ⟨m, hm⟩ := h1; exact DataW.trod_lt m _ _ _ hm
  clear hA0 hval0
  simp only [List.append_nil] at hW'
  refine Calls.mono (main_rejects v0 v1 W a0 a1) ?_
  rintro e W' ⟨v, rfl, rfl, hu⟩
  have bel := hu.below
  have targ := (trodAll_cons_mk (Below.trod laidOut (by kernel_rfl) (of_decide_eq_true (by kernel_rfl)) h0 bel lt0) (trodAll_cons_mk (Below.trod laidOut (by kernel_rfl) (of_decide_eq_true (by kernel_rfl)) h1 bel lt1) trodAll_mk0))
  simp only [List.append_nil] at targ
  exact ⟨_, rfl, _, _, _, [], _, [], hW', trodAll_mk1 (shut_bool Try.underlying4 _), targ, rfl, bel.frame _, fun h => by cases h⟩
theorem over : Rows.meterRejectsRow.holds Try.pinned (OpenSpec.ofChange Rows.meterRejectsSpec) :=
  OpenClaim.holds_of_wide 7 Try.f7 rfl rfl rfl rfl rfl rfl rfl ⟨rfl, rfl, rfl, rfl, rfl⟩ rfl rfl rfl rfl rfl (by kernel_rfl) Try.func7 (by kernel_rfl)
    (of_decide_eq_true (by kernel_rfl)) (by unfold Func.isWrapper; first | (rw [if_pos (by decide +kernel)]; kernel_rfl) | (rw [if_neg (by decide +kernel)]; exact ⟨rfl, rfl⟩))
    (fun os started H enc _ => lifted os started H enc)
theorem proved : Rows.MeterRejectsSaid := over
end LawMeterRejects
end Go.Proofs.Ythfcpbfnbdoakaa
