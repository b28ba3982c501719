/- MeterCarries: for every limit and list of weights the law returns true. No condition. -/
import Derived.Test.YthfcpbfnbdoakaaW2
namespace Go.Proofs.Ythfcpbfnbdoakaa
open Go.RowKit Go.Eg
set_option linter.unusedSimpArgs false
set_option linter.unusedVariables false
theorem grant_eq {g s bf lim : Int} (hg : 0 ≤ g ∧ g ≤ 300 * 4294967295) (hs : 0 ≤ s ∧ s ≤ g) (hl : 0 ≤ lim ∧ lim ≤ 4294967295) (hb : 0 ≤ bf ∧ bf ≤ s) : (M.mk g s 0 bf).grant lim = M.mk (g + lim) s 0 s := by
  have e : U (g + min lim (U (18446744073709551615 - (M.mk g s 0 bf).bal))) = g + lim := by simp only [M.bal, U_eq]; omega
  simp only [M.grant, e]
theorem take_yes {g s bf x : Int} (hg : 0 ≤ g ∧ g ≤ 301 * 4294967295) (hs : 0 ≤ s ∧ s ≤ g) (hx : 0 ≤ x ∧ x ≤ 301 * 4294967295) (hb : x ≤ g - s) : (M.mk g s 0 bf).take x = M.mk g (s + x) 0 bf := by
  have e : U (s + x) = s + x := by simp only [U_eq]; omega
  unfold M.take
  rw [if_neg (by simp only [M.bal, U_eq]; omega), e]
theorem take_no {g s bf x : Int} (hg : 0 ≤ g ∧ g ≤ 301 * 4294967295) (hs : 0 ≤ s ∧ s ≤ g) (hx : 0 ≤ x ∧ x ≤ 301 * 4294967295) (hb : ¬ x ≤ g - s) : (M.mk g s 0 bf).take x = M.mk g s 0 bf := by
  unfold M.take
  rw [if_pos (by simp only [M.bal, U_eq]; omega)]

theorem law_carries (lim : Int) (hlim : 0 ≤ lim ∧ lim ≤ 4294967295) (A : Option Addr) (cap : Nat) (l : List Int) (hok : ∀ x ∈ l, 0 ≤ x ∧ x ≤ 65535) (hcap : cap ≤ maxLen) (hlc : l.length ≤ cap) (w : World) (hold : Old w A l.length 1 (l.map (fun x => [Value.int .u16 x]))) : Pur Try.prog 3 [.int .u32 lim, .slice A l.length cap] w (.bool true) := by
  unfold maxLen at hcap
  refine g_start Try.func3 rfl 71 rfl (by simp) [] [] (WOK.start _ _) _ rfl ?_
  refine g_seq ?_
  refine g_region ?_
  refine s_q (q_assign rfl) rfl ?_
  refine g_nil ?_
  refine g_then ?_
  refine g_seq ?_
  refine g_seq ?_
  refine g_region ?_
  refine s_q (q_move rfl) rfl ?_
  refine s_q (q_len rfl) rfl ?_
  refine s_q (q_gtr rfl rfl) rfl ?_
  refine g_nil ?_
  refine g_then ?_
  refine g_cond rfl (fun h1 => ?_) (fun h1 => ?_)
  · refine g_seq ?_
    refine g_region ?_
    refine g_op (g_pure rfl (fun w hw => alive_any w) rfl ?_)
    refine s_q (q_assign rfl) rfl ?_
    refine g_nil ?_
    refine g_then ?_
    refine g_ret ?_
    refine g_then_ret ?_
    exact fin1 rfl (.tmp rfl) (fun w' hw => ⟨by first | rfl | (simp_all; done), hw.upd⟩) _ (.inl rfl)
  · refine g_skip ?_
    refine g_then ?_
    refine g_seq ?_
    refine g_region ?_
    refine g_op (g_new rfl (fun w hw => new_any w) rfl fun bn14 => ?_)
    refine g_op (g_new rfl (fun w hw => new_any w) rfl fun bn15 => ?_)
    refine s_q (q_assign rfl) rfl ?_
    refine s_q (q_assign rfl) rfl ?_
    refine g_nil ?_
    refine g_then ?_
    refine g_seq ?_
    refine g_seq ?_
    refine g_region ?_
    refine s_q (q_move rfl) rfl ?_
    refine s_q (q_eqp (b := false) rfl rfl rfl) rfl ?_
    refine s_q (q_move rfl) rfl ?_
    refine s_qg (q_move rfl) rfl rfl rfl ?_
    refine s_qg (q_eqp (b := false) rfl rfl rfl) rfl rfl rfl ?_
    refine s_q (q_pick_f rfl rfl) rfl ?_
    refine g_nil ?_
    refine g_then ?_
    refine g_false rfl ?_
    refine g_skip ?_
    refine g_then ?_
    refine g_seq ?_
    refine g_region ?_
    refine s_q (q_assign rfl) rfl ?_
    refine g_nil ?_
    refine g_then ?_
    refine g_seq ?_
    refine g_seq ?_
    refine g_region ?_
    refine s_q (q_move rfl) rfl ?_
    refine s_q (q_len rfl) rfl ?_
    refine s_q (q_move rfl) rfl ?_
    refine g_nil ?_
    refine g_then ?_
    refine g_block ?_
    refine g_loopk [0, 1, 5, 6, 22, 23] (fun (x : Nat × Int × Int) => [(24, .int .i64 (x.1 : Int)), (7, .int .u64 x.2.1)]) (fun x => [Res.blk bn15 50 (M.mk ((x.1 : Int) * lim) 0 0 0).c, Res.blk bn14 50 (M.mk ((x.1 : Int) * lim) x.2.1 0 x.2.2).c]) (fun x => x.1 ≤ l.length ∧ 0 ≤ x.2.1 ∧ x.2.1 ≤ (x.1 : Int) * lim ∧ 0 ≤ x.2.2 ∧ x.2.2 ≤ x.2.1) (fun x => l.length - x.1) (0, 0, 0) ⟨Nat.zero_le _, by simp, by simp, by simp, by simp⟩ rfl ⟨rfl, rfl, trivial⟩ ?_ ?_
    · intro w hw; have e0 : M.mk (((0 : Nat) : Int) * lim) 0 0 0 = M0 := (by simp [M0]); simp only [e0]; exact hw
    rintro ⟨k, s, bf⟩ ⟨hk1, hs0, hs1, hbf0, hbf1⟩
    simp only at hk1 hs0 hs1 hbf0 hbf1
    simp only
    have hl3 : l.length ≤ 300 := (by simp at h1; omega)
    have hkl : (k : Int) * lim ≤ 300 * 4294967295 := Int.mul_le_mul (by omega) hlim.2 hlim.1 (by omega)
    have hkl0 : 0 ≤ (k : Int) * lim := Int.mul_nonneg (by omega) hlim.1
    have hk2 : ((k + 1 : Nat) : Int) * lim = (k : Int) * lim + lim := by rw [Int.natCast_add, Int.add_mul]; simp
    refine g_seq ?_
    refine g_region ?_
    refine s_q (q_lss rfl rfl) rfl ?_
    refine g_nil ?_
    refine g_then ?_
    refine g_seq ?_
    refine g_cond rfl (fun h2 => ?_) (fun h2 => ?_)
    · have hk : k < l.length := by simpa using h2
      have ho := hok _ (List.getElem_mem hk)
      have hget : (l.map (fun x => [Value.int .u16 x]))[k]? = some [Value.int .u16 l[k]] := by simp [hk]
      refine g_skip ?_
      refine g_then ?_
      refine g_seq ?_
      refine g_block ?_
      refine g_seq ?_
      refine g_region ?_
      refine s_q (q_index (i := k) rfl rfl rfl (hold.rdb rfl) hk) rfl ?_
      refine s_q (q_load_el (i := k) (o := 0) rfl (hold.rdb rfl) hget rfl rfl) rfl ?_
      refine s_q (q_assign rfl) rfl ?_
      refine g_nil ?_
      refine g_then ?_
      refine g_seq ?_
      refine g_region ?_
      refine s_q (q_move rfl) rfl ?_
      refine s_q (q_move rfl) rfl ?_
      refine s_q (q_convz rfl (wu64 (by omega) (by omega))) rfl ?_
      refine g_op (g_meth rfl (fun w hw => grant_any _ _ _ w hw) rfl ?_)
      refine g_setL (L' := [Res.blk bn15 50 (M.mk ((k : Int) * lim) 0 0 0).c, Res.blk bn14 50 (M.mk (((k + 1 : Nat) : Int) * lim) s 0 s).c]) (by rw [grant_eq (by omega) (by omega) (by omega) (by omega), hk2]) ?_
      refine g_nil ?_
      refine g_then ?_
      refine g_seq ?_
      refine g_region ?_
      refine s_q (q_move rfl) rfl ?_
      refine s_q (q_move rfl) rfl ?_
      refine s_q (q_convz rfl (wu64 (by omega) (by omega))) rfl ?_
      refine g_op (g_meth rfl (fun w hw => grant_any _ _ _ w hw) rfl ?_)
      refine g_setL (L' := [Res.blk bn15 50 (M.mk (((k + 1 : Nat) : Int) * lim) 0 0 0).c, Res.blk bn14 50 (M.mk (((k + 1 : Nat) : Int) * lim) s 0 s).c]) (by rw [grant_eq (by omega) (by omega) (by omega) (by omega), hk2]) ?_
      refine g_nil ?_
      refine g_then ?_
      refine g_seq ?_
      refine g_region ?_
      refine s_q (q_move rfl) rfl ?_
      refine s_q (q_move rfl) rfl ?_
      refine s_q (q_convz rfl (wu64 (by omega) (by omega))) rfl ?_
      refine g_op (g_meth rfl (fun w hw => take_any _ _ _ w hw) rfl ?_)
      refine g_nil ?_
      refine g_then ?_
      refine g_cond rfl (fun h3 => ?_) (fun h3 => ?_)
      · have hbal : l[k] ≤ ((k + 1 : Nat) : Int) * lim - s := by have h9 := h3; simp only [Bool.not_eq_true', decide_eq_false_iff_not, M.bal, U_eq] at h9; omega
        refine g_setL (L' := [Res.blk bn15 50 (M.mk (((k + 1 : Nat) : Int) * lim) 0 0 0).c, Res.blk bn14 50 (M.mk (((k + 1 : Nat) : Int) * lim) (s + l[k]) 0 s).c]) (by rw [take_yes (by omega) (by omega) (by omega) (by omega)]) ?_
        refine g_region ?_
        refine s_q (q_move rfl) rfl ?_
        refine s_q (q_move rfl) rfl ?_
        refine s_q (q_convz rfl (wu64 (by omega) (by omega))) rfl ?_
        refine s_q (q_addz rfl rfl (wu64 (by omega) (by omega))) rfl ?_
        refine s_q (q_assign rfl) rfl ?_
        refine g_nil ?_
        refine g_blk_n ?_
        refine g_then ?_
        refine g_region ?_
        refine s_q (q_inc rfl rfl (by omega)) rfl ?_
        refine s_q (q_move rfl) rfl ?_
        refine g_nil ?_
        first | exact g_again (k + 1, s + l[k], s) ⟨hk, by simp only; omega, by simp only; omega, hs0, by simp only; omega⟩ (by simp only; omega) (by repeat (first | exact trivial | refine ⟨rfl, ?_⟩)) wok_id | exact g_again (k + 1, s, s) ⟨hk, hs0, by simp only; omega, hs0, Int.le_refl _⟩ (by simp only; omega) (by repeat (first | exact trivial | refine ⟨rfl, ?_⟩)) wok_id
      · have hbal : ¬ l[k] ≤ ((k + 1 : Nat) : Int) * lim - s := by have h9 := h3; simp only [Bool.not_eq_false', decide_eq_true_eq, M.bal, U_eq] at h9; omega
        refine g_setL (L' := [Res.blk bn15 50 (M.mk (((k + 1 : Nat) : Int) * lim) 0 0 0).c, Res.blk bn14 50 (M.mk (((k + 1 : Nat) : Int) * lim) s 0 s).c]) (by rw [take_no (by omega) (by omega) (by omega) (by omega)]) ?_
        refine g_skip ?_
        refine g_blk_n ?_
        refine g_then ?_
        refine g_region ?_
        refine s_q (q_inc rfl rfl (by omega)) rfl ?_
        refine s_q (q_move rfl) rfl ?_
        refine g_nil ?_
        first | exact g_again (k + 1, s + l[k], s) ⟨hk, by simp only; omega, by simp only; omega, hs0, by simp only; omega⟩ (by simp only; omega) (by repeat (first | exact trivial | refine ⟨rfl, ?_⟩)) wok_id | exact g_again (k + 1, s, s) ⟨hk, hs0, by simp only; omega, hs0, Int.le_refl _⟩ (by simp only; omega) (by repeat (first | exact trivial | refine ⟨rfl, ?_⟩)) wok_id
    · have hkk : k = l.length := by simp at h2; omega
      refine g_exit ?_
      refine g_then_x (g_then_x (g_blk_hit ?_))
      refine g_then ?_
      refine g_seq ?_
      refine g_region ?_
      refine g_op (g_pure rfl (fun w hw => alive_any w) rfl ?_)
      refine s_q (q_move rfl) rfl ?_
      refine g_split 46 rfl (fun h4 => ?_) (fun h4 => ?_)
      · refine s_qg (q_move rfl) rfl rfl rfl ?_
        refine s_qg (q_move rfl) rfl rfl rfl ?_
        refine g_gt rfl rfl (g_meth rfl (fun w hw => take_any _ _ _ w hw) rfl ?_)
        refine g_litb 49 (b := true) rfl (by simp only [Bool.not_eq_true', decide_eq_false_iff_not, M.bal, U_eq]; omega) ?_
        refine s_q (q_pick_t rfl rfl) rfl ?_
        refine s_q (q_move rfl) rfl ?_
        refine s_qg (q_move rfl) rfl rfl rfl ?_
        refine g_gt rfl rfl (g_pure rfl (fun w hw => balance_any _ _ w (InL.sat (by infer_instance) hw)) rfl ?_)
        refine s_qg (q_move rfl) rfl rfl rfl ?_
        refine g_gt rfl rfl (g_pure rfl (fun w hw => balance_any _ _ w (InL.sat (by infer_instance) hw)) rfl ?_)
        refine s_qg (q_eql rfl rfl) rfl rfl rfl ?_
        refine g_litb 56 (b := true) rfl (by rw [take_yes (by omega) (by omega) (by omega) (by omega)]; simp only [decide_eq_true_eq, M.bal, U_eq]; omega) ?_
        refine s_q (q_pick_t rfl rfl) rfl ?_
        refine s_q (q_move rfl) rfl ?_
        refine s_qg (q_move rfl) rfl rfl rfl ?_
        refine g_gt rfl rfl (g_pure rfl (fun w hw => balance_any _ _ w (InL.sat (by infer_instance) hw)) rfl ?_)
        refine s_qg (q_move rfl) rfl rfl rfl ?_
        refine s_qg (q_convz rfl (wu64 (by omega) (by omega))) rfl rfl rfl ?_
        refine s_qg (q_move rfl) rfl rfl rfl ?_
        refine s_qg (q_len rfl) rfl rfl rfl ?_
        refine s_qg (q_convz rfl (wu64 (by omega) (by omega))) rfl rfl rfl ?_
        refine s_qg (q_mul rfl rfl) rfl rfl rfl ?_
        refine s_qg (q_move rfl) rfl rfl rfl ?_
        refine s_qg (q_sub rfl rfl) rfl rfl rfl ?_
        refine s_qg (q_eql rfl rfl) rfl rfl rfl ?_
        refine g_litb 69 (b := true) rfl (by have hcm : lim * (l.length : Int) = (k : Int) * lim := (by rw [hkk, Int.mul_comm]); simp only [decide_eq_true_eq, M.bal, U_eq, IntKind.wrap_u64, hcm]; omega) ?_
        refine s_q (q_pick_t rfl rfl) rfl ?_
        refine s_q (q_assign rfl) rfl ?_
        refine g_nil ?_
        refine g_then ?_
        refine g_ret ?_
        exact fin1 rfl (.tmp rfl) (fun w' hw => ⟨by first | rfl | (simp_all; done), hw.upd⟩) _ (.inl rfl)
      · refine g_gf rfl rfl rfl rfl ?_
        refine g_gf rfl rfl rfl rfl ?_
        refine g_gf rfl rfl rfl rfl ?_
        refine s_q (q_pick_f rfl rfl) rfl ?_
        refine s_q (q_move rfl) rfl ?_
        refine g_gf rfl rfl rfl rfl ?_
        refine g_gf rfl rfl rfl rfl ?_
        refine g_gf rfl rfl rfl rfl ?_
        refine g_gf rfl rfl rfl rfl ?_
        refine g_gf rfl rfl rfl rfl ?_
        refine s_q (q_pick_f rfl rfl) rfl ?_
        refine s_q (q_move rfl) rfl ?_
        refine g_gf rfl rfl rfl rfl ?_
        refine g_gf rfl rfl rfl rfl ?_
        refine g_gf rfl rfl rfl rfl ?_
        refine g_gf rfl rfl rfl rfl ?_
        refine g_gf rfl rfl rfl rfl ?_
        refine g_gf rfl rfl rfl rfl ?_
        refine g_gf rfl rfl rfl rfl ?_
        refine g_gf rfl rfl rfl rfl ?_
        refine g_gf rfl rfl rfl rfl ?_
        refine g_gf rfl rfl rfl rfl ?_
        refine g_gf rfl rfl rfl rfl ?_
        refine s_q (q_pick_f rfl rfl) rfl ?_
        refine s_q (q_assign rfl) rfl ?_
        refine g_nil ?_
        refine g_then ?_
        refine g_ret ?_
        exact fin1 rfl (.tmp rfl) (fun w' hw => ⟨by first | rfl | (simp_all; done), hw.upd⟩) _ (.inl rfl)

theorem main_carries (v0 v1 : Value) (W : World) (a0 : Arg Try.prog W 22 v0) (a1 : Arg Try.prog W 23 v1) : Pur Try.prog 3 [v0, v1] W (.bool true) := by
  obtain ⟨a, rfl, ha⟩ := Arg.int Try.underlying22 a0
  obtain ⟨A, cap, l, rfl, hle, hm, hold, hok⟩ := Arg.slice (fun x => [Value.int .u16 x]) (fun x => 0 ≤ x ∧ x ≤ 65535) Try.underlying23 (show Try.prog.cellsOf 28 = 1 by kernel_rfl) (by omega) (fun f cs h => OKc.int Try.underlying28 h) a1
  exact law_carries a ha A cap l hok hm hle W hold

namespace LawMeterCarries
open Go.ChangeShapes Go.WideShapes Go.ChangeAt Go.RowKit Go.Eg
set_option linter.unusedVariables false
theorem own : ownKnob Try.prog.godebug = none := by kernel_rfl
theorem laidOut : laidOutB Try.prog = true := by kernel_rfl
set_option maxRecDepth 100000 in
theorem lifted (os : Os) (started : os.Started) (H : Type) (enc : TypeId × Value → H) :
    ReturnsInHanded {} Try.checked os 3 .any (Rows.meterCarriesSpec.pre6 enc Try.prog Try.f3 Rows.meterCarriesRow.domain false) (Rows.meterCarriesSpec.post enc Try.prog Try.f3 false true false false) := by
  refine returnsInHanded_of_change (C := Try.checked) own started (by kernel_rfl) Try.func3
    (ChangeSpec.witness6 (enc := enc) (C := Try.checked) false ⟨#[], #[.int .u32 0, .slice none 0 0], []⟩ 8 (by kernel_rfl) (by kernel_rfl) (by kernel_rfl) (by kernel_rfl)) ?_
  intro W base args ds gs before hval0 hW hcnd _
  have hval : ∀ (j : Nat) t v, Try.f3.params[j]? = some t → args[j]? = some v → Value.okWide Try.prog W .any base t v := hval0
  have hW' := hW
  obtain ⟨p, q, hA0, hV, rfl, hfz, hnd⟩ := hW
  have hA : DataW.TrodAll enc Try.prog W 0 (fun _ => true) true Try.f3.params.toList args.toList ds p := hA0
  rw [Try.params3] at hA hval
  obtain ⟨v0, vs0, d0, ds0, p0, q0, hargs, rfl, rfl, h0, r0⟩ := trodAll_cons hA
  obtain ⟨v1, vs1, d1, ds1, p1, q1, rfl, rfl, rfl, h1, r1⟩ := trodAll_cons r0
  obtain ⟨rfl, rfl, rfl⟩ := trodAll_nil r1
  obtain rfl : args = #[v0, v1] := by cases args; simp_all
  obtain ⟨rfl, rfl⟩ := trodVars_none hV
  have a0 := Arg.of h0 (hval 0 22 v0 rfl rfl)
  have lt0 : ∀ x ∈ p0, x.block < W.heap.size := by obtain ⟨m, hm⟩ := h0; exact DataW.trod_lt m _ _ _ hm
  have a1 := Arg.of h1 (hval 1 23 v1 rfl rfl)
  have lt1 : ∀ x ∈ p1, x.block < W.heap.size := by obtain ⟨m, hm⟩ := h1; exact DataW.trod_lt m _ _ _ hm
  clear hA0 hval0
  simp only [List.append_nil] at hW'
  refine Calls.mono (main_carries v0 v1 W a0 a1) ?_
  rintro e W' ⟨v, rfl, rfl, hu⟩
  have bel := hu.below
  have targ := (trodAll_cons_mk (Below.trod laidOut (by kernel_rfl) (of_decide_eq_true (by kernel_rfl)) h0 bel lt0) (trodAll_cons_mk (Below.trod laidOut (by kernel_rfl) (of_decide_eq_true (by kernel_rfl)) h1 bel lt1) trodAll_mk0))
  simp only [List.append_nil] at targ
  exact ⟨_, rfl, _, _, _, [], _, [], hW', trodAll_mk1 (shut_bool Try.underlying4 _), targ, rfl, bel.frame _, fun h => by cases h⟩
theorem over : Rows.meterCarriesRow.holds Try.pinned (OpenSpec.ofChange Rows.meterCarriesSpec) :=
  OpenClaim.holds_of_wide 3 Try.f3 rfl rfl rfl rfl rfl rfl rfl ⟨rfl, rfl, rfl, rfl, rfl⟩ rfl rfl rfl rfl rfl (by kernel_rfl) Try.func3 (by kernel_rfl)
    (of_decide_eq_true (by kernel_rfl)) (by unfold Func.isWrapper; first | (rw [if_pos (by decide +kernel)]; kernel_rfl) | (rw [if_neg (by decide +kernel)]; exact ⟨rfl, rfl⟩))
    (fun os started H enc _ => lifted os started H enc)
theorem proved : Rows.MeterCarriesSaid := over
end LawMeterCarries
end Go.Proofs.Ythfcpbfnbdoakaa
