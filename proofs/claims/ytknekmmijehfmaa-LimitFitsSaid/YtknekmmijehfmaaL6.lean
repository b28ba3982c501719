/- LimitFits: for every limit and list of weights the law returns true. No condition. -/
import Derived.Test.YtknekmmijehfmaaW3
import Derived.Test.YtknekmmijehfmaaW4
import Derived.Test.YtknekmmijehfmaaJ
namespace Go.Proofs.Ytknekmmijehfmaa
open Go.RowKit Go.Eg
set_option linter.unusedSimpArgs false
set_option linter.unusedVariables false
theorem U1_len {l : List Int} : ∀ c ∈ l.map U1, c.length = 1 := fun c hc => by
  obtain ⟨x, _, rfl⟩ := List.mem_map.1 hc
  rfl
theorem spl_all : ∀ (l : List Int) (r : Int), 0 ≤ r → (∀ x ∈ l, 0 ≤ x) → (spl l r).1 ≤ l.length ∧ 0 ≤ (spl l r).2 ∧ (spl l r).2 ≤ r ∧ (l.take (spl l r).1).sum + (spl l r).2 = r ∧ ∀ x, l[(spl l r).1]? = some x → (spl l r).2 < x
  | [], r, h, _ => by simp [spl, h]
  | a :: l, r, h, hl => by
    have ha := hl a (by simp)
    by_cases hlt : r < a
    · rw [spl, if_pos hlt]; simp [h, hlt]
    · obtain ⟨h1, h2, h3, h4, h5⟩ := spl_all l (r - a) (by omega) fun x hx => hl x (by simp [hx])
      rw [spl, if_neg hlt]
      refine ⟨by simp only [List.length_cons]; omega, h2, by simp only; omega, by simp only [List.take_succ_cons, List.sum_cons]; omega, fun x hx => h5 x (by simpa using hx)⟩

theorem law_fits (A : Option Addr) (cap : Nat) (l : List Int) (r0 : Int) (hcap : l.length ≤ maxLen) (hr0 : 0 ≤ r0 ∧ r0 ≤ 18446744073709551615) (hok : ∀ x ∈ l, 0 ≤ x ∧ x ≤ 18446744073709551615) (w : World) (hold : Old w A l.length 1 (l.map U1)) (hlc : l.length ≤ cap) : Pur Try.prog 8 [.int .u64 r0, .slice A l.length cap] w (.bool true) := by
  refine g_start Try.func8 rfl 62 rfl (by simp) [] [] (WOK.start _ _) _ rfl ?_
  refine g_seq ?_
  refine g_region ?_
  refine s_q (q_assign rfl) rfl ?_
  refine g_nil ?_
  refine g_then ?_
  refine g_seq ?_
  refine g_seq ?_
  refine g_region ?_
  refine s_q (q_move rfl) rfl ?_
  refine s_q (q_len rfl) rfl ?_
  refine s_q (q_gtr rfl rfl) rfl ?_
  refine g_nil ?_
  refine g_then ?_
  refine g_cond rfl (fun h1 => ?_) (fun h1 => ?_)
  · refine g_seq ?_
    refine g_region ?_
    refine g_op (g_pure rfl (fun w hw => alive_any w) rfl ?_)
    refine g_litb 12 (b := true) rfl (rfl) ?_
    refine s_q (q_assign rfl) rfl ?_
    refine g_nil ?_
    refine g_then ?_
    refine g_ret ?_
    refine g_then_ret ?_
    exact fin1 rfl (.tmp rfl) (fun w' hw => ⟨by first | rfl | (simp_all; done), hw.upd⟩) _ (.inl rfl)
  · refine g_skip ?_
    refine g_then ?_
    refine g_seq ?_
    refine g_region ?_
    refine s_q (q_move rfl) rfl ?_
    refine s_q (q_move rfl) rfl ?_
    refine g_op (g_pure rfl (fun w hw => split_any A cap l r0 hcap hr0 hok w (Rdb.toOld (hold.rdb rfl) hw)) rfl ?_)
    refine s_q (q_move rfl) rfl ?_
    refine s_q (q_extract rfl rfl) rfl ?_
    refine s_q (q_extract rfl rfl) rfl ?_
    refine s_q (q_assign rfl) rfl ?_
    refine s_q (q_assign rfl) rfl ?_
    refine g_nil ?_
    refine g_then ?_
    refine g_seq ?_
    refine g_seq ?_
    refine g_region ?_
    obtain ⟨hs1, hs2, hs3, hs4, hs5⟩ := spl_all l r0 hr0.1 fun x hx => (hok x hx).1
    generalize spl l r0 = p at hs1 hs2 hs3 hs4 hs5
    obtain ⟨n, r⟩ := p
    simp only at hs1 hs2 hs3 hs4 hs5
    simp only
    have hl3 : l.length ≤ 1000 := by simp at h1; omega
    have hlok : ∀ v ∈ l.take n ++ [r], 0 ≤ v ∧ v ≤ 18446744073709551615 := fun v hv => by rcases List.mem_append.1 hv with h | h; exact hok v (List.mem_of_mem_take h); simp at h; omega
    have hsm : (l.take n ++ [r]).sum = r0 := by rw [sum_app]; simpa using hs4
    refine s_q (q_move rfl) rfl ?_
    refine s_q (q_lss rfl rfl) rfl ?_
    refine g_litb 20 (b := false) rfl (by simp only [decide_eq_false_iff_not]; omega) ?_
    refine s_q (q_move rfl) rfl ?_
    refine s_qg (q_move rfl) rfl rfl rfl ?_
    refine s_qg (q_move rfl) rfl rfl rfl ?_
    refine s_qg (q_len rfl) rfl rfl rfl ?_
    refine s_qg (q_gtr rfl rfl) rfl rfl rfl ?_
    refine g_litb 25 (b := false) rfl (by simp only [decide_eq_false_iff_not]; omega) ?_
    refine s_q (q_pick_f rfl rfl) rfl ?_
    refine g_nil ?_
    refine g_then ?_
    refine g_false rfl ?_
    refine g_skip ?_
    refine g_then ?_
    refine g_seq ?_
    refine g_region ?_
    refine g_op (g_lit (c := []) rfl rfl rfl rfl rfl fun b28 => ?_)
    refine g_norow (t := 28) (T := 22) (k := 1) rfl fun A0 cap0 hc0 => ?_
    refine s_q (q_move rfl) rfl ?_
    refine s_q (q_move rfl) rfl ?_
    refine s_q (q_slice_h (h := n) rfl rfl rfl (by omega)) rfl ?_
    refine g_op (g_append rfl rfl (news := (l.map U1).take n) (by simpa using (Rdb.sub (hold.rdb rfl) (l := 0) (h := n) (cap := cap) (Nat.zero_le _) hs1 hlc)) (fun c hc u hu => by obtain ⟨x, _, rfl⟩ := List.mem_map.1 (List.mem_of_mem_take hc); simp at hu; subst hu; rfl) (by omega) rfl fun A1 cap1 => ⟨_, inferInstance, ?_⟩)
    refine g_val 32 (v' := .slice A1 ((l.take n).map U1).length cap1) rfl (by simp; omega) ?_
    refine g_setL (L' := [Res.row A1 ((l.take n).map U1).length cap1 22 1 ((l.take n).map U1), Res.blk b28 22 []]) (by simp [List.map_take, Nat.min_eq_left hs1]) ?_
    refine s_q (q_move rfl) rfl ?_
    refine g_op (g_lit (c := [.int .u64 r]) rfl rfl rfl rfl rfl fun b34 => ?_)
    refine g_op (g_append rfl rfl (InL.rdb (els := [[.int .u64 r]]) rfl (by simp) rfl) (by simp [Value.oneCell']) (by simp; omega) rfl fun A2 cap2 => ⟨_, inferInstance, ?_⟩)
    refine g_val 35 (v' := .slice A2 ((l.take n ++ [r]).map U1).length cap2) rfl (by simp) ?_
    refine g_setL (L' := [Res.blk b34 22 [.int .u64 r], Res.row A2 ((l.take n ++ [r]).map U1).length cap2 22 1 ((l.take n ++ [r]).map U1), Res.blk b28 22 []]) (by simp) ?_
    refine g_op (g_pure rfl (fun w hw => add_any A2 cap2 _ (l.take n ++ [r]) (by simp) (by simp only [maxLen, List.length_append, List.length_take, List.length_singleton]; omega) hlok w (Rdb.toOld (InRow.rdb (els := (l.take n ++ [r]).map U1) rfl U1_len) hw)) rfl ?_)
    refine s_q (q_move rfl) rfl ?_
    refine s_q (q_extract rfl rfl) rfl ?_
    refine s_q (q_extract rfl rfl) rfl ?_
    refine g_litb 38 (b := true) rfl (by simp only [decide_eq_true_eq]; omega) ?_
    refine s_q (q_assign rfl) rfl ?_
    refine s_q (q_assign rfl) rfl ?_
    refine g_nil ?_
    refine g_then ?_
    refine g_seq ?_
    refine g_region ?_
    refine g_op (g_pure rfl (fun w hw => alive_any w) rfl ?_)
    refine g_litb 39 (b := true) rfl (rfl) ?_
    refine s_q (q_move rfl) rfl ?_
    refine s_qg (q_move rfl) rfl rfl rfl ?_
    refine s_q (q_pick_t rfl rfl) rfl ?_
    refine s_q (q_move rfl) rfl ?_
    refine s_qg (q_move rfl) rfl rfl rfl ?_
    refine s_qg (q_move rfl) rfl rfl rfl ?_
    refine s_qg (q_eql rfl rfl) rfl rfl rfl ?_
    refine g_litb 46 (b := true) rfl (by rw [if_pos (by omega), hsm]; simp) ?_
    refine s_q (q_pick_t rfl rfl) rfl ?_
    refine s_q (q_move rfl) rfl ?_
    refine s_qg (q_move rfl) rfl rfl rfl ?_
    refine s_qg (q_move rfl) rfl rfl rfl ?_
    refine s_qg (q_len rfl) rfl rfl rfl ?_
    refine s_qg (q_eql rfl rfl) rfl rfl rfl ?_
    refine s_qg (q_move rfl) rfl rfl rfl ?_
    refine g_split 53 rfl (fun h2 => ?_) (fun h2 => ?_)
    · refine g_gf rfl rfl rfl rfl ?_
      refine g_gf rfl rfl rfl rfl ?_
      refine g_gf rfl rfl rfl rfl ?_
      refine g_gf rfl rfl rfl rfl ?_
      refine g_gf rfl rfl rfl rfl ?_
      refine g_gf rfl rfl rfl rfl ?_
      refine s_qg (q_pick_t rfl rfl) rfl rfl rfl ?_
      refine s_q (q_pick_t rfl rfl) rfl ?_
      refine s_q (q_assign rfl) rfl ?_
      refine g_nil ?_
      refine g_then ?_
      refine g_ret ?_
      exact fin1 rfl (.tmp rfl) (fun w' hw => ⟨by first | rfl | (simp_all; done), hw.upd⟩) _ (.inl rfl)
    · have hk : n < l.length := by simp at h2; omega
      have hget : (l.map U1)[n]? = some [Value.int .u64 l[n]] := by simp [hk]
      have hgt := hs5 l[n] (by simp [hk])
      refine s_qg (q_move rfl) rfl rfl rfl ?_
      refine s_qg (q_move rfl) rfl rfl rfl ?_
      refine s_qg (q_index (i := n) rfl rfl rfl (hold.rdb rfl) hk) rfl rfl rfl ?_
      refine s_qg (q_load_el (i := n) (o := 0) rfl (hold.rdb rfl) hget rfl rfl) rfl rfl rfl ?_
      refine s_qg (q_move rfl) rfl rfl rfl ?_
      refine s_qg (q_gtr rfl rfl) rfl rfl rfl ?_
      refine g_litb 59 (b := true) rfl (by simp only [decide_eq_true_eq]; omega) ?_
      refine s_qg (q_pick_f rfl rfl) rfl rfl rfl ?_
      refine s_q (q_pick_t rfl rfl) rfl ?_
      refine s_q (q_assign rfl) rfl ?_
      refine g_nil ?_
      refine g_then ?_
      refine g_ret ?_
      exact fin1 rfl (.tmp rfl) (fun w' hw => ⟨by first | rfl | (simp_all; done), hw.upd⟩) _ (.inl rfl)

theorem main_fits (v0 v1 : Value) (W : World) (a0 : Arg Try.prog W 22 v0) (a1 : Arg Try.prog W 31 v1) : Pur Try.prog 8 [v0, v1] W (.bool true) := by
  obtain ⟨x, rfl, hx⟩ := Arg.int Try.underlying22 a0
  obtain ⟨A, cap, l, rfl, hle, hm, hold, hok⟩ := Arg.slice (fun x => [Value.int .u64 x]) (fun x => 0 ≤ x ∧ x ≤ 18446744073709551615) Try.underlying31 (show Try.prog.cellsOf 22 = 1 by kernel_rfl) (by omega) (fun f cs h => OKc.int Try.underlying22 h) a1
  exact law_fits A cap l x (Nat.le_trans hle hm) hx hok W hold hle

namespace LawLimitFits
open Go.ChangeShapes Go.WideShapes Go.ChangeAt Go.RowKit Go.Eg
set_option linter.unusedVariables false
theorem own : ownKnob Try.prog.godebug = none := by kernel_rfl
theorem laidOut : laidOutB Try.prog = true := by kernel_rfl
set_option maxRecDepth 100000 in
theorem lifted (os : Os) (started : os.Started) (H : Type) (enc : TypeId × Value → H) :
    ReturnsInHanded {} Try.checked os 8 .any (Rows.limitFitsSpec.pre6 enc Try.prog Try.f8 Rows.limitFitsRow.domain false) (Rows.limitFitsSpec.post enc Try.prog Try.f8 false true false false) := by
  refine returnsInHanded_of_change (C := Try.checked) own started (by kernel_rfl) Try.func8
    (ChangeSpec.witness6 (enc := enc) (C := Try.checked) false ⟨#[], #[.int .u64 0, .slice none 0 0], []⟩ 8 (by kernel_rfl) (by kernel_rfl) (by kernel_rfl) (by kernel_rfl)) ?_
  intro W base args ds gs before hval0 hW hcnd _
  have hval : ∀ (j : Nat) t v, Try.f8.params[j]? = some t → args[j]? = some v → Value.okWide Try.prog W .any base t v := hval0
  have hW' := hW
  obtain ⟨p, q, hA0, hV, rfl, hfz, hnd⟩ := hW
  have hA : DataW.TrodAll enc Try.prog W 0 (fun _ => true) true Try.f8.params.toList args.toList ds p := hA0
  rw [Try.params8] at hA hval
  obtain ⟨v0, vs0, d0, ds0, p0, q0, hargs, rfl, rfl, h0, r0⟩ := trodAll_cons hA
  obtain ⟨v1, vs1, d1, ds1, p1, q1, rfl, rfl, rfl, h1, r1⟩ := trodAll_cons r0
  obtain ⟨rfl, rfl, rfl⟩ := trodAll_nil r1
  obtain rfl : args = #[v0, v1] := by cases args; simp_all
  obtain ⟨rfl, rfl⟩ := trodVars_none hV
  have a0 := Arg.of h0 (hval 0 22 v0 rfl rfl)
  have lt0 : ∀ x ∈ p0, x.block < W.heap.size := by obtain ⟨m, hm⟩ := h0; exact DataW.trod_lt m _ _ _ hm
  have a1 := Arg.of h1 (hval 1 31 v1 rfl rfl)
  have lt1 : ∀ x ∈ p1, x.block < W.heap.size := by obtain ⟨m, hm⟩ := h1; exact DataW.trod_lt m _ _ _ hm
  clear hA0 hval0
  simp only [List.append_nil] at hW'
  refine Calls.mono (main_fits v0 v1 W a0 a1) ?_
  rintro e W' ⟨v, rfl, rfl, hu⟩
  have bel := hu.below
  have targ := (trodAll_cons_mk (Below.trod laidOut (by kernel_rfl) (of_decide_eq_true (by kernel_rfl)) h0 bel lt0) (trodAll_cons_mk (Below.trod laidOut (by kernel_rfl) (of_decide_eq_true (by kernel_rfl)) h1 bel lt1) trodAll_mk0))
  simp only [List.append_nil] at targ
  exact ⟨_, rfl, _, _, _, [], _, [], hW', trodAll_mk1 (shut_bool Try.underlying4 _), targ, rfl, bel.frame _, fun h => by cases h⟩
theorem over : Rows.limitFitsRow.holds Try.pinned (OpenSpec.ofChange Rows.limitFitsSpec) :=
  OpenClaim.holds_of_wide 8 Try.f8 rfl rfl rfl rfl rfl rfl rfl ⟨rfl, rfl, rfl, rfl, rfl⟩ rfl rfl rfl rfl rfl (by kernel_rfl) Try.func8 (by kernel_rfl)
    (of_decide_eq_true (by kernel_rfl)) (by unfold Func.isWrapper; first | (rw [if_pos (by decide +kernel)]; kernel_rfl) | (rw [if_neg (by decide +kernel)]; exact ⟨rfl, rfl⟩))
    (fun os started H enc _ => lifted os started H enc)
theorem proved : Rows.LimitFitsSaid := over
end LawLimitFits
end Go.Proofs.Ytknekmmijehfmaa
