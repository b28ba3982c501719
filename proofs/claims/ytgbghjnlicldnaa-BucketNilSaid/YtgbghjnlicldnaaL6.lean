/- BucketNil: for every epoch and item the law returns true. No condition. -/
import Derived.Test.YtgbghjnlicldnaaWB
namespace Go.Proofs.Ytgbghjnlicldnaa
open Go.RowKit Go.Eg
set_option synthInstance.maxSize 3000
set_option linter.unusedSimpArgs false
set_option linter.unusedVariables false
set_option maxRecDepth 100000
set_option maxHeartbeats 400000 in
theorem law_bucketNil (e : Int) (it : Int) (w : World) (h_e : -9223372036854775808 ≤ e ∧ e ≤ 9223372036854775807) (h_it : -9223372036854775808 ≤ it ∧ it ≤ 9223372036854775807) : Pur Try.prog 8 [.int .i64 e, .int .i64 it] w (.bool true) := by
  refine g_start Try.func8 rfl 78 rfl (by simp) ([]) [] (WOK.start _ _) _ rfl ?_
  refine g_seq ?_
  refine g_region ?_
  refine s_q (q_assign rfl) rfl ?_
  refine g_nil ?_
  refine g_then ?_
  refine g_seq ?_
  refine g_region ?_
  refine s_q (q_assign rfl) rfl ?_
  refine g_nil ?_
  refine g_then ?_
  refine g_seq ?_
  refine g_region ?_
  refine g_op (g_ownS [] rfl (fun w1 hw1 ho1 => by have h7 := bnew_any (3) w1 (by omega); exact h7) rfl ?_)
  rintro ⟨b10, g10⟩ ⟨r10, s10⟩
  refine ⟨_, _, inferInstance, inferInstance, ?_⟩
  simp only at r10 s10
  refine s_q (q_assign rfl) rfl ?_
  refine g_nil ?_
  refine g_then ?_
  refine g_seq ?_
  refine g_seq ?_
  refine g_region ?_
  refine s_q (q_move rfl) rfl ?_
  refine s_q (q_eqp (b := false) rfl rfl rfl) rfl ?_
  refine g_nil ?_
  refine g_then ?_
  refine g_false rfl ?_
  refine g_skip ?_
  refine g_then ?_
  refine g_seq ?_
  refine g_region ?_
  refine s_q (q_move rfl) rfl ?_
  refine s_q (q_move rfl) rfl ?_
  refine s_q (q_move rfl) rfl ?_
  refine g_op (g_ownS [Res.blk b10 57 [Value.slice (BR.A g10) (BR.bs g10).length (BR.cap g10), Value.int .i64 (BR.n g10)], Res.row (BR.A g10) (BR.bs g10).length (BR.cap g10) 47 1 ((BR.bs g10).map (fun k : Bk En => [k.v])), bks 50 2 En.c (BR.bs g10)] rfl (fun w1 hw1 ho1 => by have h7 := bput_any b10 g10 ([] : List En) (e) (it) w1 ho1 r10 (by simp); exact h7) rfl ?_)
  rintro g16 ⟨r16, s16⟩
  refine ⟨_, _, inferInstance, inferInstance, ?_⟩
  refine s_q (q_assign rfl) rfl ?_
  refine g_nil ?_
  refine g_then ?_
  refine g_seq ?_
  refine g_region ?_
  refine s_q (q_move rfl) rfl ?_
  refine g_op (g_ownS [] rfl (fun w1 hw1 ho1 => by have h7 := bnext_nil w1; exact h7) rfl ?_)
  rintro ⟨⟩ _
  refine ⟨_, _, inferInstance, inferInstance, ?_⟩
  refine s_q (q_move rfl) rfl ?_
  refine s_q (q_extract rfl rfl) rfl ?_
  refine s_q (q_extract rfl rfl) rfl ?_
  refine s_q (q_assign rfl) rfl ?_
  refine s_q (q_assign rfl) rfl ?_
  refine g_nil ?_
  refine g_then ?_
  refine g_seq ?_
  refine g_region ?_
  refine g_op (g_pure rfl (fun w1 hw1 => alive_any w1) rfl ?_)
  refine s_q (q_move rfl) rfl ?_
  refine s_qg (q_move rfl) rfl rfl rfl ?_
  refine s_qg (q_move rfl) rfl rfl rfl ?_
  refine s_qg (q_geq rfl rfl) rfl rfl rfl ?_
  refine s_qg (q_move rfl) rfl rfl rfl ?_
  refine g_split 27 rfl (fun h1 => ?_) (fun h1 => ?_)
  · have he0 : 0 ≤ e := by have h9 := of_decide_eq_true h1; omega
    refine s_qg (q_move rfl) rfl rfl rfl ?_
    refine s_qg (q_leq rfl rfl) rfl rfl rfl ?_
    refine s_qg (q_pick_t rfl rfl) rfl rfl rfl ?_
    refine s_qg (q_eql_bool (by kernel_rfl) rfl rfl) rfl rfl rfl ?_
    refine g_litb 31 (b := true) rfl (by unfold validE; simp [he0]) ?_
    refine s_q (q_pick_t rfl rfl) rfl ?_
    refine s_q (q_move rfl) rfl ?_
    refine s_qg (q_move rfl) rfl rfl rfl ?_
    refine g_gt rfl rfl (g_keep [Res.blk b10 57 [Value.slice (BR.A g16) (BR.bs g16).length (BR.cap g16), Value.int .i64 (BR.n g16)], Res.row (BR.A g16) (BR.bs g16).length (BR.cap g16) 47 1 ((BR.bs g16).map (fun k : Bk En => [k.v])), bks 50 2 En.c (BR.bs g16)] rfl (fun w1 hw1 ho1 => by exact blen_any b10 g16 (putE ([] : List En) e it) w1 ho1 r16) rfl ?_)
    refine s_qg (q_eql rfl rfl) rfl rfl rfl ?_
    refine s_qg (q_move rfl) rfl rfl rfl ?_
    refine s_qg (q_eql_bool (by kernel_rfl) rfl rfl) rfl rfl rfl ?_
    refine g_litb 38 (b := true) rfl (by unfold putE; by_cases hv : validE e = true <;> simp [hv]) ?_
    refine s_q (q_pick_t rfl rfl) rfl ?_
    refine s_q (q_move rfl) rfl ?_
    refine s_qg (q_move rfl) rfl rfl rfl ?_
    refine s_qg (q_move rfl) rfl rfl rfl ?_
    refine s_qg (q_move rfl) rfl rfl rfl ?_
    refine g_gt rfl rfl (g_pure rfl (fun w1 hw1 => bput_nil _ _ w1) rfl ?_)
    refine s_qg (q_not rfl) rfl rfl rfl ?_
    refine g_litb 45 (b := true) rfl (rfl) ?_
    refine s_q (q_pick_t rfl rfl) rfl ?_
    refine s_q (q_move rfl) rfl ?_
    refine s_qg (q_move rfl) rfl rfl rfl ?_
    refine s_qg (q_move rfl) rfl rfl rfl ?_
    refine g_gt rfl rfl (g_pure rfl (fun w1 hw1 => bdue_nil _ w1) rfl ?_)
    refine s_qg (q_len rfl) rfl rfl rfl ?_
    refine s_qg (q_eql rfl rfl) rfl rfl rfl ?_
    refine g_litb 52 (b := true) rfl (rfl) ?_
    refine s_q (q_pick_t rfl rfl) rfl ?_
    refine s_q (q_move rfl) rfl ?_
    refine s_qg (q_move rfl) rfl rfl rfl ?_
    refine g_gt rfl rfl (g_pure rfl (fun w1 hw1 => blen_nil w1) rfl ?_)
    refine s_qg (q_eql rfl rfl) rfl rfl rfl ?_
    refine g_litb 57 (b := true) rfl (rfl) ?_
    refine s_q (q_pick_t rfl rfl) rfl ?_
    refine s_q (q_move rfl) rfl ?_
    refine s_qg (q_move rfl) rfl rfl rfl ?_
    refine s_qg (q_eql rfl rfl) rfl rfl rfl ?_
    refine g_litb 61 (b := true) rfl (rfl) ?_
    refine s_q (q_pick_t rfl rfl) rfl ?_
    refine s_q (q_move rfl) rfl ?_
    refine s_qg (q_move rfl) rfl rfl rfl ?_
    refine s_qg (q_not rfl) rfl rfl rfl ?_
    refine g_litb 65 (b := true) rfl (rfl) ?_
    refine s_q (q_pick_t rfl rfl) rfl ?_
    refine s_q (q_move rfl) rfl ?_
    refine s_qg (q_move rfl) rfl rfl rfl ?_
    refine g_gt rfl rfl (g_pure rfl (fun w1 hw1 => bload_nil _ w1) rfl ?_)
    refine s_qg (q_eql rfl rfl) rfl rfl rfl ?_
    refine g_litb 70 (b := true) rfl (rfl) ?_
    refine s_q (q_pick_t rfl rfl) rfl ?_
    refine s_q (q_move rfl) rfl ?_
    refine s_qg (q_move rfl) rfl rfl rfl ?_
    refine g_gt rfl rfl (g_ownS [] rfl (fun w1 hw1 ho1 => by have h7 := ball_nil w1; exact h7) rfl ?_)
    rintro ⟨A74, cap74⟩ _
    refine ⟨_, _, inferInstance, inferInstance, ?_⟩
    refine s_qg (q_len rfl) rfl rfl rfl ?_
    refine s_qg (q_eql rfl rfl) rfl rfl rfl ?_
    refine g_litb 76 (b := true) rfl (rfl) ?_
    refine s_q (q_pick_t rfl rfl) rfl ?_
    refine s_q (q_assign rfl) rfl ?_
    refine g_nil ?_
    refine g_then ?_
    refine g_ret ?_
    exact fin1 rfl (.tmp rfl) (fun w' hw' => ⟨by first | rfl | (simp_all; done) | (simp_all; omega), hw'.upd⟩) _ (.inl rfl)
  · have he0 : ¬ 0 ≤ e := by have h9 := of_decide_eq_false h1; omega
    refine g_gf rfl rfl rfl rfl ?_
    refine g_gf rfl rfl rfl rfl ?_
    refine s_qg (q_pick_f rfl rfl) rfl rfl rfl ?_
    refine s_qg (q_eql_bool (by kernel_rfl) rfl rfl) rfl rfl rfl ?_
    refine g_litb 31 (b := true) rfl (by unfold validE; simp [he0]) ?_
    refine s_q (q_pick_t rfl rfl) rfl ?_
    refine s_q (q_move rfl) rfl ?_
    refine s_qg (q_move rfl) rfl rfl rfl ?_
    refine g_gt rfl rfl (g_keep [Res.blk b10 57 [Value.slice (BR.A g16) (BR.bs g16).length (BR.cap g16), Value.int .i64 (BR.n g16)], Res.row (BR.A g16) (BR.bs g16).length (BR.cap g16) 47 1 ((BR.bs g16).map (fun k : Bk En => [k.v])), bks 50 2 En.c (BR.bs g16)] rfl (fun w1 hw1 ho1 => by exact blen_any b10 g16 (putE ([] : List En) e it) w1 ho1 r16) rfl ?_)
    refine s_qg (q_eql rfl rfl) rfl rfl rfl ?_
    refine s_qg (q_move rfl) rfl rfl rfl ?_
    refine s_qg (q_eql_bool (by kernel_rfl) rfl rfl) rfl rfl rfl ?_
    refine g_litb 38 (b := true) rfl (by unfold putE; by_cases hv : validE e = true <;> simp [hv]) ?_
    refine s_q (q_pick_t rfl rfl) rfl ?_
    refine s_q (q_move rfl) rfl ?_
    refine s_qg (q_move rfl) rfl rfl rfl ?_
    refine s_qg (q_move rfl) rfl rfl rfl ?_
    refine s_qg (q_move rfl) rfl rfl rfl ?_
    refine g_gt rfl rfl (g_pure rfl (fun w1 hw1 => bput_nil _ _ w1) rfl ?_)
    refine s_qg (q_not rfl) rfl rfl rfl ?_
    refine g_litb 45 (b := true) rfl (rfl) ?_
    refine s_q (q_pick_t rfl rfl) rfl ?_
    refine s_q (q_move rfl) rfl ?_
    refine s_qg (q_move rfl) rfl rfl rfl ?_
    refine s_qg (q_move rfl) rfl rfl rfl ?_
    refine g_gt rfl rfl (g_pure rfl (fun w1 hw1 => bdue_nil _ w1) rfl ?_)
    refine s_qg (q_len rfl) rfl rfl rfl ?_
    refine s_qg (q_eql rfl rfl) rfl rfl rfl ?_
    refine g_litb 52 (b := true) rfl (rfl) ?_
    refine s_q (q_pick_t rfl rfl) rfl ?_
    refine s_q (q_move rfl) rfl ?_
    refine s_qg (q_move rfl) rfl rfl rfl ?_
    refine g_gt rfl rfl (g_pure rfl (fun w1 hw1 => blen_nil w1) rfl ?_)
    refine s_qg (q_eql rfl rfl) rfl rfl rfl ?_
    refine g_litb 57 (b := true) rfl (rfl) ?_
    refine s_q (q_pick_t rfl rfl) rfl ?_
    refine s_q (q_move rfl) rfl ?_
    refine s_qg (q_move rfl) rfl rfl rfl ?_
    refine s_qg (q_eql rfl rfl) rfl rfl rfl ?_
    refine g_litb 61 (b := true) rfl (rfl) ?_
    refine s_q (q_pick_t rfl rfl) rfl ?_
    refine s_q (q_move rfl) rfl ?_
    refine s_qg (q_move rfl) rfl rfl rfl ?_
    refine s_qg (q_not rfl) rfl rfl rfl ?_
    refine g_litb 65 (b := true) rfl (rfl) ?_
    refine s_q (q_pick_t rfl rfl) rfl ?_
    refine s_q (q_move rfl) rfl ?_
    refine s_qg (q_move rfl) rfl rfl rfl ?_
    refine g_gt rfl rfl (g_pure rfl (fun w1 hw1 => bload_nil _ w1) rfl ?_)
    refine s_qg (q_eql rfl rfl) rfl rfl rfl ?_
    refine g_litb 70 (b := true) rfl (rfl) ?_
    refine s_q (q_pick_t rfl rfl) rfl ?_
    refine s_q (q_move rfl) rfl ?_
    refine s_qg (q_move rfl) rfl rfl rfl ?_
    refine g_gt rfl rfl (g_ownS [] rfl (fun w1 hw1 ho1 => by have h7 := ball_nil w1; exact h7) rfl ?_)
    rintro ⟨A74, cap74⟩ _
    refine ⟨_, _, inferInstance, inferInstance, ?_⟩
    refine s_qg (q_len rfl) rfl rfl rfl ?_
    refine s_qg (q_eql rfl rfl) rfl rfl rfl ?_
    refine g_litb 76 (b := true) rfl (rfl) ?_
    refine s_q (q_pick_t rfl rfl) rfl ?_
    refine s_q (q_assign rfl) rfl ?_
    refine g_nil ?_
    refine g_then ?_
    refine g_ret ?_
    exact fin1 rfl (.tmp rfl) (fun w' hw' => ⟨by first | rfl | (simp_all; done) | (simp_all; omega), hw'.upd⟩) _ (.inl rfl)

theorem main_bucketNil (v0 : Value) (v1 : Value) (W : World) (a0 : Arg Try.prog W 3 v0) (a1 : Arg Try.prog W 3 v1) : Pur Try.prog 8 [v0, v1] W (.bool true) := by
  obtain ⟨e, rfl, h_e⟩ := Arg.int Try.underlying3 a0
  obtain ⟨it, rfl, h_it⟩ := Arg.int Try.underlying3 a1
  exact law_bucketNil e it W h_e h_it

namespace LawBucketNil
open Go.ChangeShapes Go.WideShapes Go.ChangeAt Go.RowKit Go.Eg
set_option linter.unusedVariables false
theorem own : ownKnob Try.prog.godebug = none := by kernel_rfl
theorem laidOut : laidOutB Try.prog = true := by kernel_rfl
set_option maxRecDepth 100000 in
theorem lifted (os : Os) (started : os.Started) (H : Type) (enc : TypeId × Value → H) :
    ReturnsInHanded {} Try.checked os 8 .any (Rows.bucketNilSpec.pre6 enc Try.prog Try.f8 Rows.bucketNilRow.domain false) (Rows.bucketNilSpec.post enc Try.prog Try.f8 false true false false) := by
  refine returnsInHanded_of_change (C := Try.checked) own started (by kernel_rfl) Try.func8
    (ChangeSpec.witness6 (enc := enc) (C := Try.checked) false ⟨#[], #[.int .i64 0, .int .i64 0], []⟩ 8 (by kernel_rfl) (by kernel_rfl) (by kernel_rfl) (by kernel_rfl)) ?_
  intro W base args ds gs before hval0 hW hcnd _
  have hval : ∀ (j : Nat) t v, Try.f8.params[j]? = some t → args[j]? = some v → Value.okWide Try.prog W .any base t v := hval0
  have hW' := hW
  obtain ⟨p, q, hA0, hV, rfl, hfz, hnd⟩ := hW
  have hA : DataW.TrodAll enc Try.prog W 0 (fun _ => true) true Try.f8.params.toList args.toList ds p := hA0
  rw [Try.params8] at hA hval
  obtain ⟨v0, vs0, d0, ds0, p0, q0, hargs, rfl, rfl, h0, r0⟩ := trodAll_cons hA
  obtain ⟨v1, vs1, d1, ds1, p1, q1, rfl, rfl, rfl, h1, r1⟩ := trodAll_cons r0
  obtain ⟨rfl, rfl, rfl⟩ := trodAll_nil r1
  obtain rfl : args = #[v0, v1] := by cases args; simp_all
  obtain ⟨rfl, rfl⟩ := trodVars_none hV
  have a0 := Arg.of h0 (hval 0 3 v0 rfl rfl)
  have lt0 : ∀ x ∈ p0, x.block < W.heap.size := by obtain ⟨m, hm⟩ := h0; exact DataW.trod_lt m _ _ _ hm
  have a1 := Arg.of h1 (hval 1 3 v1 rfl rfl)
  have lt1 : ∀ x ∈ p1, x.block < W.heap.size := by obtain ⟨m, hm⟩ := h1; exact DataW.trod_lt m _ _ _ hm
  clear hA0 hval0
  simp only [List.append_nil] at hW'
  refine Calls.mono (main_bucketNil v0 v1 W a0 a1) ?_
  rintro e W' ⟨v, rfl, rfl, hu⟩
  have bel := hu.below
  have targ := (trodAll_cons_mk (Below.trod laidOut (by kernel_rfl) (of_decide_eq_true (by kernel_rfl)) h0 bel lt0) (trodAll_cons_mk (Below.trod laidOut (by kernel_rfl) (of_decide_eq_true (by kernel_rfl)) h1 bel lt1) trodAll_mk0))
  simp only [List.append_nil] at targ
  exact ⟨_, rfl, _, _, _, [], _, [], hW', trodAll_mk1 (shut_bool Try.underlying4 _), targ, rfl, bel.frame _, fun h => by cases h⟩
theorem over : Rows.bucketNilRow.holds Try.pinned (OpenSpec.ofChange Rows.bucketNilSpec) :=
  OpenClaim.holds_of_wide 8 Try.f8 rfl rfl rfl rfl rfl rfl rfl ⟨rfl, rfl, rfl, rfl, rfl⟩ rfl rfl rfl rfl rfl (by kernel_rfl) Try.func8 (by kernel_rfl)
    (of_decide_eq_true (by kernel_rfl)) (by unfold Func.isWrapper; first | (rw [if_pos (by decide +kernel)]; kernel_rfl) | (rw [if_neg (by decide +kernel)]; exact ⟨rfl, rfl⟩))
    (fun os started H enc _ => lifted os started H enc)
theorem proved : Rows.BucketNilSaid := over
end LawBucketNil
end Go.Proofs.Ytgbghjnlicldnaa
