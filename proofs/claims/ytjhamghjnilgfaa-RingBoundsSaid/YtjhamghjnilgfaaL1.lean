/- RingBounds: for every size and every two lists the law returns true. No condition. -/
import Derived.Test.YtjhamghjnilgfaaW2
namespace Go.Proofs.Ytjhamghjnilgfaa
open Go.RowKit Go.Eg
set_option linter.unusedSimpArgs false
set_option linter.unusedVariables false
set_option maxHeartbeats 400000 in
theorem law_ringBounds (n : Nat) (A_a : Option Addr) (c_a : Nat) (a : List Int) (A_b : Option Addr) (c_b : Nat) (b : List Int) (w : World) (h_n : n < 256) (o_a : Old w A_a a.length 1 (a.map (fun v : Int => [Value.int .i64 v]))) (h_a : a.length ≤ c_a ∧ c_a ≤ 9223372036854775807) (k_a : ∀ x ∈ a, (fun x : Int => -9223372036854775808 ≤ x ∧ x ≤ 9223372036854775807) x) (o_b : Old w A_b b.length 1 (b.map (fun v : Int => [Value.int .i64 v]))) (h_b : b.length ≤ c_b ∧ c_b ≤ 9223372036854775807) (k_b : ∀ x ∈ b, (fun x : Int => -9223372036854775808 ≤ x ∧ x ≤ 9223372036854775807) x) : Pur Try.prog 3 [.int .u8 ((n : Nat) : Int), .slice A_a a.length c_a, .slice A_b b.length c_b] w (.bool true) := by
  refine g_start Try.func3 rfl 76 rfl (by simp) ([]) [] (WOK.start _ _) _ rfl ?_
  refine g_seq ?_
  refine g_region ?_
  refine s_q (q_assign rfl) rfl ?_
  refine g_nil ?_
  refine g_then ?_
  refine g_seq ?_
  refine g_seq ?_
  refine g_region ?_
  refine s_q (q_move rfl) rfl ?_
  refine s_q (q_len rfl) rfl ?_
  refine s_q (q_gtr rfl rfl) rfl ?_
  refine s_q (q_move rfl) rfl ?_
  refine g_split 14 rfl (fun h1 => ?_) (fun h1 => ?_)
  · refine g_gf rfl rfl rfl rfl ?_
    refine g_gf rfl rfl rfl rfl ?_
    refine g_gf rfl rfl rfl rfl ?_
    refine s_q (q_pick_t rfl rfl) rfl ?_
    refine g_nil ?_
    refine g_then ?_
    refine g_true rfl ?_
    refine g_seq ?_
    refine g_region ?_
    refine g_op (g_pure rfl (fun w1 hw1 => alive_any w1) rfl ?_)
    refine s_q (q_assign rfl) rfl ?_
    refine g_nil ?_
    refine g_then ?_
    refine g_ret ?_
    refine g_then_ret ?_
    exact fin1 rfl (.tmp rfl) (fun w' hw' => ⟨by first | rfl | (simp_all; done) | (simp_all; omega), hw'.upd⟩) _ (.inl rfl)
  · refine s_qg (q_move rfl) rfl rfl rfl ?_
    refine s_qg (q_len rfl) rfl rfl rfl ?_
    refine s_qg (q_gtr rfl rfl) rfl rfl rfl ?_
    refine s_q (q_pick_f rfl rfl) rfl ?_
    refine g_nil ?_
    refine g_then ?_
    refine g_cond rfl (fun h2 => ?_) (fun h2 => ?_)
    · refine g_seq ?_
      refine g_region ?_
      refine g_op (g_pure rfl (fun w1 hw1 => alive_any w1) rfl ?_)
      refine s_q (q_assign rfl) rfl ?_
      refine g_nil ?_
      refine g_then ?_
      refine g_ret ?_
      refine g_then_ret ?_
      exact fin1 rfl (.tmp rfl) (fun w' hw' => ⟨by first | rfl | (simp_all; done) | (simp_all; omega), hw'.upd⟩) _ (.inl rfl)
    · refine g_skip ?_
      refine g_then ?_
      refine g_seq ?_
      refine g_region ?_
      refine s_q (q_move rfl) rfl ?_
      refine s_q (q_convz (z := ((n : Nat) : Int)) rfl (wi64 (by omega) (by omega))) rfl ?_
      refine s_q (q_remn (a := n) (b := 40) rfl rfl (by first | omega | (simp; omega) | (simp_all; omega))) rfl ?_
      refine s_q (q_inc rfl rfl (by omega)) rfl ?_
      refine s_q (q_assign rfl) rfl ?_
      refine g_nil ?_
      refine g_then ?_
      refine g_seq ?_
      refine g_region ?_
      refine s_q (q_move rfl) rfl ?_
      refine g_op (g_ownS [] rfl (fun w1 hw1 ho1 => by have h7 := new_i (((n % 40) + 1)) w1 (by omega); exact h7) rfl ?_)
      rintro ⟨b25, g25⟩ ⟨r25, s25⟩
      refine ⟨_, _, inferInstance, inferInstance, ?_⟩
      simp only at r25 s25
      refine s_q (q_assign rfl) rfl ?_
      refine g_nil ?_
      refine g_then ?_
      refine g_seq ?_
      refine g_seq ?_
      refine g_region ?_
      refine s_q (q_move rfl) rfl ?_
      refine s_q (q_eqp (b := false) rfl rfl rfl) rfl ?_
      refine g_nil ?_
      refine g_then ?_
      refine g_false rfl ?_
      refine g_skip ?_
      refine g_then ?_
      refine g_seq ?_
      refine g_region ?_
      refine s_q (q_move rfl) rfl ?_
      refine s_q (q_move rfl) rfl ?_
      refine g_op (g_ownS [Res.blk b25 61 (Rg.c g25), Res.row (Rg.A g25) (Rg.s g25).length (Rg.cap g25) 3 1 (Rg.s g25)] rfl (fun w1 hw1 ho1 => by have h7 := push_i b25 g25 ([] : List Int) a A_a c_a w1 ho1 r25 (Rd.ofOld hw1 o_a (by omega) (by simp)) h_a.1; exact h7) rfl ?_)
      rintro g30 ⟨r30, s30⟩
      refine ⟨_, _, inferInstance, inferInstance, ?_⟩
      refine s_q (q_assign rfl) rfl ?_
      refine g_nil ?_
      refine g_then ?_
      refine g_seq ?_
      refine g_region ?_
      refine s_q (q_move rfl) rfl ?_
      refine s_q (q_move rfl) rfl ?_
      refine g_op (g_ownS [Res.blk b25 61 (Rg.c g30), Res.row (Rg.A g30) (Rg.s g30).length (Rg.cap g30) 3 1 (Rg.s g30)] rfl (fun w1 hw1 ho1 => by have h7 := push_i b25 g30 (([] : List Int) ++ (a : List Int).take (min (a : List Int).length (Rg.size g25 - (([] : List Int)).length))) b A_b c_b w1 ho1 r30 (Rd.ofOld hw1 o_b (by omega) (by simp)) h_b.1; exact h7) rfl ?_)
      rintro g33 ⟨r33, s33⟩
      refine ⟨_, _, inferInstance, inferInstance, ?_⟩
      refine s_q (q_assign rfl) rfl ?_
      refine g_nil ?_
      refine g_then ?_
      refine g_seq ?_
      refine g_region ?_
      refine g_op (g_pure rfl (fun w1 hw1 => alive_any w1) rfl ?_)
      refine s_q (q_move rfl) rfl ?_
      refine s_qg (q_move rfl) rfl rfl rfl ?_
      refine s_qg (q_move rfl) rfl rfl rfl ?_
      refine s_qg (q_move rfl) rfl rfl rfl ?_
      refine s_qg (q_len rfl) rfl rfl rfl ?_
      refine s_qg (q_minn (a := ((n % 40) + 1)) (b := a.length) rfl rfl) rfl rfl rfl ?_
      refine s_qg (q_eql rfl rfl) rfl rfl rfl ?_
      refine g_litb 41 (b := true) rfl (by first | (simp; done) | (simp; omega) | (simp_all; done) | (simp_all; omega)) ?_
      refine s_q (q_pick_t rfl rfl) rfl ?_
      refine s_q (q_move rfl) rfl ?_
      refine s_qg (q_move rfl) rfl rfl rfl ?_
      refine s_qg (q_move rfl) rfl rfl rfl ?_
      refine s_qg (q_move rfl) rfl rfl rfl ?_
      refine s_qg (q_subn (a := ((n % 40) + 1)) (b := (min (a : List Int).length (Rg.size g25 - (([] : List Int)).length))) rfl rfl (by first | omega | (simp; omega) | (simp_all; omega)) (by first | omega | (simp; omega) | (simp_all; omega))) rfl rfl rfl ?_
      refine s_qg (q_move rfl) rfl rfl rfl ?_
      refine s_qg (q_len rfl) rfl rfl rfl ?_
      refine s_qg (q_minn (a := (((n % 40) + 1) - (min (a : List Int).length (Rg.size g25 - (([] : List Int)).length)))) (b := b.length) rfl rfl) rfl rfl rfl ?_
      refine s_qg (q_eql rfl rfl) rfl rfl rfl ?_
      refine g_litb 51 (b := true) rfl (by first | (simp; done) | (simp; omega) | (simp_all; done) | (simp_all; omega)) ?_
      refine s_q (q_pick_t rfl rfl) rfl ?_
      refine s_q (q_move rfl) rfl ?_
      refine s_qg (q_move rfl) rfl rfl rfl ?_
      refine g_gt rfl rfl (g_keep [Res.blk b25 61 (Rg.c g33), Res.row (Rg.A g33) (Rg.s g33).length (Rg.cap g33) 3 1 (Rg.s g33)] rfl (fun w1 hw1 ho1 => by exact len_i b25 g33 ((([] : List Int) ++ (a : List Int).take (min (a : List Int).length (Rg.size g25 - (([] : List Int)).length))) ++ (b : List Int).take (min (b : List Int).length (Rg.size g30 - ((([] : List Int) ++ (a : List Int).take (min (a : List Int).length (Rg.size g25 - (([] : List Int)).length)))).length))) w1 ho1 r33) rfl ?_)
      refine s_qg (q_move rfl) rfl rfl rfl ?_
      refine s_qg (q_move rfl) rfl rfl rfl ?_
      refine s_qg (q_addn (a := (min (a : List Int).length (Rg.size g25 - (([] : List Int)).length))) (b := (min (b : List Int).length (Rg.size g30 - ((([] : List Int) ++ (a : List Int).take (min (a : List Int).length (Rg.size g25 - (([] : List Int)).length)))).length))) rfl rfl (by first | omega | (simp; omega) | (simp_all; omega))) rfl rfl rfl ?_
      refine s_qg (q_eql rfl rfl) rfl rfl rfl ?_
      refine g_litb 59 (b := true) rfl (by first | (simp; done) | (simp; omega) | (simp_all; done) | (simp_all; omega)) ?_
      refine s_q (q_pick_t rfl rfl) rfl ?_
      refine s_q (q_move rfl) rfl ?_
      refine s_qg (q_move rfl) rfl rfl rfl ?_
      refine g_gt rfl rfl (g_keep [Res.blk b25 61 (Rg.c g33), Res.row (Rg.A g33) (Rg.s g33).length (Rg.cap g33) 3 1 (Rg.s g33)] rfl (fun w1 hw1 ho1 => by exact free_i b25 g33 ((([] : List Int) ++ (a : List Int).take (min (a : List Int).length (Rg.size g25 - (([] : List Int)).length))) ++ (b : List Int).take (min (b : List Int).length (Rg.size g30 - ((([] : List Int) ++ (a : List Int).take (min (a : List Int).length (Rg.size g25 - (([] : List Int)).length)))).length))) w1 ho1 r33) rfl ?_)
      refine s_qg (q_move rfl) rfl rfl rfl ?_
      refine s_qg (q_move rfl) rfl rfl rfl ?_
      refine s_qg (q_subn (a := ((n % 40) + 1)) (b := (min (a : List Int).length (Rg.size g25 - (([] : List Int)).length))) rfl rfl (by first | omega | (simp; omega) | (simp_all; omega)) (by first | omega | (simp; omega) | (simp_all; omega))) rfl rfl rfl ?_
      refine s_qg (q_move rfl) rfl rfl rfl ?_
      refine s_qg (q_subn (a := (((n % 40) + 1) - (min (a : List Int).length (Rg.size g25 - (([] : List Int)).length)))) (b := (min (b : List Int).length (Rg.size g30 - ((([] : List Int) ++ (a : List Int).take (min (a : List Int).length (Rg.size g25 - (([] : List Int)).length)))).length))) rfl rfl (by first | omega | (simp; omega) | (simp_all; omega)) (by first | omega | (simp; omega) | (simp_all; omega))) rfl rfl rfl ?_
      refine s_qg (q_eql rfl rfl) rfl rfl rfl ?_
      refine g_litb 69 (b := true) rfl (by first | (simp; done) | (simp; omega) | (simp_all; done) | (simp_all; omega)) ?_
      refine s_q (q_pick_t rfl rfl) rfl ?_
      refine s_q (q_move rfl) rfl ?_
      refine s_qg (q_move rfl) rfl rfl rfl ?_
      refine g_gt rfl rfl (g_ownS [Res.blk b25 61 (Rg.c g33), Res.row (Rg.A g33) (Rg.s g33).length (Rg.cap g33) 3 1 (Rg.s g33)] rfl (fun w1 hw1 ho1 => by have h7 := push_i b25 g33 ((([] : List Int) ++ (a : List Int).take (min (a : List Int).length (Rg.size g25 - (([] : List Int)).length))) ++ (b : List Int).take (min (b : List Int).length (Rg.size g30 - ((([] : List Int) ++ (a : List Int).take (min (a : List Int).length (Rg.size g25 - (([] : List Int)).length)))).length))) [] none 0 w1 ho1 r33 Rd.zero (by simp); exact h7) rfl ?_)
      rintro g73 ⟨r73, s73⟩
      refine ⟨_, _, inferInstance, inferInstance, ?_⟩
      refine s_qg (q_eql rfl rfl) rfl rfl rfl ?_
      refine g_litb 74 (b := true) rfl (by first | (simp; done) | (simp; omega) | (simp_all; done) | (simp_all; omega)) ?_
      refine s_q (q_pick_t rfl rfl) rfl ?_
      refine s_q (q_assign rfl) rfl ?_
      refine g_nil ?_
      refine g_then ?_
      refine g_ret ?_
      exact fin1 rfl (.tmp rfl) (fun w' hw' => ⟨by first | rfl | (simp_all; done) | (simp_all; omega), hw'.upd⟩) _ (.inl rfl)

theorem main_ringBounds (v0 : Value) (v1 : Value) (v2 : Value) (W : World) (a0 : Arg Try.prog W 5 v0) (a1 : Arg Try.prog W 22 v1) (a2 : Arg Try.prog W 22 v2) : Pur Try.prog 3 [v0, v1, v2] W (.bool true) := by
  obtain ⟨z0, rfl, hz0⟩ := Arg.int Try.underlying5 a0
  obtain ⟨n, rfl⟩ : ∃ q : Nat, z0 = q := ⟨z0.toNat, by have h0 : 0 ≤ z0 ∧ z0 ≤ 255 := hz0; omega⟩
  have h_n : n < 256 := by have h0 : 0 ≤ ((n : Nat) : Int) ∧ ((n : Nat) : Int) ≤ 255 := hz0; omega
  obtain ⟨A_a, c_a, a, rfl, hle1, hm1, o_a, k_a⟩ := Arg.slice (fun v : Int => [Value.int .i64 v]) (fun x : Int => -9223372036854775808 ≤ x ∧ x ≤ 9223372036854775807) Try.underlying22 (show Try.prog.cellsOf 3 = 1 by kernel_rfl) (by omega) (fun f cs h => OKc.int Try.underlying3 h) a1
  have h_a : a.length ≤ c_a ∧ c_a ≤ 9223372036854775807 := ⟨hle1, by unfold maxLen at hm1; omega⟩
  obtain ⟨A_b, c_b, b, rfl, hle2, hm2, o_b, k_b⟩ := Arg.slice (fun v : Int => [Value.int .i64 v]) (fun x : Int => -9223372036854775808 ≤ x ∧ x ≤ 9223372036854775807) Try.underlying22 (show Try.prog.cellsOf 3 = 1 by kernel_rfl) (by omega) (fun f cs h => OKc.int Try.underlying3 h) a2
  have h_b : b.length ≤ c_b ∧ c_b ≤ 9223372036854775807 := ⟨hle2, by unfold maxLen at hm2; omega⟩
  exact law_ringBounds n A_a c_a a A_b c_b b W h_n o_a h_a k_a o_b h_b k_b

namespace LawRingBounds
open Go.ChangeShapes Go.WideShapes Go.ChangeAt Go.RowKit Go.Eg
set_option linter.unusedVariables false
theorem own : ownKnob Try.prog.godebug = none := by kernel_rfl
theorem laidOut : laidOutB Try.prog = true := by kernel_rfl
set_option maxRecDepth 100000 in
theorem lifted (os : Os) (started : os.Started) (H : Type) (enc : TypeId × Value → H) :
    ReturnsInHanded {} Try.checked os 3 .any (Rows.ringBoundsSpec.pre6 enc Try.prog Try.f3 Rows.ringBoundsRow.domain false) (Rows.ringBoundsSpec.post enc Try.prog Try.f3 false true false false) := by
  refine returnsInHanded_of_change (C := Try.checked) own started (by kernel_rfl) Try.func3
    (ChangeSpec.witness6 (enc := enc) (C := Try.checked) false ⟨#[], #[.int .u8 0, .slice none 0 0, .slice none 0 0], []⟩ 8 (by kernel_rfl) (by kernel_rfl) (by kernel_rfl) (by kernel_rfl)) ?_
  intro W base args ds gs before hval0 hW hcnd _
  have hval : ∀ (j : Nat) t v, Try.f3.params[j]? = some t → args[j]? = some v → Value.okWide Try.prog W .any base t v := hval0
  have hW' := hW
  obtain ⟨p, q, hA0, hV, rfl, hfz, hnd⟩ := hW
  have hA : DataW.TrodAll enc Try.prog W 0 (fun _ => true) true Try.f3.params.toList args.toList ds p := hA0
  rw [Try.params3] at hA hval
  obtain ⟨v0, vs0, d0, ds0, p0, q0, hargs, rfl, rfl, h0, r0⟩ := trodAll_cons hA
  obtain ⟨v1, vs1, d1, ds1, p1, q1, rfl, rfl, rfl, h1, r1⟩ := trodAll_cons r0
  obtain ⟨v2, vs2, d2, ds2, p2, q2, rfl, rfl, rfl, h2, r2⟩ := trodAll_cons r1
  obtain ⟨rfl, rfl, rfl⟩ := trodAll_nil r2
  obtain rfl : args = #[v0, v1, v2] := by cases args; simp_all
  obtain ⟨rfl, rfl⟩ := trodVars_none hV
  have a0 := Arg.of h0 (hval 0 5 v0 rfl rfl)
  have lt0 : ∀ x ∈ p0, x.block < W.heap.size := by obtain ⟨m, hm⟩ := h0; exact DataW.trod_lt m _ _ _ hm
  have a1 := Arg.of h1 (hval 1 22 v1 rfl rfl)
  have lt1 : ∀ x ∈ p1, x.block < W.heap.size := by obtain ⟨m, hm⟩ := h1; exact DataW.trod_lt m _ _ _ hm
  have a2 := Arg.of h2 (hval 2 22 v2 rfl rfl)
  have lt2 : ∀ x ∈ p2, x.block < W.heap.size := by obtain ⟨m, hm⟩ := h2; exact DataW.trod_lt m _ _ _ hm
  clear hA0 hval0
  simp only [List.append_nil] at hW'
  refine Calls.mono (main_ringBounds v0 v1 v2 W a0 a1 a2) ?_
  rintro e W' ⟨v, rfl, rfl, hu⟩
  have bel := hu.below
  have targ := (trodAll_cons_mk (Below.trod laidOut (by kernel_rfl) (of_decide_eq_true (by kernel_rfl)) h0 bel lt0) (trodAll_cons_mk (Below.trod laidOut (by kernel_rfl) (of_decide_eq_true (by kernel_rfl)) h1 bel lt1) (trodAll_cons_mk (Below.trod laidOut (by kernel_rfl) (of_decide_eq_true (by kernel_rfl)) h2 bel lt2) trodAll_mk0)))
  simp only [List.append_nil] at targ
  exact ⟨_, rfl, _, _, _, [], _, [], hW', trodAll_mk1 (shut_bool Try.underlying4 _), targ, rfl, bel.frame _, fun h => by cases h⟩
theorem over : Rows.ringBoundsRow.holds Try.pinned (OpenSpec.ofChange Rows.ringBoundsSpec) :=
  OpenClaim.holds_of_wide 3 Try.f3 rfl rfl rfl rfl rfl rfl rfl ⟨rfl, rfl, rfl, rfl, rfl⟩ rfl rfl rfl rfl rfl (by kernel_rfl) Try.func3 (by kernel_rfl)
    (of_decide_eq_true (by kernel_rfl)) (by unfold Func.isWrapper; first | (rw [if_pos (by decide +kernel)]; kernel_rfl) | (rw [if_neg (by decide +kernel)]; exact ⟨rfl, rfl⟩))
    (fun os started H enc _ => lifted os started H enc)
theorem proved : Rows.RingBoundsSaid := over
end LawRingBounds
end Go.Proofs.Ytjhamghjnilgfaa
