/- ActivateTrue: for every queue, limit and list of weights the law returns true. No condition. -/
import Derived.Test.YtjfncbgggfammaaWE
namespace Go.Proofs.Ytjfncbgggfammaa
open Go.RowKit Go.Eg
set_option synthInstance.maxSize 3000
set_option linter.unusedSimpArgs false
set_option linter.unusedVariables false
set_option maxRecDepth 100000
set_option maxHeartbeats 400000 in
theorem law_activateTrue (A_l : Option Addr) (c_l : Nat) (l : List Int) (lim : Int) (A_ws : Option Addr) (c_ws : Nat) (ws : List Int) (w : World) (o_l : Old w A_l l.length 1 (l.map (fun v : Int => [Value.int .i64 v]))) (h_l : l.length ≤ c_l ∧ c_l ≤ 9223372036854775807) (k_l : ∀ x ∈ l, (fun x : Int => -9223372036854775808 ≤ x ∧ x ≤ 9223372036854775807) x) (h_lim : 0 ≤ lim ∧ lim ≤ 18446744073709551615) (o_ws : Old w A_ws ws.length 1 (ws.map (fun v : Int => [Value.int .u64 v]))) (h_ws : ws.length ≤ c_ws ∧ c_ws ≤ 9223372036854775807) (k_ws : ∀ x ∈ ws, (fun x : Int => 0 ≤ x ∧ x ≤ 18446744073709551615) x) : Pur Try.prog 7 [.slice A_l l.length c_l, .int .u64 lim, .slice A_ws ws.length c_ws] w (.bool true) := by
  refine g_start Try.func7 rfl 81 rfl (by simp) ([]) [] (WOK.start _ _) _ rfl ?_
  refine g_seq ?_
  refine g_region ?_
  refine s_q (q_assign rfl) rfl ?_
  refine g_nil ?_
  refine g_then ?_
  refine g_seq ?_
  refine g_seq ?_
  refine g_region ?_
  refine s_q (q_move rfl) rfl ?_
  refine s_q (q_len rfl) rfl ?_
  refine s_q (q_gtr rfl rfl) rfl ?_
  refine s_q (q_move rfl) rfl ?_
  refine g_split 12 rfl (fun h1 => ?_) (fun h1 => ?_)
  · refine g_gf rfl rfl rfl rfl ?_
    refine g_gf rfl rfl rfl rfl ?_
    refine g_gf rfl rfl rfl rfl ?_
    refine s_q (q_pick_t rfl rfl) rfl ?_
    refine s_q (q_move rfl) rfl ?_
    refine g_gf rfl rfl rfl rfl ?_
    refine g_gf rfl rfl rfl rfl ?_
    refine g_gf rfl rfl rfl rfl ?_
    refine s_q (q_pick_t rfl rfl) rfl ?_
    refine g_nil ?_
    refine g_then ?_
    refine g_true rfl ?_
    refine g_seq ?_
    refine g_region ?_
    refine g_op (g_pure rfl (fun w1 hw1 => alive_any w1) rfl ?_)
    refine s_q (q_assign rfl) rfl ?_
    refine g_nil ?_
    refine g_then ?_
    refine g_ret ?_
    refine g_then_ret ?_
    exact fin1 rfl (.tmp rfl) (fun w' hw' => ⟨by first | rfl | (simp_all; done) | (simp_all; omega), hw'.upd⟩) _ (.inl rfl)
  · have hn40 : l.length ≤ 40 := by have h9 := of_decide_eq_false h1; omega
    refine s_qg (q_move rfl) rfl rfl rfl ?_
    refine s_qg (q_len rfl) rfl rfl rfl ?_
    refine s_qg (q_gtr rfl rfl) rfl rfl rfl ?_
    refine s_q (q_pick_f rfl rfl) rfl ?_
    refine s_q (q_move rfl) rfl ?_
    refine g_split 17 rfl (fun h2 => ?_) (fun h2 => ?_)
    · refine g_gf rfl rfl rfl rfl ?_
      refine g_gf rfl rfl rfl rfl ?_
      refine g_gf rfl rfl rfl rfl ?_
      refine s_q (q_pick_t rfl rfl) rfl ?_
      refine g_nil ?_
      refine g_then ?_
      refine g_true rfl ?_
      refine g_seq ?_
      refine g_region ?_
      refine g_op (g_pure rfl (fun w1 hw1 => alive_any w1) rfl ?_)
      refine s_q (q_assign rfl) rfl ?_
      refine g_nil ?_
      refine g_then ?_
      refine g_ret ?_
      refine g_then_ret ?_
      exact fin1 rfl (.tmp rfl) (fun w' hw' => ⟨by first | rfl | (simp_all; done) | (simp_all; omega), hw'.upd⟩) _ (.inl rfl)
    · refine s_qg (q_move rfl) rfl rfl rfl ?_
      refine s_qg (q_len rfl) rfl rfl rfl ?_
      refine s_qg (q_eql rfl rfl) rfl rfl rfl ?_
      refine s_q (q_pick_f rfl rfl) rfl ?_
      refine g_nil ?_
      refine g_then ?_
      refine g_cond rfl (fun h3 => ?_) (fun h3 => ?_)
      · refine g_seq ?_
        refine g_region ?_
        refine g_op (g_pure rfl (fun w1 hw1 => alive_any w1) rfl ?_)
        refine s_q (q_assign rfl) rfl ?_
        refine g_nil ?_
        refine g_then ?_
        refine g_ret ?_
        refine g_then_ret ?_
        exact fin1 rfl (.tmp rfl) (fun w' hw' => ⟨by first | rfl | (simp_all; done) | (simp_all; omega), hw'.upd⟩) _ (.inl rfl)
      · have hw0 : 0 < ws.length := by have h9 := of_decide_eq_false h3; omega
        refine g_skip ?_
        refine g_then ?_
        refine g_seq ?_
        refine g_region ?_
        refine s_q (q_move rfl) rfl ?_
        refine s_q (q_len rfl) rfl ?_
        refine s_q (q_inc rfl rfl (by omega)) rfl ?_
        refine g_op (g_ownS [] rfl (fun w1 hw1 ho1 => by have h7 := new_i ((l.length + 1)) w1 (by omega); exact h7) rfl ?_)
        rintro ⟨b26, g26⟩ ⟨r26, s26⟩
        refine ⟨_, _, inferInstance, inferInstance, ?_⟩
        simp only at r26 s26
        refine s_q (q_assign rfl) rfl ?_
        refine g_nil ?_
        refine g_then ?_
        refine g_seq ?_
        refine g_seq ?_
        refine g_region ?_
        refine s_q (q_move rfl) rfl ?_
        refine s_q (q_eqp (b := false) rfl rfl rfl) rfl ?_
        refine s_q (q_move rfl) rfl ?_
        refine s_qg (q_move rfl) rfl rfl rfl ?_
        refine s_qg (q_move rfl) rfl rfl rfl ?_
        refine g_gt rfl rfl (g_ownS [Res.blk b26 50 (Rg.c g26), Res.row (Rg.A g26) (Rg.s g26).length (Rg.cap g26) 3 1 (Rg.s g26)] rfl (fun w1 hw1 ho1 => by have h7 := push_i b26 g26 ([] : List Int) l A_l c_l w1 ho1 r26 (Rd.ofOld hw1 o_l (by omega) (by simp)) h_l.1; exact h7) rfl ?_)
        rintro g32 ⟨r32, s32⟩
        refine ⟨_, _, inferInstance, inferInstance, ?_⟩
        have r32b : g32.Rep 1 (l.map (fun v : Int => [Value.int .i64 v])) := by rw [s26] at r32; rw [List.take_of_length_le (by simp)] at r32; simpa using r32
        refine s_qg (q_move rfl) rfl rfl rfl ?_
        refine s_qg (q_len rfl) rfl rfl rfl ?_
        refine s_qg (q_neq rfl rfl) rfl rfl rfl ?_
        refine g_litb 35 (b := false) rfl (by rw [s26]; simp) ?_
        refine s_q (q_pick_f rfl rfl) rfl ?_
        refine g_nil ?_
        refine g_then ?_
        refine g_false rfl ?_
        refine g_skip ?_
        refine g_then ?_
        refine g_seq ?_
        refine g_region ?_
        refine s_q (q_move rfl) rfl ?_
        refine s_q (q_move rfl) rfl ?_
        refine s_q (q_move rfl) rfl ?_
        refine s_q (q_move rfl) rfl ?_
        refine s_q (q_index (i := 0) rfl rfl rfl (o_ws.rdb rfl) (by first | omega | (simp; done) | (simp; omega))) rfl ?_
        refine s_q (q_load_el (i := 0) (o := 0) rfl (o_ws.rdb rfl) (map_get (by first | assumption | omega)) rfl rfl) rfl ?_
        refine g_op (g_keep [Res.blk b26 50 (Rg.c g32), Res.row (Rg.A g32) (Rg.s g32).length (Rg.cap g32) 3 1 (Rg.s g32)] rfl (fun w1 hw1 ho1 => by exact wait_any b26 g32 (lim) (ws[0]) A_ws (ws.length) (c_ws) ws l w1 ho1 r32b (Rd.ofOld hw1 o_ws (by omega) (by simp)) (fun x hx => k_ws x hx) h_lim (k_ws _ (List.getElem_mem hw0)) (by first | omega | (simp; omega))) rfl ?_)
        have hrg := wait_rng lim ws l ws[0]
        refine s_q (q_assign rfl) rfl ?_
        refine g_nil ?_
        refine g_then ?_
        refine g_seq ?_
        refine g_seq ?_
        refine g_region ?_
        refine s_q (q_move rfl) rfl ?_
        refine g_op (g_lit rfl rfl rfl rfl rfl fun b45 => ?_)
        refine g_blkc (b := b45) ((([0] : List Int).map (fun v : Int => [Value.int .i64 v])).flatten) rfl ?_
        refine g_op (g_ownS [Res.blk b26 50 (Rg.c g32), Res.row (Rg.A g32) (Rg.s g32).length (Rg.cap g32) 3 1 (Rg.s g32)] rfl (fun w1 hw1 ho1 => by have h7 := push_i b26 g32 l [0] (some ⟨b45, 0, none⟩) 1 w1 ho1 r32b (Rd.ofBlk (b := b45) hw1 rfl (by simp) rfl) (by simp); exact h7) rfl ?_)
        rintro g46 ⟨r46, s46⟩
        refine ⟨_, _, inferInstance, inferInstance, ?_⟩
        have e46 : min ([0] : List Int).length (g32.size - l.length) = 1 := by rw [s32, s26]; simp
        have r46b : g46.Rep 1 ((l ++ [0]).map (fun v : Int => [Value.int .i64 v])) := by rw [e46] at r46; exact r46
        refine s_q (q_neq rfl rfl) rfl ?_
        refine g_litb 47 (b := false) rfl (by rw [s32, s26]; simp) ?_
        refine s_q (q_move rfl) rfl ?_
        refine s_qg (q_move rfl) rfl rfl rfl ?_
        refine s_qg (q_lss rfl rfl) rfl rfl rfl ?_
        refine g_litb 50 (b := false) rfl (by simp; omega) ?_
        refine s_q (q_pick_f rfl rfl) rfl ?_
        refine s_q (q_move rfl) rfl ?_
        refine s_qg (q_move rfl) rfl rfl rfl ?_
        refine s_qg (q_move rfl) rfl rfl rfl ?_
        refine s_qg (q_len rfl) rfl rfl rfl ?_
        refine s_qg (q_inc rfl rfl (by omega)) rfl rfl rfl ?_
        refine s_qg (q_gtr rfl rfl) rfl rfl rfl ?_
        refine g_litb 57 (b := false) rfl (by simp; omega) ?_
        refine s_q (q_pick_f rfl rfl) rfl ?_
        refine g_nil ?_
        refine g_then ?_
        refine g_false rfl ?_
        refine g_skip ?_
        refine g_then ?_
        refine g_seq ?_
        refine g_seq ?_
        refine g_region ?_
        refine s_q (q_move rfl) rfl ?_
        refine s_q (q_subz (z := (waitV lim ws l ws[0]) - 1) rfl rfl (wi64 (by omega) (by omega))) rfl ?_
        refine s_q (q_move rfl) rfl ?_
        refine g_nil ?_
        refine g_then ?_
        refine g_block ?_
        refine g_loopk [1, 2, 6, 7, 60] (fun (x : Nat × Rg × List Int) => [(61, .int .i64 ((x.1 : Nat) : Int))]) (fun (x : Nat × Rg × List Int) => [Res.blk b26 50 (Rg.c x.2.1), Res.row (Rg.A x.2.1) (Rg.s x.2.1).length (Rg.cap x.2.1) 3 1 (Rg.s x.2.1)]) (fun (x : Nat × Rg × List Int) => x.1 ≤ (waitV lim ws l ws[0]).toNat - 1 ∧ (x.2.1).Rep 1 ((x.2.2).map (fun v : Int => [Value.int .i64 v])) ∧ (waitV lim ws l ws[0]) = cntV lim ws x.2.2 (x.1 + 1) 0 true ∧ (x.2.2).length ≤ 60) (fun (x : Nat × Rg × List Int) => (waitV lim ws l ws[0]).toNat - 1 - x.1) (0, g46, (l ++ [0])) (by (try dsimp only); exact ⟨Nat.zero_le _, r46b, (by have h9 := wait_app lim ws l; have h8 : ofW ws 0 = ws[0] := ofW_hi (j := 0) hw0; rw [h8] at h9; exact h9), (by simp; omega)⟩) rfl (by repeat (first | exact trivial | refine ⟨rfl, ?_⟩)) wok_sub ?_
        rintro ⟨i, g1, xs⟩ ⟨le_i, hr, hcn, hxl⟩
        replace le_i : i ≤ (waitV lim ws l ws[0]).toNat - 1 := le_i
        replace hr : (g1).Rep 1 ((xs).map (fun v : Int => [Value.int .i64 v])) := hr
        replace hcn : (waitV lim ws l ws[0]) = cntV lim ws xs (i + 1) 0 true := hcn
        replace hxl : (xs).length ≤ 60 := hxl
        refine g_setL (L' := [Res.blk b26 50 (Rg.c g1), Res.row (Rg.A g1) (Rg.s g1).length (Rg.cap g1) 3 1 (Rg.s g1)]) rfl ?_
        refine g_val 61 (v' := .int .i64 ((i : Nat) : Int)) rfl rfl ?_
        refine g_seq ?_
        refine g_region ?_
        refine s_q (q_lss rfl rfl) rfl ?_
        refine g_nil ?_
        refine g_then ?_
        refine g_seq ?_
        refine g_cond rfl (fun h4 => ?_) (fun h4 => ?_)
        · have lt_i : i < (waitV lim ws l ws[0]).toNat - 1 := by have h9 := of_decide_eq_true h4; omega
          refine g_skip ?_
          refine g_then ?_
          refine g_seq ?_
          refine g_block ?_
          refine g_seq ?_
          refine g_region ?_
          refine s_q (q_move rfl) rfl ?_
          refine s_q (q_move rfl) rfl ?_
          refine s_q (q_move rfl) rfl ?_
          refine g_op (g_ownS [Res.blk b26 50 (Rg.c g1), Res.row (Rg.A g1) (Rg.s g1).length (Rg.cap g1) 3 1 (Rg.s g1)] rfl (fun w1 hw1 ho1 => by have h7 := step_any b26 g1 (lim) A_ws (ws.length) (c_ws) ws xs w1 ho1 hr (Rd.ofOld hw1 o_ws (by omega) (by simp)) (fun x hx => k_ws x hx) h_lim (by first | omega | (simp; omega)); exact h7) rfl ?_)
          rintro ⟨A66, cap66, g66⟩ ⟨r66, s66⟩
          refine ⟨_, _, inferInstance, inferInstance, ?_⟩
          simp only at r66 s66
          refine g_nil ?_
          refine g_then ?_
          refine g_seq ?_
          refine g_region ?_
          refine s_q (q_move rfl) rfl ?_
          refine g_op (g_keep [Res.blk b26 50 (Rg.c g66), Res.row (Rg.A g66) (Rg.s g66).length (Rg.cap g66) 3 1 (Rg.s g66)] rfl (fun w1 hw1 ho1 => by exact len_i b26 g66 (xs.drop (batF lim ws xs 0 true).length) w1 ho1 r66) rfl ?_)
          refine s_q (q_eql rfl rfl) rfl ?_
          refine g_nil ?_
          refine g_then ?_
          refine g_cond rfl (fun h5 => ?_) (fun h5 => ?_)
          · exact absurd (List.length_eq_zero_iff.1 (by have h9 := of_decide_eq_true h5; omega)) (cnt_go hcn (by omega)).1
          · refine g_skip ?_
            refine g_blk_n ?_
            refine g_then ?_
            refine g_region ?_
            refine s_q (q_inc rfl rfl (by omega)) rfl ?_
            refine s_q (q_move rfl) rfl ?_
            refine g_nil ?_
            exact g_again ((i + 1), g66, (xs.drop (batF lim ws xs 0 true).length)) (by (try dsimp only); exact ⟨(by first | exact lt_i | omega), r66, (by have h9 := (cnt_go hcn (by omega)).2; simpa [Int.add_assoc] using h9), (by simp; omega)⟩) (by first | omega | (simp only; omega)) (by repeat (first | exact trivial | refine ⟨rfl, ?_⟩)) wok_sub
        · have eq_i : i = (waitV lim ws l ws[0]).toNat - 1 := by have h9 := of_decide_eq_false h4; omega
          have e9 : ((i : Nat) : Int) + (1 : Int) = (waitV lim ws l ws[0]) := by omega
          rw [e9] at hcn
          have hend := cnt_end hcn
          clear hcn e9
          refine g_exit ?_
          refine g_then_x (g_then_x (g_blk_hit ?_))
          refine g_then ?_
          refine g_seq ?_
          refine g_region ?_
          refine s_q (q_move rfl) rfl ?_
          refine s_q (q_move rfl) rfl ?_
          refine s_q (q_move rfl) rfl ?_
          refine g_op (g_ownS [Res.blk b26 50 (Rg.c g1), Res.row (Rg.A g1) (Rg.s g1).length (Rg.cap g1) 3 1 (Rg.s g1)] rfl (fun w1 hw1 ho1 => by have h7 := step_any b26 g1 (lim) A_ws (ws.length) (c_ws) ws xs w1 ho1 hr (Rd.ofOld hw1 o_ws (by omega) (by simp)) (fun x hx => k_ws x hx) h_lim (by first | omega | (simp; omega)); exact h7) rfl ?_)
          rintro ⟨A74, cap74, g74⟩ ⟨r74, s74⟩
          refine ⟨_, _, inferInstance, inferInstance, ?_⟩
          simp only at r74 s74
          refine g_nil ?_
          refine g_then ?_
          refine g_seq ?_
          refine g_region ?_
          refine g_op (g_pure rfl (fun w1 hw1 => alive_any w1) rfl ?_)
          refine s_q (q_move rfl) rfl ?_
          refine s_qg (q_move rfl) rfl rfl rfl ?_
          refine g_gt rfl rfl (g_keep [Res.blk b26 50 (Rg.c g74), Res.row (Rg.A g74) (Rg.s g74).length (Rg.cap g74) 3 1 (Rg.s g74)] rfl (fun w1 hw1 ho1 => by exact len_i b26 g74 (xs.drop (batF lim ws xs 0 true).length) w1 ho1 r74) rfl ?_)
          refine s_qg (q_eql rfl rfl) rfl rfl rfl ?_
          refine s_q (q_pick_t rfl rfl) rfl ?_
          refine s_q (q_assign rfl) rfl ?_
          refine g_nil ?_
          refine g_then ?_
          refine g_ret ?_
          exact fin1 rfl (.tmp rfl) (fun w' hw' => ⟨by first | rfl | (simp_all; done) | (simp_all; omega), hw'.upd⟩) _ (.inl rfl)

theorem main_activateTrue (v0 : Value) (v1 : Value) (v2 : Value) (W : World) (a0 : Arg Try.prog W 22 v0) (a1 : Arg Try.prog W 23 v1) (a2 : Arg Try.prog W 24 v2) : Pur Try.prog 7 [v0, v1, v2] W (.bool true) := by
  obtain ⟨A_l, c_l, l, rfl, hle0, hm0, o_l, k_l⟩ := Arg.slice (fun v : Int => [Value.int .i64 v]) (fun x : Int => -9223372036854775808 ≤ x ∧ x ≤ 9223372036854775807) Try.underlying22 (show Try.prog.cellsOf 3 = 1 by kernel_rfl) (by omega) (fun f cs h => OKc.int Try.underlying3 h) a0
  have h_l : l.length ≤ c_l ∧ c_l ≤ 9223372036854775807 := ⟨hle0, by unfold maxLen at hm0; omega⟩
  obtain ⟨lim, rfl, h_lim⟩ := Arg.int Try.underlying23 a1
  obtain ⟨A_ws, c_ws, ws, rfl, hle2, hm2, o_ws, k_ws⟩ := Arg.slice (fun v : Int => [Value.int .u64 v]) (fun x : Int => 0 ≤ x ∧ x ≤ 18446744073709551615) Try.underlying24 (show Try.prog.cellsOf 23 = 1 by kernel_rfl) (by omega) (fun f cs h => OKc.int Try.underlying23 h) a2
  have h_ws : ws.length ≤ c_ws ∧ c_ws ≤ 9223372036854775807 := ⟨hle2, by unfold maxLen at hm2; omega⟩
  exact law_activateTrue A_l c_l l lim A_ws c_ws ws W o_l h_l k_l h_lim o_ws h_ws k_ws

namespace LawActivateTrue
open Go.ChangeShapes Go.WideShapes Go.ChangeAt Go.RowKit Go.Eg
set_option linter.unusedVariables false
theorem own : ownKnob Try.prog.godebug = none := by kernel_rfl
theorem laidOut : laidOutB Try.prog = true := by kernel_rfl
set_option maxRecDepth 100000 in
theorem lifted (os : Os) (started : os.Started) (H : Type) (enc : TypeId × Value → H) :
    ReturnsInHanded {} Try.checked os 7 .any (Rows.activateTrueSpec.pre6 enc Try.prog Try.f7 Rows.activateTrueRow.domain false) (Rows.activateTrueSpec.post enc Try.prog Try.f7 false true false false) := by
  refine returnsInHanded_of_change (C := Try.checked) own started (by kernel_rfl) Try.func7
    (ChangeSpec.witness6 (enc := enc) (C := Try.checked) false ⟨#[], #[.slice none 0 0, .int .u64 0, .slice none 0 0], []⟩ 8 (by kernel_rfl) (by kernel_rfl) (by kernel_rfl) (by kernel_rfl)) ?_
  intro W base args ds gs before hval0 hW hcnd _
  have hval : ∀ (j : Nat) t v, Try.f7.params[j]? = some t → args[j]? = some v → Value.okWide Try.prog W .any base t v := hval0
  have hW' := hW
  obtain ⟨p, q, hA0, hV, rfl, hfz, hnd⟩ := hW
  have hA : DataW.TrodAll enc Try.prog W 0 (fun _ => true) true Try.f7.params.toList args.toList ds p := hA0
  rw [Try.params7] at hA hval
  obtain ⟨v0, vs0, d0, ds0, p0, q0, hargs, rfl, rfl, h0, r0⟩ := trodAll_cons hA
  obtain ⟨v1, vs1, d1, ds1, p1, q1, rfl, rfl, rfl, h1, r1⟩ := trodAll_cons r0
  obtain ⟨v2, vs2, d2, ds2, p2, q2, rfl, rfl, rfl, h2, r2⟩ := trodAll_cons r1
  obtain ⟨rfl, rfl, rfl⟩ := trodAll_nil r2
  obtain rfl : args = #[v0, v1, v2] := by cases args; simp_all
  obtain ⟨rfl, rfl⟩ := trodVars_none hV
  have a0 := Arg.of h0 (hval 0 22 v0 rfl rfl)
  have lt0 : ∀ x ∈ p0, x.block < W.heap.size := by obtain ⟨m, hm⟩ := h0; exact DataW.trod_lt m _ _ _ hm
  have a1 := Arg.of h1 (hval 1 23 v1 rfl rfl)
  have lt1 : ∀ x ∈ p1, x.block < W.heap.size := by obtain ⟨m, hm⟩ := h1; exact DataW.trod_lt m _ _ _ hm
  have a2 := Arg.of h2 (hval 2 24 v2 rfl rfl)
  have lt2 : ∀ x ∈ p2, x.block < W.heap.size := by obtain ⟨m, hm⟩ := h2; exact DataW.trod_lt m _ _ _ hm
  clear hA0 hval0
  simp only [List.append_nil] at hW'
  refine Calls.mono (main_activateTrue v0 v1 v2 W a0 a1 a2) ?_
  rintro e W' ⟨v, rfl, rfl, hu⟩
  have bel := hu.below
  have targ := (trodAll_cons_mk (Below.trod laidOut (by kernel_rfl) (of_decide_eq_true (by kernel_rfl)) h0 bel lt0) (trodAll_cons_mk (Below.trod laidOut (by kernel_rfl) (of_decide_eq_true (by kernel_rfl)) h1 bel lt1) (trodAll_cons_mk (Below.trod laidOut (by kernel_rfl) (of_decide_eq_true (by kernel_rfl)) h2 bel lt2) trodAll_mk0)))
  simp only [List.append_nil] at targ
  exact ⟨_, rfl, _, _, _, [], _, [], hW', trodAll_mk1 (shut_bool Try.underlying4 _), targ, rfl, bel.frame _, fun h => by cases h⟩
theorem over : Rows.activateTrueRow.holds Try.pinned (OpenSpec.ofChange Rows.activateTrueSpec) :=
  OpenClaim.holds_of_wide 7 Try.f7 rfl rfl rfl rfl rfl rfl rfl ⟨rfl, rfl, rfl, rfl, rfl⟩ rfl rfl rfl rfl rfl (by kernel_rfl) Try.func7 (by kernel_rfl)
    (of_decide_eq_true (by kernel_rfl)) (by unfold Func.isWrapper; first | (rw [if_pos (by decide +kernel)]; kernel_rfl) | (rw [if_neg (by decide +kernel)]; exact ⟨rfl, rfl⟩))
    (fun os started H enc _ => lifted os started H enc)
theorem proved : Rows.ActivateTrueSaid := over
end LawActivateTrue
end Go.Proofs.Ytjfncbgggfammaa
