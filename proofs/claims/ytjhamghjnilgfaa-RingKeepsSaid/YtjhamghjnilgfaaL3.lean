/- RingKeeps: for every list the law returns true. No condition. -/
import Derived.Test.YtjhamghjnilgfaaW2
namespace Go.Proofs.Ytjhamghjnilgfaa
open Go.RowKit Go.Eg
set_option linter.unusedSimpArgs false
set_option linter.unusedVariables false
set_option maxHeartbeats 400000 in
theorem law_ringKeeps (A_l : Option Addr) (c_l : Nat) (l : List Int) (w : World) (o_l : Old w A_l l.length 1 (l.map (fun v : Int => [Value.int .i64 v]))) (h_l : l.length ≤ c_l ∧ c_l ≤ 9223372036854775807) (k_l : ∀ x ∈ l, (fun x : Int => -9223372036854775808 ≤ x ∧ x ≤ 9223372036854775807) x) : Pur Try.prog 6 [.slice A_l l.length c_l] w (.bool true) := by
  refine g_start Try.func6 rfl 57 rfl (by simp) ([]) [] (WOK.start _ _) _ rfl ?_
  refine g_seq ?_
  refine g_region ?_
  refine s_q (q_assign rfl) rfl ?_
  refine g_nil ?_
  refine g_then ?_
  refine g_seq ?_
  refine g_seq ?_
  refine g_region ?_
  refine s_q (q_move rfl) rfl ?_
  refine s_q (q_len rfl) rfl ?_
  refine s_q (q_gtr rfl rfl) rfl ?_
  refine g_nil ?_
  refine g_then ?_
  refine g_cond rfl (fun h1 => ?_) (fun h1 => ?_)
  · refine g_seq ?_
    refine g_region ?_
    refine g_op (g_pure rfl (fun w1 hw1 => alive_any w1) rfl ?_)
    refine s_q (q_assign rfl) rfl ?_
    refine g_nil ?_
    refine g_then ?_
    refine g_ret ?_
    refine g_then_ret ?_
    exact fin1 rfl (.tmp rfl) (fun w' hw' => ⟨by first | rfl | (simp_all; done) | (simp_all; omega), hw'.upd⟩) _ (.inl rfl)
  · have hl3 : l.length ≤ 300 := by simp at h1; omega
    refine g_skip ?_
    refine g_then ?_
    refine g_seq ?_
    refine g_region ?_
    refine s_q (q_move rfl) rfl ?_
    refine s_q (q_len rfl) rfl ?_
    refine s_q (q_inc rfl rfl (by omega)) rfl ?_
    refine g_op (g_ownS [] rfl (fun w1 hw1 ho1 => by have h7 := new_i ((l.length + 1)) w1 (by omega); exact h7) rfl ?_)
    rintro ⟨b15, g15⟩ ⟨r15, s15⟩
    refine ⟨_, _, inferInstance, inferInstance, ?_⟩
    simp only at r15 s15
    refine s_q (q_assign rfl) rfl ?_
    refine g_nil ?_
    refine g_then ?_
    refine g_seq ?_
    refine g_seq ?_
    refine g_region ?_
    refine s_q (q_move rfl) rfl ?_
    refine s_q (q_eqp (b := false) rfl rfl rfl) rfl ?_
    refine g_nil ?_
    refine g_then ?_
    refine g_false rfl ?_
    refine g_skip ?_
    refine g_then ?_
    refine g_seq ?_
    refine g_region ?_
    refine g_op (g_lit rfl rfl rfl rfl rfl fun b18 => ?_)
    refine g_norow (t := 18) (T := 3) (k := 1) rfl fun A18 cap18 hc18 => ?_
    refine g_rowels (A := A18) (([] : List Int).map (fun v : Int => [Value.int .i64 v])) rfl ?_
    refine s_q (q_move rfl) rfl ?_
    refine g_op (g_append (A := A18) (els := (([] : List Int)).map (fun v : Int => [Value.int .i64 v])) (news := ((l).map (fun v : Int => [Value.int .i64 v]))) rfl rfl (o_l.rdb rfl) (map_one (c := (fun v : Int => [Value.int .i64 v])) (by intro x; simp [Value.oneCell']) _) (by first | omega | (simp; omega) | (simp_all; omega)) rfl fun A20 cap20 => ⟨_, inferInstance, ?_⟩)
    refine g_rowels (A := A20) ((l).map (fun v : Int => [Value.int .i64 v])) (by first | rfl | exact List.map_append.symm | (simp; done)) ?_
    refine g_rown (A := A20) (l.length) (by simp) ?_
    refine g_val 20 (v' := .slice A20 (l.length) cap20) rfl (by simp) ?_
    refine s_q (q_assign rfl) rfl ?_
    refine g_nil ?_
    refine g_then ?_
    refine g_seq ?_
    refine g_region ?_
    refine s_q (q_move rfl) rfl ?_
    refine s_q (q_move rfl) rfl ?_
    refine g_op (g_ownS [Res.blk b15 61 (Rg.c g15), Res.row (Rg.A g15) (Rg.s g15).length (Rg.cap g15) 3 1 (Rg.s g15)] rfl (fun w1 hw1 ho1 => by have h7 := push_i b15 g15 ([] : List Int) l A20 cap20 w1 ho1 r15 (Rd.ofRow (A := A20) hw1) (row_le (A := A20) hw1); exact h7) rfl ?_)
    rintro g23 ⟨r23, s23⟩
    refine ⟨_, _, inferInstance, inferInstance, ?_⟩
    have q : min l.length (Rg.size g15 - ([] : List Int).length) = l.length := by simp; omega
    replace r23 : Rg.Rep g23 1 (l.map (fun v : Int => [Value.int .i64 v])) := by rw [q] at r23; simpa using r23
    refine g_nil ?_
    refine g_then ?_
    refine g_seq ?_
    refine g_seq ?_
    refine g_region ?_
    refine s_q (q_move rfl) rfl ?_
    refine s_q (q_len rfl) rfl ?_
    refine s_q (q_move rfl) rfl ?_
    refine g_nil ?_
    refine g_then ?_
    refine g_block ?_
    refine g_loopk [0, 2, 3, 4, 25] (fun (x : Nat × List Int) => [(26, .int .i64 ((x.1 : Nat) : Int))]) (fun (x : Nat × List Int) => [Res.row A20 l.length cap20 3 1 ((x.2).map (fun v : Int => [Value.int .i64 v])), Res.blk b15 61 (Rg.c g23), Res.row (Rg.A g23) (Rg.s g23).length (Rg.cap g23) 3 1 (Rg.s g23)]) (fun (x : Nat × List Int) => x.1 ≤ l.length ∧ (x.2).length = l.length) (fun (x : Nat × List Int) => l.length - x.1) (0, l) (by (try dsimp only); exact ⟨Nat.zero_le _, (by first | assumption | omega | (simp_all; done) | (simp_all; omega))⟩) rfl (by repeat (first | exact trivial | refine ⟨rfl, ?_⟩)) wok_sub ?_
    rintro ⟨k, m⟩ ⟨le_k, hm⟩
    replace le_k : k ≤ l.length := le_k
    replace hm : (m).length = l.length := hm
    refine g_setL (L' := [Res.row A20 l.length cap20 3 1 ((m).map (fun v : Int => [Value.int .i64 v])), Res.blk b15 61 (Rg.c g23), Res.row (Rg.A g23) (Rg.s g23).length (Rg.cap g23) 3 1 (Rg.s g23)]) rfl ?_
    refine g_val 26 (v' := .int .i64 ((k : Nat) : Int)) rfl rfl ?_
    refine g_seq ?_
    refine g_region ?_
    refine s_q (q_lss rfl rfl) rfl ?_
    refine g_nil ?_
    refine g_then ?_
    refine g_seq ?_
    refine g_cond rfl (fun h2 => ?_) (fun h2 => ?_)
    · have lt_k : k < l.length := by have h9 := of_decide_eq_true h2; omega
      refine g_skip ?_
      refine g_then ?_
      refine g_seq ?_
      refine g_block ?_
      refine g_seq ?_
      refine g_region ?_
      refine s_q (q_move rfl) rfl ?_
      refine s_q (q_assign rfl) rfl ?_
      refine g_nil ?_
      refine g_then ?_
      refine g_region ?_
      refine s_q (q_move rfl) rfl ?_
      refine s_q (q_move rfl) rfl ?_
      refine s_q (q_index (i := k) rfl rfl rfl (InRow.rdb (A := A20) (els := (m).map (fun v : Int => [Value.int .i64 v])) (by first | rfl | assumption | (simp; done) | (simp_all; done) | (simp; omega) | (simp_all; omega)) (map_cat (c := (fun v : Int => [Value.int .i64 v])) (fun _ => rfl) _)) (by first | exact lt_k | omega)) rfl ?_
      refine s_q (q_load_el (i := k) (o := 0) rfl (InRow.rdb (A := A20) (els := (m).map (fun v : Int => [Value.int .i64 v])) (by first | rfl | assumption | (simp; done) | (simp_all; done) | (simp; omega) | (simp_all; omega)) (map_cat (c := (fun v : Int => [Value.int .i64 v])) (fun _ => rfl) _)) (map_get (by first | assumption | omega | (simp_all; done) | (simp_all; omega))) rfl rfl) rfl ?_
      refine s_q (q_add rfl rfl) rfl ?_
      refine s_q (q_index (i := k) rfl rfl rfl (InRow.rdb (A := A20) (els := (m).map (fun v : Int => [Value.int .i64 v])) (by first | rfl | assumption | (simp; done) | (simp_all; done) | (simp; omega) | (simp_all; omega)) (map_cat (c := (fun v : Int => [Value.int .i64 v])) (fun _ => rfl) _)) (by first | exact lt_k | omega)) rfl ?_
      refine g_op (g_store_el (A := A20) (i := k) (o := 0) (cs' := (fun v : Int => [Value.int .i64 v]) ((IntKind.i64.wrap (m[k] + 1)))) rfl rfl rfl rfl rfl (map_get (by first | assumption | omega | (simp_all; done) | (simp_all; omega))) (by simp) rfl rfl ?_)
      refine g_rowels (A := A20) ((m.set k (IntKind.i64.wrap (m[k] + 1))).map (fun v : Int => [Value.int .i64 v])) (by rw [List.map_set]) ?_
      refine g_nil ?_
      refine g_blk_n ?_
      refine g_then ?_
      refine g_region ?_
      refine s_q (q_inc rfl rfl (by omega)) rfl ?_
      refine s_q (q_move rfl) rfl ?_
      refine g_nil ?_
      exact g_again ((k + 1), (m.set k (IntKind.i64.wrap (m[k] + 1)))) (by (try dsimp only); exact ⟨(by first | exact lt_k | omega), (by simpa using hm)⟩) (by first | omega | (simp only; omega)) (by repeat (first | exact trivial | refine ⟨rfl, ?_⟩)) wok_sub
    · have eq_k : k = l.length := by have h9 := of_decide_eq_false h2; omega
      refine g_exit ?_
      refine g_then_x (g_then_x (g_blk_hit ?_))
      refine g_then ?_
      refine g_seq ?_
      refine g_region ?_
      refine s_q (q_move rfl) rfl ?_
      refine g_op (g_ownS [Res.blk b15 61 (Rg.c g23), Res.row (Rg.A g23) (Rg.s g23).length (Rg.cap g23) 3 1 (Rg.s g23)] rfl (fun w1 hw1 ho1 => by have h7 := all_i b15 g23 l w1 ho1 r23; exact h7) rfl ?_)
      rintro ⟨A37, cap37⟩ _
      refine ⟨_, _, inferInstance, inferInstance, ?_⟩
      refine s_q (q_assign rfl) rfl ?_
      refine g_nil ?_
      refine g_then ?_
      refine g_seq ?_
      refine g_seq ?_
      refine g_region ?_
      refine s_q (q_move rfl) rfl ?_
      refine s_q (q_len rfl) rfl ?_
      refine s_q (q_move rfl) rfl ?_
      refine g_nil ?_
      refine g_then ?_
      refine g_block ?_
      refine g_loopk [0, 2, 3, 6, 39] (fun (x : Nat × List Int) => [(40, .int .i64 ((x.1 : Nat) : Int))]) (fun (x : Nat × List Int) => [Res.row A37 l.length cap37 3 1 ((x.2).map (fun v : Int => [Value.int .i64 v])), Res.blk b15 61 (Rg.c g23), Res.row (Rg.A g23) (Rg.s g23).length (Rg.cap g23) 3 1 (Rg.s g23)]) (fun (x : Nat × List Int) => x.1 ≤ l.length ∧ (x.2).length = l.length) (fun (x : Nat × List Int) => l.length - x.1) (0, l) (by (try dsimp only); exact ⟨Nat.zero_le _, (by first | assumption | omega | (simp_all; done) | (simp_all; omega))⟩) rfl (by repeat (first | exact trivial | refine ⟨rfl, ?_⟩)) wok_sub ?_
      rintro ⟨j, m2⟩ ⟨le_j, hm2⟩
      replace le_j : j ≤ l.length := le_j
      replace hm2 : (m2).length = l.length := hm2
      refine g_setL (L' := [Res.row A37 l.length cap37 3 1 ((m2).map (fun v : Int => [Value.int .i64 v])), Res.blk b15 61 (Rg.c g23), Res.row (Rg.A g23) (Rg.s g23).length (Rg.cap g23) 3 1 (Rg.s g23)]) rfl ?_
      refine g_val 40 (v' := .int .i64 ((j : Nat) : Int)) rfl rfl ?_
      refine g_seq ?_
      refine g_region ?_
      refine s_q (q_lss rfl rfl) rfl ?_
      refine g_nil ?_
      refine g_then ?_
      refine g_seq ?_
      refine g_cond rfl (fun h3 => ?_) (fun h3 => ?_)
      · have lt_j : j < l.length := by have h9 := of_decide_eq_true h3; omega
        refine g_skip ?_
        refine g_then ?_
        refine g_seq ?_
        refine g_block ?_
        refine g_seq ?_
        refine g_region ?_
        refine s_q (q_move rfl) rfl ?_
        refine s_q (q_assign rfl) rfl ?_
        refine g_nil ?_
        refine g_then ?_
        refine g_region ?_
        refine s_q (q_move rfl) rfl ?_
        refine s_q (q_move rfl) rfl ?_
        refine s_q (q_index (i := j) rfl rfl rfl (InRow.rdb (A := A37) (els := (m2).map (fun v : Int => [Value.int .i64 v])) (by first | rfl | assumption | (simp; done) | (simp_all; done) | (simp; omega) | (simp_all; omega)) (map_cat (c := (fun v : Int => [Value.int .i64 v])) (fun _ => rfl) _)) (by first | exact lt_j | omega)) rfl ?_
        refine s_q (q_load_el (i := j) (o := 0) rfl (InRow.rdb (A := A37) (els := (m2).map (fun v : Int => [Value.int .i64 v])) (by first | rfl | assumption | (simp; done) | (simp_all; done) | (simp; omega) | (simp_all; omega)) (map_cat (c := (fun v : Int => [Value.int .i64 v])) (fun _ => rfl) _)) (map_get (by first | assumption | omega | (simp_all; done) | (simp_all; omega))) rfl rfl) rfl ?_
        refine s_q (q_sub rfl rfl) rfl ?_
        refine s_q (q_index (i := j) rfl rfl rfl (InRow.rdb (A := A37) (els := (m2).map (fun v : Int => [Value.int .i64 v])) (by first | rfl | assumption | (simp; done) | (simp_all; done) | (simp; omega) | (simp_all; omega)) (map_cat (c := (fun v : Int => [Value.int .i64 v])) (fun _ => rfl) _)) (by first | exact lt_j | omega)) rfl ?_
        refine g_op (g_store_el (A := A37) (i := j) (o := 0) (cs' := (fun v : Int => [Value.int .i64 v]) ((IntKind.i64.wrap (m2[j] - 1)))) rfl rfl rfl rfl rfl (map_get (by first | assumption | omega | (simp_all; done) | (simp_all; omega))) (by simp) rfl rfl ?_)
        refine g_rowels (A := A37) ((m2.set j (IntKind.i64.wrap (m2[j] - 1))).map (fun v : Int => [Value.int .i64 v])) (by rw [List.map_set]) ?_
        refine g_nil ?_
        refine g_blk_n ?_
        refine g_then ?_
        refine g_region ?_
        refine s_q (q_inc rfl rfl (by omega)) rfl ?_
        refine s_q (q_move rfl) rfl ?_
        refine g_nil ?_
        exact g_again ((j + 1), (m2.set j (IntKind.i64.wrap (m2[j] - 1)))) (by (try dsimp only); exact ⟨(by first | exact lt_j | omega), (by simpa using hm2)⟩) (by first | omega | (simp only; omega)) (by repeat (first | exact trivial | refine ⟨rfl, ?_⟩)) wok_sub
      · have eq_j : j = l.length := by have h9 := of_decide_eq_false h3; omega
        refine g_exit ?_
        refine g_then_x (g_then_x (g_blk_hit ?_))
        refine g_then ?_
        refine g_seq ?_
        refine g_region ?_
        refine g_op (g_pure rfl (fun w1 hw1 => alive_any w1) rfl ?_)
        refine s_q (q_move rfl) rfl ?_
        refine s_qg (q_move rfl) rfl rfl rfl ?_
        refine g_gt rfl rfl (g_ownS [Res.blk b15 61 (Rg.c g23), Res.row (Rg.A g23) (Rg.s g23).length (Rg.cap g23) 3 1 (Rg.s g23)] rfl (fun w1 hw1 ho1 => by have h7 := all_i b15 g23 l w1 ho1 r23; exact h7) rfl ?_)
        rintro ⟨A53, cap53⟩ _
        refine ⟨_, _, inferInstance, inferInstance, ?_⟩
        refine s_qg (q_move rfl) rfl rfl rfl ?_
        refine g_gt rfl rfl (g_pure rfl (fun w1 hw1 => equal_i A53 A_l _ _ _ _ (l) (l) w1 (Rdb.toOld (InRow.rdb (A := A53) (els := (l).map (fun v : Int => [Value.int .i64 v])) (by simp) (map_cat (c := (fun v : Int => [Value.int .i64 v])) (fun _ => rfl) _)) hw1) (Rdb.toOld (o_l.rdb rfl) hw1) (by first | omega | (simp; omega) | (simp_all; omega))) rfl ?_)
        refine g_litb 55 (b := true) rfl (by simp) ?_
        refine s_q (q_pick_t rfl rfl) rfl ?_
        refine s_q (q_assign rfl) rfl ?_
        refine g_nil ?_
        refine g_then ?_
        refine g_ret ?_
        exact fin1 rfl (.tmp rfl) (fun w' hw' => ⟨by first | rfl | (simp_all; done) | (simp_all; omega), hw'.upd⟩) _ (.inl rfl)

theorem main_ringKeeps (v0 : Value) (W : World) (a0 : Arg Try.prog W 22 v0) : Pur Try.prog 6 [v0] W (.bool true) := by
  obtain ⟨A_l, c_l, l, rfl, hle0, hm0, o_l, k_l⟩ := Arg.slice (fun v : Int => [Value.int .i64 v]) (fun x : Int => -9223372036854775808 ≤ x ∧ x ≤ 9223372036854775807) Try.underlying22 (show Try.prog.cellsOf 3 = 1 by kernel_rfl) (by omega) (fun f cs h => OKc.int Try.underlying3 h) a0
  have h_l : l.length ≤ c_l ∧ c_l ≤ 9223372036854775807 := ⟨hle0, by unfold maxLen at hm0; omega⟩
  exact law_ringKeeps A_l c_l l W o_l h_l k_l

namespace LawRingKeeps
open Go.ChangeShapes Go.WideShapes Go.ChangeAt Go.RowKit Go.Eg
set_option linter.unusedVariables false
theorem own : ownKnob Try.prog.godebug = none := by kernel_rfl
theorem laidOut : laidOutB Try.prog = true := by kernel_rfl
set_option maxRecDepth 100000 in
theorem lifted (os : Os) (started : os.Started) (H : Type) (enc : TypeId × Value → H) :
    ReturnsInHanded {} Try.checked os 6 .any (Rows.ringKeepsSpec.pre6 enc Try.prog Try.f6 Rows.ringKeepsRow.domain false) (Rows.ringKeepsSpec.post enc Try.prog Try.f6 false true false false) := by
  refine returnsInHanded_of_change (C := Try.checked) own started (by kernel_rfl) Try.func6
    (ChangeSpec.witness6 (enc := enc) (C := Try.checked) false ⟨#[], #[.slice none 0 0], []⟩ 8 (by kernel_rfl) (by kernel_rfl) (by kernel_rfl) (by kernel_rfl)) ?_
  intro W base args ds gs before hval0 hW hcnd _
  have hval : ∀ (j : Nat) t v, Try.f6.params[j]? = some t → args[j]? = some v → Value.okWide Try.prog W .any base t v := hval0
  have hW' := hW
  obtain ⟨p, q, hA0, hV, rfl, hfz, hnd⟩ := hW
  have hA : DataW.TrodAll enc Try.prog W 0 (fun _ => true) true Try.f6.params.toList args.toList ds p := hA0
  rw [Try.params6] at hA hval
  obtain ⟨v0, vs0, d0, ds0, p0, q0, hargs, rfl, rfl, h0, r0⟩ := trodAll_cons hA
  obtain ⟨rfl, rfl, rfl⟩ := trodAll_nil r0
  obtain rfl : args = #[v0] := by cases args; simp_all
  obtain ⟨rfl, rfl⟩ := trodVars_none hV
  have a0 := Arg.of h0 (hval 0 22 v0 rfl rfl)
  have lt0 : ∀ x ∈ p0, x.block < W.heap.size := by obtain ⟨m, hm⟩ := h0; exact DataW.trod_lt m _ _ _ hm
  clear hA0 hval0
  simp only [List.append_nil] at hW'
  refine Calls.mono (main_ringKeeps v0 W a0) ?_
  rintro e W' ⟨v, rfl, rfl, hu⟩
  have bel := hu.below
  have targ := (trodAll_cons_mk (Below.trod laidOut (by kernel_rfl) (of_decide_eq_true (by kernel_rfl)) h0 bel lt0) trodAll_mk0)
  simp only [List.append_nil] at targ
  exact ⟨_, rfl, _, _, _, [], _, [], hW', trodAll_mk1 (shut_bool Try.underlying4 _), targ, rfl, bel.frame _, fun h => by cases h⟩
theorem over : Rows.ringKeepsRow.holds Try.pinned (OpenSpec.ofChange Rows.ringKeepsSpec) :=
  OpenClaim.holds_of_wide 6 Try.f6 rfl rfl rfl rfl rfl rfl rfl ⟨rfl, rfl, rfl, rfl, rfl⟩ rfl rfl rfl rfl rfl (by kernel_rfl) Try.func6 (by kernel_rfl)
    (of_decide_eq_true (by kernel_rfl)) (by unfold Func.isWrapper; first | (rw [if_pos (by decide +kernel)]; kernel_rfl) | (rw [if_neg (by decide +kernel)]; exact ⟨rfl, rfl⟩))
    (fun os started H enc _ => lifted os started H enc)
theorem proved : Rows.RingKeepsSaid := over
end LawRingKeeps
end Go.Proofs.Ytjhamghjnilgfaa
