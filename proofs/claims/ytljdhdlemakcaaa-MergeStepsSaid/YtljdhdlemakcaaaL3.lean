/- MergeSteps: for every list of validators, every queue and every configuration the law returns true. No condition. -/
import Derived.Test.YtljdhdlemakcaaaW7
namespace Go.Proofs.Ytljdhdlemakcaaa
open Go.RowKit Go.Eg
set_option synthInstance.maxSize 3000
set_option linter.unusedSimpArgs false
set_option linter.unusedVariables false
set_option maxHeartbeats 400000 in
theorem law_mergeSteps (A_l : Option Addr) (c_l : Nat) (l : List V) (A_q : Option Addr) (c_q : Nat) (q : List PP) (c : C) (w : World) (o_l : Old w A_l l.length 7 (l.map V.c)) (h_l : l.length ≤ c_l ∧ c_l ≤ 9223372036854775807) (k_l : ∀ x ∈ l, (fun x : V => x.ok) x) (o_q : Old w A_q q.length 2 (q.map PP.c)) (h_q : q.length ≤ c_q ∧ c_q ≤ 9223372036854775807) (k_q : ∀ x ∈ q, (fun x : PP => x.ok) x) (k_c : (c).ok) : Pur Try.prog 8 [.slice A_l l.length c_l, .slice A_q q.length c_q, c.v] w (.bool true) := by
  refine g_start Try.func8 rfl 74 rfl (by simp) ([]) [] (WOK.start _ _) _ rfl ?_
  refine g_seq ?_
  refine g_region ?_
  refine g_op (g_box rfl rfl rfl fun b5 => ?_)
  refine s_q (q_assign rfl) rfl ?_
  refine g_nil ?_
  refine g_then ?_
  refine g_seq ?_
  refine g_seq ?_
  refine g_region ?_
  refine s_q (q_loadw rfl rfl) rfl ?_
  refine g_op (g_pure rfl (fun w hw => chk_any _ w) rfl ?_)
  refine s_q (q_neq rfl rfl) rfl ?_
  refine s_q (q_move rfl) rfl ?_
  refine g_split 16 rfl (fun h1 => ?_) (fun h1 => ?_)
  · refine g_gf rfl rfl rfl rfl ?_
    refine g_gf rfl rfl rfl rfl ?_
    refine g_gf rfl rfl rfl rfl ?_
    refine s_q (q_pick_t rfl rfl) rfl ?_
    refine s_q (q_move rfl) rfl ?_
    refine g_gf rfl rfl rfl rfl ?_
    refine g_gf rfl rfl rfl rfl ?_
    refine g_gf rfl rfl rfl rfl ?_
    refine s_q (q_pick_t rfl rfl) rfl ?_
    refine g_nil ?_
    refine g_then ?_
    refine g_true rfl ?_
    refine g_seq ?_
    refine g_region ?_
    refine g_op (g_pure rfl (fun w1 hw1 => alive_any w1) rfl ?_)
    refine s_q (q_assign rfl) rfl ?_
    refine g_nil ?_
    refine g_then ?_
    refine g_ret ?_
    refine g_then_ret ?_
    exact fin1 rfl (.tmp rfl) (fun w' hw' => ⟨by first | rfl | (simp_all; done) | (simp_all; omega), hw'.upd⟩) _ (.inl rfl)
  · refine s_qg (q_move rfl) rfl rfl rfl ?_
    refine s_qg (q_len rfl) rfl rfl rfl ?_
    refine s_qg (q_gtr rfl rfl) rfl rfl rfl ?_
    refine s_q (q_pick_f rfl rfl) rfl ?_
    refine s_q (q_move rfl) rfl ?_
    refine g_split 21 rfl (fun h2 => ?_) (fun h2 => ?_)
    · refine g_gf rfl rfl rfl rfl ?_
      refine g_gf rfl rfl rfl rfl ?_
      refine g_gf rfl rfl rfl rfl ?_
      refine s_q (q_pick_t rfl rfl) rfl ?_
      refine g_nil ?_
      refine g_then ?_
      refine g_true rfl ?_
      refine g_seq ?_
      refine g_region ?_
      refine g_op (g_pure rfl (fun w1 hw1 => alive_any w1) rfl ?_)
      refine s_q (q_assign rfl) rfl ?_
      refine g_nil ?_
      refine g_then ?_
      refine g_ret ?_
      refine g_then_ret ?_
      exact fin1 rfl (.tmp rfl) (fun w' hw' => ⟨by first | rfl | (simp_all; done) | (simp_all; omega), hw'.upd⟩) _ (.inl rfl)
    · refine s_qg (q_move rfl) rfl rfl rfl ?_
      refine s_qg (q_len rfl) rfl rfl rfl ?_
      refine s_qg (q_gtr rfl rfl) rfl rfl rfl ?_
      refine s_q (q_pick_f rfl rfl) rfl ?_
      refine g_nil ?_
      refine g_then ?_
      refine g_cond rfl (fun h3 => ?_) (fun h3 => ?_)
      · refine g_seq ?_
        refine g_region ?_
        refine g_op (g_pure rfl (fun w1 hw1 => alive_any w1) rfl ?_)
        refine s_q (q_assign rfl) rfl ?_
        refine g_nil ?_
        refine g_then ?_
        refine g_ret ?_
        refine g_then_ret ?_
        exact fin1 rfl (.tmp rfl) (fun w' hw' => ⟨by first | rfl | (simp_all; done) | (simp_all; omega), hw'.upd⟩) _ (.inl rfl)
      · have hchk : chk c = 0 := by simpa using h1
        have hl60 : l.length ≤ 60 := by simp at h2; omega
        have hq60 : q.length ≤ 60 := by simp at h3; omega
        have h18 := chk_right hchk 18 (by omega) (by omega)
        simp [rightB, btw] at h18
        obtain ⟨P, hP⟩ : ∃ P : Nat, c.merg = P := ⟨c.merg.toNat, by omega⟩
        refine g_skip ?_
        refine g_then ?_
        refine g_seq ?_
        refine g_region ?_
        refine g_op (g_lit rfl rfl rfl rfl rfl fun b27 => ?_)
        refine g_norow (t := 27) (T := 24) (k := 7) rfl fun A27 cap27 hc27 => ?_
        refine g_rowels (A := A27) (([] : List V).map V.c) rfl ?_
        refine s_q (q_move rfl) rfl ?_
        refine g_op (g_append (A := A27) (els := (([] : List V)).map V.c) (news := ((l).map V.c)) rfl rfl (o_l.rdb rfl) (map_one (c := V.c) (by intro x; simp [V.c, Value.oneCell']) _) (by first | omega | (simp; omega) | (simp_all; omega)) rfl fun A29 cap29 => ⟨_, inferInstance, ?_⟩)
        refine g_rowels (A := A29) ((l).map V.c) (by first | rfl | exact List.map_append.symm | (simp; done)) ?_
        refine g_rown (A := A29) (l.length) (by simp) ?_
        refine g_val 29 (v' := .slice A29 (l.length) cap29) rfl (by simp) ?_
        refine s_q (q_assign rfl) rfl ?_
        refine g_rown (A := A29) l.length (by first | rfl | simp) ?_
        refine g_val 7 (v' := .slice A29 l.length cap29) rfl (by first | rfl | simp) ?_
        refine g_nil ?_
        refine g_then ?_
        refine g_seq ?_
        refine g_region ?_
        refine s_q (q_move rfl) rfl ?_
        refine s_q (q_move rfl) rfl ?_
        refine s_q (q_loadw rfl rfl) rfl ?_
        refine g_op (g_ownS [] rfl (fun w1 hw1 ho1 => by have h7 := step_any A29 A_q (l.length) (cap29) (c_q) P (l) (q) c w1 (Rd.ofRow (A := A29) hw1) (Rd.ofOld hw1 o_q (by omega) (by simp)) h_q.1 (by omega) (by omega) hP (fun x hx => (k_l x hx).bal); exact h7) rfl ?_)
        rintro ⟨A34, cap34, AA34, capd34⟩ _
        refine ⟨_, _, inferInstance, inferInstance, ?_⟩
        obtain ⟨g34, hg34⟩ : ∃ x, x = (runM c l (q.take (min q.length P))).1 := ⟨_, rfl⟩
        obtain ⟨d34, hd34⟩ : ∃ x, x = (runM c l (q.take (min q.length P))).2 := ⟨_, rfl⟩
        rw [← hg34, ← hd34]
        have hgl34 : g34.length = l.length := by rw [hg34]; exact (runM_len _ _ _).1
        have hdl34 : d34.length = min q.length P := by rw [hd34, (runM_len _ _ _).2]; simp
        refine s_q (q_move rfl) rfl ?_
        refine s_q (q_extract rfl rfl) rfl ?_
        refine s_q (q_extract rfl rfl) rfl ?_
        refine s_q (q_assign rfl) rfl ?_
        refine s_q (q_assign rfl) rfl ?_
        refine g_nil ?_
        refine g_then ?_
        refine g_seq ?_
        refine g_region ?_
        refine s_q (q_move rfl) rfl ?_
        refine s_q (q_move rfl) rfl ?_
        refine s_q (q_loadw rfl rfl) rfl ?_
        refine g_op (g_ownS [] rfl (fun w1 hw1 ho1 => by have h7 := rstep_any A_l A_q (l.length) (c_l) (c_q) P (l) (q) c w1 (Rd.ofOld hw1 o_l (by omega) (by simp)) (Rd.ofOld hw1 o_q (by omega) (by simp)) h_q.1 (by omega) (by omega) hP (fun x hx => (k_l x hx).bal); exact h7) rfl ?_)
        rintro ⟨A41, cap41, AA41, capd41⟩ _
        refine ⟨_, _, inferInstance, inferInstance, ?_⟩
        obtain ⟨g41, hg41⟩ : ∃ x, x = (runM c l (q.take (min q.length P))).1 := ⟨_, rfl⟩
        obtain ⟨d41, hd41⟩ : ∃ x, x = (runM c l (q.take (min q.length P))).2 := ⟨_, rfl⟩
        rw [← hg41, ← hd41]
        have hgl41 : g41.length = l.length := by rw [hg41]; exact (runM_len _ _ _).1
        have hdl41 : d41.length = min q.length P := by rw [hd41, (runM_len _ _ _).2]; simp
        refine s_q (q_move rfl) rfl ?_
        refine s_q (q_extract rfl rfl) rfl ?_
        refine s_q (q_extract rfl rfl) rfl ?_
        refine s_q (q_assign rfl) rfl ?_
        refine s_q (q_assign rfl) rfl ?_
        refine g_nil ?_
        refine g_then ?_
        refine g_seq ?_
        refine g_seq ?_
        refine g_region ?_
        refine s_q (q_move rfl) rfl ?_
        refine s_q (q_move rfl) rfl ?_
        refine g_op (g_pure rfl (fun w1 hw1 => same7 A34 A41 _ _ _ _ (g34) (g41) w1 (Rdb.toOld (InRow.rdb (A := A34) (els := (g34).map V.c) (by rw [List.length_map]; exact hgl34.symm) (map_cat (c := V.c) (fun _ => rfl) _)) hw1) (Rdb.toOld (InRow.rdb (A := A41) (els := (g41).map V.c) (by rw [List.length_map]; exact hgl41.symm) (map_cat (c := V.c) (fun _ => rfl) _)) hw1) (row_max (A := A34) hw1)) rfl ?_)
        refine g_litb 46 (b := true) rfl (by rw [hg34, hg41]; simp) ?_
        refine s_q (q_not rfl) rfl ?_
        refine s_q (q_move rfl) rfl ?_
        refine s_qg (q_move rfl) rfl rfl rfl ?_
        refine s_qg (q_move rfl) rfl rfl rfl ?_
        refine g_gt rfl rfl (g_pure rfl (fun w1 hw1 => equal_b AA34 AA41 _ _ _ _ (d34) (d41) w1 (Rdb.toOld (InRow.rdb (A := AA34) (els := (d34).map (fun v : Bool => [Value.bool v])) (by first | rfl | assumption | (simp; done) | (simp_all; done) | (simp; omega) | (simp_all; omega)) (map_cat (c := (fun v : Bool => [Value.bool v])) (fun _ => rfl) _)) hw1) (Rdb.toOld (InRow.rdb (A := AA41) (els := (d41).map (fun v : Bool => [Value.bool v])) (by first | rfl | assumption | (simp; done) | (simp_all; done) | (simp; omega) | (simp_all; omega)) (map_cat (c := (fun v : Bool => [Value.bool v])) (fun _ => rfl) _)) hw1) (row_max (A := AA34) hw1)) rfl ?_)
        refine g_litb 51 (b := true) rfl (by rw [hd34, hd41]; simp) ?_
        refine s_qg (q_not rfl) rfl rfl rfl ?_
        refine s_q (q_pick_f rfl rfl) rfl ?_
        refine g_nil ?_
        refine g_then ?_
        refine g_false rfl ?_
        refine g_skip ?_
        refine g_then ?_
        refine g_seq ?_
        refine g_seq ?_
        refine g_region ?_
        refine s_q (q_move rfl) rfl ?_
        refine s_q (q_len rfl) rfl ?_
        refine s_q (q_move rfl) rfl ?_
        refine g_nil ?_
        refine g_then ?_
        refine g_block ?_
        refine g_loopk [0, 6, 7, 8, 55] (fun (x : Nat × List V) => [(56, .int .i64 ((x.1 : Nat) : Int))]) (fun (x : Nat × List V) => [Res.row A29 l.length cap29 24 7 (l.map V.c), Res.row A34 l.length cap34 24 7 ((x.2).map V.c)]) (fun (x : Nat × List V) => x.1 ≤ l.length ∧ (x.2).length = l.length) (fun (x : Nat × List V) => l.length - x.1) (0, g34) (by (try dsimp only); exact ⟨Nat.zero_le _, hgl34⟩) rfl (by repeat (first | exact trivial | refine ⟨rfl, ?_⟩)) wok_sub ?_
        rintro ⟨k, gm⟩ ⟨le_k, hgm⟩
        replace le_k : k ≤ l.length := le_k
        replace hgm : (gm).length = l.length := hgm
        refine g_setL (L' := [Res.row A29 l.length cap29 24 7 (l.map V.c), Res.row A34 l.length cap34 24 7 ((gm).map V.c)]) rfl ?_
        refine g_val 56 (v' := .int .i64 ((k : Nat) : Int)) rfl rfl ?_
        refine g_seq ?_
        refine g_region ?_
        refine s_q (q_lss rfl rfl) rfl ?_
        refine g_nil ?_
        refine g_then ?_
        refine g_seq ?_
        refine g_cond rfl (fun h4 => ?_) (fun h4 => ?_)
        · have lt_k : k < l.length := by have h9 := of_decide_eq_true h4; omega
          refine g_skip ?_
          refine g_then ?_
          refine g_seq ?_
          refine g_block ?_
          refine g_seq ?_
          refine g_region ?_
          refine s_q (q_move rfl) rfl ?_
          refine s_q (q_assign rfl) rfl ?_
          refine g_nil ?_
          refine g_then ?_
          refine g_region ?_
          refine s_q (q_move rfl) rfl ?_
          refine s_q (q_move rfl) rfl ?_
          refine s_q (q_index (i := k) rfl rfl rfl (InRow.rdb (A := A34) (els := (gm).map V.c) (by first | rfl | assumption | (simp; done) | (simp_all; done) | (simp; omega) | (simp_all; omega)) (map_cat (c := V.c) (fun _ => rfl) _)) (by first | exact lt_k | omega)) rfl ?_
          refine s_q (q_field rfl) rfl ?_
          refine s_q (q_load_el (i := k) (o := 0) rfl (InRow.rdb (A := A34) (els := (gm).map V.c) (by first | rfl | assumption | (simp; done) | (simp_all; done) | (simp; omega) | (simp_all; omega)) (map_cat (c := V.c) (fun _ => rfl) _)) (map_get (by first | assumption | omega | (simp_all; done) | (simp_all; omega))) rfl rfl) rfl ?_
          refine s_q (q_add rfl rfl) rfl ?_
          refine s_q (q_index (i := k) rfl rfl rfl (InRow.rdb (A := A34) (els := (gm).map V.c) (by first | rfl | assumption | (simp; done) | (simp_all; done) | (simp; omega) | (simp_all; omega)) (map_cat (c := V.c) (fun _ => rfl) _)) (by first | exact lt_k | omega)) rfl ?_
          refine s_q (q_field rfl) rfl ?_
          refine g_op (g_store_el (A := A34) (i := k) (o := 0) (cs' := V.c ({ gm[k] with bal := IntKind.u64.wrap ((gm[k]).bal + 1) })) rfl rfl rfl rfl rfl (map_get (by first | assumption | omega | (simp_all; done) | (simp_all; omega))) (by first | (simp; done) | exact Nat.le_refl _) rfl rfl ?_)
          refine g_rowels (A := A34) ((gm.set k { gm[k] with bal := IntKind.u64.wrap ((gm[k]).bal + 1) }).map V.c) (by simp only [List.map_set]) ?_
          refine g_nil ?_
          refine g_blk_n ?_
          refine g_then ?_
          refine g_region ?_
          refine s_q (q_inc rfl rfl (by omega)) rfl ?_
          refine s_q (q_move rfl) rfl ?_
          refine g_nil ?_
          exact g_again ((k + 1), (gm.set k { gm[k] with bal := IntKind.u64.wrap ((gm[k]).bal + 1) })) (by (try dsimp only); exact ⟨(by first | exact lt_k | omega), (by simpa using hgm)⟩) (by first | omega | (simp only; omega)) (by repeat (first | exact trivial | refine ⟨rfl, ?_⟩)) wok_sub
        · have eq_k : k = l.length := by have h9 := of_decide_eq_false h4; omega
          refine g_exit ?_
          refine g_then_x (g_then_x (g_blk_hit ?_))
          refine g_then ?_
          refine g_seq ?_
          refine g_region ?_
          refine g_op (g_pure rfl (fun w1 hw1 => alive_any w1) rfl ?_)
          refine s_q (q_move rfl) rfl ?_
          refine s_qg (q_move rfl) rfl rfl rfl ?_
          refine s_qg (q_move rfl) rfl rfl rfl ?_
          refine g_gt rfl rfl (g_pure rfl (fun w1 hw1 => same7 A29 A_l _ _ _ _ (l) (l) w1 (Rdb.toOld (InRow.rdb (A := A29) (els := (l).map V.c) (by first | rfl | assumption | (simp; done) | (simp_all; done) | (simp; omega) | (simp_all; omega)) (map_cat (c := V.c) (fun _ => rfl) _)) hw1) (Rdb.toOld (o_l.rdb rfl) hw1) (row_max (A := A29) hw1)) rfl ?_)
          refine g_litb 72 (b := true) rfl (by simp) ?_
          refine s_q (q_pick_t rfl rfl) rfl ?_
          refine s_q (q_assign rfl) rfl ?_
          refine g_nil ?_
          refine g_then ?_
          refine g_ret ?_
          exact fin1 rfl (.tmp rfl) (fun w' hw' => ⟨by first | rfl | (simp_all; done) | (simp_all; omega), hw'.upd⟩) _ (.inl rfl)

theorem main_mergeSteps (v0 : Value) (v1 : Value) (v2 : Value) (W : World) (a0 : Arg Try.prog W 34 v0) (a1 : Arg Try.prog W 42 v1) (a2 : Arg Try.prog W 26 v2) : Pur Try.prog 8 [v0, v1, v2] W (.bool true) := by
  obtain ⟨A_l, c_l, l, rfl, hle0, hm0, o_l, k_l⟩ := Arg.slice V.c (fun x : V => x.ok) Try.underlying34 (show Try.prog.cellsOf 24 = 7 by kernel_rfl) (by omega) (openV) a0
  have h_l : l.length ≤ c_l ∧ c_l ≤ 9223372036854775807 := ⟨hle0, by unfold maxLen at hm0; omega⟩
  obtain ⟨A_q, c_q, q, rfl, hle1, hm1, o_q, k_q⟩ := Arg.slice PP.c (fun x : PP => x.ok) Try.underlying42 (show Try.prog.cellsOf 37 = 2 by kernel_rfl) (by omega) (openPP) a1
  have h_q : q.length ≤ c_q ∧ c_q ≤ 9223372036854775807 := ⟨hle1, by unfold maxLen at hm1; omega⟩
  obtain ⟨cs, rfl, f, h⟩ := Arg.agg Try.underlying26 a2
  obtain ⟨c, rfl, k_c⟩ := openC f cs h
  exact law_mergeSteps A_l c_l l A_q c_q q c W o_l h_l k_l o_q h_q k_q k_c

namespace LawMergeSteps
open Go.ChangeShapes Go.WideShapes Go.ChangeAt Go.RowKit Go.Eg
set_option linter.unusedVariables false
theorem own : ownKnob Try.prog.godebug = none := by kernel_rfl
theorem laidOut : laidOutB Try.prog = true := by kernel_rfl
set_option maxRecDepth 100000 in
theorem lifted (os : Os) (started : os.Started) (H : Type) (enc : TypeId × Value → H) :
    ReturnsInHanded {} Try.checked os 8 .any (Rows.mergeStepsSpec.pre6 enc Try.prog Try.f8 Rows.mergeStepsRow.domain false) (Rows.mergeStepsSpec.post enc Try.prog Try.f8 false true false false) := by
  refine returnsInHanded_of_change (C := Try.checked) own started (by kernel_rfl) Try.func8
    (ChangeSpec.witness6 (enc := enc) (C := Try.checked) false ⟨#[], #[.slice none 0 0, .slice none 0 0, .agg #[.int .i64 0, .int .i64 0, .int .u64 0, .int .u64 0, .int .u64 0, .int .u64 0, .int .u64 0, .int .u64 0, .int .u64 0, .int .u64 0, .int .i64 0, .int .i64 0, .int .i64 0, .int .i64 0, .int .i64 0, .int .i64 0, .int .i64 0, .int .i64 0, .int .u64 0, .int .u64 0]], []⟩ 8 (by kernel_rfl) (by kernel_rfl) (by kernel_rfl) (by kernel_rfl)) ?_
  intro W base args ds gs before hval0 hW hcnd _
  have hval : ∀ (j : Nat) t v, Try.f8.params[j]? = some t → args[j]? = some v → Value.okWide Try.prog W .any base t v := hval0
  have hW' := hW
  obtain ⟨p, q, hA0, hV, rfl, hfz, hnd⟩ := hW
  have hA : DataW.TrodAll enc Try.prog W 0 (fun _ => true) true Try.f8.params.toList args.toList ds p := hA0
  rw [Try.params8] at hA hval
  obtain ⟨v0, vs0, d0, ds0, p0, q0, hargs, rfl, rfl, h0, r0⟩ := trodAll_cons hA
  obtain ⟨v1, vs1, d1, ds1, p1, q1, rfl, rfl, rfl, h1, r1⟩ := trodAll_cons r0
  obtain ⟨v2, vs2, d2, ds2, p2, q2, rfl, rfl, rfl, h2, r2⟩ := trodAll_cons r1
  obtain ⟨rfl, rfl, rfl⟩ := trodAll_nil r2
  obtain rfl : args = #[v0, v1, v2] := by cases args; simp_all
  obtain ⟨rfl, rfl⟩ := trodVars_none hV
  have a0 := Arg.of h0 (hval 0 34 v0 rfl rfl)
  have lt0 : ∀ x ∈ p0, x.block < W.heap.size := by obtain ⟨m, hm⟩ := h0; exact DataW.trod_lt m _ _ _ hm
  have a1 := Arg.of h1 (hval 1 42 v1 rfl rfl)
  have lt1 : ∀ x ∈ p1, x.block < W.heap.size := by obtain ⟨m, hm⟩ := h1; exact DataW.trod_lt m _ _ _ hm
  have a2 := Arg.of h2 (hval 2 26 v2 rfl rfl)
  have lt2 : ∀ x ∈ p2, x.block < W.heap.size := by obtain ⟨m, hm⟩ := h2; exact DataW.trod_lt m _ _ _ hm
  clear hA0 hval0
  simp only [List.append_nil] at hW'
  refine Calls.mono (main_mergeSteps v0 v1 v2 W a0 a1 a2) ?_
  rintro e W' ⟨v, rfl, rfl, hu⟩
  have bel := hu.below
  have targ := (trodAll_cons_mk (Below.trod laidOut (by kernel_rfl) (of_decide_eq_true (by kernel_rfl)) h0 bel lt0) (trodAll_cons_mk (Below.trod laidOut (by kernel_rfl) (of_decide_eq_true (by kernel_rfl)) h1 bel lt1) (trodAll_cons_mk (Below.trod laidOut (by kernel_rfl) (of_decide_eq_true (by kernel_rfl)) h2 bel lt2) trodAll_mk0)))
  simp only [List.append_nil] at targ
  exact ⟨_, rfl, _, _, _, [], _, [], hW', trodAll_mk1 (shut_bool Try.underlying4 _), targ, rfl, bel.frame _, fun h => by cases h⟩
theorem over : Rows.mergeStepsRow.holds Try.pinned (OpenSpec.ofChange Rows.mergeStepsSpec) :=
  OpenClaim.holds_of_wide 8 Try.f8 rfl rfl rfl rfl rfl rfl rfl ⟨rfl, rfl, rfl, rfl, rfl⟩ rfl rfl rfl rfl rfl (by kernel_rfl) Try.func8 (by kernel_rfl)
    (of_decide_eq_true (by kernel_rfl)) (by unfold Func.isWrapper; first | (rw [if_pos (by decide +kernel)]; kernel_rfl) | (rw [if_neg (by decide +kernel)]; exact ⟨rfl, rfl⟩))
    (fun os started H enc _ => lifted os started H enc)
theorem proved : Rows.MergeStepsSaid := over
end LawMergeSteps
end Go.Proofs.Ytljdhdlemakcaaa
