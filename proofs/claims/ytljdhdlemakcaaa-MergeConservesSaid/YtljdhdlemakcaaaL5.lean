/- MergeConserves: for every list of validators, every queue and every configuration the law returns true. No condition. -/
import Derived.Test.YtljdhdlemakcaaaW8
namespace Go.Proofs.Ytljdhdlemakcaaa
open Go.RowKit Go.Eg
set_option synthInstance.maxSize 3000
set_option linter.unusedSimpArgs false
set_option linter.unusedVariables false
theorem sum_set {l : List V} {i : Nat} (h : i < l.length) (y : V) : ((l.set i y).map V.bal).sum = (l.map V.bal).sum - (l[i]).bal + y.bal := by
  induction l generalizing i with
  | nil => simp at h
  | cons x l ih =>
    cases i with
    | zero => simp; omega
    | succ i =>
      have := ih (i := i) (by simpa using h)
      simp only [List.set_cons_succ, List.map_cons, List.sum_cons, List.getElem_cons_succ, this]; omega
theorem act_set {l : List V} {i : Nat} (h : i < l.length) (y : V) : actS (l.set i y) = actS l - (if live l[i] then (l[i]).bal else 0) + (if live y then y.bal else 0) := by
  induction l generalizing i with
  | nil => simp at h
  | cons x l ih =>
    cases i with
    | zero => simp [actS]; omega
    | succ i =>
      have := ih (i := i) (by simpa using h)
      simp only [List.set_cons_succ, actS, List.getElem_cons_succ, this]; omega
theorem mv_sums {l : List V} {c : C} (hok : okV l) {ni nj : Nat} (hi : ni < l.length) (hj : nj < l.length) (hne : ni ≠ nj) (h : checkV l[ni] l[nj] c = 0) : ((mvN l ni nj).map V.bal).sum = (l.map V.bal).sum ∧ actS (mvN l ni nj) = actS l := by
  obtain ⟨h1, h2, _, _, h3, _⟩ := check_st h
  have bi := hok _ (List.getElem_mem hi)
  have bj := hok _ (List.getElem_mem hj)
  have hj' : nj < (l.set ni { l[ni] with bal := 0, st := 7 }).length := by simpa using hj
  have ej : (l.set ni { l[ni] with bal := 0, st := 7 })[nj] = l[nj] := by rw [List.getElem_set_ne hne]
  have hw : IntKind.u64.wrap ((l[nj]).bal + (l[ni]).bal) = (l[nj]).bal + (l[ni]).bal := by rw [IntKind.wrap_u64]; omega
  simp only [mvN, atN_get hi, atN_get hj]
  rw [sum_set hj', sum_set hi, act_set hj', act_set hi, ej, hw]
  simp only [live, h1, h2]
  constructor
  · omega
  · simp; omega
theorem run_sums {c : C} : ∀ (q : List PP) (s : List V × List Bool), okV s.1 → ((q.foldl (stepM c) s).1.map V.bal).sum = (s.1.map V.bal).sum ∧ actS (q.foldl (stepM c) s).1 = actS s.1
  | [], s, _ => ⟨rfl, rfl⟩
  | p :: q, s, hok => by
    rw [List.foldl_cons]
    by_cases hr : okReq s.1 p c = true
    · obtain ⟨g1, g2, g3, g4, g5, g6⟩ := req_ok (of_decide_eq_true hr)
      obtain ⟨ni, hni⟩ : ∃ t : Nat, p.a = t := ⟨p.a.toNat, by omega⟩
      obtain ⟨nj, hnj⟩ : ∃ t : Nat, p.b = t := ⟨p.b.toNat, by omega⟩
      have hi : ni < s.1.length := by omega
      have hj : nj < s.1.length := by omega
      rw [atV_get hni hi, atV_get hnj hj] at g6
      have h1 := mv_sums hok hi hj (by omega) g6
      have e : (stepM c s p).1 = mvN s.1 ni nj := by unfold stepM; dsimp only; rw [if_pos hr, hni, hnj]; rfl
      have h2 := run_sums (c := c) q (stepM c s p) (by rw [e]; exact okV_mv hok)
      rw [h2.1, h2.2, e]
      exact h1
    · have e : (stepM c s p).1 = s.1 := by unfold stepM; dsimp only; rw [if_neg hr]
      have h2 := run_sums (c := c) q (stepM c s p) (by rw [e]; exact hok)
      rw [h2.1, h2.2, e]
      exact ⟨rfl, rfl⟩

set_option maxHeartbeats 400000 in
theorem law_mergeConserves (A_l : Option Addr) (c_l : Nat) (l : List V) (A_q : Option Addr) (c_q : Nat) (q : List PP) (c : C) (w : World) (o_l : Old w A_l l.length 7 (l.map V.c)) (h_l : l.length ≤ c_l ∧ c_l ≤ 9223372036854775807) (k_l : ∀ x ∈ l, (fun x : V => x.ok) x) (o_q : Old w A_q q.length 2 (q.map PP.c)) (h_q : q.length ≤ c_q ∧ c_q ≤ 9223372036854775807) (k_q : ∀ x ∈ q, (fun x : PP => x.ok) x) (k_c : (c).ok) : Pur Try.prog 6 [.slice A_l l.length c_l, .slice A_q q.length c_q, c.v] w (.bool true) := by
  refine g_start Try.func6 rfl 61 rfl (by simp) ([]) [] (WOK.start _ _) _ rfl ?_
  refine g_seq ?_
  refine g_region ?_
  refine g_op (g_box rfl rfl rfl fun b5 => ?_)
  refine s_q (q_assign rfl) rfl ?_
  refine g_nil ?_
  refine g_then ?_
  refine g_seq ?_
  refine g_seq ?_
  refine g_region ?_
  refine s_q (q_loadw rfl rfl) rfl ?_
  refine g_op (g_pure rfl (fun w hw => chk_any _ w) rfl ?_)
  refine s_q (q_neq rfl rfl) rfl ?_
  refine s_q (q_move rfl) rfl ?_
  refine g_split 12 rfl (fun h1 => ?_) (fun h1 => ?_)
  · refine g_gf rfl rfl rfl rfl ?_
    refine g_gf rfl rfl rfl rfl ?_
    refine g_gf rfl rfl rfl rfl ?_
    refine s_q (q_pick_t rfl rfl) rfl ?_
    refine s_q (q_move rfl) rfl ?_
    refine g_gf rfl rfl rfl rfl ?_
    refine g_gf rfl rfl rfl rfl ?_
    refine g_gf rfl rfl rfl rfl ?_
    refine s_q (q_pick_t rfl rfl) rfl ?_
    refine s_q (q_move rfl) rfl ?_
    refine g_gf rfl rfl rfl rfl ?_
    refine g_gf rfl rfl rfl rfl ?_
    refine g_gf rfl rfl rfl rfl ?_
    refine s_q (q_pick_t rfl rfl) rfl ?_
    refine g_nil ?_
    refine g_then ?_
    refine g_true rfl ?_
    refine g_seq ?_
    refine g_region ?_
    refine g_op (g_pure rfl (fun w1 hw1 => alive_any w1) rfl ?_)
    refine s_q (q_assign rfl) rfl ?_
    refine g_nil ?_
    refine g_then ?_
    refine g_ret ?_
    refine g_then_ret ?_
    exact fin1 rfl (.tmp rfl) (fun w' hw' => ⟨by first | rfl | (simp_all; done) | (simp_all; omega), hw'.upd⟩) _ (.inl rfl)
  · refine s_qg (q_move rfl) rfl rfl rfl ?_
    refine s_qg (q_len rfl) rfl rfl rfl ?_
    refine s_qg (q_gtr rfl rfl) rfl rfl rfl ?_
    refine s_q (q_pick_f rfl rfl) rfl ?_
    refine s_q (q_move rfl) rfl ?_
    refine g_split 17 rfl (fun h2 => ?_) (fun h2 => ?_)
    · refine g_gf rfl rfl rfl rfl ?_
      refine g_gf rfl rfl rfl rfl ?_
      refine g_gf rfl rfl rfl rfl ?_
      refine s_q (q_pick_t rfl rfl) rfl ?_
      refine s_q (q_move rfl) rfl ?_
      refine g_gf rfl rfl rfl rfl ?_
      refine g_gf rfl rfl rfl rfl ?_
      refine g_gf rfl rfl rfl rfl ?_
      refine s_q (q_pick_t rfl rfl) rfl ?_
      refine g_nil ?_
      refine g_then ?_
      refine g_true rfl ?_
      refine g_seq ?_
      refine g_region ?_
      refine g_op (g_pure rfl (fun w1 hw1 => alive_any w1) rfl ?_)
      refine s_q (q_assign rfl) rfl ?_
      refine g_nil ?_
      refine g_then ?_
      refine g_ret ?_
      refine g_then_ret ?_
      exact fin1 rfl (.tmp rfl) (fun w' hw' => ⟨by first | rfl | (simp_all; done) | (simp_all; omega), hw'.upd⟩) _ (.inl rfl)
    · refine s_qg (q_move rfl) rfl rfl rfl ?_
      refine s_qg (q_len rfl) rfl rfl rfl ?_
      refine s_qg (q_gtr rfl rfl) rfl rfl rfl ?_
      refine s_q (q_pick_f rfl rfl) rfl ?_
      refine s_q (q_move rfl) rfl ?_
      refine g_split 22 rfl (fun h3 => ?_) (fun h3 => ?_)
      · refine g_gf rfl rfl rfl rfl ?_
        refine g_gf rfl rfl rfl rfl ?_
        refine g_gf rfl rfl rfl rfl ?_
        refine s_q (q_pick_t rfl rfl) rfl ?_
        refine g_nil ?_
        refine g_then ?_
        refine g_true rfl ?_
        refine g_seq ?_
        refine g_region ?_
        refine g_op (g_pure rfl (fun w1 hw1 => alive_any w1) rfl ?_)
        refine s_q (q_assign rfl) rfl ?_
        refine g_nil ?_
        refine g_then ?_
        refine g_ret ?_
        refine g_then_ret ?_
        exact fin1 rfl (.tmp rfl) (fun w' hw' => ⟨by first | rfl | (simp_all; done) | (simp_all; omega), hw'.upd⟩) _ (.inl rfl)
      · have hl60 : l.length ≤ 60 := by simp at h2; omega
        refine s_qg (q_move rfl) rfl rfl rfl ?_
        refine g_gt rfl rfl (g_keep [] rfl (fun w1 hw1 ho1 => by exact fits_any A_l (l.length) (c_l) (l) w1 (Rd.ofOld hw1 o_l (by omega) (by simp)) (fun x hx => (k_l x hx).bal) (by omega)) rfl ?_)
        refine s_qg (q_not rfl) rfl rfl rfl ?_
        refine s_q (q_pick_f rfl rfl) rfl ?_
        refine g_nil ?_
        refine g_then ?_
        refine g_cond rfl (fun h4 => ?_) (fun h4 => ?_)
        · refine g_seq ?_
          refine g_region ?_
          refine g_op (g_pure rfl (fun w1 hw1 => alive_any w1) rfl ?_)
          refine s_q (q_assign rfl) rfl ?_
          refine g_nil ?_
          refine g_then ?_
          refine g_ret ?_
          refine g_then_ret ?_
          exact fin1 rfl (.tmp rfl) (fun w' hw' => ⟨by first | rfl | (simp_all; done) | (simp_all; omega), hw'.upd⟩) _ (.inl rfl)
        · have hchk : chk c = 0 := by simpa using h1
          have hl60 : l.length ≤ 60 := by simp at h2; omega
          have hq60 : q.length ≤ 60 := by simp at h3; omega
          have h18 := chk_right hchk 18 (by omega) (by omega)
          simp [rightB, btw] at h18
          obtain ⟨P, hP⟩ : ∃ P : Nat, c.merg = P := ⟨c.merg.toNat, by omega⟩
          have hfit : addB (l.map V.bal) = true := by simpa using h4
          refine g_skip ?_
          refine g_then ?_
          refine g_seq ?_
          refine g_region ?_
          refine s_q (q_move rfl) rfl ?_
          refine s_q (q_move rfl) rfl ?_
          refine s_q (q_loadw rfl rfl) rfl ?_
          refine g_op (g_ownS [] rfl (fun w1 hw1 ho1 => by have h7 := step_any A_l A_q (l.length) (c_l) (c_q) P (l) (q) c w1 (Rd.ofOld hw1 o_l (by omega) (by simp)) (Rd.ofOld hw1 o_q (by omega) (by simp)) h_q.1 (by omega) (by omega) hP (fun x hx => (k_l x hx).bal); exact h7) rfl ?_)
          rintro ⟨A32, cap32, AA32, capd32⟩ _
          refine ⟨_, _, inferInstance, inferInstance, ?_⟩
          obtain ⟨g32, hg32⟩ : ∃ x, x = (runM c l (q.take (min q.length P))).1 := ⟨_, rfl⟩
          obtain ⟨d32, hd32⟩ : ∃ x, x = (runM c l (q.take (min q.length P))).2 := ⟨_, rfl⟩
          rw [← hg32, ← hd32]
          have hgl32 : g32.length = l.length := by rw [hg32]; exact (runM_len _ _ _).1
          have hdl32 : d32.length = min q.length P := by rw [hd32, (runM_len _ _ _).2]; simp
          have hs := run_sums (c := c) (q.take (min q.length P)) (l, []) (fun x hx => (k_l x hx).bal)
          change ((runM c l _).1.map V.bal).sum = _ ∧ actS (runM c l _).1 = _ at hs
          rw [← hg32] at hs
          have hgo : okV g32 := by rw [hg32]; exact okV_run _ (fun x hx => (k_l x hx).bal)
          have hfs : addB (g32.map V.bal) = addB (l.map V.bal) ∧ addV (g32.map V.bal) = addV (l.map V.bal) := by simp only [addB, addV, hs.1]; exact ⟨trivial, trivial⟩
          refine s_q (q_move rfl) rfl ?_
          refine s_q (q_extract rfl rfl) rfl ?_
          refine s_q (q_extract rfl rfl) rfl ?_
          refine s_q (q_assign rfl) rfl ?_
          refine s_q (q_assign rfl) rfl ?_
          refine g_nil ?_
          refine g_then ?_
          refine g_seq ?_
          refine g_region ?_
          refine g_op (g_pure rfl (fun w1 hw1 => alive_any w1) rfl ?_)
          refine s_q (q_move rfl) rfl ?_
          refine s_qg (q_move rfl) rfl rfl rfl ?_
          refine s_qg (q_len rfl) rfl rfl rfl ?_
          refine s_qg (q_move rfl) rfl rfl rfl ?_
          refine s_qg (q_len rfl) rfl rfl rfl ?_
          refine s_qg (q_eql rfl rfl) rfl rfl rfl ?_
          refine g_litb 41 (b := true) rfl (by simp) ?_
          refine s_q (q_pick_t rfl rfl) rfl ?_
          refine s_q (q_move rfl) rfl ?_
          refine s_qg (q_move rfl) rfl rfl rfl ?_
          refine g_gt rfl rfl (g_keep [] rfl (fun w1 hw1 ho1 => by exact fits_any A32 (l.length) (cap32) (g32) w1 (Rd.ofRow (A := A32) hw1) hgo (by omega)) rfl ?_)
          refine g_litb 45 (b := true) rfl (by rw [hfs.1]; exact hfit) ?_
          refine s_q (q_pick_t rfl rfl) rfl ?_
          refine s_q (q_move rfl) rfl ?_
          refine s_qg (q_move rfl) rfl rfl rfl ?_
          refine g_gt rfl rfl (g_keep [] rfl (fun w1 hw1 ho1 => by exact total_any A32 (l.length) (cap32) (g32) w1 (Rd.ofRow (A := A32) hw1) hgo (by omega)) rfl ?_)
          refine s_qg (q_move rfl) rfl rfl rfl ?_
          refine g_gt rfl rfl (g_keep [] rfl (fun w1 hw1 ho1 => by exact total_any A_l (l.length) (c_l) (l) w1 (Rd.ofOld hw1 o_l (by omega) (by simp)) (fun x hx => (k_l x hx).bal) (by omega)) rfl ?_)
          refine s_qg (q_eql rfl rfl) rfl rfl rfl ?_
          refine g_litb 52 (b := true) rfl (by rw [hfs.2]; simp) ?_
          refine s_q (q_pick_t rfl rfl) rfl ?_
          refine s_q (q_move rfl) rfl ?_
          refine s_qg (q_move rfl) rfl rfl rfl ?_
          refine g_gt rfl rfl (g_pure rfl (fun w1 hw1 => active_any A32 (l.length) (cap32) (g32) w1 (Rdb.toOld (InRow.rdb (A := A32) (els := (g32).map V.c) (by rw [List.length_map]; exact hgl32.symm) (map_cat (c := V.c) (fun _ => rfl) _)) hw1) (by omega)) rfl ?_)
          refine s_qg (q_move rfl) rfl rfl rfl ?_
          refine g_gt rfl rfl (g_pure rfl (fun w1 hw1 => active_any A_l (l.length) (c_l) (l) w1 (Rdb.toOld (o_l.rdb rfl) hw1) (by omega)) rfl ?_)
          refine s_qg (q_eql rfl rfl) rfl rfl rfl ?_
          refine g_litb 59 (b := true) rfl (by rw [hs.2]; simp) ?_
          refine s_q (q_pick_t rfl rfl) rfl ?_
          refine s_q (q_assign rfl) rfl ?_
          refine g_nil ?_
          refine g_then ?_
          refine g_ret ?_
          exact fin1 rfl (.tmp rfl) (fun w' hw' => ⟨by first | rfl | (simp_all; done) | (simp_all; omega), hw'.upd⟩) _ (.inl rfl)

theorem main_mergeConserves (v0 : Value) (v1 : Value) (v2 : Value) (W : World) (a0 : Arg Try.prog W 34 v0) (a1 : Arg Try.prog W 42 v1) (a2 : Arg Try.prog W 26 v2) : Pur Try.prog 6 [v0, v1, v2] W (.bool true) := by
  obtain ⟨A_l, c_l, l, rfl, hle0, hm0, o_l, k_l⟩ := Arg.slice V.c (fun x : V => x.ok) Try.underlying34 (show Try.prog.cellsOf 24 = 7 by kernel_rfl) (by omega) (openV) a0
  have h_l : l.length ≤ c_l ∧ c_l ≤ 9223372036854775807 := ⟨hle0, by unfold maxLen at hm0; omega⟩
  obtain ⟨A_q, c_q, q, rfl, hle1, hm1, o_q, k_q⟩ := Arg.slice PP.c (fun x : PP => x.ok) Try.underlying42 (show Try.prog.cellsOf 37 = 2 by kernel_rfl) (by omega) (openPP) a1
  have h_q : q.length ≤ c_q ∧ c_q ≤ 9223372036854775807 := ⟨hle1, by unfold maxLen at hm1; omega⟩
  obtain ⟨cs, rfl, f, h⟩ := Arg.agg Try.underlying26 a2
  obtain ⟨c, rfl, k_c⟩ := openC f cs h
  exact law_mergeConserves A_l c_l l A_q c_q q c W o_l h_l k_l o_q h_q k_q k_c

namespace LawMergeConserves
open Go.ChangeShapes Go.WideShapes Go.ChangeAt Go.RowKit Go.Eg
set_option linter.unusedVariables false
theorem own : ownKnob Try.prog.godebug = none := by kernel_rfl
theorem laidOut : laidOutB Try.prog = true := by kernel_rfl
set_option maxRecDepth 100000 in
theorem lifted (os : Os) (started : os.Started) (H : Type) (enc : TypeId × Value → H) :
    ReturnsInHanded {} Try.checked os 6 .any (Rows.mergeConservesSpec.pre6 enc Try.prog Try.f6 Rows.mergeConservesRow.domain false) (Rows.mergeConservesSpec.post enc Try.prog Try.f6 false true false false) := by
  refine returnsInHanded_of_change (C := Try.checked) own started (by kernel_rfl) Try.func6
    (ChangeSpec.witness6 (enc := enc) (C := Try.checked) false ⟨#[], #[.slice none 0 0, .slice none 0 0, .agg #[.int .i64 0, .int .i64 0, .int .u64 0, .int .u64 0, .int .u64 0, .int .u64 0, .int .u64 0, .int .u64 0, .int .u64 0, .int .u64 0, .int .i64 0, .int .i64 0, .int .i64 0, .int .i64 0, .int .i64 0, .int .i64 0, .int .i64 0, .int .i64 0, .int .u64 0, .int .u64 0]], []⟩ 8 (by kernel_rfl) (by kernel_rfl) (by kernel_rfl) (by kernel_rfl)) ?_
  intro W base args ds gs before hval0 hW hcnd _
  have hval : ∀ (j : Nat) t v, Try.f6.params[j]? = some t → args[j]? = some v → Value.okWide Try.prog W .any base t v := hval0
  have hW' := hW
  obtain ⟨p, q, hA0, hV, rfl, hfz, hnd⟩ := hW
  have hA : DataW.TrodAll enc Try.prog W 0 (fun _ => true) true Try.f6.params.toList args.toList ds p := hA0
  rw [Try.params6] at hA hval
  obtain ⟨v0, vs0, d0, ds0, p0, q0, hargs, rfl, rfl, h0, r0⟩ := trodAll_cons hA
  obtain ⟨v1, vs1, d1, ds1, p1, q1, rfl, rfl, rfl, h1, r1⟩ := trodAll_cons r0
  obtain ⟨v2, vs2, d2, ds2, p2, q2, rfl, rfl, rfl, h2, r2⟩ := trodAll_cons r1
  obtain ⟨rfl, rfl, rfl⟩ := trodAll_nil r2
  obtain rfl : args = #[v0, v1, v2] := by cases args; simp_all
  obtain ⟨rfl, rfl⟩ := trodVars_none hV
  have a0 := Arg.of h0 (hval 0 34 v0 rfl rfl)
  have lt0 : ∀ x ∈ p0, x.block < W.heap.size := by obtain ⟨m, hm⟩ := h0; exact DataW.trod_lt m _ _ _ hm
  have a1 := Arg.of h1 (hval 1 42 v1 rfl rfl)
  have lt1 : ∀ x ∈ p1, x.block < W.heap.size := by obtain ⟨m, hm⟩ := h1; exact DataW.trod_lt m _ _ _ hm
  have a2 := Arg.of h2 (hval 2 26 v2 rfl rfl)
  have lt2 : ∀ x ∈ p2, x.block < W.heap.size := by obtain ⟨m, hm⟩ := h2; exact DataW.trod_lt m _ _ _ hm
  clear hA0 hval0
  simp only [List.append_nil] at hW'
  refine Calls.mono (main_mergeConserves v0 v1 v2 W a0 a1 a2) ?_
  rintro e W' ⟨v, rfl, rfl, hu⟩
  have bel := hu.below
  have targ := (trodAll_cons_mk (Below.trod laidOut (by kernel_rfl) (of_decide_eq_true (by kernel_rfl)) h0 bel lt0) (trodAll_cons_mk (Below.trod laidOut (by kernel_rfl) (of_decide_eq_true (by kernel_rfl)) h1 bel lt1) (trodAll_cons_mk (Below.trod laidOut (by kernel_rfl) (of_decide_eq_true (by kernel_rfl)) h2 bel lt2) trodAll_mk0)))
  simp only [List.append_nil] at targ
  exact ⟨_, rfl, _, _, _, [], _, [], hW', trodAll_mk1 (shut_bool Try.underlying4 _), targ, rfl, bel.frame _, fun h => by cases h⟩
theorem over : Rows.mergeConservesRow.holds Try.pinned (OpenSpec.ofChange Rows.mergeConservesSpec) :=
  OpenClaim.holds_of_wide 6 Try.f6 rfl rfl rfl rfl rfl rfl rfl ⟨rfl, rfl, rfl, rfl, rfl⟩ rfl rfl rfl rfl rfl (by kernel_rfl) Try.func6 (by kernel_rfl)
    (of_decide_eq_true (by kernel_rfl)) (by unfold Func.isWrapper; first | (rw [if_pos (by decide +kernel)]; kernel_rfl) | (rw [if_neg (by decide +kernel)]; exact ⟨rfl, rfl⟩))
    (fun os started H enc _ => lifted os started H enc)
theorem proved : Rows.MergeConservesSaid := over
end LawMergeConserves
end Go.Proofs.Ytljdhdlemakcaaa
