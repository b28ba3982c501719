/- PartialChecks: for every list of validators and every request the law returns true. No condition. -/
import Derived.Test.YtmbnpdjchkadhaaW1
namespace Go.Proofs.Ytmbnpdjchkadhaa
open Go.RowKit Go.Eg
set_option linter.unusedSimpArgs false
set_option linter.unusedVariables false
def pchk (l : List V) (i m : Int) : Int := if i < 0 ∨ (l.length : Int) ≤ i then 7 else if h : i.toNat < l.length then (if m = 0 then 3 else if (l[i.toNat]).st ≠ 2 then 8 else 0) else 0

structure PR where
  i : Int
  m : Int
  deriving DecidableEq
def PR.c (x : PR) : List Value := [.int .i64 x.i, .int .u64 x.m]
def PR.v (x : PR) : Value := .agg x.c.toArray
structure PR.ok (x : PR) : Prop where
  i : -9223372036854775808 ≤ x.i ∧ x.i ≤ 9223372036854775807
  m : 0 ≤ x.m ∧ x.m ≤ 18446744073709551615
theorem openPR {w : World} (f : Nat) (cs : List Value) (h : OKc Try.prog w f 38 cs) : ∃ x : PR, cs = x.c ∧ x.ok := by
  obtain ⟨f, hl, h⟩ := OKc.struct Try.underlying38 h
  have hT : Try.prog.cellsOf 38 = 2 := by kernel_rfl
  have hc3 : Try.prog.cellsOf 3 = 1 := by kernel_rfl
  have hc22 : Try.prog.cellsOf 22 = 1 := by kernel_rfl
  rw [hT] at hl
  obtain ⟨c0, c1, rfl⟩ : ∃ c0 c1 : Value, cs = [c0, c1] := by
    match cs, hl with
    | [c0, c1], _ => exact ⟨_, _, rfl⟩
  simp only [List.mem_cons, List.not_mem_nil, or_false, forall_eq_or_imp, forall_eq, hc3, hc22, List.drop_zero, List.drop_succ_cons, List.take_succ_cons, List.take_zero] at h
  obtain ⟨h0, h1⟩ := h
  obtain ⟨x0, e0, r0⟩ := OKc.int Try.underlying3 h0
  obtain rfl : c0 = _ := by simpa using e0
  obtain ⟨x1, e1, r1⟩ := OKc.int Try.underlying22 h1
  obtain rfl : c1 = _ := by simpa using e1
  exact ⟨⟨x0, x1⟩, rfl, ⟨r0, r1⟩⟩

theorem pcheck_any (A : Option Addr) (cap : Nat) (l : List V) (i m : Int) (w : World) (hold : Old w A l.length 7 (l.map V.c)) : Pur Try.prog 14 [.slice A l.length cap, .agg [.int .i64 i, .int .u64 m].toArray] w (.int .i64 (pchk l i m)) := by
  refine g_start Try.func14 rfl 30 rfl (by simp) [] [] (WOK.start _ _) _ rfl ?_
  refine g_seq ?_
  refine g_region ?_
  refine g_op (g_box rfl rfl rfl fun b3 => ?_)
  refine s_q (q_assign rfl) rfl ?_
  refine g_nil ?_
  refine g_then ?_
  refine g_seq ?_
  refine g_block ?_
  refine g_seq ?_
  refine g_region ?_
  refine s_q (q_field rfl) rfl ?_
  refine s_q (q_load rfl rfl) rfl ?_
  refine s_q (q_lss rfl rfl) rfl ?_
  refine s_q (q_move rfl) rfl ?_
  refine g_split 9 rfl (fun h1 => ?_) (fun h1 => ?_)
  · refine g_gf rfl rfl rfl rfl ?_
    refine g_gf rfl rfl rfl rfl ?_
    refine g_gf rfl rfl rfl rfl ?_
    refine g_gf rfl rfl rfl rfl ?_
    refine g_gf rfl rfl rfl rfl ?_
    refine s_q (q_pick_t rfl rfl) rfl ?_
    refine s_q (q_assign rfl) rfl ?_
    refine g_nil ?_
    refine g_then ?_
    refine g_true rfl ?_
    refine g_seq ?_
    refine g_region ?_
    refine s_q (q_assign rfl) rfl ?_
    refine g_nil ?_
    refine g_then ?_
    refine g_ret ?_
    refine g_blk_ret (g_then_ret ?_)
    exact fin1 rfl (.tmp rfl) (fun w' hw => ⟨by first | (rw [hp]; simp_all; done) | (unfold pchk; rw [if_pos (by first | (simp_all; done) | (simp_all; omega))]), hw.upd⟩) _ (.inl rfl)
  · refine s_qg (q_field rfl) rfl rfl rfl ?_
    refine s_qg (q_load rfl rfl) rfl rfl rfl ?_
    refine s_qg (q_move rfl) rfl rfl rfl ?_
    refine s_qg (q_len rfl) rfl rfl rfl ?_
    refine s_qg (q_geq rfl rfl) rfl rfl rfl ?_
    refine s_q (q_pick_f rfl rfl) rfl ?_
    refine s_q (q_assign rfl) rfl ?_
    refine g_nil ?_
    refine g_then ?_
    refine g_cond rfl (fun h2 => ?_) (fun h2 => ?_)
    · refine g_seq ?_
      refine g_region ?_
      refine s_q (q_assign rfl) rfl ?_
      refine g_nil ?_
      refine g_then ?_
      refine g_ret ?_
      refine g_blk_ret (g_then_ret ?_)
      exact fin1 rfl (.tmp rfl) (fun w' hw => ⟨by first | (rw [hp]; simp_all; done) | (unfold pchk; rw [if_pos (by first | (simp_all; done) | (simp_all; omega))]), hw.upd⟩) _ (.inl rfl)
    · obtain ⟨n, rfl⟩ : ∃ n : Nat, i = n := ⟨i.toNat, by simp at h1; omega⟩
      have hn : n < l.length := by simp at h2; omega
      have hget : (l.map V.c)[n]? = some (l[n]).c := by simp [hn]
      have hp : pchk l n m = (if m = 0 then 3 else if (l[n]).st ≠ 2 then 8 else 0) := by unfold pchk; rw [if_neg (by omega), dif_pos (by simpa using hn)]; rfl
      refine g_seq ?_
      refine g_region ?_
      refine s_q (q_loadw rfl rfl) rfl ?_
      refine s_q (q_field rfl) rfl ?_
      refine s_q (q_load rfl rfl) rfl ?_
      refine s_q (q_build (c := [.int .i64 (n : Int), .int .u64 0]) rfl rfl) rfl ?_
      refine s_q (q_eqs rfl rfl rfl) rfl ?_
      refine s_q (q_assign rfl) rfl ?_
      refine g_nil ?_
      refine g_then ?_
      refine g_cond rfl (fun h3 => ?_) (fun h3 => ?_)
      · refine g_seq ?_
        refine g_region ?_
        refine s_q (q_assign rfl) rfl ?_
        refine g_nil ?_
        refine g_then ?_
        refine g_ret ?_
        refine g_blk_ret (g_then_ret ?_)
        exact fin1 rfl (.tmp rfl) (fun w' hw => ⟨by first | (rw [hp]; simp_all; done) | (unfold pchk; rw [if_pos (by first | (simp_all; done) | (simp_all; omega))]), hw.upd⟩) _ (.inl rfl)
      · refine g_seq ?_
        refine g_region ?_
        refine s_q (q_move rfl) rfl ?_
        refine s_q (q_field rfl) rfl ?_
        refine s_q (q_load rfl rfl) rfl ?_
        refine s_q (q_index (i := n) rfl rfl rfl (hold.rdb rfl) hn) rfl ?_
        refine s_q (q_field rfl) rfl ?_
        refine s_q (q_load_el (i := n) (o := 1) rfl (hold.rdb rfl) hget rfl rfl) rfl ?_
        refine s_q (q_neq rfl rfl) rfl ?_
        refine s_q (q_assign rfl) rfl ?_
        refine g_nil ?_
        refine g_then ?_
        refine g_cond rfl (fun h4 => ?_) (fun h4 => ?_)
        · refine g_seq ?_
          refine g_region ?_
          refine s_q (q_assign rfl) rfl ?_
          refine g_nil ?_
          refine g_then ?_
          refine g_ret ?_
          refine g_blk_ret (g_then_ret ?_)
          exact fin1 rfl (.tmp rfl) (fun w' hw => ⟨by first | (rw [hp]; simp_all; done) | (unfold pchk; rw [if_pos (by first | (simp_all; done) | (simp_all; omega))]), hw.upd⟩) _ (.inl rfl)
        · refine g_skip ?_
          refine g_blk_n ?_
          refine g_then ?_
          refine g_seq ?_
          refine g_region ?_
          refine s_q (q_assign rfl) rfl ?_
          refine g_nil ?_
          refine g_then ?_
          refine g_ret ?_
          exact fin1 rfl (.tmp rfl) (fun w' hw => ⟨by first | (rw [hp]; simp_all; done) | (unfold pchk; rw [if_pos (by first | (simp_all; done) | (simp_all; omega))]), hw.upd⟩) _ (.inl rfl)

theorem rcheck_any (A : Option Addr) (cap : Nat) (l : List V) (i m : Int) (w : World) (hold : Old w A l.length 7 (l.map V.c)) : Pur Try.prog 15 [.slice A l.length cap, .agg [.int .i64 i, .int .u64 m].toArray] w (.int .i64 (pchk l i m)) := by
  refine g_start Try.func15 rfl 25 rfl (by simp) [] [] (WOK.start _ _) _ rfl ?_
  refine g_seq ?_
  refine g_region ?_
  refine g_op (g_box rfl rfl rfl fun b3 => ?_)
  refine s_q (q_assign rfl) rfl ?_
  refine g_nil ?_
  refine g_then ?_
  refine g_seq ?_
  refine g_seq ?_
  refine g_region ?_
  refine s_q (q_field rfl) rfl ?_
  refine s_q (q_load rfl rfl) rfl ?_
  refine s_q (q_lss rfl rfl) rfl ?_
  refine s_q (q_move rfl) rfl ?_
  refine g_split 8 rfl (fun h1 => ?_) (fun h1 => ?_)
  · refine g_gf rfl rfl rfl rfl ?_
    refine g_gf rfl rfl rfl rfl ?_
    refine g_gf rfl rfl rfl rfl ?_
    refine g_gf rfl rfl rfl rfl ?_
    refine g_gf rfl rfl rfl rfl ?_
    refine s_q (q_pick_t rfl rfl) rfl ?_
    refine g_nil ?_
    refine g_then ?_
    refine g_true rfl ?_
    refine g_seq ?_
    refine g_region ?_
    refine s_q (q_assign rfl) rfl ?_
    refine g_nil ?_
    refine g_then ?_
    refine g_ret ?_
    refine g_then_ret ?_
    exact fin1 rfl (.tmp rfl) (fun w' hw => ⟨by first | (rw [hp]; simp_all; done) | (unfold pchk; rw [if_pos (by first | (simp_all; done) | (simp_all; omega))]), hw.upd⟩) _ (.inl rfl)
  · refine s_qg (q_field rfl) rfl rfl rfl ?_
    refine s_qg (q_load rfl rfl) rfl rfl rfl ?_
    refine s_qg (q_move rfl) rfl rfl rfl ?_
    refine s_qg (q_len rfl) rfl rfl rfl ?_
    refine s_qg (q_geq rfl rfl) rfl rfl rfl ?_
    refine s_q (q_pick_f rfl rfl) rfl ?_
    refine g_nil ?_
    refine g_then ?_
    refine g_cond rfl (fun h2 => ?_) (fun h2 => ?_)
    · refine g_seq ?_
      refine g_region ?_
      refine s_q (q_assign rfl) rfl ?_
      refine g_nil ?_
      refine g_then ?_
      refine g_ret ?_
      refine g_then_ret ?_
      exact fin1 rfl (.tmp rfl) (fun w' hw => ⟨by first | (rw [hp]; simp_all; done) | (unfold pchk; rw [if_pos (by first | (simp_all; done) | (simp_all; omega))]), hw.upd⟩) _ (.inl rfl)
    · obtain ⟨n, rfl⟩ : ∃ n : Nat, i = n := ⟨i.toNat, by simp at h1; omega⟩
      have hn : n < l.length := by simp at h2; omega
      have hget : (l.map V.c)[n]? = some (l[n]).c := by simp [hn]
      have hp : pchk l n m = (if m = 0 then 3 else if (l[n]).st ≠ 2 then 8 else 0) := by unfold pchk; rw [if_neg (by omega), dif_pos (by simpa using hn)]; rfl
      refine g_skip ?_
      refine g_then ?_
      refine g_seq ?_
      refine g_seq ?_
      refine g_region ?_
      refine s_q (q_field rfl) rfl ?_
      refine s_q (q_load rfl rfl) rfl ?_
      refine s_q (q_eql rfl rfl) rfl ?_
      refine g_nil ?_
      refine g_then ?_
      refine g_cond rfl (fun h3 => ?_) (fun h3 => ?_)
      · refine g_seq ?_
        refine g_region ?_
        refine s_q (q_assign rfl) rfl ?_
        refine g_nil ?_
        refine g_then ?_
        refine g_ret ?_
        refine g_then_ret ?_
        exact fin1 rfl (.tmp rfl) (fun w' hw => ⟨by first | (rw [hp]; simp_all; done) | (unfold pchk; rw [if_pos (by first | (simp_all; done) | (simp_all; omega))]), hw.upd⟩) _ (.inl rfl)
      · refine g_skip ?_
        refine g_then ?_
        refine g_seq ?_
        refine g_seq ?_
        refine g_region ?_
        refine s_q (q_move rfl) rfl ?_
        refine s_q (q_field rfl) rfl ?_
        refine s_q (q_load rfl rfl) rfl ?_
        refine s_q (q_index (i := n) rfl rfl rfl (hold.rdb rfl) hn) rfl ?_
        refine s_q (q_field rfl) rfl ?_
        refine s_q (q_load_el (i := n) (o := 1) rfl (hold.rdb rfl) hget rfl rfl) rfl ?_
        refine s_q (q_neq rfl rfl) rfl ?_
        refine g_nil ?_
        refine g_then ?_
        refine g_cond rfl (fun h4 => ?_) (fun h4 => ?_)
        · refine g_seq ?_
          refine g_region ?_
          refine s_q (q_assign rfl) rfl ?_
          refine g_nil ?_
          refine g_then ?_
          refine g_ret ?_
          refine g_then_ret ?_
          exact fin1 rfl (.tmp rfl) (fun w' hw => ⟨by first | (rw [hp]; simp_all; done) | (unfold pchk; rw [if_pos (by first | (simp_all; done) | (simp_all; omega))]), hw.upd⟩) _ (.inl rfl)
        · refine g_skip ?_
          refine g_then ?_
          refine g_seq ?_
          refine g_region ?_
          refine s_q (q_assign rfl) rfl ?_
          refine g_nil ?_
          refine g_then ?_
          refine g_ret ?_
          exact fin1 rfl (.tmp rfl) (fun w' hw => ⟨by first | (rw [hp]; simp_all; done) | (unfold pchk; rw [if_pos (by first | (simp_all; done) | (simp_all; omega))]), hw.upd⟩) _ (.inl rfl)

theorem law_checks (A : Option Addr) (cap : Nat) (l : List V) (i m : Int) (w : World) (hold : Old w A l.length 7 (l.map V.c)) : Pur Try.prog 5 [.slice A l.length cap, .agg [.int .i64 i, .int .u64 m].toArray] w (.bool true) := by
  refine g_start Try.func5 rfl 19 rfl (by simp) [] [] (WOK.start _ _) _ rfl ?_
  refine g_seq ?_
  refine g_region ?_
  refine g_op (g_box rfl rfl rfl fun b3 => ?_)
  refine s_q (q_assign rfl) rfl ?_
  refine g_nil ?_
  refine g_then ?_
  refine g_seq ?_
  refine g_seq ?_
  refine g_region ?_
  refine s_q (q_move rfl) rfl ?_
  refine s_q (q_len rfl) rfl ?_
  refine s_q (q_gtr rfl rfl) rfl ?_
  refine g_nil ?_
  refine g_then ?_
  refine g_cond rfl (fun h1 => ?_) (fun h1 => ?_)
  · refine g_seq ?_
    refine g_region ?_
    refine g_op (g_pure rfl (fun w hw => alive_any w) rfl ?_)
    refine s_q (q_assign rfl) rfl ?_
    refine g_nil ?_
    refine g_then ?_
    refine g_ret ?_
    refine g_then_ret ?_
    exact fin1 rfl (.tmp rfl) (fun w' hw => ⟨by first | rfl | (simp_all; done), hw.upd⟩) _ (.inl rfl)
  · refine g_skip ?_
    refine g_then ?_
    refine g_seq ?_
    refine d_region [] mixed rfl rfl ?_
    refine d_op 0 rfl (by kernel_rfl) (ls' := #[true, false, false, false, false, false, false, false, false, false, false]) rfl wok_id (g_pure rfl (fun w hw => alive_any w) rfl ?_)
    refine g_litb 9 (b := true) rfl (rfl) ?_
    refine d_q 1 rfl (by kernel_rfl) (q_move rfl) wok_id rfl (ls' := #[true, true, false, false, false, false, false, false, false, false, false]) rfl ?_
    refine d_qg 2 rfl (by kernel_rfl) (q_move rfl) rfl rfl wok_id rfl (ls' := #[true, true, true, false, false, false, false, false, false, false, false]) rfl ?_
    refine d_qg 3 rfl (by kernel_rfl) (q_loadw rfl rfl) rfl rfl wok_id rfl (ls' := #[true, true, true, true, false, false, false, false, false, false, false]) rfl ?_
    refine d_qg 5 rfl (by kernel_rfl) (q_move rfl) rfl rfl wok_id rfl (ls' := #[true, true, true, true, false, true, false, false, false, false, false]) rfl ?_
    refine d_qg 6 rfl (by kernel_rfl) (q_loadw rfl rfl) rfl rfl wok_id rfl (ls' := #[true, true, true, true, false, true, true, false, false, false, false]) rfl ?_
    refine d_opg 4 rfl (by kernel_rfl) (ls' := #[true, true, true, true, true, true, true, false, false, false, false]) rfl rfl rfl wok_id (g_pure rfl (fun w hw => pcheck_any _ _ _ _ _ w (Rdb.toOld (hold.rdb rfl) hw)) rfl ?_)
    refine d_opg 7 rfl (by kernel_rfl) (ls' := #[true, true, true, true, true, true, true, true, false, false, false]) rfl rfl rfl wok_id (g_pure rfl (fun w hw => rcheck_any _ _ _ _ _ w (Rdb.toOld (hold.rdb rfl) hw)) rfl ?_)
    refine d_qg 8 rfl (by kernel_rfl) (q_eql rfl rfl) rfl rfl wok_id rfl (ls' := #[true, true, true, true, true, true, true, true, true, false, false]) rfl ?_
    refine d_q 9 rfl (by kernel_rfl) (q_pick_t rfl rfl) wok_id rfl (ls' := #[true, true, true, true, true, true, true, true, true, true, false]) rfl ?_
    refine d_q 10 rfl (by kernel_rfl) (q_assign rfl) wok_id rfl (ls' := #[true, true, true, true, true, true, true, true, true, true, true]) rfl ?_
    refine d_end (by kernel_rfl) (.inr wok_id) ?_
    refine g_then ?_
    refine g_ret ?_
    exact fin1 rfl (.tmp rfl) (fun w' hw => ⟨by first | rfl | (simp_all; done), hw.upd⟩) _ (.inl rfl)


theorem main_checks (v0 v1 : Value) (W : World) (a0 : Arg Try.prog W 36 v0) (a1 : Arg Try.prog W 38 v1) : Pur Try.prog 5 [v0, v1] W (.bool true) := by
  obtain ⟨A, cap, l, rfl, hle, hm, hold, hok⟩ := Arg.slice V.c V.ok Try.underlying36 (show Try.prog.cellsOf 24 = 7 by kernel_rfl) (by omega) openV a0
  obtain ⟨cs, rfl, f, h⟩ := Arg.agg Try.underlying38 a1
  obtain ⟨x, rfl, hx⟩ := openPR f cs h
  exact law_checks A cap l x.i x.m W hold

namespace LawPartialChecks
open Go.ChangeShapes Go.WideShapes Go.ChangeAt Go.RowKit Go.Eg
set_option linter.unusedVariables false
theorem own : ownKnob Try.prog.godebug = none := by kernel_rfl
theorem laidOut : laidOutB Try.prog = true := by kernel_rfl
set_option maxRecDepth 100000 in
theorem lifted (os : Os) (started : os.Started) (H : Type) (enc : TypeId × Value → H) :
    ReturnsInHanded {} Try.checked os 5 .any (Rows.partialChecksSpec.pre6 enc Try.prog Try.f5 Rows.partialChecksRow.domain false) (Rows.partialChecksSpec.post enc Try.prog Try.f5 false true false false) := by
  refine returnsInHanded_of_change (C := Try.checked) own started (by kernel_rfl) Try.func5
    (ChangeSpec.witness6 (enc := enc) (C := Try.checked) false ⟨#[], #[.slice none 0 0, .agg #[.int .i64 0, .int .u64 0]], []⟩ 8 (by kernel_rfl) (by kernel_rfl) (by kernel_rfl) (by kernel_rfl)) ?_
  intro W base args ds gs before hval0 hW hcnd _
  have hval : ∀ (j : Nat) t v, Try.f5.params[j]? = some t → args[j]? = some v → Value.okWide Try.prog W .any base t v := hval0
  have hW' := hW
  obtain ⟨p, q, hA0, hV, rfl, hfz, hnd⟩ := hW
  have hA : DataW.TrodAll enc Try.prog W 0 (fun _ => true) true Try.f5.params.toList args.toList ds p := hA0
  rw [Try.params5] at hA hval
  obtain ⟨v0, vs0, d0, ds0, p0, q0, hargs, rfl, rfl, h0, r0⟩ := trodAll_cons hA
  obtain ⟨v1, vs1, d1, ds1, p1, q1, rfl, rfl, rfl, h1, r1⟩ := trodAll_cons r0
  obtain ⟨rfl, rfl, rfl⟩ := trodAll_nil r1
  obtain rfl : args = #[v0, v1] := by cases args; simp_all
  obtain ⟨rfl, rfl⟩ := trodVars_none hV
  have a0 := Arg.of h0 (hval 0 36 v0 rfl rfl)
  have lt0 : ∀ x ∈ p0, x.block < W.heap.size := by obtain ⟨m, hm⟩ := h0; exact DataW.trod_lt m _ _ _ hm
  have a1 := Arg.of h1 (hval 1 38 v1 rfl rfl)
  have lt1 : ∀ x ∈ p1, x.block < W.heap.size := by obtain ⟨m, hm⟩ := h1; exact DataW.trod_lt m _ _ _ hm
  clear hA0 hval0
  simp only [List.append_nil] at hW'
  refine Calls.mono (main_checks v0 v1 W a0 a1) ?_
  rintro e W' ⟨v, rfl, rfl, hu⟩
  have bel := hu.below
  have targ := (trodAll_cons_mk (Below.trod laidOut (by kernel_rfl) (of_decide_eq_true (by kernel_rfl)) h0 bel lt0) (trodAll_cons_mk (Below.trod laidOut (by kernel_rfl) (of_decide_eq_true (by kernel_rfl)) h1 bel lt1) trodAll_mk0))
  simp only [List.append_nil] at targ
  exact ⟨_, rfl, _, _, _, [], _, [], hW', trodAll_mk1 (shut_bool Try.underlying4 _), targ, rfl, bel.frame _, fun h => by cases h⟩
theorem over : Rows.partialChecksRow.holds Try.pinned (OpenSpec.ofChange Rows.partialChecksSpec) :=
  OpenClaim.holds_of_wide 5 Try.f5 rfl rfl rfl rfl rfl rfl rfl ⟨rfl, rfl, rfl, rfl, rfl⟩ rfl rfl rfl rfl rfl (by kernel_rfl) Try.func5 (by kernel_rfl)
    (of_decide_eq_true (by kernel_rfl)) (by unfold Func.isWrapper; first | (rw [if_pos (by decide +kernel)]; kernel_rfl) | (rw [if_neg (by decide +kernel)]; exact ⟨rfl, rfl⟩))
    (fun os started H enc _ => lifted os started H enc)
theorem proved : Rows.PartialChecksSaid := over
end LawPartialChecks
end Go.Proofs.Ytmbnpdjchkadhaa
