/- walks of small functions -/
import Derived.Test.YtmbnpdjchkadhaaO
namespace Go.Proofs.Ytmbnpdjchkadhaa
open Go.RowKit Go.Eg
set_option synthInstance.maxSize 3000
set_option linter.unusedSimpArgs false
set_option linter.unusedVariables false
structure Y where
  i : Int
  a : Int
  f : Bool
  deriving DecidableEq
def Y.c (x : Y) : List Value := [.int .i64 x.i, .int .u64 x.a, .bool x.f]
theorem Y.ext_iff' (x y : Y) : x = y ↔ (x.i = y.i ∧ x.a = y.a ∧ x.f = y.f) := by
  cases x; cases y; simp





def dflt : C := ⟨16, 8, 16, 64, 1024, 8, 128, 32, 4, 64, 2, 5, 4, 4, 6, 4, 2, 2, 1, 4⟩

theorem dflt_any  (w : World) : Pur Try.prog 22 [] w (dflt.v) := by
  refine g_start Try.func22 rfl 2 rfl (by simp) [] [] (WOK.start _ _) _ rfl ?_
  refine g_seq ?_
  refine g_region ?_
  refine g_op (g_alloc rfl fun b0 => ?_)
  refine g_nil ?_
  refine g_then ?_
  refine g_seq ?_
  refine g_region ?_
  refine s_q (q_build (c := dflt.c) rfl rfl) rfl ?_
  refine g_op (g_storew rfl rfl rfl rfl rfl ?_)
  refine g_nil ?_
  refine g_then ?_
  refine g_ret ?_
  exact fin1 rfl (.cellw rfl rfl) (fun w' hw => ⟨by rfl, hw.upd⟩) _ (.inl rfl)

def btw (n lo hi : Int) : Bool := decide (lo ≤ n) && decide (n ≤ hi)
def rightB (c : C) (i : Int) : Bool :=
  if i = 1 then btw c.capa 1 4096 else if i = 2 then btw c.qsize 1 4096 else if i = 3 then decide (1 ≤ c.mind) else if i = 4 then decide (c.mind ≤ c.maxd)
  else if i = 5 then decide (c.maxd ≤ c.supc) && decide (c.supc ≤ 1152921504606846976) else if i = 6 then decide (1 ≤ c.minb) && decide (c.minb ≤ c.mind)
  else if i = 7 then decide (c.maxd ≤ c.maxb) && decide (c.maxb ≤ c.supc) else if i = 8 then decide (1 ≤ c.minch) && decide (c.minch ≤ 1152921504606846976)
  else if i = 9 then decide (1 ≤ c.quot) else if i = 10 then decide (c.fcap ≤ 1152921504606846976) else if i = 11 then btw c.unb 1 1048576
  else if i = 12 then decide (c.unb < c.sld) && decide (c.sld ≤ 1048576) else if i = 13 then btw c.rlen 1 4096 else if i = 14 then btw c.elen 1 4096
  else if i = 15 then btw c.vis 1 4096 else if i = 16 then btw c.pays 1 4096 else if i = 17 then decide (0 ≤ c.parts) && (decide (c.parts < c.vis) && decide (c.parts < c.pays))
  else if i = 18 then btw c.merg 0 4096 else if i = 19 then decide (c.pnum ≤ c.pden) else decide (1 ≤ c.pden) && decide (c.pden ≤ 4294967296)
def chkF (c : C) : Nat → Nat → Int
  | 0, _ => 0
  | f + 1, i => if rightB c i then chkF c f (i + 1) else i
def chk (c : C) : Int := chkF c 20 1
theorem chkF_right {c : C} : ∀ {f i : Nat}, chkF c f i = 0 → 0 < i → ∀ j, i ≤ j → j < i + f → rightB c j = true
  | 0, i, _, _, j, h1, h2 => by omega
  | f + 1, i, h, hi, j, h1, h2 => by
    unfold chkF at h
    split at h
    · by_cases hj : j = i
      · subst hj; assumption
      · exact chkF_right h (by omega) j (by omega) (by omega)
    · omega
theorem chk_right {c : C} (h : chk c = 0) (j : Nat) (h1 : 1 ≤ j) (h2 : j ≤ 20) : rightB c j = true := chkF_right h (by omega) j h1 (by omega)


theorem btw_any (n lo hi : Int) (w : World) : Pur Try.prog 28 [.int .i64 n, .int .i64 lo, .int .i64 hi] w (.bool (btw n lo hi)) := by
  refine g_start Try.func28 rfl 15 rfl (by simp) [] [] (WOK.start _ _) _ rfl ?_
  refine g_seq ?_
  refine g_region ?_
  refine s_q (q_assign rfl) rfl ?_
  refine g_nil ?_
  refine g_then ?_
  refine g_seq ?_
  refine g_region ?_
  refine s_q (q_move rfl) rfl ?_
  refine s_q (q_move rfl) rfl ?_
  refine s_q (q_leq rfl rfl) rfl ?_
  refine s_q (q_move rfl) rfl ?_
  refine g_split 10 rfl (fun h1 => ?_) (fun h1 => ?_)
  · refine s_qg (q_move rfl) rfl rfl rfl ?_
    refine s_qg (q_move rfl) rfl rfl rfl ?_
    refine s_qg (q_leq rfl rfl) rfl rfl rfl ?_
    refine s_q (q_pick_t rfl rfl) rfl ?_
    refine s_q (q_assign rfl) rfl ?_
    refine g_nil ?_
    refine g_then ?_
    refine g_ret ?_
    exact fin1 rfl (.tmp rfl) (fun w' hw => ⟨by first | rfl | (simp_all [btw]; done) | (simp_all [btw]; omega) | (simp_all [btw] <;> intros <;> omega), hw.upd⟩) _ (.inl rfl)
  · refine g_gf rfl rfl rfl rfl ?_
    refine g_gf rfl rfl rfl rfl ?_
    refine g_gf rfl rfl rfl rfl ?_
    refine s_q (q_pick_f rfl rfl) rfl ?_
    refine s_q (q_assign rfl) rfl ?_
    refine g_nil ?_
    refine g_then ?_
    refine g_ret ?_
    exact fin1 rfl (.tmp rfl) (fun w' hw => ⟨by first | rfl | (simp_all [btw]; done) | (simp_all [btw]; omega) | (simp_all [btw] <;> intros <;> omega), hw.upd⟩) _ (.inl rfl)

set_option maxHeartbeats 4000000 in
theorem right_any (c : C) (i : Int) (w : World) : Pur Try.prog 21 [c.v, .int .i64 i] w (.bool (rightB c i)) := by
  refine g_start Try.func21 rfl 166 rfl (by simp) [] [] (WOK.start _ _) _ rfl ?_
  refine g_seq ?_
  refine g_region ?_
  refine g_op (g_box rfl rfl rfl fun b2 => ?_)
  refine s_q (q_assign rfl) rfl ?_
  refine g_nil ?_
  refine g_then ?_
  refine g_seq ?_
  refine g_region ?_
  refine s_q (q_assign rfl) rfl ?_
  refine g_nil ?_
  refine g_then ?_
  refine g_seq ?_
  refine g_seq ?_
  refine g_region ?_
  refine s_q (q_move rfl) rfl ?_
  refine g_nil ?_
  refine g_then ?_
  refine g_block ?_
  refine g_seq ?_
  refine g_region ?_
  refine s_q (q_eql rfl rfl) rfl ?_
  refine s_q (q_assign rfl) rfl ?_
  refine g_nil ?_
  refine g_then ?_
  refine g_cond rfl (fun h1 => ?_) (fun h1 => ?_)
  · refine g_seq ?_
    refine g_region ?_
    refine s_q (q_field rfl) rfl ?_
    refine s_q (q_load rfl rfl) rfl ?_
    refine g_op (g_pure rfl (fun w hw => btw_any _ _ _ w) rfl ?_)
    refine s_q (q_assign rfl) rfl ?_
    refine g_nil ?_
    refine g_then ?_
    refine g_ret ?_
    refine g_blk_ret (g_then_ret ?_)
    exact fin1 rfl (.tmp rfl) (fun w' hw => ⟨by first | rfl | (simp_all [rightB]; done) | (simp_all [rightB]; omega) | (simp_all [rightB] <;> intros <;> omega), hw.upd⟩) _ (.inl rfl)
  · refine g_seq ?_
    refine g_region ?_
    refine s_q (q_eql rfl rfl) rfl ?_
    refine s_q (q_assign rfl) rfl ?_
    refine g_nil ?_
    refine g_then ?_
    refine g_cond rfl (fun h2 => ?_) (fun h2 => ?_)
    · refine g_seq ?_
      refine g_region ?_
      refine s_q (q_field rfl) rfl ?_
      refine s_q (q_load rfl rfl) rfl ?_
      refine g_op (g_pure rfl (fun w hw => btw_any _ _ _ w) rfl ?_)
      refine s_q (q_assign rfl) rfl ?_
      refine g_nil ?_
      refine g_then ?_
      refine g_ret ?_
      refine g_blk_ret (g_then_ret ?_)
      exact fin1 rfl (.tmp rfl) (fun w' hw => ⟨by first | rfl | (simp_all [rightB]; done) | (simp_all [rightB]; omega) | (simp_all [rightB] <;> intros <;> omega), hw.upd⟩) _ (.inl rfl)
    · refine g_seq ?_
      refine g_region ?_
      refine s_q (q_eql rfl rfl) rfl ?_
      refine s_q (q_assign rfl) rfl ?_
      refine g_nil ?_
      refine g_then ?_
      refine g_cond rfl (fun h3 => ?_) (fun h3 => ?_)
      · refine g_seq ?_
        refine g_region ?_
        refine s_q (q_field rfl) rfl ?_
        refine s_q (q_load rfl rfl) rfl ?_
        refine s_q (q_geq rfl rfl) rfl ?_
        refine s_q (q_assign rfl) rfl ?_
        refine g_nil ?_
        refine g_then ?_
        refine g_ret ?_
        refine g_blk_ret (g_then_ret ?_)
        exact fin1 rfl (.tmp rfl) (fun w' hw => ⟨by first | rfl | (simp_all [rightB]; done) | (simp_all [rightB]; omega) | (simp_all [rightB] <;> intros <;> omega), hw.upd⟩) _ (.inl rfl)
      · refine g_seq ?_
        refine g_region ?_
        refine s_q (q_eql rfl rfl) rfl ?_
        refine s_q (q_assign rfl) rfl ?_
        refine g_nil ?_
        refine g_then ?_
        refine g_cond rfl (fun h4 => ?_) (fun h4 => ?_)
        · refine g_seq ?_
          refine g_region ?_
          refine s_q (q_field rfl) rfl ?_
          refine s_q (q_load rfl rfl) rfl ?_
          refine s_q (q_field rfl) rfl ?_
          refine s_q (q_load rfl rfl) rfl ?_
          refine s_q (q_geq rfl rfl) rfl ?_
          refine s_q (q_assign rfl) rfl ?_
          refine g_nil ?_
          refine g_then ?_
          refine g_ret ?_
          refine g_blk_ret (g_then_ret ?_)
          exact fin1 rfl (.tmp rfl) (fun w' hw => ⟨by first | rfl | (simp_all [rightB]; done) | (simp_all [rightB]; omega) | (simp_all [rightB] <;> intros <;> omega), hw.upd⟩) _ (.inl rfl)
        · refine g_seq ?_
          refine g_region ?_
          refine s_q (q_eql rfl rfl) rfl ?_
          refine s_q (q_assign rfl) rfl ?_
          refine g_nil ?_
          refine g_then ?_
          refine g_cond rfl (fun h5 => ?_) (fun h5 => ?_)
          · refine g_seq ?_
            refine g_region ?_
            refine s_q (q_field rfl) rfl ?_
            refine s_q (q_load rfl rfl) rfl ?_
            refine s_q (q_field rfl) rfl ?_
            refine s_q (q_load rfl rfl) rfl ?_
            refine s_q (q_geq rfl rfl) rfl ?_
            refine s_q (q_move rfl) rfl ?_
            refine g_split 36 rfl (fun h6 => ?_) (fun h6 => ?_)
            · refine s_qg (q_field rfl) rfl rfl rfl ?_
              refine s_qg (q_load rfl rfl) rfl rfl rfl ?_
              refine s_qg (q_move rfl) rfl rfl rfl ?_
              refine s_qg (q_leq rfl rfl) rfl rfl rfl ?_
              refine s_q (q_pick_t rfl rfl) rfl ?_
              refine s_q (q_assign rfl) rfl ?_
              refine g_nil ?_
              refine g_then ?_
              refine g_ret ?_
              refine g_blk_ret (g_then_ret ?_)
              exact fin1 rfl (.tmp rfl) (fun w' hw => ⟨by first | rfl | (simp_all [rightB]; done) | (simp_all [rightB]; omega) | (simp_all [rightB] <;> intros <;> omega), hw.upd⟩) _ (.inl rfl)
            · refine g_gf rfl rfl rfl rfl ?_
              refine g_gf rfl rfl rfl rfl ?_
              refine g_gf rfl rfl rfl rfl ?_
              refine g_gf rfl rfl rfl rfl ?_
              refine s_q (q_pick_f rfl rfl) rfl ?_
              refine s_q (q_assign rfl) rfl ?_
              refine g_nil ?_
              refine g_then ?_
              refine g_ret ?_
              refine g_blk_ret (g_then_ret ?_)
              exact fin1 rfl (.tmp rfl) (fun w' hw => ⟨by first | rfl | (simp_all [rightB]; done) | (simp_all [rightB]; omega) | (simp_all [rightB] <;> intros <;> omega), hw.upd⟩) _ (.inl rfl)
          · refine g_seq ?_
            refine g_region ?_
            refine s_q (q_eql rfl rfl) rfl ?_
            refine s_q (q_assign rfl) rfl ?_
            refine g_nil ?_
            refine g_then ?_
            refine g_cond rfl (fun h7 => ?_) (fun h7 => ?_)
            · refine g_seq ?_
              refine g_region ?_
              refine s_q (q_field rfl) rfl ?_
              refine s_q (q_load rfl rfl) rfl ?_
              refine s_q (q_geq rfl rfl) rfl ?_
              refine s_q (q_move rfl) rfl ?_
              refine g_split 47 rfl (fun h8 => ?_) (fun h8 => ?_)
              · refine s_qg (q_field rfl) rfl rfl rfl ?_
                refine s_qg (q_load rfl rfl) rfl rfl rfl ?_
                refine s_qg (q_field rfl) rfl rfl rfl ?_
                refine s_qg (q_load rfl rfl) rfl rfl rfl ?_
                refine s_qg (q_leq rfl rfl) rfl rfl rfl ?_
                refine s_q (q_pick_t rfl rfl) rfl ?_
                refine s_q (q_assign rfl) rfl ?_
                refine g_nil ?_
                refine g_then ?_
                refine g_ret ?_
                refine g_blk_ret (g_then_ret ?_)
                exact fin1 rfl (.tmp rfl) (fun w' hw => ⟨by first | rfl | (simp_all [rightB]; done) | (simp_all [rightB]; omega) | (simp_all [rightB] <;> intros <;> omega), hw.upd⟩) _ (.inl rfl)
              · refine g_gf rfl rfl rfl rfl ?_
                refine g_gf rfl rfl rfl rfl ?_
                refine g_gf rfl rfl rfl rfl ?_
                refine g_gf rfl rfl rfl rfl ?_
                refine g_gf rfl rfl rfl rfl ?_
                refine s_q (q_pick_f rfl rfl) rfl ?_
                refine s_q (q_assign rfl) rfl ?_
                refine g_nil ?_
                refine g_then ?_
                refine g_ret ?_
                refine g_blk_ret (g_then_ret ?_)
                exact fin1 rfl (.tmp rfl) (fun w' hw => ⟨by first | rfl | (simp_all [rightB]; done) | (simp_all [rightB]; omega) | (simp_all [rightB] <;> intros <;> omega), hw.upd⟩) _ (.inl rfl)
            · refine g_seq ?_
              refine g_region ?_
              refine s_q (q_eql rfl rfl) rfl ?_
              refine s_q (q_assign rfl) rfl ?_
              refine g_nil ?_
              refine g_then ?_
              refine g_cond rfl (fun h9 => ?_) (fun h9 => ?_)
              · refine g_seq ?_
                refine g_region ?_
                refine s_q (q_field rfl) rfl ?_
                refine s_q (q_load rfl rfl) rfl ?_
                refine s_q (q_field rfl) rfl ?_
                refine s_q (q_load rfl rfl) rfl ?_
                refine s_q (q_geq rfl rfl) rfl ?_
                refine s_q (q_move rfl) rfl ?_
                refine g_split 61 rfl (fun h10 => ?_) (fun h10 => ?_)
                · refine s_qg (q_field rfl) rfl rfl rfl ?_
                  refine s_qg (q_load rfl rfl) rfl rfl rfl ?_
                  refine s_qg (q_field rfl) rfl rfl rfl ?_
                  refine s_qg (q_load rfl rfl) rfl rfl rfl ?_
                  refine s_qg (q_leq rfl rfl) rfl rfl rfl ?_
                  refine s_q (q_pick_t rfl rfl) rfl ?_
                  refine s_q (q_assign rfl) rfl ?_
                  refine g_nil ?_
                  refine g_then ?_
                  refine g_ret ?_
                  refine g_blk_ret (g_then_ret ?_)
                  exact fin1 rfl (.tmp rfl) (fun w' hw => ⟨by first | rfl | (simp_all [rightB]; done) | (simp_all [rightB]; omega) | (simp_all [rightB] <;> intros <;> omega), hw.upd⟩) _ (.inl rfl)
                · refine g_gf rfl rfl rfl rfl ?_
                  refine g_gf rfl rfl rfl rfl ?_
                  refine g_gf rfl rfl rfl rfl ?_
                  refine g_gf rfl rfl rfl rfl ?_
                  refine g_gf rfl rfl rfl rfl ?_
                  refine s_q (q_pick_f rfl rfl) rfl ?_
                  refine s_q (q_assign rfl) rfl ?_
                  refine g_nil ?_
                  refine g_then ?_
                  refine g_ret ?_
                  refine g_blk_ret (g_then_ret ?_)
                  exact fin1 rfl (.tmp rfl) (fun w' hw => ⟨by first | rfl | (simp_all [rightB]; done) | (simp_all [rightB]; omega) | (simp_all [rightB] <;> intros <;> omega), hw.upd⟩) _ (.inl rfl)
              · refine g_seq ?_
                refine g_region ?_
                refine s_q (q_eql rfl rfl) rfl ?_
                refine s_q (q_assign rfl) rfl ?_
                refine g_nil ?_
                refine g_then ?_
                refine g_cond rfl (fun h11 => ?_) (fun h11 => ?_)
                · refine g_seq ?_
                  refine g_region ?_
                  refine s_q (q_field rfl) rfl ?_
                  refine s_q (q_load rfl rfl) rfl ?_
                  refine s_q (q_geq rfl rfl) rfl ?_
                  refine s_q (q_move rfl) rfl ?_
                  refine g_split 73 rfl (fun h12 => ?_) (fun h12 => ?_)
                  · refine s_qg (q_field rfl) rfl rfl rfl ?_
                    refine s_qg (q_load rfl rfl) rfl rfl rfl ?_
                    refine s_qg (q_move rfl) rfl rfl rfl ?_
                    refine s_qg (q_leq rfl rfl) rfl rfl rfl ?_
                    refine s_q (q_pick_t rfl rfl) rfl ?_
                    refine s_q (q_assign rfl) rfl ?_
                    refine g_nil ?_
                    refine g_then ?_
                    refine g_ret ?_
                    refine g_blk_ret (g_then_ret ?_)
                    exact fin1 rfl (.tmp rfl) (fun w' hw => ⟨by first | rfl | (simp_all [rightB]; done) | (simp_all [rightB]; omega) | (simp_all [rightB] <;> intros <;> omega), hw.upd⟩) _ (.inl rfl)
                  · refine g_gf rfl rfl rfl rfl ?_
                    refine g_gf rfl rfl rfl rfl ?_
                    refine g_gf rfl rfl rfl rfl ?_
                    refine g_gf rfl rfl rfl rfl ?_
                    refine s_q (q_pick_f rfl rfl) rfl ?_
                    refine s_q (q_assign rfl) rfl ?_
                    refine g_nil ?_
                    refine g_then ?_
                    refine g_ret ?_
                    refine g_blk_ret (g_then_ret ?_)
                    exact fin1 rfl (.tmp rfl) (fun w' hw => ⟨by first | rfl | (simp_all [rightB]; done) | (simp_all [rightB]; omega) | (simp_all [rightB] <;> intros <;> omega), hw.upd⟩) _ (.inl rfl)
                · refine g_seq ?_
                  refine g_region ?_
                  refine s_q (q_eql rfl rfl) rfl ?_
                  refine s_q (q_assign rfl) rfl ?_
                  refine g_nil ?_
                  refine g_then ?_
                  refine g_cond rfl (fun h13 => ?_) (fun h13 => ?_)
                  · refine g_seq ?_
                    refine g_region ?_
                    refine s_q (q_field rfl) rfl ?_
                    refine s_q (q_load rfl rfl) rfl ?_
                    refine s_q (q_geq rfl rfl) rfl ?_
                    refine s_q (q_assign rfl) rfl ?_
                    refine g_nil ?_
                    refine g_then ?_
                    refine g_ret ?_
                    refine g_blk_ret (g_then_ret ?_)
                    exact fin1 rfl (.tmp rfl) (fun w' hw => ⟨by first | rfl | (simp_all [rightB]; done) | (simp_all [rightB]; omega) | (simp_all [rightB] <;> intros <;> omega), hw.upd⟩) _ (.inl rfl)
                  · refine g_seq ?_
                    refine g_region ?_
                    refine s_q (q_eql rfl rfl) rfl ?_
                    refine s_q (q_assign rfl) rfl ?_
                    refine g_nil ?_
                    refine g_then ?_
                    refine g_cond rfl (fun h14 => ?_) (fun h14 => ?_)
                    · refine g_seq ?_
                      refine g_region ?_
                      refine s_q (q_field rfl) rfl ?_
                      refine s_q (q_load rfl rfl) rfl ?_
                      refine s_q (q_move rfl) rfl ?_
                      refine s_q (q_leq rfl rfl) rfl ?_
                      refine s_q (q_assign rfl) rfl ?_
                      refine g_nil ?_
                      refine g_then ?_
                      refine g_ret ?_
                      refine g_blk_ret (g_then_ret ?_)
                      exact fin1 rfl (.tmp rfl) (fun w' hw => ⟨by first | rfl | (simp_all [rightB]; done) | (simp_all [rightB]; omega) | (simp_all [rightB] <;> intros <;> omega), hw.upd⟩) _ (.inl rfl)
                    · refine g_seq ?_
                      refine g_region ?_
                      refine s_q (q_eql rfl rfl) rfl ?_
                      refine s_q (q_assign rfl) rfl ?_
                      refine g_nil ?_
                      refine g_then ?_
                      refine g_cond rfl (fun h15 => ?_) (fun h15 => ?_)
                      · refine g_seq ?_
                        refine g_region ?_
                        refine s_q (q_field rfl) rfl ?_
                        refine s_q (q_load rfl rfl) rfl ?_
                        refine g_op (g_pure rfl (fun w hw => btw_any _ _ _ w) rfl ?_)
                        refine s_q (q_assign rfl) rfl ?_
                        refine g_nil ?_
                        refine g_then ?_
                        refine g_ret ?_
                        refine g_blk_ret (g_then_ret ?_)
                        exact fin1 rfl (.tmp rfl) (fun w' hw => ⟨by first | rfl | (simp_all [rightB]; done) | (simp_all [rightB]; omega) | (simp_all [rightB] <;> intros <;> omega), hw.upd⟩) _ (.inl rfl)
                      · refine g_seq ?_
                        refine g_region ?_
                        refine s_q (q_eql rfl rfl) rfl ?_
                        refine s_q (q_assign rfl) rfl ?_
                        refine g_nil ?_
                        refine g_then ?_
                        refine g_cond rfl (fun h16 => ?_) (fun h16 => ?_)
                        · refine g_seq ?_
                          refine g_region ?_
                          refine s_q (q_field rfl) rfl ?_
                          refine s_q (q_load rfl rfl) rfl ?_
                          refine s_q (q_field rfl) rfl ?_
                          refine s_q (q_load rfl rfl) rfl ?_
                          refine s_q (q_gtr rfl rfl) rfl ?_
                          refine s_q (q_move rfl) rfl ?_
                          refine g_split 102 rfl (fun h17 => ?_) (fun h17 => ?_)
                          · refine s_qg (q_field rfl) rfl rfl rfl ?_
                            refine s_qg (q_load rfl rfl) rfl rfl rfl ?_
                            refine s_qg (q_leq rfl rfl) rfl rfl rfl ?_
                            refine s_q (q_pick_t rfl rfl) rfl ?_
                            refine s_q (q_assign rfl) rfl ?_
                            refine g_nil ?_
                            refine g_then ?_
                            refine g_ret ?_
                            refine g_blk_ret (g_then_ret ?_)
                            exact fin1 rfl (.tmp rfl) (fun w' hw => ⟨by first | rfl | (simp_all [rightB]; done) | (simp_all [rightB]; omega) | (simp_all [rightB] <;> intros <;> omega), hw.upd⟩) _ (.inl rfl)
                          · refine g_gf rfl rfl rfl rfl ?_
                            refine g_gf rfl rfl rfl rfl ?_
                            refine g_gf rfl rfl rfl rfl ?_
                            refine s_q (q_pick_f rfl rfl) rfl ?_
                            refine s_q (q_assign rfl) rfl ?_
                            refine g_nil ?_
                            refine g_then ?_
                            refine g_ret ?_
                            refine g_blk_ret (g_then_ret ?_)
                            exact fin1 rfl (.tmp rfl) (fun w' hw => ⟨by first | rfl | (simp_all [rightB]; done) | (simp_all [rightB]; omega) | (simp_all [rightB] <;> intros <;> omega), hw.upd⟩) _ (.inl rfl)
                        · refine g_seq ?_
                          refine g_region ?_
                          refine s_q (q_eql rfl rfl) rfl ?_
                          refine s_q (q_assign rfl) rfl ?_
                          refine g_nil ?_
                          refine g_then ?_
                          refine g_cond rfl (fun h18 => ?_) (fun h18 => ?_)
                          · refine g_seq ?_
                            refine g_region ?_
                            refine s_q (q_field rfl) rfl ?_
                            refine s_q (q_load rfl rfl) rfl ?_
                            refine g_op (g_pure rfl (fun w hw => btw_any _ _ _ w) rfl ?_)
                            refine s_q (q_assign rfl) rfl ?_
                            refine g_nil ?_
                            refine g_then ?_
                            refine g_ret ?_
                            refine g_blk_ret (g_then_ret ?_)
                            exact fin1 rfl (.tmp rfl) (fun w' hw => ⟨by first | rfl | (simp_all [rightB]; done) | (simp_all [rightB]; omega) | (simp_all [rightB] <;> intros <;> omega), hw.upd⟩) _ (.inl rfl)
                          · refine g_seq ?_
                            refine g_region ?_
                            refine s_q (q_eql rfl rfl) rfl ?_
                            refine s_q (q_assign rfl) rfl ?_
                            refine g_nil ?_
                            refine g_then ?_
                            refine g_cond rfl (fun h19 => ?_) (fun h19 => ?_)
                            · refine g_seq ?_
                              refine g_region ?_
                              refine s_q (q_field rfl) rfl ?_
                              refine s_q (q_load rfl rfl) rfl ?_
                              refine g_op (g_pure rfl (fun w hw => btw_any _ _ _ w) rfl ?_)
                              refine s_q (q_assign rfl) rfl ?_
                              refine g_nil ?_
                              refine g_then ?_
                              refine g_ret ?_
                              refine g_blk_ret (g_then_ret ?_)
                              exact fin1 rfl (.tmp rfl) (fun w' hw => ⟨by first | rfl | (simp_all [rightB]; done) | (simp_all [rightB]; omega) | (simp_all [rightB] <;> intros <;> omega), hw.upd⟩) _ (.inl rfl)
                            · refine g_seq ?_
                              refine g_region ?_
                              refine s_q (q_eql rfl rfl) rfl ?_
                              refine s_q (q_assign rfl) rfl ?_
                              refine g_nil ?_
                              refine g_then ?_
                              refine g_cond rfl (fun h20 => ?_) (fun h20 => ?_)
                              · refine g_seq ?_
                                refine g_region ?_
                                refine s_q (q_field rfl) rfl ?_
                                refine s_q (q_load rfl rfl) rfl ?_
                                refine g_op (g_pure rfl (fun w hw => btw_any _ _ _ w) rfl ?_)
                                refine s_q (q_assign rfl) rfl ?_
                                refine g_nil ?_
                                refine g_then ?_
                                refine g_ret ?_
                                refine g_blk_ret (g_then_ret ?_)
                                exact fin1 rfl (.tmp rfl) (fun w' hw => ⟨by first | rfl | (simp_all [rightB]; done) | (simp_all [rightB]; omega) | (simp_all [rightB] <;> intros <;> omega), hw.upd⟩) _ (.inl rfl)
                              · refine g_seq ?_
                                refine g_region ?_
                                refine s_q (q_eql rfl rfl) rfl ?_
                                refine s_q (q_assign rfl) rfl ?_
                                refine g_nil ?_
                                refine g_then ?_
                                refine g_cond rfl (fun h21 => ?_) (fun h21 => ?_)
                                · refine g_seq ?_
                                  refine g_region ?_
                                  refine s_q (q_field rfl) rfl ?_
                                  refine s_q (q_load rfl rfl) rfl ?_
                                  refine g_op (g_pure rfl (fun w hw => btw_any _ _ _ w) rfl ?_)
                                  refine s_q (q_assign rfl) rfl ?_
                                  refine g_nil ?_
                                  refine g_then ?_
                                  refine g_ret ?_
                                  refine g_blk_ret (g_then_ret ?_)
                                  exact fin1 rfl (.tmp rfl) (fun w' hw => ⟨by first | rfl | (simp_all [rightB]; done) | (simp_all [rightB]; omega) | (simp_all [rightB] <;> intros <;> omega), hw.upd⟩) _ (.inl rfl)
                                · refine g_seq ?_
                                  refine g_region ?_
                                  refine s_q (q_eql rfl rfl) rfl ?_
                                  refine s_q (q_assign rfl) rfl ?_
                                  refine g_nil ?_
                                  refine g_then ?_
                                  refine g_cond rfl (fun h22 => ?_) (fun h22 => ?_)
                                  · refine g_seq ?_
                                    refine g_region ?_
                                    refine s_q (q_field rfl) rfl ?_
                                    refine s_q (q_load rfl rfl) rfl ?_
                                    refine s_q (q_geq rfl rfl) rfl ?_
                                    refine s_q (q_move rfl) rfl ?_
                                    refine g_split 132 rfl (fun h23 => ?_) (fun h23 => ?_)
                                    · refine s_qg (q_field rfl) rfl rfl rfl ?_
                                      refine s_qg (q_load rfl rfl) rfl rfl rfl ?_
                                      refine s_qg (q_field rfl) rfl rfl rfl ?_
                                      refine s_qg (q_load rfl rfl) rfl rfl rfl ?_
                                      refine s_qg (q_lss rfl rfl) rfl rfl rfl ?_
                                      refine s_q (q_pick_t rfl rfl) rfl ?_
                                      refine s_q (q_move rfl) rfl ?_
                                      refine g_split 139 rfl (fun h24 => ?_) (fun h24 => ?_)
                                      · refine s_qg (q_field rfl) rfl rfl rfl ?_
                                        refine s_qg (q_load rfl rfl) rfl rfl rfl ?_
                                        refine s_qg (q_field rfl) rfl rfl rfl ?_
                                        refine s_qg (q_load rfl rfl) rfl rfl rfl ?_
                                        refine s_qg (q_lss rfl rfl) rfl rfl rfl ?_
                                        refine s_q (q_pick_t rfl rfl) rfl ?_
                                        refine s_q (q_assign rfl) rfl ?_
                                        refine g_nil ?_
                                        refine g_then ?_
                                        refine g_ret ?_
                                        refine g_blk_ret (g_then_ret ?_)
                                        exact fin1 rfl (.tmp rfl) (fun w' hw => ⟨by first | rfl | (simp_all [rightB]; done) | (simp_all [rightB]; omega) | (simp_all [rightB] <;> intros <;> omega), hw.upd⟩) _ (.inl rfl)
                                      · refine g_gf rfl rfl rfl rfl ?_
                                        refine g_gf rfl rfl rfl rfl ?_
                                        refine g_gf rfl rfl rfl rfl ?_
                                        refine g_gf rfl rfl rfl rfl ?_
                                        refine g_gf rfl rfl rfl rfl ?_
                                        refine s_q (q_pick_f rfl rfl) rfl ?_
                                        refine s_q (q_assign rfl) rfl ?_
                                        refine g_nil ?_
                                        refine g_then ?_
                                        refine g_ret ?_
                                        refine g_blk_ret (g_then_ret ?_)
                                        exact fin1 rfl (.tmp rfl) (fun w' hw => ⟨by first | rfl | (simp_all [rightB]; done) | (simp_all [rightB]; omega) | (simp_all [rightB] <;> intros <;> omega), hw.upd⟩) _ (.inl rfl)
                                    · refine g_gf rfl rfl rfl rfl ?_
                                      refine g_gf rfl rfl rfl rfl ?_
                                      refine g_gf rfl rfl rfl rfl ?_
                                      refine g_gf rfl rfl rfl rfl ?_
                                      refine g_gf rfl rfl rfl rfl ?_
                                      refine s_q (q_pick_f rfl rfl) rfl ?_
                                      refine s_q (q_move rfl) rfl ?_
                                      refine g_gf rfl rfl rfl rfl ?_
                                      refine g_gf rfl rfl rfl rfl ?_
                                      refine g_gf rfl rfl rfl rfl ?_
                                      refine g_gf rfl rfl rfl rfl ?_
                                      refine g_gf rfl rfl rfl rfl ?_
                                      refine s_q (q_pick_f rfl rfl) rfl ?_
                                      refine s_q (q_assign rfl) rfl ?_
                                      refine g_nil ?_
                                      refine g_then ?_
                                      refine g_ret ?_
                                      refine g_blk_ret (g_then_ret ?_)
                                      exact fin1 rfl (.tmp rfl) (fun w' hw => ⟨by first | rfl | (simp_all [rightB]; done) | (simp_all [rightB]; omega) | (simp_all [rightB] <;> intros <;> omega), hw.upd⟩) _ (.inl rfl)
                                  · refine g_seq ?_
                                    refine g_region ?_
                                    refine s_q (q_eql rfl rfl) rfl ?_
                                    refine s_q (q_assign rfl) rfl ?_
                                    refine g_nil ?_
                                    refine g_then ?_
                                    refine g_cond rfl (fun h25 => ?_) (fun h25 => ?_)
                                    · refine g_seq ?_
                                      refine g_region ?_
                                      refine s_q (q_field rfl) rfl ?_
                                      refine s_q (q_load rfl rfl) rfl ?_
                                      refine g_op (g_pure rfl (fun w hw => btw_any _ _ _ w) rfl ?_)
                                      refine s_q (q_assign rfl) rfl ?_
                                      refine g_nil ?_
                                      refine g_then ?_
                                      refine g_ret ?_
                                      refine g_blk_ret (g_then_ret ?_)
                                      exact fin1 rfl (.tmp rfl) (fun w' hw => ⟨by first | rfl | (simp_all [rightB]; done) | (simp_all [rightB]; omega) | (simp_all [rightB] <;> intros <;> omega), hw.upd⟩) _ (.inl rfl)
                                    · refine g_seq ?_
                                      refine g_region ?_
                                      refine s_q (q_eql rfl rfl) rfl ?_
                                      refine s_q (q_assign rfl) rfl ?_
                                      refine g_nil ?_
                                      refine g_then ?_
                                      refine g_cond rfl (fun h26 => ?_) (fun h26 => ?_)
                                      · refine g_seq ?_
                                        refine g_region ?_
                                        refine s_q (q_field rfl) rfl ?_
                                        refine s_q (q_load rfl rfl) rfl ?_
                                        refine s_q (q_field rfl) rfl ?_
                                        refine s_q (q_load rfl rfl) rfl ?_
                                        refine s_q (q_leq rfl rfl) rfl ?_
                                        refine s_q (q_assign rfl) rfl ?_
                                        refine g_nil ?_
                                        refine g_then ?_
                                        refine g_ret ?_
                                        refine g_blk_ret (g_then_ret ?_)
                                        exact fin1 rfl (.tmp rfl) (fun w' hw => ⟨by first | rfl | (simp_all [rightB]; done) | (simp_all [rightB]; omega) | (simp_all [rightB] <;> intros <;> omega), hw.upd⟩) _ (.inl rfl)
                                      · refine g_skip ?_
                                        refine g_blk_n ?_
                                        refine g_then ?_
                                        refine g_seq ?_
                                        refine g_region ?_
                                        refine s_q (q_field rfl) rfl ?_
                                        refine s_q (q_load rfl rfl) rfl ?_
                                        refine s_q (q_geq rfl rfl) rfl ?_
                                        refine s_q (q_move rfl) rfl ?_
                                        refine g_split 161 rfl (fun h27 => ?_) (fun h27 => ?_)
                                        · refine s_qg (q_field rfl) rfl rfl rfl ?_
                                          refine s_qg (q_load rfl rfl) rfl rfl rfl ?_
                                          refine s_qg (q_leq rfl rfl) rfl rfl rfl ?_
                                          refine s_q (q_pick_t rfl rfl) rfl ?_
                                          refine s_q (q_assign rfl) rfl ?_
                                          refine g_nil ?_
                                          refine g_then ?_
                                          refine g_ret ?_
                                          exact fin1 rfl (.tmp rfl) (fun w' hw => ⟨by first | rfl | (simp_all [rightB]; done) | (simp_all [rightB]; omega) | (simp_all [rightB] <;> intros <;> omega), hw.upd⟩) _ (.inl rfl)
                                        · refine g_gf rfl rfl rfl rfl ?_
                                          refine g_gf rfl rfl rfl rfl ?_
                                          refine g_gf rfl rfl rfl rfl ?_
                                          refine s_q (q_pick_f rfl rfl) rfl ?_
                                          refine s_q (q_assign rfl) rfl ?_
                                          refine g_nil ?_
                                          refine g_then ?_
                                          refine g_ret ?_
                                          exact fin1 rfl (.tmp rfl) (fun w' hw => ⟨by first | rfl | (simp_all [rightB]; done) | (simp_all [rightB]; omega) | (simp_all [rightB] <;> intros <;> omega), hw.upd⟩) _ (.inl rfl)

theorem chk_any (c : C) (w : World) : Pur Try.prog 9 [c.v] w (.int .i64 (chk c)) := by
  refine g_start Try.func9 rfl 13 rfl (by simp) [] [] (WOK.start _ _) _ rfl ?_
  refine g_seq ?_
  refine g_region ?_
  refine g_op (g_box rfl rfl rfl fun b1 => ?_)
  refine s_q (q_assign rfl) rfl ?_
  refine g_nil ?_
  refine g_then ?_
  refine g_seq ?_
  refine g_seq ?_
  refine g_region ?_
  refine s_q (q_assign rfl) rfl ?_
  refine g_nil ?_
  refine g_then ?_
  refine g_block ?_
  refine g_loopk [1] (fun (i : Nat) => [(3, .int .i64 (i : Int))]) (fun _ => [Res.blk b1 26 c.c]) (fun i => 1 ≤ i ∧ i ≤ 21 ∧ chk c = chkF c (21 - i) i) (fun i => 21 - i) 1 ⟨by omega, by omega, rfl⟩ rfl ⟨rfl, trivial⟩ wok_id ?_
  rintro i ⟨hi1, hi2, hi3⟩
  refine g_seq ?_
  refine g_seq ?_
  refine g_region ?_
  refine s_q (q_move rfl) rfl ?_
  refine s_q (q_leq rfl rfl) rfl ?_
  refine g_nil ?_
  refine g_then ?_
  refine g_cond rfl (fun h1 => ?_) (fun h1 => ?_)
  · refine g_skip ?_
    refine g_then ?_
    refine g_seq ?_
    refine g_block ?_
    refine g_seq ?_
    refine g_region ?_
    refine s_q (q_loadw rfl rfl) rfl ?_
    refine s_q (q_move rfl) rfl ?_
    refine g_op (g_pure rfl (fun w hw => right_any _ _ w) rfl ?_)
    refine s_q (q_not rfl) rfl ?_
    refine g_nil ?_
    refine g_then ?_
    refine g_cond rfl (fun h2 => ?_) (fun h2 => ?_)
    · refine g_seq ?_
      refine g_region ?_
      refine s_q (q_move rfl) rfl ?_
      refine s_q (q_assign rfl) rfl ?_
      refine g_nil ?_
      refine g_then ?_
      refine g_ret ?_
      refine g_blk_ret (g_then_ret (g_then_ret (g_blk_ret (g_then_ret ?_))))
      exact fin1 rfl (.tmp rfl) (fun w' hw => ⟨by rw [hi3, show 21 - i = (21 - (i + 1)) + 1 by simp_all; omega, chkF]; simp_all, hw.upd⟩) _ (.inl rfl)
    · refine g_skip ?_
      refine g_blk_n ?_
      refine g_then ?_
      refine g_region ?_
      refine s_q (q_move rfl) rfl ?_
      refine s_q (q_inc rfl rfl (by omega)) rfl ?_
      refine s_q (q_assign rfl) rfl ?_
      refine g_nil ?_
      exact g_again (i + 1) ⟨by omega, by simp_all; omega, by rw [hi3, show 21 - i = (21 - (i + 1)) + 1 by simp_all; omega, chkF]; simp_all⟩ (by simp_all; omega) ⟨rfl, rfl, trivial⟩ wok_id
  · refine g_exit ?_
    refine g_then_x (g_then_x (g_blk_hit ?_))
    refine g_then ?_
    refine g_seq ?_
    refine g_region ?_
    refine s_q (q_assign rfl) rfl ?_
    refine g_nil ?_
    refine g_then ?_
    refine g_ret ?_
    exact fin1 rfl (.tmp rfl) (fun w' hw => ⟨by rw [hi3, show 21 - i = 0 by simp_all; omega]; rfl, hw.upd⟩) _ (.inl rfl)

def avail (x : V) (c : C) : Int := if x.st ≠ 2 ∨ x.sl = true then 0 else if x.bal < c.minb then 0 else IntKind.u64.wrap (x.bal - c.minb)
def ravail (x : V) (c : C) : Int := if x.st ≠ 2 ∨ x.sl = true ∨ x.bal ≤ c.minb then 0 else IntKind.u64.wrap (x.bal - c.minb)
theorem avail_eq (x : V) (c : C) : avail x c = ravail x c := by
  unfold avail ravail
  simp only [IntKind.wrap_u64]
  by_cases h1 : x.st ≠ 2 ∨ x.sl = true
  · rw [if_pos h1, if_pos (by rcases h1 with h | h <;> simp [h])]
  · rw [if_neg h1]
    by_cases h2 : x.bal ≤ c.minb
    · rw [if_pos (show x.st ≠ 2 ∨ x.sl = true ∨ x.bal ≤ c.minb from .inr (.inr h2))]
      split <;> omega
    · rw [if_neg (by omega), if_neg (by intro h; rcases h with h | h | h; exact h1 (.inl h); exact h1 (.inr h); exact h2 h)]

theorem sub_any (a b : Int) (w : World) : Pur Try.prog 23 [.int .u64 a, .int .u64 b] w (.tuple [.int .u64 (if a < b then 0 else IntKind.u64.wrap (a - b)), .bool (!decide (a < b))].toArray) := by
  refine g_start Try.func23 rfl 12 rfl (by simp) [] [] (WOK.start _ _) _ rfl ?_
  refine g_seq ?_
  refine g_region ?_
  refine s_q (q_assign rfl) rfl ?_
  refine s_q (q_assign rfl) rfl ?_
  refine g_nil ?_
  refine g_then ?_
  refine g_seq ?_
  refine g_seq ?_
  refine g_region ?_
  refine s_q (q_move rfl) rfl ?_
  refine s_q (q_move rfl) rfl ?_
  refine s_q (q_gtr rfl rfl) rfl ?_
  refine g_nil ?_
  refine g_then ?_
  refine g_cond rfl (fun h1 => ?_) (fun h1 => ?_)
  · refine g_seq ?_
    refine g_region ?_
    refine s_q (q_assign rfl) rfl ?_
    refine s_q (q_assign rfl) rfl ?_
    refine g_nil ?_
    refine g_then ?_
    refine g_ret ?_
    refine g_then_ret ?_
    exact fin2 rfl (.tmp rfl) (.tmp rfl) (fun w' hw => ⟨by first | rfl | (simp_all ; done) | (simp_all ; omega) | (simp_all  <;> intros <;> omega), hw.upd⟩) _ (.inl rfl)
  · refine g_skip ?_
    refine g_then ?_
    refine g_seq ?_
    refine g_region ?_
    refine s_q (q_move rfl) rfl ?_
    refine s_q (q_move rfl) rfl ?_
    refine s_q (q_sub rfl rfl) rfl ?_
    refine s_q (q_assign rfl) rfl ?_
    refine s_q (q_assign rfl) rfl ?_
    refine g_nil ?_
    refine g_then ?_
    refine g_ret ?_
    exact fin2 rfl (.tmp rfl) (.tmp rfl) (fun w' hw => ⟨by first | rfl | (simp_all ; done) | (simp_all ; omega) | (simp_all  <;> intros <;> omega), hw.upd⟩) _ (.inl rfl)

theorem avail_any (x : V) (c : C) (w : World) : Pur Try.prog 13 [x.v, c.v] w (.int .u64 (avail x c)) := by
  refine g_start Try.func13 rfl 23 rfl (by simp) [] [] (WOK.start _ _) _ rfl ?_
  refine g_seq ?_
  refine g_region ?_
  refine g_op (g_box rfl rfl rfl fun b2 => ?_)
  refine g_op (g_box rfl rfl rfl fun b3 => ?_)
  refine s_q (q_assign rfl) rfl ?_
  refine g_nil ?_
  refine g_then ?_
  refine g_seq ?_
  refine g_seq ?_
  refine g_region ?_
  refine s_q (q_field rfl) rfl ?_
  refine s_q (q_load rfl rfl) rfl ?_
  refine s_q (q_neq rfl rfl) rfl ?_
  refine s_q (q_move rfl) rfl ?_
  refine g_split 10 rfl (fun h1 => ?_) (fun h1 => ?_)
  · refine g_gf rfl rfl rfl rfl ?_
    refine g_gf rfl rfl rfl rfl ?_
    refine s_q (q_pick_t rfl rfl) rfl ?_
    refine g_nil ?_
    refine g_then ?_
    refine g_true rfl ?_
    refine g_seq ?_
    refine g_region ?_
    refine s_q (q_assign rfl) rfl ?_
    refine g_nil ?_
    refine g_then ?_
    refine g_ret ?_
    refine g_then_ret ?_
    exact fin1 rfl (.tmp rfl) (fun w' hw => ⟨by first | rfl | (simp_all [avail]; done) | (simp_all [avail]; omega) | (simp_all [avail] <;> intros <;> omega), hw.upd⟩) _ (.inl rfl)
  · refine s_qg (q_field rfl) rfl rfl rfl ?_
    refine s_qg (q_load rfl rfl) rfl rfl rfl ?_
    refine s_q (q_pick_f rfl rfl) rfl ?_
    refine g_nil ?_
    refine g_then ?_
    refine g_cond rfl (fun h2 => ?_) (fun h2 => ?_)
    · refine g_seq ?_
      refine g_region ?_
      refine s_q (q_assign rfl) rfl ?_
      refine g_nil ?_
      refine g_then ?_
      refine g_ret ?_
      refine g_then_ret ?_
      exact fin1 rfl (.tmp rfl) (fun w' hw => ⟨by first | rfl | (simp_all [avail]; done) | (simp_all [avail]; omega) | (simp_all [avail] <;> intros <;> omega), hw.upd⟩) _ (.inl rfl)
    · refine g_skip ?_
      refine g_then ?_
      refine g_seq ?_
      refine g_region ?_
      refine s_q (q_field rfl) rfl ?_
      refine s_q (q_load rfl rfl) rfl ?_
      refine s_q (q_field rfl) rfl ?_
      refine s_q (q_load rfl rfl) rfl ?_
      refine g_op (g_pure rfl (fun w hw => sub_any _ _ w) rfl ?_)
      refine s_q (q_move rfl) rfl ?_
      refine s_q (q_extract rfl rfl) rfl ?_
      refine s_q (q_extract rfl rfl) rfl ?_
      refine s_q (q_assign rfl) rfl ?_
      refine s_q (q_assign rfl) rfl ?_
      refine g_nil ?_
      refine g_then ?_
      refine g_seq ?_
      refine g_region ?_
      refine s_q (q_move rfl) rfl ?_
      refine s_q (q_assign rfl) rfl ?_
      refine g_nil ?_
      refine g_then ?_
      refine g_ret ?_
      exact fin1 rfl (.tmp rfl) (fun w' hw => ⟨by first | rfl | (simp_all [avail]; done) | (simp_all [avail]; omega) | (simp_all [avail] <;> intros <;> omega), hw.upd⟩) _ (.inl rfl)

theorem ravail_any (x : V) (c : C) (w : World) : Pur Try.prog 11 [x.v, c.v] w (.int .u64 (ravail x c)) := by
  refine g_start Try.func11 rfl 24 rfl (by simp) [] [] (WOK.start _ _) _ rfl ?_
  refine g_seq ?_
  refine g_region ?_
  refine g_op (g_box rfl rfl rfl fun b2 => ?_)
  refine g_op (g_box rfl rfl rfl fun b3 => ?_)
  refine s_q (q_assign rfl) rfl ?_
  refine g_nil ?_
  refine g_then ?_
  refine g_seq ?_
  refine g_seq ?_
  refine g_region ?_
  refine s_q (q_field rfl) rfl ?_
  refine s_q (q_load rfl rfl) rfl ?_
  refine s_q (q_neq rfl rfl) rfl ?_
  refine s_q (q_move rfl) rfl ?_
  refine g_split 8 rfl (fun h1 => ?_) (fun h1 => ?_)
  · refine g_gf rfl rfl rfl rfl ?_
    refine g_gf rfl rfl rfl rfl ?_
    refine s_q (q_pick_t rfl rfl) rfl ?_
    refine s_q (q_move rfl) rfl ?_
    refine g_gf rfl rfl rfl rfl ?_
    refine g_gf rfl rfl rfl rfl ?_
    refine g_gf rfl rfl rfl rfl ?_
    refine g_gf rfl rfl rfl rfl ?_
    refine g_gf rfl rfl rfl rfl ?_
    refine s_q (q_pick_t rfl rfl) rfl ?_
    refine g_nil ?_
    refine g_then ?_
    refine g_true rfl ?_
    refine g_seq ?_
    refine g_region ?_
    refine s_q (q_assign rfl) rfl ?_
    refine g_nil ?_
    refine g_then ?_
    refine g_ret ?_
    refine g_then_ret ?_
    exact fin1 rfl (.tmp rfl) (fun w' hw => ⟨by first | rfl | (simp_all [ravail]; done) | (simp_all [ravail]; omega) | (simp_all [ravail] <;> intros <;> omega), hw.upd⟩) _ (.inl rfl)
  · refine s_qg (q_field rfl) rfl rfl rfl ?_
    refine s_qg (q_load rfl rfl) rfl rfl rfl ?_
    refine s_q (q_pick_f rfl rfl) rfl ?_
    refine s_q (q_move rfl) rfl ?_
    refine g_split 12 rfl (fun h2 => ?_) (fun h2 => ?_)
    · refine g_gf rfl rfl rfl rfl ?_
      refine g_gf rfl rfl rfl rfl ?_
      refine g_gf rfl rfl rfl rfl ?_
      refine g_gf rfl rfl rfl rfl ?_
      refine g_gf rfl rfl rfl rfl ?_
      refine s_q (q_pick_t rfl rfl) rfl ?_
      refine g_nil ?_
      refine g_then ?_
      refine g_true rfl ?_
      refine g_seq ?_
      refine g_region ?_
      refine s_q (q_assign rfl) rfl ?_
      refine g_nil ?_
      refine g_then ?_
      refine g_ret ?_
      refine g_then_ret ?_
      exact fin1 rfl (.tmp rfl) (fun w' hw => ⟨by first | rfl | (simp_all [ravail]; done) | (simp_all [ravail]; omega) | (simp_all [ravail] <;> intros <;> omega), hw.upd⟩) _ (.inl rfl)
    · refine s_qg (q_field rfl) rfl rfl rfl ?_
      refine s_qg (q_load rfl rfl) rfl rfl rfl ?_
      refine s_qg (q_field rfl) rfl rfl rfl ?_
      refine s_qg (q_load rfl rfl) rfl rfl rfl ?_
      refine s_qg (q_leq rfl rfl) rfl rfl rfl ?_
      refine s_q (q_pick_f rfl rfl) rfl ?_
      refine g_nil ?_
      refine g_then ?_
      refine g_cond rfl (fun h3 => ?_) (fun h3 => ?_)
      · refine g_seq ?_
        refine g_region ?_
        refine s_q (q_assign rfl) rfl ?_
        refine g_nil ?_
        refine g_then ?_
        refine g_ret ?_
        refine g_then_ret ?_
        exact fin1 rfl (.tmp rfl) (fun w' hw => ⟨by first | rfl | (simp_all [ravail]; done) | (simp_all [ravail]; omega) | (simp_all [ravail] <;> intros <;> omega), hw.upd⟩) _ (.inl rfl)
      · refine g_skip ?_
        refine g_then ?_
        refine g_seq ?_
        refine g_region ?_
        refine s_q (q_field rfl) rfl ?_
        refine s_q (q_load rfl rfl) rfl ?_
        refine s_q (q_field rfl) rfl ?_
        refine s_q (q_load rfl rfl) rfl ?_
        refine s_q (q_sub rfl rfl) rfl ?_
        refine s_q (q_assign rfl) rfl ?_
        refine g_nil ?_
        refine g_then ?_
        refine g_ret ?_
        exact fin1 rfl (.tmp rfl) (fun w' hw => ⟨by first | rfl | (simp_all [ravail]; done) | (simp_all [ravail]; omega) | (simp_all [ravail] <;> intros <;> omega), hw.upd⟩) _ (.inl rfl)

theorem apply_any (x : V) (m : Int) (c : C) (w : World) : Pur Try.prog 12 [x.v, .int .u64 m, c.v] w (.tuple [V.v { x with bal := IntKind.u64.wrap (x.bal - min m (avail x c)) }, .int .u64 (min m (avail x c))].toArray) := by
  refine g_start Try.func12 rfl 21 rfl (by simp) [] [] (WOK.start _ _) _ rfl ?_
  refine g_seq ?_
  refine g_region ?_
  refine g_op (g_box rfl rfl rfl fun b3 => ?_)
  refine g_op (g_box rfl rfl rfl fun b5 => ?_)
  refine g_op (g_alloc rfl fun b6 => ?_)
  refine s_q (q_assign rfl) rfl ?_
  refine g_nil ?_
  refine g_then ?_
  refine g_seq ?_
  refine g_region ?_
  refine s_q (q_move rfl) rfl ?_
  refine s_q (q_loadw rfl rfl) rfl ?_
  refine s_q (q_loadw rfl rfl) rfl ?_
  refine g_op (g_pure rfl (fun w hw => avail_any _ _ w) rfl ?_)
  refine s_q (q_min rfl rfl) rfl ?_
  refine s_q (q_assign rfl) rfl ?_
  refine g_nil ?_
  refine g_then ?_
  refine g_seq ?_
  refine g_region ?_
  refine s_q (q_field rfl) rfl ?_
  refine s_q (q_load rfl rfl) rfl ?_
  refine s_q (q_move rfl) rfl ?_
  refine s_q (q_sub rfl rfl) rfl ?_
  refine s_q (q_field rfl) rfl ?_
  refine g_op (g_store rfl rfl rfl rfl rfl rfl rfl ?_)
  refine g_nil ?_
  refine g_then ?_
  refine g_seq ?_
  refine g_region ?_
  refine s_q (q_loadw rfl rfl) rfl ?_
  refine s_q (q_move rfl) rfl ?_
  refine g_op (g_storew rfl rfl rfl rfl rfl ?_)
  refine s_q (q_assign rfl) rfl ?_
  refine g_nil ?_
  refine g_then ?_
  refine g_ret ?_
  exact fin2 rfl (.cellw rfl rfl) (.tmp rfl) (fun w' hw => ⟨by rfl, hw.upd⟩) _ (.inl rfl)

theorem alive_any  (w : World) : Pur Try.prog 10 [] w (.bool true) := by
  refine g_start Try.func10 rfl 22 rfl (by simp) [] [] (WOK.start _ _) _ rfl ?_
  refine g_seq ?_
  refine g_region ?_
  refine s_q (q_assign rfl) rfl ?_
  refine g_nil ?_
  refine g_then ?_
  refine g_seq ?_
  refine g_region ?_
  refine s_q (q_build (c := V.c ⟨20, 2, false, 0, 0, 0, 0⟩) rfl rfl) rfl ?_
  refine g_op (g_pure rfl (fun w hw => dflt_any w) rfl ?_)
  refine g_op (g_pure rfl (fun w hw => apply_any _ _ _ w) rfl ?_)
  refine s_q (q_move rfl) rfl ?_
  refine s_q (q_extract rfl rfl) rfl ?_
  refine s_q (q_extract rfl rfl) rfl ?_
  refine g_op (g_alloc rfl fun b1 => ?_)
  refine g_op (g_storew rfl rfl rfl rfl rfl ?_)
  refine s_q (q_assign rfl) rfl ?_
  refine g_nil ?_
  refine g_then ?_
  refine g_seq ?_
  refine d_region [] mixed rfl rfl ?_
  refine d_q 0 rfl (by kernel_rfl) (q_move rfl) wok_id rfl (ls' := #[true, false, false, false, false, false, false, false, false, false, false, false, false, false]) rfl ?_
  refine d_q 1 rfl (by kernel_rfl) (q_eql rfl rfl) wok_id rfl (ls' := #[true, true, false, false, false, false, false, false, false, false, false, false, false, false]) rfl ?_
  refine d_q 2 rfl (by kernel_rfl) (q_move rfl) wok_id rfl (ls' := #[true, true, true, false, false, false, false, false, false, false, false, false, false, false]) rfl ?_
  refine g_split 11 rfl (fun h1 => ?_) (fun h1 => ?_)
  · refine d_qg 3 rfl (by kernel_rfl) (q_loadw rfl rfl) rfl rfl wok_id rfl (ls' := #[true, true, true, true, false, false, false, false, false, false, false, false, false, false]) rfl ?_
    refine d_qg 4 rfl (by kernel_rfl) (q_build (c := V.c ⟨8, 2, false, 0, 0, 0, 0⟩) rfl rfl) rfl rfl wok_id rfl (ls' := #[true, true, true, true, true, false, false, false, false, false, false, false, false, false]) rfl ?_
    refine d_qg 5 rfl (by kernel_rfl) (q_eqs rfl rfl rfl) rfl rfl wok_id rfl (ls' := #[true, true, true, true, true, true, false, false, false, false, false, false, false, false]) rfl ?_
    refine d_q 6 rfl (by kernel_rfl) (q_pick_t rfl rfl) wok_id rfl (ls' := #[true, true, true, true, true, true, true, false, false, false, false, false, false, false]) rfl ?_
    refine d_q 7 rfl (by kernel_rfl) (q_move rfl) wok_id rfl (ls' := #[true, true, true, true, true, true, true, true, false, false, false, false, false, false]) rfl ?_
    refine g_split 16 rfl (fun h2 => ?_) (fun h2 => ?_)
    · refine d_qg 8 rfl (by kernel_rfl) (q_loadw rfl rfl) rfl rfl wok_id rfl (ls' := #[true, true, true, true, true, true, true, true, true, false, false, false, false, false]) rfl ?_
      refine d_opg 9 rfl (by kernel_rfl) (ls' := #[true, true, true, true, true, true, true, true, true, true, false, false, false, false]) rfl rfl rfl wok_id (g_pure rfl (fun w hw => dflt_any w) rfl ?_)
      refine d_opg 10 rfl (by kernel_rfl) (ls' := #[true, true, true, true, true, true, true, true, true, true, true, false, false, false]) rfl rfl rfl wok_id (g_pure rfl (fun w hw => avail_any _ _ w) rfl ?_)
      refine d_qg 11 rfl (by kernel_rfl) (q_eql rfl rfl) rfl rfl wok_id rfl (ls' := #[true, true, true, true, true, true, true, true, true, true, true, true, false, false]) rfl ?_
      refine d_q 12 rfl (by kernel_rfl) (q_pick_t rfl rfl) wok_id rfl (ls' := #[true, true, true, true, true, true, true, true, true, true, true, true, true, false]) rfl ?_
      refine d_q 13 rfl (by kernel_rfl) (q_assign rfl) wok_id rfl (ls' := #[true, true, true, true, true, true, true, true, true, true, true, true, true, true]) rfl ?_
      refine d_end (by kernel_rfl) (.inr wok_id) ?_
      refine g_then ?_
      refine g_ret ?_
      exact fin1 rfl (.tmp rfl) (fun w' hw => ⟨by first | rfl | (simp_all [avail, dflt, IntKind.wrap_u64]; done) | (simp_all [avail, dflt, IntKind.wrap_u64]; omega), hw.upd⟩) _ (.inl rfl)
    · refine d_gf 8 rfl (by kernel_rfl) rfl rfl rfl wok_id rfl (ls' := #[true, true, true, true, true, true, true, true, true, false, false, false, false, false]) rfl ?_
      refine d_gf 9 rfl (by kernel_rfl) rfl rfl rfl wok_id rfl (ls' := #[true, true, true, true, true, true, true, true, true, true, false, false, false, false]) rfl ?_
      refine d_gf 10 rfl (by kernel_rfl) rfl rfl rfl wok_id rfl (ls' := #[true, true, true, true, true, true, true, true, true, true, true, false, false, false]) rfl ?_
      refine d_gf 11 rfl (by kernel_rfl) rfl rfl rfl wok_id rfl (ls' := #[true, true, true, true, true, true, true, true, true, true, true, true, false, false]) rfl ?_
      refine d_q 12 rfl (by kernel_rfl) (q_pick_f rfl rfl) wok_id rfl (ls' := #[true, true, true, true, true, true, true, true, true, true, true, true, true, false]) rfl ?_
      refine d_q 13 rfl (by kernel_rfl) (q_assign rfl) wok_id rfl (ls' := #[true, true, true, true, true, true, true, true, true, true, true, true, true, true]) rfl ?_
      refine d_end (by kernel_rfl) (.inr wok_id) ?_
      refine g_then ?_
      refine g_ret ?_
      exact fin1 rfl (.tmp rfl) (fun w' hw => ⟨by first | rfl | (simp_all [avail, dflt, IntKind.wrap_u64]; done) | (simp_all [avail, dflt, IntKind.wrap_u64]; omega), hw.upd⟩) _ (.inl rfl)
  · refine d_gf 3 rfl (by kernel_rfl) rfl rfl rfl wok_id rfl (ls' := #[true, true, true, true, false, false, false, false, false, false, false, false, false, false]) rfl ?_
    refine d_gf 4 rfl (by kernel_rfl) rfl rfl rfl wok_id rfl (ls' := #[true, true, true, true, true, false, false, false, false, false, false, false, false, false]) rfl ?_
    refine d_gf 5 rfl (by kernel_rfl) rfl rfl rfl wok_id rfl (ls' := #[true, true, true, true, true, true, false, false, false, false, false, false, false, false]) rfl ?_
    refine d_q 6 rfl (by kernel_rfl) (q_pick_f rfl rfl) wok_id rfl (ls' := #[true, true, true, true, true, true, true, false, false, false, false, false, false, false]) rfl ?_
    refine d_q 7 rfl (by kernel_rfl) (q_move rfl) wok_id rfl (ls' := #[true, true, true, true, true, true, true, true, false, false, false, false, false, false]) rfl ?_
    refine d_gf 8 rfl (by kernel_rfl) rfl rfl rfl wok_id rfl (ls' := #[true, true, true, true, true, true, true, true, true, false, false, false, false, false]) rfl ?_
    refine d_gf 9 rfl (by kernel_rfl) rfl rfl rfl wok_id rfl (ls' := #[true, true, true, true, true, true, true, true, true, true, false, false, false, false]) rfl ?_
    refine d_gf 10 rfl (by kernel_rfl) rfl rfl rfl wok_id rfl (ls' := #[true, true, true, true, true, true, true, true, true, true, true, false, false, false]) rfl ?_
    refine d_gf 11 rfl (by kernel_rfl) rfl rfl rfl wok_id rfl (ls' := #[true, true, true, true, true, true, true, true, true, true, true, true, false, false]) rfl ?_
    refine d_q 12 rfl (by kernel_rfl) (q_pick_f rfl rfl) wok_id rfl (ls' := #[true, true, true, true, true, true, true, true, true, true, true, true, true, false]) rfl ?_
    refine d_q 13 rfl (by kernel_rfl) (q_assign rfl) wok_id rfl (ls' := #[true, true, true, true, true, true, true, true, true, true, true, true, true, true]) rfl ?_
    refine d_end (by kernel_rfl) (.inr wok_id) ?_
    refine g_then ?_
    refine g_ret ?_
    exact fin1 rfl (.tmp rfl) (fun w' hw => ⟨by first | rfl | (simp_all [avail, dflt, IntKind.wrap_u64]; done) | (simp_all [avail, dflt, IntKind.wrap_u64]; omega), hw.upd⟩) _ (.inl rfl)
end Go.Proofs.Ytmbnpdjchkadhaa
