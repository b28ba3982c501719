/- walks of the configuration and of sums -/
import Derived.Test.YthdkbocfkbnpaaaO
namespace Go.Proofs.Ythdkbocfkbnpaaa
open Go.RowKit Go.Eg
set_option synthInstance.maxSize 3000
set_option linter.unusedSimpArgs false
set_option linter.unusedVariables false




def dflt : C := ⟨16, 8, 16, 64, 1024, 8, 128, 32, 4, 64, 2, 5, 4, 4, 6, 4, 2, 2, 1, 4⟩

theorem dflt_any  (w : World) : Pur Try.prog 24 [] w (dflt.v) := by
  refine g_start Try.func24 rfl 2 rfl (by simp) [] [] (WOK.start _ _) _ rfl ?_
  refine g_seq ?_
  refine g_region ?_
  refine g_op (g_alloc rfl fun b0 => ?_)
  refine g_nil ?_
  refine g_then ?_
  refine g_seq ?_
  refine g_region ?_
  refine s_q (q_build (c := dflt.c) rfl rfl) rfl ?_
  refine g_op (g_storew rfl rfl rfl rfl rfl ?_)
  refine g_nil ?_
  refine g_then ?_
  refine g_ret ?_
  exact fin1 rfl (.cellw rfl rfl) (fun w' hw => ⟨by rfl, hw.upd⟩) _ (.inl rfl)

def btw (n lo hi : Int) : Bool := decide (lo ≤ n) && decide (n ≤ hi)
def rightB (c : C) (i : Int) : Bool :=
  if i = 1 then btw c.capa 1 4096 else if i = 2 then btw c.qsize 1 4096 else if i = 3 then decide (1 ≤ c.mind) else if i = 4 then decide (c.mind ≤ c.maxd)
  else if i = 5 then decide (c.maxd ≤ c.supc) && decide (c.supc ≤ 1152921504606846976) else if i = 6 then decide (1 ≤ c.minb) && decide (c.minb ≤ c.mind)
  else if i = 7 then decide (c.maxd ≤ c.maxb) && decide (c.maxb ≤ c.supc) else if i = 8 then decide (1 ≤ c.minch) && decide (c.minch ≤ 1152921504606846976)
  else if i = 9 then decide (1 ≤ c.quot) else if i = 10 then decide (c.fcap ≤ 1152921504606846976) else if i = 11 then btw c.unb 1 1048576
  else if i = 12 then decide (c.unb < c.sld) && decide (c.sld ≤ 1048576) else if i = 13 then btw c.rlen 1 4096 else if i = 14 then btw c.elen 1 4096
  else if i = 15 then btw c.vis 1 4096 else if i = 16 then btw c.pays 1 4096 else if i = 17 then decide (0 ≤ c.parts) && (decide (c.parts < c.vis) && decide (c.parts < c.pays))
  else if i = 18 then btw c.merg 0 4096 else if i = 19 then decide (c.pnum ≤ c.pden) else decide (1 ≤ c.pden) && decide (c.pden ≤ 4294967296)
def chkF (c : C) : Nat → Nat → Int
  | 0, _ => 0
  | f + 1, i => if rightB c i then chkF c f (i + 1) else i
def chk (c : C) : Int := chkF c 20 1
theorem chkF_right {c : C} : ∀ {f i : Nat}, chkF c f i = 0 → 0 < i → ∀ j, i ≤ j → j < i + f → rightB c j = true
  | 0, i, _, _, j, h1, h2 => by omega
  | f + 1, i, h, hi, j, h1, h2 => by
    unfold chkF at h
    split at h
    · by_cases hj : j = i
      · subst hj; assumption
      · exact chkF_right h (by omega) j (by omega) (by omega)
    · omega
theorem chk_right {c : C} (h : chk c = 0) (j : Nat) (h1 : 1 ≤ j) (h2 : j ≤ 20) : rightB c j = true := chkF_right h (by omega) j h1 (by omega)


theorem btw_any (n lo hi : Int) (w : World) : Pur Try.prog 40 [.int .i64 n, .int .i64 lo, .int .i64 hi] w (.bool (btw n lo hi)) := by
  refine g_start Try.func40 rfl 15 rfl (by simp) [] [] (WOK.start _ _) _ rfl ?_
  refine g_seq ?_
  refine g_region ?_
  refine s_q (q_assign rfl) rfl ?_
  refine g_nil ?_
  refine g_then ?_
  refine g_seq ?_
  refine g_region ?_
  refine s_q (q_move rfl) rfl ?_
  refine s_q (q_move rfl) rfl ?_
  refine s_q (q_leq rfl rfl) rfl ?_
  refine s_q (q_move rfl) rfl ?_
  refine g_split 10 rfl (fun h1 => ?_) (fun h1 => ?_)
  · refine s_qg (q_move rfl) rfl rfl rfl ?_
    refine s_qg (q_move rfl) rfl rfl rfl ?_
    refine s_qg (q_leq rfl rfl) rfl rfl rfl ?_
    refine s_q (q_pick_t rfl rfl) rfl ?_
    refine s_q (q_assign rfl) rfl ?_
    refine g_nil ?_
    refine g_then ?_
    refine g_ret ?_
    exact fin1 rfl (.tmp rfl) (fun w' hw => ⟨by first | rfl | (simp_all [btw]; done) | (simp_all [btw]; omega) | (simp_all [btw] <;> intros <;> omega), hw.upd⟩) _ (.inl rfl)
  · refine g_gf rfl rfl rfl rfl ?_
    refine g_gf rfl rfl rfl rfl ?_
    refine g_gf rfl rfl rfl rfl ?_
    refine s_q (q_pick_f rfl rfl) rfl ?_
    refine s_q (q_assign rfl) rfl ?_
    refine g_nil ?_
    refine g_then ?_
    refine g_ret ?_
    exact fin1 rfl (.tmp rfl) (fun w' hw => ⟨by first | rfl | (simp_all [btw]; done) | (simp_all [btw]; omega) | (simp_all [btw] <;> intros <;> omega), hw.upd⟩) _ (.inl rfl)

set_option maxHeartbeats 4000000 in
theorem right_any (c : C) (i : Int) (w : World) : Pur Try.prog 23 [c.v, .int .i64 i] w (.bool (rightB c i)) := by
  refine g_start Try.func23 rfl 166 rfl (by simp) [] [] (WOK.start _ _) _ rfl ?_
  refine g_seq ?_
  refine g_region ?_
  refine g_op (g_box rfl rfl rfl fun b2 => ?_)
  refine s_q (q_assign rfl) rfl ?_
  refine g_nil ?_
  refine g_then ?_
  refine g_seq ?_
  refine g_region ?_
  refine s_q (q_assign rfl) rfl ?_
  refine g_nil ?_
  refine g_then ?_
  refine g_seq ?_
  refine g_seq ?_
  refine g_region ?_
  refine s_q (q_move rfl) rfl ?_
  refine g_nil ?_
  refine g_then ?_
  refine g_block ?_
  refine g_seq ?_
  refine g_region ?_
  refine s_q (q_eql rfl rfl) rfl ?_
  refine s_q (q_assign rfl) rfl ?_
  refine g_nil ?_
  refine g_then ?_
  refine g_cond rfl (fun h1 => ?_) (fun h1 => ?_)
  · refine g_seq ?_
    refine g_region ?_
    refine s_q (q_field rfl) rfl ?_
    refine s_q (q_load rfl rfl) rfl ?_
    refine g_op (g_pure rfl (fun w hw => btw_any _ _ _ w) rfl ?_)
    refine s_q (q_assign rfl) rfl ?_
    refine g_nil ?_
    refine g_then ?_
    refine g_ret ?_
    refine g_blk_ret (g_then_ret ?_)
    exact fin1 rfl (.tmp rfl) (fun w' hw => ⟨by first | rfl | (simp_all [rightB]; done) | (simp_all [rightB]; omega) | (simp_all [rightB] <;> intros <;> omega), hw.upd⟩) _ (.inl rfl)
  · refine g_seq ?_
    refine g_region ?_
    refine s_q (q_eql rfl rfl) rfl ?_
    refine s_q (q_assign rfl) rfl ?_
    refine g_nil ?_
    refine g_then ?_
    refine g_cond rfl (fun h2 => ?_) (fun h2 => ?_)
    · refine g_seq ?_
      refine g_region ?_
      refine s_q (q_field rfl) rfl ?_
      refine s_q (q_load rfl rfl) rfl ?_
      refine g_op (g_pure rfl (fun w hw => btw_any _ _ _ w) rfl ?_)
      refine s_q (q_assign rfl) rfl ?_
      refine g_nil ?_
      refine g_then ?_
      refine g_ret ?_
      refine g_blk_ret (g_then_ret ?_)
      exact fin1 rfl (.tmp rfl) (fun w' hw => ⟨by first | rfl | (simp_all [rightB]; done) | (simp_all [rightB]; omega) | (simp_all [rightB] <;> intros <;> omega), hw.upd⟩) _ (.inl rfl)
    · refine g_seq ?_
      refine g_region ?_
      refine s_q (q_eql rfl rfl) rfl ?_
      refine s_q (q_assign rfl) rfl ?_
      refine g_nil ?_
      refine g_then ?_
      refine g_cond rfl (fun h3 => ?_) (fun h3 => ?_)
      · refine g_seq ?_
        refine g_region ?_
        refine s_q (q_field rfl) rfl ?_
        refine s_q (q_load rfl rfl) rfl ?_
        refine s_q (q_geq rfl rfl) rfl ?_
        refine s_q (q_assign rfl) rfl ?_
        refine g_nil ?_
        refine g_then ?_
        refine g_ret ?_
        refine g_blk_ret (g_then_ret ?_)
        exact fin1 rfl (.tmp rfl) (fun w' hw => ⟨by first | rfl | (simp_all [rightB]; done) | (simp_all [rightB]; omega) | (simp_all [rightB] <;> intros <;> omega), hw.upd⟩) _ (.inl rfl)
      · refine g_seq ?_
        refine g_region ?_
        refine s_q (q_eql rfl rfl) rfl ?_
        refine s_q (q_assign rfl) rfl ?_
        refine g_nil ?_
        refine g_then ?_
        refine g_cond rfl (fun h4 => ?_) (fun h4 => ?_)
        · refine g_seq ?_
          refine g_region ?_
          refine s_q (q_field rfl) rfl ?_
          refine s_q (q_load rfl rfl) rfl ?_
          refine s_q (q_field rfl) rfl ?_
          refine s_q (q_load rfl rfl) rfl ?_
          refine s_q (q_geq rfl rfl) rfl ?_
          refine s_q (q_assign rfl) rfl ?_
          refine g_nil ?_
          refine g_then ?_
          refine g_ret ?_
          refine g_blk_ret (g_then_ret ?_)
          exact fin1 rfl (.tmp rfl) (fun w' hw => ⟨by first | rfl | (simp_all [rightB]; done) | (simp_all [rightB]; omega) | (simp_all [rightB] <;> intros <;> omega), hw.upd⟩) _ (.inl rfl)
        · refine g_seq ?_
          refine g_region ?_
          refine s_q (q_eql rfl rfl) rfl ?_
          refine s_q (q_assign rfl) rfl ?_
          refine g_nil ?_
          refine g_then ?_
          refine g_cond rfl (fun h5 => ?_) (fun h5 => ?_)
          · refine g_seq ?_
            refine g_region ?_
            refine s_q (q_field rfl) rfl ?_
            refine s_q (q_load rfl rfl) rfl ?_
            refine s_q (q_field rfl) rfl ?_
            refine s_q (q_load rfl rfl) rfl ?_
            refine s_q (q_geq rfl rfl) rfl ?_
            refine s_q (q_move rfl) rfl ?_
            refine g_split 36 rfl (fun h6 => ?_) (fun h6 => ?_)
            · refine s_qg (q_field rfl) rfl rfl rfl ?_
              refine s_qg (q_load rfl rfl) rfl rfl rfl ?_
              refine s_qg (q_move rfl) rfl rfl rfl ?_
              refine s_qg (q_leq rfl rfl) rfl rfl rfl ?_
              refine s_q (q_pick_t rfl rfl) rfl ?_
              refine s_q (q_assign rfl) rfl ?_
              refine g_nil ?_
              refine g_then ?_
              refine g_ret ?_
              refine g_blk_ret (g_then_ret ?_)
              exact fin1 rfl (.tmp rfl) (fun w' hw => ⟨by first | rfl | (simp_all [rightB]; done) | (simp_all [rightB]; omega) | (simp_all [rightB] <;> intros <;> omega), hw.upd⟩) _ (.inl rfl)
            · refine g_gf rfl rfl rfl rfl ?_
              refine g_gf rfl rfl rfl rfl ?_
              refine g_gf rfl rfl rfl rfl ?_
              refine g_gf rfl rfl rfl rfl ?_
              refine s_q (q_pick_f rfl rfl) rfl ?_
              refine s_q (q_assign rfl) rfl ?_
              refine g_nil ?_
              refine g_then ?_
              refine g_ret ?_
              refine g_blk_ret (g_then_ret ?_)
              exact fin1 rfl (.tmp rfl) (fun w' hw => ⟨by first | rfl | (simp_all [rightB]; done) | (simp_all [rightB]; omega) | (simp_all [rightB] <;> intros <;> omega), hw.upd⟩) _ (.inl rfl)
          · refine g_seq ?_
            refine g_region ?_
            refine s_q (q_eql rfl rfl) rfl ?_
            refine s_q (q_assign rfl) rfl ?_
            refine g_nil ?_
            refine g_then ?_
            refine g_cond rfl (fun h7 => ?_) (fun h7 => ?_)
            · refine g_seq ?_
              refine g_region ?_
              refine s_q (q_field rfl) rfl ?_
              refine s_q (q_load rfl rfl) rfl ?_
              refine s_q (q_geq rfl rfl) rfl ?_
              refine s_q (q_move rfl) rfl ?_
              refine g_split 47 rfl (fun h8 => ?_) (fun h8 => ?_)
              · refine s_qg (q_field rfl) rfl rfl rfl ?_
                refine s_qg (q_load rfl rfl) rfl rfl rfl ?_
                refine s_qg (q_field rfl) rfl rfl rfl ?_
                refine s_qg (q_load rfl rfl) rfl rfl rfl ?_
                refine s_qg (q_leq rfl rfl) rfl rfl rfl ?_
                refine s_q (q_pick_t rfl rfl) rfl ?_
                refine s_q (q_assign rfl) rfl ?_
                refine g_nil ?_
                refine g_then ?_
                refine g_ret ?_
                refine g_blk_ret (g_then_ret ?_)
                exact fin1 rfl (.tmp rfl) (fun w' hw => ⟨by first | rfl | (simp_all [rightB]; done) | (simp_all [rightB]; omega) | (simp_all [rightB] <;> intros <;> omega), hw.upd⟩) _ (.inl rfl)
              · refine g_gf rfl rfl rfl rfl ?_
                refine g_gf rfl rfl rfl rfl ?_
                refine g_gf rfl rfl rfl rfl ?_
                refine g_gf rfl rfl rfl rfl ?_
                refine g_gf rfl rfl rfl rfl ?_
                refine s_q (q_pick_f rfl rfl) rfl ?_
                refine s_q (q_assign rfl) rfl ?_
                refine g_nil ?_
                refine g_then ?_
                refine g_ret ?_
                refine g_blk_ret (g_then_ret ?_)
                exact fin1 rfl (.tmp rfl) (fun w' hw => ⟨by first | rfl | (simp_all [rightB]; done) | (simp_all [rightB]; omega) | (simp_all [rightB] <;> intros <;> omega), hw.upd⟩) _ (.inl rfl)
            · refine g_seq ?_
              refine g_region ?_
              refine s_q (q_eql rfl rfl) rfl ?_
              refine s_q (q_assign rfl) rfl ?_
              refine g_nil ?_
              refine g_then ?_
              refine g_cond rfl (fun h9 => ?_) (fun h9 => ?_)
              · refine g_seq ?_
                refine g_region ?_
                refine s_q (q_field rfl) rfl ?_
                refine s_q (q_load rfl rfl) rfl ?_
                refine s_q (q_field rfl) rfl ?_
                refine s_q (q_load rfl rfl) rfl ?_
                refine s_q (q_geq rfl rfl) rfl ?_
                refine s_q (q_move rfl) rfl ?_
                refine g_split 61 rfl (fun h10 => ?_) (fun h10 => ?_)
                · refine s_qg (q_field rfl) rfl rfl rfl ?_
                  refine s_qg (q_load rfl rfl) rfl rfl rfl ?_
                  refine s_qg (q_field rfl) rfl rfl rfl ?_
                  refine s_qg (q_load rfl rfl) rfl rfl rfl ?_
                  refine s_qg (q_leq rfl rfl) rfl rfl rfl ?_
                  refine s_q (q_pick_t rfl rfl) rfl ?_
                  refine s_q (q_assign rfl) rfl ?_
                  refine g_nil ?_
                  refine g_then ?_
                  refine g_ret ?_
                  refine g_blk_ret (g_then_ret ?_)
                  exact fin1 rfl (.tmp rfl) (fun w' hw => ⟨by first | rfl | (simp_all [rightB]; done) | (simp_all [rightB]; omega) | (simp_all [rightB] <;> intros <;> omega), hw.upd⟩) _ (.inl rfl)
                · refine g_gf rfl rfl rfl rfl ?_
                  refine g_gf rfl rfl rfl rfl ?_
                  refine g_gf rfl rfl rfl rfl ?_
                  refine g_gf rfl rfl rfl rfl ?_
                  refine g_gf rfl rfl rfl rfl ?_
                  refine s_q (q_pick_f rfl rfl) rfl ?_
                  refine s_q (q_assign rfl) rfl ?_
                  refine g_nil ?_
                  refine g_then ?_
                  refine g_ret ?_
                  refine g_blk_ret (g_then_ret ?_)
                  exact fin1 rfl (.tmp rfl) (fun w' hw => ⟨by first | rfl | (simp_all [rightB]; done) | (simp_all [rightB]; omega) | (simp_all [rightB] <;> intros <;> omega), hw.upd⟩) _ (.inl rfl)
              · refine g_seq ?_
                refine g_region ?_
                refine s_q (q_eql rfl rfl) rfl ?_
                refine s_q (q_assign rfl) rfl ?_
                refine g_nil ?_
                refine g_then ?_
                refine g_cond rfl (fun h11 => ?_) (fun h11 => ?_)
                · refine g_seq ?_
                  refine g_region ?_
                  refine s_q (q_field rfl) rfl ?_
                  refine s_q (q_load rfl rfl) rfl ?_
                  refine s_q (q_geq rfl rfl) rfl ?_
                  refine s_q (q_move rfl) rfl ?_
                  refine g_split 73 rfl (fun h12 => ?_) (fun h12 => ?_)
                  · refine s_qg (q_field rfl) rfl rfl rfl ?_
                    refine s_qg (q_load rfl rfl) rfl rfl rfl ?_
                    refine s_qg (q_move rfl) rfl rfl rfl ?_
                    refine s_qg (q_leq rfl rfl) rfl rfl rfl ?_
                    refine s_q (q_pick_t rfl rfl) rfl ?_
                    refine s_q (q_assign rfl) rfl ?_
                    refine g_nil ?_
                    refine g_then ?_
                    refine g_ret ?_
                    refine g_blk_ret (g_then_ret ?_)
                    exact fin1 rfl (.tmp rfl) (fun w' hw => ⟨by first | rfl | (simp_all [rightB]; done) | (simp_all [rightB]; omega) | (simp_all [rightB] <;> intros <;> omega), hw.upd⟩) _ (.inl rfl)
                  · refine g_gf rfl rfl rfl rfl ?_
                    refine g_gf rfl rfl rfl rfl ?_
                    refine g_gf rfl rfl rfl rfl ?_
                    refine g_gf rfl rfl rfl rfl ?_
                    refine s_q (q_pick_f rfl rfl) rfl ?_
                    refine s_q (q_assign rfl) rfl ?_
                    refine g_nil ?_
                    refine g_then ?_
                    refine g_ret ?_
                    refine g_blk_ret (g_then_ret ?_)
                    exact fin1 rfl (.tmp rfl) (fun w' hw => ⟨by first | rfl | (simp_all [rightB]; done) | (simp_all [rightB]; omega) | (simp_all [rightB] <;> intros <;> omega), hw.upd⟩) _ (.inl rfl)
                · refine g_seq ?_
                  refine g_region ?_
                  refine s_q (q_eql rfl rfl) rfl ?_
                  refine s_q (q_assign rfl) rfl ?_
                  refine g_nil ?_
                  refine g_then ?_
                  refine g_cond rfl (fun h13 => ?_) (fun h13 => ?_)
                  · refine g_seq ?_
                    refine g_region ?_
                    refine s_q (q_field rfl) rfl ?_
                    refine s_q (q_load rfl rfl) rfl ?_
                    refine s_q (q_geq rfl rfl) rfl ?_
                    refine s_q (q_assign rfl) rfl ?_
                    refine g_nil ?_
                    refine g_then ?_
                    refine g_ret ?_
                    refine g_blk_ret (g_then_ret ?_)
                    exact fin1 rfl (.tmp rfl) (fun w' hw => ⟨by first | rfl | (simp_all [rightB]; done) | (simp_all [rightB]; omega) | (simp_all [rightB] <;> intros <;> omega), hw.upd⟩) _ (.inl rfl)
                  · refine g_seq ?_
                    refine g_region ?_
                    refine s_q (q_eql rfl rfl) rfl ?_
                    refine s_q (q_assign rfl) rfl ?_
                    refine g_nil ?_
                    refine g_then ?_
                    refine g_cond rfl (fun h14 => ?_) (fun h14 => ?_)
                    · refine g_seq ?_
                      refine g_region ?_
                      refine s_q (q_field rfl) rfl ?_
                      refine s_q (q_load rfl rfl) rfl ?_
                      refine s_q (q_move rfl) rfl ?_
                      refine s_q (q_leq rfl rfl) rfl ?_
                      refine s_q (q_assign rfl) rfl ?_
                      refine g_nil ?_
                      refine g_then ?_
                      refine g_ret ?_
                      refine g_blk_ret (g_then_ret ?_)
                      exact fin1 rfl (.tmp rfl) (fun w' hw => ⟨by first | rfl | (simp_all [rightB]; done) | (simp_all [rightB]; omega) | (simp_all [rightB] <;> intros <;> omega), hw.upd⟩) _ (.inl rfl)
                    · refine g_seq ?_
                      refine g_region ?_
                      refine s_q (q_eql rfl rfl) rfl ?_
                      refine s_q (q_assign rfl) rfl ?_
                      refine g_nil ?_
                      refine g_then ?_
                      refine g_cond rfl (fun h15 => ?_) (fun h15 => ?_)
                      · refine g_seq ?_
                        refine g_region ?_
                        refine s_q (q_field rfl) rfl ?_
                        refine s_q (q_load rfl rfl) rfl ?_
                        refine g_op (g_pure rfl (fun w hw => btw_any _ _ _ w) rfl ?_)
                        refine s_q (q_assign rfl) rfl ?_
                        refine g_nil ?_
                        refine g_then ?_
                        refine g_ret ?_
                        refine g_blk_ret (g_then_ret ?_)
                        exact fin1 rfl (.tmp rfl) (fun w' hw => ⟨by first | rfl | (simp_all [rightB]; done) | (simp_all [rightB]; omega) | (simp_all [rightB] <;> intros <;> omega), hw.upd⟩) _ (.inl rfl)
                      · refine g_seq ?_
                        refine g_region ?_
                        refine s_q (q_eql rfl rfl) rfl ?_
                        refine s_q (q_assign rfl) rfl ?_
                        refine g_nil ?_
                        refine g_then ?_
                        refine g_cond rfl (fun h16 => ?_) (fun h16 => ?_)
                        · refine g_seq ?_
                          refine g_region ?_
                          refine s_q (q_field rfl) rfl ?_
                          refine s_q (q_load rfl rfl) rfl ?_
                          refine s_q (q_field rfl) rfl ?_
                          refine s_q (q_load rfl rfl) rfl ?_
                          refine s_q (q_gtr rfl rfl) rfl ?_
                          refine s_q (q_move rfl) rfl ?_
                          refine g_split 102 rfl (fun h17 => ?_) (fun h17 => ?_)
                          · refine s_qg (q_field rfl) rfl rfl rfl ?_
                            refine s_qg (q_load rfl rfl) rfl rfl rfl ?_
                            refine s_qg (q_leq rfl rfl) rfl rfl rfl ?_
                            refine s_q (q_pick_t rfl rfl) rfl ?_
                            refine s_q (q_assign rfl) rfl ?_
                            refine g_nil ?_
                            refine g_then ?_
                            refine g_ret ?_
                            refine g_blk_ret (g_then_ret ?_)
                            exact fin1 rfl (.tmp rfl) (fun w' hw => ⟨by first | rfl | (simp_all [rightB]; done) | (simp_all [rightB]; omega) | (simp_all [rightB] <;> intros <;> omega), hw.upd⟩) _ (.inl rfl)
                          · refine g_gf rfl rfl rfl rfl ?_
                            refine g_gf rfl rfl rfl rfl ?_
                            refine g_gf rfl rfl rfl rfl ?_
                            refine s_q (q_pick_f rfl rfl) rfl ?_
                            refine s_q (q_assign rfl) rfl ?_
                            refine g_nil ?_
                            refine g_then ?_
                            refine g_ret ?_
                            refine g_blk_ret (g_then_ret ?_)
                            exact fin1 rfl (.tmp rfl) (fun w' hw => ⟨by first | rfl | (simp_all [rightB]; done) | (simp_all [rightB]; omega) | (simp_all [rightB] <;> intros <;> omega), hw.upd⟩) _ (.inl rfl)
                        · refine g_seq ?_
                          refine g_region ?_
                          refine s_q (q_eql rfl rfl) rfl ?_
                          refine s_q (q_assign rfl) rfl ?_
                          refine g_nil ?_
                          refine g_then ?_
                          refine g_cond rfl (fun h18 => ?_) (fun h18 => ?_)
                          · refine g_seq ?_
                            refine g_region ?_
                            refine s_q (q_field rfl) rfl ?_
                            refine s_q (q_load rfl rfl) rfl ?_
                            refine g_op (g_pure rfl (fun w hw => btw_any _ _ _ w) rfl ?_)
                            refine s_q (q_assign rfl) rfl ?_
                            refine g_nil ?_
                            refine g_then ?_
                            refine g_ret ?_
                            refine g_blk_ret (g_then_ret ?_)
                            exact fin1 rfl (.tmp rfl) (fun w' hw => ⟨by first | rfl | (simp_all [rightB]; done) | (simp_all [rightB]; omega) | (simp_all [rightB] <;> intros <;> omega), hw.upd⟩) _ (.inl rfl)
                          · refine g_seq ?_
                            refine g_region ?_
                            refine s_q (q_eql rfl rfl) rfl ?_
                            refine s_q (q_assign rfl) rfl ?_
                            refine g_nil ?_
                            refine g_then ?_
                            refine g_cond rfl (fun h19 => ?_) (fun h19 => ?_)
                            · refine g_seq ?_
                              refine g_region ?_
                              refine s_q (q_field rfl) rfl ?_
                              refine s_q (q_load rfl rfl) rfl ?_
                              refine g_op (g_pure rfl (fun w hw => btw_any _ _ _ w) rfl ?_)
                              refine s_q (q_assign rfl) rfl ?_
                              refine g_nil ?_
                              refine g_then ?_
                              refine g_ret ?_
                              refine g_blk_ret (g_then_ret ?_)
                              exact fin1 rfl (.tmp rfl) (fun w' hw => ⟨by first | rfl | (simp_all [rightB]; done) | (simp_all [rightB]; omega) | (simp_all [rightB] <;> intros <;> omega), hw.upd⟩) _ (.inl rfl)
                            · refine g_seq ?_
                              refine g_region ?_
                              refine s_q (q_eql rfl rfl) rfl ?_
                              refine s_q (q_assign rfl) rfl ?_
                              refine g_nil ?_
                              refine g_then ?_
                              refine g_cond rfl (fun h20 => ?_) (fun h20 => ?_)
                              · refine g_seq ?_
                                refine g_region ?_
                                refine s_q (q_field rfl) rfl ?_
                                refine s_q (q_load rfl rfl) rfl ?_
                                refine g_op (g_pure rfl (fun w hw => btw_any _ _ _ w) rfl ?_)
                                refine s_q (q_assign rfl) rfl ?_
                                refine g_nil ?_
                                refine g_then ?_
                                refine g_ret ?_
                                refine g_blk_ret (g_then_ret ?_)
                                exact fin1 rfl (.tmp rfl) (fun w' hw => ⟨by first | rfl | (simp_all [rightB]; done) | (simp_all [rightB]; omega) | (simp_all [rightB] <;> intros <;> omega), hw.upd⟩) _ (.inl rfl)
                              · refine g_seq ?_
                                refine g_region ?_
                                refine s_q (q_eql rfl rfl) rfl ?_
                                refine s_q (q_assign rfl) rfl ?_
                                refine g_nil ?_
                                refine g_then ?_
                                refine g_cond rfl (fun h21 => ?_) (fun h21 => ?_)
                                · refine g_seq ?_
                                  refine g_region ?_
                                  refine s_q (q_field rfl) rfl ?_
                                  refine s_q (q_load rfl rfl) rfl ?_
                                  refine g_op (g_pure rfl (fun w hw => btw_any _ _ _ w) rfl ?_)
                                  refine s_q (q_assign rfl) rfl ?_
                                  refine g_nil ?_
                                  refine g_then ?_
                                  refine g_ret ?_
                                  refine g_blk_ret (g_then_ret ?_)
                                  exact fin1 rfl (.tmp rfl) (fun w' hw => ⟨by first | rfl | (simp_all [rightB]; done) | (simp_all [rightB]; omega) | (simp_all [rightB] <;> intros <;> omega), hw.upd⟩) _ (.inl rfl)
                                · refine g_seq ?_
                                  refine g_region ?_
                                  refine s_q (q_eql rfl rfl) rfl ?_
                                  refine s_q (q_assign rfl) rfl ?_
                                  refine g_nil ?_
                                  refine g_then ?_
                                  refine g_cond rfl (fun h22 => ?_) (fun h22 => ?_)
                                  · refine g_seq ?_
                                    refine g_region ?_
                                    refine s_q (q_field rfl) rfl ?_
                                    refine s_q (q_load rfl rfl) rfl ?_
                                    refine s_q (q_geq rfl rfl) rfl ?_
                                    refine s_q (q_move rfl) rfl ?_
                                    refine g_split 132 rfl (fun h23 => ?_) (fun h23 => ?_)
                                    · refine s_qg (q_field rfl) rfl rfl rfl ?_
                                      refine s_qg (q_load rfl rfl) rfl rfl rfl ?_
                                      refine s_qg (q_field rfl) rfl rfl rfl ?_
                                      refine s_qg (q_load rfl rfl) rfl rfl rfl ?_
                                      refine s_qg (q_lss rfl rfl) rfl rfl rfl ?_
                                      refine s_q (q_pick_t rfl rfl) rfl ?_
                                      refine s_q (q_move rfl) rfl ?_
                                      refine g_split 139 rfl (fun h24 => ?_) (fun h24 => ?_)
                                      · refine s_qg (q_field rfl) rfl rfl rfl ?_
                                        refine s_qg (q_load rfl rfl) rfl rfl rfl ?_
                                        refine s_qg (q_field rfl) rfl rfl rfl ?_
                                        refine s_qg (q_load rfl rfl) rfl rfl rfl ?_
                                        refine s_qg (q_lss rfl rfl) rfl rfl rfl ?_
                                        refine s_q (q_pick_t rfl rfl) rfl ?_
                                        refine s_q (q_assign rfl) rfl ?_
                                        refine g_nil ?_
                                        refine g_then ?_
                                        refine g_ret ?_
                                        refine g_blk_ret (g_then_ret ?_)
                                        exact fin1 rfl (.tmp rfl) (fun w' hw => ⟨by first | rfl | (simp_all [rightB]; done) | (simp_all [rightB]; omega) | (simp_all [rightB] <;> intros <;> omega), hw.upd⟩) _ (.inl rfl)
                                      · refine g_gf rfl rfl rfl rfl ?_
                                        refine g_gf rfl rfl rfl rfl ?_
                                        refine g_gf rfl rfl rfl rfl ?_
                                        refine g_gf rfl rfl rfl rfl ?_
                                        refine g_gf rfl rfl rfl rfl ?_
                                        refine s_q (q_pick_f rfl rfl) rfl ?_
                                        refine s_q (q_assign rfl) rfl ?_
                                        refine g_nil ?_
                                        refine g_then ?_
                                        refine g_ret ?_
                                        refine g_blk_ret (g_then_ret ?_)
                                        exact fin1 rfl (.tmp rfl) (fun w' hw => ⟨by first | rfl | (simp_all [rightB]; done) | (simp_all [rightB]; omega) | (simp_all [rightB] <;> intros <;> omega), hw.upd⟩) _ (.inl rfl)
                                    · refine g_gf rfl rfl rfl rfl ?_
                                      refine g_gf rfl rfl rfl rfl ?_
                                      refine g_gf rfl rfl rfl rfl ?_
                                      refine g_gf rfl rfl rfl rfl ?_
                                      refine g_gf rfl rfl rfl rfl ?_
                                      refine s_q (q_pick_f rfl rfl) rfl ?_
                                      refine s_q (q_move rfl) rfl ?_
                                      refine g_gf rfl rfl rfl rfl ?_
                                      refine g_gf rfl rfl rfl rfl ?_
                                      refine g_gf rfl rfl rfl rfl ?_
                                      refine g_gf rfl rfl rfl rfl ?_
                                      refine g_gf rfl rfl rfl rfl ?_
                                      refine s_q (q_pick_f rfl rfl) rfl ?_
                                      refine s_q (q_assign rfl) rfl ?_
                                      refine g_nil ?_
                                      refine g_then ?_
                                      refine g_ret ?_
                                      refine g_blk_ret (g_then_ret ?_)
                                      exact fin1 rfl (.tmp rfl) (fun w' hw => ⟨by first | rfl | (simp_all [rightB]; done) | (simp_all [rightB]; omega) | (simp_all [rightB] <;> intros <;> omega), hw.upd⟩) _ (.inl rfl)
                                  · refine g_seq ?_
                                    refine g_region ?_
                                    refine s_q (q_eql rfl rfl) rfl ?_
                                    refine s_q (q_assign rfl) rfl ?_
                                    refine g_nil ?_
                                    refine g_then ?_
                                    refine g_cond rfl (fun h25 => ?_) (fun h25 => ?_)
                                    · refine g_seq ?_
                                      refine g_region ?_
                                      refine s_q (q_field rfl) rfl ?_
                                      refine s_q (q_load rfl rfl) rfl ?_
                                      refine g_op (g_pure rfl (fun w hw => btw_any _ _ _ w) rfl ?_)
                                      refine s_q (q_assign rfl) rfl ?_
                                      refine g_nil ?_
                                      refine g_then ?_
                                      refine g_ret ?_
                                      refine g_blk_ret (g_then_ret ?_)
                                      exact fin1 rfl (.tmp rfl) (fun w' hw => ⟨by first | rfl | (simp_all [rightB]; done) | (simp_all [rightB]; omega) | (simp_all [rightB] <;> intros <;> omega), hw.upd⟩) _ (.inl rfl)
                                    · refine g_seq ?_
                                      refine g_region ?_
                                      refine s_q (q_eql rfl rfl) rfl ?_
                                      refine s_q (q_assign rfl) rfl ?_
                                      refine g_nil ?_
                                      refine g_then ?_
                                      refine g_cond rfl (fun h26 => ?_) (fun h26 => ?_)
                                      · refine g_seq ?_
                                        refine g_region ?_
                                        refine s_q (q_field rfl) rfl ?_
                                        refine s_q (q_load rfl rfl) rfl ?_
                                        refine s_q (q_field rfl) rfl ?_
                                        refine s_q (q_load rfl rfl) rfl ?_
                                        refine s_q (q_leq rfl rfl) rfl ?_
                                        refine s_q (q_assign rfl) rfl ?_
                                        refine g_nil ?_
                                        refine g_then ?_
                                        refine g_ret ?_
                                        refine g_blk_ret (g_then_ret ?_)
                                        exact fin1 rfl (.tmp rfl) (fun w' hw => ⟨by first | rfl | (simp_all [rightB]; done) | (simp_all [rightB]; omega) | (simp_all [rightB] <;> intros <;> omega), hw.upd⟩) _ (.inl rfl)
                                      · refine g_skip ?_
                                        refine g_blk_n ?_
                                        refine g_then ?_
                                        refine g_seq ?_
                                        refine g_region ?_
                                        refine s_q (q_field rfl) rfl ?_
                                        refine s_q (q_load rfl rfl) rfl ?_
                                        refine s_q (q_geq rfl rfl) rfl ?_
                                        refine s_q (q_move rfl) rfl ?_
                                        refine g_split 161 rfl (fun h27 => ?_) (fun h27 => ?_)
                                        · refine s_qg (q_field rfl) rfl rfl rfl ?_
                                          refine s_qg (q_load rfl rfl) rfl rfl rfl ?_
                                          refine s_qg (q_leq rfl rfl) rfl rfl rfl ?_
                                          refine s_q (q_pick_t rfl rfl) rfl ?_
                                          refine s_q (q_assign rfl) rfl ?_
                                          refine g_nil ?_
                                          refine g_then ?_
                                          refine g_ret ?_
                                          exact fin1 rfl (.tmp rfl) (fun w' hw => ⟨by first | rfl | (simp_all [rightB]; done) | (simp_all [rightB]; omega) | (simp_all [rightB] <;> intros <;> omega), hw.upd⟩) _ (.inl rfl)
                                        · refine g_gf rfl rfl rfl rfl ?_
                                          refine g_gf rfl rfl rfl rfl ?_
                                          refine g_gf rfl rfl rfl rfl ?_
                                          refine s_q (q_pick_f rfl rfl) rfl ?_
                                          refine s_q (q_assign rfl) rfl ?_
                                          refine g_nil ?_
                                          refine g_then ?_
                                          refine g_ret ?_
                                          exact fin1 rfl (.tmp rfl) (fun w' hw => ⟨by first | rfl | (simp_all [rightB]; done) | (simp_all [rightB]; omega) | (simp_all [rightB] <;> intros <;> omega), hw.upd⟩) _ (.inl rfl)

theorem chk_any (c : C) (w : World) : Pur Try.prog 9 [c.v] w (.int .i64 (chk c)) := by
  refine g_start Try.func9 rfl 13 rfl (by simp) [] [] (WOK.start _ _) _ rfl ?_
  refine g_seq ?_
  refine g_region ?_
  refine g_op (g_box rfl rfl rfl fun b1 => ?_)
  refine s_q (q_assign rfl) rfl ?_
  refine g_nil ?_
  refine g_then ?_
  refine g_seq ?_
  refine g_seq ?_
  refine g_region ?_
  refine s_q (q_assign rfl) rfl ?_
  refine g_nil ?_
  refine g_then ?_
  refine g_block ?_
  refine g_loopk [1] (fun (i : Nat) => [(3, .int .i64 (i : Int))]) (fun _ => [Res.blk b1 26 c.c]) (fun i => 1 ≤ i ∧ i ≤ 21 ∧ chk c = chkF c (21 - i) i) (fun i => 21 - i) 1 ⟨by omega, by omega, rfl⟩ rfl ⟨rfl, trivial⟩ wok_id ?_
  rintro i ⟨hi1, hi2, hi3⟩
  refine g_seq ?_
  refine g_seq ?_
  refine g_region ?_
  refine s_q (q_move rfl) rfl ?_
  refine s_q (q_leq rfl rfl) rfl ?_
  refine g_nil ?_
  refine g_then ?_
  refine g_cond rfl (fun h1 => ?_) (fun h1 => ?_)
  · refine g_skip ?_
    refine g_then ?_
    refine g_seq ?_
    refine g_block ?_
    refine g_seq ?_
    refine g_region ?_
    refine s_q (q_loadw rfl rfl) rfl ?_
    refine s_q (q_move rfl) rfl ?_
    refine g_op (g_pure rfl (fun w hw => right_any _ _ w) rfl ?_)
    refine s_q (q_not rfl) rfl ?_
    refine g_nil ?_
    refine g_then ?_
    refine g_cond rfl (fun h2 => ?_) (fun h2 => ?_)
    · refine g_seq ?_
      refine g_region ?_
      refine s_q (q_move rfl) rfl ?_
      refine s_q (q_assign rfl) rfl ?_
      refine g_nil ?_
      refine g_then ?_
      refine g_ret ?_
      refine g_blk_ret (g_then_ret (g_then_ret (g_blk_ret (g_then_ret ?_))))
      exact fin1 rfl (.tmp rfl) (fun w' hw => ⟨by rw [hi3, show 21 - i = (21 - (i + 1)) + 1 by simp_all; omega, chkF]; simp_all, hw.upd⟩) _ (.inl rfl)
    · refine g_skip ?_
      refine g_blk_n ?_
      refine g_then ?_
      refine g_region ?_
      refine s_q (q_move rfl) rfl ?_
      refine s_q (q_inc rfl rfl (by omega)) rfl ?_
      refine s_q (q_assign rfl) rfl ?_
      refine g_nil ?_
      exact g_again (i + 1) ⟨by omega, by simp_all; omega, by rw [hi3, show 21 - i = (21 - (i + 1)) + 1 by simp_all; omega, chkF]; simp_all⟩ (by simp_all; omega) ⟨rfl, rfl, trivial⟩ wok_id
  · refine g_exit ?_
    refine g_then_x (g_then_x (g_blk_hit ?_))
    refine g_then ?_
    refine g_seq ?_
    refine g_region ?_
    refine s_q (q_assign rfl) rfl ?_
    refine g_nil ?_
    refine g_then ?_
    refine g_ret ?_
    exact fin1 rfl (.tmp rfl) (fun w' hw => ⟨by rw [hi3, show 21 - i = 0 by simp_all; omega]; rfl, hw.upd⟩) _ (.inl rfl)

def addB (l : List Int) : Bool := decide (l.sum ≤ 18446744073709551615)
def addV (l : List Int) : Int := if l.sum ≤ 18446744073709551615 then l.sum else 0
def okU (l : List Int) : Prop := ∀ x ∈ l, 0 ≤ x ∧ x ≤ 18446744073709551615
theorem sum_nn : ∀ {l : List Int}, (∀ x ∈ l, 0 ≤ x) → 0 ≤ l.sum
  | [], _ => by simp
  | x :: l, h => by
    have := sum_nn (l := l) fun y hy => h y (by simp [hy])
    have := h x (by simp)
    simp only [List.sum_cons]; omega
theorem sum_take {l : List Int} (h : okU l) {k : Nat} (hk : k < l.length) : (l.take (k + 1)).sum = (l.take k).sum + l[k] ∧ 0 ≤ (l.take k).sum ∧ 0 ≤ l[k] ∧ l[k] ≤ 18446744073709551615 := by
  have h1 := h l[k] (List.getElem_mem _)
  refine ⟨?_, sum_nn fun x hx => (h x (List.mem_of_mem_take hx)).1, h1.1, h1.2⟩
  rw [← List.take_append_getElem hk, List.sum_append]; simp
theorem sum_le {l : List Int} (h : okU l) (k : Nat) : (l.take k).sum ≤ l.sum := by
  have e : l.sum = (l.take k).sum + (l.drop k).sum := by rw [← List.sum_append, List.take_append_drop]
  have := sum_nn (l := l.drop k) fun x hx => (h x (List.mem_of_mem_drop hx)).1
  omega
theorem add_over {l : List Int} (h : okU l) {k : Nat} (hk : 18446744073709551615 < (l.take k).sum) : addB l = false ∧ addV l = 0 := by
  have := sum_le h k
  refine ⟨decide_eq_false (by omega), if_neg (by omega)⟩
theorem add_fits {l : List Int} (h : l.sum ≤ 18446744073709551615) : addB l = true ∧ addV l = l.sum := ⟨decide_eq_true h, if_pos h⟩

set_option maxHeartbeats 400000 in
theorem sat_any (A : Option Addr) (n cap : Nat) (l : List Int) (w : World) (ha : Old w A n 1 (l.map (fun v : Int => [Value.int .u64 v]))) (hl : okU l) (hb : n ≤ 1000000) : Pur Try.prog 41 [.slice A n cap] w (.tuple [.int .u64 (if l.sum ≤ 18446744073709551615 then l.sum else 18446744073709551615), .bool (!addB l)].toArray) := by
  refine g_start Try.func41 rfl 23 rfl (by simp) ([]) [] (WOK.start _ _) _ rfl ?_
  have hn : n = l.length := by simpa using ha.len
  refine g_seq ?_
  refine g_region ?_
  refine s_q (q_assign rfl) rfl ?_
  refine s_q (q_assign rfl) rfl ?_
  refine g_nil ?_
  refine g_then ?_
  refine g_seq ?_
  refine g_region ?_
  refine s_q (q_assign rfl) rfl ?_
  refine g_nil ?_
  refine g_then ?_
  refine g_seq ?_
  refine g_seq ?_
  refine g_region ?_
  refine s_q (q_move rfl) rfl ?_
  refine s_q (q_len rfl) rfl ?_
  refine s_q (q_move rfl) rfl ?_
  refine g_nil ?_
  refine g_then ?_
  refine g_block ?_
  refine g_loopk [2, 3, 7, 8] (fun (x : Nat) => [(4, .int .u64 ((l.take x).sum)), (9, .int .i64 ((x : Nat) : Int))]) (fun (x : Nat) => []) (fun (x : Nat) => x ≤ n ∧ (l.take x).sum ≤ 18446744073709551615) (fun (x : Nat) => n - x) 0 (by (try dsimp only); exact ⟨Nat.zero_le _, (by simp)⟩) rfl (by repeat (first | exact trivial | refine ⟨rfl, ?_⟩)) wok_sub ?_
  rintro k ⟨le_k, hs⟩
  replace le_k : k ≤ n := le_k
  replace hs : (l.take k).sum ≤ 18446744073709551615 := hs
  refine g_seq ?_
  refine g_region ?_
  refine s_q (q_lss rfl rfl) rfl ?_
  refine g_nil ?_
  refine g_then ?_
  refine g_seq ?_
  refine g_cond rfl (fun h1 => ?_) (fun h1 => ?_)
  · have lt_k : k < n := by have h9 := of_decide_eq_true h1; omega
    refine g_skip ?_
    refine g_then ?_
    refine g_seq ?_
    refine g_block ?_
    refine g_seq ?_
    refine g_region ?_
    refine s_q (q_index (i := k) rfl rfl rfl (ha.rdb rfl) (by first | exact lt_k | omega)) rfl ?_
    refine s_q (q_load_el (i := k) (o := 0) rfl (ha.rdb rfl) (map_get (by first | assumption | omega)) rfl rfl) rfl ?_
    refine s_q (q_assign rfl) rfl ?_
    refine g_nil ?_
    refine g_then ?_
    refine g_seq ?_
    refine g_seq ?_
    refine g_region ?_
    refine s_q (q_move rfl) rfl ?_
    refine s_q (q_move rfl) rfl ?_
    refine s_q (q_add rfl rfl) rfl ?_
    refine s_q (q_move rfl) rfl ?_
    refine s_q (q_lss rfl rfl) rfl ?_
    refine g_nil ?_
    refine g_then ?_
    refine g_cond rfl (fun h2 => ?_) (fun h2 => ?_)
    · refine g_seq ?_
      refine g_region ?_
      refine s_q (q_assign rfl) rfl ?_
      refine s_q (q_assign rfl) rfl ?_
      refine g_nil ?_
      refine g_then ?_
      refine g_ret ?_
      refine g_then_ret (g_blk_ret (g_then_ret (g_then_ret (g_blk_ret (g_then_ret ?_)))))
      exact fin2 rfl (.tmp rfl) (.tmp rfl) (fun w' hw' => ⟨by have h9 := sum_take hl (k := k) (by omega); have h8 : 18446744073709551615 < (l.take (k + 1)).sum := (by simp at h2; rw [IntKind.wrap_u64] at h2; omega); have h7 := add_over hl h8; have h6 := sum_le hl (k + 1); rw [h7.1, if_neg (by omega)]; rfl, hw'.upd⟩) _ (.inl rfl)
    · refine g_skip ?_
      refine g_then ?_
      refine g_region ?_
      refine s_q (q_move rfl) rfl ?_
      refine s_q (q_move rfl) rfl ?_
      refine s_q (q_addz (z := (l.take (k + 1)).sum) rfl rfl (by have h9 := sum_take hl (k := k) (by omega); simp at h2; rw [IntKind.wrap_u64] at h2 ⊢; omega)) rfl ?_
      refine s_q (q_assign rfl) rfl ?_
      refine g_nil ?_
      refine g_blk_n ?_
      refine g_then ?_
      refine g_region ?_
      refine s_q (q_inc rfl rfl (by omega)) rfl ?_
      refine s_q (q_move rfl) rfl ?_
      refine g_nil ?_
      exact g_again (k + 1) (by (try dsimp only); exact ⟨(by first | exact lt_k | omega), (by have := sum_take hl (k := k) (by omega); simp at h2; rw [IntKind.wrap_u64] at h2; omega)⟩) (by first | omega | (simp only; omega)) (by repeat (first | exact trivial | refine ⟨rfl, ?_⟩)) wok_sub
  · have eq_k : k = n := by have h9 := of_decide_eq_false h1; omega
    refine g_exit ?_
    refine g_then_x (g_then_x (g_blk_hit ?_))
    refine g_then ?_
    refine g_seq ?_
    refine g_region ?_
    refine s_q (q_move rfl) rfl ?_
    refine s_q (q_assign rfl) rfl ?_
    refine s_q (q_assign rfl) rfl ?_
    refine g_nil ?_
    refine g_then ?_
    refine g_ret ?_
    exact fin2 rfl (.tmp rfl) (.tmp rfl) (fun w' hw' => ⟨by have e8 : l.take k = l := (by rw [eq_k, hn, List.take_length]); rw [e8] at hs ⊢; have h7 := add_fits hs; rw [h7.1, if_pos hs]; rfl, hw'.upd⟩) _ (.inl rfl)

set_option maxHeartbeats 400000 in
theorem add_any (A : Option Addr) (n cap : Nat) (l : List Int) (w : World) (ha : Old w A n 1 (l.map (fun v : Int => [Value.int .u64 v]))) (hl : okU l) (hb : n ≤ 1000000) : Pur Try.prog 25 [.slice A n cap] w (.tuple [.int .u64 (addV l), .bool (addB l)].toArray) := by
  refine g_start Try.func25 rfl 13 rfl (by simp) ([]) [] (WOK.start _ _) _ rfl ?_
  have hn : n = l.length := by simpa using ha.len
  refine g_seq ?_
  refine g_region ?_
  refine s_q (q_assign rfl) rfl ?_
  refine s_q (q_assign rfl) rfl ?_
  refine g_nil ?_
  refine g_then ?_
  refine g_seq ?_
  refine g_region ?_
  refine s_q (q_move rfl) rfl ?_
  refine g_op (g_pure rfl (fun w1 hw1 => sat_any A (n) (cap) (l) w1 (Rdb.toOld (ha.rdb rfl) hw1) (by first | assumption | (intro x hx; simp at hx; first | (rcases hx with rfl | rfl <;> omega) | (rcases hx with rfl | rfl | rfl <;> omega) | (subst hx; omega))) (by first | omega | (simp; omega) | (simp; done))) rfl ?_)
  refine s_q (q_move rfl) rfl ?_
  refine s_q (q_extract rfl rfl) rfl ?_
  refine s_q (q_extract rfl rfl) rfl ?_
  refine s_q (q_assign rfl) rfl ?_
  refine s_q (q_assign rfl) rfl ?_
  refine g_nil ?_
  refine g_then ?_
  refine g_seq ?_
  refine g_seq ?_
  refine g_region ?_
  refine s_q (q_move rfl) rfl ?_
  refine g_nil ?_
  refine g_then ?_
  refine g_cond rfl (fun h1 => ?_) (fun h1 => ?_)
  · refine g_seq ?_
    refine g_region ?_
    refine s_q (q_assign rfl) rfl ?_
    refine s_q (q_assign rfl) rfl ?_
    refine g_nil ?_
    refine g_then ?_
    refine g_ret ?_
    refine g_then_ret ?_
    exact fin2 rfl (.tmp rfl) (.tmp rfl) (fun w' hw' => ⟨by simp [addB] at h1; simp [addB, addV]; omega, hw'.upd⟩) _ (.inl rfl)
  · refine g_skip ?_
    refine g_then ?_
    refine g_seq ?_
    refine g_region ?_
    refine s_q (q_move rfl) rfl ?_
    refine s_q (q_assign rfl) rfl ?_
    refine s_q (q_assign rfl) rfl ?_
    refine g_nil ?_
    refine g_then ?_
    refine g_ret ?_
    exact fin2 rfl (.tmp rfl) (.tmp rfl) (fun w' hw' => ⟨by simp [addB] at h1; simp [addB, addV, h1], hw'.upd⟩) _ (.inl rfl)

set_option maxHeartbeats 400000 in
theorem max_any  (w : World)  : Pur Try.prog 43 [] w (.int .u64 18446744073709551615) := by
  refine g_start Try.func43 rfl 1 rfl (by simp) ([]) [] (WOK.start _ _) _ rfl ?_
  refine g_seq ?_
  refine g_region ?_
  refine s_q (q_assign rfl) rfl ?_
  refine g_nil ?_
  refine g_then ?_
  refine g_seq ?_
  refine g_region ?_
  refine s_q (q_assign rfl) rfl ?_
  refine g_nil ?_
  refine g_then ?_
  refine g_ret ?_
  exact fin1 rfl (.tmp rfl) (fun w' hw' => ⟨by rfl, hw'.upd⟩) _ (.inl rfl)

set_option maxHeartbeats 400000 in
theorem radd_any (A : Option Addr) (n cap : Nat) (l : List Int) (w : World) (ha : Old w A n 1 (l.map (fun v : Int => [Value.int .u64 v]))) (hl : okU l) (hb : n ≤ 1000000) : Pur Try.prog 27 [.slice A n cap] w (.tuple [.int .u64 (addV l), .bool (addB l)].toArray) := by
  refine g_start Try.func27 rfl 27 rfl (by simp) ([]) [] (WOK.start _ _) _ rfl ?_
  have hn : n = l.length := by simpa using ha.len
  refine g_seq ?_
  refine g_region ?_
  refine s_q (q_assign rfl) rfl ?_
  refine s_q (q_assign rfl) rfl ?_
  refine g_nil ?_
  refine g_then ?_
  refine g_seq ?_
  refine g_region ?_
  refine s_q (q_assign rfl) rfl ?_
  refine g_nil ?_
  refine g_then ?_
  refine g_seq ?_
  refine g_seq ?_
  refine g_region ?_
  refine s_q (q_assign rfl) rfl ?_
  refine g_nil ?_
  refine g_then ?_
  refine g_block ?_
  refine g_loopk [0, 2, 3] (fun (x : Nat) => [(4, .int .u64 ((l.take x).sum)), (5, .int .i64 ((x : Nat) : Int))]) (fun (x : Nat) => []) (fun (x : Nat) => x ≤ n ∧ (l.take x).sum ≤ 18446744073709551615) (fun (x : Nat) => n - x) 0 (by (try dsimp only); exact ⟨Nat.zero_le _, (by simp)⟩) rfl (by repeat (first | exact trivial | refine ⟨rfl, ?_⟩)) wok_sub ?_
  rintro k ⟨le_k, hs⟩
  replace le_k : k ≤ n := le_k
  replace hs : (l.take k).sum ≤ 18446744073709551615 := hs
  refine g_seq ?_
  refine g_seq ?_
  refine g_region ?_
  refine s_q (q_move rfl) rfl ?_
  refine s_q (q_move rfl) rfl ?_
  refine s_q (q_len rfl) rfl ?_
  refine s_q (q_lss rfl rfl) rfl ?_
  refine g_nil ?_
  refine g_then ?_
  refine g_cond rfl (fun h1 => ?_) (fun h1 => ?_)
  · have lt_k : k < n := by have h9 := of_decide_eq_true h1; omega
    refine g_skip ?_
    refine g_then ?_
    refine g_seq ?_
    refine g_block ?_
    refine g_seq ?_
    refine g_seq ?_
    refine d_region [] mixed rfl rfl ?_
    refine d_q 0 rfl (by kernel_rfl) (q_move rfl) wok_sub rfl (ls' := #[true, false, false, false, false, false, false, false]) rfl ?_
    refine d_q 1 rfl (by kernel_rfl) (q_move rfl) wok_sub rfl (ls' := #[true, true, false, false, false, false, false, false]) rfl ?_
    refine d_q 2 rfl (by kernel_rfl) (q_index (i := k) rfl rfl rfl (ha.rdb rfl) (by first | exact lt_k | omega)) wok_sub rfl (ls' := #[true, true, true, false, false, false, false, false]) rfl ?_
    refine d_q 3 rfl (by kernel_rfl) (q_load_el (i := k) (o := 0) rfl (ha.rdb rfl) (map_get (by first | assumption | omega)) rfl rfl) wok_sub rfl (ls' := #[true, true, true, true, false, false, false, false]) rfl ?_
    refine d_q 5 rfl (by kernel_rfl) (q_move rfl) wok_sub rfl (ls' := #[true, true, true, true, false, true, false, false]) rfl ?_
    refine d_op 4 rfl (by kernel_rfl) (ls' := #[true, true, true, true, true, true, false, false]) rfl wok_sub (g_pure rfl (fun w1 hw1 => max_any w1) rfl ?_)
    refine d_q 6 rfl (by kernel_rfl) (q_subz (z := 18446744073709551615 - (l.take k).sum) rfl rfl (by have h9 := sum_take hl (k := k) (by omega); rw [IntKind.wrap_u64]; omega)) wok_sub rfl (ls' := #[true, true, true, true, true, true, true, false]) rfl ?_
    refine d_q 7 rfl (by kernel_rfl) (q_gtr rfl rfl) wok_sub rfl (ls' := #[true, true, true, true, true, true, true, true]) rfl ?_
    refine d_end (by kernel_rfl) (.inr wok_sub) ?_
    refine g_then ?_
    refine g_cond rfl (fun h2 => ?_) (fun h2 => ?_)
    · refine g_seq ?_
      refine g_region ?_
      refine s_q (q_assign rfl) rfl ?_
      refine s_q (q_assign rfl) rfl ?_
      refine g_nil ?_
      refine g_then ?_
      refine g_ret ?_
      refine g_then_ret (g_blk_ret (g_then_ret (g_then_ret (g_blk_ret (g_then_ret ?_)))))
      exact fin2 rfl (.tmp rfl) (.tmp rfl) (fun w' hw' => ⟨by have h9 := sum_take hl (k := k) (by omega); have h8 : 18446744073709551615 < (l.take (k + 1)).sum := (by simp at h2; omega); have h7 := add_over hl h8; rw [h7.1, h7.2], hw'.upd⟩) _ (.inl rfl)
    · refine g_skip ?_
      refine g_then ?_
      refine g_region ?_
      refine s_q (q_move rfl) rfl ?_
      refine s_q (q_move rfl) rfl ?_
      refine s_q (q_move rfl) rfl ?_
      refine s_q (q_index (i := k) rfl rfl rfl (ha.rdb rfl) (by first | exact lt_k | omega)) rfl ?_
      refine s_q (q_load_el (i := k) (o := 0) rfl (ha.rdb rfl) (map_get (by first | assumption | omega)) rfl rfl) rfl ?_
      refine s_q (q_addz (z := (l.take (k + 1)).sum) rfl rfl (by have h9 := sum_take hl (k := k) (by omega); simp at h2; rw [IntKind.wrap_u64]; omega)) rfl ?_
      refine s_q (q_assign rfl) rfl ?_
      refine g_nil ?_
      refine g_blk_n ?_
      refine g_then ?_
      refine g_region ?_
      refine s_q (q_move rfl) rfl ?_
      refine s_q (q_inc rfl rfl (by omega)) rfl ?_
      refine s_q (q_assign rfl) rfl ?_
      refine g_nil ?_
      exact g_again (k + 1) (by (try dsimp only); exact ⟨(by first | exact lt_k | omega), (by have := sum_take hl (k := k) (by omega); simp at h2; omega)⟩) (by first | omega | (simp only; omega)) (by repeat (first | exact trivial | refine ⟨rfl, ?_⟩)) wok_sub
  · have eq_k : k = n := by have h9 := of_decide_eq_false h1; omega
    refine g_exit ?_
    refine g_then_x (g_then_x (g_blk_hit ?_))
    refine g_then ?_
    refine g_seq ?_
    refine g_region ?_
    refine s_q (q_move rfl) rfl ?_
    refine s_q (q_assign rfl) rfl ?_
    refine s_q (q_assign rfl) rfl ?_
    refine g_nil ?_
    refine g_then ?_
    refine g_ret ?_
    exact fin2 rfl (.tmp rfl) (.tmp rfl) (fun w' hw' => ⟨by have e8 : l.take k = l := (by rw [eq_k, hn, List.take_length]); rw [e8] at hs ⊢; have h7 := add_fits hs; rw [h7.1, h7.2], hw'.upd⟩) _ (.inl rfl)
end Go.Proofs.Ythdkbocfkbnpaaa
