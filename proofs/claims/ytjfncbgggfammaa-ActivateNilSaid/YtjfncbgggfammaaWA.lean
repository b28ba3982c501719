/- walk of the reference step -/
import Derived.Test.YtjfncbgggfammaaW9
namespace Go.Proofs.Ytjfncbgggfammaa
open Go.RowKit Go.Eg
set_option synthInstance.maxSize 3000
set_option linter.unusedSimpArgs false
set_option linter.unusedVariables false
set_option maxRecDepth 100000
theorem rdb_take14 {κ : Cx} {L : List Res} {A : Option Addr} {cap : Nat} {l : List Int} {h : Nat} (hr : Rdb κ L A l.length 1 (l.map fun v : Int => [Value.int .i64 v])) (hh : h ≤ l.length) (hc : l.length ≤ cap) : Rdb κ L (subA A cap 0 1) h 1 ((l.take h).map fun v : Int => [Value.int .i64 v]) := by
  have h8 := Rdb.sub hr (cap := cap) (l := 0) (h := h) (Nat.zero_le _) hh hc
  rw [Nat.sub_zero, List.drop_zero, ← List.map_take] at h8
  exact h8

set_option maxHeartbeats 400000 in
theorem rstep_any (A : Option Addr) (cap : Nat) (l : List Int) (lim : Int) (W : Option Addr) (wn wc : Nat) (ws : List Int) (w : World) (hl9 : Old w A l.length 1 (l.map (fun v : Int => [Value.int .i64 v]))) (hcl : l.length ≤ cap) (hw9 : Old w W wn 1 (ws.map (fun v : Int => [Value.int .u64 v]))) (hokw : okU ws) (hlim : 0 ≤ lim ∧ lim ≤ 18446744073709551615) (hln : l.length ≤ 900) : Pur Try.prog 12 [.slice A l.length cap, .int .u64 lim, .slice W wn wc] w (.int .i64 (((batF lim ws l 0 true).length : Nat) : Int)) := by
  refine g_start Try.func12 rfl 38 rfl (by simp) ([]) [] (WOK.start _ _) _ rfl ?_
  refine g_seq ?_
  refine g_region ?_
  refine s_q (q_assign rfl) rfl ?_
  refine g_nil ?_
  refine g_then ?_
  refine g_seq ?_
  refine g_region ?_
  refine s_q (q_assign rfl) rfl ?_
  refine g_nil ?_
  refine g_then ?_
  refine g_seq ?_
  refine g_block ?_
  refine g_loopk [0, 1, 2, 6] (fun (x : Nat) => [(7, .int .i64 ((x : Nat) : Int))]) (fun (x : Nat) => []) (fun (x : Nat) => x ≤ l.length ∧ (batF lim ws l 0 true) = l.take x ++ batF lim ws (l.drop x) (sumN ws l x) (decide (x = 0))) (fun (x : Nat) => l.length - x) 0 (by (try dsimp only); exact ⟨(by omega), rfl⟩) rfl (by repeat (first | exact trivial | refine ⟨rfl, ?_⟩)) wok_sub ?_
  rintro k ⟨hk, hbat⟩
  replace hk : k ≤ l.length := hk
  replace hbat : (batF lim ws l 0 true) = l.take k ++ batF lim ws (l.drop k) (sumN ws l k) (decide (k = 0)) := hbat
  refine g_seq ?_
  refine g_seq ?_
  refine g_region ?_
  refine s_q (q_move rfl) rfl ?_
  refine s_q (q_move rfl) rfl ?_
  refine s_q (q_len rfl) rfl ?_
  refine s_q (q_lss rfl rfl) rfl ?_
  refine g_nil ?_
  refine g_then ?_
  refine g_cond rfl (fun h1 => ?_) (fun h1 => ?_)
  · have hk1 : k < l.length := by have h9 := of_decide_eq_true h1; omega
    refine g_skip ?_
    refine g_then ?_
    refine g_block ?_
    refine g_seq ?_
    refine g_region ?_
    refine s_q (q_move rfl) rfl ?_
    refine s_q (q_move rfl) rfl ?_
    refine s_q (q_move rfl) rfl ?_
    refine s_q (q_inc rfl rfl (by omega)) rfl ?_
    refine s_q (q_slice_h (h := k + 1) rfl rfl rfl (by omega)) rfl ?_
    refine g_op (g_pure rfl (fun w1 hw1 => rweight_any W (subA A cap 0 1) (wn) (wc) ((k + 1)) (cap) (ws) ((l.take (k + 1))) w1 (Rdb.toOld (hw9.rdb rfl) hw1) (Rdb.toOld (rdb_take14 (l := l) (hl9.rdb rfl) (by omega) (by omega)) hw1) hokw (by first | omega | (simp; omega) | (simp; done))) rfl ?_)
    refine s_q (q_move rfl) rfl ?_
    refine s_q (q_extract rfl rfl) rfl ?_
    refine s_q (q_extract rfl rfl) rfl ?_
    refine s_q (q_assign rfl) rfl ?_
    refine s_q (q_assign rfl) rfl ?_
    refine g_nil ?_
    refine g_then ?_
    refine g_seq ?_
    refine g_seq ?_
    refine g_region ?_
    refine s_q (q_move rfl) rfl ?_
    refine s_q (q_gtr rfl rfl) rfl ?_
    refine s_q (q_move rfl) rfl ?_
    refine g_split 25 rfl (fun h2 => ?_) (fun h2 => ?_)
    · have hk0 : k ≠ 0 := by have h9 := of_decide_eq_true h2; omega
      refine s_qg (q_move rfl) rfl rfl rfl ?_
      refine s_qg (q_not rfl) rfl rfl rfl ?_
      refine s_qg (q_move rfl) rfl rfl rfl ?_
      refine g_split 28 rfl (fun h3 => ?_) (fun h3 => ?_)
      · have hstop := rstep_stop (lim := lim) hokw hk1 hk0 (fun hc => by have h9 := h3; rw [hc.1] at h9; exact absurd h9 (by decide))
        refine g_gf rfl rfl rfl rfl ?_
        refine g_gf rfl rfl rfl rfl ?_
        refine g_gf rfl rfl rfl rfl ?_
        refine s_qg (q_pick_t rfl rfl) rfl rfl rfl ?_
        refine s_q (q_pick_t rfl rfl) rfl ?_
        refine g_nil ?_
        refine g_then ?_
        refine g_true rfl ?_
        refine g_seq ?_
        refine g_region ?_
        refine s_q (q_move rfl) rfl ?_
        refine s_q (q_assign rfl) rfl ?_
        refine g_nil ?_
        refine g_then ?_
        refine g_ret ?_
        refine g_then_ret (g_blk_ret (g_then_ret (g_blk_ret (g_then_ret ?_))))
        exact fin1 rfl (.tmp rfl) (fun w' hw' => ⟨by rw [hbat, hstop]; simp; omega, hw'.upd⟩) _ (.inl rfl)
      · have hfit : addB ((l.take (k + 1)).map (ofW ws)) = true := by simpa using h3
        refine s_qg (q_move rfl) rfl rfl rfl ?_
        refine s_qg (q_move rfl) rfl rfl rfl ?_
        refine s_qg (q_gtr rfl rfl) rfl rfl rfl ?_
        refine s_qg (q_pick_f rfl rfl) rfl rfl rfl ?_
        refine s_q (q_pick_t rfl rfl) rfl ?_
        refine g_nil ?_
        refine g_then ?_
        refine g_cond rfl (fun h4 => ?_) (fun h4 => ?_)
        · have hstop := rstep_stop (lim := lim) hokw hk1 hk0 (fun hc => by have h9 := of_decide_eq_true h4; omega)
          refine g_seq ?_
          refine g_region ?_
          refine s_q (q_move rfl) rfl ?_
          refine s_q (q_assign rfl) rfl ?_
          refine g_nil ?_
          refine g_then ?_
          refine g_ret ?_
          refine g_then_ret (g_blk_ret (g_then_ret (g_blk_ret (g_then_ret ?_))))
          exact fin1 rfl (.tmp rfl) (fun w' hw' => ⟨by rw [hbat, hstop]; simp; omega, hw'.upd⟩) _ (.inl rfl)
        · have hgo : k = 0 ∨ (addB ((l.take (k + 1)).map (ofW ws)) = true ∧ addV ((l.take (k + 1)).map (ofW ws)) ≤ lim) := .inr ⟨hfit, by have h9 := of_decide_eq_false h4; omega⟩
          refine g_skip ?_
          refine g_then ?_
          refine g_region ?_
          refine s_q (q_move rfl) rfl ?_
          refine s_q (q_inc rfl rfl (by omega)) rfl ?_
          refine s_q (q_assign rfl) rfl ?_
          refine g_nil ?_
          refine g_blk_n ?_
          exact g_again (k + 1) (by (try dsimp only); exact ⟨(by omega), (by rw [hbat, rstep_go hokw hk1 hgo, ← List.take_append_getElem hk1, List.append_assoc]; rfl)⟩) (by omega) (by repeat (first | exact trivial | refine ⟨rfl, ?_⟩)) wok_sub
    · have hgo : k = 0 ∨ (addB ((l.take (k + 1)).map (ofW ws)) = true ∧ addV ((l.take (k + 1)).map (ofW ws)) ≤ lim) := .inl (by have h9 := of_decide_eq_false h2; omega)
      refine g_gf rfl rfl rfl rfl ?_
      refine g_gf rfl rfl rfl rfl ?_
      refine g_gf rfl rfl rfl rfl ?_
      refine g_gu rfl rfl rfl ?_
      refine g_gu rfl rfl rfl ?_
      refine g_gu rfl rfl rfl ?_
      refine g_gf rfl rfl rfl rfl ?_
      refine s_q (q_pick_f rfl rfl) rfl ?_
      refine g_nil ?_
      refine g_then ?_
      refine g_false rfl ?_
      refine g_skip ?_
      refine g_then ?_
      refine g_region ?_
      refine s_q (q_move rfl) rfl ?_
      refine s_q (q_inc rfl rfl (by omega)) rfl ?_
      refine s_q (q_assign rfl) rfl ?_
      refine g_nil ?_
      refine g_blk_n ?_
      exact g_again (k + 1) (by (try dsimp only); exact ⟨(by omega), (by rw [hbat, rstep_go hokw hk1 hgo, ← List.take_append_getElem hk1, List.append_assoc]; rfl)⟩) (by omega) (by repeat (first | exact trivial | refine ⟨rfl, ?_⟩)) wok_sub
  · have hk2 : k = l.length := by have h9 := of_decide_eq_false h1; omega
    refine g_exit ?_
    refine g_then_x (g_then_x (g_blk_hit ?_))
    refine g_then ?_
    refine g_seq ?_
    refine g_region ?_
    refine s_q (q_move rfl) rfl ?_
    refine s_q (q_assign rfl) rfl ?_
    refine g_nil ?_
    refine g_then ?_
    refine g_ret ?_
    exact fin1 rfl (.tmp rfl) (fun w' hw' => ⟨by rw [hbat, hk2, List.drop_length]; simp [batF], hw'.upd⟩) _ (.inl rfl)
end Go.Proofs.Ytjfncbgggfammaa
