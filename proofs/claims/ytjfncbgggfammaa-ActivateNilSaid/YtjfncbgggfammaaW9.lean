/- the queue, and the plain law of the reference step -/
import Derived.Test.YtjfncbgggfammaaW8
namespace Go.Proofs.Ytjfncbgggfammaa
open Go.RowKit Go.Eg
set_option synthInstance.maxSize 3000
set_option linter.unusedSimpArgs false
set_option linter.unusedVariables false
set_option maxRecDepth 100000
set_option maxHeartbeats 400000 in
theorem queue_any (A : Option Addr) (cap : Nat) (l : List Int) (w : World) (ha : Old w A l.length 1 (l.map (fun v : Int => [Value.int .i64 v]))) (hcl : l.length ≤ cap) (hn9 : l.length ≤ 1000) : Own2 (ι := (Nat × Rg)) Try.prog 10 [.slice A l.length cap] w [] (fun x => x.2.Rep 1 (l.map (fun v : Int => [Value.int .i64 v])) ∧ x.2.size = max l.length 1) (fun x => .pointer (some ⟨x.1, 0, none⟩)) (fun x => [Res.blk x.1 50 (Rg.c x.2), Res.row (Rg.A x.2) (Rg.s x.2).length (Rg.cap x.2) 3 1 (Rg.s x.2)]) (fun x => []) := by
  refine g_start Try.func10 rfl 19 rfl (by simp) (fps []) [] (WOK.start _ _) _ rfl ?_
  refine g_seq ?_
  refine g_region ?_
  refine s_q (q_assign rfl) rfl ?_
  refine g_nil ?_
  refine g_then ?_
  refine g_seq ?_
  refine g_region ?_
  refine s_q (q_move rfl) rfl ?_
  refine s_q (q_len rfl) rfl ?_
  refine s_q (q_maxn (a := l.length) (b := 1) rfl rfl) rfl ?_
  refine g_op (g_ownS [] rfl (fun w1 hw1 ho1 => by have h7 := new_i ((max l.length 1)) w1 (by omega); exact h7) rfl ?_)
  rintro ⟨b7, g7⟩ ⟨r7, s7⟩
  refine ⟨_, _, inferInstance, inferInstance, ?_⟩
  simp only at r7 s7
  refine s_q (q_assign rfl) rfl ?_
  refine g_nil ?_
  refine g_then ?_
  refine g_seq ?_
  refine g_seq ?_
  refine g_region ?_
  refine s_q (q_move rfl) rfl ?_
  refine s_q (q_nep (b := true) rfl rfl rfl) rfl ?_
  refine s_q (q_move rfl) rfl ?_
  refine s_qg (q_move rfl) rfl rfl rfl ?_
  refine s_qg (q_move rfl) rfl rfl rfl ?_
  refine g_gt rfl rfl (g_ownS [Res.blk b7 50 (Rg.c g7), Res.row (Rg.A g7) (Rg.s g7).length (Rg.cap g7) 3 1 (Rg.s g7)] rfl (fun w1 hw1 ho1 => by have h7 := push_i b7 g7 ([] : List Int) l A cap w1 ho1 r7 (Rd.ofOld hw1 ha (by omega) (by simp [fps])) hcl; exact h7) rfl ?_)
  rintro g13 ⟨r13, s13⟩
  refine ⟨_, _, inferInstance, inferInstance, ?_⟩
  refine s_qg (q_move rfl) rfl rfl rfl ?_
  refine s_qg (q_len rfl) rfl rfl rfl ?_
  refine s_qg (q_neq rfl rfl) rfl rfl rfl ?_
  refine g_litb 16 (b := false) rfl (by rw [s7]; simp; omega) ?_
  refine s_q (q_pick_t rfl rfl) rfl ?_
  refine g_nil ?_
  refine g_then ?_
  refine g_false rfl ?_
  refine g_skip ?_
  refine g_then ?_
  refine g_seq ?_
  refine g_region ?_
  refine s_q (q_move rfl) rfl ?_
  refine s_q (q_assign rfl) rfl ?_
  refine g_nil ?_
  refine g_then ?_
  refine g_ret ?_
  have r13b : g13.Rep 1 (l.map (fun v : Int => [Value.int .i64 v])) := by rw [s7] at r13; rw [List.take_of_length_le (by simp; omega)] at r13; simpa using r13
  exact fin1 rfl (.tmp rfl) (fun w' hw' => ⟨(b7, g13), (by first | exact ⟨r13b, by omega⟩ | (dsimp only; exact ⟨r13b, by omega⟩)), rfl, by have h9 := wok_sub (L' := [Res.blk ((b7, g13)).1 50 (Rg.c ((b7, g13)).2), Res.row (Rg.A ((b7, g13)).2) (Rg.s ((b7, g13)).2).length (Rg.cap ((b7, g13)).2) 3 1 (Rg.s ((b7, g13)).2)]) w' hw'; exact h9⟩) _ (.inl rfl)

def sumN (ws l : List Int) (k : Nat) : Int := ((l.take k).map (ofW ws)).sum
theorem sumN_succ {ws l : List Int} {k : Nat} (hk : k < l.length) : sumN ws l (k + 1) = sumN ws l k + ofW ws l[k] := by
  unfold sumN
  rw [← List.take_append_getElem hk, List.map_append, List.sum_append]; simp
theorem sumN_nn {ws l : List Int} (h : okU ws) (k : Nat) : 0 ≤ sumN ws l k := sum_nn fun x hx => by
  obtain ⟨i, _, rfl⟩ := List.mem_map.1 hx
  exact (ofW_U h i).1
theorem rbud {lim : Int} {ws l : List Int} {k : Nat} (h : okU ws) (hk : k < l.length) : budB lim (sumN ws l k) (decide (k = 0)) (ofW ws l[k]) true = (decide (k = 0) || (addB ((l.take (k + 1)).map (ofW ws)) && decide (addV ((l.take (k + 1)).map (ofW ws)) ≤ lim))) ∧ addV [sumN ws l k, ofW ws l[k]] = addV ((l.take (k + 1)).map (ofW ws)) ∧ addB [sumN ws l k, ofW ws l[k]] = addB ((l.take (k + 1)).map (ofW ws)) := by
  have e : ([sumN ws l k, ofW ws l[k]] : List Int).sum = ((l.take (k + 1)).map (ofW ws)).sum := by
    have := sumN_succ (ws := ws) hk
    unfold sumN at *
    simp only [List.sum_cons, List.sum_nil]; omega
  have e1 : addV [sumN ws l k, ofW ws l[k]] = addV ((l.take (k + 1)).map (ofW ws)) := by unfold addV; rw [e]
  have e2 : addB [sumN ws l k, ofW ws l[k]] = addB ((l.take (k + 1)).map (ofW ws)) := by unfold addB; rw [e]
  refine ⟨?_, e1, e2⟩
  unfold budB
  rw [e1, e2, Bool.true_and]
theorem rstep_go {lim : Int} {ws l : List Int} {k : Nat} (h : okU ws) (hk : k < l.length) (hb : k = 0 ∨ (addB ((l.take (k + 1)).map (ofW ws)) = true ∧ addV ((l.take (k + 1)).map (ofW ws)) ≤ lim)) :
    batF lim ws (l.drop k) (sumN ws l k) (decide (k = 0)) = l[k] :: batF lim ws (l.drop (k + 1)) (sumN ws l (k + 1)) (decide (k + 1 = 0)) := by
  obtain ⟨b1, b2, b3⟩ := rbud (lim := lim) h hk
  have hB : budB lim (sumN ws l k) (decide (k = 0)) (ofW ws l[k]) true = true := by
    rw [b1]
    rcases hb with hb | hb
    · simp [hb]
    · rw [hb.1, decide_eq_true hb.2]; simp
  have hf : addB ((l.take (k + 1)).map (ofW ws)) = true := by
    rcases hb with rfl | hb
    · have e0 : sumN ws l 0 = 0 := rfl
      have := ofW_U h l[0]
      rw [← b3, e0]
      unfold addB; simp; omega
    · exact hb.1
  rw [bat_go hk hB]
  have hs : budS lim (sumN ws l k) (decide (k = 0)) (ofW ws l[k]) true = sumN ws l (k + 1) := by
    unfold budS
    rw [if_pos hB, b2]
    unfold addV
    rw [if_pos (by simpa [addB] using hf)]; rfl
  have hF : budF lim (sumN ws l k) (decide (k = 0)) (ofW ws l[k]) true = decide (k + 1 = 0) := by
    unfold budF; rw [if_pos hB]; simp
  rw [hs, hF]
theorem rstep_stop {lim : Int} {ws l : List Int} {k : Nat} (h : okU ws) (hk : k < l.length) (h0 : k ≠ 0) (hb : ¬ (addB ((l.take (k + 1)).map (ofW ws)) = true ∧ addV ((l.take (k + 1)).map (ofW ws)) ≤ lim)) :
    batF lim ws (l.drop k) (sumN ws l k) (decide (k = 0)) = [] := by
  obtain ⟨b1, _, _⟩ := rbud (lim := lim) h hk
  refine bat_stop hk ?_
  rw [b1]
  simp only [decide_eq_false h0, Bool.false_or, Bool.and_eq_false_iff, decide_eq_false_iff_not]
  by_cases hx : addB ((l.take (k + 1)).map (ofW ws)) = true
  · exact .inr fun hc => hb ⟨hx, hc⟩
  · exact .inl (by simpa using hx)
end Go.Proofs.Ytjfncbgggfammaa
