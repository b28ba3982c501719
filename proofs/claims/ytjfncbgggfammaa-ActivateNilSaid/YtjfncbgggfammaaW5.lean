/- walk of the iterator -/
import Derived.Test.YtjfncbgggfammaaW4
namespace Go.Proofs.Ytjfncbgggfammaa
open Go.RowKit Go.Eg
set_option synthInstance.maxSize 3000
set_option linter.unusedSimpArgs false
set_option linter.unusedVariables false
set_option maxRecDepth 100000
def batF (lim : Int) (ws : List Int) : List Int → Int → Bool → List Int
  | [], _, _ => []
  | i :: r, s, f => if budB lim s f (ofW ws i) true then i :: batF lim ws r (budS lim s f (ofW ws i) true) (budF lim s f (ofW ws i) true) else []
theorem bat_go {lim : Int} {ws l : List Int} {k : Nat} (hk : k < l.length) {s : Int} {f : Bool} (h : budB lim s f (ofW ws l[k]) true = true) : batF lim ws (l.drop k) s f = l[k] :: batF lim ws (l.drop (k + 1)) (budS lim s f (ofW ws l[k]) true) (budF lim s f (ofW ws l[k]) true) := by
  rw [List.drop_eq_getElem_cons hk, batF, if_pos h]
theorem bat_stop {lim : Int} {ws l : List Int} {k : Nat} (hk : k < l.length) {s : Int} {f : Bool} (h : budB lim s f (ofW ws l[k]) true = false) : batF lim ws (l.drop k) s f = [] := by
  rw [List.drop_eq_getElem_cons hk, batF, if_neg (by simp [h])]
theorem add_one {x : Int} (h : 0 ≤ x ∧ x ≤ 18446744073709551615) : addV [x] = x ∧ addB [x] = true := by
  have hs : ([x] : List Int).sum ≤ 18446744073709551615 := by simp; omega
  obtain ⟨h1, h2⟩ := add_fits hs
  exact ⟨by rw [h2]; simp, h1⟩
theorem bud_rng {lim s w : Int} {f ok : Bool} (hs : 0 ≤ s ∧ s ≤ 18446744073709551615) (hw : 0 ≤ w ∧ w ≤ 18446744073709551615) : 0 ≤ budS lim s f w ok ∧ budS lim s f w ok ≤ 18446744073709551615 := by
  unfold budS addV
  split
  · split
    · simp only [List.sum_cons, List.sum_nil] at *; omega
    · omega
  · exact hs

set_option maxHeartbeats 400000 in
theorem batch1_any (l9 : Nat) (B9 : List Int → Res → Prop) (r : Res) (b6 b4 b5 b7 rb : Nat) (g : Rg) (lim : Int) (W : Option Addr) (wn wc : Nat) (ws l : List Int) (w : World) (hw : WOK (fps [Res.blk b6 23 [Value.int .u64 lim], Res.blk b4 26 [Value.pointer (some ⟨rb, 0, none⟩)], Res.blk b5 3 [Value.int .i64 0], Res.blk b7 24 [Value.slice W wn wc], Res.blk rb 50 (Rg.c g), Res.row (Rg.A g) (Rg.s g).length (Rg.cap g) 3 1 (Rg.s g), r]) w [Res.blk b6 23 [Value.int .u64 lim], Res.blk b4 26 [Value.pointer (some ⟨rb, 0, none⟩)], Res.blk b5 3 [Value.int .i64 0], Res.blk b7 24 [Value.slice W wn wc], Res.blk rb 50 (Rg.c g), Res.row (Rg.A g) (Rg.s g).length (Rg.cap g) 3 1 (Rg.s g), r] w) (hY : YOK Try.prog l9 (fun x : Int => Value.int .i64 x) B9 (batF lim ws l 0 true)) (hB0 : B9 [] r) (h : g.Rep 1 (l.map (fun v : Int => [Value.int .i64 v]))) (hw9 : Rd w [Res.blk b6 23 [Value.int .u64 lim], Res.blk b4 26 [Value.pointer (some ⟨rb, 0, none⟩)], Res.blk b5 3 [Value.int .i64 0], Res.blk b7 24 [Value.slice W wn wc], Res.blk rb 50 (Rg.c g), Res.row (Rg.A g) (Rg.s g).length (Rg.cap g) 3 1 (Rg.s g), r] W wn 1 (ws.map (fun v : Int => [Value.int .u64 v]))) (hokw : okU ws) (hlim : 0 ≤ lim ∧ lim ≤ 18446744073709551615) (hln : l.length ≤ 1000000) : Ret Try.prog 32 [.func (.yield l9) #[] #[], .pointer (some ⟨b6, 0, none⟩), .pointer (some ⟨b4, 0, none⟩), .pointer (some ⟨b5, 0, none⟩), .pointer (some ⟨b7, 0, none⟩)] w (fun _ w2 => ∃ r2, B9 (batF lim ws l 0 true) r2 ∧ WOK (fps [Res.blk b6 23 [Value.int .u64 lim], Res.blk b4 26 [Value.pointer (some ⟨rb, 0, none⟩)], Res.blk b5 3 [Value.int .i64 0], Res.blk b7 24 [Value.slice W wn wc], Res.blk rb 50 (Rg.c g), Res.row (Rg.A g) (Rg.s g).length (Rg.cap g) 3 1 (Rg.s g), r]) w [Res.blk b6 23 [Value.int .u64 lim], Res.blk b4 26 [Value.pointer (some ⟨rb, 0, none⟩)], Res.blk b5 3 [Value.int .i64 (((batF lim ws l 0 true).length : Nat) : Int)], Res.blk b7 24 [Value.slice W wn wc], Res.blk rb 50 (Rg.c g), Res.row (Rg.A g) (Rg.s g).length (Rg.cap g) 3 1 (Rg.s g), r2] w2) := by
  refine g_start Try.func32 rfl 38 rfl (by simp) (fps [Res.blk b6 23 [Value.int .u64 lim], Res.blk b4 26 [Value.pointer (some ⟨rb, 0, none⟩)], Res.blk b5 3 [Value.int .i64 0], Res.blk b7 24 [Value.slice W wn wc], Res.blk rb 50 (Rg.c g), Res.row (Rg.A g) (Rg.s g).length (Rg.cap g) 3 1 (Rg.s g), r]) [Res.blk b6 23 [Value.int .u64 lim], Res.blk b4 26 [Value.pointer (some ⟨rb, 0, none⟩)], Res.blk b5 3 [Value.int .i64 0], Res.blk b7 24 [Value.slice W wn wc], Res.blk rb 50 (Rg.c g), Res.row (Rg.A g) (Rg.s g).length (Rg.cap g) 3 1 (Rg.s g), r] hw _ rfl ?_
  refine g_seq ?_
  refine g_region ?_
  refine s_q (q_load rfl rfl) rfl ?_
  refine g_op (g_ownS [] rfl (fun w1 hw1 ho1 => by have h7 := budget_any (lim) w1; exact h7) rfl ?_)
  rintro ⟨sb10, fb10, lb10⟩ _
  refine ⟨_, _, inferInstance, inferInstance, ?_⟩
  refine s_q (q_assign rfl) rfl ?_
  refine g_nil ?_
  refine g_then ?_
  refine g_block ?_
  refine g_loopk [0, 2, 3, 4, 6] (fun (x : Nat × Int × Bool × Res) => []) (fun (x : Nat × Int × Bool × Res) => [Res.blk sb10 23 [Value.int .u64 (x.2.1)], Res.blk fb10 4 [Value.bool (x.2.2.1)], Res.blk lb10 23 [Value.int .u64 lim], Res.blk b6 23 [Value.int .u64 lim], Res.blk b4 26 [Value.pointer (some ⟨rb, 0, none⟩)], Res.blk b5 3 [Value.int .i64 ((x.1 : Nat) : Int)], Res.blk b7 24 [Value.slice W wn wc], Res.blk rb 50 (Rg.c g), Res.row (Rg.A g) (Rg.s g).length (Rg.cap g) 3 1 (Rg.s g), x.2.2.2]) (fun (x : Nat × Int × Bool × Res) => x.1 ≤ l.length ∧ B9 (l.take x.1) x.2.2.2 ∧ (batF lim ws l 0 true) = l.take x.1 ++ batF lim ws (l.drop x.1) x.2.1 x.2.2.1 ∧ (0 ≤ x.2.1 ∧ x.2.1 ≤ 18446744073709551615)) (fun (x : Nat × Int × Bool × Res) => l.length - x.1) (0, 0, true, r) (by (try dsimp only); exact ⟨(by omega), (by simpa using hB0), rfl, (by omega)⟩) rfl (by repeat (first | exact trivial | refine ⟨rfl, ?_⟩)) wok_sub ?_
  rintro ⟨k, s, f, r1⟩ ⟨hk, hB, hbat, hs9⟩
  replace hk : k ≤ l.length := hk
  replace hB : B9 (l.take k) r1 := hB
  replace hbat : (batF lim ws l 0 true) = l.take k ++ batF lim ws (l.drop k) s f := hbat
  replace hs9 : 0 ≤ s ∧ s ≤ 18446744073709551615 := hs9
  refine g_setL (L' := [Res.blk sb10 23 [Value.int .u64 (s)], Res.blk fb10 4 [Value.bool (f)], Res.blk lb10 23 [Value.int .u64 lim], Res.blk b6 23 [Value.int .u64 lim], Res.blk b4 26 [Value.pointer (some ⟨rb, 0, none⟩)], Res.blk b5 3 [Value.int .i64 ((k : Nat) : Int)], Res.blk b7 24 [Value.slice W wn wc], Res.blk rb 50 (Rg.c g), Res.row (Rg.A g) (Rg.s g).length (Rg.cap g) 3 1 (Rg.s g), r1]) rfl ?_
  refine g_block ?_
  refine g_seq ?_
  refine g_region ?_
  refine s_q (q_load rfl rfl) rfl ?_
  refine s_q (q_load rfl rfl) rfl ?_
  refine g_op (g_keep [Res.blk rb 50 (Rg.c g), Res.row (Rg.A g) (Rg.s g).length (Rg.cap g) 3 1 (Rg.s g)] rfl (fun w1 hw1 ho1 => by exact peek_i rb g l _ w1 ho1 h) rfl ?_)
  refine s_q (q_move rfl) rfl ?_
  refine s_q (q_extract rfl rfl) rfl ?_
  refine s_q (q_extract rfl rfl) rfl ?_
  refine s_q (q_assign rfl) rfl ?_
  refine s_q (q_assign rfl) rfl ?_
  refine g_nil ?_
  refine g_then ?_
  refine g_seq ?_
  refine g_seq ?_
  refine g_region ?_
  refine s_q (q_move rfl) rfl ?_
  refine s_q (q_not rfl) rfl ?_
  refine s_q (q_move rfl) rfl ?_
  refine g_split 19 rfl (fun h1 => ?_) (fun h1 => ?_)
  · have hke : k = l.length := by have h9 := h1; rw [pk_nat] at h9; simp at h9; omega
    have hend : batF lim ws (l.drop k) s f = [] := by rw [hke, List.drop_length]; rfl
    refine g_gf rfl rfl rfl rfl ?_
    refine g_gf rfl rfl rfl rfl ?_
    refine g_gf rfl rfl rfl rfl ?_
    refine g_gf rfl rfl rfl rfl ?_
    refine g_gf rfl rfl rfl rfl ?_
    refine g_gf rfl rfl rfl rfl ?_
    refine g_gf rfl rfl rfl rfl ?_
    refine g_gf rfl rfl rfl rfl ?_
    refine g_gf rfl rfl rfl rfl ?_
    refine s_q (q_pick_t rfl rfl) rfl ?_
    refine s_q (q_move rfl) rfl ?_
    refine g_gf rfl rfl rfl rfl ?_
    refine g_gf rfl rfl rfl rfl ?_
    refine g_gf rfl rfl rfl rfl ?_
    refine g_gf rfl rfl rfl rfl ?_
    refine s_q (q_pick_t rfl rfl) rfl ?_
    refine g_nil ?_
    refine g_then ?_
    refine g_true rfl ?_
    refine g_ret ?_
    refine g_then_ret (g_blk_ret (g_then_ret (g_blk_ret ?_)))
    have hR : (batF lim ws l 0 true) = l.take k := by rw [hbat, hend, List.append_nil]
    have hlk : (l.take k).length = k := by simp; omega
    exact fin0 rfl (fun w' hw' => ⟨r1, by rw [hR]; exact hB, by have h9 := wok_sub (L' := [Res.blk b6 23 [Value.int .u64 lim], Res.blk b4 26 [Value.pointer (some ⟨rb, 0, none⟩)], Res.blk b5 3 [Value.int .i64 ((k : Nat) : Int)], Res.blk b7 24 [Value.slice W wn wc], Res.blk rb 50 (Rg.c g), Res.row (Rg.A g) (Rg.s g).length (Rg.cap g) 3 1 (Rg.s g), r1]) w' hw'; rw [hR, hlk]; exact h9⟩) _ (.inl rfl)
  · have hk1 : k < l.length := by have h9 := h1; rw [pk_nat] at h9; simp at h9; omega
    have hpk : pk l ((k : Nat) : Int) = some l[k] := by rw [pk_nat, List.getElem?_eq_getElem hk1]
    have hwU := ofW_U hokw l[k]
    refine g_val 7 (v' := .int .i64 l[k]) rfl (by rw [hpk]; rfl) ?_
    refine s_qg (q_move rfl) rfl rfl rfl ?_
    refine s_qg (q_load rfl rfl) rfl rfl rfl ?_
    refine s_qg (q_move rfl) rfl rfl rfl ?_
    refine g_gt rfl rfl (g_lit rfl rfl rfl rfl rfl fun b23 => ?_)
    refine g_blkc (b := b23) ((([l[k]] : List Int).map (fun v : Int => [Value.int .i64 v])).flatten) rfl ?_
    refine g_gt rfl rfl (g_pure rfl (fun w1 hw1 => weight_any W (some ⟨b23, 0, none⟩) (wn) (wc) (1) (1) (ws) (([l[k]] : List Int)) w1 (Rdb.toOld hw9.rdb hw1) (Rdb.toOld (InL.rdb (b := b23) (els := (([l[k]] : List Int)).map (fun v : Int => [Value.int .i64 v])) rfl (by simp) rfl) hw1) hokw (by first | omega | (simp; omega) | (simp; done))) rfl ?_)
    refine s_qg (q_extract rfl rfl) rfl rfl rfl ?_
    refine g_val 25 (v' := .int .u64 (ofW ws l[k])) rfl (by rw [List.map_cons, List.map_nil, (add_one hwU).1]) ?_
    refine s_qg (q_extract rfl rfl) rfl rfl rfl ?_
    refine g_val 26 (v' := .bool true) rfl (by rw [List.map_cons, List.map_nil, (add_one hwU).2]) ?_
    refine g_gt rfl rfl (g_ownV [Res.blk sb10 23 [Value.int .u64 (s)], Res.blk fb10 4 [Value.bool (f)], Res.blk lb10 23 [Value.int .u64 lim]] rfl rfl (fun w1 hw1 ho1 => by have h7 := budget1_any sb10 fb10 lb10 (s) (lim) ((ofW ws l[k])) (f) (true) w1 ho1 hs9 hwU; exact h7) rfl ?_)
    rintro ⟨⟩ _
    refine ⟨_, _, inferInstance, inferInstance, ?_⟩
    refine s_qg (q_not rfl) rfl rfl rfl ?_
    refine s_q (q_pick_f rfl rfl) rfl ?_
    refine s_q (q_move rfl) rfl ?_
    refine g_split 30 rfl (fun h2 => ?_) (fun h2 => ?_)
    · have hbd : budB lim s f (ofW ws l[k]) true = false := by simpa using h2
      have hend := bat_stop (lim := lim) (ws := ws) hk1 hbd
      refine g_gf rfl rfl rfl rfl ?_
      refine g_gf rfl rfl rfl rfl ?_
      refine g_gf rfl rfl rfl rfl ?_
      refine g_gf rfl rfl rfl rfl ?_
      refine s_q (q_pick_t rfl rfl) rfl ?_
      refine g_nil ?_
      refine g_then ?_
      refine g_true rfl ?_
      refine g_ret ?_
      refine g_then_ret (g_blk_ret (g_then_ret (g_blk_ret ?_)))
      have hR : (batF lim ws l 0 true) = l.take k := by rw [hbat, hend, List.append_nil]
      have hlk : (l.take k).length = k := by simp; omega
      exact fin0 rfl (fun w' hw' => ⟨r1, by rw [hR]; exact hB, by have h9 := wok_sub (L' := [Res.blk b6 23 [Value.int .u64 lim], Res.blk b4 26 [Value.pointer (some ⟨rb, 0, none⟩)], Res.blk b5 3 [Value.int .i64 ((k : Nat) : Int)], Res.blk b7 24 [Value.slice W wn wc], Res.blk rb 50 (Rg.c g), Res.row (Rg.A g) (Rg.s g).length (Rg.cap g) 3 1 (Rg.s g), r1]) w' hw'; rw [hR, hlk]; exact h9⟩) _ (.inl rfl)
    · have hbd : budB lim s f (ofW ws l[k]) true = true := by simpa using h2
      have hbat2 : (batF lim ws l 0 true) = l.take (k + 1) ++ batF lim ws (l.drop (k + 1)) (budS lim s f (ofW ws l[k]) true) (budF lim s f (ofW ws l[k]) true) := by rw [hbat, bat_go hk1 hbd, ← List.take_append_getElem hk1, List.append_assoc]; rfl
      have hpre9 : l.take k ++ [l[k]] <+: (batF lim ws l 0 true) := ⟨_, by rw [hbat2, ← List.take_append_getElem hk1]⟩
      refine s_qg (q_move rfl) rfl rfl rfl ?_
      refine s_qg (q_move rfl) rfl rfl rfl ?_
      refine g_gt rfl rfl (g_yield hY hpre9 hB rfl rfl rfl fun r9 hB9 => ?_)
      refine ⟨_, inferInstance, ?_⟩
      refine s_qg (q_not rfl) rfl rfl rfl ?_
      refine g_litb 34 (b := false) rfl (rfl) ?_
      refine s_q (q_pick_f rfl rfl) rfl ?_
      refine g_nil ?_
      refine g_then ?_
      refine g_false rfl ?_
      refine g_skip ?_
      refine g_then ?_
      refine g_region ?_
      refine s_q (q_load rfl rfl) rfl ?_
      refine s_q (q_inc rfl rfl (by omega)) rfl ?_
      refine g_op (g_store rfl rfl rfl rfl rfl rfl rfl ?_)
      refine g_blkc (b := b5) [Value.int .i64 ((k + 1 : Nat) : Int)] rfl ?_
      refine g_nil ?_
      refine g_blk_n ?_
      exact g_again ((k + 1), (budS lim s f (ofW ws l[k]) true), (budF lim s f (ofW ws l[k]) true), r9) (by (try dsimp only); exact ⟨(by omega), (by rw [← List.take_append_getElem hk1]; exact hB9), hbat2, (bud_rng hs9 hwU)⟩) (by dsimp only; omega) (by repeat (first | exact trivial | refine ⟨rfl, ?_⟩)) wok_sub
end Go.Proofs.Ytjfncbgggfammaa
