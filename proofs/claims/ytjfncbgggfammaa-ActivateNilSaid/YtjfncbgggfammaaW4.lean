/- walks of the budget -/
import Derived.Test.YtjfncbgggfammaaW3
namespace Go.Proofs.Ytjfncbgggfammaa
open Go.RowKit Go.Eg
set_option synthInstance.maxSize 3000
set_option linter.unusedSimpArgs false
set_option linter.unusedVariables false
set_option maxRecDepth 100000
def budB (lim s : Int) (f : Bool) (w : Int) (ok : Bool) : Bool := f || (ok && addB [s, w] && decide (addV [s, w] ≤ lim))
def budS (lim s : Int) (f : Bool) (w : Int) (ok : Bool) : Int := if budB lim s f w ok then addV [s, w] else s
def budF (lim s : Int) (f : Bool) (w : Int) (ok : Bool) : Bool := if budB lim s f w ok then false else f

set_option maxHeartbeats 400000 in
theorem budget1_any (sb fb lb : Nat) (s lim w9 : Int) (f ok : Bool) (w : World) (hw : WOK (fps [Res.blk sb 23 [Value.int .u64 (s)], Res.blk fb 4 [Value.bool (f)], Res.blk lb 23 [Value.int .u64 lim]]) w [Res.blk sb 23 [Value.int .u64 (s)], Res.blk fb 4 [Value.bool (f)], Res.blk lb 23 [Value.int .u64 lim]] w) (hs : 0 ≤ s ∧ s ≤ 18446744073709551615) (hw9 : 0 ≤ w9 ∧ w9 ≤ 18446744073709551615) : Own2 (ι := Unit) Try.prog 33 [.int .u64 w9, .bool ok, .pointer (some ⟨sb, 0, none⟩), .pointer (some ⟨fb, 0, none⟩), .pointer (some ⟨lb, 0, none⟩)] w [Res.blk sb 23 [Value.int .u64 (s)], Res.blk fb 4 [Value.bool (f)], Res.blk lb 23 [Value.int .u64 lim]] (fun x => True) (fun x => .bool (budB lim s f w9 ok)) (fun x => []) (fun x => [Res.blk sb 23 [Value.int .u64 (budS lim s f w9 ok)], Res.blk fb 4 [Value.bool (budF lim s f w9 ok)], Res.blk lb 23 [Value.int .u64 lim]]) := by
  refine g_start Try.func33 rfl 33 rfl (by simp) (fps [Res.blk sb 23 [Value.int .u64 (s)], Res.blk fb 4 [Value.bool (f)], Res.blk lb 23 [Value.int .u64 lim]]) [Res.blk sb 23 [Value.int .u64 (s)], Res.blk fb 4 [Value.bool (f)], Res.blk lb 23 [Value.int .u64 lim]] hw _ rfl ?_
  refine g_seq ?_
  refine g_region ?_
  refine s_q (q_assign rfl) rfl ?_
  refine g_nil ?_
  refine g_then ?_
  refine g_seq ?_
  refine g_region ?_
  refine s_q (q_load rfl rfl) rfl ?_
  refine s_q (q_move rfl) rfl ?_
  refine g_op (g_lit rfl rfl rfl rfl rfl fun b13 => ?_)
  refine g_blkc (b := b13) ((([s, w9] : List Int).map (fun v : Int => [Value.int .u64 v])).flatten) rfl ?_
  refine g_op (g_pure rfl (fun w1 hw1 => add_any (some ⟨b13, 0, none⟩) (2) (2) (([s, w9] : List Int)) w1 (Rdb.toOld (InL.rdb (b := b13) (els := (([s, w9] : List Int)).map (fun v : Int => [Value.int .u64 v])) rfl (by simp) rfl) hw1) (by intro x hx; simp at hx; rcases hx with rfl | rfl <;> omega) (by first | omega | (simp; omega) | (simp; done))) rfl ?_)
  refine s_q (q_move rfl) rfl ?_
  refine s_q (q_extract rfl rfl) rfl ?_
  refine s_q (q_extract rfl rfl) rfl ?_
  refine s_q (q_assign rfl) rfl ?_
  refine s_q (q_assign rfl) rfl ?_
  refine g_nil ?_
  refine g_then ?_
  refine g_seq ?_
  refine g_seq ?_
  refine g_region ?_
  refine s_q (q_load rfl rfl) rfl ?_
  refine s_q (q_not rfl) rfl ?_
  refine s_q (q_move rfl) rfl ?_
  refine g_split 19 rfl (fun h1 => ?_) (fun h1 => ?_)
  · refine s_qg (q_move rfl) rfl rfl rfl ?_
    refine s_qg (q_not rfl) rfl rfl rfl ?_
    refine s_qg (q_move rfl) rfl rfl rfl ?_
    refine g_split 22 rfl (fun h2 => ?_) (fun h2 => ?_)
    · refine g_gf rfl rfl rfl rfl ?_
      refine g_gf rfl rfl rfl rfl ?_
      refine s_qg (q_pick_t rfl rfl) rfl rfl rfl ?_
      refine s_qg (q_move rfl) rfl rfl rfl ?_
      refine g_gf rfl rfl rfl rfl ?_
      refine g_gf rfl rfl rfl rfl ?_
      refine g_gf rfl rfl rfl rfl ?_
      refine s_qg (q_pick_t rfl rfl) rfl rfl rfl ?_
      refine s_q (q_pick_t rfl rfl) rfl ?_
      refine g_nil ?_
      refine g_then ?_
      refine g_true rfl ?_
      refine g_seq ?_
      refine g_region ?_
      refine s_q (q_assign rfl) rfl ?_
      refine g_nil ?_
      refine g_then ?_
      refine g_ret ?_
      refine g_then_ret ?_
      have hb : budB lim s f w9 ok = false := by simp only [budB]; simp_all; try omega
      exact fin1 rfl (.tmp rfl) (fun w' hw' => ⟨(), (by first | exact trivial | (dsimp only; exact trivial)), by rw [hb], by have h9 := wok_sub (L' := [Res.blk sb 23 [Value.int .u64 (s)], Res.blk fb 4 [Value.bool (f)], Res.blk lb 23 [Value.int .u64 lim]]) w' hw'; show WOK _ _ [Res.blk sb 23 [Value.int .u64 (budS lim s f w9 ok)], Res.blk fb 4 [Value.bool (budF lim s f w9 ok)], Res.blk lb 23 [Value.int .u64 lim]] _; simp only [budS, budF, hb]; exact h9⟩) _ (.inl rfl)
    · refine s_qg (q_move rfl) rfl rfl rfl ?_
      refine s_qg (q_not rfl) rfl rfl rfl ?_
      refine s_qg (q_pick_f rfl rfl) rfl rfl rfl ?_
      refine s_qg (q_move rfl) rfl rfl rfl ?_
      refine g_split 26 rfl (fun h3 => ?_) (fun h3 => ?_)
      · refine g_gf rfl rfl rfl rfl ?_
        refine g_gf rfl rfl rfl rfl ?_
        refine g_gf rfl rfl rfl rfl ?_
        refine s_qg (q_pick_t rfl rfl) rfl rfl rfl ?_
        refine s_q (q_pick_t rfl rfl) rfl ?_
        refine g_nil ?_
        refine g_then ?_
        refine g_true rfl ?_
        refine g_seq ?_
        refine g_region ?_
        refine s_q (q_assign rfl) rfl ?_
        refine g_nil ?_
        refine g_then ?_
        refine g_ret ?_
        refine g_then_ret ?_
        have hb : budB lim s f w9 ok = false := by simp only [budB]; simp_all; try omega
        exact fin1 rfl (.tmp rfl) (fun w' hw' => ⟨(), (by first | exact trivial | (dsimp only; exact trivial)), by rw [hb], by have h9 := wok_sub (L' := [Res.blk sb 23 [Value.int .u64 (s)], Res.blk fb 4 [Value.bool (f)], Res.blk lb 23 [Value.int .u64 lim]]) w' hw'; show WOK _ _ [Res.blk sb 23 [Value.int .u64 (budS lim s f w9 ok)], Res.blk fb 4 [Value.bool (budF lim s f w9 ok)], Res.blk lb 23 [Value.int .u64 lim]] _; simp only [budS, budF, hb]; exact h9⟩) _ (.inl rfl)
      · refine s_qg (q_move rfl) rfl rfl rfl ?_
        refine s_qg (q_load rfl rfl) rfl rfl rfl ?_
        refine s_qg (q_gtr rfl rfl) rfl rfl rfl ?_
        refine s_qg (q_pick_f rfl rfl) rfl rfl rfl ?_
        refine s_q (q_pick_t rfl rfl) rfl ?_
        refine g_nil ?_
        refine g_then ?_
        refine g_cond rfl (fun h4 => ?_) (fun h4 => ?_)
        · refine g_seq ?_
          refine g_region ?_
          refine s_q (q_assign rfl) rfl ?_
          refine g_nil ?_
          refine g_then ?_
          refine g_ret ?_
          refine g_then_ret ?_
          have hb : budB lim s f w9 ok = false := by simp only [budB]; simp_all; try omega
          exact fin1 rfl (.tmp rfl) (fun w' hw' => ⟨(), (by first | exact trivial | (dsimp only; exact trivial)), by rw [hb], by have h9 := wok_sub (L' := [Res.blk sb 23 [Value.int .u64 (s)], Res.blk fb 4 [Value.bool (f)], Res.blk lb 23 [Value.int .u64 lim]]) w' hw'; show WOK _ _ [Res.blk sb 23 [Value.int .u64 (budS lim s f w9 ok)], Res.blk fb 4 [Value.bool (budF lim s f w9 ok)], Res.blk lb 23 [Value.int .u64 lim]] _; simp only [budS, budF, hb]; exact h9⟩) _ (.inl rfl)
        · refine g_skip ?_
          refine g_then ?_
          refine g_seq ?_
          refine g_region ?_
          refine s_q (q_move rfl) rfl ?_
          refine g_op (g_store rfl rfl rfl rfl rfl rfl rfl ?_)
          refine g_blkc (b := sb) [Value.int .u64 (addV [s, w9])] rfl ?_
          refine g_op (g_store rfl rfl rfl rfl rfl rfl rfl ?_)
          refine g_blkc (b := fb) [Value.bool false] rfl ?_
          refine g_nil ?_
          refine g_then ?_
          refine g_seq ?_
          refine g_region ?_
          refine s_q (q_assign rfl) rfl ?_
          refine g_nil ?_
          refine g_then ?_
          refine g_ret ?_
          have hb : budB lim s f w9 ok = true := by simp only [budB]; simp_all; try omega
          exact fin1 rfl (.tmp rfl) (fun w' hw' => ⟨(), (by first | exact trivial | (dsimp only; exact trivial)), by rw [hb], by have h9 := wok_sub (L' := [Res.blk sb 23 [Value.int .u64 (addV [s, w9])], Res.blk fb 4 [Value.bool (false)], Res.blk lb 23 [Value.int .u64 lim]]) w' hw'; show WOK _ _ [Res.blk sb 23 [Value.int .u64 (budS lim s f w9 ok)], Res.blk fb 4 [Value.bool (budF lim s f w9 ok)], Res.blk lb 23 [Value.int .u64 lim]] _; simp only [budS, budF, hb]; exact h9⟩) _ (.inl rfl)
  · refine g_gf rfl rfl rfl rfl ?_
    refine g_gf rfl rfl rfl rfl ?_
    refine g_gf rfl rfl rfl rfl ?_
    refine g_gu rfl rfl rfl ?_
    refine g_gu rfl rfl rfl ?_
    refine g_gf rfl rfl rfl rfl ?_
    refine g_gf rfl rfl rfl rfl ?_
    refine g_gu rfl rfl rfl ?_
    refine g_gu rfl rfl rfl ?_
    refine g_gu rfl rfl rfl ?_
    refine g_gf rfl rfl rfl rfl ?_
    refine s_q (q_pick_f rfl rfl) rfl ?_
    refine g_nil ?_
    refine g_then ?_
    refine g_false rfl ?_
    refine g_skip ?_
    refine g_then ?_
    refine g_seq ?_
    refine g_region ?_
    refine s_q (q_move rfl) rfl ?_
    refine g_op (g_store rfl rfl rfl rfl rfl rfl rfl ?_)
    refine g_blkc (b := sb) [Value.int .u64 (addV [s, w9])] rfl ?_
    refine g_op (g_store rfl rfl rfl rfl rfl rfl rfl ?_)
    refine g_blkc (b := fb) [Value.bool false] rfl ?_
    refine g_nil ?_
    refine g_then ?_
    refine g_seq ?_
    refine g_region ?_
    refine s_q (q_assign rfl) rfl ?_
    refine g_nil ?_
    refine g_then ?_
    refine g_ret ?_
    have hb : budB lim s f w9 ok = true := by simp only [budB]; simp_all; try omega
    exact fin1 rfl (.tmp rfl) (fun w' hw' => ⟨(), (by first | exact trivial | (dsimp only; exact trivial)), by rw [hb], by have h9 := wok_sub (L' := [Res.blk sb 23 [Value.int .u64 (addV [s, w9])], Res.blk fb 4 [Value.bool (false)], Res.blk lb 23 [Value.int .u64 lim]]) w' hw'; show WOK _ _ [Res.blk sb 23 [Value.int .u64 (budS lim s f w9 ok)], Res.blk fb 4 [Value.bool (budF lim s f w9 ok)], Res.blk lb 23 [Value.int .u64 lim]] _; simp only [budS, budF, hb]; exact h9⟩) _ (.inl rfl)

set_option maxHeartbeats 400000 in
theorem budget_any (lim : Int) (w : World)  : Own2 (ι := (Nat × Nat × Nat)) Try.prog 27 [.int .u64 lim] w [] (fun x => True) (fun x => .func (.func 33) #[] [Value.pointer (some ⟨x.1, 0, none⟩), Value.pointer (some ⟨x.2.1, 0, none⟩), Value.pointer (some ⟨x.2.2, 0, none⟩)].toArray) (fun x => [Res.blk x.1 23 [Value.int .u64 (0)], Res.blk x.2.1 4 [Value.bool (true)], Res.blk x.2.2 23 [Value.int .u64 lim]]) (fun x => []) := by
  refine g_start Try.func27 rfl 6 rfl (by simp) (fps []) [] (WOK.start _ _) _ rfl ?_
  refine g_seq ?_
  refine g_region ?_
  refine g_op (g_box (c := [Value.int .u64 lim]) rfl rfl rfl fun b1 => ?_)
  refine s_q (q_assign rfl) rfl ?_
  refine g_nil ?_
  refine g_then ?_
  refine g_seq ?_
  refine g_region ?_
  refine g_op (g_alloc rfl fun b3 => ?_)
  refine g_op (g_alloc rfl fun b4 => ?_)
  refine g_op (g_store rfl rfl rfl rfl rfl rfl rfl ?_)
  refine g_blkc (b := b3) [Value.int .u64 0] rfl ?_
  refine g_op (g_store rfl rfl rfl rfl rfl rfl rfl ?_)
  refine g_blkc (b := b4) [Value.bool true] rfl ?_
  refine g_nil ?_
  refine g_then ?_
  refine g_seq ?_
  refine g_region ?_
  refine s_q (q_funcL rfl rfl (fun _ => rfl)) rfl ?_
  refine s_q (q_assign rfl) rfl ?_
  refine g_nil ?_
  refine g_then ?_
  refine g_ret ?_
  exact fin1 rfl (.tmp rfl) (fun w' hw' => ⟨(b3, b4, b1), (by first | exact trivial | (dsimp only; exact trivial)), rfl, by have h9 := wok_sub (L' := [Res.blk ((b3, b4, b1)).1 23 [Value.int .u64 (0)], Res.blk ((b3, b4, b1)).2.1 4 [Value.bool (true)], Res.blk ((b3, b4, b1)).2.2 23 [Value.int .u64 lim]]) w' hw'; exact h9⟩) _ (.inl rfl)

set_option maxHeartbeats 400000 in
theorem batch_any (rb : Option Addr) (lim : Int) (W : Option Addr) (wn wc : Nat) (w : World)  : Own2 (ι := (Nat × Nat × Nat × Nat)) Try.prog 22 [.pointer rb, .int .i64 0, .int .u64 lim, .slice W wn wc] w [] (fun x => True) (fun x => .func (.func 32) #[] [Value.pointer (some ⟨x.1, 0, none⟩), Value.pointer (some ⟨x.2.1, 0, none⟩), Value.pointer (some ⟨x.2.2.1, 0, none⟩), Value.pointer (some ⟨x.2.2.2, 0, none⟩)].toArray) (fun x => [Res.blk x.1 23 [Value.int .u64 lim], Res.blk x.2.1 26 [Value.pointer rb], Res.blk x.2.2.1 3 [Value.int .i64 0], Res.blk x.2.2.2 24 [Value.slice W wn wc]]) (fun x => []) := by
  refine g_start Try.func22 rfl 10 rfl (by simp) (fps []) [] (WOK.start _ _) _ rfl ?_
  refine g_seq ?_
  refine g_region ?_
  refine g_op (g_box (c := [Value.pointer rb]) rfl rfl rfl fun b4 => ?_)
  refine g_op (g_box (c := [Value.int .i64 0]) rfl rfl rfl fun b5 => ?_)
  refine g_op (g_box (c := [Value.int .u64 lim]) rfl rfl rfl fun b6 => ?_)
  refine g_op (g_box (c := [Value.slice W wn wc]) rfl rfl rfl fun b7 => ?_)
  refine s_q (q_assign rfl) rfl ?_
  refine g_nil ?_
  refine g_then ?_
  refine g_seq ?_
  refine g_region ?_
  refine s_q (q_funcL rfl rfl (fun _ => rfl)) rfl ?_
  refine s_q (q_assign rfl) rfl ?_
  refine g_nil ?_
  refine g_then ?_
  refine g_ret ?_
  exact fin1 rfl (.tmp rfl) (fun w' hw' => ⟨(b6, b4, b5, b7), (by first | exact trivial | (dsimp only; exact trivial)), rfl, by have h9 := wok_sub (L' := [Res.blk ((b6, b4, b5, b7)).1 23 [Value.int .u64 lim], Res.blk ((b6, b4, b5, b7)).2.1 26 [Value.pointer rb], Res.blk ((b6, b4, b5, b7)).2.2.1 3 [Value.int .i64 0], Res.blk ((b6, b4, b5, b7)).2.2.2 24 [Value.slice W wn wc]]) w' hw'; exact h9⟩) _ (.inl rfl)
end Go.Proofs.Ytjfncbgggfammaa
