/- walks of Check and Apply -/
import Derived.Test.YtljdhdlemakcaaaW3
namespace Go.Proofs.Ytljdhdlemakcaaa
open Go.RowKit Go.Eg
set_option synthInstance.maxSize 3000
set_option linter.unusedSimpArgs false
set_option linter.unusedVariables false
set_option maxHeartbeats 400000 in
theorem next26  (w : World)  : Pur Try.prog 29 [.int .i64 2, .int .i64 6] w (.tuple [.int .i64 7, .bool true].toArray) := by
  refine g_start Try.func29 rfl 18 rfl (by simp) ([]) [] (WOK.start _ _) _ rfl ?_
  refine g_seq ?_
  refine g_region ?_
  refine s_q (q_assign rfl) rfl ?_
  refine s_q (q_assign rfl) rfl ?_
  refine g_nil ?_
  refine g_then ?_
  refine g_seq ?_
  refine g_region ?_
  refine g_op (g_ownS [] rfl (fun w1 hw1 ho1 => by have h7 := table_any w1; exact h7) rfl ?_)
  rintro b9 _
  refine ⟨_, _, inferInstance, inferInstance, ?_⟩
  refine s_q (q_move rfl) rfl ?_
  refine s_q (q_move rfl) rfl ?_
  refine s_q (q_build rfl rfl) rfl ?_
  refine s_q (q_look_t (b := b9) (D := [2, 4, 6, 8, 10, 12, 14, 16, 18, 20].map tabE) (v := .int .i64 7) rfl rfl (tabKey 12) (fun p hp => by obtain ⟨j, _, rfl⟩ := List.mem_map.1 hp; exact tabKey j) (List.mem_map.2 ⟨12, by decide, rfl⟩) (fun p hp he => by
    obtain ⟨j, hj, rfl⟩ := List.mem_map.1 hp
    rcases Classical.em (j = 12) with h | h
    · subst h; rfl
    · exact absurd he (tabDis j hj 12 (by decide) h))) rfl ?_
  refine s_q (q_move rfl) rfl ?_
  refine s_q (q_extract rfl rfl) rfl ?_
  refine s_q (q_extract rfl rfl) rfl ?_
  refine s_q (q_assign rfl) rfl ?_
  refine s_q (q_assign rfl) rfl ?_
  refine g_nil ?_
  refine g_then ?_
  refine g_seq ?_
  refine g_region ?_
  refine s_q (q_move rfl) rfl ?_
  refine s_q (q_move rfl) rfl ?_
  refine s_q (q_assign rfl) rfl ?_
  refine s_q (q_assign rfl) rfl ?_
  refine g_nil ?_
  refine g_then ?_
  refine g_ret ?_
  exact fin2 rfl (.tmp rfl) (.tmp rfl) (fun w' hw' => ⟨by rfl, hw'.upd⟩) _ (.inl rfl)

set_option maxHeartbeats 400000 in
theorem checks_any  (w : World)  : Own2 (ι := Nat) Try.prog 28 [] w [] (fun x => True) (fun x => .slice (some ⟨x, 0, none⟩) 3 3) (fun x => [Res.blk x 57 [Value.func (.func 35) #[] #[], .int .i64 8, .func (.func 36) #[] #[], .int .i64 9, .func (.func 37) #[] #[], .int .i64 3]]) (fun x => []) := by
  refine g_start Try.func28 rfl 5 rfl (by simp) (fps []) [] (WOK.start _ _) _ rfl ?_
  refine g_seq ?_
  refine g_region ?_
  refine s_q (q_assign rfl) rfl ?_
  refine g_nil ?_
  refine g_then ?_
  refine g_seq ?_
  refine g_region ?_
  refine s_q (q_build rfl rfl) rfl ?_
  refine s_q (q_build rfl rfl) rfl ?_
  refine s_q (q_build rfl rfl) rfl ?_
  refine g_op (g_lit rfl rfl rfl rfl rfl fun b4 => ?_)
  refine g_blkc (b := b4) [Value.func (.func 35) #[] #[], .int .i64 8, .func (.func 36) #[] #[], .int .i64 9, .func (.func 37) #[] #[], .int .i64 3] rfl ?_
  refine s_q (q_assign rfl) rfl ?_
  refine g_nil ?_
  refine g_then ?_
  refine g_ret ?_
  exact fin1 rfl (.tmp rfl) (fun w' hw' => ⟨b4, (by first | exact trivial | (dsimp only; exact trivial)), by first | rfl | (simp_all; done), by have h9 := wok_sub (L' := [Res.blk b4 57 [Value.func (.func 35) #[] #[], .int .i64 8, .func (.func 36) #[] #[], .int .i64 9, .func (.func 37) #[] #[], .int .i64 3]]) w' hw'; exact h9⟩) _ (.inl rfl)

def V0 : V := ⟨0, 0, false, 0, 0, 0, 0⟩
def tst (s d : V) (c : C) : Nat → Bool
  | 0 => decide (s.st = 2 ∧ d.st = 2)
  | 1 => !s.sl && !d.sl
  | _ => addB [s.bal, d.bal] && decide (addV [s.bal, d.bal] ≤ c.maxb)
def checkV (s d : V) (c : C) : Int := if tst s d c 0 = false then 8 else if tst s d c 1 = false then 9 else if tst s d c 2 = false then 3 else 0

set_option maxHeartbeats 400000 in
theorem tst0 (s d : V) (c : C) (w : World) (hs : 0 ≤ s.bal ∧ s.bal ≤ 18446744073709551615) (hd : 0 ≤ d.bal ∧ d.bal ≤ 18446744073709551615) : Pur Try.prog 35 [s.v, d.v, c.v] w (.bool (tst s d c 0)) := by
  refine g_start Try.func35 rfl 14 rfl (by simp) ([]) [] (WOK.start _ _) _ rfl ?_
  refine g_seq ?_
  refine g_region ?_
  refine g_op (g_box rfl rfl rfl fun b3 => ?_)
  refine g_op (g_box rfl rfl rfl fun b4 => ?_)
  refine g_op (g_box rfl rfl rfl fun b5 => ?_)
  refine s_q (q_assign rfl) rfl ?_
  refine g_nil ?_
  refine g_then ?_
  refine g_seq ?_
  refine g_region ?_
  refine s_q (q_field rfl) rfl ?_
  refine s_q (q_load rfl rfl) rfl ?_
  refine s_q (q_field rfl) rfl ?_
  refine s_q (q_load rfl rfl) rfl ?_
  refine s_q (q_build rfl rfl) rfl ?_
  refine s_q (q_build rfl rfl) rfl ?_
  refine s_q (q_eqa rfl rfl rfl) rfl ?_
  refine s_q (q_assign rfl) rfl ?_
  refine g_nil ?_
  refine g_then ?_
  refine g_ret ?_
  exact fin1 rfl (.tmp rfl) (fun w' hw' => ⟨by first | rfl | (simp [tst]; done) | (simp_all [tst]; done), hw'.upd⟩) _ (.inl rfl)

set_option maxHeartbeats 400000 in
theorem tst1 (s d : V) (c : C) (w : World) (hs : 0 ≤ s.bal ∧ s.bal ≤ 18446744073709551615) (hd : 0 ≤ d.bal ∧ d.bal ≤ 18446744073709551615) : Pur Try.prog 36 [s.v, d.v, c.v] w (.bool (tst s d c 1)) := by
  refine g_start Try.func36 rfl 15 rfl (by simp) ([]) [] (WOK.start _ _) _ rfl ?_
  refine g_seq ?_
  refine g_region ?_
  refine g_op (g_box rfl rfl rfl fun b3 => ?_)
  refine g_op (g_box rfl rfl rfl fun b4 => ?_)
  refine g_op (g_box rfl rfl rfl fun b5 => ?_)
  refine s_q (q_assign rfl) rfl ?_
  refine g_nil ?_
  refine g_then ?_
  refine g_seq ?_
  refine g_region ?_
  refine s_q (q_field rfl) rfl ?_
  refine s_q (q_load rfl rfl) rfl ?_
  refine s_q (q_not rfl) rfl ?_
  refine s_q (q_move rfl) rfl ?_
  refine g_split 10 rfl (fun h1 => ?_) (fun h1 => ?_)
  · refine s_qg (q_field rfl) rfl rfl rfl ?_
    refine s_qg (q_load rfl rfl) rfl rfl rfl ?_
    refine s_qg (q_not rfl) rfl rfl rfl ?_
    refine s_q (q_pick_t rfl rfl) rfl ?_
    refine s_q (q_assign rfl) rfl ?_
    refine g_nil ?_
    refine g_then ?_
    refine g_ret ?_
    exact fin1 rfl (.tmp rfl) (fun w' hw' => ⟨by first | rfl | (simp [tst]; done) | (simp_all [tst]; done), hw'.upd⟩) _ (.inl rfl)
  · refine g_gf rfl rfl rfl rfl ?_
    refine g_gf rfl rfl rfl rfl ?_
    refine g_gf rfl rfl rfl rfl ?_
    refine s_q (q_pick_f rfl rfl) rfl ?_
    refine s_q (q_assign rfl) rfl ?_
    refine g_nil ?_
    refine g_then ?_
    refine g_ret ?_
    exact fin1 rfl (.tmp rfl) (fun w' hw' => ⟨by first | rfl | (simp [tst]; done) | (simp_all [tst]; done), hw'.upd⟩) _ (.inl rfl)

set_option maxHeartbeats 400000 in
theorem tst2 (s d : V) (c : C) (w : World) (hs : 0 ≤ s.bal ∧ s.bal ≤ 18446744073709551615) (hd : 0 ≤ d.bal ∧ d.bal ≤ 18446744073709551615) : Pur Try.prog 37 [s.v, d.v, c.v] w (.bool (tst s d c 2)) := by
  refine g_start Try.func37 rfl 25 rfl (by simp) ([]) [] (WOK.start _ _) _ rfl ?_
  refine g_seq ?_
  refine g_region ?_
  refine g_op (g_box rfl rfl rfl fun b3 => ?_)
  refine g_op (g_box rfl rfl rfl fun b4 => ?_)
  refine g_op (g_box rfl rfl rfl fun b5 => ?_)
  refine s_q (q_assign rfl) rfl ?_
  refine g_nil ?_
  refine g_then ?_
  refine g_seq ?_
  refine g_region ?_
  refine s_q (q_field rfl) rfl ?_
  refine s_q (q_load rfl rfl) rfl ?_
  refine s_q (q_field rfl) rfl ?_
  refine s_q (q_load rfl rfl) rfl ?_
  refine g_op (g_lit rfl rfl rfl rfl rfl fun b14 => ?_)
  refine g_blkc (b := b14) ((([(s).bal, (d).bal] : List Int).map (fun v : Int => [Value.int .u64 v])).flatten) rfl ?_
  refine g_op (g_pure rfl (fun w1 hw1 => add_any (some ⟨b14, 0, none⟩) (2) (2) (([(s).bal, (d).bal] : List Int)) w1 (Rdb.toOld (InL.rdb (b := b14) (els := (([(s).bal, (d).bal] : List Int)).map (fun v : Int => [Value.int .u64 v])) rfl (by simp) rfl) hw1) (by first | assumption | (intro x hx; simp at hx; first | (rcases hx with rfl | rfl <;> omega) | (rcases hx with rfl | rfl | rfl <;> omega) | (subst hx; omega))) (by first | omega | (simp; omega) | (simp; done))) rfl ?_)
  refine s_q (q_move rfl) rfl ?_
  refine s_q (q_extract rfl rfl) rfl ?_
  refine s_q (q_extract rfl rfl) rfl ?_
  refine s_q (q_assign rfl) rfl ?_
  refine s_q (q_assign rfl) rfl ?_
  refine g_nil ?_
  refine g_then ?_
  refine g_seq ?_
  refine g_region ?_
  refine s_q (q_move rfl) rfl ?_
  refine s_q (q_move rfl) rfl ?_
  refine g_split 19 rfl (fun h1 => ?_) (fun h1 => ?_)
  · refine s_qg (q_move rfl) rfl rfl rfl ?_
    refine s_qg (q_field rfl) rfl rfl rfl ?_
    refine s_qg (q_load rfl rfl) rfl rfl rfl ?_
    refine s_qg (q_leq rfl rfl) rfl rfl rfl ?_
    refine s_q (q_pick_t rfl rfl) rfl ?_
    refine s_q (q_assign rfl) rfl ?_
    refine g_nil ?_
    refine g_then ?_
    refine g_ret ?_
    exact fin1 rfl (.tmp rfl) (fun w' hw' => ⟨by first | rfl | (simp [tst]; done) | (simp_all [tst]; done), hw'.upd⟩) _ (.inl rfl)
  · refine g_gf rfl rfl rfl rfl ?_
    refine g_gf rfl rfl rfl rfl ?_
    refine g_gf rfl rfl rfl rfl ?_
    refine g_gf rfl rfl rfl rfl ?_
    refine s_q (q_pick_f rfl rfl) rfl ?_
    refine s_q (q_assign rfl) rfl ?_
    refine g_nil ?_
    refine g_then ?_
    refine g_ret ?_
    exact fin1 rfl (.tmp rfl) (fun w' hw' => ⟨by first | rfl | (simp [tst]; done) | (simp_all [tst]; done), hw'.upd⟩) _ (.inl rfl)

set_option maxHeartbeats 400000 in
theorem check_any (s d : V) (c : C) (w : World) (hs : 0 ≤ s.bal ∧ s.bal ≤ 18446744073709551615) (hd : 0 ≤ d.bal ∧ d.bal ≤ 18446744073709551615) : Pur Try.prog 11 [s.v, d.v, c.v] w (.int .i64 (checkV s d c)) := by
  refine g_start Try.func11 rfl 25 rfl (by simp) ([]) [] (WOK.start _ _) _ rfl ?_
  refine g_seq ?_
  refine g_region ?_
  refine g_op (g_box rfl rfl rfl fun b3 => ?_)
  refine g_op (g_box rfl rfl rfl fun b4 => ?_)
  refine g_op (g_box rfl rfl rfl fun b5 => ?_)
  refine s_q (q_assign rfl) rfl ?_
  refine g_nil ?_
  refine g_then ?_
  refine g_seq ?_
  refine g_seq ?_
  refine g_region ?_
  refine g_op (g_ownS [] rfl (fun w1 hw1 ho1 => by have h7 := checks_any w1; exact h7) rfl ?_)
  rintro b9 _
  refine ⟨_, _, inferInstance, inferInstance, ?_⟩
  refine s_q (q_len rfl) rfl ?_
  refine s_q (q_move rfl) rfl ?_
  refine g_nil ?_
  refine g_then ?_
  refine g_block ?_
  refine g_loopk [3, 4, 5, 6, 9, 10] (fun (x : Nat) => [(11, .int .i64 ((x : Nat) : Int))]) (fun (x : Nat) => [Res.blk b3 24 s.c, Res.blk b4 24 d.c, Res.blk b5 26 c.c, Res.blk b9 57 [Value.func (.func 35) #[] #[], .int .i64 8, .func (.func 36) #[] #[], .int .i64 9, .func (.func 37) #[] #[], .int .i64 3]]) (fun (x : Nat) => x ≤ 3 ∧ (∀ j < x, tst s d c j = true)) (fun (x : Nat) => 3 - x) 0 (by (try dsimp only); exact ⟨(by omega), (by simp)⟩) rfl (by repeat (first | exact trivial | refine ⟨rfl, ?_⟩)) wok_sub ?_
  rintro k ⟨le_k, pre⟩
  replace le_k : k ≤ 3 := le_k
  replace pre : ∀ j < k, tst s d c j = true := pre
  refine g_seq ?_
  refine g_region ?_
  refine s_q (q_lss rfl rfl) rfl ?_
  refine g_nil ?_
  refine g_then ?_
  refine g_seq ?_
  refine g_cond rfl (fun hx1 => ?_) (fun hx1 => ?_)
  · have lt_k : k < 3 := by have h9 := of_decide_eq_true hx1; omega
    refine g_skip ?_
    refine g_then ?_
    refine g_seq ?_
    refine g_block ?_
    refine g_seq ?_
    rcases (show k = 0 ∨ k = 1 ∨ k = 2 by omega) with rfl | rfl | rfl
    · refine g_region ?_
      refine s_q (q_index (i := 0) rfl rfl rfl (InL.rdb (b := b9) (els := [[Value.func (.func 35) #[] #[], .int .i64 8], [.func (.func 36) #[] #[], .int .i64 9], [.func (.func 37) #[] #[], .int .i64 3]]) rfl (by simp) rfl) (by first | omega | (simp; done) | (simp; omega))) rfl ?_
      refine s_q (q_load_ew (i := 0) rfl (InL.rdb (b := b9) (els := [[Value.func (.func 35) #[] #[], .int .i64 8], [.func (.func 36) #[] #[], .int .i64 9], [.func (.func 37) #[] #[], .int .i64 3]]) rfl (by simp) rfl) rfl rfl) rfl ?_
      refine g_op (g_alloc rfl fun b8 => ?_)
      refine g_op (g_storew rfl rfl rfl rfl rfl ?_)
      refine g_nil ?_
      refine g_then ?_
      refine g_seq ?_
      refine g_region ?_
      refine s_q (q_field rfl) rfl ?_
      refine s_q (q_load rfl rfl) rfl ?_
      refine s_q (q_loadw rfl rfl) rfl ?_
      refine s_q (q_loadw rfl rfl) rfl ?_
      refine s_q (q_loadw rfl rfl) rfl ?_
      refine g_op (g_purev rfl rfl (fun w1 hw1 => tst0 s d c w1 hs hd) rfl ?_)
      refine s_q (q_not rfl) rfl ?_
      refine g_nil ?_
      refine g_then ?_
      refine g_cond rfl (fun hx2 => ?_) (fun hx2 => ?_)
      · refine g_seq ?_
        refine g_region ?_
        refine s_q (q_field rfl) rfl ?_
        refine s_q (q_load rfl rfl) rfl ?_
        refine s_q (q_assign rfl) rfl ?_
        refine g_nil ?_
        refine g_then ?_
        refine g_ret ?_
        refine g_blk_ret (g_then_ret (g_then_ret (g_blk_ret (g_then_ret ?_))))
        exact fin1 rfl (.tmp rfl) (fun w' hw' => ⟨by simp_all [checkV], hw'.upd⟩) _ (.inl rfl)
      · refine g_skip ?_
        refine g_blk_n ?_
        refine g_then ?_
        refine g_region ?_
        refine s_q (q_inc rfl rfl (by omega)) rfl ?_
        refine s_q (q_move rfl) rfl ?_
        refine g_nil ?_
        exact g_again (0 + 1) (by (try dsimp only); exact ⟨(by omega), (by intro j hj; rcases (show j = 0 by omega) with rfl; all_goals first | assumption | (simpa using hx2))⟩) (by first | omega | (simp only; omega)) (by repeat (first | exact trivial | refine ⟨rfl, ?_⟩)) wok_sub
    · have p0 := pre 0 (by omega)
      refine g_region ?_
      refine s_q (q_index (i := 1) rfl rfl rfl (InL.rdb (b := b9) (els := [[Value.func (.func 35) #[] #[], .int .i64 8], [.func (.func 36) #[] #[], .int .i64 9], [.func (.func 37) #[] #[], .int .i64 3]]) rfl (by simp) rfl) (by first | omega | (simp; done) | (simp; omega))) rfl ?_
      refine s_q (q_load_ew (i := 1) rfl (InL.rdb (b := b9) (els := [[Value.func (.func 35) #[] #[], .int .i64 8], [.func (.func 36) #[] #[], .int .i64 9], [.func (.func 37) #[] #[], .int .i64 3]]) rfl (by simp) rfl) rfl rfl) rfl ?_
      refine g_op (g_alloc rfl fun b8 => ?_)
      refine g_op (g_storew rfl rfl rfl rfl rfl ?_)
      refine g_nil ?_
      refine g_then ?_
      refine g_seq ?_
      refine g_region ?_
      refine s_q (q_field rfl) rfl ?_
      refine s_q (q_load rfl rfl) rfl ?_
      refine s_q (q_loadw rfl rfl) rfl ?_
      refine s_q (q_loadw rfl rfl) rfl ?_
      refine s_q (q_loadw rfl rfl) rfl ?_
      refine g_op (g_purev rfl rfl (fun w1 hw1 => tst1 s d c w1 hs hd) rfl ?_)
      refine s_q (q_not rfl) rfl ?_
      refine g_nil ?_
      refine g_then ?_
      refine g_cond rfl (fun hx3 => ?_) (fun hx3 => ?_)
      · refine g_seq ?_
        refine g_region ?_
        refine s_q (q_field rfl) rfl ?_
        refine s_q (q_load rfl rfl) rfl ?_
        refine s_q (q_assign rfl) rfl ?_
        refine g_nil ?_
        refine g_then ?_
        refine g_ret ?_
        refine g_blk_ret (g_then_ret (g_then_ret (g_blk_ret (g_then_ret ?_))))
        exact fin1 rfl (.tmp rfl) (fun w' hw' => ⟨by simp_all [checkV], hw'.upd⟩) _ (.inl rfl)
      · refine g_skip ?_
        refine g_blk_n ?_
        refine g_then ?_
        refine g_region ?_
        refine s_q (q_inc rfl rfl (by omega)) rfl ?_
        refine s_q (q_move rfl) rfl ?_
        refine g_nil ?_
        exact g_again (1 + 1) (by (try dsimp only); exact ⟨(by omega), (by intro j hj; rcases (show j = 0 ∨ j = 1 by omega) with rfl | rfl; all_goals first | assumption | (simpa using hx3))⟩) (by first | omega | (simp only; omega)) (by repeat (first | exact trivial | refine ⟨rfl, ?_⟩)) wok_sub
    · have p0 := pre 0 (by omega)
      have p1 := pre 1 (by omega)
      refine g_region ?_
      refine s_q (q_index (i := 2) rfl rfl rfl (InL.rdb (b := b9) (els := [[Value.func (.func 35) #[] #[], .int .i64 8], [.func (.func 36) #[] #[], .int .i64 9], [.func (.func 37) #[] #[], .int .i64 3]]) rfl (by simp) rfl) (by first | omega | (simp; done) | (simp; omega))) rfl ?_
      refine s_q (q_load_ew (i := 2) rfl (InL.rdb (b := b9) (els := [[Value.func (.func 35) #[] #[], .int .i64 8], [.func (.func 36) #[] #[], .int .i64 9], [.func (.func 37) #[] #[], .int .i64 3]]) rfl (by simp) rfl) rfl rfl) rfl ?_
      refine g_op (g_alloc rfl fun b8 => ?_)
      refine g_op (g_storew rfl rfl rfl rfl rfl ?_)
      refine g_nil ?_
      refine g_then ?_
      refine g_seq ?_
      refine g_region ?_
      refine s_q (q_field rfl) rfl ?_
      refine s_q (q_load rfl rfl) rfl ?_
      refine s_q (q_loadw rfl rfl) rfl ?_
      refine s_q (q_loadw rfl rfl) rfl ?_
      refine s_q (q_loadw rfl rfl) rfl ?_
      refine g_op (g_purev rfl rfl (fun w1 hw1 => tst2 s d c w1 hs hd) rfl ?_)
      refine s_q (q_not rfl) rfl ?_
      refine g_nil ?_
      refine g_then ?_
      refine g_cond rfl (fun hx4 => ?_) (fun hx4 => ?_)
      · refine g_seq ?_
        refine g_region ?_
        refine s_q (q_field rfl) rfl ?_
        refine s_q (q_load rfl rfl) rfl ?_
        refine s_q (q_assign rfl) rfl ?_
        refine g_nil ?_
        refine g_then ?_
        refine g_ret ?_
        refine g_blk_ret (g_then_ret (g_then_ret (g_blk_ret (g_then_ret ?_))))
        exact fin1 rfl (.tmp rfl) (fun w' hw' => ⟨by simp_all [checkV], hw'.upd⟩) _ (.inl rfl)
      · refine g_skip ?_
        refine g_blk_n ?_
        refine g_then ?_
        refine g_region ?_
        refine s_q (q_inc rfl rfl (by omega)) rfl ?_
        refine s_q (q_move rfl) rfl ?_
        refine g_nil ?_
        exact g_again (2 + 1) (by (try dsimp only); exact ⟨(by omega), (by intro j hj; rcases (show j = 0 ∨ j = 1 ∨ j = 2 by omega) with rfl | rfl | rfl; all_goals first | assumption | (simpa using hx4))⟩) (by first | omega | (simp only; omega)) (by repeat (first | exact trivial | refine ⟨rfl, ?_⟩)) wok_sub
  · obtain rfl : k = 3 := by have h9 := of_decide_eq_false hx1; omega
    have p0 := pre 0 (by omega)
    have p1 := pre 1 (by omega)
    have p2 := pre 2 (by omega)
    refine g_exit ?_
    refine g_then_x (g_then_x (g_blk_hit ?_))
    refine g_then ?_
    refine g_seq ?_
    refine g_region ?_
    refine s_q (q_assign rfl) rfl ?_
    refine g_nil ?_
    refine g_then ?_
    refine g_ret ?_
    exact fin1 rfl (.tmp rfl) (fun w' hw' => ⟨by simp_all [checkV], hw'.upd⟩) _ (.inl rfl)

set_option maxHeartbeats 400000 in
theorem rcheck_any (s d : V) (c : C) (w : World) (hs : 0 ≤ s.bal ∧ s.bal ≤ 18446744073709551615) (hd : 0 ≤ d.bal ∧ d.bal ≤ 18446744073709551615) : Pur Try.prog 13 [s.v, d.v, c.v] w (.int .i64 (checkV s d c)) := by
  refine g_start Try.func13 rfl 40 rfl (by simp) ([]) [] (WOK.start _ _) _ rfl ?_
  refine g_seq ?_
  refine g_region ?_
  refine g_op (g_box rfl rfl rfl fun b3 => ?_)
  refine g_op (g_box rfl rfl rfl fun b4 => ?_)
  refine g_op (g_box rfl rfl rfl fun b5 => ?_)
  refine s_q (q_assign rfl) rfl ?_
  refine g_nil ?_
  refine g_then ?_
  refine g_seq ?_
  refine g_seq ?_
  refine g_region ?_
  refine s_q (q_field rfl) rfl ?_
  refine s_q (q_load rfl rfl) rfl ?_
  refine s_q (q_neq rfl rfl) rfl ?_
  refine s_q (q_move rfl) rfl ?_
  refine g_split 12 rfl (fun h1 => ?_) (fun h1 => ?_)
  · refine g_gf rfl rfl rfl rfl ?_
    refine g_gf rfl rfl rfl rfl ?_
    refine g_gf rfl rfl rfl rfl ?_
    refine s_q (q_pick_t rfl rfl) rfl ?_
    refine g_nil ?_
    refine g_then ?_
    refine g_true rfl ?_
    refine g_seq ?_
    refine g_region ?_
    refine s_q (q_assign rfl) rfl ?_
    refine g_nil ?_
    refine g_then ?_
    refine g_ret ?_
    refine g_then_ret ?_
    exact fin1 rfl (.tmp rfl) (fun w' hw' => ⟨by first | (simp_all [checkV, tst]; done) | (simp_all [checkV, tst]; omega), hw'.upd⟩) _ (.inl rfl)
  · refine s_qg (q_field rfl) rfl rfl rfl ?_
    refine s_qg (q_load rfl rfl) rfl rfl rfl ?_
    refine s_qg (q_neq rfl rfl) rfl rfl rfl ?_
    refine s_q (q_pick_f rfl rfl) rfl ?_
    refine g_nil ?_
    refine g_then ?_
    refine g_cond rfl (fun h2 => ?_) (fun h2 => ?_)
    · refine g_seq ?_
      refine g_region ?_
      refine s_q (q_assign rfl) rfl ?_
      refine g_nil ?_
      refine g_then ?_
      refine g_ret ?_
      refine g_then_ret ?_
      exact fin1 rfl (.tmp rfl) (fun w' hw' => ⟨by first | (simp_all [checkV, tst]; done) | (simp_all [checkV, tst]; omega), hw'.upd⟩) _ (.inl rfl)
    · refine g_skip ?_
      refine g_then ?_
      refine g_seq ?_
      refine g_seq ?_
      refine g_region ?_
      refine s_q (q_field rfl) rfl ?_
      refine s_q (q_load rfl rfl) rfl ?_
      refine s_q (q_move rfl) rfl ?_
      refine g_split 19 rfl (fun h3 => ?_) (fun h3 => ?_)
      · refine g_gf rfl rfl rfl rfl ?_
        refine g_gf rfl rfl rfl rfl ?_
        refine s_q (q_pick_t rfl rfl) rfl ?_
        refine g_nil ?_
        refine g_then ?_
        refine g_true rfl ?_
        refine g_seq ?_
        refine g_region ?_
        refine s_q (q_assign rfl) rfl ?_
        refine g_nil ?_
        refine g_then ?_
        refine g_ret ?_
        refine g_then_ret ?_
        exact fin1 rfl (.tmp rfl) (fun w' hw' => ⟨by first | (simp_all [checkV, tst]; done) | (simp_all [checkV, tst]; omega), hw'.upd⟩) _ (.inl rfl)
      · refine s_qg (q_field rfl) rfl rfl rfl ?_
        refine s_qg (q_load rfl rfl) rfl rfl rfl ?_
        refine s_q (q_pick_f rfl rfl) rfl ?_
        refine g_nil ?_
        refine g_then ?_
        refine g_cond rfl (fun h4 => ?_) (fun h4 => ?_)
        · refine g_seq ?_
          refine g_region ?_
          refine s_q (q_assign rfl) rfl ?_
          refine g_nil ?_
          refine g_then ?_
          refine g_ret ?_
          refine g_then_ret ?_
          exact fin1 rfl (.tmp rfl) (fun w' hw' => ⟨by first | (simp_all [checkV, tst]; done) | (simp_all [checkV, tst]; omega), hw'.upd⟩) _ (.inl rfl)
        · refine g_skip ?_
          refine g_then ?_
          refine g_seq ?_
          refine g_region ?_
          refine s_q (q_field rfl) rfl ?_
          refine s_q (q_load rfl rfl) rfl ?_
          refine s_q (q_field rfl) rfl ?_
          refine s_q (q_load rfl rfl) rfl ?_
          refine g_op (g_lit rfl rfl rfl rfl rfl fun b28 => ?_)
          refine g_blkc (b := b28) ((([(s).bal, (d).bal] : List Int).map (fun v : Int => [Value.int .u64 v])).flatten) rfl ?_
          refine g_op (g_pure rfl (fun w1 hw1 => radd_any (some ⟨b28, 0, none⟩) (2) (2) (([(s).bal, (d).bal] : List Int)) w1 (Rdb.toOld (InL.rdb (b := b28) (els := (([(s).bal, (d).bal] : List Int)).map (fun v : Int => [Value.int .u64 v])) rfl (by simp) rfl) hw1) (by first | assumption | (intro x hx; simp at hx; first | (rcases hx with rfl | rfl <;> omega) | (rcases hx with rfl | rfl | rfl <;> omega) | (subst hx; omega))) (by first | omega | (simp; omega) | (simp; done))) rfl ?_)
          refine s_q (q_move rfl) rfl ?_
          refine s_q (q_extract rfl rfl) rfl ?_
          refine s_q (q_extract rfl rfl) rfl ?_
          refine s_q (q_assign rfl) rfl ?_
          refine s_q (q_assign rfl) rfl ?_
          refine g_nil ?_
          refine g_then ?_
          refine g_seq ?_
          refine g_seq ?_
          refine g_region ?_
          refine s_q (q_move rfl) rfl ?_
          refine s_q (q_not rfl) rfl ?_
          refine s_q (q_move rfl) rfl ?_
          refine g_split 34 rfl (fun h5 => ?_) (fun h5 => ?_)
          · refine g_gf rfl rfl rfl rfl ?_
            refine g_gf rfl rfl rfl rfl ?_
            refine g_gf rfl rfl rfl rfl ?_
            refine g_gf rfl rfl rfl rfl ?_
            refine s_q (q_pick_t rfl rfl) rfl ?_
            refine g_nil ?_
            refine g_then ?_
            refine g_true rfl ?_
            refine g_seq ?_
            refine g_region ?_
            refine s_q (q_assign rfl) rfl ?_
            refine g_nil ?_
            refine g_then ?_
            refine g_ret ?_
            refine g_then_ret ?_
            exact fin1 rfl (.tmp rfl) (fun w' hw' => ⟨by first | (simp_all [checkV, tst]; done) | (simp_all [checkV, tst]; omega), hw'.upd⟩) _ (.inl rfl)
          · refine s_qg (q_move rfl) rfl rfl rfl ?_
            refine s_qg (q_field rfl) rfl rfl rfl ?_
            refine s_qg (q_load rfl rfl) rfl rfl rfl ?_
            refine s_qg (q_gtr rfl rfl) rfl rfl rfl ?_
            refine s_q (q_pick_f rfl rfl) rfl ?_
            refine g_nil ?_
            refine g_then ?_
            refine g_cond rfl (fun h6 => ?_) (fun h6 => ?_)
            · refine g_seq ?_
              refine g_region ?_
              refine s_q (q_assign rfl) rfl ?_
              refine g_nil ?_
              refine g_then ?_
              refine g_ret ?_
              refine g_then_ret ?_
              exact fin1 rfl (.tmp rfl) (fun w' hw' => ⟨by first | (simp_all [checkV, tst]; done) | (simp_all [checkV, tst]; omega), hw'.upd⟩) _ (.inl rfl)
            · refine g_skip ?_
              refine g_then ?_
              refine g_seq ?_
              refine g_region ?_
              refine s_q (q_assign rfl) rfl ?_
              refine g_nil ?_
              refine g_then ?_
              refine g_ret ?_
              exact fin1 rfl (.tmp rfl) (fun w' hw' => ⟨by first | (simp_all [checkV, tst]; done) | (simp_all [checkV, tst]; omega), hw'.upd⟩) _ (.inl rfl)

def apS (s d : V) (c : C) : V := if checkV s d c = 0 then { s with bal := 0, st := 7 } else V0
def apD (s d : V) (c : C) : V := if checkV s d c = 0 then { d with bal := IntKind.u64.wrap (d.bal + s.bal) } else V0
theorem check_st {s d : V} {c : C} (h : checkV s d c = 0) : s.st = 2 ∧ d.st = 2 ∧ s.sl = false ∧ d.sl = false ∧ s.bal + d.bal ≤ 18446744073709551615 ∧ s.bal + d.bal ≤ c.maxb := by
  unfold checkV at h
  split at h
  · omega
  · split at h
    · omega
    · split at h
      · omega
      · rename_i h1 h2 h3
        simp only [tst, addB, addV, List.sum_cons, List.sum_nil, Int.add_zero, Bool.and_eq_false_iff, Bool.not_eq_false', decide_eq_false_iff_not, not_or, Decidable.not_not] at h1 h2 h3
        obtain ⟨h4, h5⟩ := h3
        rw [if_pos h4] at h5
        refine ⟨h1.1, h1.2, by simpa using h2.1, by simpa using h2.2, h4, h5⟩

set_option maxHeartbeats 400000 in
theorem apply_any (s d : V) (c : C) (w : World) (hs : 0 ≤ s.bal ∧ s.bal ≤ 18446744073709551615) (hd : 0 ≤ d.bal ∧ d.bal ≤ 18446744073709551615) : Pur Try.prog 12 [s.v, d.v, c.v] w (.tuple [V.v (apS s d c), V.v (apD s d c), .int .i64 (checkV s d c)].toArray) := by
  refine g_start Try.func12 rfl 35 rfl (by simp) ([]) [] (WOK.start _ _) _ rfl ?_
  refine g_seq ?_
  refine g_region ?_
  refine g_op (g_box rfl rfl rfl fun b3 => ?_)
  refine g_op (g_box rfl rfl rfl fun b4 => ?_)
  refine g_op (g_box rfl rfl rfl fun b5 => ?_)
  refine g_op (g_alloc rfl fun b6 => ?_)
  refine g_op (g_alloc rfl fun b7 => ?_)
  refine s_q (q_assign rfl) rfl ?_
  refine g_nil ?_
  refine g_then ?_
  refine g_seq ?_
  refine g_seq ?_
  refine g_region ?_
  refine s_q (q_loadw rfl rfl) rfl ?_
  refine s_q (q_loadw rfl rfl) rfl ?_
  refine s_q (q_loadw rfl rfl) rfl ?_
  refine g_op (g_pure rfl (fun w1 hw1 => check_any _ _ c w1 (by first | assumption | omega) (by first | assumption | omega)) rfl ?_)
  refine s_q (q_assign rfl) rfl ?_
  refine g_nil ?_
  refine g_then ?_
  refine g_seq ?_
  refine g_region ?_
  refine s_q (q_move rfl) rfl ?_
  refine s_q (q_neq rfl rfl) rfl ?_
  refine g_nil ?_
  refine g_then ?_
  refine g_cond rfl (fun h1 => ?_) (fun h1 => ?_)
  · refine g_seq ?_
    refine g_region ?_
    refine s_q (q_build (c := V0.c) rfl rfl) rfl ?_
    refine s_q (q_build (c := V0.c) rfl rfl) rfl ?_
    refine s_q (q_move rfl) rfl ?_
    refine g_op (g_storew rfl rfl rfl rfl rfl ?_)
    refine g_op (g_storew rfl rfl rfl rfl rfl ?_)
    refine s_q (q_assign rfl) rfl ?_
    refine g_nil ?_
    refine g_then ?_
    refine g_ret ?_
    refine g_then_ret ?_
    exact fin3 rfl (.cellw rfl rfl) (.cellw rfl rfl) (.tmp rfl) (fun w' hw' => ⟨by have h0 : ¬ checkV s d c = 0 := (by simpa using h1); simp [apS, apD, if_neg h0, V.v], hw'.upd⟩) _ (.inl rfl)
  · have h0 : checkV s d c = 0 := by simpa using h1
    have hcs := check_st h0
    refine g_skip ?_
    refine g_then ?_
    refine g_seq ?_
    refine g_region ?_
    refine s_q (q_field rfl) rfl ?_
    refine s_q (q_load rfl rfl) rfl ?_
    refine s_q (q_field rfl) rfl ?_
    refine s_q (q_load rfl rfl) rfl ?_
    refine s_q (q_add rfl rfl) rfl ?_
    refine s_q (q_field rfl) rfl ?_
    refine g_op (g_store rfl rfl rfl rfl rfl rfl rfl ?_)
    refine g_nil ?_
    refine g_then ?_
    refine g_seq ?_
    refine g_region ?_
    refine s_q (q_field rfl) rfl ?_
    refine g_op (g_store rfl rfl rfl rfl rfl rfl rfl ?_)
    refine g_nil ?_
    refine g_then ?_
    refine g_seq ?_
    refine g_region ?_
    refine s_q (q_field rfl) rfl ?_
    refine s_q (q_load rfl rfl) rfl ?_
    refine g_val 28 (v' := .int .i64 2) rfl (by rw [hcs.1]) ?_
    refine g_op (g_pure rfl (fun w1 hw1 => next26 w1) rfl ?_)
    refine s_q (q_move rfl) rfl ?_
    refine s_q (q_extract rfl rfl) rfl ?_
    refine s_q (q_extract rfl rfl) rfl ?_
    refine s_q (q_field rfl) rfl ?_
    refine g_op (g_store rfl rfl rfl rfl rfl rfl rfl ?_)
    refine g_nil ?_
    refine g_then ?_
    refine g_seq ?_
    refine d_region [0, 1, 2, 3] mixed rfl rfl ?_
    refine d_many [0, 1] (by kernel_rfl) (by simp) wok_sub ⟨d_pick rfl (ls' := #[true, false, false, false, false]) rfl (G.quiet (q_loadw rfl rfl) rfl ?_), d_pick rfl (ls' := #[false, true, false, false, false]) rfl (G.quiet (q_loadw rfl rfl) rfl ?_), trivial⟩
    · refine d_many [1, 2] (by kernel_rfl) (by simp) wok_sub ⟨d_pick rfl (ls' := #[true, true, false, false, false]) rfl (G.quiet (q_loadw rfl rfl) rfl ?_), d_pick rfl (ls' := #[true, false, true, false, false]) rfl (g_storew rfl rfl rfl rfl rfl ?_), trivial⟩
      · refine d_tail 2 rfl (by kernel_rfl) (ls' := #[true, true, true, false, false]) rfl rfl (g_storew rfl rfl rfl rfl rfl ?_)
        refine d_tail 3 rfl (by kernel_rfl) (ls' := #[true, true, true, true, false]) rfl rfl (g_storew rfl rfl rfl rfl rfl ?_)
        refine d_p 4 rfl (by kernel_rfl) (fun _ => q_assign rfl) rfl (ls' := #[true, true, true, true, true]) rfl ?_
        refine d_end (by kernel_rfl) (.inl rfl) ?_
        refine g_then ?_
        refine g_ret ?_
        exact fin3 rfl (.cellw rfl rfl) (.cellw rfl rfl) (.tmp rfl) (fun w' hw' => ⟨by simp [apS, apD, if_pos h0, h0, V.v, V.c, splice], hw'.upd⟩) _ (.inl rfl)
      · refine d_tail 1 rfl (by kernel_rfl) (ls' := #[true, true, true, false, false]) rfl rfl (G.quiet (q_loadw rfl rfl) rfl ?_)
        refine d_tail 3 rfl (by kernel_rfl) (ls' := #[true, true, true, true, false]) rfl rfl (g_storew rfl rfl rfl rfl rfl ?_)
        refine d_p 4 rfl (by kernel_rfl) (fun _ => q_assign rfl) rfl (ls' := #[true, true, true, true, true]) rfl ?_
        refine d_end (by kernel_rfl) (.inl rfl) ?_
        refine g_then ?_
        refine g_ret ?_
        exact fin3 rfl (.cellw rfl rfl) (.cellw rfl rfl) (.tmp rfl) (fun w' hw' => ⟨by simp [apS, apD, if_pos h0, h0, V.v, V.c, splice], hw'.upd⟩) _ (.inl rfl)
    · refine d_tail 0 rfl (by kernel_rfl) (ls' := #[true, true, false, false, false]) rfl rfl (G.quiet (q_loadw rfl rfl) rfl ?_)
      refine d_tail 2 rfl (by kernel_rfl) (ls' := #[true, true, true, false, false]) rfl rfl (g_storew rfl rfl rfl rfl rfl ?_)
      refine d_tail 3 rfl (by kernel_rfl) (ls' := #[true, true, true, true, false]) rfl rfl (g_storew rfl rfl rfl rfl rfl ?_)
      refine d_p 4 rfl (by kernel_rfl) (fun _ => q_assign rfl) rfl (ls' := #[true, true, true, true, true]) rfl ?_
      refine d_end (by kernel_rfl) (.inl rfl) ?_
      refine g_then ?_
      refine g_ret ?_
      exact fin3 rfl (.cellw rfl rfl) (.cellw rfl rfl) (.tmp rfl) (fun w' hw' => ⟨by simp [apS, apD, if_pos h0, h0, V.v, V.c, splice], hw'.upd⟩) _ (.inl rfl)
end Go.Proofs.Ytljdhdlemakcaaa
