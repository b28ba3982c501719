/- walk of activate.Wait -/
import Derived.Test.YtjfncbgggfammaaW6
namespace Go.Proofs.Ytjfncbgggfammaa
open Go.RowKit Go.Eg
set_option synthInstance.maxSize 3000
set_option linter.unusedSimpArgs false
set_option linter.unusedVariables false
set_option maxRecDepth 100000
structure WSt where
  k : Int
  s : Int
  f : Bool
def wstep (lim : Int) (st : WSt) (w : Int) : WSt := if budB lim st.s st.f w true = true then ⟨st.k, budS lim st.s st.f w true, budF lim st.s st.f w true⟩ else ⟨st.k + 1, budS lim 0 true w true, budF lim 0 true w true⟩
def waitL (lim : Int) (ws l : List Int) : WSt := (l.map (ofW ws)).foldl (wstep lim) ⟨1, 0, true⟩
def waitV (lim : Int) (ws l : List Int) (w : Int) : Int := if budB lim (waitL lim ws l).s (waitL lim ws l).f w true = true then (waitL lim ws l).k else (waitL lim ws l).k + 1
theorem wait_succ {lim : Int} {ws l : List Int} {k : Nat} (hk : k < l.length) : waitL lim ws (l.take (k + 1)) = wstep lim (waitL lim ws (l.take k)) (ofW ws l[k]) := by
  unfold waitL
  rw [← List.take_append_getElem hk, List.map_append, List.foldl_append]; rfl

set_option maxHeartbeats 400000 in
theorem wait_any (rb : Nat) (g : Rg) (lim w9 : Int) (W : Option Addr) (wn wc : Nat) (ws l : List Int) (w : World) (hw : WOK (fps [Res.blk rb 50 (Rg.c g), Res.row (Rg.A g) (Rg.s g).length (Rg.cap g) 3 1 (Rg.s g)]) w [Res.blk rb 50 (Rg.c g), Res.row (Rg.A g) (Rg.s g).length (Rg.cap g) 3 1 (Rg.s g)] w) (h : g.Rep 1 (l.map (fun v : Int => [Value.int .i64 v]))) (hw9 : Rd w [Res.blk rb 50 (Rg.c g), Res.row (Rg.A g) (Rg.s g).length (Rg.cap g) 3 1 (Rg.s g)] W wn 1 (ws.map (fun v : Int => [Value.int .u64 v]))) (hokw : okU ws) (hlim : 0 ≤ lim ∧ lim ≤ 18446744073709551615) (hwR : 0 ≤ w9 ∧ w9 ≤ 18446744073709551615) (hln : l.length ≤ 1000000) : Keep Try.prog 17 [.pointer (some ⟨rb, 0, none⟩), .int .u64 lim, .slice W wn wc, .int .u64 w9] w [Res.blk rb 50 (Rg.c g), Res.row (Rg.A g) (Rg.s g).length (Rg.cap g) 3 1 (Rg.s g)] (.int .i64 (waitV lim ws l w9)) := by
  refine g_start Try.func17 rfl 54 rfl (by simp) (fps [Res.blk rb 50 (Rg.c g), Res.row (Rg.A g) (Rg.s g).length (Rg.cap g) 3 1 (Rg.s g)]) [Res.blk rb 50 (Rg.c g), Res.row (Rg.A g) (Rg.s g).length (Rg.cap g) 3 1 (Rg.s g)] hw _ rfl ?_
  refine g_seq ?_
  refine g_region ?_
  refine s_q (q_assign rfl) rfl ?_
  refine g_nil ?_
  refine g_then ?_
  refine g_seq ?_
  refine g_seq ?_
  refine g_region ?_
  refine s_q (q_move rfl) rfl ?_
  refine s_q (q_eqp (b := false) rfl rfl rfl) rfl ?_
  refine g_nil ?_
  refine g_then ?_
  refine g_false rfl ?_
  refine g_skip ?_
  refine g_then ?_
  refine g_seq ?_
  refine g_region ?_
  refine s_q (q_assign rfl) rfl ?_
  refine g_nil ?_
  refine g_then ?_
  refine g_seq ?_
  refine g_region ?_
  refine s_q (q_move rfl) rfl ?_
  refine g_op (g_ownS [] rfl (fun w1 hw1 ho1 => by have h7 := budget_any (lim) w1; exact h7) rfl ?_)
  rintro ⟨sb18, fb18, lb18⟩ _
  refine ⟨_, _, inferInstance, inferInstance, ?_⟩
  refine s_q (q_assign rfl) rfl ?_
  refine g_nil ?_
  refine g_then ?_
  refine g_seq ?_
  refine g_seq ?_
  refine g_region ?_
  refine s_q (q_move rfl) rfl ?_
  refine g_op (g_ownS [Res.blk rb 50 (Rg.c g), Res.row (Rg.A g) (Rg.s g).length (Rg.cap g) 3 1 (Rg.s g)] rfl (fun w1 hw1 ho1 => by have h7 := all_i rb g l w1 ho1 h; exact h7) rfl ?_)
  rintro ⟨A20, cap20⟩ _
  refine ⟨_, _, inferInstance, inferInstance, ?_⟩
  refine s_q (q_len rfl) rfl ?_
  refine s_q (q_move rfl) rfl ?_
  refine g_nil ?_
  refine g_then ?_
  refine g_block ?_
  refine g_loopk [1, 2, 3, 8, 20, 21] (fun (x : Nat × WSt × Nat × Nat × Nat) => [(9, .int .i64 x.2.1.k), (10, .func (.func 33) #[] [Value.pointer (some ⟨x.2.2.1, 0, none⟩), Value.pointer (some ⟨x.2.2.2.1, 0, none⟩), Value.pointer (some ⟨x.2.2.2.2, 0, none⟩)].toArray), (22, .int .i64 ((x.1 : Nat) : Int))]) (fun (x : Nat × WSt × Nat × Nat × Nat) => [Res.blk x.2.2.1 23 [Value.int .u64 (x.2.1.s)], Res.blk x.2.2.2.1 4 [Value.bool (x.2.1.f)], Res.blk x.2.2.2.2 23 [Value.int .u64 lim], Res.row A20 ((l).length) cap20 3 1 ((l).map (fun v : Int => [Value.int .i64 v])), Res.blk rb 50 (Rg.c g), Res.row (Rg.A g) (Rg.s g).length (Rg.cap g) 3 1 (Rg.s g)]) (fun (x : Nat × WSt × Nat × Nat × Nat) => x.1 ≤ l.length ∧ x.2.1 = waitL lim ws (l.take x.1) ∧ (0 ≤ x.2.1.s ∧ x.2.1.s ≤ 18446744073709551615) ∧ (1 ≤ x.2.1.k ∧ x.2.1.k ≤ (x.1 : Int) + 1)) (fun (x : Nat × WSt × Nat × Nat × Nat) => l.length - x.1) (0, (WSt.mk 1 0 true), sb18, fb18, lb18) (by (try dsimp only); exact ⟨Nat.zero_le _, rfl, (by omega), (by omega)⟩) rfl (by repeat (first | exact trivial | refine ⟨rfl, ?_⟩)) wok_sub ?_
  rintro ⟨k, st, sb, fb, lb⟩ ⟨le_k, hst, hs9, hk1⟩
  replace le_k : k ≤ l.length := le_k
  replace hst : st = waitL lim ws (l.take k) := hst
  replace hs9 : 0 ≤ st.s ∧ st.s ≤ 18446744073709551615 := hs9
  replace hk1 : 1 ≤ st.k ∧ st.k ≤ (k : Int) + 1 := hk1
  refine g_setL (L' := [Res.blk sb 23 [Value.int .u64 (st.s)], Res.blk fb 4 [Value.bool (st.f)], Res.blk lb 23 [Value.int .u64 lim], Res.row A20 ((l).length) cap20 3 1 ((l).map (fun v : Int => [Value.int .i64 v])), Res.blk rb 50 (Rg.c g), Res.row (Rg.A g) (Rg.s g).length (Rg.cap g) 3 1 (Rg.s g)]) rfl ?_
  refine g_val 9 (v' := .int .i64 st.k) rfl rfl ?_
  refine g_val 10 (v' := .func (.func 33) #[] [Value.pointer (some ⟨sb, 0, none⟩), Value.pointer (some ⟨fb, 0, none⟩), Value.pointer (some ⟨lb, 0, none⟩)].toArray) rfl rfl ?_
  refine g_val 22 (v' := .int .i64 ((k : Nat) : Int)) rfl rfl ?_
  refine g_seq ?_
  refine g_region ?_
  refine s_q (q_lss rfl rfl) rfl ?_
  refine g_nil ?_
  refine g_then ?_
  refine g_seq ?_
  refine g_cond rfl (fun h1 => ?_) (fun h1 => ?_)
  · have lt_k : k < l.length := by have h9 := of_decide_eq_true h1; omega
    replace hk2 := hk1
    replace hk1 : k < l.length := by omega
    have hwU := ofW_U hokw l[k]
    refine g_skip ?_
    refine g_then ?_
    refine g_seq ?_
    refine g_block ?_
    refine g_seq ?_
    refine g_region ?_
    refine s_q (q_index (i := k) rfl rfl rfl (InRow.rdb (A := A20) (els := (l).map (fun v : Int => [Value.int .i64 v])) (by simp) (map_cat (c := (fun v : Int => [Value.int .i64 v])) (fun _ => rfl) _)) (by first | exact lt_k | omega)) rfl ?_
    refine s_q (q_load_el (i := k) (o := 0) rfl (InRow.rdb (A := A20) (els := (l).map (fun v : Int => [Value.int .i64 v])) (by simp) (map_cat (c := (fun v : Int => [Value.int .i64 v])) (fun _ => rfl) _)) (map_get (by first | exact lt_k | omega)) rfl rfl) rfl ?_
    refine s_q (q_assign rfl) rfl ?_
    refine g_nil ?_
    refine g_then ?_
    refine g_seq ?_
    refine g_region ?_
    refine s_q (q_move rfl) rfl ?_
    refine s_q (q_move rfl) rfl ?_
    refine g_op (g_lit rfl rfl rfl rfl rfl fun b29 => ?_)
    refine g_blkc (b := b29) ((([l[k]] : List Int).map (fun v : Int => [Value.int .i64 v])).flatten) rfl ?_
    refine g_op (g_pure rfl (fun w1 hw1 => weight_any W (some ⟨b29, 0, none⟩) (wn) (wc) (1) (1) (ws) (([l[k]] : List Int)) w1 (Rdb.toOld hw9.rdb hw1) (Rdb.toOld (InL.rdb (b := b29) (els := (([l[k]] : List Int)).map (fun v : Int => [Value.int .i64 v])) rfl (by simp) rfl) hw1) hokw (by first | omega | (simp; omega) | (simp; done))) rfl ?_)
    refine s_q (q_move rfl) rfl ?_
    refine s_q (q_extract rfl rfl) rfl ?_
    refine g_val 31 (v' := .int .u64 (ofW ws l[k])) rfl (by rw [List.map_cons, List.map_nil, (add_one hwU).1]) ?_
    refine s_q (q_extract rfl rfl) rfl ?_
    refine g_val 32 (v' := .bool true) rfl (by rw [List.map_cons, List.map_nil, (add_one hwU).2]) ?_
    refine s_q (q_assign rfl) rfl ?_
    refine s_q (q_assign rfl) rfl ?_
    refine g_nil ?_
    refine g_then ?_
    refine g_seq ?_
    refine g_region ?_
    refine s_q (q_move rfl) rfl ?_
    refine s_q (q_move rfl) rfl ?_
    refine s_q (q_move rfl) rfl ?_
    refine g_op (g_ownV [Res.blk sb 23 [Value.int .u64 (st.s)], Res.blk fb 4 [Value.bool (st.f)], Res.blk lb 23 [Value.int .u64 lim]] rfl rfl (fun w1 hw1 ho1 => by have h7 := budget1_any sb fb lb (st.s) (lim) ((ofW ws l[k])) (st.f) (true) w1 ho1 hs9 (by first | exact hwU | exact hwR); exact h7) rfl ?_)
    rintro ⟨⟩ _
    refine ⟨_, _, inferInstance, inferInstance, ?_⟩
    refine s_q (q_not rfl) rfl ?_
    refine g_nil ?_
    refine g_then ?_
    refine g_cond rfl (fun h2 => ?_) (fun h2 => ?_)
    · have hbd : budB lim st.s st.f (ofW ws l[k]) true = false := by simpa using h2
      refine g_seq ?_
      refine g_region ?_
      refine s_q (q_move rfl) rfl ?_
      refine s_q (q_addz (z := st.k + 1) rfl rfl (wi64 (by omega) (by omega))) rfl ?_
      refine s_q (q_assign rfl) rfl ?_
      refine g_nil ?_
      refine g_then ?_
      refine g_seq ?_
      refine g_region ?_
      refine s_q (q_move rfl) rfl ?_
      refine g_op (g_ownS [] rfl (fun w1 hw1 ho1 => by have h7 := budget_any (lim) w1; exact h7) rfl ?_)
      rintro ⟨sb41, fb41, lb41⟩ _
      refine ⟨_, _, inferInstance, inferInstance, ?_⟩
      refine s_q (q_assign rfl) rfl ?_
      refine g_nil ?_
      refine g_then ?_
      refine g_region ?_
      refine s_q (q_move rfl) rfl ?_
      refine s_q (q_move rfl) rfl ?_
      refine s_q (q_move rfl) rfl ?_
      refine g_op (g_ownV [Res.blk sb41 23 [Value.int .u64 (0)], Res.blk fb41 4 [Value.bool (true)], Res.blk lb41 23 [Value.int .u64 lim]] rfl rfl (fun w1 hw1 ho1 => by have h7 := budget1_any sb41 fb41 lb41 (0) (lim) ((ofW ws l[k])) (true) (true) w1 ho1 ⟨by omega, by omega⟩ (by first | exact hwU | exact hwR); exact h7) rfl ?_)
      rintro ⟨⟩ _
      refine ⟨_, _, inferInstance, inferInstance, ?_⟩
      refine g_nil ?_
      refine g_blk_n ?_
      refine g_then ?_
      refine g_region ?_
      refine s_q (q_inc rfl rfl (by omega)) rfl ?_
      refine s_q (q_move rfl) rfl ?_
      refine g_nil ?_
      exact g_again ((k + 1), (WSt.mk (st.k + 1) (budS lim 0 true (ofW ws l[k]) true) (budF lim 0 true (ofW ws l[k]) true)), sb41, fb41, lb41) (by (try dsimp only); exact ⟨(by first | exact lt_k | omega), (by rw [wait_succ hk1, ← hst]; unfold wstep; rw [if_neg (by simp [hbd])]), (bud_rng ⟨by omega, by omega⟩ hwU), (by omega)⟩) (by first | omega | (simp only; omega)) (by repeat (first | exact trivial | refine ⟨rfl, ?_⟩)) wok_sub
    · have hbd : budB lim st.s st.f (ofW ws l[k]) true = true := by simpa using h2
      refine g_skip ?_
      refine g_blk_n ?_
      refine g_then ?_
      refine g_region ?_
      refine s_q (q_inc rfl rfl (by omega)) rfl ?_
      refine s_q (q_move rfl) rfl ?_
      refine g_nil ?_
      exact g_again ((k + 1), (WSt.mk st.k (budS lim st.s st.f (ofW ws l[k]) true) (budF lim st.s st.f (ofW ws l[k]) true)), sb, fb, lb) (by (try dsimp only); exact ⟨(by first | exact lt_k | omega), (by rw [wait_succ hk1, ← hst]; unfold wstep; rw [if_pos hbd]), (bud_rng hs9 hwU), (by omega)⟩) (by first | omega | (simp only; omega)) (by repeat (first | exact trivial | refine ⟨rfl, ?_⟩)) wok_sub
  · have eq_k : k = l.length := by have h9 := of_decide_eq_false h1; omega
    have hst2 : waitL lim ws l = st := by rw [hst, eq_k, List.take_length]
    refine g_exit ?_
    refine g_then_x (g_then_x (g_blk_hit ?_))
    refine g_then ?_
    refine g_seq ?_
    refine g_seq ?_
    refine g_region ?_
    refine s_q (q_move rfl) rfl ?_
    refine s_q (q_move rfl) rfl ?_
    refine g_op (g_ownV [Res.blk sb 23 [Value.int .u64 (st.s)], Res.blk fb 4 [Value.bool (st.f)], Res.blk lb 23 [Value.int .u64 lim]] rfl rfl (fun w1 hw1 ho1 => by have h7 := budget1_any sb fb lb (st.s) (lim) (w9) (st.f) (true) w1 ho1 hs9 (by first | exact hwU | exact hwR); exact h7) rfl ?_)
    rintro ⟨⟩ _
    refine ⟨_, _, inferInstance, inferInstance, ?_⟩
    refine s_q (q_not rfl) rfl ?_
    refine g_nil ?_
    refine g_then ?_
    refine g_cond rfl (fun h3 => ?_) (fun h3 => ?_)
    · have hbd : budB lim st.s st.f w9 true = false := by simpa using h3
      refine g_region ?_
      refine s_q (q_move rfl) rfl ?_
      refine s_q (q_addz (z := st.k + 1) rfl rfl (wi64 (by omega) (by omega))) rfl ?_
      refine s_q (q_assign rfl) rfl ?_
      refine g_nil ?_
      refine g_then ?_
      refine g_seq ?_
      refine g_region ?_
      refine s_q (q_move rfl) rfl ?_
      refine s_q (q_assign rfl) rfl ?_
      refine g_nil ?_
      refine g_then ?_
      refine g_ret ?_
      exact fin1 rfl (.tmp rfl) (fun w' hw' => ⟨(), trivial, by unfold waitV; rw [hst2, if_neg (by simp [hbd])], by have h9 := wok_sub (L' := [Res.blk rb 50 (Rg.c g), Res.row (Rg.A g) (Rg.s g).length (Rg.cap g) 3 1 (Rg.s g)]) w' hw'; exact h9⟩) _ (.inl rfl)
    · have hbd : budB lim st.s st.f w9 true = true := by simpa using h3
      refine g_skip ?_
      refine g_then ?_
      refine g_seq ?_
      refine g_region ?_
      refine s_q (q_move rfl) rfl ?_
      refine s_q (q_assign rfl) rfl ?_
      refine g_nil ?_
      refine g_then ?_
      refine g_ret ?_
      exact fin1 rfl (.tmp rfl) (fun w' hw' => ⟨(), trivial, by unfold waitV; rw [hst2, if_pos hbd], by have h9 := wok_sub (L' := [Res.blk rb 50 (Rg.c g), Res.row (Rg.A g) (Rg.s g).length (Rg.cap g) 3 1 (Rg.s g)]) w' hw'; exact h9⟩) _ (.inl rfl)
end Go.Proofs.Ytjfncbgggfammaa
