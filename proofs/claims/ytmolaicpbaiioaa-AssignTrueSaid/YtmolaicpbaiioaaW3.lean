/- walks of the lanes -/
import Derived.Test.YtmolaicpbaiioaaW2
namespace Go.Proofs.Ytmolaicpbaiioaa
open Go.RowKit Go.Eg
set_option synthInstance.maxSize 3000
set_option linter.unusedSimpArgs false
set_option linter.unusedVariables false
set_option maxRecDepth 100000
/-- two queues -/
structure LL where
  f : List Int
  v : List Int
def pushE (sz : Nat) (c : Int) (q : LL) : Int := if c = 0 then (if q.f.length < sz then 0 else 6) else if c = 1 then (if q.v.length < sz then 0 else 6) else 11
def pushL (sz : Nat) (c i : Int) (q : LL) : LL := if c = 0 then (if q.f.length < sz then ⟨q.f ++ [i], q.v⟩ else q) else if c = 1 then (if q.v.length < sz then ⟨q.f, q.v ++ [i]⟩ else q) else q
def firstV (q : LL) : Int := if 0 < q.f.length then 0 else if 0 < q.v.length then 1 else -1
def headI (q : LL) : Int := match q.f with | x :: _ => x | [] => q.v.head?.getD 0
def headC (q : LL) : Int := match q.f with | _ :: _ => 0 | [] => match q.v with | _ :: _ => 1 | [] => 0
def headB (q : LL) : Bool := match q.f with | _ :: _ => true | [] => q.v.head?.isSome
def popL (q : LL) : LL := match q.f with | _ :: r => ⟨r, q.v⟩ | [] => ⟨[], q.v.tail⟩
def allL (c : Int) (q : LL) : List Int := if c = 0 then q.f else if c = 1 then q.v else []
def aheadL (c : Int) (q : LL) : List Int := if c = 0 then q.f else if c = 1 then q.f ++ q.v else []
def freeL (sz : Nat) (c : Int) (q : LL) : Nat := if c = 0 then sz - q.f.length else if c = 1 then sz - q.v.length else 0
theorem popL_len (q : LL) : (popL q).f.length ≤ q.f.length ∧ (popL q).v.length ≤ q.v.length := by
  obtain ⟨f, v⟩ := q
  cases f <;> simp [popL]
theorem pushL_len {sz : Nat} (c i : Int) {q : LL} (h : q.f.length ≤ sz ∧ q.v.length ≤ sz) : (pushL sz c i q).f.length ≤ sz ∧ (pushL sz c i q).v.length ≤ sz := by
  unfold pushL
  split
  · split
    · simp; omega
    · exact h
  · split
    · split
      · simp; omega
      · exact h
    · exact h

set_option maxHeartbeats 400000 in
theorem of_0 (bl b0 b1 : Nat) (w : World) (hw : WOK (fps [Res.blk bl 77 [Value.pointer (some ⟨b0, 0, none⟩), Value.pointer (some ⟨b1, 0, none⟩)]]) w [Res.blk bl 77 [Value.pointer (some ⟨b0, 0, none⟩), Value.pointer (some ⟨b1, 0, none⟩)]] w)  : Keep Try.prog 61 [.pointer (some ⟨bl, 0, none⟩), .int .i64 0] w [Res.blk bl 77 [Value.pointer (some ⟨b0, 0, none⟩), Value.pointer (some ⟨b1, 0, none⟩)]] (.pointer (some ⟨b0, 0, none⟩)) := by
  refine g_start Try.func61 rfl 21 rfl (by simp) (fps [Res.blk bl 77 [Value.pointer (some ⟨b0, 0, none⟩), Value.pointer (some ⟨b1, 0, none⟩)]]) [Res.blk bl 77 [Value.pointer (some ⟨b0, 0, none⟩), Value.pointer (some ⟨b1, 0, none⟩)]] hw _ rfl ?_
  refine g_seq ?_
  refine g_region ?_
  refine s_q (q_assign rfl) rfl ?_
  refine g_nil ?_
  refine g_then ?_
  refine g_seq ?_
  refine g_seq ?_
  refine g_region ?_
  refine s_q (q_move rfl) rfl ?_
  refine s_q (q_eqp (b := false) rfl rfl rfl) rfl ?_
  refine s_q (q_move rfl) rfl ?_
  refine s_qg (q_move rfl) rfl rfl rfl ?_
  refine s_qg (q_lss rfl rfl) rfl rfl rfl ?_
  refine g_litb 9 (b := false) rfl (by decide) ?_
  refine s_q (q_pick_f rfl rfl) rfl ?_
  refine s_q (q_move rfl) rfl ?_
  refine s_qg (q_move rfl) rfl rfl rfl ?_
  refine s_qg (q_geq rfl rfl) rfl rfl rfl ?_
  refine g_litb 13 (b := false) rfl (by decide) ?_
  refine s_q (q_pick_f rfl rfl) rfl ?_
  refine g_nil ?_
  refine g_then ?_
  refine g_false rfl ?_
  refine g_skip ?_
  refine g_then ?_
  refine g_seq ?_
  refine g_region ?_
  refine s_q (q_move rfl) rfl ?_
  refine s_q (q_move rfl) rfl ?_
  refine s_q (q_nilck rfl) rfl ?_
  refine s_q (q_field rfl) rfl ?_
  refine s_q (q_index_arr (i := 0) rfl rfl rfl (by first | decide | omega)) rfl ?_
  refine s_q (q_load rfl rfl) rfl ?_
  refine s_q (q_assign rfl) rfl ?_
  refine g_nil ?_
  refine g_then ?_
  refine g_ret ?_
  exact fin1 rfl (.tmp rfl) (fun w' hw' => ⟨(), trivial, by first | rfl | (simp_all; done), by have h9 := wok_sub (L' := [Res.blk bl 77 [Value.pointer (some ⟨b0, 0, none⟩), Value.pointer (some ⟨b1, 0, none⟩)]]) w' hw'; exact h9⟩) _ (.inl rfl)

set_option maxHeartbeats 400000 in
theorem of_1 (bl b0 b1 : Nat) (w : World) (hw : WOK (fps [Res.blk bl 77 [Value.pointer (some ⟨b0, 0, none⟩), Value.pointer (some ⟨b1, 0, none⟩)]]) w [Res.blk bl 77 [Value.pointer (some ⟨b0, 0, none⟩), Value.pointer (some ⟨b1, 0, none⟩)]] w)  : Keep Try.prog 61 [.pointer (some ⟨bl, 0, none⟩), .int .i64 1] w [Res.blk bl 77 [Value.pointer (some ⟨b0, 0, none⟩), Value.pointer (some ⟨b1, 0, none⟩)]] (.pointer (some ⟨b1, 0, none⟩)) := by
  refine g_start Try.func61 rfl 21 rfl (by simp) (fps [Res.blk bl 77 [Value.pointer (some ⟨b0, 0, none⟩), Value.pointer (some ⟨b1, 0, none⟩)]]) [Res.blk bl 77 [Value.pointer (some ⟨b0, 0, none⟩), Value.pointer (some ⟨b1, 0, none⟩)]] hw _ rfl ?_
  refine g_seq ?_
  refine g_region ?_
  refine s_q (q_assign rfl) rfl ?_
  refine g_nil ?_
  refine g_then ?_
  refine g_seq ?_
  refine g_seq ?_
  refine g_region ?_
  refine s_q (q_move rfl) rfl ?_
  refine s_q (q_eqp (b := false) rfl rfl rfl) rfl ?_
  refine s_q (q_move rfl) rfl ?_
  refine s_qg (q_move rfl) rfl rfl rfl ?_
  refine s_qg (q_lss rfl rfl) rfl rfl rfl ?_
  refine g_litb 9 (b := false) rfl (by decide) ?_
  refine s_q (q_pick_f rfl rfl) rfl ?_
  refine s_q (q_move rfl) rfl ?_
  refine s_qg (q_move rfl) rfl rfl rfl ?_
  refine s_qg (q_geq rfl rfl) rfl rfl rfl ?_
  refine g_litb 13 (b := false) rfl (by decide) ?_
  refine s_q (q_pick_f rfl rfl) rfl ?_
  refine g_nil ?_
  refine g_then ?_
  refine g_false rfl ?_
  refine g_skip ?_
  refine g_then ?_
  refine g_seq ?_
  refine g_region ?_
  refine s_q (q_move rfl) rfl ?_
  refine s_q (q_move rfl) rfl ?_
  refine s_q (q_nilck rfl) rfl ?_
  refine s_q (q_field rfl) rfl ?_
  refine s_q (q_index_arr (i := 1) rfl rfl rfl (by first | decide | omega)) rfl ?_
  refine s_q (q_load rfl rfl) rfl ?_
  refine s_q (q_assign rfl) rfl ?_
  refine g_nil ?_
  refine g_then ?_
  refine g_ret ?_
  exact fin1 rfl (.tmp rfl) (fun w' hw' => ⟨(), trivial, by first | rfl | (simp_all; done), by have h9 := wok_sub (L' := [Res.blk bl 77 [Value.pointer (some ⟨b0, 0, none⟩), Value.pointer (some ⟨b1, 0, none⟩)]]) w' hw'; exact h9⟩) _ (.inl rfl)

set_option maxHeartbeats 400000 in
theorem of_b (bl b0 b1 : Nat) (c : Int) (w : World) (hw : WOK (fps [Res.blk bl 77 [Value.pointer (some ⟨b0, 0, none⟩), Value.pointer (some ⟨b1, 0, none⟩)]]) w [Res.blk bl 77 [Value.pointer (some ⟨b0, 0, none⟩), Value.pointer (some ⟨b1, 0, none⟩)]] w) (hb : c ≠ 0 ∧ c ≠ 1) : Keep Try.prog 61 [.pointer (some ⟨bl, 0, none⟩), .int .i64 c] w [Res.blk bl 77 [Value.pointer (some ⟨b0, 0, none⟩), Value.pointer (some ⟨b1, 0, none⟩)]] (.pointer none) := by
  refine g_start Try.func61 rfl 21 rfl (by simp) (fps [Res.blk bl 77 [Value.pointer (some ⟨b0, 0, none⟩), Value.pointer (some ⟨b1, 0, none⟩)]]) [Res.blk bl 77 [Value.pointer (some ⟨b0, 0, none⟩), Value.pointer (some ⟨b1, 0, none⟩)]] hw _ rfl ?_
  refine g_seq ?_
  refine g_region ?_
  refine s_q (q_assign rfl) rfl ?_
  refine g_nil ?_
  refine g_then ?_
  refine g_seq ?_
  refine g_seq ?_
  refine g_region ?_
  refine s_q (q_move rfl) rfl ?_
  refine s_q (q_eqp (b := false) rfl rfl rfl) rfl ?_
  refine s_q (q_move rfl) rfl ?_
  refine s_qg (q_move rfl) rfl rfl rfl ?_
  refine s_qg (q_lss rfl rfl) rfl rfl rfl ?_
  refine s_q (q_pick_f rfl rfl) rfl ?_
  refine s_q (q_move rfl) rfl ?_
  refine g_split 11 rfl (fun h1 => ?_) (fun h1 => ?_)
  · refine g_gf rfl rfl rfl rfl ?_
    refine g_gf rfl rfl rfl rfl ?_
    refine s_q (q_pick_t rfl rfl) rfl ?_
    refine g_nil ?_
    refine g_then ?_
    refine g_true rfl ?_
    refine g_seq ?_
    refine g_region ?_
    refine s_q (q_assign rfl) rfl ?_
    refine g_nil ?_
    refine g_then ?_
    refine g_ret ?_
    refine g_then_ret ?_
    exact fin1 rfl (.tmp rfl) (fun w' hw' => ⟨(), trivial, by first | rfl | (simp_all; done), by have h9 := wok_sub (L' := [Res.blk bl 77 [Value.pointer (some ⟨b0, 0, none⟩), Value.pointer (some ⟨b1, 0, none⟩)]]) w' hw'; exact h9⟩) _ (.inl rfl)
  · refine s_qg (q_move rfl) rfl rfl rfl ?_
    refine s_qg (q_geq rfl rfl) rfl rfl rfl ?_
    refine s_q (q_pick_f rfl rfl) rfl ?_
    refine g_nil ?_
    refine g_then ?_
    refine g_cond rfl (fun h2 => ?_) (fun h2 => ?_)
    · refine g_seq ?_
      refine g_region ?_
      refine s_q (q_assign rfl) rfl ?_
      refine g_nil ?_
      refine g_then ?_
      refine g_ret ?_
      refine g_then_ret ?_
      exact fin1 rfl (.tmp rfl) (fun w' hw' => ⟨(), trivial, by first | rfl | (simp_all; done), by have h9 := wok_sub (L' := [Res.blk bl 77 [Value.pointer (some ⟨b0, 0, none⟩), Value.pointer (some ⟨b1, 0, none⟩)]]) w' hw'; exact h9⟩) _ (.inl rfl)
    · exfalso; simp at h1 h2; omega

set_option maxHeartbeats 400000 in
theorem class_0 (bl b0 b1 : Nat) (w : World) (hw : WOK (fps [Res.blk bl 77 [Value.pointer (some ⟨b0, 0, none⟩), Value.pointer (some ⟨b1, 0, none⟩)]]) w [Res.blk bl 77 [Value.pointer (some ⟨b0, 0, none⟩), Value.pointer (some ⟨b1, 0, none⟩)]] w)  : Keep Try.prog 41 [.pointer (some ⟨bl, 0, none⟩), .int .i64 0] w [Res.blk bl 77 [Value.pointer (some ⟨b0, 0, none⟩), Value.pointer (some ⟨b1, 0, none⟩)]] (.pointer (some ⟨b0, 0, none⟩)) := by
  refine g_start Try.func41 rfl 12 rfl (by simp) (fps [Res.blk bl 77 [Value.pointer (some ⟨b0, 0, none⟩), Value.pointer (some ⟨b1, 0, none⟩)]]) [Res.blk bl 77 [Value.pointer (some ⟨b0, 0, none⟩), Value.pointer (some ⟨b1, 0, none⟩)]] hw _ rfl ?_
  refine g_seq ?_
  refine g_region ?_
  refine s_q (q_assign rfl) rfl ?_
  refine g_nil ?_
  refine g_then ?_
  refine g_seq ?_
  refine g_seq ?_
  refine g_region ?_
  refine s_q (q_move rfl) rfl ?_
  refine s_q (q_eqp (b := false) rfl rfl rfl) rfl ?_
  refine g_nil ?_
  refine g_then ?_
  refine g_false rfl ?_
  refine g_skip ?_
  refine g_then ?_
  refine g_seq ?_
  refine g_region ?_
  refine s_q (q_move rfl) rfl ?_
  refine s_q (q_nilck rfl) rfl ?_
  refine s_q (q_field rfl) rfl ?_
  refine s_q (q_move rfl) rfl ?_
  refine g_op (g_keep [Res.blk bl 77 [Value.pointer (some ⟨b0, 0, none⟩), Value.pointer (some ⟨b1, 0, none⟩)]] rfl (fun w1 hw1 ho1 => by exact of_0 bl b0 b1 w1 ho1) rfl ?_)
  refine s_q (q_assign rfl) rfl ?_
  refine g_nil ?_
  refine g_then ?_
  refine g_ret ?_
  exact fin1 rfl (.tmp rfl) (fun w' hw' => ⟨(), trivial, by first | rfl | (simp_all; done), by have h9 := wok_sub (L' := [Res.blk bl 77 [Value.pointer (some ⟨b0, 0, none⟩), Value.pointer (some ⟨b1, 0, none⟩)]]) w' hw'; exact h9⟩) _ (.inl rfl)

set_option maxHeartbeats 400000 in
theorem class_1 (bl b0 b1 : Nat) (w : World) (hw : WOK (fps [Res.blk bl 77 [Value.pointer (some ⟨b0, 0, none⟩), Value.pointer (some ⟨b1, 0, none⟩)]]) w [Res.blk bl 77 [Value.pointer (some ⟨b0, 0, none⟩), Value.pointer (some ⟨b1, 0, none⟩)]] w)  : Keep Try.prog 41 [.pointer (some ⟨bl, 0, none⟩), .int .i64 1] w [Res.blk bl 77 [Value.pointer (some ⟨b0, 0, none⟩), Value.pointer (some ⟨b1, 0, none⟩)]] (.pointer (some ⟨b1, 0, none⟩)) := by
  refine g_start Try.func41 rfl 12 rfl (by simp) (fps [Res.blk bl 77 [Value.pointer (some ⟨b0, 0, none⟩), Value.pointer (some ⟨b1, 0, none⟩)]]) [Res.blk bl 77 [Value.pointer (some ⟨b0, 0, none⟩), Value.pointer (some ⟨b1, 0, none⟩)]] hw _ rfl ?_
  refine g_seq ?_
  refine g_region ?_
  refine s_q (q_assign rfl) rfl ?_
  refine g_nil ?_
  refine g_then ?_
  refine g_seq ?_
  refine g_seq ?_
  refine g_region ?_
  refine s_q (q_move rfl) rfl ?_
  refine s_q (q_eqp (b := false) rfl rfl rfl) rfl ?_
  refine g_nil ?_
  refine g_then ?_
  refine g_false rfl ?_
  refine g_skip ?_
  refine g_then ?_
  refine g_seq ?_
  refine g_region ?_
  refine s_q (q_move rfl) rfl ?_
  refine s_q (q_nilck rfl) rfl ?_
  refine s_q (q_field rfl) rfl ?_
  refine s_q (q_move rfl) rfl ?_
  refine g_op (g_keep [Res.blk bl 77 [Value.pointer (some ⟨b0, 0, none⟩), Value.pointer (some ⟨b1, 0, none⟩)]] rfl (fun w1 hw1 ho1 => by exact of_1 bl b0 b1 w1 ho1) rfl ?_)
  refine s_q (q_assign rfl) rfl ?_
  refine g_nil ?_
  refine g_then ?_
  refine g_ret ?_
  exact fin1 rfl (.tmp rfl) (fun w' hw' => ⟨(), trivial, by first | rfl | (simp_all; done), by have h9 := wok_sub (L' := [Res.blk bl 77 [Value.pointer (some ⟨b0, 0, none⟩), Value.pointer (some ⟨b1, 0, none⟩)]]) w' hw'; exact h9⟩) _ (.inl rfl)

set_option maxHeartbeats 400000 in
theorem class_b (bl b0 b1 : Nat) (c : Int) (w : World) (hw : WOK (fps [Res.blk bl 77 [Value.pointer (some ⟨b0, 0, none⟩), Value.pointer (some ⟨b1, 0, none⟩)]]) w [Res.blk bl 77 [Value.pointer (some ⟨b0, 0, none⟩), Value.pointer (some ⟨b1, 0, none⟩)]] w) (hb : c ≠ 0 ∧ c ≠ 1) : Keep Try.prog 41 [.pointer (some ⟨bl, 0, none⟩), .int .i64 c] w [Res.blk bl 77 [Value.pointer (some ⟨b0, 0, none⟩), Value.pointer (some ⟨b1, 0, none⟩)]] (.pointer none) := by
  refine g_start Try.func41 rfl 12 rfl (by simp) (fps [Res.blk bl 77 [Value.pointer (some ⟨b0, 0, none⟩), Value.pointer (some ⟨b1, 0, none⟩)]]) [Res.blk bl 77 [Value.pointer (some ⟨b0, 0, none⟩), Value.pointer (some ⟨b1, 0, none⟩)]] hw _ rfl ?_
  refine g_seq ?_
  refine g_region ?_
  refine s_q (q_assign rfl) rfl ?_
  refine g_nil ?_
  refine g_then ?_
  refine g_seq ?_
  refine g_seq ?_
  refine g_region ?_
  refine s_q (q_move rfl) rfl ?_
  refine s_q (q_eqp (b := false) rfl rfl rfl) rfl ?_
  refine g_nil ?_
  refine g_then ?_
  refine g_false rfl ?_
  refine g_skip ?_
  refine g_then ?_
  refine g_seq ?_
  refine g_region ?_
  refine s_q (q_move rfl) rfl ?_
  refine s_q (q_nilck rfl) rfl ?_
  refine s_q (q_field rfl) rfl ?_
  refine s_q (q_move rfl) rfl ?_
  refine g_op (g_keep [Res.blk bl 77 [Value.pointer (some ⟨b0, 0, none⟩), Value.pointer (some ⟨b1, 0, none⟩)]] rfl (fun w1 hw1 ho1 => by exact of_b bl b0 b1 c w1 ho1 hb) rfl ?_)
  refine s_q (q_assign rfl) rfl ?_
  refine g_nil ?_
  refine g_then ?_
  refine g_ret ?_
  exact fin1 rfl (.tmp rfl) (fun w' hw' => ⟨(), trivial, by first | rfl | (simp_all; done), by have h9 := wok_sub (L' := [Res.blk bl 77 [Value.pointer (some ⟨b0, 0, none⟩), Value.pointer (some ⟨b1, 0, none⟩)]]) w' hw'; exact h9⟩) _ (.inl rfl)

set_option maxHeartbeats 400000 in
theorem lall_0 (bl b0 b1 : Nat) (g0 g1 : Rg) (q : LL) (sz : Nat) (w : World) (hw : WOK (fps [Res.blk bl 77 [Value.pointer (some ⟨b0, 0, none⟩), Value.pointer (some ⟨b1, 0, none⟩)], Res.blk b0 108 (Rg.c g0), Res.row (Rg.A g0) (Rg.s g0).length (Rg.cap g0) 3 1 (Rg.s g0), Res.blk b1 108 (Rg.c g1), Res.row (Rg.A g1) (Rg.s g1).length (Rg.cap g1) 3 1 (Rg.s g1)]) w [Res.blk bl 77 [Value.pointer (some ⟨b0, 0, none⟩), Value.pointer (some ⟨b1, 0, none⟩)], Res.blk b0 108 (Rg.c g0), Res.row (Rg.A g0) (Rg.s g0).length (Rg.cap g0) 3 1 (Rg.s g0), Res.blk b1 108 (Rg.c g1), Res.row (Rg.A g1) (Rg.s g1).length (Rg.cap g1) 3 1 (Rg.s g1)] w) (h0 : g0.Rep 1 ((q).f.map (fun v : Int => [Value.int .i64 v]))) (h1 : g1.Rep 1 ((q).v.map (fun v : Int => [Value.int .i64 v]))) (s0 : Rg.size g0 = sz) (s1 : Rg.size g1 = sz) (hsz : sz ≤ 4096) : Own2 (ι := (Option Addr × Nat)) Try.prog 25 [.pointer (some ⟨bl, 0, none⟩), .int .i64 0] w [Res.blk bl 77 [Value.pointer (some ⟨b0, 0, none⟩), Value.pointer (some ⟨b1, 0, none⟩)], Res.blk b0 108 (Rg.c g0), Res.row (Rg.A g0) (Rg.s g0).length (Rg.cap g0) 3 1 (Rg.s g0), Res.blk b1 108 (Rg.c g1), Res.row (Rg.A g1) (Rg.s g1).length (Rg.cap g1) 3 1 (Rg.s g1)] (fun x => True) (fun x => .slice x.1 (allL 0 q).length x.2) (fun x => [Res.row x.1 (allL 0 q).length x.2 3 1 ((allL 0 q).map (fun v : Int => [Value.int .i64 v]))]) (fun x => [Res.blk bl 77 [Value.pointer (some ⟨b0, 0, none⟩), Value.pointer (some ⟨b1, 0, none⟩)], Res.blk b0 108 (Rg.c g0), Res.row (Rg.A g0) (Rg.s g0).length (Rg.cap g0) 3 1 (Rg.s g0), Res.blk b1 108 (Rg.c g1), Res.row (Rg.A g1) (Rg.s g1).length (Rg.cap g1) 3 1 (Rg.s g1)]) := by
  refine g_start Try.func25 rfl 9 rfl (by simp) (fps [Res.blk bl 77 [Value.pointer (some ⟨b0, 0, none⟩), Value.pointer (some ⟨b1, 0, none⟩)], Res.blk b0 108 (Rg.c g0), Res.row (Rg.A g0) (Rg.s g0).length (Rg.cap g0) 3 1 (Rg.s g0), Res.blk b1 108 (Rg.c g1), Res.row (Rg.A g1) (Rg.s g1).length (Rg.cap g1) 3 1 (Rg.s g1)]) [Res.blk bl 77 [Value.pointer (some ⟨b0, 0, none⟩), Value.pointer (some ⟨b1, 0, none⟩)], Res.blk b0 108 (Rg.c g0), Res.row (Rg.A g0) (Rg.s g0).length (Rg.cap g0) 3 1 (Rg.s g0), Res.blk b1 108 (Rg.c g1), Res.row (Rg.A g1) (Rg.s g1).length (Rg.cap g1) 3 1 (Rg.s g1)] hw _ rfl ?_
  refine g_seq ?_
  refine g_region ?_
  refine s_q (q_assign rfl) rfl ?_
  refine g_nil ?_
  refine g_then ?_
  refine g_seq ?_
  refine g_region ?_
  refine s_q (q_move rfl) rfl ?_
  refine s_q (q_move rfl) rfl ?_
  refine g_op (g_keep [Res.blk bl 77 [Value.pointer (some ⟨b0, 0, none⟩), Value.pointer (some ⟨b1, 0, none⟩)]] rfl (fun w1 hw1 ho1 => by exact class_0 bl b0 b1 w1 ho1) rfl ?_)
  refine g_op (g_ownS [Res.blk b0 108 (Rg.c g0), Res.row (Rg.A g0) (Rg.s g0).length (Rg.cap g0) 3 1 (Rg.s g0)] rfl (fun w1 hw1 ho1 => by have h7 := all_i b0 g0 (q).f w1 ho1 h0; exact h7) rfl ?_)
  rintro ⟨A8, cap8⟩ _
  refine ⟨_, _, inferInstance, inferInstance, ?_⟩
  refine s_q (q_assign rfl) rfl ?_
  refine g_nil ?_
  refine g_then ?_
  refine g_ret ?_
  refine g_rowels (A := A8) ((allL 0 q).map (fun v : Int => [Value.int .i64 v])) (by simp [allL]) ?_
  refine g_rown (A := A8) (allL 0 q).length (by simp [allL]) ?_
  exact fin1 rfl (.tmp rfl) (fun w' hw' => ⟨(A8, cap8), (by first | exact trivial | (dsimp only; exact trivial)), by simp [allL], by have h9 := wok_sub (L' := [Res.row ((A8, cap8)).1 (allL 0 q).length ((A8, cap8)).2 3 1 ((allL 0 q).map (fun v : Int => [Value.int .i64 v])), Res.blk bl 77 [Value.pointer (some ⟨b0, 0, none⟩), Value.pointer (some ⟨b1, 0, none⟩)], Res.blk b0 108 (Rg.c g0), Res.row (Rg.A g0) (Rg.s g0).length (Rg.cap g0) 3 1 (Rg.s g0), Res.blk b1 108 (Rg.c g1), Res.row (Rg.A g1) (Rg.s g1).length (Rg.cap g1) 3 1 (Rg.s g1)]) w' hw'; exact h9⟩) _ (.inl rfl)

set_option maxHeartbeats 400000 in
theorem lall_1 (bl b0 b1 : Nat) (g0 g1 : Rg) (q : LL) (sz : Nat) (w : World) (hw : WOK (fps [Res.blk bl 77 [Value.pointer (some ⟨b0, 0, none⟩), Value.pointer (some ⟨b1, 0, none⟩)], Res.blk b0 108 (Rg.c g0), Res.row (Rg.A g0) (Rg.s g0).length (Rg.cap g0) 3 1 (Rg.s g0), Res.blk b1 108 (Rg.c g1), Res.row (Rg.A g1) (Rg.s g1).length (Rg.cap g1) 3 1 (Rg.s g1)]) w [Res.blk bl 77 [Value.pointer (some ⟨b0, 0, none⟩), Value.pointer (some ⟨b1, 0, none⟩)], Res.blk b0 108 (Rg.c g0), Res.row (Rg.A g0) (Rg.s g0).length (Rg.cap g0) 3 1 (Rg.s g0), Res.blk b1 108 (Rg.c g1), Res.row (Rg.A g1) (Rg.s g1).length (Rg.cap g1) 3 1 (Rg.s g1)] w) (h0 : g0.Rep 1 ((q).f.map (fun v : Int => [Value.int .i64 v]))) (h1 : g1.Rep 1 ((q).v.map (fun v : Int => [Value.int .i64 v]))) (s0 : Rg.size g0 = sz) (s1 : Rg.size g1 = sz) (hsz : sz ≤ 4096) : Own2 (ι := (Option Addr × Nat)) Try.prog 25 [.pointer (some ⟨bl, 0, none⟩), .int .i64 1] w [Res.blk bl 77 [Value.pointer (some ⟨b0, 0, none⟩), Value.pointer (some ⟨b1, 0, none⟩)], Res.blk b0 108 (Rg.c g0), Res.row (Rg.A g0) (Rg.s g0).length (Rg.cap g0) 3 1 (Rg.s g0), Res.blk b1 108 (Rg.c g1), Res.row (Rg.A g1) (Rg.s g1).length (Rg.cap g1) 3 1 (Rg.s g1)] (fun x => True) (fun x => .slice x.1 (allL 1 q).length x.2) (fun x => [Res.row x.1 (allL 1 q).length x.2 3 1 ((allL 1 q).map (fun v : Int => [Value.int .i64 v]))]) (fun x => [Res.blk bl 77 [Value.pointer (some ⟨b0, 0, none⟩), Value.pointer (some ⟨b1, 0, none⟩)], Res.blk b0 108 (Rg.c g0), Res.row (Rg.A g0) (Rg.s g0).length (Rg.cap g0) 3 1 (Rg.s g0), Res.blk b1 108 (Rg.c g1), Res.row (Rg.A g1) (Rg.s g1).length (Rg.cap g1) 3 1 (Rg.s g1)]) := by
  refine g_start Try.func25 rfl 9 rfl (by simp) (fps [Res.blk bl 77 [Value.pointer (some ⟨b0, 0, none⟩), Value.pointer (some ⟨b1, 0, none⟩)], Res.blk b0 108 (Rg.c g0), Res.row (Rg.A g0) (Rg.s g0).length (Rg.cap g0) 3 1 (Rg.s g0), Res.blk b1 108 (Rg.c g1), Res.row (Rg.A g1) (Rg.s g1).length (Rg.cap g1) 3 1 (Rg.s g1)]) [Res.blk bl 77 [Value.pointer (some ⟨b0, 0, none⟩), Value.pointer (some ⟨b1, 0, none⟩)], Res.blk b0 108 (Rg.c g0), Res.row (Rg.A g0) (Rg.s g0).length (Rg.cap g0) 3 1 (Rg.s g0), Res.blk b1 108 (Rg.c g1), Res.row (Rg.A g1) (Rg.s g1).length (Rg.cap g1) 3 1 (Rg.s g1)] hw _ rfl ?_
  refine g_seq ?_
  refine g_region ?_
  refine s_q (q_assign rfl) rfl ?_
  refine g_nil ?_
  refine g_then ?_
  refine g_seq ?_
  refine g_region ?_
  refine s_q (q_move rfl) rfl ?_
  refine s_q (q_move rfl) rfl ?_
  refine g_op (g_keep [Res.blk bl 77 [Value.pointer (some ⟨b0, 0, none⟩), Value.pointer (some ⟨b1, 0, none⟩)]] rfl (fun w1 hw1 ho1 => by exact class_1 bl b0 b1 w1 ho1) rfl ?_)
  refine g_op (g_ownS [Res.blk b1 108 (Rg.c g1), Res.row (Rg.A g1) (Rg.s g1).length (Rg.cap g1) 3 1 (Rg.s g1)] rfl (fun w1 hw1 ho1 => by have h7 := all_i b1 g1 (q).v w1 ho1 h1; exact h7) rfl ?_)
  rintro ⟨A8, cap8⟩ _
  refine ⟨_, _, inferInstance, inferInstance, ?_⟩
  refine s_q (q_assign rfl) rfl ?_
  refine g_nil ?_
  refine g_then ?_
  refine g_ret ?_
  refine g_rowels (A := A8) ((allL 1 q).map (fun v : Int => [Value.int .i64 v])) (by simp [allL]) ?_
  refine g_rown (A := A8) (allL 1 q).length (by simp [allL]) ?_
  exact fin1 rfl (.tmp rfl) (fun w' hw' => ⟨(A8, cap8), (by first | exact trivial | (dsimp only; exact trivial)), by simp [allL], by have h9 := wok_sub (L' := [Res.row ((A8, cap8)).1 (allL 1 q).length ((A8, cap8)).2 3 1 ((allL 1 q).map (fun v : Int => [Value.int .i64 v])), Res.blk bl 77 [Value.pointer (some ⟨b0, 0, none⟩), Value.pointer (some ⟨b1, 0, none⟩)], Res.blk b0 108 (Rg.c g0), Res.row (Rg.A g0) (Rg.s g0).length (Rg.cap g0) 3 1 (Rg.s g0), Res.blk b1 108 (Rg.c g1), Res.row (Rg.A g1) (Rg.s g1).length (Rg.cap g1) 3 1 (Rg.s g1)]) w' hw'; exact h9⟩) _ (.inl rfl)

set_option maxHeartbeats 400000 in
theorem lall_b (bl b0 b1 : Nat) (g0 g1 : Rg) (q : LL) (sz : Nat) (c : Int) (w : World) (hw : WOK (fps [Res.blk bl 77 [Value.pointer (some ⟨b0, 0, none⟩), Value.pointer (some ⟨b1, 0, none⟩)], Res.blk b0 108 (Rg.c g0), Res.row (Rg.A g0) (Rg.s g0).length (Rg.cap g0) 3 1 (Rg.s g0), Res.blk b1 108 (Rg.c g1), Res.row (Rg.A g1) (Rg.s g1).length (Rg.cap g1) 3 1 (Rg.s g1)]) w [Res.blk bl 77 [Value.pointer (some ⟨b0, 0, none⟩), Value.pointer (some ⟨b1, 0, none⟩)], Res.blk b0 108 (Rg.c g0), Res.row (Rg.A g0) (Rg.s g0).length (Rg.cap g0) 3 1 (Rg.s g0), Res.blk b1 108 (Rg.c g1), Res.row (Rg.A g1) (Rg.s g1).length (Rg.cap g1) 3 1 (Rg.s g1)] w) (h0 : g0.Rep 1 ((q).f.map (fun v : Int => [Value.int .i64 v]))) (h1 : g1.Rep 1 ((q).v.map (fun v : Int => [Value.int .i64 v]))) (s0 : Rg.size g0 = sz) (s1 : Rg.size g1 = sz) (hsz : sz ≤ 4096) (hb : c ≠ 0 ∧ c ≠ 1) : Own2 (ι := (Option Addr × Nat)) Try.prog 25 [.pointer (some ⟨bl, 0, none⟩), .int .i64 c] w [Res.blk bl 77 [Value.pointer (some ⟨b0, 0, none⟩), Value.pointer (some ⟨b1, 0, none⟩)], Res.blk b0 108 (Rg.c g0), Res.row (Rg.A g0) (Rg.s g0).length (Rg.cap g0) 3 1 (Rg.s g0), Res.blk b1 108 (Rg.c g1), Res.row (Rg.A g1) (Rg.s g1).length (Rg.cap g1) 3 1 (Rg.s g1)] (fun x => True) (fun x => .slice x.1 (allL c q).length x.2) (fun x => [Res.row x.1 (allL c q).length x.2 3 1 ((allL c q).map (fun v : Int => [Value.int .i64 v]))]) (fun x => [Res.blk bl 77 [Value.pointer (some ⟨b0, 0, none⟩), Value.pointer (some ⟨b1, 0, none⟩)], Res.blk b0 108 (Rg.c g0), Res.row (Rg.A g0) (Rg.s g0).length (Rg.cap g0) 3 1 (Rg.s g0), Res.blk b1 108 (Rg.c g1), Res.row (Rg.A g1) (Rg.s g1).length (Rg.cap g1) 3 1 (Rg.s g1)]) := by
  refine g_start Try.func25 rfl 9 rfl (by simp) (fps [Res.blk bl 77 [Value.pointer (some ⟨b0, 0, none⟩), Value.pointer (some ⟨b1, 0, none⟩)], Res.blk b0 108 (Rg.c g0), Res.row (Rg.A g0) (Rg.s g0).length (Rg.cap g0) 3 1 (Rg.s g0), Res.blk b1 108 (Rg.c g1), Res.row (Rg.A g1) (Rg.s g1).length (Rg.cap g1) 3 1 (Rg.s g1)]) [Res.blk bl 77 [Value.pointer (some ⟨b0, 0, none⟩), Value.pointer (some ⟨b1, 0, none⟩)], Res.blk b0 108 (Rg.c g0), Res.row (Rg.A g0) (Rg.s g0).length (Rg.cap g0) 3 1 (Rg.s g0), Res.blk b1 108 (Rg.c g1), Res.row (Rg.A g1) (Rg.s g1).length (Rg.cap g1) 3 1 (Rg.s g1)] hw _ rfl ?_
  refine g_seq ?_
  refine g_region ?_
  refine s_q (q_assign rfl) rfl ?_
  refine g_nil ?_
  refine g_then ?_
  refine g_seq ?_
  refine g_region ?_
  refine s_q (q_move rfl) rfl ?_
  refine s_q (q_move rfl) rfl ?_
  refine g_op (g_keep [Res.blk bl 77 [Value.pointer (some ⟨b0, 0, none⟩), Value.pointer (some ⟨b1, 0, none⟩)]] rfl (fun w1 hw1 ho1 => by exact class_b bl b0 b1 c w1 ho1 hb) rfl ?_)
  refine g_op (g_pure rfl (fun w1 hw1 => allN_i w1) rfl ?_)
  refine s_q (q_assign rfl) rfl ?_
  refine g_nil ?_
  refine g_then ?_
  refine g_ret ?_
  refine g_nores none 3 1 ?_
  refine g_rowels (A := none) ((allL c q).map (fun v : Int => [Value.int .i64 v])) (by simp [allL, hb.1, hb.2]) ?_
  refine g_rown (A := none) (allL c q).length (by simp [allL, hb.1, hb.2]) ?_
  exact fin1 rfl (.tmp rfl) (fun w' hw' => ⟨((none : Option Addr), (0 : Nat)), (by first | exact trivial | (dsimp only; exact trivial)), by simp [allL, hb.1, hb.2], by have h9 := wok_sub (L' := [Res.row (((none : Option Addr), (0 : Nat))).1 (allL c q).length (((none : Option Addr), (0 : Nat))).2 3 1 ((allL c q).map (fun v : Int => [Value.int .i64 v])), Res.blk bl 77 [Value.pointer (some ⟨b0, 0, none⟩), Value.pointer (some ⟨b1, 0, none⟩)], Res.blk b0 108 (Rg.c g0), Res.row (Rg.A g0) (Rg.s g0).length (Rg.cap g0) 3 1 (Rg.s g0), Res.blk b1 108 (Rg.c g1), Res.row (Rg.A g1) (Rg.s g1).length (Rg.cap g1) 3 1 (Rg.s g1)]) w' hw'; exact h9⟩) _ (.inl rfl)

theorem lall_any (bl b0 b1 : Nat) (g0 g1 : Rg) (q : LL) (sz : Nat) (c : Int) (w : World) (hw : WOK (fps [Res.blk bl 77 [Value.pointer (some ⟨b0, 0, none⟩), Value.pointer (some ⟨b1, 0, none⟩)], Res.blk b0 108 (Rg.c g0), Res.row (Rg.A g0) (Rg.s g0).length (Rg.cap g0) 3 1 (Rg.s g0), Res.blk b1 108 (Rg.c g1), Res.row (Rg.A g1) (Rg.s g1).length (Rg.cap g1) 3 1 (Rg.s g1)]) w [Res.blk bl 77 [Value.pointer (some ⟨b0, 0, none⟩), Value.pointer (some ⟨b1, 0, none⟩)], Res.blk b0 108 (Rg.c g0), Res.row (Rg.A g0) (Rg.s g0).length (Rg.cap g0) 3 1 (Rg.s g0), Res.blk b1 108 (Rg.c g1), Res.row (Rg.A g1) (Rg.s g1).length (Rg.cap g1) 3 1 (Rg.s g1)] w) (h0 : g0.Rep 1 ((q).f.map (fun v : Int => [Value.int .i64 v]))) (h1 : g1.Rep 1 ((q).v.map (fun v : Int => [Value.int .i64 v]))) (s0 : Rg.size g0 = sz) (s1 : Rg.size g1 = sz) (hsz : sz ≤ 4096) : Own2 (ι := (Option Addr × Nat)) Try.prog 25 [.pointer (some ⟨bl, 0, none⟩), .int .i64 c] w [Res.blk bl 77 [Value.pointer (some ⟨b0, 0, none⟩), Value.pointer (some ⟨b1, 0, none⟩)], Res.blk b0 108 (Rg.c g0), Res.row (Rg.A g0) (Rg.s g0).length (Rg.cap g0) 3 1 (Rg.s g0), Res.blk b1 108 (Rg.c g1), Res.row (Rg.A g1) (Rg.s g1).length (Rg.cap g1) 3 1 (Rg.s g1)] (fun x => True) (fun x => .slice x.1 (allL c q).length x.2) (fun x => [Res.row x.1 (allL c q).length x.2 3 1 ((allL c q).map (fun v : Int => [Value.int .i64 v]))]) (fun x => [Res.blk bl 77 [Value.pointer (some ⟨b0, 0, none⟩), Value.pointer (some ⟨b1, 0, none⟩)], Res.blk b0 108 (Rg.c g0), Res.row (Rg.A g0) (Rg.s g0).length (Rg.cap g0) 3 1 (Rg.s g0), Res.blk b1 108 (Rg.c g1), Res.row (Rg.A g1) (Rg.s g1).length (Rg.cap g1) 3 1 (Rg.s g1)]) := by
  by_cases e0 : c = 0
  · subst e0; exact lall_0 bl b0 b1 g0 g1 q sz w hw h0 h1 s0 s1 hsz
  · by_cases e1 : c = 1
    · subst e1; exact lall_1 bl b0 b1 g0 g1 q sz w hw h0 h1 s0 s1 hsz
    · exact lall_b bl b0 b1 g0 g1 q sz c w hw h0 h1 s0 s1 hsz ⟨e0, e1⟩

set_option maxHeartbeats 400000 in
theorem lpush_0 (bl b0 b1 : Nat) (g0 g1 : Rg) (q : LL) (sz : Nat) (i : Int) (w : World) (hw : WOK (fps [Res.blk bl 77 [Value.pointer (some ⟨b0, 0, none⟩), Value.pointer (some ⟨b1, 0, none⟩)], Res.blk b0 108 (Rg.c g0), Res.row (Rg.A g0) (Rg.s g0).length (Rg.cap g0) 3 1 (Rg.s g0), Res.blk b1 108 (Rg.c g1), Res.row (Rg.A g1) (Rg.s g1).length (Rg.cap g1) 3 1 (Rg.s g1)]) w [Res.blk bl 77 [Value.pointer (some ⟨b0, 0, none⟩), Value.pointer (some ⟨b1, 0, none⟩)], Res.blk b0 108 (Rg.c g0), Res.row (Rg.A g0) (Rg.s g0).length (Rg.cap g0) 3 1 (Rg.s g0), Res.blk b1 108 (Rg.c g1), Res.row (Rg.A g1) (Rg.s g1).length (Rg.cap g1) 3 1 (Rg.s g1)] w) (h0 : g0.Rep 1 ((q).f.map (fun v : Int => [Value.int .i64 v]))) (h1 : g1.Rep 1 ((q).v.map (fun v : Int => [Value.int .i64 v]))) (s0 : Rg.size g0 = sz) (s1 : Rg.size g1 = sz) (hsz : sz ≤ 4096) : Own2 (ι := (Rg × Rg)) Try.prog 18 [.pointer (some ⟨bl, 0, none⟩), .int .i64 0, .int .i64 i] w [Res.blk bl 77 [Value.pointer (some ⟨b0, 0, none⟩), Value.pointer (some ⟨b1, 0, none⟩)], Res.blk b0 108 (Rg.c g0), Res.row (Rg.A g0) (Rg.s g0).length (Rg.cap g0) 3 1 (Rg.s g0), Res.blk b1 108 (Rg.c g1), Res.row (Rg.A g1) (Rg.s g1).length (Rg.cap g1) 3 1 (Rg.s g1)] (fun x => x.1.Rep 1 ((pushL sz 0 i q).f.map (fun v : Int => [Value.int .i64 v])) ∧ x.2.Rep 1 ((pushL sz 0 i q).v.map (fun v : Int => [Value.int .i64 v])) ∧ x.1.size = sz ∧ x.2.size = sz) (fun x => .int .i64 (pushE sz 0 q)) (fun x => []) (fun x => [Res.blk bl 77 [Value.pointer (some ⟨b0, 0, none⟩), Value.pointer (some ⟨b1, 0, none⟩)], Res.blk b0 108 (Rg.c x.1), Res.row (Rg.A x.1) (Rg.s x.1).length (Rg.cap x.1) 3 1 (Rg.s x.1), Res.blk b1 108 (Rg.c x.2), Res.row (Rg.A x.2) (Rg.s x.2).length (Rg.cap x.2) 3 1 (Rg.s x.2)]) := by
  refine g_start Try.func18 rfl 22 rfl (by simp) (fps [Res.blk bl 77 [Value.pointer (some ⟨b0, 0, none⟩), Value.pointer (some ⟨b1, 0, none⟩)], Res.blk b0 108 (Rg.c g0), Res.row (Rg.A g0) (Rg.s g0).length (Rg.cap g0) 3 1 (Rg.s g0), Res.blk b1 108 (Rg.c g1), Res.row (Rg.A g1) (Rg.s g1).length (Rg.cap g1) 3 1 (Rg.s g1)]) [Res.blk bl 77 [Value.pointer (some ⟨b0, 0, none⟩), Value.pointer (some ⟨b1, 0, none⟩)], Res.blk b0 108 (Rg.c g0), Res.row (Rg.A g0) (Rg.s g0).length (Rg.cap g0) 3 1 (Rg.s g0), Res.blk b1 108 (Rg.c g1), Res.row (Rg.A g1) (Rg.s g1).length (Rg.cap g1) 3 1 (Rg.s g1)] hw _ rfl ?_
  refine g_seq ?_
  refine g_region ?_
  refine s_q (q_assign rfl) rfl ?_
  refine g_nil ?_
  refine g_then ?_
  refine g_seq ?_
  refine g_seq ?_
  refine g_region ?_
  refine s_q (q_move rfl) rfl ?_
  refine s_q (q_eqp (b := false) rfl rfl rfl) rfl ?_
  refine g_nil ?_
  refine g_then ?_
  refine g_false rfl ?_
  refine g_skip ?_
  refine g_then ?_
  refine g_seq ?_
  refine g_region ?_
  refine s_q (q_move rfl) rfl ?_
  refine s_q (q_move rfl) rfl ?_
  refine g_op (g_keep [Res.blk bl 77 [Value.pointer (some ⟨b0, 0, none⟩), Value.pointer (some ⟨b1, 0, none⟩)]] rfl (fun w1 hw1 ho1 => by exact class_0 bl b0 b1 w1 ho1) rfl ?_)
  refine s_q (q_assign rfl) rfl ?_
  refine g_nil ?_
  refine g_then ?_
  refine g_seq ?_
  refine g_block ?_
  refine g_seq ?_
  refine g_region ?_
  refine s_q (q_move rfl) rfl ?_
  refine s_q (q_eqp (b := false) rfl rfl rfl) rfl ?_
  refine s_q (q_assign rfl) rfl ?_
  refine g_nil ?_
  refine g_then ?_
  refine g_false rfl ?_
  refine g_seq ?_
  refine g_region ?_
  refine s_q (q_move rfl) rfl ?_
  refine s_q (q_move rfl) rfl ?_
  refine g_op (g_lit rfl rfl rfl rfl rfl fun b19 => ?_)
  refine g_blkc (b := b19) ((([i] : List Int).map (fun v : Int => [Value.int .i64 v])).flatten) rfl ?_
  refine g_op (g_ownS [Res.blk b0 108 (Rg.c g0), Res.row (Rg.A g0) (Rg.s g0).length (Rg.cap g0) 3 1 (Rg.s g0)] rfl (fun w1 hw1 ho1 => by have h7 := push_i b0 g0 (q).f [i] (some ⟨b19, 0, none⟩) 1 w1 ho1 h0 (Rd.ofBlk (b := b19) hw1 rfl (by simp) rfl) (by simp); exact h7) rfl ?_)
  rintro g20 ⟨r20, s20⟩
  refine ⟨_, _, inferInstance, inferInstance, ?_⟩
  refine s_q (q_eql rfl rfl) rfl ?_
  refine s_q (q_assign rfl) rfl ?_
  refine g_nil ?_
  refine g_then ?_
  refine g_cond rfl (fun hc1 => ?_) (fun hc1 => ?_)
  · have q0 : ¬ q.f.length < sz := by simp at hc1; omega
    rw [show min ([i] : List Int).length (Rg.size g0 - ((q).f).length) = 0 from by simp; omega] at r20
    refine g_seq ?_
    refine g_region ?_
    refine s_q (q_assign rfl) rfl ?_
    refine g_nil ?_
    refine g_then ?_
    refine g_ret ?_
    refine g_blk_ret (g_then_ret ?_)
    exact fin1 rfl (.tmp rfl) (fun w' hw' => ⟨(g20, g1), (by first | (simp only [pushL, if_pos rfl, if_neg q0]; exact ⟨by simpa using r20, h1, by omega, s1⟩) | (dsimp only; (simp only [pushL, if_pos rfl, if_neg q0]; exact ⟨by simpa using r20, h1, by omega, s1⟩))), by simp [pushE, q0], by have h9 := wok_sub (L' := [Res.blk bl 77 [Value.pointer (some ⟨b0, 0, none⟩), Value.pointer (some ⟨b1, 0, none⟩)], Res.blk b0 108 (Rg.c ((g20, g1)).1), Res.row (Rg.A ((g20, g1)).1) (Rg.s ((g20, g1)).1).length (Rg.cap ((g20, g1)).1) 3 1 (Rg.s ((g20, g1)).1), Res.blk b1 108 (Rg.c ((g20, g1)).2), Res.row (Rg.A ((g20, g1)).2) (Rg.s ((g20, g1)).2).length (Rg.cap ((g20, g1)).2) 3 1 (Rg.s ((g20, g1)).2)]) w' hw'; exact h9⟩) _ (.inl rfl)
  · have q0 : q.f.length < sz := by simp at hc1; omega
    rw [show min ([i] : List Int).length (Rg.size g0 - ((q).f).length) = 1 from by simp; omega] at r20
    refine g_skip ?_
    refine g_blk_n ?_
    refine g_then ?_
    refine g_seq ?_
    refine g_region ?_
    refine s_q (q_assign rfl) rfl ?_
    refine g_nil ?_
    refine g_then ?_
    refine g_ret ?_
    exact fin1 rfl (.tmp rfl) (fun w' hw' => ⟨(g20, g1), (by first | (simp only [pushL, if_pos rfl, if_pos q0]; exact ⟨r20, h1, by omega, s1⟩) | (dsimp only; (simp only [pushL, if_pos rfl, if_pos q0]; exact ⟨r20, h1, by omega, s1⟩))), by simp [pushE, q0], by have h9 := wok_sub (L' := [Res.blk bl 77 [Value.pointer (some ⟨b0, 0, none⟩), Value.pointer (some ⟨b1, 0, none⟩)], Res.blk b0 108 (Rg.c ((g20, g1)).1), Res.row (Rg.A ((g20, g1)).1) (Rg.s ((g20, g1)).1).length (Rg.cap ((g20, g1)).1) 3 1 (Rg.s ((g20, g1)).1), Res.blk b1 108 (Rg.c ((g20, g1)).2), Res.row (Rg.A ((g20, g1)).2) (Rg.s ((g20, g1)).2).length (Rg.cap ((g20, g1)).2) 3 1 (Rg.s ((g20, g1)).2)]) w' hw'; exact h9⟩) _ (.inl rfl)

set_option maxHeartbeats 400000 in
theorem lpush_1 (bl b0 b1 : Nat) (g0 g1 : Rg) (q : LL) (sz : Nat) (i : Int) (w : World) (hw : WOK (fps [Res.blk bl 77 [Value.pointer (some ⟨b0, 0, none⟩), Value.pointer (some ⟨b1, 0, none⟩)], Res.blk b0 108 (Rg.c g0), Res.row (Rg.A g0) (Rg.s g0).length (Rg.cap g0) 3 1 (Rg.s g0), Res.blk b1 108 (Rg.c g1), Res.row (Rg.A g1) (Rg.s g1).length (Rg.cap g1) 3 1 (Rg.s g1)]) w [Res.blk bl 77 [Value.pointer (some ⟨b0, 0, none⟩), Value.pointer (some ⟨b1, 0, none⟩)], Res.blk b0 108 (Rg.c g0), Res.row (Rg.A g0) (Rg.s g0).length (Rg.cap g0) 3 1 (Rg.s g0), Res.blk b1 108 (Rg.c g1), Res.row (Rg.A g1) (Rg.s g1).length (Rg.cap g1) 3 1 (Rg.s g1)] w) (h0 : g0.Rep 1 ((q).f.map (fun v : Int => [Value.int .i64 v]))) (h1 : g1.Rep 1 ((q).v.map (fun v : Int => [Value.int .i64 v]))) (s0 : Rg.size g0 = sz) (s1 : Rg.size g1 = sz) (hsz : sz ≤ 4096) : Own2 (ι := (Rg × Rg)) Try.prog 18 [.pointer (some ⟨bl, 0, none⟩), .int .i64 1, .int .i64 i] w [Res.blk bl 77 [Value.pointer (some ⟨b0, 0, none⟩), Value.pointer (some ⟨b1, 0, none⟩)], Res.blk b0 108 (Rg.c g0), Res.row (Rg.A g0) (Rg.s g0).length (Rg.cap g0) 3 1 (Rg.s g0), Res.blk b1 108 (Rg.c g1), Res.row (Rg.A g1) (Rg.s g1).length (Rg.cap g1) 3 1 (Rg.s g1)] (fun x => x.1.Rep 1 ((pushL sz 1 i q).f.map (fun v : Int => [Value.int .i64 v])) ∧ x.2.Rep 1 ((pushL sz 1 i q).v.map (fun v : Int => [Value.int .i64 v])) ∧ x.1.size = sz ∧ x.2.size = sz) (fun x => .int .i64 (pushE sz 1 q)) (fun x => []) (fun x => [Res.blk bl 77 [Value.pointer (some ⟨b0, 0, none⟩), Value.pointer (some ⟨b1, 0, none⟩)], Res.blk b0 108 (Rg.c x.1), Res.row (Rg.A x.1) (Rg.s x.1).length (Rg.cap x.1) 3 1 (Rg.s x.1), Res.blk b1 108 (Rg.c x.2), Res.row (Rg.A x.2) (Rg.s x.2).length (Rg.cap x.2) 3 1 (Rg.s x.2)]) := by
  refine g_start Try.func18 rfl 22 rfl (by simp) (fps [Res.blk bl 77 [Value.pointer (some ⟨b0, 0, none⟩), Value.pointer (some ⟨b1, 0, none⟩)], Res.blk b0 108 (Rg.c g0), Res.row (Rg.A g0) (Rg.s g0).length (Rg.cap g0) 3 1 (Rg.s g0), Res.blk b1 108 (Rg.c g1), Res.row (Rg.A g1) (Rg.s g1).length (Rg.cap g1) 3 1 (Rg.s g1)]) [Res.blk bl 77 [Value.pointer (some ⟨b0, 0, none⟩), Value.pointer (some ⟨b1, 0, none⟩)], Res.blk b0 108 (Rg.c g0), Res.row (Rg.A g0) (Rg.s g0).length (Rg.cap g0) 3 1 (Rg.s g0), Res.blk b1 108 (Rg.c g1), Res.row (Rg.A g1) (Rg.s g1).length (Rg.cap g1) 3 1 (Rg.s g1)] hw _ rfl ?_
  refine g_seq ?_
  refine g_region ?_
  refine s_q (q_assign rfl) rfl ?_
  refine g_nil ?_
  refine g_then ?_
  refine g_seq ?_
  refine g_seq ?_
  refine g_region ?_
  refine s_q (q_move rfl) rfl ?_
  refine s_q (q_eqp (b := false) rfl rfl rfl) rfl ?_
  refine g_nil ?_
  refine g_then ?_
  refine g_false rfl ?_
  refine g_skip ?_
  refine g_then ?_
  refine g_seq ?_
  refine g_region ?_
  refine s_q (q_move rfl) rfl ?_
  refine s_q (q_move rfl) rfl ?_
  refine g_op (g_keep [Res.blk bl 77 [Value.pointer (some ⟨b0, 0, none⟩), Value.pointer (some ⟨b1, 0, none⟩)]] rfl (fun w1 hw1 ho1 => by exact class_1 bl b0 b1 w1 ho1) rfl ?_)
  refine s_q (q_assign rfl) rfl ?_
  refine g_nil ?_
  refine g_then ?_
  refine g_seq ?_
  refine g_block ?_
  refine g_seq ?_
  refine g_region ?_
  refine s_q (q_move rfl) rfl ?_
  refine s_q (q_eqp (b := false) rfl rfl rfl) rfl ?_
  refine s_q (q_assign rfl) rfl ?_
  refine g_nil ?_
  refine g_then ?_
  refine g_false rfl ?_
  refine g_seq ?_
  refine g_region ?_
  refine s_q (q_move rfl) rfl ?_
  refine s_q (q_move rfl) rfl ?_
  refine g_op (g_lit rfl rfl rfl rfl rfl fun b19 => ?_)
  refine g_blkc (b := b19) ((([i] : List Int).map (fun v : Int => [Value.int .i64 v])).flatten) rfl ?_
  refine g_op (g_ownS [Res.blk b1 108 (Rg.c g1), Res.row (Rg.A g1) (Rg.s g1).length (Rg.cap g1) 3 1 (Rg.s g1)] rfl (fun w1 hw1 ho1 => by have h7 := push_i b1 g1 (q).v [i] (some ⟨b19, 0, none⟩) 1 w1 ho1 h1 (Rd.ofBlk (b := b19) hw1 rfl (by simp) rfl) (by simp); exact h7) rfl ?_)
  rintro g20 ⟨r20, s20⟩
  refine ⟨_, _, inferInstance, inferInstance, ?_⟩
  refine s_q (q_eql rfl rfl) rfl ?_
  refine s_q (q_assign rfl) rfl ?_
  refine g_nil ?_
  refine g_then ?_
  refine g_cond rfl (fun hc1 => ?_) (fun hc1 => ?_)
  · have q0 : ¬ q.v.length < sz := by simp at hc1; omega
    rw [show min ([i] : List Int).length (Rg.size g1 - ((q).v).length) = 0 from by simp; omega] at r20
    refine g_seq ?_
    refine g_region ?_
    refine s_q (q_assign rfl) rfl ?_
    refine g_nil ?_
    refine g_then ?_
    refine g_ret ?_
    refine g_blk_ret (g_then_ret ?_)
    exact fin1 rfl (.tmp rfl) (fun w' hw' => ⟨(g0, g20), (by first | (simp only [pushL, if_neg (show ¬ ((1 : Int) = 0) by decide), if_pos rfl, if_neg q0]; exact ⟨h0, by simpa using r20, s0, by omega⟩) | (dsimp only; (simp only [pushL, if_neg (show ¬ ((1 : Int) = 0) by decide), if_pos rfl, if_neg q0]; exact ⟨h0, by simpa using r20, s0, by omega⟩))), by simp [pushE, q0], by have h9 := wok_sub (L' := [Res.blk bl 77 [Value.pointer (some ⟨b0, 0, none⟩), Value.pointer (some ⟨b1, 0, none⟩)], Res.blk b0 108 (Rg.c ((g0, g20)).1), Res.row (Rg.A ((g0, g20)).1) (Rg.s ((g0, g20)).1).length (Rg.cap ((g0, g20)).1) 3 1 (Rg.s ((g0, g20)).1), Res.blk b1 108 (Rg.c ((g0, g20)).2), Res.row (Rg.A ((g0, g20)).2) (Rg.s ((g0, g20)).2).length (Rg.cap ((g0, g20)).2) 3 1 (Rg.s ((g0, g20)).2)]) w' hw'; exact h9⟩) _ (.inl rfl)
  · have q0 : q.v.length < sz := by simp at hc1; omega
    rw [show min ([i] : List Int).length (Rg.size g1 - ((q).v).length) = 1 from by simp; omega] at r20
    refine g_skip ?_
    refine g_blk_n ?_
    refine g_then ?_
    refine g_seq ?_
    refine g_region ?_
    refine s_q (q_assign rfl) rfl ?_
    refine g_nil ?_
    refine g_then ?_
    refine g_ret ?_
    exact fin1 rfl (.tmp rfl) (fun w' hw' => ⟨(g0, g20), (by first | (simp only [pushL, if_neg (show ¬ ((1 : Int) = 0) by decide), if_pos rfl, if_pos q0]; exact ⟨h0, r20, s0, by omega⟩) | (dsimp only; (simp only [pushL, if_neg (show ¬ ((1 : Int) = 0) by decide), if_pos rfl, if_pos q0]; exact ⟨h0, r20, s0, by omega⟩))), by simp [pushE, q0], by have h9 := wok_sub (L' := [Res.blk bl 77 [Value.pointer (some ⟨b0, 0, none⟩), Value.pointer (some ⟨b1, 0, none⟩)], Res.blk b0 108 (Rg.c ((g0, g20)).1), Res.row (Rg.A ((g0, g20)).1) (Rg.s ((g0, g20)).1).length (Rg.cap ((g0, g20)).1) 3 1 (Rg.s ((g0, g20)).1), Res.blk b1 108 (Rg.c ((g0, g20)).2), Res.row (Rg.A ((g0, g20)).2) (Rg.s ((g0, g20)).2).length (Rg.cap ((g0, g20)).2) 3 1 (Rg.s ((g0, g20)).2)]) w' hw'; exact h9⟩) _ (.inl rfl)

set_option maxHeartbeats 400000 in
theorem lpush_b (bl b0 b1 : Nat) (g0 g1 : Rg) (q : LL) (sz : Nat) (i : Int) (c : Int) (w : World) (hw : WOK (fps [Res.blk bl 77 [Value.pointer (some ⟨b0, 0, none⟩), Value.pointer (some ⟨b1, 0, none⟩)], Res.blk b0 108 (Rg.c g0), Res.row (Rg.A g0) (Rg.s g0).length (Rg.cap g0) 3 1 (Rg.s g0), Res.blk b1 108 (Rg.c g1), Res.row (Rg.A g1) (Rg.s g1).length (Rg.cap g1) 3 1 (Rg.s g1)]) w [Res.blk bl 77 [Value.pointer (some ⟨b0, 0, none⟩), Value.pointer (some ⟨b1, 0, none⟩)], Res.blk b0 108 (Rg.c g0), Res.row (Rg.A g0) (Rg.s g0).length (Rg.cap g0) 3 1 (Rg.s g0), Res.blk b1 108 (Rg.c g1), Res.row (Rg.A g1) (Rg.s g1).length (Rg.cap g1) 3 1 (Rg.s g1)] w) (h0 : g0.Rep 1 ((q).f.map (fun v : Int => [Value.int .i64 v]))) (h1 : g1.Rep 1 ((q).v.map (fun v : Int => [Value.int .i64 v]))) (s0 : Rg.size g0 = sz) (s1 : Rg.size g1 = sz) (hsz : sz ≤ 4096) (hb : c ≠ 0 ∧ c ≠ 1) : Own2 (ι := (Rg × Rg)) Try.prog 18 [.pointer (some ⟨bl, 0, none⟩), .int .i64 c, .int .i64 i] w [Res.blk bl 77 [Value.pointer (some ⟨b0, 0, none⟩), Value.pointer (some ⟨b1, 0, none⟩)], Res.blk b0 108 (Rg.c g0), Res.row (Rg.A g0) (Rg.s g0).length (Rg.cap g0) 3 1 (Rg.s g0), Res.blk b1 108 (Rg.c g1), Res.row (Rg.A g1) (Rg.s g1).length (Rg.cap g1) 3 1 (Rg.s g1)] (fun x => x.1.Rep 1 ((pushL sz c i q).f.map (fun v : Int => [Value.int .i64 v])) ∧ x.2.Rep 1 ((pushL sz c i q).v.map (fun v : Int => [Value.int .i64 v])) ∧ x.1.size = sz ∧ x.2.size = sz) (fun x => .int .i64 (pushE sz c q)) (fun x => []) (fun x => [Res.blk bl 77 [Value.pointer (some ⟨b0, 0, none⟩), Value.pointer (some ⟨b1, 0, none⟩)], Res.blk b0 108 (Rg.c x.1), Res.row (Rg.A x.1) (Rg.s x.1).length (Rg.cap x.1) 3 1 (Rg.s x.1), Res.blk b1 108 (Rg.c x.2), Res.row (Rg.A x.2) (Rg.s x.2).length (Rg.cap x.2) 3 1 (Rg.s x.2)]) := by
  refine g_start Try.func18 rfl 22 rfl (by simp) (fps [Res.blk bl 77 [Value.pointer (some ⟨b0, 0, none⟩), Value.pointer (some ⟨b1, 0, none⟩)], Res.blk b0 108 (Rg.c g0), Res.row (Rg.A g0) (Rg.s g0).length (Rg.cap g0) 3 1 (Rg.s g0), Res.blk b1 108 (Rg.c g1), Res.row (Rg.A g1) (Rg.s g1).length (Rg.cap g1) 3 1 (Rg.s g1)]) [Res.blk bl 77 [Value.pointer (some ⟨b0, 0, none⟩), Value.pointer (some ⟨b1, 0, none⟩)], Res.blk b0 108 (Rg.c g0), Res.row (Rg.A g0) (Rg.s g0).length (Rg.cap g0) 3 1 (Rg.s g0), Res.blk b1 108 (Rg.c g1), Res.row (Rg.A g1) (Rg.s g1).length (Rg.cap g1) 3 1 (Rg.s g1)] hw _ rfl ?_
  refine g_seq ?_
  refine g_region ?_
  refine s_q (q_assign rfl) rfl ?_
  refine g_nil ?_
  refine g_then ?_
  refine g_seq ?_
  refine g_seq ?_
  refine g_region ?_
  refine s_q (q_move rfl) rfl ?_
  refine s_q (q_eqp (b := false) rfl rfl rfl) rfl ?_
  refine g_nil ?_
  refine g_then ?_
  refine g_false rfl ?_
  refine g_skip ?_
  refine g_then ?_
  refine g_seq ?_
  refine g_region ?_
  refine s_q (q_move rfl) rfl ?_
  refine s_q (q_move rfl) rfl ?_
  refine g_op (g_keep [Res.blk bl 77 [Value.pointer (some ⟨b0, 0, none⟩), Value.pointer (some ⟨b1, 0, none⟩)]] rfl (fun w1 hw1 ho1 => by exact class_b bl b0 b1 c w1 ho1 hb) rfl ?_)
  refine s_q (q_assign rfl) rfl ?_
  refine g_nil ?_
  refine g_then ?_
  refine g_seq ?_
  refine g_block ?_
  refine g_seq ?_
  refine g_region ?_
  refine s_q (q_move rfl) rfl ?_
  refine s_q (q_eqp (b := true) rfl rfl rfl) rfl ?_
  refine s_q (q_assign rfl) rfl ?_
  refine g_nil ?_
  refine g_then ?_
  refine g_true rfl ?_
  refine g_seq ?_
  refine g_region ?_
  refine s_q (q_assign rfl) rfl ?_
  refine g_nil ?_
  refine g_then ?_
  refine g_ret ?_
  refine g_blk_ret (g_then_ret ?_)
  exact fin1 rfl (.tmp rfl) (fun w' hw' => ⟨(g0, g1), (by first | exact ⟨by simpa [pushL, hb.1, hb.2] using h0, by simpa [pushL, hb.1, hb.2] using h1, s0, s1⟩ | (dsimp only; exact ⟨by simpa [pushL, hb.1, hb.2] using h0, by simpa [pushL, hb.1, hb.2] using h1, s0, s1⟩)), by simp [pushE, hb.1, hb.2], by have h9 := wok_sub (L' := [Res.blk bl 77 [Value.pointer (some ⟨b0, 0, none⟩), Value.pointer (some ⟨b1, 0, none⟩)], Res.blk b0 108 (Rg.c ((g0, g1)).1), Res.row (Rg.A ((g0, g1)).1) (Rg.s ((g0, g1)).1).length (Rg.cap ((g0, g1)).1) 3 1 (Rg.s ((g0, g1)).1), Res.blk b1 108 (Rg.c ((g0, g1)).2), Res.row (Rg.A ((g0, g1)).2) (Rg.s ((g0, g1)).2).length (Rg.cap ((g0, g1)).2) 3 1 (Rg.s ((g0, g1)).2)]) w' hw'; exact h9⟩) _ (.inl rfl)

theorem lpush_any (bl b0 b1 : Nat) (g0 g1 : Rg) (q : LL) (sz : Nat) (c : Int) (i : Int) (w : World) (hw : WOK (fps [Res.blk bl 77 [Value.pointer (some ⟨b0, 0, none⟩), Value.pointer (some ⟨b1, 0, none⟩)], Res.blk b0 108 (Rg.c g0), Res.row (Rg.A g0) (Rg.s g0).length (Rg.cap g0) 3 1 (Rg.s g0), Res.blk b1 108 (Rg.c g1), Res.row (Rg.A g1) (Rg.s g1).length (Rg.cap g1) 3 1 (Rg.s g1)]) w [Res.blk bl 77 [Value.pointer (some ⟨b0, 0, none⟩), Value.pointer (some ⟨b1, 0, none⟩)], Res.blk b0 108 (Rg.c g0), Res.row (Rg.A g0) (Rg.s g0).length (Rg.cap g0) 3 1 (Rg.s g0), Res.blk b1 108 (Rg.c g1), Res.row (Rg.A g1) (Rg.s g1).length (Rg.cap g1) 3 1 (Rg.s g1)] w) (h0 : g0.Rep 1 ((q).f.map (fun v : Int => [Value.int .i64 v]))) (h1 : g1.Rep 1 ((q).v.map (fun v : Int => [Value.int .i64 v]))) (s0 : Rg.size g0 = sz) (s1 : Rg.size g1 = sz) (hsz : sz ≤ 4096) : Own2 (ι := (Rg × Rg)) Try.prog 18 [.pointer (some ⟨bl, 0, none⟩), .int .i64 c, .int .i64 i] w [Res.blk bl 77 [Value.pointer (some ⟨b0, 0, none⟩), Value.pointer (some ⟨b1, 0, none⟩)], Res.blk b0 108 (Rg.c g0), Res.row (Rg.A g0) (Rg.s g0).length (Rg.cap g0) 3 1 (Rg.s g0), Res.blk b1 108 (Rg.c g1), Res.row (Rg.A g1) (Rg.s g1).length (Rg.cap g1) 3 1 (Rg.s g1)] (fun x => x.1.Rep 1 ((pushL sz c i q).f.map (fun v : Int => [Value.int .i64 v])) ∧ x.2.Rep 1 ((pushL sz c i q).v.map (fun v : Int => [Value.int .i64 v])) ∧ x.1.size = sz ∧ x.2.size = sz) (fun x => .int .i64 (pushE sz c q)) (fun x => []) (fun x => [Res.blk bl 77 [Value.pointer (some ⟨b0, 0, none⟩), Value.pointer (some ⟨b1, 0, none⟩)], Res.blk b0 108 (Rg.c x.1), Res.row (Rg.A x.1) (Rg.s x.1).length (Rg.cap x.1) 3 1 (Rg.s x.1), Res.blk b1 108 (Rg.c x.2), Res.row (Rg.A x.2) (Rg.s x.2).length (Rg.cap x.2) 3 1 (Rg.s x.2)]) := by
  by_cases e0 : c = 0
  · subst e0; exact lpush_0 bl b0 b1 g0 g1 q sz i w hw h0 h1 s0 s1 hsz
  · by_cases e1 : c = 1
    · subst e1; exact lpush_1 bl b0 b1 g0 g1 q sz i w hw h0 h1 s0 s1 hsz
    · exact lpush_b bl b0 b1 g0 g1 q sz i c w hw h0 h1 s0 s1 hsz ⟨e0, e1⟩

set_option maxHeartbeats 400000 in
theorem first_any (bl b0 b1 : Nat) (g0 g1 : Rg) (q : LL) (sz : Nat) (w : World) (hw : WOK (fps [Res.blk bl 77 [Value.pointer (some ⟨b0, 0, none⟩), Value.pointer (some ⟨b1, 0, none⟩)], Res.blk b0 108 (Rg.c g0), Res.row (Rg.A g0) (Rg.s g0).length (Rg.cap g0) 3 1 (Rg.s g0), Res.blk b1 108 (Rg.c g1), Res.row (Rg.A g1) (Rg.s g1).length (Rg.cap g1) 3 1 (Rg.s g1)]) w [Res.blk bl 77 [Value.pointer (some ⟨b0, 0, none⟩), Value.pointer (some ⟨b1, 0, none⟩)], Res.blk b0 108 (Rg.c g0), Res.row (Rg.A g0) (Rg.s g0).length (Rg.cap g0) 3 1 (Rg.s g0), Res.blk b1 108 (Rg.c g1), Res.row (Rg.A g1) (Rg.s g1).length (Rg.cap g1) 3 1 (Rg.s g1)] w) (hh0 : g0.Rep 1 ((q).f.map (fun v : Int => [Value.int .i64 v]))) (hh1 : g1.Rep 1 ((q).v.map (fun v : Int => [Value.int .i64 v]))) (s0 : Rg.size g0 = sz) (s1 : Rg.size g1 = sz) (hsz : sz ≤ 4096) : Keep Try.prog 44 [.pointer (some ⟨bl, 0, none⟩)] w [Res.blk bl 77 [Value.pointer (some ⟨b0, 0, none⟩), Value.pointer (some ⟨b1, 0, none⟩)], Res.blk b0 108 (Rg.c g0), Res.row (Rg.A g0) (Rg.s g0).length (Rg.cap g0) 3 1 (Rg.s g0), Res.blk b1 108 (Rg.c g1), Res.row (Rg.A g1) (Rg.s g1).length (Rg.cap g1) 3 1 (Rg.s g1)] (.int .i64 (firstV q)) := by
  refine g_start Try.func44 rfl 16 rfl (by simp) (fps [Res.blk bl 77 [Value.pointer (some ⟨b0, 0, none⟩), Value.pointer (some ⟨b1, 0, none⟩)], Res.blk b0 108 (Rg.c g0), Res.row (Rg.A g0) (Rg.s g0).length (Rg.cap g0) 3 1 (Rg.s g0), Res.blk b1 108 (Rg.c g1), Res.row (Rg.A g1) (Rg.s g1).length (Rg.cap g1) 3 1 (Rg.s g1)]) [Res.blk bl 77 [Value.pointer (some ⟨b0, 0, none⟩), Value.pointer (some ⟨b1, 0, none⟩)], Res.blk b0 108 (Rg.c g0), Res.row (Rg.A g0) (Rg.s g0).length (Rg.cap g0) 3 1 (Rg.s g0), Res.blk b1 108 (Rg.c g1), Res.row (Rg.A g1) (Rg.s g1).length (Rg.cap g1) 3 1 (Rg.s g1)] hw _ rfl ?_
  refine g_seq ?_
  refine g_region ?_
  refine s_q (q_assign rfl) rfl ?_
  refine g_nil ?_
  refine g_then ?_
  refine g_scope ?_
  refine g_seq ?_
  refine g_region ?_
  refine s_q (q_assign rfl) rfl ?_
  refine g_nil ?_
  refine g_then ?_
  refine g_seq ?_
  refine g_label ?_
  refine g_then ?_
  refine g_seq ?_
  refine g_seq ?_
  refine g_region ?_
  refine s_q (q_move rfl) rfl ?_
  refine g_nil ?_
  refine g_then ?_
  refine g_block ?_
  refine g_loopk [0, 2, 3] (fun (x : Nat) => [(3, .int .i64 (-1)), (5, .int .i64 ((x : Nat) : Int))]) (fun (x : Nat) => [Res.blk bl 77 [Value.pointer (some ⟨b0, 0, none⟩), Value.pointer (some ⟨b1, 0, none⟩)], Res.blk b0 108 (Rg.c g0), Res.row (Rg.A g0) (Rg.s g0).length (Rg.cap g0) 3 1 (Rg.s g0), Res.blk b1 108 (Rg.c g1), Res.row (Rg.A g1) (Rg.s g1).length (Rg.cap g1) 3 1 (Rg.s g1)]) (fun (x : Nat) => x ≤ 2 ∧ ((0 < x → q.f.length = 0) ∧ (1 < x → q.v.length = 0))) (fun (x : Nat) => 2 - x) 0 (by (try dsimp only); exact ⟨Nat.zero_le _, ⟨by omega, by omega⟩⟩) rfl (by repeat (first | exact trivial | refine ⟨rfl, ?_⟩)) wok_sub ?_
  rintro k ⟨le_k, hp⟩
  replace le_k : k ≤ 2 := le_k
  replace hp : (0 < k → q.f.length = 0) ∧ (1 < k → q.v.length = 0) := hp
  refine g_seq ?_
  refine g_region ?_
  refine s_q (q_lss rfl rfl) rfl ?_
  refine g_nil ?_
  refine g_then ?_
  refine g_seq ?_
  refine g_cond rfl (fun h1 => ?_) (fun h1 => ?_)
  · have lt_k : k < 2 := by have h9 := of_decide_eq_true h1; omega
    refine g_skip ?_
    refine g_then ?_
    refine g_seq ?_
    refine g_block ?_
    refine g_seq ?_
    refine g_region ?_
    refine s_q (q_move rfl) rfl ?_
    refine s_q (q_assign rfl) rfl ?_
    refine g_nil ?_
    refine g_then ?_
    refine g_seq ?_
    rcases (show k = 0 ∨ k = 1 by omega) with hk0 | hk0
    · refine g_val 4 (v' := .int .i64 0) rfl (by rw [hk0]; rfl) ?_
      refine g_region ?_
      refine s_q (q_move rfl) rfl ?_
      refine s_q (q_move rfl) rfl ?_
      refine g_op (g_keep [Res.blk bl 77 [Value.pointer (some ⟨b0, 0, none⟩), Value.pointer (some ⟨b1, 0, none⟩)]] rfl (fun w1 hw1 ho1 => by exact class_0 bl b0 b1 w1 ho1) rfl ?_)
      refine g_op (g_keep [Res.blk b0 108 (Rg.c g0), Res.row (Rg.A g0) (Rg.s g0).length (Rg.cap g0) 3 1 (Rg.s g0)] rfl (fun w1 hw1 ho1 => by exact len_i b0 g0 (q).f w1 ho1 hh0) rfl ?_)
      refine s_q (q_gtr rfl rfl) rfl ?_
      refine g_nil ?_
      refine g_then ?_
      refine g_cond rfl (fun h2 => ?_) (fun h2 => ?_)
      · refine g_seq ?_
        refine g_region ?_
        refine s_q (q_move rfl) rfl ?_
        refine s_q (q_assign rfl) rfl ?_
        refine g_nil ?_
        refine g_then ?_
        refine g_exit ?_
        refine g_blk_miss rfl (g_then_x (g_then_x (g_blk_hit ?_)))
        refine g_then ?_
        refine g_seq ?_
        refine g_region ?_
        refine s_q (q_move rfl) rfl ?_
        refine s_q (q_assign rfl) rfl ?_
        refine g_nil ?_
        refine g_then ?_
        refine g_ret ?_
        refine g_ng_ret ?_
        exact fin1 rfl (.tmp rfl) (fun w' hw' => ⟨(), trivial, by unfold firstV; rw [if_pos (by simp at h2; omega)], by have h9 := wok_sub (L' := [Res.blk bl 77 [Value.pointer (some ⟨b0, 0, none⟩), Value.pointer (some ⟨b1, 0, none⟩)], Res.blk b0 108 (Rg.c g0), Res.row (Rg.A g0) (Rg.s g0).length (Rg.cap g0) 3 1 (Rg.s g0), Res.blk b1 108 (Rg.c g1), Res.row (Rg.A g1) (Rg.s g1).length (Rg.cap g1) 3 1 (Rg.s g1)]) w' hw'; exact h9⟩) _ (.inl rfl)
      · have hc := h2
        refine g_skip ?_
        refine g_blk_n ?_
        refine g_then ?_
        refine g_region ?_
        refine s_q (q_inc rfl rfl (by omega)) rfl ?_
        refine s_q (q_move rfl) rfl ?_
        refine g_nil ?_
        exact g_again (k + 1) (by (try dsimp only); exact ⟨(by first | exact lt_k | omega), ⟨fun _ => by have h9 := of_decide_eq_false hc; omega, by omega⟩⟩) (by first | omega | (simp only; omega)) (by repeat (first | exact trivial | refine ⟨rfl, ?_⟩)) wok_sub
    · refine g_val 4 (v' := .int .i64 1) rfl (by rw [hk0]; rfl) ?_
      refine g_region ?_
      refine s_q (q_move rfl) rfl ?_
      refine s_q (q_move rfl) rfl ?_
      refine g_op (g_keep [Res.blk bl 77 [Value.pointer (some ⟨b0, 0, none⟩), Value.pointer (some ⟨b1, 0, none⟩)]] rfl (fun w1 hw1 ho1 => by exact class_1 bl b0 b1 w1 ho1) rfl ?_)
      refine g_op (g_keep [Res.blk b1 108 (Rg.c g1), Res.row (Rg.A g1) (Rg.s g1).length (Rg.cap g1) 3 1 (Rg.s g1)] rfl (fun w1 hw1 ho1 => by exact len_i b1 g1 (q).v w1 ho1 hh1) rfl ?_)
      refine s_q (q_gtr rfl rfl) rfl ?_
      refine g_nil ?_
      refine g_then ?_
      refine g_cond rfl (fun h3 => ?_) (fun h3 => ?_)
      · refine g_seq ?_
        refine g_region ?_
        refine s_q (q_move rfl) rfl ?_
        refine s_q (q_assign rfl) rfl ?_
        refine g_nil ?_
        refine g_then ?_
        refine g_exit ?_
        refine g_blk_miss rfl (g_then_x (g_then_x (g_blk_hit ?_)))
        refine g_then ?_
        refine g_seq ?_
        refine g_region ?_
        refine s_q (q_move rfl) rfl ?_
        refine s_q (q_assign rfl) rfl ?_
        refine g_nil ?_
        refine g_then ?_
        refine g_ret ?_
        refine g_ng_ret ?_
        exact fin1 rfl (.tmp rfl) (fun w' hw' => ⟨(), trivial, by unfold firstV; rw [if_neg (by have := hp.1 (by omega); omega), if_pos (by simp at h3; omega)], by have h9 := wok_sub (L' := [Res.blk bl 77 [Value.pointer (some ⟨b0, 0, none⟩), Value.pointer (some ⟨b1, 0, none⟩)], Res.blk b0 108 (Rg.c g0), Res.row (Rg.A g0) (Rg.s g0).length (Rg.cap g0) 3 1 (Rg.s g0), Res.blk b1 108 (Rg.c g1), Res.row (Rg.A g1) (Rg.s g1).length (Rg.cap g1) 3 1 (Rg.s g1)]) w' hw'; exact h9⟩) _ (.inl rfl)
      · have hc := h3
        refine g_skip ?_
        refine g_blk_n ?_
        refine g_then ?_
        refine g_region ?_
        refine s_q (q_inc rfl rfl (by omega)) rfl ?_
        refine s_q (q_move rfl) rfl ?_
        refine g_nil ?_
        exact g_again (k + 1) (by (try dsimp only); exact ⟨(by first | exact lt_k | omega), ⟨fun _ => hp.1 (by omega), fun _ => by have h9 := of_decide_eq_false hc; omega⟩⟩) (by first | omega | (simp only; omega)) (by repeat (first | exact trivial | refine ⟨rfl, ?_⟩)) wok_sub
  · have eq_k : k = 2 := by have h9 := of_decide_eq_false h1; omega
    refine g_exit ?_
    refine g_then_x (g_then_x (g_blk_hit ?_))
    refine g_then ?_
    refine g_seq ?_
    refine g_region ?_
    refine s_q (q_move rfl) rfl ?_
    refine s_q (q_assign rfl) rfl ?_
    refine g_nil ?_
    refine g_then ?_
    refine g_ret ?_
    refine g_ng_ret ?_
    exact fin1 rfl (.tmp rfl) (fun w' hw' => ⟨(), trivial, by unfold firstV; rw [if_neg (by have := hp.1 (by omega); omega), if_neg (by have := hp.2 (by omega); omega)], by have h9 := wok_sub (L' := [Res.blk bl 77 [Value.pointer (some ⟨b0, 0, none⟩), Value.pointer (some ⟨b1, 0, none⟩)], Res.blk b0 108 (Rg.c g0), Res.row (Rg.A g0) (Rg.s g0).length (Rg.cap g0) 3 1 (Rg.s g0), Res.blk b1 108 (Rg.c g1), Res.row (Rg.A g1) (Rg.s g1).length (Rg.cap g1) 3 1 (Rg.s g1)]) w' hw'; exact h9⟩) _ (.inl rfl)

set_option maxHeartbeats 400000 in
theorem head_a (bl b0 b1 : Nat) (g0 g1 : Rg) (sz : Nat) (y : Int) (f v : List Int) (w : World) (hw : WOK (fps [Res.blk bl 77 [Value.pointer (some ⟨b0, 0, none⟩), Value.pointer (some ⟨b1, 0, none⟩)], Res.blk b0 108 (Rg.c g0), Res.row (Rg.A g0) (Rg.s g0).length (Rg.cap g0) 3 1 (Rg.s g0), Res.blk b1 108 (Rg.c g1), Res.row (Rg.A g1) (Rg.s g1).length (Rg.cap g1) 3 1 (Rg.s g1)]) w [Res.blk bl 77 [Value.pointer (some ⟨b0, 0, none⟩), Value.pointer (some ⟨b1, 0, none⟩)], Res.blk b0 108 (Rg.c g0), Res.row (Rg.A g0) (Rg.s g0).length (Rg.cap g0) 3 1 (Rg.s g0), Res.blk b1 108 (Rg.c g1), Res.row (Rg.A g1) (Rg.s g1).length (Rg.cap g1) 3 1 (Rg.s g1)] w) (h0 : g0.Rep 1 (((LL.mk (y :: f) v)).f.map (fun v : Int => [Value.int .i64 v]))) (h1 : g1.Rep 1 (((LL.mk (y :: f) v)).v.map (fun v : Int => [Value.int .i64 v]))) (s0 : Rg.size g0 = sz) (s1 : Rg.size g1 = sz) (hsz : sz ≤ 4096) : Keep Try.prog 21 [.pointer (some ⟨bl, 0, none⟩)] w [Res.blk bl 77 [Value.pointer (some ⟨b0, 0, none⟩), Value.pointer (some ⟨b1, 0, none⟩)], Res.blk b0 108 (Rg.c g0), Res.row (Rg.A g0) (Rg.s g0).length (Rg.cap g0) 3 1 (Rg.s g0), Res.blk b1 108 (Rg.c g1), Res.row (Rg.A g1) (Rg.s g1).length (Rg.cap g1) 3 1 (Rg.s g1)] (.tuple [.int .i64 (headI (LL.mk (y :: f) v)), .int .i64 (headC (LL.mk (y :: f) v)), .bool (headB (LL.mk (y :: f) v))].toArray) := by
  refine g_start Try.func21 rfl 21 rfl (by simp) (fps [Res.blk bl 77 [Value.pointer (some ⟨b0, 0, none⟩), Value.pointer (some ⟨b1, 0, none⟩)], Res.blk b0 108 (Rg.c g0), Res.row (Rg.A g0) (Rg.s g0).length (Rg.cap g0) 3 1 (Rg.s g0), Res.blk b1 108 (Rg.c g1), Res.row (Rg.A g1) (Rg.s g1).length (Rg.cap g1) 3 1 (Rg.s g1)]) [Res.blk bl 77 [Value.pointer (some ⟨b0, 0, none⟩), Value.pointer (some ⟨b1, 0, none⟩)], Res.blk b0 108 (Rg.c g0), Res.row (Rg.A g0) (Rg.s g0).length (Rg.cap g0) 3 1 (Rg.s g0), Res.blk b1 108 (Rg.c g1), Res.row (Rg.A g1) (Rg.s g1).length (Rg.cap g1) 3 1 (Rg.s g1)] hw _ rfl ?_
  refine g_seq ?_
  refine g_region ?_
  refine s_q (q_assign rfl) rfl ?_
  refine s_q (q_assign rfl) rfl ?_
  refine s_q (q_assign rfl) rfl ?_
  refine g_nil ?_
  refine g_then ?_
  refine g_seq ?_
  refine g_region ?_
  refine s_q (q_move rfl) rfl ?_
  refine g_op (g_keep [Res.blk bl 77 [Value.pointer (some ⟨b0, 0, none⟩), Value.pointer (some ⟨b1, 0, none⟩)], Res.blk b0 108 (Rg.c g0), Res.row (Rg.A g0) (Rg.s g0).length (Rg.cap g0) 3 1 (Rg.s g0), Res.blk b1 108 (Rg.c g1), Res.row (Rg.A g1) (Rg.s g1).length (Rg.cap g1) 3 1 (Rg.s g1)] rfl (fun w1 hw1 ho1 => by exact first_any bl b0 b1 g0 g1 (LL.mk (y :: f) v) sz w1 ho1 h0 h1 s0 s1 (by omega)) rfl ?_)
  refine s_q (q_assign rfl) rfl ?_
  refine g_val 5 (v' := .int .i64 0) rfl (by simp [firstV]) ?_
  refine g_nil ?_
  refine g_then ?_
  refine g_seq ?_
  refine g_region ?_
  refine s_q (q_move rfl) rfl ?_
  refine s_q (q_move rfl) rfl ?_
  refine g_op (g_keep [Res.blk bl 77 [Value.pointer (some ⟨b0, 0, none⟩), Value.pointer (some ⟨b1, 0, none⟩)]] rfl (fun w1 hw1 ho1 => by exact class_0 bl b0 b1 w1 ho1) rfl ?_)
  refine g_op (g_keep [Res.blk b0 108 (Rg.c g0), Res.row (Rg.A g0) (Rg.s g0).length (Rg.cap g0) 3 1 (Rg.s g0)] rfl (fun w1 hw1 ho1 => by exact peek_i b0 g0 ((LL.mk (y :: f) v)).f _ w1 ho1 h0) rfl ?_)
  refine s_q (q_move rfl) rfl ?_
  refine s_q (q_extract rfl rfl) rfl ?_
  refine s_q (q_extract rfl rfl) rfl ?_
  refine s_q (q_assign rfl) rfl ?_
  refine s_q (q_assign rfl) rfl ?_
  refine g_nil ?_
  refine g_then ?_
  refine g_seq ?_
  refine g_region ?_
  refine s_q (q_move rfl) rfl ?_
  refine s_q (q_move rfl) rfl ?_
  refine s_q (q_maxn (a := 0) (b := 0) rfl rfl) rfl ?_
  refine s_q (q_move rfl) rfl ?_
  refine s_q (q_assign rfl) rfl ?_
  refine s_q (q_assign rfl) rfl ?_
  refine s_q (q_assign rfl) rfl ?_
  refine g_nil ?_
  refine g_then ?_
  refine g_ret ?_
  exact fin3 rfl (.tmp rfl) (.tmp rfl) (.tmp rfl) (fun w' hw' => ⟨(), trivial, by first | rfl | simp [headI, headC, headB, pk] | (simp [headI, headC, headB, pk]; omega), by have h9 := wok_sub (L' := [Res.blk bl 77 [Value.pointer (some ⟨b0, 0, none⟩), Value.pointer (some ⟨b1, 0, none⟩)], Res.blk b0 108 (Rg.c g0), Res.row (Rg.A g0) (Rg.s g0).length (Rg.cap g0) 3 1 (Rg.s g0), Res.blk b1 108 (Rg.c g1), Res.row (Rg.A g1) (Rg.s g1).length (Rg.cap g1) 3 1 (Rg.s g1)]) w' hw'; exact h9⟩) _ (.inl rfl)

set_option maxHeartbeats 400000 in
theorem head_b (bl b0 b1 : Nat) (g0 g1 : Rg) (sz : Nat) (y : Int) (v : List Int) (w : World) (hw : WOK (fps [Res.blk bl 77 [Value.pointer (some ⟨b0, 0, none⟩), Value.pointer (some ⟨b1, 0, none⟩)], Res.blk b0 108 (Rg.c g0), Res.row (Rg.A g0) (Rg.s g0).length (Rg.cap g0) 3 1 (Rg.s g0), Res.blk b1 108 (Rg.c g1), Res.row (Rg.A g1) (Rg.s g1).length (Rg.cap g1) 3 1 (Rg.s g1)]) w [Res.blk bl 77 [Value.pointer (some ⟨b0, 0, none⟩), Value.pointer (some ⟨b1, 0, none⟩)], Res.blk b0 108 (Rg.c g0), Res.row (Rg.A g0) (Rg.s g0).length (Rg.cap g0) 3 1 (Rg.s g0), Res.blk b1 108 (Rg.c g1), Res.row (Rg.A g1) (Rg.s g1).length (Rg.cap g1) 3 1 (Rg.s g1)] w) (h0 : g0.Rep 1 (((LL.mk [] (y :: v))).f.map (fun v : Int => [Value.int .i64 v]))) (h1 : g1.Rep 1 (((LL.mk [] (y :: v))).v.map (fun v : Int => [Value.int .i64 v]))) (s0 : Rg.size g0 = sz) (s1 : Rg.size g1 = sz) (hsz : sz ≤ 4096) : Keep Try.prog 21 [.pointer (some ⟨bl, 0, none⟩)] w [Res.blk bl 77 [Value.pointer (some ⟨b0, 0, none⟩), Value.pointer (some ⟨b1, 0, none⟩)], Res.blk b0 108 (Rg.c g0), Res.row (Rg.A g0) (Rg.s g0).length (Rg.cap g0) 3 1 (Rg.s g0), Res.blk b1 108 (Rg.c g1), Res.row (Rg.A g1) (Rg.s g1).length (Rg.cap g1) 3 1 (Rg.s g1)] (.tuple [.int .i64 (headI (LL.mk [] (y :: v))), .int .i64 (headC (LL.mk [] (y :: v))), .bool (headB (LL.mk [] (y :: v)))].toArray) := by
  refine g_start Try.func21 rfl 21 rfl (by simp) (fps [Res.blk bl 77 [Value.pointer (some ⟨b0, 0, none⟩), Value.pointer (some ⟨b1, 0, none⟩)], Res.blk b0 108 (Rg.c g0), Res.row (Rg.A g0) (Rg.s g0).length (Rg.cap g0) 3 1 (Rg.s g0), Res.blk b1 108 (Rg.c g1), Res.row (Rg.A g1) (Rg.s g1).length (Rg.cap g1) 3 1 (Rg.s g1)]) [Res.blk bl 77 [Value.pointer (some ⟨b0, 0, none⟩), Value.pointer (some ⟨b1, 0, none⟩)], Res.blk b0 108 (Rg.c g0), Res.row (Rg.A g0) (Rg.s g0).length (Rg.cap g0) 3 1 (Rg.s g0), Res.blk b1 108 (Rg.c g1), Res.row (Rg.A g1) (Rg.s g1).length (Rg.cap g1) 3 1 (Rg.s g1)] hw _ rfl ?_
  refine g_seq ?_
  refine g_region ?_
  refine s_q (q_assign rfl) rfl ?_
  refine s_q (q_assign rfl) rfl ?_
  refine s_q (q_assign rfl) rfl ?_
  refine g_nil ?_
  refine g_then ?_
  refine g_seq ?_
  refine g_region ?_
  refine s_q (q_move rfl) rfl ?_
  refine g_op (g_keep [Res.blk bl 77 [Value.pointer (some ⟨b0, 0, none⟩), Value.pointer (some ⟨b1, 0, none⟩)], Res.blk b0 108 (Rg.c g0), Res.row (Rg.A g0) (Rg.s g0).length (Rg.cap g0) 3 1 (Rg.s g0), Res.blk b1 108 (Rg.c g1), Res.row (Rg.A g1) (Rg.s g1).length (Rg.cap g1) 3 1 (Rg.s g1)] rfl (fun w1 hw1 ho1 => by exact first_any bl b0 b1 g0 g1 (LL.mk [] (y :: v)) sz w1 ho1 h0 h1 s0 s1 (by omega)) rfl ?_)
  refine s_q (q_assign rfl) rfl ?_
  refine g_val 5 (v' := .int .i64 1) rfl (by simp [firstV]) ?_
  refine g_nil ?_
  refine g_then ?_
  refine g_seq ?_
  refine g_region ?_
  refine s_q (q_move rfl) rfl ?_
  refine s_q (q_move rfl) rfl ?_
  refine g_op (g_keep [Res.blk bl 77 [Value.pointer (some ⟨b0, 0, none⟩), Value.pointer (some ⟨b1, 0, none⟩)]] rfl (fun w1 hw1 ho1 => by exact class_1 bl b0 b1 w1 ho1) rfl ?_)
  refine g_op (g_keep [Res.blk b1 108 (Rg.c g1), Res.row (Rg.A g1) (Rg.s g1).length (Rg.cap g1) 3 1 (Rg.s g1)] rfl (fun w1 hw1 ho1 => by exact peek_i b1 g1 ((LL.mk [] (y :: v))).v _ w1 ho1 h1) rfl ?_)
  refine s_q (q_move rfl) rfl ?_
  refine s_q (q_extract rfl rfl) rfl ?_
  refine s_q (q_extract rfl rfl) rfl ?_
  refine s_q (q_assign rfl) rfl ?_
  refine s_q (q_assign rfl) rfl ?_
  refine g_nil ?_
  refine g_then ?_
  refine g_seq ?_
  refine g_region ?_
  refine s_q (q_move rfl) rfl ?_
  refine s_q (q_move rfl) rfl ?_
  refine s_q (q_maxn (a := 1) (b := 0) rfl rfl) rfl ?_
  refine s_q (q_move rfl) rfl ?_
  refine s_q (q_assign rfl) rfl ?_
  refine s_q (q_assign rfl) rfl ?_
  refine s_q (q_assign rfl) rfl ?_
  refine g_nil ?_
  refine g_then ?_
  refine g_ret ?_
  exact fin3 rfl (.tmp rfl) (.tmp rfl) (.tmp rfl) (fun w' hw' => ⟨(), trivial, by first | rfl | simp [headI, headC, headB, pk] | (simp [headI, headC, headB, pk]; omega), by have h9 := wok_sub (L' := [Res.blk bl 77 [Value.pointer (some ⟨b0, 0, none⟩), Value.pointer (some ⟨b1, 0, none⟩)], Res.blk b0 108 (Rg.c g0), Res.row (Rg.A g0) (Rg.s g0).length (Rg.cap g0) 3 1 (Rg.s g0), Res.blk b1 108 (Rg.c g1), Res.row (Rg.A g1) (Rg.s g1).length (Rg.cap g1) 3 1 (Rg.s g1)]) w' hw'; exact h9⟩) _ (.inl rfl)

set_option maxHeartbeats 400000 in
theorem head_c (bl b0 b1 : Nat) (g0 g1 : Rg) (sz : Nat)  (w : World) (hw : WOK (fps [Res.blk bl 77 [Value.pointer (some ⟨b0, 0, none⟩), Value.pointer (some ⟨b1, 0, none⟩)], Res.blk b0 108 (Rg.c g0), Res.row (Rg.A g0) (Rg.s g0).length (Rg.cap g0) 3 1 (Rg.s g0), Res.blk b1 108 (Rg.c g1), Res.row (Rg.A g1) (Rg.s g1).length (Rg.cap g1) 3 1 (Rg.s g1)]) w [Res.blk bl 77 [Value.pointer (some ⟨b0, 0, none⟩), Value.pointer (some ⟨b1, 0, none⟩)], Res.blk b0 108 (Rg.c g0), Res.row (Rg.A g0) (Rg.s g0).length (Rg.cap g0) 3 1 (Rg.s g0), Res.blk b1 108 (Rg.c g1), Res.row (Rg.A g1) (Rg.s g1).length (Rg.cap g1) 3 1 (Rg.s g1)] w) (h0 : g0.Rep 1 (((LL.mk [] [])).f.map (fun v : Int => [Value.int .i64 v]))) (h1 : g1.Rep 1 (((LL.mk [] [])).v.map (fun v : Int => [Value.int .i64 v]))) (s0 : Rg.size g0 = sz) (s1 : Rg.size g1 = sz) (hsz : sz ≤ 4096) : Keep Try.prog 21 [.pointer (some ⟨bl, 0, none⟩)] w [Res.blk bl 77 [Value.pointer (some ⟨b0, 0, none⟩), Value.pointer (some ⟨b1, 0, none⟩)], Res.blk b0 108 (Rg.c g0), Res.row (Rg.A g0) (Rg.s g0).length (Rg.cap g0) 3 1 (Rg.s g0), Res.blk b1 108 (Rg.c g1), Res.row (Rg.A g1) (Rg.s g1).length (Rg.cap g1) 3 1 (Rg.s g1)] (.tuple [.int .i64 (headI (LL.mk [] [])), .int .i64 (headC (LL.mk [] [])), .bool (headB (LL.mk [] []))].toArray) := by
  refine g_start Try.func21 rfl 21 rfl (by simp) (fps [Res.blk bl 77 [Value.pointer (some ⟨b0, 0, none⟩), Value.pointer (some ⟨b1, 0, none⟩)], Res.blk b0 108 (Rg.c g0), Res.row (Rg.A g0) (Rg.s g0).length (Rg.cap g0) 3 1 (Rg.s g0), Res.blk b1 108 (Rg.c g1), Res.row (Rg.A g1) (Rg.s g1).length (Rg.cap g1) 3 1 (Rg.s g1)]) [Res.blk bl 77 [Value.pointer (some ⟨b0, 0, none⟩), Value.pointer (some ⟨b1, 0, none⟩)], Res.blk b0 108 (Rg.c g0), Res.row (Rg.A g0) (Rg.s g0).length (Rg.cap g0) 3 1 (Rg.s g0), Res.blk b1 108 (Rg.c g1), Res.row (Rg.A g1) (Rg.s g1).length (Rg.cap g1) 3 1 (Rg.s g1)] hw _ rfl ?_
  refine g_seq ?_
  refine g_region ?_
  refine s_q (q_assign rfl) rfl ?_
  refine s_q (q_assign rfl) rfl ?_
  refine s_q (q_assign rfl) rfl ?_
  refine g_nil ?_
  refine g_then ?_
  refine g_seq ?_
  refine g_region ?_
  refine s_q (q_move rfl) rfl ?_
  refine g_op (g_keep [Res.blk bl 77 [Value.pointer (some ⟨b0, 0, none⟩), Value.pointer (some ⟨b1, 0, none⟩)], Res.blk b0 108 (Rg.c g0), Res.row (Rg.A g0) (Rg.s g0).length (Rg.cap g0) 3 1 (Rg.s g0), Res.blk b1 108 (Rg.c g1), Res.row (Rg.A g1) (Rg.s g1).length (Rg.cap g1) 3 1 (Rg.s g1)] rfl (fun w1 hw1 ho1 => by exact first_any bl b0 b1 g0 g1 (LL.mk [] []) sz w1 ho1 h0 h1 s0 s1 (by omega)) rfl ?_)
  refine s_q (q_assign rfl) rfl ?_
  refine g_val 5 (v' := .int .i64 (-1)) rfl (by simp [firstV]) ?_
  refine g_nil ?_
  refine g_then ?_
  refine g_seq ?_
  refine g_region ?_
  refine s_q (q_move rfl) rfl ?_
  refine s_q (q_move rfl) rfl ?_
  refine g_op (g_keep [Res.blk bl 77 [Value.pointer (some ⟨b0, 0, none⟩), Value.pointer (some ⟨b1, 0, none⟩)]] rfl (fun w1 hw1 ho1 => by exact class_b bl b0 b1 (-1) w1 ho1 ⟨by decide, by decide⟩) rfl ?_)
  refine g_op (g_pure rfl (fun w1 hw1 => peekN_i _ w1) rfl ?_)
  refine s_q (q_move rfl) rfl ?_
  refine s_q (q_extract rfl rfl) rfl ?_
  refine s_q (q_extract rfl rfl) rfl ?_
  refine s_q (q_assign rfl) rfl ?_
  refine s_q (q_assign rfl) rfl ?_
  refine g_nil ?_
  refine g_then ?_
  refine g_seq ?_
  refine g_region ?_
  refine s_q (q_move rfl) rfl ?_
  refine s_q (q_move rfl) rfl ?_
  refine s_q (q_max rfl rfl) rfl ?_
  refine s_q (q_move rfl) rfl ?_
  refine s_q (q_assign rfl) rfl ?_
  refine s_q (q_assign rfl) rfl ?_
  refine s_q (q_assign rfl) rfl ?_
  refine g_nil ?_
  refine g_then ?_
  refine g_ret ?_
  exact fin3 rfl (.tmp rfl) (.tmp rfl) (.tmp rfl) (fun w' hw' => ⟨(), trivial, by first | rfl | simp [headI, headC, headB, pk] | (simp [headI, headC, headB, pk]; omega), by have h9 := wok_sub (L' := [Res.blk bl 77 [Value.pointer (some ⟨b0, 0, none⟩), Value.pointer (some ⟨b1, 0, none⟩)], Res.blk b0 108 (Rg.c g0), Res.row (Rg.A g0) (Rg.s g0).length (Rg.cap g0) 3 1 (Rg.s g0), Res.blk b1 108 (Rg.c g1), Res.row (Rg.A g1) (Rg.s g1).length (Rg.cap g1) 3 1 (Rg.s g1)]) w' hw'; exact h9⟩) _ (.inl rfl)

theorem head_any (bl b0 b1 : Nat) (g0 g1 : Rg) (q : LL) (sz : Nat) (w : World) (hw : WOK (fps [Res.blk bl 77 [Value.pointer (some ⟨b0, 0, none⟩), Value.pointer (some ⟨b1, 0, none⟩)], Res.blk b0 108 (Rg.c g0), Res.row (Rg.A g0) (Rg.s g0).length (Rg.cap g0) 3 1 (Rg.s g0), Res.blk b1 108 (Rg.c g1), Res.row (Rg.A g1) (Rg.s g1).length (Rg.cap g1) 3 1 (Rg.s g1)]) w [Res.blk bl 77 [Value.pointer (some ⟨b0, 0, none⟩), Value.pointer (some ⟨b1, 0, none⟩)], Res.blk b0 108 (Rg.c g0), Res.row (Rg.A g0) (Rg.s g0).length (Rg.cap g0) 3 1 (Rg.s g0), Res.blk b1 108 (Rg.c g1), Res.row (Rg.A g1) (Rg.s g1).length (Rg.cap g1) 3 1 (Rg.s g1)] w) (h0 : g0.Rep 1 ((q).f.map (fun v : Int => [Value.int .i64 v]))) (h1 : g1.Rep 1 ((q).v.map (fun v : Int => [Value.int .i64 v]))) (s0 : Rg.size g0 = sz) (s1 : Rg.size g1 = sz) (hsz : sz ≤ 4096) : Keep Try.prog 21 [.pointer (some ⟨bl, 0, none⟩)] w [Res.blk bl 77 [Value.pointer (some ⟨b0, 0, none⟩), Value.pointer (some ⟨b1, 0, none⟩)], Res.blk b0 108 (Rg.c g0), Res.row (Rg.A g0) (Rg.s g0).length (Rg.cap g0) 3 1 (Rg.s g0), Res.blk b1 108 (Rg.c g1), Res.row (Rg.A g1) (Rg.s g1).length (Rg.cap g1) 3 1 (Rg.s g1)] (.tuple [.int .i64 (headI q), .int .i64 (headC q), .bool (headB q)].toArray) := by
  obtain ⟨f, v⟩ := q
  match f, v, h0, h1 with
  | x :: f, v, h0, h1 => exact head_a bl b0 b1 g0 g1 sz x f v w hw h0 h1 s0 s1 hsz
  | [], x :: v, h0, h1 => exact head_b bl b0 b1 g0 g1 sz x v w hw h0 h1 s0 s1 hsz
  | [], [], h0, h1 => exact head_c bl b0 b1 g0 g1 sz w hw h0 h1 s0 s1 hsz

set_option maxHeartbeats 400000 in
theorem pop_a (bl b0 b1 : Nat) (g0 g1 : Rg) (sz : Nat) (y : Int) (f v : List Int) (w : World) (hw : WOK (fps [Res.blk bl 77 [Value.pointer (some ⟨b0, 0, none⟩), Value.pointer (some ⟨b1, 0, none⟩)], Res.blk b0 108 (Rg.c g0), Res.row (Rg.A g0) (Rg.s g0).length (Rg.cap g0) 3 1 (Rg.s g0), Res.blk b1 108 (Rg.c g1), Res.row (Rg.A g1) (Rg.s g1).length (Rg.cap g1) 3 1 (Rg.s g1)]) w [Res.blk bl 77 [Value.pointer (some ⟨b0, 0, none⟩), Value.pointer (some ⟨b1, 0, none⟩)], Res.blk b0 108 (Rg.c g0), Res.row (Rg.A g0) (Rg.s g0).length (Rg.cap g0) 3 1 (Rg.s g0), Res.blk b1 108 (Rg.c g1), Res.row (Rg.A g1) (Rg.s g1).length (Rg.cap g1) 3 1 (Rg.s g1)] w) (h0 : g0.Rep 1 (((LL.mk (y :: f) v)).f.map (fun v : Int => [Value.int .i64 v]))) (h1 : g1.Rep 1 (((LL.mk (y :: f) v)).v.map (fun v : Int => [Value.int .i64 v]))) (s0 : Rg.size g0 = sz) (s1 : Rg.size g1 = sz) (hsz : sz ≤ 4096) : Own2 (ι := (Rg × Rg)) Try.prog 34 [.pointer (some ⟨bl, 0, none⟩)] w [Res.blk bl 77 [Value.pointer (some ⟨b0, 0, none⟩), Value.pointer (some ⟨b1, 0, none⟩)], Res.blk b0 108 (Rg.c g0), Res.row (Rg.A g0) (Rg.s g0).length (Rg.cap g0) 3 1 (Rg.s g0), Res.blk b1 108 (Rg.c g1), Res.row (Rg.A g1) (Rg.s g1).length (Rg.cap g1) 3 1 (Rg.s g1)] (fun x => x.1.Rep 1 ((popL (LL.mk (y :: f) v)).f.map (fun v : Int => [Value.int .i64 v])) ∧ x.2.Rep 1 ((popL (LL.mk (y :: f) v)).v.map (fun v : Int => [Value.int .i64 v])) ∧ x.1.size = sz ∧ x.2.size = sz) (fun x => .tuple [.int .i64 (headI (LL.mk (y :: f) v)), .int .i64 (headC (LL.mk (y :: f) v)), .bool (headB (LL.mk (y :: f) v))].toArray) (fun x => []) (fun x => [Res.blk bl 77 [Value.pointer (some ⟨b0, 0, none⟩), Value.pointer (some ⟨b1, 0, none⟩)], Res.blk b0 108 (Rg.c x.1), Res.row (Rg.A x.1) (Rg.s x.1).length (Rg.cap x.1) 3 1 (Rg.s x.1), Res.blk b1 108 (Rg.c x.2), Res.row (Rg.A x.2) (Rg.s x.2).length (Rg.cap x.2) 3 1 (Rg.s x.2)]) := by
  refine g_start Try.func34 rfl 21 rfl (by simp) (fps [Res.blk bl 77 [Value.pointer (some ⟨b0, 0, none⟩), Value.pointer (some ⟨b1, 0, none⟩)], Res.blk b0 108 (Rg.c g0), Res.row (Rg.A g0) (Rg.s g0).length (Rg.cap g0) 3 1 (Rg.s g0), Res.blk b1 108 (Rg.c g1), Res.row (Rg.A g1) (Rg.s g1).length (Rg.cap g1) 3 1 (Rg.s g1)]) [Res.blk bl 77 [Value.pointer (some ⟨b0, 0, none⟩), Value.pointer (some ⟨b1, 0, none⟩)], Res.blk b0 108 (Rg.c g0), Res.row (Rg.A g0) (Rg.s g0).length (Rg.cap g0) 3 1 (Rg.s g0), Res.blk b1 108 (Rg.c g1), Res.row (Rg.A g1) (Rg.s g1).length (Rg.cap g1) 3 1 (Rg.s g1)] hw _ rfl ?_
  refine g_seq ?_
  refine g_region ?_
  refine s_q (q_assign rfl) rfl ?_
  refine s_q (q_assign rfl) rfl ?_
  refine s_q (q_assign rfl) rfl ?_
  refine g_nil ?_
  refine g_then ?_
  refine g_seq ?_
  refine g_region ?_
  refine s_q (q_move rfl) rfl ?_
  refine g_op (g_keep [Res.blk bl 77 [Value.pointer (some ⟨b0, 0, none⟩), Value.pointer (some ⟨b1, 0, none⟩)], Res.blk b0 108 (Rg.c g0), Res.row (Rg.A g0) (Rg.s g0).length (Rg.cap g0) 3 1 (Rg.s g0), Res.blk b1 108 (Rg.c g1), Res.row (Rg.A g1) (Rg.s g1).length (Rg.cap g1) 3 1 (Rg.s g1)] rfl (fun w1 hw1 ho1 => by exact first_any bl b0 b1 g0 g1 (LL.mk (y :: f) v) sz w1 ho1 h0 h1 s0 s1 (by omega)) rfl ?_)
  refine s_q (q_assign rfl) rfl ?_
  refine g_val 5 (v' := .int .i64 0) rfl (by simp [firstV]) ?_
  refine g_nil ?_
  refine g_then ?_
  refine g_seq ?_
  refine g_region ?_
  refine s_q (q_move rfl) rfl ?_
  refine s_q (q_move rfl) rfl ?_
  refine g_op (g_keep [Res.blk bl 77 [Value.pointer (some ⟨b0, 0, none⟩), Value.pointer (some ⟨b1, 0, none⟩)]] rfl (fun w1 hw1 ho1 => by exact class_0 bl b0 b1 w1 ho1) rfl ?_)
  refine g_op (g_ownS [Res.blk b0 108 (Rg.c g0), Res.row (Rg.A g0) (Rg.s g0).length (Rg.cap g0) 3 1 (Rg.s g0)] rfl (fun w1 hw1 ho1 => by have h7 := pop_i b0 g0 ((LL.mk (y :: f) v)).f w1 ho1 h0; exact h7) rfl ?_)
  rintro g14 ⟨r14, s14⟩
  refine ⟨_, _, inferInstance, inferInstance, ?_⟩
  refine s_q (q_move rfl) rfl ?_
  refine s_q (q_extract rfl rfl) rfl ?_
  refine s_q (q_extract rfl rfl) rfl ?_
  refine s_q (q_assign rfl) rfl ?_
  refine s_q (q_assign rfl) rfl ?_
  refine g_nil ?_
  refine g_then ?_
  refine g_seq ?_
  refine g_region ?_
  refine s_q (q_move rfl) rfl ?_
  refine s_q (q_move rfl) rfl ?_
  refine s_q (q_maxn (a := 0) (b := 0) rfl rfl) rfl ?_
  refine s_q (q_move rfl) rfl ?_
  refine s_q (q_assign rfl) rfl ?_
  refine s_q (q_assign rfl) rfl ?_
  refine s_q (q_assign rfl) rfl ?_
  refine g_nil ?_
  refine g_then ?_
  refine g_ret ?_
  exact fin3 rfl (.tmp rfl) (.tmp rfl) (.tmp rfl) (fun w' hw' => ⟨(g14, g1), (by first | exact ⟨r14, h1, by omega, s1⟩ | (dsimp only; exact ⟨r14, h1, by omega, s1⟩)), by first | rfl | simp [headI, headC, headB, pk] | (simp [headI, headC, headB, pk]; omega), by have h9 := wok_sub (L' := [Res.blk bl 77 [Value.pointer (some ⟨b0, 0, none⟩), Value.pointer (some ⟨b1, 0, none⟩)], Res.blk b0 108 (Rg.c ((g14, g1)).1), Res.row (Rg.A ((g14, g1)).1) (Rg.s ((g14, g1)).1).length (Rg.cap ((g14, g1)).1) 3 1 (Rg.s ((g14, g1)).1), Res.blk b1 108 (Rg.c ((g14, g1)).2), Res.row (Rg.A ((g14, g1)).2) (Rg.s ((g14, g1)).2).length (Rg.cap ((g14, g1)).2) 3 1 (Rg.s ((g14, g1)).2)]) w' hw'; exact h9⟩) _ (.inl rfl)

set_option maxHeartbeats 400000 in
theorem pop_b (bl b0 b1 : Nat) (g0 g1 : Rg) (sz : Nat) (y : Int) (v : List Int) (w : World) (hw : WOK (fps [Res.blk bl 77 [Value.pointer (some ⟨b0, 0, none⟩), Value.pointer (some ⟨b1, 0, none⟩)], Res.blk b0 108 (Rg.c g0), Res.row (Rg.A g0) (Rg.s g0).length (Rg.cap g0) 3 1 (Rg.s g0), Res.blk b1 108 (Rg.c g1), Res.row (Rg.A g1) (Rg.s g1).length (Rg.cap g1) 3 1 (Rg.s g1)]) w [Res.blk bl 77 [Value.pointer (some ⟨b0, 0, none⟩), Value.pointer (some ⟨b1, 0, none⟩)], Res.blk b0 108 (Rg.c g0), Res.row (Rg.A g0) (Rg.s g0).length (Rg.cap g0) 3 1 (Rg.s g0), Res.blk b1 108 (Rg.c g1), Res.row (Rg.A g1) (Rg.s g1).length (Rg.cap g1) 3 1 (Rg.s g1)] w) (h0 : g0.Rep 1 (((LL.mk [] (y :: v))).f.map (fun v : Int => [Value.int .i64 v]))) (h1 : g1.Rep 1 (((LL.mk [] (y :: v))).v.map (fun v : Int => [Value.int .i64 v]))) (s0 : Rg.size g0 = sz) (s1 : Rg.size g1 = sz) (hsz : sz ≤ 4096) : Own2 (ι := (Rg × Rg)) Try.prog 34 [.pointer (some ⟨bl, 0, none⟩)] w [Res.blk bl 77 [Value.pointer (some ⟨b0, 0, none⟩), Value.pointer (some ⟨b1, 0, none⟩)], Res.blk b0 108 (Rg.c g0), Res.row (Rg.A g0) (Rg.s g0).length (Rg.cap g0) 3 1 (Rg.s g0), Res.blk b1 108 (Rg.c g1), Res.row (Rg.A g1) (Rg.s g1).length (Rg.cap g1) 3 1 (Rg.s g1)] (fun x => x.1.Rep 1 ((popL (LL.mk [] (y :: v))).f.map (fun v : Int => [Value.int .i64 v])) ∧ x.2.Rep 1 ((popL (LL.mk [] (y :: v))).v.map (fun v : Int => [Value.int .i64 v])) ∧ x.1.size = sz ∧ x.2.size = sz) (fun x => .tuple [.int .i64 (headI (LL.mk [] (y :: v))), .int .i64 (headC (LL.mk [] (y :: v))), .bool (headB (LL.mk [] (y :: v)))].toArray) (fun x => []) (fun x => [Res.blk bl 77 [Value.pointer (some ⟨b0, 0, none⟩), Value.pointer (some ⟨b1, 0, none⟩)], Res.blk b0 108 (Rg.c x.1), Res.row (Rg.A x.1) (Rg.s x.1).length (Rg.cap x.1) 3 1 (Rg.s x.1), Res.blk b1 108 (Rg.c x.2), Res.row (Rg.A x.2) (Rg.s x.2).length (Rg.cap x.2) 3 1 (Rg.s x.2)]) := by
  refine g_start Try.func34 rfl 21 rfl (by simp) (fps [Res.blk bl 77 [Value.pointer (some ⟨b0, 0, none⟩), Value.pointer (some ⟨b1, 0, none⟩)], Res.blk b0 108 (Rg.c g0), Res.row (Rg.A g0) (Rg.s g0).length (Rg.cap g0) 3 1 (Rg.s g0), Res.blk b1 108 (Rg.c g1), Res.row (Rg.A g1) (Rg.s g1).length (Rg.cap g1) 3 1 (Rg.s g1)]) [Res.blk bl 77 [Value.pointer (some ⟨b0, 0, none⟩), Value.pointer (some ⟨b1, 0, none⟩)], Res.blk b0 108 (Rg.c g0), Res.row (Rg.A g0) (Rg.s g0).length (Rg.cap g0) 3 1 (Rg.s g0), Res.blk b1 108 (Rg.c g1), Res.row (Rg.A g1) (Rg.s g1).length (Rg.cap g1) 3 1 (Rg.s g1)] hw _ rfl ?_
  refine g_seq ?_
  refine g_region ?_
  refine s_q (q_assign rfl) rfl ?_
  refine s_q (q_assign rfl) rfl ?_
  refine s_q (q_assign rfl) rfl ?_
  refine g_nil ?_
  refine g_then ?_
  refine g_seq ?_
  refine g_region ?_
  refine s_q (q_move rfl) rfl ?_
  refine g_op (g_keep [Res.blk bl 77 [Value.pointer (some ⟨b0, 0, none⟩), Value.pointer (some ⟨b1, 0, none⟩)], Res.blk b0 108 (Rg.c g0), Res.row (Rg.A g0) (Rg.s g0).length (Rg.cap g0) 3 1 (Rg.s g0), Res.blk b1 108 (Rg.c g1), Res.row (Rg.A g1) (Rg.s g1).length (Rg.cap g1) 3 1 (Rg.s g1)] rfl (fun w1 hw1 ho1 => by exact first_any bl b0 b1 g0 g1 (LL.mk [] (y :: v)) sz w1 ho1 h0 h1 s0 s1 (by omega)) rfl ?_)
  refine s_q (q_assign rfl) rfl ?_
  refine g_val 5 (v' := .int .i64 1) rfl (by simp [firstV]) ?_
  refine g_nil ?_
  refine g_then ?_
  refine g_seq ?_
  refine g_region ?_
  refine s_q (q_move rfl) rfl ?_
  refine s_q (q_move rfl) rfl ?_
  refine g_op (g_keep [Res.blk bl 77 [Value.pointer (some ⟨b0, 0, none⟩), Value.pointer (some ⟨b1, 0, none⟩)]] rfl (fun w1 hw1 ho1 => by exact class_1 bl b0 b1 w1 ho1) rfl ?_)
  refine g_op (g_ownS [Res.blk b1 108 (Rg.c g1), Res.row (Rg.A g1) (Rg.s g1).length (Rg.cap g1) 3 1 (Rg.s g1)] rfl (fun w1 hw1 ho1 => by have h7 := pop_i b1 g1 ((LL.mk [] (y :: v))).v w1 ho1 h1; exact h7) rfl ?_)
  rintro g14 ⟨r14, s14⟩
  refine ⟨_, _, inferInstance, inferInstance, ?_⟩
  refine s_q (q_move rfl) rfl ?_
  refine s_q (q_extract rfl rfl) rfl ?_
  refine s_q (q_extract rfl rfl) rfl ?_
  refine s_q (q_assign rfl) rfl ?_
  refine s_q (q_assign rfl) rfl ?_
  refine g_nil ?_
  refine g_then ?_
  refine g_seq ?_
  refine g_region ?_
  refine s_q (q_move rfl) rfl ?_
  refine s_q (q_move rfl) rfl ?_
  refine s_q (q_maxn (a := 1) (b := 0) rfl rfl) rfl ?_
  refine s_q (q_move rfl) rfl ?_
  refine s_q (q_assign rfl) rfl ?_
  refine s_q (q_assign rfl) rfl ?_
  refine s_q (q_assign rfl) rfl ?_
  refine g_nil ?_
  refine g_then ?_
  refine g_ret ?_
  exact fin3 rfl (.tmp rfl) (.tmp rfl) (.tmp rfl) (fun w' hw' => ⟨(g0, g14), (by first | exact ⟨h0, r14, s0, by omega⟩ | (dsimp only; exact ⟨h0, r14, s0, by omega⟩)), by first | rfl | simp [headI, headC, headB, pk] | (simp [headI, headC, headB, pk]; omega), by have h9 := wok_sub (L' := [Res.blk bl 77 [Value.pointer (some ⟨b0, 0, none⟩), Value.pointer (some ⟨b1, 0, none⟩)], Res.blk b0 108 (Rg.c ((g0, g14)).1), Res.row (Rg.A ((g0, g14)).1) (Rg.s ((g0, g14)).1).length (Rg.cap ((g0, g14)).1) 3 1 (Rg.s ((g0, g14)).1), Res.blk b1 108 (Rg.c ((g0, g14)).2), Res.row (Rg.A ((g0, g14)).2) (Rg.s ((g0, g14)).2).length (Rg.cap ((g0, g14)).2) 3 1 (Rg.s ((g0, g14)).2)]) w' hw'; exact h9⟩) _ (.inl rfl)

set_option maxHeartbeats 400000 in
theorem pop_c (bl b0 b1 : Nat) (g0 g1 : Rg) (sz : Nat)  (w : World) (hw : WOK (fps [Res.blk bl 77 [Value.pointer (some ⟨b0, 0, none⟩), Value.pointer (some ⟨b1, 0, none⟩)], Res.blk b0 108 (Rg.c g0), Res.row (Rg.A g0) (Rg.s g0).length (Rg.cap g0) 3 1 (Rg.s g0), Res.blk b1 108 (Rg.c g1), Res.row (Rg.A g1) (Rg.s g1).length (Rg.cap g1) 3 1 (Rg.s g1)]) w [Res.blk bl 77 [Value.pointer (some ⟨b0, 0, none⟩), Value.pointer (some ⟨b1, 0, none⟩)], Res.blk b0 108 (Rg.c g0), Res.row (Rg.A g0) (Rg.s g0).length (Rg.cap g0) 3 1 (Rg.s g0), Res.blk b1 108 (Rg.c g1), Res.row (Rg.A g1) (Rg.s g1).length (Rg.cap g1) 3 1 (Rg.s g1)] w) (h0 : g0.Rep 1 (((LL.mk [] [])).f.map (fun v : Int => [Value.int .i64 v]))) (h1 : g1.Rep 1 (((LL.mk [] [])).v.map (fun v : Int => [Value.int .i64 v]))) (s0 : Rg.size g0 = sz) (s1 : Rg.size g1 = sz) (hsz : sz ≤ 4096) : Own2 (ι := (Rg × Rg)) Try.prog 34 [.pointer (some ⟨bl, 0, none⟩)] w [Res.blk bl 77 [Value.pointer (some ⟨b0, 0, none⟩), Value.pointer (some ⟨b1, 0, none⟩)], Res.blk b0 108 (Rg.c g0), Res.row (Rg.A g0) (Rg.s g0).length (Rg.cap g0) 3 1 (Rg.s g0), Res.blk b1 108 (Rg.c g1), Res.row (Rg.A g1) (Rg.s g1).length (Rg.cap g1) 3 1 (Rg.s g1)] (fun x => x.1.Rep 1 ((popL (LL.mk [] [])).f.map (fun v : Int => [Value.int .i64 v])) ∧ x.2.Rep 1 ((popL (LL.mk [] [])).v.map (fun v : Int => [Value.int .i64 v])) ∧ x.1.size = sz ∧ x.2.size = sz) (fun x => .tuple [.int .i64 (headI (LL.mk [] [])), .int .i64 (headC (LL.mk [] [])), .bool (headB (LL.mk [] []))].toArray) (fun x => []) (fun x => [Res.blk bl 77 [Value.pointer (some ⟨b0, 0, none⟩), Value.pointer (some ⟨b1, 0, none⟩)], Res.blk b0 108 (Rg.c x.1), Res.row (Rg.A x.1) (Rg.s x.1).length (Rg.cap x.1) 3 1 (Rg.s x.1), Res.blk b1 108 (Rg.c x.2), Res.row (Rg.A x.2) (Rg.s x.2).length (Rg.cap x.2) 3 1 (Rg.s x.2)]) := by
  refine g_start Try.func34 rfl 21 rfl (by simp) (fps [Res.blk bl 77 [Value.pointer (some ⟨b0, 0, none⟩), Value.pointer (some ⟨b1, 0, none⟩)], Res.blk b0 108 (Rg.c g0), Res.row (Rg.A g0) (Rg.s g0).length (Rg.cap g0) 3 1 (Rg.s g0), Res.blk b1 108 (Rg.c g1), Res.row (Rg.A g1) (Rg.s g1).length (Rg.cap g1) 3 1 (Rg.s g1)]) [Res.blk bl 77 [Value.pointer (some ⟨b0, 0, none⟩), Value.pointer (some ⟨b1, 0, none⟩)], Res.blk b0 108 (Rg.c g0), Res.row (Rg.A g0) (Rg.s g0).length (Rg.cap g0) 3 1 (Rg.s g0), Res.blk b1 108 (Rg.c g1), Res.row (Rg.A g1) (Rg.s g1).length (Rg.cap g1) 3 1 (Rg.s g1)] hw _ rfl ?_
  refine g_seq ?_
  refine g_region ?_
  refine s_q (q_assign rfl) rfl ?_
  refine s_q (q_assign rfl) rfl ?_
  refine s_q (q_assign rfl) rfl ?_
  refine g_nil ?_
  refine g_then ?_
  refine g_seq ?_
  refine g_region ?_
  refine s_q (q_move rfl) rfl ?_
  refine g_op (g_keep [Res.blk bl 77 [Value.pointer (some ⟨b0, 0, none⟩), Value.pointer (some ⟨b1, 0, none⟩)], Res.blk b0 108 (Rg.c g0), Res.row (Rg.A g0) (Rg.s g0).length (Rg.cap g0) 3 1 (Rg.s g0), Res.blk b1 108 (Rg.c g1), Res.row (Rg.A g1) (Rg.s g1).length (Rg.cap g1) 3 1 (Rg.s g1)] rfl (fun w1 hw1 ho1 => by exact first_any bl b0 b1 g0 g1 (LL.mk [] []) sz w1 ho1 h0 h1 s0 s1 (by omega)) rfl ?_)
  refine s_q (q_assign rfl) rfl ?_
  refine g_val 5 (v' := .int .i64 (-1)) rfl (by simp [firstV]) ?_
  refine g_nil ?_
  refine g_then ?_
  refine g_seq ?_
  refine g_region ?_
  refine s_q (q_move rfl) rfl ?_
  refine s_q (q_move rfl) rfl ?_
  refine g_op (g_keep [Res.blk bl 77 [Value.pointer (some ⟨b0, 0, none⟩), Value.pointer (some ⟨b1, 0, none⟩)]] rfl (fun w1 hw1 ho1 => by exact class_b bl b0 b1 (-1) w1 ho1 ⟨by decide, by decide⟩) rfl ?_)
  refine g_op (g_pure rfl (fun w1 hw1 => popN_i w1) rfl ?_)
  refine s_q (q_move rfl) rfl ?_
  refine s_q (q_extract rfl rfl) rfl ?_
  refine s_q (q_extract rfl rfl) rfl ?_
  refine s_q (q_assign rfl) rfl ?_
  refine s_q (q_assign rfl) rfl ?_
  refine g_nil ?_
  refine g_then ?_
  refine g_seq ?_
  refine g_region ?_
  refine s_q (q_move rfl) rfl ?_
  refine s_q (q_move rfl) rfl ?_
  refine s_q (q_max rfl rfl) rfl ?_
  refine s_q (q_move rfl) rfl ?_
  refine s_q (q_assign rfl) rfl ?_
  refine s_q (q_assign rfl) rfl ?_
  refine s_q (q_assign rfl) rfl ?_
  refine g_nil ?_
  refine g_then ?_
  refine g_ret ?_
  exact fin3 rfl (.tmp rfl) (.tmp rfl) (.tmp rfl) (fun w' hw' => ⟨(g0, g1), (by first | exact ⟨h0, h1, s0, s1⟩ | (dsimp only; exact ⟨h0, h1, s0, s1⟩)), by first | rfl | simp [headI, headC, headB, pk] | (simp [headI, headC, headB, pk]; omega), by have h9 := wok_sub (L' := [Res.blk bl 77 [Value.pointer (some ⟨b0, 0, none⟩), Value.pointer (some ⟨b1, 0, none⟩)], Res.blk b0 108 (Rg.c ((g0, g1)).1), Res.row (Rg.A ((g0, g1)).1) (Rg.s ((g0, g1)).1).length (Rg.cap ((g0, g1)).1) 3 1 (Rg.s ((g0, g1)).1), Res.blk b1 108 (Rg.c ((g0, g1)).2), Res.row (Rg.A ((g0, g1)).2) (Rg.s ((g0, g1)).2).length (Rg.cap ((g0, g1)).2) 3 1 (Rg.s ((g0, g1)).2)]) w' hw'; exact h9⟩) _ (.inl rfl)

theorem pop_any (bl b0 b1 : Nat) (g0 g1 : Rg) (q : LL) (sz : Nat) (w : World) (hw : WOK (fps [Res.blk bl 77 [Value.pointer (some ⟨b0, 0, none⟩), Value.pointer (some ⟨b1, 0, none⟩)], Res.blk b0 108 (Rg.c g0), Res.row (Rg.A g0) (Rg.s g0).length (Rg.cap g0) 3 1 (Rg.s g0), Res.blk b1 108 (Rg.c g1), Res.row (Rg.A g1) (Rg.s g1).length (Rg.cap g1) 3 1 (Rg.s g1)]) w [Res.blk bl 77 [Value.pointer (some ⟨b0, 0, none⟩), Value.pointer (some ⟨b1, 0, none⟩)], Res.blk b0 108 (Rg.c g0), Res.row (Rg.A g0) (Rg.s g0).length (Rg.cap g0) 3 1 (Rg.s g0), Res.blk b1 108 (Rg.c g1), Res.row (Rg.A g1) (Rg.s g1).length (Rg.cap g1) 3 1 (Rg.s g1)] w) (h0 : g0.Rep 1 ((q).f.map (fun v : Int => [Value.int .i64 v]))) (h1 : g1.Rep 1 ((q).v.map (fun v : Int => [Value.int .i64 v]))) (s0 : Rg.size g0 = sz) (s1 : Rg.size g1 = sz) (hsz : sz ≤ 4096) : Own2 (ι := (Rg × Rg)) Try.prog 34 [.pointer (some ⟨bl, 0, none⟩)] w [Res.blk bl 77 [Value.pointer (some ⟨b0, 0, none⟩), Value.pointer (some ⟨b1, 0, none⟩)], Res.blk b0 108 (Rg.c g0), Res.row (Rg.A g0) (Rg.s g0).length (Rg.cap g0) 3 1 (Rg.s g0), Res.blk b1 108 (Rg.c g1), Res.row (Rg.A g1) (Rg.s g1).length (Rg.cap g1) 3 1 (Rg.s g1)] (fun x => x.1.Rep 1 ((popL q).f.map (fun v : Int => [Value.int .i64 v])) ∧ x.2.Rep 1 ((popL q).v.map (fun v : Int => [Value.int .i64 v])) ∧ x.1.size = sz ∧ x.2.size = sz) (fun x => .tuple [.int .i64 (headI q), .int .i64 (headC q), .bool (headB q)].toArray) (fun x => []) (fun x => [Res.blk bl 77 [Value.pointer (some ⟨b0, 0, none⟩), Value.pointer (some ⟨b1, 0, none⟩)], Res.blk b0 108 (Rg.c x.1), Res.row (Rg.A x.1) (Rg.s x.1).length (Rg.cap x.1) 3 1 (Rg.s x.1), Res.blk b1 108 (Rg.c x.2), Res.row (Rg.A x.2) (Rg.s x.2).length (Rg.cap x.2) 3 1 (Rg.s x.2)]) := by
  obtain ⟨f, v⟩ := q
  match f, v, h0, h1 with
  | x :: f, v, h0, h1 => exact pop_a bl b0 b1 g0 g1 sz x f v w hw h0 h1 s0 s1 hsz
  | [], x :: v, h0, h1 => exact pop_b bl b0 b1 g0 g1 sz x v w hw h0 h1 s0 s1 hsz
  | [], [], h0, h1 => exact pop_c bl b0 b1 g0 g1 sz w hw h0 h1 s0 s1 hsz

def newR (b12 k b0 b1 : Nat) (g0 g1 : Rg) : List Res := match k with
  | 0 => [Res.blk b12 77 [Value.pointer none, Value.pointer none]]
  | 1 => [Res.blk b12 77 [Value.pointer (some ⟨b0, 0, none⟩), Value.pointer none], Res.blk b0 108 (Rg.c g0), Res.row (Rg.A g0) (Rg.s g0).length (Rg.cap g0) 3 1 (Rg.s g0)]
  | _ => [Res.blk b12 77 [Value.pointer (some ⟨b0, 0, none⟩), Value.pointer (some ⟨b1, 0, none⟩)], Res.blk b0 108 (Rg.c g0), Res.row (Rg.A g0) (Rg.s g0).length (Rg.cap g0) 3 1 (Rg.s g0), Res.blk b1 108 (Rg.c g1), Res.row (Rg.A g1) (Rg.s g1).length (Rg.cap g1) 3 1 (Rg.s g1)]

set_option maxHeartbeats 400000 in
theorem lnew_any (n : Nat) (w : World) (hn : 1 ≤ n ∧ n ≤ 4096) : Own2 (ι := (Nat × Nat × Nat × Rg × Rg)) Try.prog 11 [.int .i64 (n : Int)] w [] (fun x => Rg.Rep x.2.2.2.1 1 (([] : List Int).map (fun v : Int => [Value.int .i64 v])) ∧ Rg.size x.2.2.2.1 = n ∧ Rg.Rep x.2.2.2.2 1 (([] : List Int).map (fun v : Int => [Value.int .i64 v])) ∧ Rg.size x.2.2.2.2 = n) (fun x => .pointer (some ⟨x.1, 0, none⟩)) (fun x => [Res.blk x.1 77 [Value.pointer (some ⟨x.2.1, 0, none⟩), Value.pointer (some ⟨x.2.2.1, 0, none⟩)], Res.blk x.2.1 108 (Rg.c x.2.2.2.1), Res.row (Rg.A x.2.2.2.1) (Rg.s x.2.2.2.1).length (Rg.cap x.2.2.2.1) 3 1 (Rg.s x.2.2.2.1), Res.blk x.2.2.1 108 (Rg.c x.2.2.2.2), Res.row (Rg.A x.2.2.2.2) (Rg.s x.2.2.2.2).length (Rg.cap x.2.2.2.2) 3 1 (Rg.s x.2.2.2.2)]) (fun x => []) := by
  refine g_start Try.func11 rfl 26 rfl (by simp) (fps []) [] (WOK.start _ _) _ rfl ?_
  refine g_seq ?_
  refine g_region ?_
  refine s_q (q_assign rfl) rfl ?_
  refine g_nil ?_
  refine g_then ?_
  refine g_seq ?_
  refine g_seq ?_
  refine g_region ?_
  refine s_q (q_move rfl) rfl ?_
  refine s_q (q_lss rfl rfl) rfl ?_
  refine g_litb 6 (b := false) rfl (by simp; omega) ?_
  refine s_q (q_move rfl) rfl ?_
  refine s_qg (q_move rfl) rfl rfl rfl ?_
  refine s_qg (q_gtr rfl rfl) rfl rfl rfl ?_
  refine g_litb 9 (b := false) rfl (by simp; omega) ?_
  refine s_q (q_pick_f rfl rfl) rfl ?_
  refine g_nil ?_
  refine g_then ?_
  refine g_false rfl ?_
  refine g_skip ?_
  refine g_then ?_
  refine g_seq ?_
  refine g_region ?_
  refine s_q (q_build (c := [Value.pointer none, Value.pointer none]) rfl rfl) rfl ?_
  refine g_op (g_box (c := [Value.pointer none, Value.pointer none]) rfl rfl rfl fun b12 => ?_)
  refine s_q (q_assign rfl) rfl ?_
  refine g_nil ?_
  refine g_then ?_
  refine g_seq ?_
  refine g_seq ?_
  refine g_region ?_
  refine s_q (q_move rfl) rfl ?_
  refine g_nil ?_
  refine g_then ?_
  refine g_block ?_
  refine g_loopk [0, 2, 3] (fun (x : Nat × Nat × Nat × Rg × Rg) => [(13, .int .i64 ((x.1 : Nat) : Int))]) (fun (x : Nat × Nat × Nat × Rg × Rg) => (newR b12 x.1 x.2.1 x.2.2.1 x.2.2.2.1 x.2.2.2.2)) (fun (x : Nat × Nat × Nat × Rg × Rg) => x.1 ≤ 2 ∧ ((0 < x.1 → Rg.Rep x.2.2.2.1 1 (([] : List Int).map (fun v : Int => [Value.int .i64 v])) ∧ Rg.size x.2.2.2.1 = n) ∧ (1 < x.1 → Rg.Rep x.2.2.2.2 1 (([] : List Int).map (fun v : Int => [Value.int .i64 v])) ∧ Rg.size x.2.2.2.2 = n))) (fun (x : Nat × Nat × Nat × Rg × Rg) => 2 - x.1) (0, 0, 0, (Rg.init 0), (Rg.init 0)) (by (try dsimp only); exact ⟨Nat.zero_le _, ⟨by omega, by omega⟩⟩) rfl (by repeat (first | exact trivial | refine ⟨rfl, ?_⟩)) (fun w hw => hw) ?_
  rintro ⟨k, b0, b1, g0, g1⟩ ⟨le_k, hp⟩
  replace le_k : k ≤ 2 := le_k
  replace hp : (0 < k → Rg.Rep g0 1 (([] : List Int).map (fun v : Int => [Value.int .i64 v])) ∧ Rg.size g0 = n) ∧ (1 < k → Rg.Rep g1 1 (([] : List Int).map (fun v : Int => [Value.int .i64 v])) ∧ Rg.size g1 = n) := hp
  refine g_setL (L' := (newR b12 k b0 b1 g0 g1)) rfl ?_
  refine g_val 13 (v' := .int .i64 ((k : Nat) : Int)) rfl rfl ?_
  refine g_seq ?_
  refine g_region ?_
  refine s_q (q_lss rfl rfl) rfl ?_
  refine g_nil ?_
  refine g_then ?_
  refine g_seq ?_
  refine g_cond rfl (fun h1 => ?_) (fun h1 => ?_)
  · have lt_k : k < 2 := by have h9 := of_decide_eq_true h1; omega
    refine g_skip ?_
    refine g_then ?_
    refine g_seq ?_
    refine g_block ?_
    refine g_seq ?_
    rcases (show k = 0 ∨ k = 1 by omega) with hk0 | hk0
    · refine g_setL (L' := [Res.blk b12 77 [Value.pointer none, Value.pointer none]]) (by subst hk0; rfl) ?_
      refine g_val 13 (v' := .int .i64 0) rfl (by rw [hk0]; rfl) ?_
      refine g_region ?_
      refine s_q (q_move rfl) rfl ?_
      refine s_q (q_assign rfl) rfl ?_
      refine g_nil ?_
      refine g_then ?_
      refine d_regionL (L0 := []) [] mixed rfl rfl wok_sub ?_
      refine d_q 0 rfl (by kernel_rfl) (q_move rfl) wok_sub rfl (ls' := #[true, false, false, false, false, false, false, false, false]) rfl ?_
      refine d_q 1 rfl (by kernel_rfl) (q_move rfl) wok_sub rfl (ls' := #[true, true, false, false, false, false, false, false, false]) rfl ?_
      refine d_q 2 rfl (by kernel_rfl) (q_move rfl) wok_sub rfl (ls' := #[true, true, true, false, false, false, false, false, false]) rfl ?_
      refine d_q 4 rfl (by kernel_rfl) (q_nilck rfl) wok_sub rfl (ls' := #[true, true, true, false, true, false, false, false, false]) rfl ?_
      refine d_q 5 rfl (by kernel_rfl) (q_field rfl) wok_sub rfl (ls' := #[true, true, true, false, true, true, false, false, false]) rfl ?_
      refine d_q 6 rfl (by kernel_rfl) (q_field rfl) wok_sub rfl (ls' := #[true, true, true, false, true, true, true, false, false]) rfl ?_
      refine d_op 3 rfl (by kernel_rfl) (ls' := #[true, true, true, true, true, true, true, false, false]) rfl wok_sub (g_ownS [] rfl (fun w1 hw1 ho1 => by have h7 := new_i (n) w1 (by omega); exact h7) rfl ?_)
      rintro ⟨b19, g19⟩ ⟨r19, s19⟩
      refine ⟨_, _, inferInstance, inferInstance, ?_⟩
      simp only at r19 s19
      refine d_q 7 rfl (by kernel_rfl) (q_index_arr (i := 0) rfl rfl rfl (by first | decide | omega)) wok_sub rfl (ls' := #[true, true, true, true, true, true, true, true, false]) rfl ?_
      refine d_op 8 rfl (by kernel_rfl) (ls' := #[true, true, true, true, true, true, true, true, true]) rfl wok_sub (g_store rfl rfl rfl rfl rfl rfl rfl ?_)
      refine d_end (by kernel_rfl) (.inr wok_sub) ?_
      refine g_blk_n ?_
      refine g_then ?_
      refine g_region ?_
      refine g_val 13 (v' := .int .i64 ((k : Nat) : Int)) rfl (by rw [hk0]; rfl) ?_
      refine s_q (q_inc (i := k) rfl rfl (by omega)) rfl ?_
      refine s_q (q_move rfl) rfl ?_
      refine g_nil ?_
      exact g_again ((k + 1), b19, b1, g19, g1) (by (try dsimp only); exact ⟨(by first | exact lt_k | omega), ⟨fun _ => ⟨r19, s19⟩, by omega⟩⟩) (by first | omega | (simp only; omega)) (by repeat (first | exact trivial | refine ⟨rfl, ?_⟩)) (fun w hw => by subst hk0; have h9 := wok_sub (L' := [Res.blk b12 77 (splice [Value.pointer none, Value.pointer none] (0 + 0 + 0 + 0 * 1) [Value.pointer (some ⟨b19, 0, none⟩)]), Res.blk b19 108 (Rg.c g19), Res.row (Rg.A g19) (Rg.s g19).length (Rg.cap g19) 3 1 (Rg.s g19)]) w hw; exact h9)
    · refine g_setL (L' := [Res.blk b12 77 [Value.pointer (some ⟨b0, 0, none⟩), Value.pointer none], Res.blk b0 108 (Rg.c g0), Res.row (Rg.A g0) (Rg.s g0).length (Rg.cap g0) 3 1 (Rg.s g0)]) (by subst hk0; rfl) ?_
      refine g_val 13 (v' := .int .i64 1) rfl (by rw [hk0]; rfl) ?_
      refine g_region ?_
      refine s_q (q_move rfl) rfl ?_
      refine s_q (q_assign rfl) rfl ?_
      refine g_nil ?_
      refine g_then ?_
      refine d_regionL (L0 := []) [] mixed rfl rfl wok_sub ?_
      refine d_q 0 rfl (by kernel_rfl) (q_move rfl) wok_sub rfl (ls' := #[true, false, false, false, false, false, false, false, false]) rfl ?_
      refine d_q 1 rfl (by kernel_rfl) (q_move rfl) wok_sub rfl (ls' := #[true, true, false, false, false, false, false, false, false]) rfl ?_
      refine d_q 2 rfl (by kernel_rfl) (q_move rfl) wok_sub rfl (ls' := #[true, true, true, false, false, false, false, false, false]) rfl ?_
      refine d_q 4 rfl (by kernel_rfl) (q_nilck rfl) wok_sub rfl (ls' := #[true, true, true, false, true, false, false, false, false]) rfl ?_
      refine d_q 5 rfl (by kernel_rfl) (q_field rfl) wok_sub rfl (ls' := #[true, true, true, false, true, true, false, false, false]) rfl ?_
      refine d_q 6 rfl (by kernel_rfl) (q_field rfl) wok_sub rfl (ls' := #[true, true, true, false, true, true, true, false, false]) rfl ?_
      refine d_op 3 rfl (by kernel_rfl) (ls' := #[true, true, true, true, true, true, true, false, false]) rfl wok_sub (g_ownS [] rfl (fun w1 hw1 ho1 => by have h7 := new_i (n) w1 (by omega); exact h7) rfl ?_)
      rintro ⟨b19, g19⟩ ⟨r19, s19⟩
      refine ⟨_, _, inferInstance, inferInstance, ?_⟩
      simp only at r19 s19
      refine d_q 7 rfl (by kernel_rfl) (q_index_arr (i := 1) rfl rfl rfl (by first | decide | omega)) wok_sub rfl (ls' := #[true, true, true, true, true, true, true, true, false]) rfl ?_
      refine d_op 8 rfl (by kernel_rfl) (ls' := #[true, true, true, true, true, true, true, true, true]) rfl wok_sub (g_store rfl rfl rfl rfl rfl rfl rfl ?_)
      refine d_end (by kernel_rfl) (.inr wok_sub) ?_
      refine g_blk_n ?_
      refine g_then ?_
      refine g_region ?_
      refine g_val 13 (v' := .int .i64 ((k : Nat) : Int)) rfl (by rw [hk0]; rfl) ?_
      refine s_q (q_inc (i := k) rfl rfl (by omega)) rfl ?_
      refine s_q (q_move rfl) rfl ?_
      refine g_nil ?_
      exact g_again ((k + 1), b0, b19, g0, g19) (by (try dsimp only); exact ⟨(by first | exact lt_k | omega), ⟨fun _ => hp.1 (by omega), fun _ => ⟨r19, s19⟩⟩⟩) (by first | omega | (simp only; omega)) (by repeat (first | exact trivial | refine ⟨rfl, ?_⟩)) (fun w hw => by subst hk0; have h9 := wok_sub (L' := [Res.blk b12 77 (splice [Value.pointer (some ⟨b0, 0, none⟩), Value.pointer none] (0 + 0 + 0 + 1 * 1) [Value.pointer (some ⟨b19, 0, none⟩)]), Res.blk b0 108 (Rg.c g0), Res.row (Rg.A g0) (Rg.s g0).length (Rg.cap g0) 3 1 (Rg.s g0), Res.blk b19 108 (Rg.c g19), Res.row (Rg.A g19) (Rg.s g19).length (Rg.cap g19) 3 1 (Rg.s g19)]) w hw; exact h9)
  · have eq_k : k = 2 := by have h9 := of_decide_eq_false h1; omega
    refine g_exit ?_
    refine g_then_x (g_then_x (g_blk_hit ?_))
    refine g_then ?_
    refine g_seq ?_
    refine g_region ?_
    refine s_q (q_move rfl) rfl ?_
    refine s_q (q_assign rfl) rfl ?_
    refine g_nil ?_
    refine g_then ?_
    refine g_ret ?_
    refine g_setL (L' := [Res.blk b12 77 [Value.pointer (some ⟨b0, 0, none⟩), Value.pointer (some ⟨b1, 0, none⟩)], Res.blk b0 108 (Rg.c g0), Res.row (Rg.A g0) (Rg.s g0).length (Rg.cap g0) 3 1 (Rg.s g0), Res.blk b1 108 (Rg.c g1), Res.row (Rg.A g1) (Rg.s g1).length (Rg.cap g1) 3 1 (Rg.s g1)]) (by subst eq_k; rfl) ?_
    exact fin1 rfl (.tmp rfl) (fun w' hw' => ⟨(b12, b0, b1, g0, g1), (by first | exact ⟨(hp.1 (by omega)).1, (hp.1 (by omega)).2, (hp.2 (by omega)).1, (hp.2 (by omega)).2⟩ | (dsimp only; exact ⟨(hp.1 (by omega)).1, (hp.1 (by omega)).2, (hp.2 (by omega)).1, (hp.2 (by omega)).2⟩)), by first | rfl | (simp_all; done), by have h9 := wok_sub (L' := [Res.blk ((b12, b0, b1, g0, g1)).1 77 [Value.pointer (some ⟨((b12, b0, b1, g0, g1)).2.1, 0, none⟩), Value.pointer (some ⟨((b12, b0, b1, g0, g1)).2.2.1, 0, none⟩)], Res.blk ((b12, b0, b1, g0, g1)).2.1 108 (Rg.c ((b12, b0, b1, g0, g1)).2.2.2.1), Res.row (Rg.A ((b12, b0, b1, g0, g1)).2.2.2.1) (Rg.s ((b12, b0, b1, g0, g1)).2.2.2.1).length (Rg.cap ((b12, b0, b1, g0, g1)).2.2.2.1) 3 1 (Rg.s ((b12, b0, b1, g0, g1)).2.2.2.1), Res.blk ((b12, b0, b1, g0, g1)).2.2.1 108 (Rg.c ((b12, b0, b1, g0, g1)).2.2.2.2), Res.row (Rg.A ((b12, b0, b1, g0, g1)).2.2.2.2) (Rg.s ((b12, b0, b1, g0, g1)).2.2.2.2).length (Rg.cap ((b12, b0, b1, g0, g1)).2.2.2.2) 3 1 (Rg.s ((b12, b0, b1, g0, g1)).2.2.2.2)]) w' hw'; exact h9⟩) _ (.inl rfl)

set_option maxHeartbeats 400000 in
theorem lnew_bad (n : Int) (w : World) (hn : n < 1 ∨ 4096 < n) : Pur Try.prog 11 [.int .i64 n] w (.pointer none) := by
  refine g_start Try.func11 rfl 26 rfl (by simp) ([]) [] (WOK.start _ _) _ rfl ?_
  refine g_seq ?_
  refine g_region ?_
  refine s_q (q_assign rfl) rfl ?_
  refine g_nil ?_
  refine g_then ?_
  refine g_seq ?_
  refine g_seq ?_
  refine g_region ?_
  refine s_q (q_move rfl) rfl ?_
  refine s_q (q_lss rfl rfl) rfl ?_
  refine s_q (q_move rfl) rfl ?_
  refine g_split 7 rfl (fun h1 => ?_) (fun h1 => ?_)
  · refine g_gf rfl rfl rfl rfl ?_
    refine g_gf rfl rfl rfl rfl ?_
    refine s_q (q_pick_t rfl rfl) rfl ?_
    refine g_nil ?_
    refine g_then ?_
    refine g_true rfl ?_
    refine g_seq ?_
    refine g_region ?_
    refine s_q (q_assign rfl) rfl ?_
    refine g_nil ?_
    refine g_then ?_
    refine g_ret ?_
    refine g_then_ret ?_
    exact fin1 rfl (.tmp rfl) (fun w' hw' => ⟨by rfl, hw'.upd⟩) _ (.inl rfl)
  · refine s_qg (q_move rfl) rfl rfl rfl ?_
    refine s_qg (q_gtr rfl rfl) rfl rfl rfl ?_
    refine s_q (q_pick_f rfl rfl) rfl ?_
    refine g_nil ?_
    refine g_then ?_
    refine g_cond rfl (fun h2 => ?_) (fun h2 => ?_)
    · refine g_seq ?_
      refine g_region ?_
      refine s_q (q_assign rfl) rfl ?_
      refine g_nil ?_
      refine g_then ?_
      refine g_ret ?_
      refine g_then_ret ?_
      exact fin1 rfl (.tmp rfl) (fun w' hw' => ⟨by rfl, hw'.upd⟩) _ (.inl rfl)
    · exfalso; simp at h1 h2; omega
end Go.Proofs.Ytmolaicpbaiioaa
