/- the reference lanes -/
import Derived.Test.YtmolaicpbaiioaaW3
namespace Go.Proofs.Ytmolaicpbaiioaa
open Go.RowKit Go.Eg
set_option synthInstance.maxSize 3000
set_option linter.unusedSimpArgs false
set_option linter.unusedVariables false
set_option maxRecDepth 100000
set_option maxHeartbeats 400000 in
theorem rall_0 (wb : Nat) (A0 A1 : Option Addr) (c0 c1 : Nat) (q : LL) (sz : Nat) (w : World) (hw : WOK (fps [Res.blk wb 33 [Value.slice A0 (q).f.length c0, Value.slice A1 (q).v.length c1, Value.int .i64 ((sz : Nat) : Int)], Res.ro A0 (q).f.length 1 ((q).f.map (fun v : Int => [Value.int .i64 v])), Res.ro A1 (q).v.length 1 ((q).v.map (fun v : Int => [Value.int .i64 v]))]) w [Res.blk wb 33 [Value.slice A0 (q).f.length c0, Value.slice A1 (q).v.length c1, Value.int .i64 ((sz : Nat) : Int)], Res.ro A0 (q).f.length 1 ((q).f.map (fun v : Int => [Value.int .i64 v])), Res.ro A1 (q).v.length 1 ((q).v.map (fun v : Int => [Value.int .i64 v]))] w) (hc0 : q.f.length ≤ c0) (hc1 : q.v.length ≤ c1) (hsz : sz ≤ 4096) (hq : q.f.length ≤ sz ∧ q.v.length ≤ sz) : Keep Try.prog 56 [.pointer (some ⟨wb, 0, none⟩), .int .i64 0] w [Res.blk wb 33 [Value.slice A0 (q).f.length c0, Value.slice A1 (q).v.length c1, Value.int .i64 ((sz : Nat) : Int)], Res.ro A0 (q).f.length 1 ((q).f.map (fun v : Int => [Value.int .i64 v])), Res.ro A1 (q).v.length 1 ((q).v.map (fun v : Int => [Value.int .i64 v]))] (.slice A0 q.f.length c0) := by
  refine g_start Try.func56 rfl 17 rfl (by simp) (fps [Res.blk wb 33 [Value.slice A0 (q).f.length c0, Value.slice A1 (q).v.length c1, Value.int .i64 ((sz : Nat) : Int)], Res.ro A0 (q).f.length 1 ((q).f.map (fun v : Int => [Value.int .i64 v])), Res.ro A1 (q).v.length 1 ((q).v.map (fun v : Int => [Value.int .i64 v]))]) [Res.blk wb 33 [Value.slice A0 (q).f.length c0, Value.slice A1 (q).v.length c1, Value.int .i64 ((sz : Nat) : Int)], Res.ro A0 (q).f.length 1 ((q).f.map (fun v : Int => [Value.int .i64 v])), Res.ro A1 (q).v.length 1 ((q).v.map (fun v : Int => [Value.int .i64 v]))] hw _ rfl ?_
  refine g_seq ?_
  refine g_region ?_
  refine s_q (q_assign rfl) rfl ?_
  refine g_nil ?_
  refine g_then ?_
  refine g_seq ?_
  refine g_seq ?_
  refine g_region ?_
  refine s_q (q_move rfl) rfl ?_
  refine s_q (q_eql rfl rfl) rfl ?_
  refine g_litb 6 (b := true) rfl (rfl) ?_
  refine g_nil ?_
  refine g_then ?_
  refine g_true rfl ?_
  refine g_seq ?_
  refine g_region ?_
  refine s_q (q_move rfl) rfl ?_
  refine s_q (q_nilck rfl) rfl ?_
  refine s_q (q_field rfl) rfl ?_
  refine s_q (q_load rfl rfl) rfl ?_
  refine s_q (q_assign rfl) rfl ?_
  refine g_nil ?_
  refine g_then ?_
  refine g_ret ?_
  refine g_then_ret ?_
  exact fin1 rfl (.tmp rfl) (fun w' hw' => ⟨(), trivial, by first | rfl | (simp_all; done), by have h9 := wok_sub (L' := [Res.blk wb 33 [Value.slice A0 (q).f.length c0, Value.slice A1 (q).v.length c1, Value.int .i64 ((sz : Nat) : Int)], Res.ro A0 (q).f.length 1 ((q).f.map (fun v : Int => [Value.int .i64 v])), Res.ro A1 (q).v.length 1 ((q).v.map (fun v : Int => [Value.int .i64 v]))]) w' hw'; exact h9⟩) _ (.inl rfl)

set_option maxHeartbeats 400000 in
theorem rall_1 (wb : Nat) (A0 A1 : Option Addr) (c0 c1 : Nat) (q : LL) (sz : Nat) (w : World) (hw : WOK (fps [Res.blk wb 33 [Value.slice A0 (q).f.length c0, Value.slice A1 (q).v.length c1, Value.int .i64 ((sz : Nat) : Int)], Res.ro A0 (q).f.length 1 ((q).f.map (fun v : Int => [Value.int .i64 v])), Res.ro A1 (q).v.length 1 ((q).v.map (fun v : Int => [Value.int .i64 v]))]) w [Res.blk wb 33 [Value.slice A0 (q).f.length c0, Value.slice A1 (q).v.length c1, Value.int .i64 ((sz : Nat) : Int)], Res.ro A0 (q).f.length 1 ((q).f.map (fun v : Int => [Value.int .i64 v])), Res.ro A1 (q).v.length 1 ((q).v.map (fun v : Int => [Value.int .i64 v]))] w) (hc0 : q.f.length ≤ c0) (hc1 : q.v.length ≤ c1) (hsz : sz ≤ 4096) (hq : q.f.length ≤ sz ∧ q.v.length ≤ sz) : Keep Try.prog 56 [.pointer (some ⟨wb, 0, none⟩), .int .i64 1] w [Res.blk wb 33 [Value.slice A0 (q).f.length c0, Value.slice A1 (q).v.length c1, Value.int .i64 ((sz : Nat) : Int)], Res.ro A0 (q).f.length 1 ((q).f.map (fun v : Int => [Value.int .i64 v])), Res.ro A1 (q).v.length 1 ((q).v.map (fun v : Int => [Value.int .i64 v]))] (.slice A1 q.v.length c1) := by
  refine g_start Try.func56 rfl 17 rfl (by simp) (fps [Res.blk wb 33 [Value.slice A0 (q).f.length c0, Value.slice A1 (q).v.length c1, Value.int .i64 ((sz : Nat) : Int)], Res.ro A0 (q).f.length 1 ((q).f.map (fun v : Int => [Value.int .i64 v])), Res.ro A1 (q).v.length 1 ((q).v.map (fun v : Int => [Value.int .i64 v]))]) [Res.blk wb 33 [Value.slice A0 (q).f.length c0, Value.slice A1 (q).v.length c1, Value.int .i64 ((sz : Nat) : Int)], Res.ro A0 (q).f.length 1 ((q).f.map (fun v : Int => [Value.int .i64 v])), Res.ro A1 (q).v.length 1 ((q).v.map (fun v : Int => [Value.int .i64 v]))] hw _ rfl ?_
  refine g_seq ?_
  refine g_region ?_
  refine s_q (q_assign rfl) rfl ?_
  refine g_nil ?_
  refine g_then ?_
  refine g_seq ?_
  refine g_seq ?_
  refine g_region ?_
  refine s_q (q_move rfl) rfl ?_
  refine s_q (q_eql rfl rfl) rfl ?_
  refine g_litb 6 (b := false) rfl (by decide) ?_
  refine g_nil ?_
  refine g_then ?_
  refine g_false rfl ?_
  refine g_skip ?_
  refine g_then ?_
  refine g_seq ?_
  refine g_seq ?_
  refine g_region ?_
  refine s_q (q_move rfl) rfl ?_
  refine s_q (q_eql rfl rfl) rfl ?_
  refine g_litb 12 (b := true) rfl (rfl) ?_
  refine g_nil ?_
  refine g_then ?_
  refine g_true rfl ?_
  refine g_seq ?_
  refine g_region ?_
  refine s_q (q_move rfl) rfl ?_
  refine s_q (q_nilck rfl) rfl ?_
  refine s_q (q_field rfl) rfl ?_
  refine s_q (q_load rfl rfl) rfl ?_
  refine s_q (q_assign rfl) rfl ?_
  refine g_nil ?_
  refine g_then ?_
  refine g_ret ?_
  refine g_then_ret ?_
  exact fin1 rfl (.tmp rfl) (fun w' hw' => ⟨(), trivial, by first | rfl | (simp_all; done), by have h9 := wok_sub (L' := [Res.blk wb 33 [Value.slice A0 (q).f.length c0, Value.slice A1 (q).v.length c1, Value.int .i64 ((sz : Nat) : Int)], Res.ro A0 (q).f.length 1 ((q).f.map (fun v : Int => [Value.int .i64 v])), Res.ro A1 (q).v.length 1 ((q).v.map (fun v : Int => [Value.int .i64 v]))]) w' hw'; exact h9⟩) _ (.inl rfl)

set_option maxHeartbeats 400000 in
theorem rall_b (wb : Nat) (A0 A1 : Option Addr) (c0 c1 : Nat) (q : LL) (sz : Nat) (c : Int) (w : World) (hw : WOK (fps [Res.blk wb 33 [Value.slice A0 (q).f.length c0, Value.slice A1 (q).v.length c1, Value.int .i64 ((sz : Nat) : Int)], Res.ro A0 (q).f.length 1 ((q).f.map (fun v : Int => [Value.int .i64 v])), Res.ro A1 (q).v.length 1 ((q).v.map (fun v : Int => [Value.int .i64 v]))]) w [Res.blk wb 33 [Value.slice A0 (q).f.length c0, Value.slice A1 (q).v.length c1, Value.int .i64 ((sz : Nat) : Int)], Res.ro A0 (q).f.length 1 ((q).f.map (fun v : Int => [Value.int .i64 v])), Res.ro A1 (q).v.length 1 ((q).v.map (fun v : Int => [Value.int .i64 v]))] w) (hc0 : q.f.length ≤ c0) (hc1 : q.v.length ≤ c1) (hsz : sz ≤ 4096) (hq : q.f.length ≤ sz ∧ q.v.length ≤ sz) (hb : c ≠ 0 ∧ c ≠ 1) : Keep Try.prog 56 [.pointer (some ⟨wb, 0, none⟩), .int .i64 c] w [Res.blk wb 33 [Value.slice A0 (q).f.length c0, Value.slice A1 (q).v.length c1, Value.int .i64 ((sz : Nat) : Int)], Res.ro A0 (q).f.length 1 ((q).f.map (fun v : Int => [Value.int .i64 v])), Res.ro A1 (q).v.length 1 ((q).v.map (fun v : Int => [Value.int .i64 v]))] (.slice none 0 0) := by
  refine g_start Try.func56 rfl 17 rfl (by simp) (fps [Res.blk wb 33 [Value.slice A0 (q).f.length c0, Value.slice A1 (q).v.length c1, Value.int .i64 ((sz : Nat) : Int)], Res.ro A0 (q).f.length 1 ((q).f.map (fun v : Int => [Value.int .i64 v])), Res.ro A1 (q).v.length 1 ((q).v.map (fun v : Int => [Value.int .i64 v]))]) [Res.blk wb 33 [Value.slice A0 (q).f.length c0, Value.slice A1 (q).v.length c1, Value.int .i64 ((sz : Nat) : Int)], Res.ro A0 (q).f.length 1 ((q).f.map (fun v : Int => [Value.int .i64 v])), Res.ro A1 (q).v.length 1 ((q).v.map (fun v : Int => [Value.int .i64 v]))] hw _ rfl ?_
  refine g_seq ?_
  refine g_region ?_
  refine s_q (q_assign rfl) rfl ?_
  refine g_nil ?_
  refine g_then ?_
  refine g_seq ?_
  refine g_seq ?_
  refine g_region ?_
  refine s_q (q_move rfl) rfl ?_
  refine s_q (q_eql rfl rfl) rfl ?_
  refine g_litb 6 (b := false) rfl (by simp [hb.1]) ?_
  refine g_nil ?_
  refine g_then ?_
  refine g_false rfl ?_
  refine g_skip ?_
  refine g_then ?_
  refine g_seq ?_
  refine g_seq ?_
  refine g_region ?_
  refine s_q (q_move rfl) rfl ?_
  refine s_q (q_eql rfl rfl) rfl ?_
  refine g_litb 12 (b := false) rfl (by simp [hb.2]) ?_
  refine g_nil ?_
  refine g_then ?_
  refine g_false rfl ?_
  refine g_skip ?_
  refine g_then ?_
  refine g_seq ?_
  refine g_region ?_
  refine s_q (q_assign rfl) rfl ?_
  refine g_nil ?_
  refine g_then ?_
  refine g_ret ?_
  exact fin1 rfl (.tmp rfl) (fun w' hw' => ⟨(), trivial, by first | rfl | (simp_all; done), by have h9 := wok_sub (L' := [Res.blk wb 33 [Value.slice A0 (q).f.length c0, Value.slice A1 (q).v.length c1, Value.int .i64 ((sz : Nat) : Int)], Res.ro A0 (q).f.length 1 ((q).f.map (fun v : Int => [Value.int .i64 v])), Res.ro A1 (q).v.length 1 ((q).v.map (fun v : Int => [Value.int .i64 v]))]) w' hw'; exact h9⟩) _ (.inl rfl)

set_option maxHeartbeats 400000 in
theorem rhead_a (wb : Nat) (A0 A1 : Option Addr) (c0 c1 : Nat) (sz : Nat) (y : Int) (f v : List Int) (w : World) (hw : WOK (fps [Res.blk wb 33 [Value.slice A0 ((LL.mk (y :: f) v)).f.length c0, Value.slice A1 ((LL.mk (y :: f) v)).v.length c1, Value.int .i64 ((sz : Nat) : Int)], Res.ro A0 ((LL.mk (y :: f) v)).f.length 1 (((LL.mk (y :: f) v)).f.map (fun v : Int => [Value.int .i64 v])), Res.ro A1 ((LL.mk (y :: f) v)).v.length 1 (((LL.mk (y :: f) v)).v.map (fun v : Int => [Value.int .i64 v]))]) w [Res.blk wb 33 [Value.slice A0 ((LL.mk (y :: f) v)).f.length c0, Value.slice A1 ((LL.mk (y :: f) v)).v.length c1, Value.int .i64 ((sz : Nat) : Int)], Res.ro A0 ((LL.mk (y :: f) v)).f.length 1 (((LL.mk (y :: f) v)).f.map (fun v : Int => [Value.int .i64 v])), Res.ro A1 ((LL.mk (y :: f) v)).v.length 1 (((LL.mk (y :: f) v)).v.map (fun v : Int => [Value.int .i64 v]))] w) (hc0 : ((LL.mk (y :: f) v)).f.length ≤ c0) (hc1 : ((LL.mk (y :: f) v)).v.length ≤ c1) (hsz : sz ≤ 4096) (hq : ((LL.mk (y :: f) v)).f.length ≤ sz ∧ ((LL.mk (y :: f) v)).v.length ≤ sz) : Keep Try.prog 47 [.pointer (some ⟨wb, 0, none⟩)] w [Res.blk wb 33 [Value.slice A0 ((LL.mk (y :: f) v)).f.length c0, Value.slice A1 ((LL.mk (y :: f) v)).v.length c1, Value.int .i64 ((sz : Nat) : Int)], Res.ro A0 ((LL.mk (y :: f) v)).f.length 1 (((LL.mk (y :: f) v)).f.map (fun v : Int => [Value.int .i64 v])), Res.ro A1 ((LL.mk (y :: f) v)).v.length 1 (((LL.mk (y :: f) v)).v.map (fun v : Int => [Value.int .i64 v]))] (.tuple [.int .i64 (headI (LL.mk (y :: f) v)), .int .i64 (headC (LL.mk (y :: f) v)), .bool (headB (LL.mk (y :: f) v))].toArray) := by
  refine g_start Try.func47 rfl 29 rfl (by simp) (fps [Res.blk wb 33 [Value.slice A0 ((LL.mk (y :: f) v)).f.length c0, Value.slice A1 ((LL.mk (y :: f) v)).v.length c1, Value.int .i64 ((sz : Nat) : Int)], Res.ro A0 ((LL.mk (y :: f) v)).f.length 1 (((LL.mk (y :: f) v)).f.map (fun v : Int => [Value.int .i64 v])), Res.ro A1 ((LL.mk (y :: f) v)).v.length 1 (((LL.mk (y :: f) v)).v.map (fun v : Int => [Value.int .i64 v]))]) [Res.blk wb 33 [Value.slice A0 ((LL.mk (y :: f) v)).f.length c0, Value.slice A1 ((LL.mk (y :: f) v)).v.length c1, Value.int .i64 ((sz : Nat) : Int)], Res.ro A0 ((LL.mk (y :: f) v)).f.length 1 (((LL.mk (y :: f) v)).f.map (fun v : Int => [Value.int .i64 v])), Res.ro A1 ((LL.mk (y :: f) v)).v.length 1 (((LL.mk (y :: f) v)).v.map (fun v : Int => [Value.int .i64 v]))] hw _ rfl ?_
  refine g_seq ?_
  refine g_region ?_
  refine s_q (q_assign rfl) rfl ?_
  refine s_q (q_assign rfl) rfl ?_
  refine s_q (q_assign rfl) rfl ?_
  refine g_nil ?_
  refine g_then ?_
  refine g_seq ?_
  refine g_seq ?_
  refine g_region ?_
  refine s_q (q_move rfl) rfl ?_
  refine s_q (q_nilck rfl) rfl ?_
  refine s_q (q_field rfl) rfl ?_
  refine s_q (q_load rfl rfl) rfl ?_
  refine s_q (q_len rfl) rfl ?_
  refine s_q (q_gtr rfl rfl) rfl ?_
  refine g_litb 10 (b := true) rfl (by simp) ?_
  refine g_nil ?_
  refine g_then ?_
  refine g_true rfl ?_
  refine g_seq ?_
  refine g_region ?_
  refine s_q (q_move rfl) rfl ?_
  refine s_q (q_nilck rfl) rfl ?_
  refine s_q (q_field rfl) rfl ?_
  refine s_q (q_load rfl rfl) rfl ?_
  refine s_q (q_index (i := 0) rfl rfl rfl (Rdb.ro (A := A0) (els := (((LL.mk (y :: f) v)).f).map (fun v : Int => [Value.int .i64 v])) (by first | rfl | (simp; done)) (map_cat (c := (fun v : Int => [Value.int .i64 v])) (fun _ => rfl) _)) (by first | omega | (simp; done) | (simp; omega))) rfl ?_
  refine s_q (q_load_el (i := 0) (o := 0) rfl (Rdb.ro (A := A0) (els := (((LL.mk (y :: f) v)).f).map (fun v : Int => [Value.int .i64 v])) (by first | rfl | (simp; done)) (map_cat (c := (fun v : Int => [Value.int .i64 v])) (fun _ => rfl) _)) (map_get (by first | exact (by first | omega | (simp; done) | (simp; omega)) | omega | (simp; done))) rfl rfl) rfl ?_
  refine s_q (q_assign rfl) rfl ?_
  refine s_q (q_assign rfl) rfl ?_
  refine s_q (q_assign rfl) rfl ?_
  refine g_nil ?_
  refine g_then ?_
  refine g_ret ?_
  refine g_then_ret ?_
  exact fin3 rfl (.tmp rfl) (.tmp rfl) (.tmp rfl) (fun w' hw' => ⟨(), trivial, by first | rfl | simp [headI, headC, headB], by have h9 := wok_sub (L' := [Res.blk wb 33 [Value.slice A0 ((LL.mk (y :: f) v)).f.length c0, Value.slice A1 ((LL.mk (y :: f) v)).v.length c1, Value.int .i64 ((sz : Nat) : Int)], Res.ro A0 ((LL.mk (y :: f) v)).f.length 1 (((LL.mk (y :: f) v)).f.map (fun v : Int => [Value.int .i64 v])), Res.ro A1 ((LL.mk (y :: f) v)).v.length 1 (((LL.mk (y :: f) v)).v.map (fun v : Int => [Value.int .i64 v]))]) w' hw'; exact h9⟩) _ (.inl rfl)

set_option maxHeartbeats 400000 in
theorem rhead_b (wb : Nat) (A0 A1 : Option Addr) (c0 c1 : Nat) (sz : Nat) (y : Int) (v : List Int) (w : World) (hw : WOK (fps [Res.blk wb 33 [Value.slice A0 ((LL.mk [] (y :: v))).f.length c0, Value.slice A1 ((LL.mk [] (y :: v))).v.length c1, Value.int .i64 ((sz : Nat) : Int)], Res.ro A0 ((LL.mk [] (y :: v))).f.length 1 (((LL.mk [] (y :: v))).f.map (fun v : Int => [Value.int .i64 v])), Res.ro A1 ((LL.mk [] (y :: v))).v.length 1 (((LL.mk [] (y :: v))).v.map (fun v : Int => [Value.int .i64 v]))]) w [Res.blk wb 33 [Value.slice A0 ((LL.mk [] (y :: v))).f.length c0, Value.slice A1 ((LL.mk [] (y :: v))).v.length c1, Value.int .i64 ((sz : Nat) : Int)], Res.ro A0 ((LL.mk [] (y :: v))).f.length 1 (((LL.mk [] (y :: v))).f.map (fun v : Int => [Value.int .i64 v])), Res.ro A1 ((LL.mk [] (y :: v))).v.length 1 (((LL.mk [] (y :: v))).v.map (fun v : Int => [Value.int .i64 v]))] w) (hc0 : ((LL.mk [] (y :: v))).f.length ≤ c0) (hc1 : ((LL.mk [] (y :: v))).v.length ≤ c1) (hsz : sz ≤ 4096) (hq : ((LL.mk [] (y :: v))).f.length ≤ sz ∧ ((LL.mk [] (y :: v))).v.length ≤ sz) : Keep Try.prog 47 [.pointer (some ⟨wb, 0, none⟩)] w [Res.blk wb 33 [Value.slice A0 ((LL.mk [] (y :: v))).f.length c0, Value.slice A1 ((LL.mk [] (y :: v))).v.length c1, Value.int .i64 ((sz : Nat) : Int)], Res.ro A0 ((LL.mk [] (y :: v))).f.length 1 (((LL.mk [] (y :: v))).f.map (fun v : Int => [Value.int .i64 v])), Res.ro A1 ((LL.mk [] (y :: v))).v.length 1 (((LL.mk [] (y :: v))).v.map (fun v : Int => [Value.int .i64 v]))] (.tuple [.int .i64 (headI (LL.mk [] (y :: v))), .int .i64 (headC (LL.mk [] (y :: v))), .bool (headB (LL.mk [] (y :: v)))].toArray) := by
  refine g_start Try.func47 rfl 29 rfl (by simp) (fps [Res.blk wb 33 [Value.slice A0 ((LL.mk [] (y :: v))).f.length c0, Value.slice A1 ((LL.mk [] (y :: v))).v.length c1, Value.int .i64 ((sz : Nat) : Int)], Res.ro A0 ((LL.mk [] (y :: v))).f.length 1 (((LL.mk [] (y :: v))).f.map (fun v : Int => [Value.int .i64 v])), Res.ro A1 ((LL.mk [] (y :: v))).v.length 1 (((LL.mk [] (y :: v))).v.map (fun v : Int => [Value.int .i64 v]))]) [Res.blk wb 33 [Value.slice A0 ((LL.mk [] (y :: v))).f.length c0, Value.slice A1 ((LL.mk [] (y :: v))).v.length c1, Value.int .i64 ((sz : Nat) : Int)], Res.ro A0 ((LL.mk [] (y :: v))).f.length 1 (((LL.mk [] (y :: v))).f.map (fun v : Int => [Value.int .i64 v])), Res.ro A1 ((LL.mk [] (y :: v))).v.length 1 (((LL.mk [] (y :: v))).v.map (fun v : Int => [Value.int .i64 v]))] hw _ rfl ?_
  refine g_seq ?_
  refine g_region ?_
  refine s_q (q_assign rfl) rfl ?_
  refine s_q (q_assign rfl) rfl ?_
  refine s_q (q_assign rfl) rfl ?_
  refine g_nil ?_
  refine g_then ?_
  refine g_seq ?_
  refine g_seq ?_
  refine g_region ?_
  refine s_q (q_move rfl) rfl ?_
  refine s_q (q_nilck rfl) rfl ?_
  refine s_q (q_field rfl) rfl ?_
  refine s_q (q_load rfl rfl) rfl ?_
  refine s_q (q_len rfl) rfl ?_
  refine s_q (q_gtr rfl rfl) rfl ?_
  refine g_litb 10 (b := false) rfl (by simp) ?_
  refine g_nil ?_
  refine g_then ?_
  refine g_false rfl ?_
  refine g_skip ?_
  refine g_then ?_
  refine g_seq ?_
  refine g_seq ?_
  refine g_region ?_
  refine s_q (q_move rfl) rfl ?_
  refine s_q (q_nilck rfl) rfl ?_
  refine s_q (q_field rfl) rfl ?_
  refine s_q (q_load rfl rfl) rfl ?_
  refine s_q (q_len rfl) rfl ?_
  refine s_q (q_gtr rfl rfl) rfl ?_
  refine g_litb 22 (b := true) rfl (by simp) ?_
  refine g_nil ?_
  refine g_then ?_
  refine g_true rfl ?_
  refine g_seq ?_
  refine g_region ?_
  refine s_q (q_move rfl) rfl ?_
  refine s_q (q_nilck rfl) rfl ?_
  refine s_q (q_field rfl) rfl ?_
  refine s_q (q_load rfl rfl) rfl ?_
  refine s_q (q_index (i := 0) rfl rfl rfl (Rdb.ro (A := A1) (els := (((LL.mk [] (y :: v))).v).map (fun v : Int => [Value.int .i64 v])) (by first | rfl | (simp; done)) (map_cat (c := (fun v : Int => [Value.int .i64 v])) (fun _ => rfl) _)) (by first | omega | (simp; done) | (simp; omega))) rfl ?_
  refine s_q (q_load_el (i := 0) (o := 0) rfl (Rdb.ro (A := A1) (els := (((LL.mk [] (y :: v))).v).map (fun v : Int => [Value.int .i64 v])) (by first | rfl | (simp; done)) (map_cat (c := (fun v : Int => [Value.int .i64 v])) (fun _ => rfl) _)) (map_get (by first | exact (by first | omega | (simp; done) | (simp; omega)) | omega | (simp; done))) rfl rfl) rfl ?_
  refine s_q (q_assign rfl) rfl ?_
  refine s_q (q_assign rfl) rfl ?_
  refine s_q (q_assign rfl) rfl ?_
  refine g_nil ?_
  refine g_then ?_
  refine g_ret ?_
  refine g_then_ret ?_
  exact fin3 rfl (.tmp rfl) (.tmp rfl) (.tmp rfl) (fun w' hw' => ⟨(), trivial, by first | rfl | simp [headI, headC, headB], by have h9 := wok_sub (L' := [Res.blk wb 33 [Value.slice A0 ((LL.mk [] (y :: v))).f.length c0, Value.slice A1 ((LL.mk [] (y :: v))).v.length c1, Value.int .i64 ((sz : Nat) : Int)], Res.ro A0 ((LL.mk [] (y :: v))).f.length 1 (((LL.mk [] (y :: v))).f.map (fun v : Int => [Value.int .i64 v])), Res.ro A1 ((LL.mk [] (y :: v))).v.length 1 (((LL.mk [] (y :: v))).v.map (fun v : Int => [Value.int .i64 v]))]) w' hw'; exact h9⟩) _ (.inl rfl)

set_option maxHeartbeats 400000 in
theorem rhead_c (wb : Nat) (A0 A1 : Option Addr) (c0 c1 : Nat) (sz : Nat)  (w : World) (hw : WOK (fps [Res.blk wb 33 [Value.slice A0 ((LL.mk [] [])).f.length c0, Value.slice A1 ((LL.mk [] [])).v.length c1, Value.int .i64 ((sz : Nat) : Int)], Res.ro A0 ((LL.mk [] [])).f.length 1 (((LL.mk [] [])).f.map (fun v : Int => [Value.int .i64 v])), Res.ro A1 ((LL.mk [] [])).v.length 1 (((LL.mk [] [])).v.map (fun v : Int => [Value.int .i64 v]))]) w [Res.blk wb 33 [Value.slice A0 ((LL.mk [] [])).f.length c0, Value.slice A1 ((LL.mk [] [])).v.length c1, Value.int .i64 ((sz : Nat) : Int)], Res.ro A0 ((LL.mk [] [])).f.length 1 (((LL.mk [] [])).f.map (fun v : Int => [Value.int .i64 v])), Res.ro A1 ((LL.mk [] [])).v.length 1 (((LL.mk [] [])).v.map (fun v : Int => [Value.int .i64 v]))] w) (hc0 : ((LL.mk [] [])).f.length ≤ c0) (hc1 : ((LL.mk [] [])).v.length ≤ c1) (hsz : sz ≤ 4096) (hq : ((LL.mk [] [])).f.length ≤ sz ∧ ((LL.mk [] [])).v.length ≤ sz) : Keep Try.prog 47 [.pointer (some ⟨wb, 0, none⟩)] w [Res.blk wb 33 [Value.slice A0 ((LL.mk [] [])).f.length c0, Value.slice A1 ((LL.mk [] [])).v.length c1, Value.int .i64 ((sz : Nat) : Int)], Res.ro A0 ((LL.mk [] [])).f.length 1 (((LL.mk [] [])).f.map (fun v : Int => [Value.int .i64 v])), Res.ro A1 ((LL.mk [] [])).v.length 1 (((LL.mk [] [])).v.map (fun v : Int => [Value.int .i64 v]))] (.tuple [.int .i64 (headI (LL.mk [] [])), .int .i64 (headC (LL.mk [] [])), .bool (headB (LL.mk [] []))].toArray) := by
  refine g_start Try.func47 rfl 29 rfl (by simp) (fps [Res.blk wb 33 [Value.slice A0 ((LL.mk [] [])).f.length c0, Value.slice A1 ((LL.mk [] [])).v.length c1, Value.int .i64 ((sz : Nat) : Int)], Res.ro A0 ((LL.mk [] [])).f.length 1 (((LL.mk [] [])).f.map (fun v : Int => [Value.int .i64 v])), Res.ro A1 ((LL.mk [] [])).v.length 1 (((LL.mk [] [])).v.map (fun v : Int => [Value.int .i64 v]))]) [Res.blk wb 33 [Value.slice A0 ((LL.mk [] [])).f.length c0, Value.slice A1 ((LL.mk [] [])).v.length c1, Value.int .i64 ((sz : Nat) : Int)], Res.ro A0 ((LL.mk [] [])).f.length 1 (((LL.mk [] [])).f.map (fun v : Int => [Value.int .i64 v])), Res.ro A1 ((LL.mk [] [])).v.length 1 (((LL.mk [] [])).v.map (fun v : Int => [Value.int .i64 v]))] hw _ rfl ?_
  refine g_seq ?_
  refine g_region ?_
  refine s_q (q_assign rfl) rfl ?_
  refine s_q (q_assign rfl) rfl ?_
  refine s_q (q_assign rfl) rfl ?_
  refine g_nil ?_
  refine g_then ?_
  refine g_seq ?_
  refine g_seq ?_
  refine g_region ?_
  refine s_q (q_move rfl) rfl ?_
  refine s_q (q_nilck rfl) rfl ?_
  refine s_q (q_field rfl) rfl ?_
  refine s_q (q_load rfl rfl) rfl ?_
  refine s_q (q_len rfl) rfl ?_
  refine s_q (q_gtr rfl rfl) rfl ?_
  refine g_litb 10 (b := false) rfl (by simp) ?_
  refine g_nil ?_
  refine g_then ?_
  refine g_false rfl ?_
  refine g_skip ?_
  refine g_then ?_
  refine g_seq ?_
  refine g_seq ?_
  refine g_region ?_
  refine s_q (q_move rfl) rfl ?_
  refine s_q (q_nilck rfl) rfl ?_
  refine s_q (q_field rfl) rfl ?_
  refine s_q (q_load rfl rfl) rfl ?_
  refine s_q (q_len rfl) rfl ?_
  refine s_q (q_gtr rfl rfl) rfl ?_
  refine g_litb 22 (b := false) rfl (by simp) ?_
  refine g_nil ?_
  refine g_then ?_
  refine g_false rfl ?_
  refine g_skip ?_
  refine g_then ?_
  refine g_seq ?_
  refine g_region ?_
  refine s_q (q_assign rfl) rfl ?_
  refine s_q (q_assign rfl) rfl ?_
  refine s_q (q_assign rfl) rfl ?_
  refine g_nil ?_
  refine g_then ?_
  refine g_ret ?_
  exact fin3 rfl (.tmp rfl) (.tmp rfl) (.tmp rfl) (fun w' hw' => ⟨(), trivial, by first | rfl | simp [headI, headC, headB], by have h9 := wok_sub (L' := [Res.blk wb 33 [Value.slice A0 ((LL.mk [] [])).f.length c0, Value.slice A1 ((LL.mk [] [])).v.length c1, Value.int .i64 ((sz : Nat) : Int)], Res.ro A0 ((LL.mk [] [])).f.length 1 (((LL.mk [] [])).f.map (fun v : Int => [Value.int .i64 v])), Res.ro A1 ((LL.mk [] [])).v.length 1 (((LL.mk [] [])).v.map (fun v : Int => [Value.int .i64 v]))]) w' hw'; exact h9⟩) _ (.inl rfl)

theorem rhead_any (wb : Nat) (A0 A1 : Option Addr) (c0 c1 : Nat) (q : LL) (sz : Nat) (w : World) (hw : WOK (fps [Res.blk wb 33 [Value.slice A0 (q).f.length c0, Value.slice A1 (q).v.length c1, Value.int .i64 ((sz : Nat) : Int)], Res.ro A0 (q).f.length 1 ((q).f.map (fun v : Int => [Value.int .i64 v])), Res.ro A1 (q).v.length 1 ((q).v.map (fun v : Int => [Value.int .i64 v]))]) w [Res.blk wb 33 [Value.slice A0 (q).f.length c0, Value.slice A1 (q).v.length c1, Value.int .i64 ((sz : Nat) : Int)], Res.ro A0 (q).f.length 1 ((q).f.map (fun v : Int => [Value.int .i64 v])), Res.ro A1 (q).v.length 1 ((q).v.map (fun v : Int => [Value.int .i64 v]))] w) (hc0 : q.f.length ≤ c0) (hc1 : q.v.length ≤ c1) (hsz : sz ≤ 4096) (hq : q.f.length ≤ sz ∧ q.v.length ≤ sz) : Keep Try.prog 47 [.pointer (some ⟨wb, 0, none⟩)] w [Res.blk wb 33 [Value.slice A0 (q).f.length c0, Value.slice A1 (q).v.length c1, Value.int .i64 ((sz : Nat) : Int)], Res.ro A0 (q).f.length 1 ((q).f.map (fun v : Int => [Value.int .i64 v])), Res.ro A1 (q).v.length 1 ((q).v.map (fun v : Int => [Value.int .i64 v]))] (.tuple [.int .i64 (headI q), .int .i64 (headC q), .bool (headB q)].toArray) := by
  obtain ⟨f, v⟩ := q
  match f, v with
  | y :: f, v => exact rhead_a wb A0 A1 c0 c1 sz y f v w hw hc0 hc1 hsz hq
  | [], y :: v => exact rhead_b wb A0 A1 c0 c1 sz y v w hw hc0 hc1 hsz hq
  | [], [] => exact rhead_c wb A0 A1 c0 c1 sz w hw hc0 hc1 hsz hq

set_option maxHeartbeats 400000 in
theorem rpop_a (wb : Nat) (A0 A1 : Option Addr) (c0 c1 : Nat) (sz : Nat) (y : Int) (f v : List Int) (w : World) (hw : WOK (fps [Res.blk wb 33 [Value.slice A0 ((LL.mk (y :: f) v)).f.length c0, Value.slice A1 ((LL.mk (y :: f) v)).v.length c1, Value.int .i64 ((sz : Nat) : Int)], Res.ro A0 ((LL.mk (y :: f) v)).f.length 1 (((LL.mk (y :: f) v)).f.map (fun v : Int => [Value.int .i64 v])), Res.ro A1 ((LL.mk (y :: f) v)).v.length 1 (((LL.mk (y :: f) v)).v.map (fun v : Int => [Value.int .i64 v]))]) w [Res.blk wb 33 [Value.slice A0 ((LL.mk (y :: f) v)).f.length c0, Value.slice A1 ((LL.mk (y :: f) v)).v.length c1, Value.int .i64 ((sz : Nat) : Int)], Res.ro A0 ((LL.mk (y :: f) v)).f.length 1 (((LL.mk (y :: f) v)).f.map (fun v : Int => [Value.int .i64 v])), Res.ro A1 ((LL.mk (y :: f) v)).v.length 1 (((LL.mk (y :: f) v)).v.map (fun v : Int => [Value.int .i64 v]))] w) (hc0 : ((LL.mk (y :: f) v)).f.length ≤ c0) (hc1 : ((LL.mk (y :: f) v)).v.length ≤ c1) (hsz : sz ≤ 4096) (hq : ((LL.mk (y :: f) v)).f.length ≤ sz ∧ ((LL.mk (y :: f) v)).v.length ≤ sz) : Own2 (ι := (Option Addr × Nat × Option Addr × Nat)) Try.prog 50 [.pointer (some ⟨wb, 0, none⟩)] w [Res.blk wb 33 [Value.slice A0 ((LL.mk (y :: f) v)).f.length c0, Value.slice A1 ((LL.mk (y :: f) v)).v.length c1, Value.int .i64 ((sz : Nat) : Int)], Res.ro A0 ((LL.mk (y :: f) v)).f.length 1 (((LL.mk (y :: f) v)).f.map (fun v : Int => [Value.int .i64 v])), Res.ro A1 ((LL.mk (y :: f) v)).v.length 1 (((LL.mk (y :: f) v)).v.map (fun v : Int => [Value.int .i64 v]))] (fun x => (popL (LL.mk (y :: f) v)).f.length ≤ x.2.1 ∧ (popL (LL.mk (y :: f) v)).v.length ≤ x.2.2.2) (fun x => .tuple [.int .i64 (headI (LL.mk (y :: f) v)), .int .i64 (headC (LL.mk (y :: f) v)), .bool (headB (LL.mk (y :: f) v))].toArray) (fun x => []) (fun x => [Res.blk wb 33 [Value.slice x.1 ((popL (LL.mk (y :: f) v))).f.length x.2.1, Value.slice x.2.2.1 ((popL (LL.mk (y :: f) v))).v.length x.2.2.2, Value.int .i64 ((sz : Nat) : Int)], Res.ro x.1 ((popL (LL.mk (y :: f) v))).f.length 1 (((popL (LL.mk (y :: f) v))).f.map (fun v : Int => [Value.int .i64 v])), Res.ro x.2.2.1 ((popL (LL.mk (y :: f) v))).v.length 1 (((popL (LL.mk (y :: f) v))).v.map (fun v : Int => [Value.int .i64 v]))]) := by
  refine g_start Try.func50 rfl 43 rfl (by simp) (fps [Res.blk wb 33 [Value.slice A0 ((LL.mk (y :: f) v)).f.length c0, Value.slice A1 ((LL.mk (y :: f) v)).v.length c1, Value.int .i64 ((sz : Nat) : Int)], Res.ro A0 ((LL.mk (y :: f) v)).f.length 1 (((LL.mk (y :: f) v)).f.map (fun v : Int => [Value.int .i64 v])), Res.ro A1 ((LL.mk (y :: f) v)).v.length 1 (((LL.mk (y :: f) v)).v.map (fun v : Int => [Value.int .i64 v]))]) [Res.blk wb 33 [Value.slice A0 ((LL.mk (y :: f) v)).f.length c0, Value.slice A1 ((LL.mk (y :: f) v)).v.length c1, Value.int .i64 ((sz : Nat) : Int)], Res.ro A0 ((LL.mk (y :: f) v)).f.length 1 (((LL.mk (y :: f) v)).f.map (fun v : Int => [Value.int .i64 v])), Res.ro A1 ((LL.mk (y :: f) v)).v.length 1 (((LL.mk (y :: f) v)).v.map (fun v : Int => [Value.int .i64 v]))] hw _ rfl ?_
  refine g_seq ?_
  refine g_region ?_
  refine s_q (q_assign rfl) rfl ?_
  refine s_q (q_assign rfl) rfl ?_
  refine s_q (q_assign rfl) rfl ?_
  refine g_nil ?_
  refine g_then ?_
  refine g_seq ?_
  refine g_region ?_
  refine s_q (q_move rfl) rfl ?_
  refine g_op (g_keep [Res.blk wb 33 [Value.slice A0 ((LL.mk (y :: f) v)).f.length c0, Value.slice A1 ((LL.mk (y :: f) v)).v.length c1, Value.int .i64 ((sz : Nat) : Int)], Res.ro A0 ((LL.mk (y :: f) v)).f.length 1 (((LL.mk (y :: f) v)).f.map (fun v : Int => [Value.int .i64 v])), Res.ro A1 ((LL.mk (y :: f) v)).v.length 1 (((LL.mk (y :: f) v)).v.map (fun v : Int => [Value.int .i64 v]))] rfl (fun w1 hw1 ho1 => by exact rhead_any wb A0 A1 c0 c1 (LL.mk (y :: f) v) sz w1 ho1 hc0 hc1 (by omega) hq) rfl ?_)
  refine s_q (q_move rfl) rfl ?_
  refine s_q (q_extract rfl rfl) rfl ?_
  refine s_q (q_extract rfl rfl) rfl ?_
  refine g_val 12 (v' := .int .i64 0) rfl (by simp [headC]) ?_
  refine s_q (q_extract rfl rfl) rfl ?_
  refine g_val 13 (v' := .bool true) rfl (by simp [headB]) ?_
  refine s_q (q_assign rfl) rfl ?_
  refine s_q (q_assign rfl) rfl ?_
  refine s_q (q_assign rfl) rfl ?_
  refine g_nil ?_
  refine g_then ?_
  refine g_seq ?_
  refine g_seq ?_
  refine g_region ?_
  refine s_q (q_move rfl) rfl ?_
  refine s_q (q_move rfl) rfl ?_
  refine s_qg (q_move rfl) rfl rfl rfl ?_
  refine s_qg (q_eql rfl rfl) rfl rfl rfl ?_
  refine g_litb 17 (b := true) rfl (rfl) ?_
  refine s_q (q_pick_t rfl rfl) rfl ?_
  refine g_nil ?_
  refine g_then ?_
  refine g_true rfl ?_
  refine g_region ?_
  refine s_q (q_move rfl) rfl ?_
  refine s_q (q_move rfl) rfl ?_
  refine s_q (q_nilck rfl) rfl ?_
  refine s_q (q_field rfl) rfl ?_
  refine s_q (q_load rfl rfl) rfl ?_
  refine s_q (q_slice_l (l := 1) rfl rfl rfl (by simp)) rfl ?_
  refine s_q (q_nilck rfl) rfl ?_
  refine s_q (q_field rfl) rfl ?_
  refine g_op (g_store rfl rfl rfl rfl rfl rfl rfl ?_)
  refine g_blkc (b := wb) [Value.slice (subA A0 c0 1 1) f.length (c0 - 1), Value.slice A1 v.length c1, Value.int .i64 ((sz : Nat) : Int)] (by simp [splice]) ?_
  refine g_roSub (A := A0) c0 1 (y :: f).length f.length (f.map (fun v : Int => [Value.int .i64 v])) (by simp) (Nat.le_refl _) (by simpa using hc0) (by simp) (by rw [List.take_of_length_le (by simp)]; simp) ?_
  refine g_nil ?_
  refine g_then ?_
  refine g_seq ?_
  refine g_seq ?_
  refine g_region ?_
  refine s_q (q_move rfl) rfl ?_
  refine s_q (q_move rfl) rfl ?_
  refine s_qg (q_move rfl) rfl rfl rfl ?_
  refine s_qg (q_eql rfl rfl) rfl rfl rfl ?_
  refine g_litb 30 (b := false) rfl (by decide) ?_
  refine s_q (q_pick_t rfl rfl) rfl ?_
  refine g_nil ?_
  refine g_then ?_
  refine g_false rfl ?_
  refine g_skip ?_
  refine g_then ?_
  refine g_seq ?_
  refine g_region ?_
  refine s_q (q_move rfl) rfl ?_
  refine s_q (q_move rfl) rfl ?_
  refine s_q (q_move rfl) rfl ?_
  refine s_q (q_assign rfl) rfl ?_
  refine s_q (q_assign rfl) rfl ?_
  refine s_q (q_assign rfl) rfl ?_
  refine g_nil ?_
  refine g_then ?_
  refine g_ret ?_
  exact fin3 rfl (.tmp rfl) (.tmp rfl) (.tmp rfl) (fun w' hw' => ⟨((subA A0 c0 1 1), (c0 - 1), A1, c1), (by first | (simp [popL] at hc0 hc1 ⊢; omega) | (dsimp only; (simp [popL] at hc0 hc1 ⊢; omega))), by first | rfl | simp [headI, headC, headB], by have h9 := wok_sub (L' := [Res.blk wb 33 [Value.slice (subA A0 c0 1 1) f.length (c0 - 1), Value.slice A1 v.length c1, Value.int .i64 ((sz : Nat) : Int)], Res.ro (subA A0 c0 1 1) f.length 1 (f.map (fun v : Int => [Value.int .i64 v])), Res.ro A1 ((LL.mk (y :: f) v)).v.length 1 (((LL.mk (y :: f) v)).v.map (fun v : Int => [Value.int .i64 v]))]) w' hw'; exact h9⟩) _ (.inl rfl)

set_option maxHeartbeats 400000 in
theorem rpop_b (wb : Nat) (A0 A1 : Option Addr) (c0 c1 : Nat) (sz : Nat) (y : Int) (v : List Int) (w : World) (hw : WOK (fps [Res.blk wb 33 [Value.slice A0 ((LL.mk [] (y :: v))).f.length c0, Value.slice A1 ((LL.mk [] (y :: v))).v.length c1, Value.int .i64 ((sz : Nat) : Int)], Res.ro A0 ((LL.mk [] (y :: v))).f.length 1 (((LL.mk [] (y :: v))).f.map (fun v : Int => [Value.int .i64 v])), Res.ro A1 ((LL.mk [] (y :: v))).v.length 1 (((LL.mk [] (y :: v))).v.map (fun v : Int => [Value.int .i64 v]))]) w [Res.blk wb 33 [Value.slice A0 ((LL.mk [] (y :: v))).f.length c0, Value.slice A1 ((LL.mk [] (y :: v))).v.length c1, Value.int .i64 ((sz : Nat) : Int)], Res.ro A0 ((LL.mk [] (y :: v))).f.length 1 (((LL.mk [] (y :: v))).f.map (fun v : Int => [Value.int .i64 v])), Res.ro A1 ((LL.mk [] (y :: v))).v.length 1 (((LL.mk [] (y :: v))).v.map (fun v : Int => [Value.int .i64 v]))] w) (hc0 : ((LL.mk [] (y :: v))).f.length ≤ c0) (hc1 : ((LL.mk [] (y :: v))).v.length ≤ c1) (hsz : sz ≤ 4096) (hq : ((LL.mk [] (y :: v))).f.length ≤ sz ∧ ((LL.mk [] (y :: v))).v.length ≤ sz) : Own2 (ι := (Option Addr × Nat × Option Addr × Nat)) Try.prog 50 [.pointer (some ⟨wb, 0, none⟩)] w [Res.blk wb 33 [Value.slice A0 ((LL.mk [] (y :: v))).f.length c0, Value.slice A1 ((LL.mk [] (y :: v))).v.length c1, Value.int .i64 ((sz : Nat) : Int)], Res.ro A0 ((LL.mk [] (y :: v))).f.length 1 (((LL.mk [] (y :: v))).f.map (fun v : Int => [Value.int .i64 v])), Res.ro A1 ((LL.mk [] (y :: v))).v.length 1 (((LL.mk [] (y :: v))).v.map (fun v : Int => [Value.int .i64 v]))] (fun x => (popL (LL.mk [] (y :: v))).f.length ≤ x.2.1 ∧ (popL (LL.mk [] (y :: v))).v.length ≤ x.2.2.2) (fun x => .tuple [.int .i64 (headI (LL.mk [] (y :: v))), .int .i64 (headC (LL.mk [] (y :: v))), .bool (headB (LL.mk [] (y :: v)))].toArray) (fun x => []) (fun x => [Res.blk wb 33 [Value.slice x.1 ((popL (LL.mk [] (y :: v)))).f.length x.2.1, Value.slice x.2.2.1 ((popL (LL.mk [] (y :: v)))).v.length x.2.2.2, Value.int .i64 ((sz : Nat) : Int)], Res.ro x.1 ((popL (LL.mk [] (y :: v)))).f.length 1 (((popL (LL.mk [] (y :: v)))).f.map (fun v : Int => [Value.int .i64 v])), Res.ro x.2.2.1 ((popL (LL.mk [] (y :: v)))).v.length 1 (((popL (LL.mk [] (y :: v)))).v.map (fun v : Int => [Value.int .i64 v]))]) := by
  refine g_start Try.func50 rfl 43 rfl (by simp) (fps [Res.blk wb 33 [Value.slice A0 ((LL.mk [] (y :: v))).f.length c0, Value.slice A1 ((LL.mk [] (y :: v))).v.length c1, Value.int .i64 ((sz : Nat) : Int)], Res.ro A0 ((LL.mk [] (y :: v))).f.length 1 (((LL.mk [] (y :: v))).f.map (fun v : Int => [Value.int .i64 v])), Res.ro A1 ((LL.mk [] (y :: v))).v.length 1 (((LL.mk [] (y :: v))).v.map (fun v : Int => [Value.int .i64 v]))]) [Res.blk wb 33 [Value.slice A0 ((LL.mk [] (y :: v))).f.length c0, Value.slice A1 ((LL.mk [] (y :: v))).v.length c1, Value.int .i64 ((sz : Nat) : Int)], Res.ro A0 ((LL.mk [] (y :: v))).f.length 1 (((LL.mk [] (y :: v))).f.map (fun v : Int => [Value.int .i64 v])), Res.ro A1 ((LL.mk [] (y :: v))).v.length 1 (((LL.mk [] (y :: v))).v.map (fun v : Int => [Value.int .i64 v]))] hw _ rfl ?_
  refine g_seq ?_
  refine g_region ?_
  refine s_q (q_assign rfl) rfl ?_
  refine s_q (q_assign rfl) rfl ?_
  refine s_q (q_assign rfl) rfl ?_
  refine g_nil ?_
  refine g_then ?_
  refine g_seq ?_
  refine g_region ?_
  refine s_q (q_move rfl) rfl ?_
  refine g_op (g_keep [Res.blk wb 33 [Value.slice A0 ((LL.mk [] (y :: v))).f.length c0, Value.slice A1 ((LL.mk [] (y :: v))).v.length c1, Value.int .i64 ((sz : Nat) : Int)], Res.ro A0 ((LL.mk [] (y :: v))).f.length 1 (((LL.mk [] (y :: v))).f.map (fun v : Int => [Value.int .i64 v])), Res.ro A1 ((LL.mk [] (y :: v))).v.length 1 (((LL.mk [] (y :: v))).v.map (fun v : Int => [Value.int .i64 v]))] rfl (fun w1 hw1 ho1 => by exact rhead_any wb A0 A1 c0 c1 (LL.mk [] (y :: v)) sz w1 ho1 hc0 hc1 (by omega) hq) rfl ?_)
  refine s_q (q_move rfl) rfl ?_
  refine s_q (q_extract rfl rfl) rfl ?_
  refine s_q (q_extract rfl rfl) rfl ?_
  refine g_val 12 (v' := .int .i64 1) rfl (by simp [headC]) ?_
  refine s_q (q_extract rfl rfl) rfl ?_
  refine g_val 13 (v' := .bool true) rfl (by simp [headB]) ?_
  refine s_q (q_assign rfl) rfl ?_
  refine s_q (q_assign rfl) rfl ?_
  refine s_q (q_assign rfl) rfl ?_
  refine g_nil ?_
  refine g_then ?_
  refine g_seq ?_
  refine g_seq ?_
  refine g_region ?_
  refine s_q (q_move rfl) rfl ?_
  refine s_q (q_move rfl) rfl ?_
  refine s_qg (q_move rfl) rfl rfl rfl ?_
  refine s_qg (q_eql rfl rfl) rfl rfl rfl ?_
  refine g_litb 17 (b := false) rfl (by decide) ?_
  refine s_q (q_pick_t rfl rfl) rfl ?_
  refine g_nil ?_
  refine g_then ?_
  refine g_false rfl ?_
  refine g_skip ?_
  refine g_then ?_
  refine g_seq ?_
  refine g_seq ?_
  refine g_region ?_
  refine s_q (q_move rfl) rfl ?_
  refine s_q (q_move rfl) rfl ?_
  refine s_qg (q_move rfl) rfl rfl rfl ?_
  refine s_qg (q_eql rfl rfl) rfl rfl rfl ?_
  refine g_litb 30 (b := true) rfl (rfl) ?_
  refine s_q (q_pick_t rfl rfl) rfl ?_
  refine g_nil ?_
  refine g_then ?_
  refine g_true rfl ?_
  refine g_region ?_
  refine s_q (q_move rfl) rfl ?_
  refine s_q (q_move rfl) rfl ?_
  refine s_q (q_nilck rfl) rfl ?_
  refine s_q (q_field rfl) rfl ?_
  refine s_q (q_load rfl rfl) rfl ?_
  refine s_q (q_slice_l (l := 1) rfl rfl rfl (by simp)) rfl ?_
  refine s_q (q_nilck rfl) rfl ?_
  refine s_q (q_field rfl) rfl ?_
  refine g_op (g_store rfl rfl rfl rfl rfl rfl rfl ?_)
  refine g_blkc (b := wb) [Value.slice A0 ([] : List Int).length c0, Value.slice (subA A1 c1 1 1) v.length (c1 - 1), Value.int .i64 ((sz : Nat) : Int)] (by simp [splice]) ?_
  refine g_roSub (A := A1) c1 1 (y :: v).length v.length (v.map (fun v : Int => [Value.int .i64 v])) (by simp) (Nat.le_refl _) (by simpa using hc1) (by simp) (by rw [List.take_of_length_le (by simp)]; simp) ?_
  refine g_nil ?_
  refine g_then ?_
  refine g_seq ?_
  refine g_region ?_
  refine s_q (q_move rfl) rfl ?_
  refine s_q (q_move rfl) rfl ?_
  refine s_q (q_move rfl) rfl ?_
  refine s_q (q_assign rfl) rfl ?_
  refine s_q (q_assign rfl) rfl ?_
  refine s_q (q_assign rfl) rfl ?_
  refine g_nil ?_
  refine g_then ?_
  refine g_ret ?_
  exact fin3 rfl (.tmp rfl) (.tmp rfl) (.tmp rfl) (fun w' hw' => ⟨(A0, c0, (subA A1 c1 1 1), (c1 - 1)), (by first | (simp [popL] at hc0 hc1 ⊢; omega) | (dsimp only; (simp [popL] at hc0 hc1 ⊢; omega))), by first | rfl | simp [headI, headC, headB], by have h9 := wok_sub (L' := [Res.blk wb 33 [Value.slice A0 ([] : List Int).length c0, Value.slice (subA A1 c1 1 1) v.length (c1 - 1), Value.int .i64 ((sz : Nat) : Int)], Res.ro A0 ((LL.mk [] (y :: v))).f.length 1 (((LL.mk [] (y :: v))).f.map (fun v : Int => [Value.int .i64 v])), Res.ro (subA A1 c1 1 1) v.length 1 (v.map (fun v : Int => [Value.int .i64 v]))]) w' hw'; exact h9⟩) _ (.inl rfl)

set_option maxHeartbeats 400000 in
theorem rpop_c (wb : Nat) (A0 A1 : Option Addr) (c0 c1 : Nat) (sz : Nat)  (w : World) (hw : WOK (fps [Res.blk wb 33 [Value.slice A0 ((LL.mk [] [])).f.length c0, Value.slice A1 ((LL.mk [] [])).v.length c1, Value.int .i64 ((sz : Nat) : Int)], Res.ro A0 ((LL.mk [] [])).f.length 1 (((LL.mk [] [])).f.map (fun v : Int => [Value.int .i64 v])), Res.ro A1 ((LL.mk [] [])).v.length 1 (((LL.mk [] [])).v.map (fun v : Int => [Value.int .i64 v]))]) w [Res.blk wb 33 [Value.slice A0 ((LL.mk [] [])).f.length c0, Value.slice A1 ((LL.mk [] [])).v.length c1, Value.int .i64 ((sz : Nat) : Int)], Res.ro A0 ((LL.mk [] [])).f.length 1 (((LL.mk [] [])).f.map (fun v : Int => [Value.int .i64 v])), Res.ro A1 ((LL.mk [] [])).v.length 1 (((LL.mk [] [])).v.map (fun v : Int => [Value.int .i64 v]))] w) (hc0 : ((LL.mk [] [])).f.length ≤ c0) (hc1 : ((LL.mk [] [])).v.length ≤ c1) (hsz : sz ≤ 4096) (hq : ((LL.mk [] [])).f.length ≤ sz ∧ ((LL.mk [] [])).v.length ≤ sz) : Own2 (ι := (Option Addr × Nat × Option Addr × Nat)) Try.prog 50 [.pointer (some ⟨wb, 0, none⟩)] w [Res.blk wb 33 [Value.slice A0 ((LL.mk [] [])).f.length c0, Value.slice A1 ((LL.mk [] [])).v.length c1, Value.int .i64 ((sz : Nat) : Int)], Res.ro A0 ((LL.mk [] [])).f.length 1 (((LL.mk [] [])).f.map (fun v : Int => [Value.int .i64 v])), Res.ro A1 ((LL.mk [] [])).v.length 1 (((LL.mk [] [])).v.map (fun v : Int => [Value.int .i64 v]))] (fun x => (popL (LL.mk [] [])).f.length ≤ x.2.1 ∧ (popL (LL.mk [] [])).v.length ≤ x.2.2.2) (fun x => .tuple [.int .i64 (headI (LL.mk [] [])), .int .i64 (headC (LL.mk [] [])), .bool (headB (LL.mk [] []))].toArray) (fun x => []) (fun x => [Res.blk wb 33 [Value.slice x.1 ((popL (LL.mk [] []))).f.length x.2.1, Value.slice x.2.2.1 ((popL (LL.mk [] []))).v.length x.2.2.2, Value.int .i64 ((sz : Nat) : Int)], Res.ro x.1 ((popL (LL.mk [] []))).f.length 1 (((popL (LL.mk [] []))).f.map (fun v : Int => [Value.int .i64 v])), Res.ro x.2.2.1 ((popL (LL.mk [] []))).v.length 1 (((popL (LL.mk [] []))).v.map (fun v : Int => [Value.int .i64 v]))]) := by
  refine g_start Try.func50 rfl 43 rfl (by simp) (fps [Res.blk wb 33 [Value.slice A0 ((LL.mk [] [])).f.length c0, Value.slice A1 ((LL.mk [] [])).v.length c1, Value.int .i64 ((sz : Nat) : Int)], Res.ro A0 ((LL.mk [] [])).f.length 1 (((LL.mk [] [])).f.map (fun v : Int => [Value.int .i64 v])), Res.ro A1 ((LL.mk [] [])).v.length 1 (((LL.mk [] [])).v.map (fun v : Int => [Value.int .i64 v]))]) [Res.blk wb 33 [Value.slice A0 ((LL.mk [] [])).f.length c0, Value.slice A1 ((LL.mk [] [])).v.length c1, Value.int .i64 ((sz : Nat) : Int)], Res.ro A0 ((LL.mk [] [])).f.length 1 (((LL.mk [] [])).f.map (fun v : Int => [Value.int .i64 v])), Res.ro A1 ((LL.mk [] [])).v.length 1 (((LL.mk [] [])).v.map (fun v : Int => [Value.int .i64 v]))] hw _ rfl ?_
  refine g_seq ?_
  refine g_region ?_
  refine s_q (q_assign rfl) rfl ?_
  refine s_q (q_assign rfl) rfl ?_
  refine s_q (q_assign rfl) rfl ?_
  refine g_nil ?_
  refine g_then ?_
  refine g_seq ?_
  refine g_region ?_
  refine s_q (q_move rfl) rfl ?_
  refine g_op (g_keep [Res.blk wb 33 [Value.slice A0 ((LL.mk [] [])).f.length c0, Value.slice A1 ((LL.mk [] [])).v.length c1, Value.int .i64 ((sz : Nat) : Int)], Res.ro A0 ((LL.mk [] [])).f.length 1 (((LL.mk [] [])).f.map (fun v : Int => [Value.int .i64 v])), Res.ro A1 ((LL.mk [] [])).v.length 1 (((LL.mk [] [])).v.map (fun v : Int => [Value.int .i64 v]))] rfl (fun w1 hw1 ho1 => by exact rhead_any wb A0 A1 c0 c1 (LL.mk [] []) sz w1 ho1 hc0 hc1 (by omega) hq) rfl ?_)
  refine s_q (q_move rfl) rfl ?_
  refine s_q (q_extract rfl rfl) rfl ?_
  refine s_q (q_extract rfl rfl) rfl ?_
  refine g_val 12 (v' := .int .i64 0) rfl (by simp [headC]) ?_
  refine s_q (q_extract rfl rfl) rfl ?_
  refine g_val 13 (v' := .bool false) rfl (by simp [headB]) ?_
  refine s_q (q_assign rfl) rfl ?_
  refine s_q (q_assign rfl) rfl ?_
  refine s_q (q_assign rfl) rfl ?_
  refine g_nil ?_
  refine g_then ?_
  refine g_seq ?_
  refine g_seq ?_
  refine g_region ?_
  refine s_q (q_move rfl) rfl ?_
  refine s_q (q_move rfl) rfl ?_
  refine g_gf rfl rfl rfl rfl ?_
  refine g_gf rfl rfl rfl rfl ?_
  refine s_q (q_pick_f rfl rfl) rfl ?_
  refine g_nil ?_
  refine g_then ?_
  refine g_false rfl ?_
  refine g_skip ?_
  refine g_then ?_
  refine g_seq ?_
  refine g_seq ?_
  refine g_region ?_
  refine s_q (q_move rfl) rfl ?_
  refine s_q (q_move rfl) rfl ?_
  refine g_gf rfl rfl rfl rfl ?_
  refine g_gf rfl rfl rfl rfl ?_
  refine s_q (q_pick_f rfl rfl) rfl ?_
  refine g_nil ?_
  refine g_then ?_
  refine g_false rfl ?_
  refine g_skip ?_
  refine g_then ?_
  refine g_seq ?_
  refine g_region ?_
  refine s_q (q_move rfl) rfl ?_
  refine s_q (q_move rfl) rfl ?_
  refine s_q (q_move rfl) rfl ?_
  refine s_q (q_assign rfl) rfl ?_
  refine s_q (q_assign rfl) rfl ?_
  refine s_q (q_assign rfl) rfl ?_
  refine g_nil ?_
  refine g_then ?_
  refine g_ret ?_
  exact fin3 rfl (.tmp rfl) (.tmp rfl) (.tmp rfl) (fun w' hw' => ⟨(A0, c0, A1, c1), (by first | exact ⟨hc0, hc1⟩ | (dsimp only; exact ⟨hc0, hc1⟩)), by first | rfl | simp [headI, headC, headB], by have h9 := wok_sub (L' := [Res.blk wb 33 [Value.slice A0 ((LL.mk [] [])).f.length c0, Value.slice A1 ((LL.mk [] [])).v.length c1, Value.int .i64 ((sz : Nat) : Int)], Res.ro A0 ((LL.mk [] [])).f.length 1 (((LL.mk [] [])).f.map (fun v : Int => [Value.int .i64 v])), Res.ro A1 ((LL.mk [] [])).v.length 1 (((LL.mk [] [])).v.map (fun v : Int => [Value.int .i64 v]))]) w' hw'; exact h9⟩) _ (.inl rfl)

theorem rpop_any (wb : Nat) (A0 A1 : Option Addr) (c0 c1 : Nat) (q : LL) (sz : Nat) (w : World) (hw : WOK (fps [Res.blk wb 33 [Value.slice A0 (q).f.length c0, Value.slice A1 (q).v.length c1, Value.int .i64 ((sz : Nat) : Int)], Res.ro A0 (q).f.length 1 ((q).f.map (fun v : Int => [Value.int .i64 v])), Res.ro A1 (q).v.length 1 ((q).v.map (fun v : Int => [Value.int .i64 v]))]) w [Res.blk wb 33 [Value.slice A0 (q).f.length c0, Value.slice A1 (q).v.length c1, Value.int .i64 ((sz : Nat) : Int)], Res.ro A0 (q).f.length 1 ((q).f.map (fun v : Int => [Value.int .i64 v])), Res.ro A1 (q).v.length 1 ((q).v.map (fun v : Int => [Value.int .i64 v]))] w) (hc0 : q.f.length ≤ c0) (hc1 : q.v.length ≤ c1) (hsz : sz ≤ 4096) (hq : q.f.length ≤ sz ∧ q.v.length ≤ sz) : Own2 (ι := (Option Addr × Nat × Option Addr × Nat)) Try.prog 50 [.pointer (some ⟨wb, 0, none⟩)] w [Res.blk wb 33 [Value.slice A0 (q).f.length c0, Value.slice A1 (q).v.length c1, Value.int .i64 ((sz : Nat) : Int)], Res.ro A0 (q).f.length 1 ((q).f.map (fun v : Int => [Value.int .i64 v])), Res.ro A1 (q).v.length 1 ((q).v.map (fun v : Int => [Value.int .i64 v]))] (fun x => (popL q).f.length ≤ x.2.1 ∧ (popL q).v.length ≤ x.2.2.2) (fun x => .tuple [.int .i64 (headI q), .int .i64 (headC q), .bool (headB q)].toArray) (fun x => []) (fun x => [Res.blk wb 33 [Value.slice x.1 ((popL q)).f.length x.2.1, Value.slice x.2.2.1 ((popL q)).v.length x.2.2.2, Value.int .i64 ((sz : Nat) : Int)], Res.ro x.1 ((popL q)).f.length 1 (((popL q)).f.map (fun v : Int => [Value.int .i64 v])), Res.ro x.2.2.1 ((popL q)).v.length 1 (((popL q)).v.map (fun v : Int => [Value.int .i64 v]))]) := by
  obtain ⟨f, v⟩ := q
  match f, v with
  | y :: f, v => exact rpop_a wb A0 A1 c0 c1 sz y f v w hw hc0 hc1 hsz hq
  | [], y :: v => exact rpop_b wb A0 A1 c0 c1 sz y v w hw hc0 hc1 hsz hq
  | [], [] => exact rpop_c wb A0 A1 c0 c1 sz w hw hc0 hc1 hsz hq

set_option maxHeartbeats 400000 in
theorem rpush_0 (wb : Nat) (A0 A1 : Option Addr) (c0 c1 : Nat) (q : LL) (sz : Nat) (i : Int) (w : World) (hw : WOK (fps [Res.blk wb 33 [Value.slice A0 (q).f.length c0, Value.slice A1 (q).v.length c1, Value.int .i64 ((sz : Nat) : Int)], Res.ro A0 (q).f.length 1 ((q).f.map (fun v : Int => [Value.int .i64 v])), Res.ro A1 (q).v.length 1 ((q).v.map (fun v : Int => [Value.int .i64 v]))]) w [Res.blk wb 33 [Value.slice A0 (q).f.length c0, Value.slice A1 (q).v.length c1, Value.int .i64 ((sz : Nat) : Int)], Res.ro A0 (q).f.length 1 ((q).f.map (fun v : Int => [Value.int .i64 v])), Res.ro A1 (q).v.length 1 ((q).v.map (fun v : Int => [Value.int .i64 v]))] w) (hc0 : q.f.length ≤ c0) (hc1 : q.v.length ≤ c1) (hsz : sz ≤ 4096) (hq : q.f.length ≤ sz ∧ q.v.length ≤ sz) : Own2 (ι := (Option Addr × Nat × Option Addr × Nat)) Try.prog 30 [.pointer (some ⟨wb, 0, none⟩), .int .i64 0, .int .i64 i] w [Res.blk wb 33 [Value.slice A0 (q).f.length c0, Value.slice A1 (q).v.length c1, Value.int .i64 ((sz : Nat) : Int)], Res.ro A0 (q).f.length 1 ((q).f.map (fun v : Int => [Value.int .i64 v])), Res.ro A1 (q).v.length 1 ((q).v.map (fun v : Int => [Value.int .i64 v]))] (fun x => (pushL sz 0 i q).f.length ≤ x.2.1 ∧ (pushL sz 0 i q).v.length ≤ x.2.2.2) (fun x => .int .i64 (pushE sz 0 q)) (fun x => []) (fun x => [Res.blk wb 33 [Value.slice x.1 ((pushL sz 0 i q)).f.length x.2.1, Value.slice x.2.2.1 ((pushL sz 0 i q)).v.length x.2.2.2, Value.int .i64 ((sz : Nat) : Int)], Res.ro x.1 ((pushL sz 0 i q)).f.length 1 (((pushL sz 0 i q)).f.map (fun v : Int => [Value.int .i64 v])), Res.ro x.2.2.1 ((pushL sz 0 i q)).v.length 1 (((pushL sz 0 i q)).v.map (fun v : Int => [Value.int .i64 v]))]) := by
  refine g_start Try.func30 rfl 48 rfl (by simp) (fps [Res.blk wb 33 [Value.slice A0 (q).f.length c0, Value.slice A1 (q).v.length c1, Value.int .i64 ((sz : Nat) : Int)], Res.ro A0 (q).f.length 1 ((q).f.map (fun v : Int => [Value.int .i64 v])), Res.ro A1 (q).v.length 1 ((q).v.map (fun v : Int => [Value.int .i64 v]))]) [Res.blk wb 33 [Value.slice A0 (q).f.length c0, Value.slice A1 (q).v.length c1, Value.int .i64 ((sz : Nat) : Int)], Res.ro A0 (q).f.length 1 ((q).f.map (fun v : Int => [Value.int .i64 v])), Res.ro A1 (q).v.length 1 ((q).v.map (fun v : Int => [Value.int .i64 v]))] hw _ rfl ?_
  refine g_seq ?_
  refine g_region ?_
  refine s_q (q_assign rfl) rfl ?_
  refine g_nil ?_
  refine g_then ?_
  refine g_seq ?_
  refine g_seq ?_
  refine g_region ?_
  refine s_q (q_move rfl) rfl ?_
  refine s_q (q_neq rfl rfl) rfl ?_
  refine g_litb 8 (b := false) rfl (by decide) ?_
  refine s_q (q_move rfl) rfl ?_
  refine g_gf rfl rfl rfl rfl ?_
  refine g_gf rfl rfl rfl rfl ?_
  refine s_q (q_pick_f rfl rfl) rfl ?_
  refine g_nil ?_
  refine g_then ?_
  refine g_false rfl ?_
  refine g_skip ?_
  refine g_then ?_
  refine g_seq ?_
  refine g_seq ?_
  refine d_region [] mixed rfl rfl ?_
  refine d_q 0 rfl (by kernel_rfl) (q_move rfl) wok_sub rfl (ls' := #[true, false, false, false, false, false, false, false, false]) rfl ?_
  refine d_q 1 rfl (by kernel_rfl) (q_move rfl) wok_sub rfl (ls' := #[true, true, false, false, false, false, false, false, false]) rfl ?_
  refine d_q 4 rfl (by kernel_rfl) (q_move rfl) wok_sub rfl (ls' := #[true, true, false, false, true, false, false, false, false]) rfl ?_
  refine d_q 5 rfl (by kernel_rfl) (q_nilck rfl) wok_sub rfl (ls' := #[true, true, false, false, true, true, false, false, false]) rfl ?_
  refine d_q 6 rfl (by kernel_rfl) (q_field rfl) wok_sub rfl (ls' := #[true, true, false, false, true, true, true, false, false]) rfl ?_
  refine d_q 7 rfl (by kernel_rfl) (q_load rfl rfl) wok_sub rfl (ls' := #[true, true, false, false, true, true, true, true, false]) rfl ?_
  refine d_op 2 rfl (by kernel_rfl) (ls' := #[true, true, true, false, true, true, true, true, false]) rfl wok_sub (g_keep [Res.blk wb 33 [Value.slice A0 (q).f.length c0, Value.slice A1 (q).v.length c1, Value.int .i64 ((sz : Nat) : Int)], Res.ro A0 (q).f.length 1 ((q).f.map (fun v : Int => [Value.int .i64 v])), Res.ro A1 (q).v.length 1 ((q).v.map (fun v : Int => [Value.int .i64 v]))] rfl (fun w1 hw1 ho1 => by exact rall_0 wb A0 A1 c0 c1 q sz w1 ho1 hc0 hc1 (by omega) hq) rfl ?_)
  refine d_q 3 rfl (by kernel_rfl) (q_len rfl) wok_sub rfl (ls' := #[true, true, true, true, true, true, true, true, false]) rfl ?_
  refine d_q 8 rfl (by kernel_rfl) (q_geq rfl rfl) wok_sub rfl (ls' := #[true, true, true, true, true, true, true, true, true]) rfl ?_
  refine d_end (by kernel_rfl) (.inr wok_sub) ?_
  refine g_then ?_
  refine g_cond rfl (fun hx1 => ?_) (fun hx1 => ?_)
  · refine g_seq ?_
    refine g_region ?_
    refine s_q (q_assign rfl) rfl ?_
    refine g_nil ?_
    refine g_then ?_
    refine g_ret ?_
    refine g_then_ret ?_
    have q0 : ¬ q.f.length < sz := by have h9 := of_decide_eq_true hx1; omega
    have ep : pushL sz 0 i q = q := by simp [pushL, q0]
    exact fin1 rfl (.tmp rfl) (fun w' hw' => ⟨(A0, c0, A1, c1), (by first | (rw [ep]; exact ⟨hc0, hc1⟩) | (dsimp only; (rw [ep]; exact ⟨hc0, hc1⟩))), by simp [pushE, q0], by have h9 := wok_sub (L' := [Res.blk wb 33 [Value.slice A0 (q).f.length c0, Value.slice A1 (q).v.length c1, Value.int .i64 ((sz : Nat) : Int)], Res.ro A0 (q).f.length 1 ((q).f.map (fun v : Int => [Value.int .i64 v])), Res.ro A1 (q).v.length 1 ((q).v.map (fun v : Int => [Value.int .i64 v]))]) w' hw'; show WOK _ _ [Res.blk wb 33 [Value.slice ((A0, c0, A1, c1)).1 ((pushL sz 0 i q)).f.length ((A0, c0, A1, c1)).2.1, Value.slice ((A0, c0, A1, c1)).2.2.1 ((pushL sz 0 i q)).v.length ((A0, c0, A1, c1)).2.2.2, Value.int .i64 ((sz : Nat) : Int)], Res.ro ((A0, c0, A1, c1)).1 ((pushL sz 0 i q)).f.length 1 (((pushL sz 0 i q)).f.map (fun v : Int => [Value.int .i64 v])), Res.ro ((A0, c0, A1, c1)).2.2.1 ((pushL sz 0 i q)).v.length 1 (((pushL sz 0 i q)).v.map (fun v : Int => [Value.int .i64 v]))] _; rw [ep]; exact h9⟩) _ (.inl rfl)
  · refine g_skip ?_
    refine g_then ?_
    refine g_seq ?_
    refine g_seq ?_
    refine g_region ?_
    refine s_q (q_move rfl) rfl ?_
    refine s_q (q_eql rfl rfl) rfl ?_
    refine g_litb 23 (b := true) rfl (rfl) ?_
    refine g_nil ?_
    refine g_then ?_
    refine g_true rfl ?_
    refine g_region ?_
    refine s_q (q_move rfl) rfl ?_
    refine g_op (g_lit rfl rfl rfl rfl rfl fun b25 => ?_)
    refine g_norow (t := 25) (T := 3) (k := 1) rfl fun A25 cap25 hc25 => ?_
    refine g_rowels (A := A25) (([] : List Int).map (fun v : Int => [Value.int .i64 v])) rfl ?_
    refine s_q (q_move rfl) rfl ?_
    refine s_q (q_nilck rfl) rfl ?_
    refine s_q (q_field rfl) rfl ?_
    refine s_q (q_load rfl rfl) rfl ?_
    refine g_op (g_append (A := A25) (els := (([] : List Int)).map (fun v : Int => [Value.int .i64 v])) (news := (((q).f).map (fun v : Int => [Value.int .i64 v]))) rfl rfl (Rdb.ro (A := A0) (els := ((q).f).map (fun v : Int => [Value.int .i64 v])) (by first | rfl | (simp; done)) (map_cat (c := (fun v : Int => [Value.int .i64 v])) (fun _ => rfl) _)) (map_one (c := (fun v : Int => [Value.int .i64 v])) (by intro x; simp [Value.oneCell']) _) (by first | omega | (simp; omega) | (simp_all; omega)) rfl fun A30 cap30 => ⟨_, inferInstance, ?_⟩)
    refine g_rowels (A := A30) (((q).f).map (fun v : Int => [Value.int .i64 v])) (by first | rfl | exact List.map_append.symm | (simp; done)) ?_
    refine g_rown (A := A30) (((q).f).length) (by simp) ?_
    refine g_val 30 (v' := .slice A30 (((q).f).length) cap30) rfl (by simp) ?_
    refine s_q (q_move rfl) rfl ?_
    refine g_op (g_lit rfl rfl rfl rfl rfl fun b32 => ?_)
    refine g_blkc (b := b32) ((([i] : List Int).map (fun v : Int => [Value.int .i64 v])).flatten) rfl ?_
    refine g_op (g_append (A := A30) (els := ((q).f).map (fun v : Int => [Value.int .i64 v])) (news := (([i] : List Int).map (fun v : Int => [Value.int .i64 v]))) rfl rfl (InL.rdb (b := b32) rfl (by simp) rfl) (map_one (c := (fun v : Int => [Value.int .i64 v])) (by intro x; simp [Value.oneCell']) _) (by first | omega | (simp; omega) | (simp_all; omega)) rfl fun A33 cap33 => ⟨_, inferInstance, ?_⟩)
    refine g_rowels (A := A33) ((((q).f ++ [i])).map (fun v : Int => [Value.int .i64 v])) (by first | rfl | exact List.map_append.symm | (simp; done)) ?_
    refine g_rowfact A33 fun h33 _ _ => ?_
    replace h33 : (q.f ++ [i]).length ≤ cap33 := by simpa using h33
    refine s_q (q_nilck rfl) rfl ?_
    refine s_q (q_field rfl) rfl ?_
    refine g_op (g_store rfl rfl rfl rfl rfl rfl rfl ?_)
    refine g_blkc (b := wb) [Value.slice A33 (q.f ++ [i]).length cap33, Value.slice A1 q.v.length c1, Value.int .i64 ((sz : Nat) : Int)] (by simp [splice]) ?_
    refine g_toRo (A := A33) (q.f ++ [i]).length ((q.f ++ [i]).map (fun v : Int => [Value.int .i64 v])) (by simp) rfl ?_
    refine g_nil ?_
    refine g_then ?_
    refine g_seq ?_
    refine g_region ?_
    refine s_q (q_assign rfl) rfl ?_
    refine g_nil ?_
    refine g_then ?_
    refine g_ret ?_
    have q0 : q.f.length < sz := by have h9 := of_decide_eq_false hx1; omega
    have ep : pushL sz 0 i q = (LL.mk (q.f ++ [i]) q.v) := by simp [pushL, q0]
    exact fin1 rfl (.tmp rfl) (fun w' hw' => ⟨(A33, cap33, A1, c1), (by first | (rw [ep]; exact ⟨h33, hc1⟩) | (dsimp only; (rw [ep]; exact ⟨h33, hc1⟩))), by simp [pushE, q0], by have h9 := wok_sub (L' := [Res.blk wb 33 [Value.slice A33 (q.f ++ [i]).length cap33, Value.slice A1 q.v.length c1, Value.int .i64 ((sz : Nat) : Int)], Res.ro A33 (q.f ++ [i]).length 1 ((q.f ++ [i]).map (fun v : Int => [Value.int .i64 v])), Res.ro A1 (q).v.length 1 ((q).v.map (fun v : Int => [Value.int .i64 v]))]) w' hw'; show WOK _ _ [Res.blk wb 33 [Value.slice ((A33, cap33, A1, c1)).1 ((pushL sz 0 i q)).f.length ((A33, cap33, A1, c1)).2.1, Value.slice ((A33, cap33, A1, c1)).2.2.1 ((pushL sz 0 i q)).v.length ((A33, cap33, A1, c1)).2.2.2, Value.int .i64 ((sz : Nat) : Int)], Res.ro ((A33, cap33, A1, c1)).1 ((pushL sz 0 i q)).f.length 1 (((pushL sz 0 i q)).f.map (fun v : Int => [Value.int .i64 v])), Res.ro ((A33, cap33, A1, c1)).2.2.1 ((pushL sz 0 i q)).v.length 1 (((pushL sz 0 i q)).v.map (fun v : Int => [Value.int .i64 v]))] _; rw [ep]; exact h9⟩) _ (.inl rfl)

set_option maxHeartbeats 400000 in
theorem rpush_1 (wb : Nat) (A0 A1 : Option Addr) (c0 c1 : Nat) (q : LL) (sz : Nat) (i : Int) (w : World) (hw : WOK (fps [Res.blk wb 33 [Value.slice A0 (q).f.length c0, Value.slice A1 (q).v.length c1, Value.int .i64 ((sz : Nat) : Int)], Res.ro A0 (q).f.length 1 ((q).f.map (fun v : Int => [Value.int .i64 v])), Res.ro A1 (q).v.length 1 ((q).v.map (fun v : Int => [Value.int .i64 v]))]) w [Res.blk wb 33 [Value.slice A0 (q).f.length c0, Value.slice A1 (q).v.length c1, Value.int .i64 ((sz : Nat) : Int)], Res.ro A0 (q).f.length 1 ((q).f.map (fun v : Int => [Value.int .i64 v])), Res.ro A1 (q).v.length 1 ((q).v.map (fun v : Int => [Value.int .i64 v]))] w) (hc0 : q.f.length ≤ c0) (hc1 : q.v.length ≤ c1) (hsz : sz ≤ 4096) (hq : q.f.length ≤ sz ∧ q.v.length ≤ sz) : Own2 (ι := (Option Addr × Nat × Option Addr × Nat)) Try.prog 30 [.pointer (some ⟨wb, 0, none⟩), .int .i64 1, .int .i64 i] w [Res.blk wb 33 [Value.slice A0 (q).f.length c0, Value.slice A1 (q).v.length c1, Value.int .i64 ((sz : Nat) : Int)], Res.ro A0 (q).f.length 1 ((q).f.map (fun v : Int => [Value.int .i64 v])), Res.ro A1 (q).v.length 1 ((q).v.map (fun v : Int => [Value.int .i64 v]))] (fun x => (pushL sz 1 i q).f.length ≤ x.2.1 ∧ (pushL sz 1 i q).v.length ≤ x.2.2.2) (fun x => .int .i64 (pushE sz 1 q)) (fun x => []) (fun x => [Res.blk wb 33 [Value.slice x.1 ((pushL sz 1 i q)).f.length x.2.1, Value.slice x.2.2.1 ((pushL sz 1 i q)).v.length x.2.2.2, Value.int .i64 ((sz : Nat) : Int)], Res.ro x.1 ((pushL sz 1 i q)).f.length 1 (((pushL sz 1 i q)).f.map (fun v : Int => [Value.int .i64 v])), Res.ro x.2.2.1 ((pushL sz 1 i q)).v.length 1 (((pushL sz 1 i q)).v.map (fun v : Int => [Value.int .i64 v]))]) := by
  refine g_start Try.func30 rfl 48 rfl (by simp) (fps [Res.blk wb 33 [Value.slice A0 (q).f.length c0, Value.slice A1 (q).v.length c1, Value.int .i64 ((sz : Nat) : Int)], Res.ro A0 (q).f.length 1 ((q).f.map (fun v : Int => [Value.int .i64 v])), Res.ro A1 (q).v.length 1 ((q).v.map (fun v : Int => [Value.int .i64 v]))]) [Res.blk wb 33 [Value.slice A0 (q).f.length c0, Value.slice A1 (q).v.length c1, Value.int .i64 ((sz : Nat) : Int)], Res.ro A0 (q).f.length 1 ((q).f.map (fun v : Int => [Value.int .i64 v])), Res.ro A1 (q).v.length 1 ((q).v.map (fun v : Int => [Value.int .i64 v]))] hw _ rfl ?_
  refine g_seq ?_
  refine g_region ?_
  refine s_q (q_assign rfl) rfl ?_
  refine g_nil ?_
  refine g_then ?_
  refine g_seq ?_
  refine g_seq ?_
  refine g_region ?_
  refine s_q (q_move rfl) rfl ?_
  refine s_q (q_neq rfl rfl) rfl ?_
  refine g_litb 8 (b := true) rfl (by decide) ?_
  refine s_q (q_move rfl) rfl ?_
  refine s_qg (q_move rfl) rfl rfl rfl ?_
  refine s_qg (q_neq rfl rfl) rfl rfl rfl ?_
  refine g_litb 11 (b := false) rfl (by decide) ?_
  refine s_q (q_pick_t rfl rfl) rfl ?_
  refine g_nil ?_
  refine g_then ?_
  refine g_false rfl ?_
  refine g_skip ?_
  refine g_then ?_
  refine g_seq ?_
  refine g_seq ?_
  refine d_region [] mixed rfl rfl ?_
  refine d_q 0 rfl (by kernel_rfl) (q_move rfl) wok_sub rfl (ls' := #[true, false, false, false, false, false, false, false, false]) rfl ?_
  refine d_q 1 rfl (by kernel_rfl) (q_move rfl) wok_sub rfl (ls' := #[true, true, false, false, false, false, false, false, false]) rfl ?_
  refine d_q 4 rfl (by kernel_rfl) (q_move rfl) wok_sub rfl (ls' := #[true, true, false, false, true, false, false, false, false]) rfl ?_
  refine d_q 5 rfl (by kernel_rfl) (q_nilck rfl) wok_sub rfl (ls' := #[true, true, false, false, true, true, false, false, false]) rfl ?_
  refine d_q 6 rfl (by kernel_rfl) (q_field rfl) wok_sub rfl (ls' := #[true, true, false, false, true, true, true, false, false]) rfl ?_
  refine d_q 7 rfl (by kernel_rfl) (q_load rfl rfl) wok_sub rfl (ls' := #[true, true, false, false, true, true, true, true, false]) rfl ?_
  refine d_op 2 rfl (by kernel_rfl) (ls' := #[true, true, true, false, true, true, true, true, false]) rfl wok_sub (g_keep [Res.blk wb 33 [Value.slice A0 (q).f.length c0, Value.slice A1 (q).v.length c1, Value.int .i64 ((sz : Nat) : Int)], Res.ro A0 (q).f.length 1 ((q).f.map (fun v : Int => [Value.int .i64 v])), Res.ro A1 (q).v.length 1 ((q).v.map (fun v : Int => [Value.int .i64 v]))] rfl (fun w1 hw1 ho1 => by exact rall_1 wb A0 A1 c0 c1 q sz w1 ho1 hc0 hc1 (by omega) hq) rfl ?_)
  refine d_q 3 rfl (by kernel_rfl) (q_len rfl) wok_sub rfl (ls' := #[true, true, true, true, true, true, true, true, false]) rfl ?_
  refine d_q 8 rfl (by kernel_rfl) (q_geq rfl rfl) wok_sub rfl (ls' := #[true, true, true, true, true, true, true, true, true]) rfl ?_
  refine d_end (by kernel_rfl) (.inr wok_sub) ?_
  refine g_then ?_
  refine g_cond rfl (fun hx1 => ?_) (fun hx1 => ?_)
  · refine g_seq ?_
    refine g_region ?_
    refine s_q (q_assign rfl) rfl ?_
    refine g_nil ?_
    refine g_then ?_
    refine g_ret ?_
    refine g_then_ret ?_
    have q0 : ¬ q.v.length < sz := by have h9 := of_decide_eq_true hx1; omega
    have ep : pushL sz 1 i q = q := by simp [pushL, q0]
    exact fin1 rfl (.tmp rfl) (fun w' hw' => ⟨(A0, c0, A1, c1), (by first | (rw [ep]; exact ⟨hc0, hc1⟩) | (dsimp only; (rw [ep]; exact ⟨hc0, hc1⟩))), by simp [pushE, q0], by have h9 := wok_sub (L' := [Res.blk wb 33 [Value.slice A0 (q).f.length c0, Value.slice A1 (q).v.length c1, Value.int .i64 ((sz : Nat) : Int)], Res.ro A0 (q).f.length 1 ((q).f.map (fun v : Int => [Value.int .i64 v])), Res.ro A1 (q).v.length 1 ((q).v.map (fun v : Int => [Value.int .i64 v]))]) w' hw'; show WOK _ _ [Res.blk wb 33 [Value.slice ((A0, c0, A1, c1)).1 ((pushL sz 1 i q)).f.length ((A0, c0, A1, c1)).2.1, Value.slice ((A0, c0, A1, c1)).2.2.1 ((pushL sz 1 i q)).v.length ((A0, c0, A1, c1)).2.2.2, Value.int .i64 ((sz : Nat) : Int)], Res.ro ((A0, c0, A1, c1)).1 ((pushL sz 1 i q)).f.length 1 (((pushL sz 1 i q)).f.map (fun v : Int => [Value.int .i64 v])), Res.ro ((A0, c0, A1, c1)).2.2.1 ((pushL sz 1 i q)).v.length 1 (((pushL sz 1 i q)).v.map (fun v : Int => [Value.int .i64 v]))] _; rw [ep]; exact h9⟩) _ (.inl rfl)
  · refine g_skip ?_
    refine g_then ?_
    refine g_seq ?_
    refine g_seq ?_
    refine g_region ?_
    refine s_q (q_move rfl) rfl ?_
    refine s_q (q_eql rfl rfl) rfl ?_
    refine g_litb 23 (b := false) rfl (by decide) ?_
    refine g_nil ?_
    refine g_then ?_
    refine g_false rfl ?_
    refine g_region ?_
    refine s_q (q_move rfl) rfl ?_
    refine g_op (g_lit rfl rfl rfl rfl rfl fun b37 => ?_)
    refine g_norow (t := 37) (T := 3) (k := 1) rfl fun A37 cap37 hc37 => ?_
    refine g_rowels (A := A37) (([] : List Int).map (fun v : Int => [Value.int .i64 v])) rfl ?_
    refine s_q (q_move rfl) rfl ?_
    refine s_q (q_nilck rfl) rfl ?_
    refine s_q (q_field rfl) rfl ?_
    refine s_q (q_load rfl rfl) rfl ?_
    refine g_op (g_append (A := A37) (els := (([] : List Int)).map (fun v : Int => [Value.int .i64 v])) (news := (((q).v).map (fun v : Int => [Value.int .i64 v]))) rfl rfl (Rdb.ro (A := A1) (els := ((q).v).map (fun v : Int => [Value.int .i64 v])) (by first | rfl | (simp; done)) (map_cat (c := (fun v : Int => [Value.int .i64 v])) (fun _ => rfl) _)) (map_one (c := (fun v : Int => [Value.int .i64 v])) (by intro x; simp [Value.oneCell']) _) (by first | omega | (simp; omega) | (simp_all; omega)) rfl fun A42 cap42 => ⟨_, inferInstance, ?_⟩)
    refine g_rowels (A := A42) (((q).v).map (fun v : Int => [Value.int .i64 v])) (by first | rfl | exact List.map_append.symm | (simp; done)) ?_
    refine g_rown (A := A42) (((q).v).length) (by simp) ?_
    refine g_val 42 (v' := .slice A42 (((q).v).length) cap42) rfl (by simp) ?_
    refine s_q (q_move rfl) rfl ?_
    refine g_op (g_lit rfl rfl rfl rfl rfl fun b44 => ?_)
    refine g_blkc (b := b44) ((([i] : List Int).map (fun v : Int => [Value.int .i64 v])).flatten) rfl ?_
    refine g_op (g_append (A := A42) (els := ((q).v).map (fun v : Int => [Value.int .i64 v])) (news := (([i] : List Int).map (fun v : Int => [Value.int .i64 v]))) rfl rfl (InL.rdb (b := b44) rfl (by simp) rfl) (map_one (c := (fun v : Int => [Value.int .i64 v])) (by intro x; simp [Value.oneCell']) _) (by first | omega | (simp; omega) | (simp_all; omega)) rfl fun A45 cap45 => ⟨_, inferInstance, ?_⟩)
    refine g_rowels (A := A45) ((((q).v ++ [i])).map (fun v : Int => [Value.int .i64 v])) (by first | rfl | exact List.map_append.symm | (simp; done)) ?_
    refine g_rowfact A45 fun h33 _ _ => ?_
    replace h33 : (q.v ++ [i]).length ≤ cap45 := by simpa using h33
    refine s_q (q_nilck rfl) rfl ?_
    refine s_q (q_field rfl) rfl ?_
    refine g_op (g_store rfl rfl rfl rfl rfl rfl rfl ?_)
    refine g_blkc (b := wb) [Value.slice A0 q.f.length c0, Value.slice A45 (q.v ++ [i]).length cap45, Value.int .i64 ((sz : Nat) : Int)] (by simp [splice]) ?_
    refine g_toRo (A := A45) (q.v ++ [i]).length ((q.v ++ [i]).map (fun v : Int => [Value.int .i64 v])) (by simp) rfl ?_
    refine g_nil ?_
    refine g_then ?_
    refine g_seq ?_
    refine g_region ?_
    refine s_q (q_assign rfl) rfl ?_
    refine g_nil ?_
    refine g_then ?_
    refine g_ret ?_
    have q0 : q.v.length < sz := by have h9 := of_decide_eq_false hx1; omega
    have ep : pushL sz 1 i q = (LL.mk q.f (q.v ++ [i])) := by simp [pushL, q0]
    exact fin1 rfl (.tmp rfl) (fun w' hw' => ⟨(A0, c0, A45, cap45), (by first | (rw [ep]; exact ⟨hc0, h33⟩) | (dsimp only; (rw [ep]; exact ⟨hc0, h33⟩))), by simp [pushE, q0], by have h9 := wok_sub (L' := [Res.blk wb 33 [Value.slice A0 q.f.length c0, Value.slice A45 (q.v ++ [i]).length cap45, Value.int .i64 ((sz : Nat) : Int)], Res.ro A0 (q).f.length 1 ((q).f.map (fun v : Int => [Value.int .i64 v])), Res.ro A45 (q.v ++ [i]).length 1 ((q.v ++ [i]).map (fun v : Int => [Value.int .i64 v]))]) w' hw'; show WOK _ _ [Res.blk wb 33 [Value.slice ((A0, c0, A45, cap45)).1 ((pushL sz 1 i q)).f.length ((A0, c0, A45, cap45)).2.1, Value.slice ((A0, c0, A45, cap45)).2.2.1 ((pushL sz 1 i q)).v.length ((A0, c0, A45, cap45)).2.2.2, Value.int .i64 ((sz : Nat) : Int)], Res.ro ((A0, c0, A45, cap45)).1 ((pushL sz 1 i q)).f.length 1 (((pushL sz 1 i q)).f.map (fun v : Int => [Value.int .i64 v])), Res.ro ((A0, c0, A45, cap45)).2.2.1 ((pushL sz 1 i q)).v.length 1 (((pushL sz 1 i q)).v.map (fun v : Int => [Value.int .i64 v]))] _; rw [ep]; exact h9⟩) _ (.inl rfl)

set_option maxHeartbeats 400000 in
theorem rpush_b (wb : Nat) (A0 A1 : Option Addr) (c0 c1 : Nat) (q : LL) (sz : Nat) (i : Int) (c : Int) (w : World) (hw : WOK (fps [Res.blk wb 33 [Value.slice A0 (q).f.length c0, Value.slice A1 (q).v.length c1, Value.int .i64 ((sz : Nat) : Int)], Res.ro A0 (q).f.length 1 ((q).f.map (fun v : Int => [Value.int .i64 v])), Res.ro A1 (q).v.length 1 ((q).v.map (fun v : Int => [Value.int .i64 v]))]) w [Res.blk wb 33 [Value.slice A0 (q).f.length c0, Value.slice A1 (q).v.length c1, Value.int .i64 ((sz : Nat) : Int)], Res.ro A0 (q).f.length 1 ((q).f.map (fun v : Int => [Value.int .i64 v])), Res.ro A1 (q).v.length 1 ((q).v.map (fun v : Int => [Value.int .i64 v]))] w) (hc0 : q.f.length ≤ c0) (hc1 : q.v.length ≤ c1) (hsz : sz ≤ 4096) (hq : q.f.length ≤ sz ∧ q.v.length ≤ sz) (hb : c ≠ 0 ∧ c ≠ 1) : Own2 (ι := (Option Addr × Nat × Option Addr × Nat)) Try.prog 30 [.pointer (some ⟨wb, 0, none⟩), .int .i64 c, .int .i64 i] w [Res.blk wb 33 [Value.slice A0 (q).f.length c0, Value.slice A1 (q).v.length c1, Value.int .i64 ((sz : Nat) : Int)], Res.ro A0 (q).f.length 1 ((q).f.map (fun v : Int => [Value.int .i64 v])), Res.ro A1 (q).v.length 1 ((q).v.map (fun v : Int => [Value.int .i64 v]))] (fun x => (pushL sz c i q).f.length ≤ x.2.1 ∧ (pushL sz c i q).v.length ≤ x.2.2.2) (fun x => .int .i64 (pushE sz c q)) (fun x => []) (fun x => [Res.blk wb 33 [Value.slice x.1 ((pushL sz c i q)).f.length x.2.1, Value.slice x.2.2.1 ((pushL sz c i q)).v.length x.2.2.2, Value.int .i64 ((sz : Nat) : Int)], Res.ro x.1 ((pushL sz c i q)).f.length 1 (((pushL sz c i q)).f.map (fun v : Int => [Value.int .i64 v])), Res.ro x.2.2.1 ((pushL sz c i q)).v.length 1 (((pushL sz c i q)).v.map (fun v : Int => [Value.int .i64 v]))]) := by
  refine g_start Try.func30 rfl 48 rfl (by simp) (fps [Res.blk wb 33 [Value.slice A0 (q).f.length c0, Value.slice A1 (q).v.length c1, Value.int .i64 ((sz : Nat) : Int)], Res.ro A0 (q).f.length 1 ((q).f.map (fun v : Int => [Value.int .i64 v])), Res.ro A1 (q).v.length 1 ((q).v.map (fun v : Int => [Value.int .i64 v]))]) [Res.blk wb 33 [Value.slice A0 (q).f.length c0, Value.slice A1 (q).v.length c1, Value.int .i64 ((sz : Nat) : Int)], Res.ro A0 (q).f.length 1 ((q).f.map (fun v : Int => [Value.int .i64 v])), Res.ro A1 (q).v.length 1 ((q).v.map (fun v : Int => [Value.int .i64 v]))] hw _ rfl ?_
  refine g_seq ?_
  refine g_region ?_
  refine s_q (q_assign rfl) rfl ?_
  refine g_nil ?_
  refine g_then ?_
  refine g_seq ?_
  refine g_seq ?_
  refine g_region ?_
  refine s_q (q_move rfl) rfl ?_
  refine s_q (q_neq rfl rfl) rfl ?_
  refine g_litb 8 (b := true) rfl (by simp [hb.1]) ?_
  refine s_q (q_move rfl) rfl ?_
  refine s_qg (q_move rfl) rfl rfl rfl ?_
  refine s_qg (q_neq rfl rfl) rfl rfl rfl ?_
  refine g_litb 11 (b := true) rfl (by simp [hb.2]) ?_
  refine s_q (q_pick_t rfl rfl) rfl ?_
  refine g_nil ?_
  refine g_then ?_
  refine g_true rfl ?_
  refine g_seq ?_
  refine g_region ?_
  refine s_q (q_assign rfl) rfl ?_
  refine g_nil ?_
  refine g_then ?_
  refine g_ret ?_
  refine g_then_ret ?_
  have ep : pushL sz c i q = q := by simp [pushL, hb.1, hb.2]
  exact fin1 rfl (.tmp rfl) (fun w' hw' => ⟨(A0, c0, A1, c1), (by first | (rw [ep]; exact ⟨hc0, hc1⟩) | (dsimp only; (rw [ep]; exact ⟨hc0, hc1⟩))), by simp [pushE, hb.1, hb.2], by have h9 := wok_sub (L' := [Res.blk wb 33 [Value.slice A0 (q).f.length c0, Value.slice A1 (q).v.length c1, Value.int .i64 ((sz : Nat) : Int)], Res.ro A0 (q).f.length 1 ((q).f.map (fun v : Int => [Value.int .i64 v])), Res.ro A1 (q).v.length 1 ((q).v.map (fun v : Int => [Value.int .i64 v]))]) w' hw'; show WOK _ _ [Res.blk wb 33 [Value.slice ((A0, c0, A1, c1)).1 ((pushL sz c i q)).f.length ((A0, c0, A1, c1)).2.1, Value.slice ((A0, c0, A1, c1)).2.2.1 ((pushL sz c i q)).v.length ((A0, c0, A1, c1)).2.2.2, Value.int .i64 ((sz : Nat) : Int)], Res.ro ((A0, c0, A1, c1)).1 ((pushL sz c i q)).f.length 1 (((pushL sz c i q)).f.map (fun v : Int => [Value.int .i64 v])), Res.ro ((A0, c0, A1, c1)).2.2.1 ((pushL sz c i q)).v.length 1 (((pushL sz c i q)).v.map (fun v : Int => [Value.int .i64 v]))] _; rw [ep]; exact h9⟩) _ (.inl rfl)

theorem rpush_any (wb : Nat) (A0 A1 : Option Addr) (c0 c1 : Nat) (q : LL) (sz : Nat) (i c : Int) (w : World) (hw : WOK (fps [Res.blk wb 33 [Value.slice A0 (q).f.length c0, Value.slice A1 (q).v.length c1, Value.int .i64 ((sz : Nat) : Int)], Res.ro A0 (q).f.length 1 ((q).f.map (fun v : Int => [Value.int .i64 v])), Res.ro A1 (q).v.length 1 ((q).v.map (fun v : Int => [Value.int .i64 v]))]) w [Res.blk wb 33 [Value.slice A0 (q).f.length c0, Value.slice A1 (q).v.length c1, Value.int .i64 ((sz : Nat) : Int)], Res.ro A0 (q).f.length 1 ((q).f.map (fun v : Int => [Value.int .i64 v])), Res.ro A1 (q).v.length 1 ((q).v.map (fun v : Int => [Value.int .i64 v]))] w) (hc0 : q.f.length ≤ c0) (hc1 : q.v.length ≤ c1) (hsz : sz ≤ 4096) (hq : q.f.length ≤ sz ∧ q.v.length ≤ sz) : Own2 (ι := (Option Addr × Nat × Option Addr × Nat)) Try.prog 30 [.pointer (some ⟨wb, 0, none⟩), .int .i64 c, .int .i64 i] w [Res.blk wb 33 [Value.slice A0 (q).f.length c0, Value.slice A1 (q).v.length c1, Value.int .i64 ((sz : Nat) : Int)], Res.ro A0 (q).f.length 1 ((q).f.map (fun v : Int => [Value.int .i64 v])), Res.ro A1 (q).v.length 1 ((q).v.map (fun v : Int => [Value.int .i64 v]))] (fun x => (pushL sz c i q).f.length ≤ x.2.1 ∧ (pushL sz c i q).v.length ≤ x.2.2.2) (fun x => .int .i64 (pushE sz c q)) (fun x => []) (fun x => [Res.blk wb 33 [Value.slice x.1 ((pushL sz c i q)).f.length x.2.1, Value.slice x.2.2.1 ((pushL sz c i q)).v.length x.2.2.2, Value.int .i64 ((sz : Nat) : Int)], Res.ro x.1 ((pushL sz c i q)).f.length 1 (((pushL sz c i q)).f.map (fun v : Int => [Value.int .i64 v])), Res.ro x.2.2.1 ((pushL sz c i q)).v.length 1 (((pushL sz c i q)).v.map (fun v : Int => [Value.int .i64 v]))]) := by
  by_cases e0 : c = 0
  · subst e0; exact rpush_0 wb A0 A1 c0 c1 q sz i w hw hc0 hc1 hsz hq
  · by_cases e1 : c = 1
    · subst e1; exact rpush_1 wb A0 A1 c0 c1 q sz i w hw hc0 hc1 hsz hq
    · exact rpush_b wb A0 A1 c0 c1 q sz i c w hw hc0 hc1 hsz hq ⟨e0, e1⟩
end Go.Proofs.Ytmolaicpbaiioaa
