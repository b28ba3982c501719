/- walks of the ring of numbers -/
import Derived.Test.YtjfncbgggfammaaS
import Derived.Test.YtjfncbgggfammaaR
import Derived.Test.YtjfncbgggfammaaT
import Derived.Test.YtjfncbgggfammaaG
namespace Go.Proofs.Ytjfncbgggfammaa
open Go.RowKit Go.Eg
set_option synthInstance.maxSize 3000
set_option linter.unusedSimpArgs false
set_option linter.unusedVariables false
set_option maxRecDepth 100000
theorem copy1 (s : List (List Value)) {f M : Nat} {z : List Value} (hf : f ≤ s.length) (hM : s.length ≤ M) : (List.replicate M z).take 0 ++ ((s.drop f).take (s.length - f)).take (min (s.length - f) M) ++ (List.replicate M z).drop (0 + min (s.length - f) M) = s.drop f ++ List.replicate (M - (s.length - f)) z := by
  have e : min (s.length - f) M = s.length - f := by omega
  rw [e, List.take_zero, List.nil_append, List.take_of_length_le (by simp), List.take_of_length_le (by simp), Nat.zero_add, List.drop_replicate]
theorem copy2 (s : List (List Value)) {f M : Nat} {z : List Value} (hf : f ≤ s.length) (hM : s.length ≤ M) : (s.drop f ++ List.replicate (M - (s.length - f)) z).take (s.length - f) ++ ((s.drop 0).take (f - 0)).take (min f (M - (s.length - f))) ++ (s.drop f ++ List.replicate (M - (s.length - f)) z).drop (s.length - f + min f (M - (s.length - f))) = s.drop f ++ s.take f ++ List.replicate (M - s.length) z := by
  have e : min f (M - (s.length - f)) = f := by omega
  have h1 : (s.drop f).length = s.length - f := by simp
  rw [e, List.drop_zero, Nat.sub_zero, List.take_left' h1, List.take_take, Nat.min_self, ← List.drop_drop, List.drop_left' h1, List.drop_replicate]
  congr 2; omega
theorem len_grown {s : List (List Value)} (f : Nat) {M : Nat} {z : List Value} (hf : f ≤ s.length) (hM : s.length ≤ M) : (s.drop f ++ s.take f ++ List.replicate (M - s.length) z).length = M := by
  simp; omega
theorem take_zero_eq {α : Type} (l : List α) (m : Nat) : (l.drop 0).take (m - 0) = l.take m := by simp

set_option maxHeartbeats 400000 in
theorem grow_i (b : Nat) (g : Rg)  (l : List (List Value)) (w : World) (hw : WOK (fps [Res.blk b 50 (Rg.c g), Res.row (Rg.A g) (Rg.s g).length (Rg.cap g) 3 1 (Rg.s g)]) w [Res.blk b 50 (Rg.c g), Res.row (Rg.A g) (Rg.s g).length (Rg.cap g) 3 1 (Rg.s g)] w) (h : g.Rep 1 l) (hs : g.n < g.size) : Own2 (ι := Rg) Try.prog 30 [.pointer (some ⟨b, 0, none⟩)] w [Res.blk b 50 (Rg.c g), Res.row (Rg.A g) (Rg.s g).length (Rg.cap g) 3 1 (Rg.s g)] (fun x => x.Rep 1 l ∧ x.n < x.s.length ∧ x.size = g.size) (fun x => .tuple #[]) (fun x => []) (fun x => [Res.blk b 50 (Rg.c x), Res.row (Rg.A x) (Rg.s x).length (Rg.cap x) 3 1 (Rg.s x)]) := by
  refine g_start Try.func30 rfl 58 rfl (by simp) (fps [Res.blk b 50 (Rg.c g), Res.row (Rg.A g) (Rg.s g).length (Rg.cap g) 3 1 (Rg.s g)]) [Res.blk b 50 (Rg.c g), Res.row (Rg.A g) (Rg.s g).length (Rg.cap g) 3 1 (Rg.s g)] hw _ rfl ?_
  refine g_seq ?_
  refine g_seq ?_
  refine d_region [] mixed rfl rfl ?_
  refine d_q 0 rfl (by kernel_rfl) (q_move rfl) wok_sub rfl (ls' := #[true, false, false, false, false, false, false, false, false, false]) rfl ?_
  refine d_q 1 rfl (by kernel_rfl) (q_nilck rfl) wok_sub rfl (ls' := #[true, true, false, false, false, false, false, false, false, false]) rfl ?_
  refine d_q 2 rfl (by kernel_rfl) (q_field rfl) wok_sub rfl (ls' := #[true, true, true, false, false, false, false, false, false, false]) rfl ?_
  refine d_q 3 rfl (by kernel_rfl) (q_load rfl rfl) wok_sub rfl (ls' := #[true, true, true, true, false, false, false, false, false, false]) rfl ?_
  refine d_q 4 rfl (by kernel_rfl) (q_move rfl) wok_sub rfl (ls' := #[true, true, true, true, true, false, false, false, false, false]) rfl ?_
  refine d_q 5 rfl (by kernel_rfl) (q_nilck rfl) wok_sub rfl (ls' := #[true, true, true, true, true, true, false, false, false, false]) rfl ?_
  refine d_q 6 rfl (by kernel_rfl) (q_field rfl) wok_sub rfl (ls' := #[true, true, true, true, true, true, true, false, false, false]) rfl ?_
  refine d_q 7 rfl (by kernel_rfl) (q_load rfl rfl) wok_sub rfl (ls' := #[true, true, true, true, true, true, true, true, false, false]) rfl ?_
  refine d_q 8 rfl (by kernel_rfl) (q_len rfl) wok_sub rfl (ls' := #[true, true, true, true, true, true, true, true, true, false]) rfl ?_
  refine d_q 9 rfl (by kernel_rfl) (q_lss rfl rfl) wok_sub rfl (ls' := #[true, true, true, true, true, true, true, true, true, true]) rfl ?_
  refine d_end (by kernel_rfl) (.inr wok_sub) ?_
  refine g_then ?_
  refine g_cond rfl (fun h1 => ?_) (fun h1 => ?_)
  · refine g_ret ?_
    refine g_then_ret ?_
    exact fin0 rfl (fun w' hw' => ⟨g, (by first | exact ⟨h, by simpa using h1, rfl⟩ | (dsimp only; exact ⟨h, by simpa using h1, rfl⟩)), by first | rfl | (simp_all; done), by have h9 := wok_sub (L' := [Res.blk b 50 (Rg.c g), Res.row (Rg.A g) (Rg.s g).length (Rg.cap g) 3 1 (Rg.s g)]) w' hw'; exact h9⟩) _ (.inl rfl)
  · refine g_skip ?_
    refine g_then ?_
    refine g_seq ?_
    refine d_region [] mixed rfl rfl ?_
    have hn : g.n = g.s.length := by have := h.le; simp at h1; omega
    have q1 := h.sz; have q2 := h.hi; have q3 := h.fst; have q4 := h.cp
    refine d_q 0 rfl (by kernel_rfl) (q_move rfl) wok_sub rfl (ls' := #[true, false, false, false, false, false, false, false, false, false, false, false, false, false]) rfl ?_
    refine d_q 1 rfl (by kernel_rfl) (q_nilck rfl) wok_sub rfl (ls' := #[true, true, false, false, false, false, false, false, false, false, false, false, false, false]) rfl ?_
    refine d_q 2 rfl (by kernel_rfl) (q_field rfl) wok_sub rfl (ls' := #[true, true, true, false, false, false, false, false, false, false, false, false, false, false]) rfl ?_
    refine d_q 3 rfl (by kernel_rfl) (q_load rfl rfl) wok_sub rfl (ls' := #[true, true, true, true, false, false, false, false, false, false, false, false, false, false]) rfl ?_
    refine d_q 4 rfl (by kernel_rfl) (q_move rfl) wok_sub rfl (ls' := #[true, true, true, true, true, false, false, false, false, false, false, false, false, false]) rfl ?_
    refine d_q 5 rfl (by kernel_rfl) (q_nilck rfl) wok_sub rfl (ls' := #[true, true, true, true, true, true, false, false, false, false, false, false, false, false]) rfl ?_
    refine d_q 6 rfl (by kernel_rfl) (q_field rfl) wok_sub rfl (ls' := #[true, true, true, true, true, true, true, false, false, false, false, false, false, false]) rfl ?_
    refine d_q 7 rfl (by kernel_rfl) (q_load rfl rfl) wok_sub rfl (ls' := #[true, true, true, true, true, true, true, true, false, false, false, false, false, false]) rfl ?_
    refine d_q 8 rfl (by kernel_rfl) (q_len rfl) wok_sub rfl (ls' := #[true, true, true, true, true, true, true, true, true, false, false, false, false, false]) rfl ?_
    refine d_q 9 rfl (by kernel_rfl) (q_mulz rfl rfl (wi64 (by omega) (by omega))) wok_sub rfl (ls' := #[true, true, true, true, true, true, true, true, true, true, false, false, false, false]) rfl ?_
    refine d_q 10 rfl (by kernel_rfl) (q_addz rfl rfl (wi64 (by omega) (by omega))) wok_sub rfl (ls' := #[true, true, true, true, true, true, true, true, true, true, true, false, false, false]) rfl ?_
    refine d_q 11 rfl (by kernel_rfl) (q_min rfl rfl) wok_sub rfl (ls' := #[true, true, true, true, true, true, true, true, true, true, true, true, false, false]) rfl ?_
    refine d_op 12 rfl (by kernel_rfl) (ls' := #[true, true, true, true, true, true, true, true, true, true, true, true, true, false]) rfl wok_sub (g_make (n := (min g.size (2 * g.s.length + 1))) rfl rfl (by omega) (by omega) (by omega) rfl fun g26 => ?_)
    refine d_q 13 rfl (by kernel_rfl) (q_assign rfl) wok_sub rfl (ls' := #[true, true, true, true, true, true, true, true, true, true, true, true, true, true]) rfl ?_
    refine d_end (by kernel_rfl) (.inr wok_sub) ?_
    refine g_then ?_
    refine g_seq ?_
    refine d_regionL (L0 := [Res.blk b 50 (Rg.c g), Res.row (Rg.A g) (Rg.s g).length (Rg.cap g) 3 1 (Rg.s g)]) [] mixed rfl rfl wok_sub ?_
    refine d_q 0 rfl (by kernel_rfl) (q_move rfl) wok_sub rfl (ls' := #[true, false, false, false, false, false, false, false, false, false, false, false]) rfl ?_
    refine d_q 1 rfl (by kernel_rfl) (q_move rfl) wok_sub rfl (ls' := #[true, true, false, false, false, false, false, false, false, false, false, false]) rfl ?_
    refine d_q 2 rfl (by kernel_rfl) (q_nilck rfl) wok_sub rfl (ls' := #[true, true, true, false, false, false, false, false, false, false, false, false]) rfl ?_
    refine d_q 3 rfl (by kernel_rfl) (q_field rfl) wok_sub rfl (ls' := #[true, true, true, true, false, false, false, false, false, false, false, false]) rfl ?_
    refine d_q 4 rfl (by kernel_rfl) (q_load rfl rfl) wok_sub rfl (ls' := #[true, true, true, true, true, false, false, false, false, false, false, false]) rfl ?_
    refine d_q 5 rfl (by kernel_rfl) (q_move rfl) wok_sub rfl (ls' := #[true, true, true, true, true, true, false, false, false, false, false, false]) rfl ?_
    refine d_q 6 rfl (by kernel_rfl) (q_nilck rfl) wok_sub rfl (ls' := #[true, true, true, true, true, true, true, false, false, false, false, false]) rfl ?_
    refine d_q 7 rfl (by kernel_rfl) (q_field rfl) wok_sub rfl (ls' := #[true, true, true, true, true, true, true, true, false, false, false, false]) rfl ?_
    refine d_q 8 rfl (by kernel_rfl) (q_load rfl rfl) wok_sub rfl (ls' := #[true, true, true, true, true, true, true, true, true, false, false, false]) rfl ?_
    refine d_q 9 rfl (by kernel_rfl) (q_slice_l (l := g.first) rfl rfl rfl (by omega)) wok_sub rfl (ls' := #[true, true, true, true, true, true, true, true, true, true, false, false]) rfl ?_
    refine d_op 10 rfl (by kernel_rfl) (ls' := #[true, true, true, true, true, true, true, true, true, true, true, false]) rfl wok_sub (g_copy (A := some ⟨g26, 0, none⟩) (n := (min g.size (2 * g.s.length + 1))) (cap := (min g.size (2 * g.s.length + 1))) (els := List.replicate (min g.size (2 * g.s.length + 1)) [Value.int .i64 0]) (l := 0) rfl rfl (fun _ => by simp) (Rdb.sub (Rdb.row 2 rfl rfl (fun c hc => (h.one c hc).1)) (l := g.first) (h := g.s.length) (by omega) (Nat.le_refl _) q4) (by omega) (fun c hc => (h.one c (List.mem_of_mem_drop (List.mem_of_mem_take hc))).2) rfl ?_)
    refine g_setL (L' := [Res.row (some ⟨g26, 0, none⟩) (min g.size (2 * g.s.length + 1)) (min g.size (2 * g.s.length + 1)) 3 1 (g.s.drop g.first ++ List.replicate ((min g.size (2 * g.s.length + 1)) - (g.s.length - g.first)) [Value.int .i64 0]), Res.blk b 50 (Rg.c g), Res.row (Rg.A g) (Rg.s g).length (Rg.cap g) 3 1 (Rg.s g)]) (by rw [copy1 _ (by omega) (by omega)]) ?_
    have ek : min (g.s.length - g.first) (min g.size (2 * g.s.length + 1)) = g.s.length - g.first := by omega
    refine d_q 11 rfl (by kernel_rfl) (q_assign rfl) wok_sub rfl (ls' := #[true, true, true, true, true, true, true, true, true, true, true, true]) rfl ?_
    refine d_end (by kernel_rfl) (.inr wok_sub) ?_
    refine g_then ?_
    refine g_seq ?_
    refine d_regionL (L0 := [Res.blk b 50 (Rg.c g), Res.row (Rg.A g) (Rg.s g).length (Rg.cap g) 3 1 (Rg.s g)]) [] mixed rfl rfl wok_sub ?_
    refine d_q 0 rfl (by kernel_rfl) (q_move rfl) wok_sub rfl (ls' := #[true, false, false, false, false, false, false, false, false, false, false, false, false]) rfl ?_
    refine d_q 1 rfl (by kernel_rfl) (q_move rfl) wok_sub rfl (ls' := #[true, true, false, false, false, false, false, false, false, false, false, false, false]) rfl ?_
    refine d_q 2 rfl (by kernel_rfl) (q_slice_l (l := g.s.length - g.first) rfl rfl (by omega) (by omega)) wok_sub rfl (ls' := #[true, true, true, false, false, false, false, false, false, false, false, false, false]) rfl ?_
    refine d_q 3 rfl (by kernel_rfl) (q_move rfl) wok_sub rfl (ls' := #[true, true, true, true, false, false, false, false, false, false, false, false, false]) rfl ?_
    refine d_q 4 rfl (by kernel_rfl) (q_nilck rfl) wok_sub rfl (ls' := #[true, true, true, true, true, false, false, false, false, false, false, false, false]) rfl ?_
    refine d_q 5 rfl (by kernel_rfl) (q_field rfl) wok_sub rfl (ls' := #[true, true, true, true, true, true, false, false, false, false, false, false, false]) rfl ?_
    refine d_q 6 rfl (by kernel_rfl) (q_load rfl rfl) wok_sub rfl (ls' := #[true, true, true, true, true, true, true, false, false, false, false, false, false]) rfl ?_
    refine d_q 7 rfl (by kernel_rfl) (q_move rfl) wok_sub rfl (ls' := #[true, true, true, true, true, true, true, true, false, false, false, false, false]) rfl ?_
    refine d_q 8 rfl (by kernel_rfl) (q_nilck rfl) wok_sub rfl (ls' := #[true, true, true, true, true, true, true, true, true, false, false, false, false]) rfl ?_
    refine d_q 9 rfl (by kernel_rfl) (q_field rfl) wok_sub rfl (ls' := #[true, true, true, true, true, true, true, true, true, true, false, false, false]) rfl ?_
    refine d_q 10 rfl (by kernel_rfl) (q_load rfl rfl) wok_sub rfl (ls' := #[true, true, true, true, true, true, true, true, true, true, true, false, false]) rfl ?_
    refine d_q 11 rfl (by kernel_rfl) (q_slice_h (h := g.first) rfl rfl rfl (by omega)) wok_sub rfl (ls' := #[true, true, true, true, true, true, true, true, true, true, true, true, false]) rfl ?_
    refine d_op 12 rfl (by kernel_rfl) (ls' := #[true, true, true, true, true, true, true, true, true, true, true, true, true]) rfl wok_sub (g_copy (A := some ⟨g26, 0, none⟩) (n := (min g.size (2 * g.s.length + 1))) (cap := (min g.size (2 * g.s.length + 1))) (els := g.s.drop g.first ++ List.replicate ((min g.size (2 * g.s.length + 1)) - (g.s.length - g.first)) [Value.int .i64 0]) (l := g.s.length - g.first) rfl rfl (fun h0 => by unfold subA; rw [if_neg (by omega)]; simp [add_none]) (Rdb.sub (Rdb.row 2 rfl rfl (fun c hc => (h.one c hc).1)) (l := 0) (h := g.first) (by omega) (by omega) q4) (by omega) (fun c hc => (h.one c (List.mem_of_mem_drop (List.mem_of_mem_take hc))).2) rfl ?_)
    refine g_setL (L' := [Res.row (some ⟨g26, 0, none⟩) (Rg.s (Rg.grown g (some ⟨g26, 0, none⟩) [Value.int .i64 0])).length (Rg.cap (Rg.grown g (some ⟨g26, 0, none⟩) [Value.int .i64 0])) 3 1 (Rg.s (Rg.grown g (some ⟨g26, 0, none⟩) [Value.int .i64 0])), Res.blk b 50 (Rg.c g), Res.row (Rg.A g) (Rg.s g).length (Rg.cap g) 3 1 (Rg.s g)]) (by rw [copy2 _ (by omega) (by omega)]; simp only [Rg.grown, len_grown _ (show g.first ≤ g.s.length by omega) (show g.s.length ≤ (min g.size (2 * g.s.length + 1)) by omega)]) ?_
    refine d_end (by kernel_rfl) (.inr wok_sub) ?_
    refine g_then ?_
    refine g_region ?_
    refine s_q (q_move rfl) rfl ?_
    refine s_q (q_move rfl) rfl ?_
    refine s_q (q_move rfl) rfl ?_
    refine s_q (q_nilck rfl) rfl ?_
    refine s_q (q_field rfl) rfl ?_
    refine g_op (g_store rfl rfl rfl rfl rfl rfl rfl ?_)
    refine s_q (q_nilck rfl) rfl ?_
    refine s_q (q_field rfl) rfl ?_
    refine g_op (g_store rfl rfl rfl rfl rfl rfl rfl ?_)
    refine g_nil ?_
    have hgr := h.grown (some ⟨g26, 0, none⟩) (z := [Value.int .i64 0]) ⟨rfl, by simp [Value.oneCell']⟩ hn hs
    have hgc : splice (splice g.c 0 [Value.slice (some ⟨g26, 0, none⟩) (min g.size (2 * g.s.length + 1)) (min g.size (2 * g.s.length + 1))]) 2 [Value.int .i64 0] = Rg.c (Rg.grown g (some ⟨g26, 0, none⟩) [Value.int .i64 0]) := by simp only [Rg.c, Rg.grown, len_grown _ (show g.first ≤ g.s.length by omega) (show g.s.length ≤ (min g.size (2 * g.s.length + 1)) by omega)]; simp [splice]
    refine g_setL (L' := [Res.row (some ⟨g26, 0, none⟩) (Rg.s (Rg.grown g (some ⟨g26, 0, none⟩) [Value.int .i64 0])).length (Rg.cap (Rg.grown g (some ⟨g26, 0, none⟩) [Value.int .i64 0])) 3 1 (Rg.s (Rg.grown g (some ⟨g26, 0, none⟩) [Value.int .i64 0])), Res.blk b 50 (Rg.c (Rg.grown g (some ⟨g26, 0, none⟩) [Value.int .i64 0])), Res.row (Rg.A g) (Rg.s g).length (Rg.cap g) 3 1 (Rg.s g)]) (by rw [← hgc]) ?_
    exact fin0 rfl (fun w' hw' => ⟨(Rg.grown g (some ⟨g26, 0, none⟩) [Value.int .i64 0]), (by first | exact ⟨hgr.1, hgr.2, rfl⟩ | (dsimp only; exact ⟨hgr.1, hgr.2, rfl⟩)), rfl, by have h9 := wok_sub (L' := [Res.blk b 50 (Rg.c (Rg.grown g (some ⟨g26, 0, none⟩) [Value.int .i64 0])), Res.row (some ⟨g26, 0, none⟩) (Rg.s (Rg.grown g (some ⟨g26, 0, none⟩) [Value.int .i64 0])).length (Rg.cap (Rg.grown g (some ⟨g26, 0, none⟩) [Value.int .i64 0])) 3 1 (Rg.s (Rg.grown g (some ⟨g26, 0, none⟩) [Value.int .i64 0]))]) w' hw'; exact h9⟩) _ (.inr rfl)

set_option maxHeartbeats 400000 in
theorem new_i (n : Nat) (w : World) (hn : 1 ≤ n ∧ n ≤ 1048576) : Own2 (ι := (Nat × Rg)) Try.prog 19 [.int .i64 (n : Int)] w [] (fun x => x.2.Rep 1 (([] : List Int).map (fun v : Int => [Value.int .i64 v])) ∧ x.2.size = n) (fun x => .pointer (some ⟨x.1, 0, none⟩)) (fun x => [Res.blk x.1 50 (Rg.c x.2), Res.row (Rg.A x.2) (Rg.s x.2).length (Rg.cap x.2) 3 1 (Rg.s x.2)]) (fun x => []) := by
  refine g_start Try.func19 rfl 12 rfl (by simp) (fps []) [] (WOK.start _ _) _ rfl ?_
  refine g_seq ?_
  refine g_region ?_
  refine s_q (q_assign rfl) rfl ?_
  refine g_nil ?_
  refine g_then ?_
  refine g_seq ?_
  refine g_seq ?_
  refine g_region ?_
  refine s_q (q_move rfl) rfl ?_
  refine s_q (q_lss rfl rfl) rfl ?_
  refine g_litb 4 (b := false) rfl (by simp; omega) ?_
  refine s_q (q_move rfl) rfl ?_
  refine s_qg (q_move rfl) rfl rfl rfl ?_
  refine s_qg (q_gtr rfl rfl) rfl rfl rfl ?_
  refine g_litb 7 (b := false) rfl (by simp; omega) ?_
  refine s_q (q_pick_f rfl rfl) rfl ?_
  refine g_nil ?_
  refine g_then ?_
  refine g_false rfl ?_
  refine g_skip ?_
  refine g_then ?_
  refine g_seq ?_
  refine g_region ?_
  refine s_q (q_move rfl) rfl ?_
  refine s_q (q_build (c := Rg.c (Rg.init n)) rfl rfl) rfl ?_
  refine g_op (g_box rfl rfl rfl fun b11 => ?_)
  refine s_q (q_assign rfl) rfl ?_
  refine g_nil ?_
  refine g_then ?_
  refine g_ret ?_
  refine g_nores none 3 1 ?_
  exact fin1 rfl (.tmp rfl) (fun w' hw' => ⟨(b11, Rg.init n), (by first | exact ⟨.init hn.2, rfl⟩ | (dsimp only; exact ⟨.init hn.2, rfl⟩)), rfl, by have h9 := wok_sub (L' := [Res.blk b11 50 (Rg.c (Rg.init n)), Res.row none 0 0 3 1 []]) w' hw'; exact h9⟩) _ (.inl rfl)

set_option maxHeartbeats 400000 in
theorem new_bad_i (n : Int) (w : World) (hn : n < 1 ∨ 1048576 < n) : Pur Try.prog 19 [.int .i64 n] w (.pointer none) := by
  refine g_start Try.func19 rfl 12 rfl (by simp) ([]) [] (WOK.start _ _) _ rfl ?_
  refine g_seq ?_
  refine g_region ?_
  refine s_q (q_assign rfl) rfl ?_
  refine g_nil ?_
  refine g_then ?_
  refine g_seq ?_
  refine g_seq ?_
  refine g_region ?_
  refine s_q (q_move rfl) rfl ?_
  refine s_q (q_lss rfl rfl) rfl ?_
  refine s_q (q_move rfl) rfl ?_
  refine g_split 5 rfl (fun h1 => ?_) (fun h1 => ?_)
  · refine g_gf rfl rfl rfl rfl ?_
    refine g_gf rfl rfl rfl rfl ?_
    refine s_q (q_pick_t rfl rfl) rfl ?_
    refine g_nil ?_
    refine g_then ?_
    refine g_true rfl ?_
    refine g_seq ?_
    refine g_region ?_
    refine s_q (q_assign rfl) rfl ?_
    refine g_nil ?_
    refine g_then ?_
    refine g_ret ?_
    refine g_then_ret ?_
    exact fin1 rfl (.tmp rfl) (fun w' hw' => ⟨by rfl, hw'.upd⟩) _ (.inl rfl)
  · refine s_qg (q_move rfl) rfl rfl rfl ?_
    refine s_qg (q_gtr rfl rfl) rfl rfl rfl ?_
    refine s_q (q_pick_f rfl rfl) rfl ?_
    refine g_nil ?_
    refine g_then ?_
    refine g_cond rfl (fun h2 => ?_) (fun h2 => ?_)
    · refine g_seq ?_
      refine g_region ?_
      refine s_q (q_assign rfl) rfl ?_
      refine g_nil ?_
      refine g_then ?_
      refine g_ret ?_
      refine g_then_ret ?_
      exact fin1 rfl (.tmp rfl) (fun w' hw' => ⟨by rfl, hw'.upd⟩) _ (.inl rfl)
    · exfalso; simp at h1 h2; omega

set_option maxHeartbeats 400000 in
theorem len_i (b : Nat) (g : Rg) (l : List Int) (w : World) (hw : WOK (fps [Res.blk b 50 (Rg.c g), Res.row (Rg.A g) (Rg.s g).length (Rg.cap g) 3 1 (Rg.s g)]) w [Res.blk b 50 (Rg.c g), Res.row (Rg.A g) (Rg.s g).length (Rg.cap g) 3 1 (Rg.s g)] w) (h : g.Rep 1 (l.map (fun v : Int => [Value.int .i64 v]))) : Keep Try.prog 15 [.pointer (some ⟨b, 0, none⟩)] w [Res.blk b 50 (Rg.c g), Res.row (Rg.A g) (Rg.s g).length (Rg.cap g) 3 1 (Rg.s g)] (.int .i64 (l.length : Int)) := by
  refine g_start Try.func15 rfl 9 rfl (by simp) (fps [Res.blk b 50 (Rg.c g), Res.row (Rg.A g) (Rg.s g).length (Rg.cap g) 3 1 (Rg.s g)]) [Res.blk b 50 (Rg.c g), Res.row (Rg.A g) (Rg.s g).length (Rg.cap g) 3 1 (Rg.s g)] hw _ rfl ?_
  refine g_seq ?_
  refine g_region ?_
  refine s_q (q_assign rfl) rfl ?_
  refine g_nil ?_
  refine g_then ?_
  refine g_seq ?_
  refine g_seq ?_
  refine g_region ?_
  refine s_q (q_move rfl) rfl ?_
  refine s_q (q_eqp (b := false) rfl rfl rfl) rfl ?_
  refine g_nil ?_
  refine g_then ?_
  refine g_false rfl ?_
  refine g_skip ?_
  refine g_then ?_
  refine g_seq ?_
  refine g_region ?_
  refine s_q (q_move rfl) rfl ?_
  refine s_q (q_nilck rfl) rfl ?_
  refine s_q (q_field rfl) rfl ?_
  refine s_q (q_load rfl rfl) rfl ?_
  refine s_q (q_assign rfl) rfl ?_
  refine g_nil ?_
  refine g_then ?_
  refine g_ret ?_
  exact fin1 rfl (.tmp rfl) (fun w' hw' => ⟨(), trivial, by rw [h.num], by have h9 := wok_sub (L' := [Res.blk b 50 (Rg.c g), Res.row (Rg.A g) (Rg.s g).length (Rg.cap g) 3 1 (Rg.s g)]) w' hw'; exact h9⟩) _ (.inl rfl)

set_option maxHeartbeats 400000 in
theorem free_i (b : Nat) (g : Rg) (l : List Int) (w : World) (hw : WOK (fps [Res.blk b 50 (Rg.c g), Res.row (Rg.A g) (Rg.s g).length (Rg.cap g) 3 1 (Rg.s g)]) w [Res.blk b 50 (Rg.c g), Res.row (Rg.A g) (Rg.s g).length (Rg.cap g) 3 1 (Rg.s g)] w) (h : g.Rep 1 (l.map (fun v : Int => [Value.int .i64 v]))) : Keep Try.prog 29 [.pointer (some ⟨b, 0, none⟩)] w [Res.blk b 50 (Rg.c g), Res.row (Rg.A g) (Rg.s g).length (Rg.cap g) 3 1 (Rg.s g)] (.int .i64 ((g.size - l.length : Nat) : Int)) := by
  refine g_start Try.func29 rfl 14 rfl (by simp) (fps [Res.blk b 50 (Rg.c g), Res.row (Rg.A g) (Rg.s g).length (Rg.cap g) 3 1 (Rg.s g)]) [Res.blk b 50 (Rg.c g), Res.row (Rg.A g) (Rg.s g).length (Rg.cap g) 3 1 (Rg.s g)] hw _ rfl ?_
  have q1 := h.sz; have q2 := h.hi; have q3 := h.le
  refine g_seq ?_
  refine g_region ?_
  refine s_q (q_assign rfl) rfl ?_
  refine g_nil ?_
  refine g_then ?_
  refine g_seq ?_
  refine g_seq ?_
  refine g_region ?_
  refine s_q (q_move rfl) rfl ?_
  refine s_q (q_eqp (b := false) rfl rfl rfl) rfl ?_
  refine g_nil ?_
  refine g_then ?_
  refine g_false rfl ?_
  refine g_skip ?_
  refine g_then ?_
  refine g_seq ?_
  refine d_region [] mixed rfl rfl ?_
  refine d_q 0 rfl (by kernel_rfl) (q_move rfl) wok_sub rfl (ls' := #[true, false, false, false, false, false, false, false, false, false]) rfl ?_
  refine d_q 1 rfl (by kernel_rfl) (q_nilck rfl) wok_sub rfl (ls' := #[true, true, false, false, false, false, false, false, false, false]) rfl ?_
  refine d_q 2 rfl (by kernel_rfl) (q_field rfl) wok_sub rfl (ls' := #[true, true, true, false, false, false, false, false, false, false]) rfl ?_
  refine d_q 3 rfl (by kernel_rfl) (q_load rfl rfl) wok_sub rfl (ls' := #[true, true, true, true, false, false, false, false, false, false]) rfl ?_
  refine d_q 4 rfl (by kernel_rfl) (q_move rfl) wok_sub rfl (ls' := #[true, true, true, true, true, false, false, false, false, false]) rfl ?_
  refine d_q 5 rfl (by kernel_rfl) (q_nilck rfl) wok_sub rfl (ls' := #[true, true, true, true, true, true, false, false, false, false]) rfl ?_
  refine d_q 6 rfl (by kernel_rfl) (q_field rfl) wok_sub rfl (ls' := #[true, true, true, true, true, true, true, false, false, false]) rfl ?_
  refine d_q 7 rfl (by kernel_rfl) (q_load rfl rfl) wok_sub rfl (ls' := #[true, true, true, true, true, true, true, true, false, false]) rfl ?_
  refine d_q 8 rfl (by kernel_rfl) (q_subn (a := (Rg.size g)) (b := (Rg.n g)) rfl rfl (by first | omega | (simp; omega) | (simp_all; omega)) (by first | omega | (simp; omega) | (simp_all; omega))) wok_sub rfl (ls' := #[true, true, true, true, true, true, true, true, true, false]) rfl ?_
  refine d_q 9 rfl (by kernel_rfl) (q_assign rfl) wok_sub rfl (ls' := #[true, true, true, true, true, true, true, true, true, true]) rfl ?_
  refine d_end (by kernel_rfl) (.inr wok_sub) ?_
  refine g_then ?_
  refine g_ret ?_
  exact fin1 rfl (.tmp rfl) (fun w' hw' => ⟨(), trivial, by rw [h.num], by have h9 := wok_sub (L' := [Res.blk b 50 (Rg.c g), Res.row (Rg.A g) (Rg.s g).length (Rg.cap g) 3 1 (Rg.s g)]) w' hw'; exact h9⟩) _ (.inl rfl)

set_option maxHeartbeats 400000 in
theorem peek_i (b : Nat) (g : Rg) (l : List Int) (i : Int) (w : World) (hw : WOK (fps [Res.blk b 50 (Rg.c g), Res.row (Rg.A g) (Rg.s g).length (Rg.cap g) 3 1 (Rg.s g)]) w [Res.blk b 50 (Rg.c g), Res.row (Rg.A g) (Rg.s g).length (Rg.cap g) 3 1 (Rg.s g)] w) (h : g.Rep 1 (l.map (fun v : Int => [Value.int .i64 v]))) : Keep Try.prog 24 [.pointer (some ⟨b, 0, none⟩), .int .i64 i] w [Res.blk b 50 (Rg.c g), Res.row (Rg.A g) (Rg.s g).length (Rg.cap g) 3 1 (Rg.s g)] (.tuple [.int .i64 ((pk l i).getD 0), .bool (pk l i).isSome].toArray) := by
  refine g_start Try.func24 rfl 34 rfl (by simp) (fps [Res.blk b 50 (Rg.c g), Res.row (Rg.A g) (Rg.s g).length (Rg.cap g) 3 1 (Rg.s g)]) [Res.blk b 50 (Rg.c g), Res.row (Rg.A g) (Rg.s g).length (Rg.cap g) 3 1 (Rg.s g)] hw _ rfl ?_
  refine g_seq ?_
  refine g_region ?_
  refine s_q (q_assign rfl) rfl ?_
  refine s_q (q_assign rfl) rfl ?_
  refine g_nil ?_
  refine g_then ?_
  refine g_seq ?_
  refine g_region ?_
  refine s_q (q_assign rfl) rfl ?_
  refine g_nil ?_
  refine g_then ?_
  refine g_seq ?_
  refine g_seq ?_
  refine g_region ?_
  refine s_q (q_move rfl) rfl ?_
  refine s_q (q_lss rfl rfl) rfl ?_
  refine s_q (q_move rfl) rfl ?_
  refine g_split 9 rfl (fun h1 => ?_) (fun h1 => ?_)
  · refine g_gf rfl rfl rfl rfl ?_
    refine g_gf rfl rfl rfl rfl ?_
    refine g_gf rfl rfl rfl rfl ?_
    refine g_gf rfl rfl rfl rfl ?_
    refine s_q (q_pick_t rfl rfl) rfl ?_
    refine g_nil ?_
    refine g_then ?_
    refine g_true rfl ?_
    refine g_seq ?_
    refine g_region ?_
    refine s_q (q_move rfl) rfl ?_
    refine s_q (q_assign rfl) rfl ?_
    refine s_q (q_assign rfl) rfl ?_
    refine g_nil ?_
    refine g_then ?_
    refine g_ret ?_
    refine g_then_ret ?_
    exact fin2 rfl (.tmp rfl) (.tmp rfl) (fun w' hw' => ⟨(), trivial, by have e : pk l i = none := (by unfold pk; rw [if_neg (by simp at h1; omega)]); rw [e]; rfl, by have h9 := wok_sub (L' := [Res.blk b 50 (Rg.c g), Res.row (Rg.A g) (Rg.s g).length (Rg.cap g) 3 1 (Rg.s g)]) w' hw'; exact h9⟩) _ (.inl rfl)
  · refine s_qg (q_move rfl) rfl rfl rfl ?_
    refine s_qg (q_move rfl) rfl rfl rfl ?_
    refine g_gt rfl rfl (g_keep [Res.blk b 50 (Rg.c g), Res.row (Rg.A g) (Rg.s g).length (Rg.cap g) 3 1 (Rg.s g)] rfl (fun w1 hw1 ho1 => by exact len_i b g l w1 ho1 h) rfl ?_)
    refine s_qg (q_geq rfl rfl) rfl rfl rfl ?_
    refine s_q (q_pick_f rfl rfl) rfl ?_
    refine g_nil ?_
    refine g_then ?_
    refine g_cond rfl (fun h2 => ?_) (fun h2 => ?_)
    · refine g_seq ?_
      refine g_region ?_
      refine s_q (q_move rfl) rfl ?_
      refine s_q (q_assign rfl) rfl ?_
      refine s_q (q_assign rfl) rfl ?_
      refine g_nil ?_
      refine g_then ?_
      refine g_ret ?_
      refine g_then_ret ?_
      exact fin2 rfl (.tmp rfl) (.tmp rfl) (fun w' hw' => ⟨(), trivial, by have e : pk l i = none := (by unfold pk; rw [if_pos (by simp at h1; omega), List.getElem?_eq_none (by simp at h1 h2; omega)]); rw [e]; rfl, by have h9 := wok_sub (L' := [Res.blk b 50 (Rg.c g), Res.row (Rg.A g) (Rg.s g).length (Rg.cap g) 3 1 (Rg.s g)]) w' hw'; exact h9⟩) _ (.inl rfl)
    · obtain ⟨i, rfl⟩ : ∃ i' : Nat, i = i' := ⟨i.toNat, by simp at h1; omega⟩
      have hi : i < l.length := by simp at h2; omega
      have q1 := h.sz; have q2 := h.hi; have q3 := h.le; have q4 := h.num; have q5 := h.fst
      refine g_skip ?_
      refine g_then ?_
      refine g_seq ?_
      refine d_region [] mixed rfl rfl ?_
      refine d_q 0 rfl (by kernel_rfl) (q_move rfl) wok_sub rfl (ls' := #[true, false, false, false, false, false, false, false, false, false, false, false, false, false, false, false, false, false, false, false]) rfl ?_
      refine d_q 1 rfl (by kernel_rfl) (q_nilck rfl) wok_sub rfl (ls' := #[true, true, false, false, false, false, false, false, false, false, false, false, false, false, false, false, false, false, false, false]) rfl ?_
      refine d_q 2 rfl (by kernel_rfl) (q_field rfl) wok_sub rfl (ls' := #[true, true, true, false, false, false, false, false, false, false, false, false, false, false, false, false, false, false, false, false]) rfl ?_
      refine d_q 3 rfl (by kernel_rfl) (q_load rfl rfl) wok_sub rfl (ls' := #[true, true, true, true, false, false, false, false, false, false, false, false, false, false, false, false, false, false, false, false]) rfl ?_
      refine d_q 4 rfl (by kernel_rfl) (q_move rfl) wok_sub rfl (ls' := #[true, true, true, true, true, false, false, false, false, false, false, false, false, false, false, false, false, false, false, false]) rfl ?_
      refine d_q 5 rfl (by kernel_rfl) (q_nilck rfl) wok_sub rfl (ls' := #[true, true, true, true, true, true, false, false, false, false, false, false, false, false, false, false, false, false, false, false]) rfl ?_
      refine d_q 6 rfl (by kernel_rfl) (q_field rfl) wok_sub rfl (ls' := #[true, true, true, true, true, true, true, false, false, false, false, false, false, false, false, false, false, false, false, false]) rfl ?_
      refine d_q 7 rfl (by kernel_rfl) (q_load rfl rfl) wok_sub rfl (ls' := #[true, true, true, true, true, true, true, true, false, false, false, false, false, false, false, false, false, false, false, false]) rfl ?_
      refine d_q 8 rfl (by kernel_rfl) (q_move rfl) wok_sub rfl (ls' := #[true, true, true, true, true, true, true, true, true, false, false, false, false, false, false, false, false, false, false, false]) rfl ?_
      refine d_q 9 rfl (by kernel_rfl) (q_addn (a := g.first) (b := i) rfl rfl (by omega)) wok_sub rfl (ls' := #[true, true, true, true, true, true, true, true, true, true, false, false, false, false, false, false, false, false, false, false]) rfl ?_
      refine d_q 10 rfl (by kernel_rfl) (q_move rfl) wok_sub rfl (ls' := #[true, true, true, true, true, true, true, true, true, true, true, false, false, false, false, false, false, false, false, false]) rfl ?_
      refine d_q 11 rfl (by kernel_rfl) (q_nilck rfl) wok_sub rfl (ls' := #[true, true, true, true, true, true, true, true, true, true, true, true, false, false, false, false, false, false, false, false]) rfl ?_
      refine d_q 12 rfl (by kernel_rfl) (q_field rfl) wok_sub rfl (ls' := #[true, true, true, true, true, true, true, true, true, true, true, true, true, false, false, false, false, false, false, false]) rfl ?_
      refine d_q 13 rfl (by kernel_rfl) (q_load rfl rfl) wok_sub rfl (ls' := #[true, true, true, true, true, true, true, true, true, true, true, true, true, true, false, false, false, false, false, false]) rfl ?_
      refine d_q 14 rfl (by kernel_rfl) (q_len rfl) wok_sub rfl (ls' := #[true, true, true, true, true, true, true, true, true, true, true, true, true, true, true, false, false, false, false, false]) rfl ?_
      refine d_q 15 rfl (by kernel_rfl) (q_remn rfl rfl (by omega)) wok_sub rfl (ls' := #[true, true, true, true, true, true, true, true, true, true, true, true, true, true, true, true, false, false, false, false]) rfl ?_
      refine d_q 16 rfl (by kernel_rfl) (q_index (i := (g.first + i) % g.s.length) rfl rfl rfl (InRow.rdb (A := Rg.A g) rfl (fun c hc => (h.one c hc).1)) (h.idx hi)) wok_sub rfl (ls' := #[true, true, true, true, true, true, true, true, true, true, true, true, true, true, true, true, true, false, false, false]) rfl ?_
      refine d_q 17 rfl (by kernel_rfl) (q_load_el (i := (g.first + i) % g.s.length) (o := 0) rfl (InRow.rdb (A := Rg.A g) rfl (fun c hc => (h.one c hc).1)) (h.at hi) rfl rfl) wok_sub rfl (ls' := #[true, true, true, true, true, true, true, true, true, true, true, true, true, true, true, true, true, true, false, false]) rfl ?_
      refine d_q 18 rfl (by kernel_rfl) (q_assign rfl) wok_sub rfl (ls' := #[true, true, true, true, true, true, true, true, true, true, true, true, true, true, true, true, true, true, true, false]) rfl ?_
      refine d_q 19 rfl (by kernel_rfl) (q_assign rfl) wok_sub rfl (ls' := #[true, true, true, true, true, true, true, true, true, true, true, true, true, true, true, true, true, true, true, true]) rfl ?_
      refine d_end (by kernel_rfl) (.inr wok_sub) ?_
      refine g_then ?_
      refine g_ret ?_
      exact fin2 rfl (.tmp rfl) (.tmp rfl) (fun w' hw' => ⟨(), trivial, by rw [pk_nat, List.getElem?_eq_getElem hi]; rfl, by have h9 := wok_sub (L' := [Res.blk b 50 (Rg.c g), Res.row (Rg.A g) (Rg.s g).length (Rg.cap g) 3 1 (Rg.s g)]) w' hw'; exact h9⟩) _ (.inl rfl)

set_option maxHeartbeats 400000 in
theorem pop_i (b : Nat) (g : Rg) (l : List Int) (w : World) (hw : WOK (fps [Res.blk b 50 (Rg.c g), Res.row (Rg.A g) (Rg.s g).length (Rg.cap g) 3 1 (Rg.s g)]) w [Res.blk b 50 (Rg.c g), Res.row (Rg.A g) (Rg.s g).length (Rg.cap g) 3 1 (Rg.s g)] w) (h : g.Rep 1 (l.map (fun v : Int => [Value.int .i64 v]))) : Own2 (ι := Rg) Try.prog 23 [.pointer (some ⟨b, 0, none⟩)] w [Res.blk b 50 (Rg.c g), Res.row (Rg.A g) (Rg.s g).length (Rg.cap g) 3 1 (Rg.s g)] (fun x => x.Rep 1 (l.tail.map (fun v : Int => [Value.int .i64 v])) ∧ x.size = g.size) (fun x => .tuple [.int .i64 (l.head?.getD 0), .bool l.head?.isSome].toArray) (fun x => []) (fun x => [Res.blk b 50 (Rg.c x), Res.row (Rg.A x) (Rg.s x).length (Rg.cap x) 3 1 (Rg.s x)]) := by
  refine g_start Try.func23 rfl 46 rfl (by simp) (fps [Res.blk b 50 (Rg.c g), Res.row (Rg.A g) (Rg.s g).length (Rg.cap g) 3 1 (Rg.s g)]) [Res.blk b 50 (Rg.c g), Res.row (Rg.A g) (Rg.s g).length (Rg.cap g) 3 1 (Rg.s g)] hw _ rfl ?_
  refine g_seq ?_
  refine g_region ?_
  refine s_q (q_assign rfl) rfl ?_
  refine s_q (q_assign rfl) rfl ?_
  refine g_nil ?_
  refine g_then ?_
  refine g_seq ?_
  refine g_region ?_
  refine s_q (q_move rfl) rfl ?_
  refine g_op (g_keep [Res.blk b 50 (Rg.c g), Res.row (Rg.A g) (Rg.s g).length (Rg.cap g) 3 1 (Rg.s g)] rfl (fun w1 hw1 ho1 => by exact peek_i b g l _ w1 ho1 h) rfl ?_)
  refine s_q (q_move rfl) rfl ?_
  refine s_q (q_extract rfl rfl) rfl ?_
  refine s_q (q_extract rfl rfl) rfl ?_
  refine s_q (q_assign rfl) rfl ?_
  refine s_q (q_assign rfl) rfl ?_
  refine g_nil ?_
  refine g_then ?_
  refine g_seq ?_
  refine g_seq ?_
  refine g_region ?_
  refine s_q (q_move rfl) rfl ?_
  refine g_nil ?_
  refine g_then ?_
  refine g_cond rfl (fun h1 => ?_) (fun h1 => ?_)
  · obtain ⟨x, l', rfl⟩ : ∃ x l', l = x :: l' := by cases l with | nil => simp [pk] at h1 | cons x l' => exact ⟨x, l', rfl⟩
    obtain ⟨qf, qg, qn⟩ := h.hd
    have q1 := h.sz; have q2 := h.hi; have q3 := h.le
    refine g_seq ?_
    refine g_region ?_
    refine s_q (q_assign rfl) rfl ?_
    refine g_nil ?_
    refine g_then ?_
    refine g_seq ?_
    refine d_region [10] mixed rfl rfl ?_
    refine d_q 0 rfl (by kernel_rfl) (q_move rfl) wok_sub rfl (ls' := #[true, false, false, false, false, false, false, false, false, false, false]) rfl ?_
    refine d_q 1 rfl (by kernel_rfl) (q_nilck rfl) wok_sub rfl (ls' := #[true, true, false, false, false, false, false, false, false, false, false]) rfl ?_
    refine d_q 2 rfl (by kernel_rfl) (q_field rfl) wok_sub rfl (ls' := #[true, true, true, false, false, false, false, false, false, false, false]) rfl ?_
    refine d_q 3 rfl (by kernel_rfl) (q_load rfl rfl) wok_sub rfl (ls' := #[true, true, true, true, false, false, false, false, false, false, false]) rfl ?_
    refine d_q 4 rfl (by kernel_rfl) (q_move rfl) wok_sub rfl (ls' := #[true, true, true, true, true, false, false, false, false, false, false]) rfl ?_
    refine d_q 5 rfl (by kernel_rfl) (q_nilck rfl) wok_sub rfl (ls' := #[true, true, true, true, true, true, false, false, false, false, false]) rfl ?_
    refine d_q 6 rfl (by kernel_rfl) (q_field rfl) wok_sub rfl (ls' := #[true, true, true, true, true, true, true, false, false, false, false]) rfl ?_
    refine d_q 7 rfl (by kernel_rfl) (q_load rfl rfl) wok_sub rfl (ls' := #[true, true, true, true, true, true, true, true, false, false, false]) rfl ?_
    refine d_q 8 rfl (by kernel_rfl) (q_move rfl) wok_sub rfl (ls' := #[true, true, true, true, true, true, true, true, true, false, false]) rfl ?_
    refine d_q 9 rfl (by kernel_rfl) (q_index (i := g.first) rfl rfl rfl (InRow.rdb (A := Rg.A g) rfl (fun c hc => (h.one c hc).1)) qf) wok_sub rfl (ls' := #[true, true, true, true, true, true, true, true, true, true, false]) rfl ?_
    refine d_op 10 rfl (by kernel_rfl) (ls' := #[true, true, true, true, true, true, true, true, true, true, true]) rfl wok_sub (g_store_el (A := Rg.A g) (i := g.first) (o := 0) (cs' := [Value.int .i64 0]) rfl rfl rfl rfl rfl qg (by decide) rfl rfl ?_)
    refine d_end (by kernel_rfl) (.inl rfl) ?_
    refine g_then ?_
    refine g_seq ?_
    refine d_region [14] mixed rfl rfl ?_
    refine d_q 0 rfl (by kernel_rfl) (q_move rfl) wok_sub rfl (ls' := #[true, false, false, false, false, false, false, false, false, false, false, false, false, false, false]) rfl ?_
    refine d_q 1 rfl (by kernel_rfl) (q_move rfl) wok_sub rfl (ls' := #[true, true, false, false, false, false, false, false, false, false, false, false, false, false, false]) rfl ?_
    refine d_q 2 rfl (by kernel_rfl) (q_nilck rfl) wok_sub rfl (ls' := #[true, true, true, false, false, false, false, false, false, false, false, false, false, false, false]) rfl ?_
    refine d_q 3 rfl (by kernel_rfl) (q_field rfl) wok_sub rfl (ls' := #[true, true, true, true, false, false, false, false, false, false, false, false, false, false, false]) rfl ?_
    refine d_q 4 rfl (by kernel_rfl) (q_load rfl rfl) wok_sub rfl (ls' := #[true, true, true, true, true, false, false, false, false, false, false, false, false, false, false]) rfl ?_
    refine d_q 5 rfl (by kernel_rfl) (q_inc rfl rfl (by omega)) wok_sub rfl (ls' := #[true, true, true, true, true, true, false, false, false, false, false, false, false, false, false]) rfl ?_
    refine d_q 6 rfl (by kernel_rfl) (q_move rfl) wok_sub rfl (ls' := #[true, true, true, true, true, true, true, false, false, false, false, false, false, false, false]) rfl ?_
    refine d_q 7 rfl (by kernel_rfl) (q_nilck rfl) wok_sub rfl (ls' := #[true, true, true, true, true, true, true, true, false, false, false, false, false, false, false]) rfl ?_
    refine d_q 8 rfl (by kernel_rfl) (q_field rfl) wok_sub rfl (ls' := #[true, true, true, true, true, true, true, true, true, false, false, false, false, false, false]) rfl ?_
    refine d_q 9 rfl (by kernel_rfl) (q_load rfl rfl) wok_sub rfl (ls' := #[true, true, true, true, true, true, true, true, true, true, false, false, false, false, false]) rfl ?_
    refine d_q 10 rfl (by kernel_rfl) (q_len rfl) wok_sub rfl (ls' := #[true, true, true, true, true, true, true, true, true, true, true, false, false, false, false]) rfl ?_
    refine d_q 11 rfl (by kernel_rfl) (q_remn (a := ((Rg.first g) + 1)) (b := (Rg.s g).length) rfl rfl (by first | omega | (simp; omega) | (simp_all; omega))) wok_sub rfl (ls' := #[true, true, true, true, true, true, true, true, true, true, true, true, false, false, false]) rfl ?_
    refine d_p 12 rfl (by kernel_rfl) (fun _ => q_nilck rfl) rfl (ls' := #[true, true, true, true, true, true, true, true, true, true, true, true, true, false, false]) rfl ?_
    refine d_q 13 rfl (by kernel_rfl) (q_field rfl) wok_sub rfl (ls' := #[true, true, true, true, true, true, true, true, true, true, true, true, true, true, false]) rfl ?_
    refine d_op 14 rfl (by kernel_rfl) (ls' := #[true, true, true, true, true, true, true, true, true, true, true, true, true, true, true]) rfl wok_sub (g_store rfl rfl rfl rfl rfl rfl rfl ?_)
    refine d_end (by kernel_rfl) (.inl rfl) ?_
    refine g_then ?_
    refine g_region ?_
    refine s_q (q_move rfl) rfl ?_
    refine s_q (q_nilck rfl) rfl ?_
    refine s_q (q_field rfl) rfl ?_
    refine s_q (q_load rfl rfl) rfl ?_
    refine s_q (q_subn (a := (Rg.n g)) (b := 1) rfl rfl (by first | omega | (simp; omega) | (simp_all; omega)) (by first | omega | (simp; omega) | (simp_all; omega))) rfl ?_
    refine s_q (q_nilck rfl) rfl ?_
    refine s_q (q_field rfl) rfl ?_
    refine g_op (g_store rfl rfl rfl rfl rfl rfl rfl ?_)
    refine g_nil ?_
    refine g_then ?_
    refine g_seq ?_
    refine g_region ?_
    refine s_q (q_move rfl) rfl ?_
    refine s_q (q_move rfl) rfl ?_
    refine s_q (q_assign rfl) rfl ?_
    refine s_q (q_assign rfl) rfl ?_
    refine g_nil ?_
    refine g_then ?_
    refine g_ret ?_
    refine g_blkc (b := b) (Rg.c (Rg.pop g [Value.int .i64 0])) (by simp [Rg.c, Rg.pop, splice]) ?_
    exact fin2 rfl (.tmp rfl) (.tmp rfl) (fun w' hw' => ⟨(Rg.pop g [Value.int .i64 0]), (by first | exact ⟨h.pop ⟨rfl, by simp [Value.oneCell']⟩, rfl⟩ | (dsimp only; exact ⟨h.pop ⟨rfl, by simp [Value.oneCell']⟩, rfl⟩)), by simp [pk], by have h9 := wok_sub (L' := [Res.blk b 50 (Rg.c (Rg.pop g [Value.int .i64 0])), Res.row (Rg.A g) (Rg.s g).length (Rg.cap g) 3 1 ((Rg.s g).set (Rg.first g) [Value.int .i64 0])]) w' hw'; show WOK _ _ [Res.blk b 50 (Rg.c ((Rg.pop g [Value.int .i64 0]))), Res.row (Rg.A ((Rg.pop g [Value.int .i64 0]))) (Rg.s ((Rg.pop g [Value.int .i64 0]))).length (Rg.cap ((Rg.pop g [Value.int .i64 0]))) 3 1 (Rg.s ((Rg.pop g [Value.int .i64 0])))] _; rw [show (Rg.s (Rg.pop g [Value.int .i64 0])).length = (Rg.s g).length from by simp [Rg.pop]]; exact h9⟩) _ (.inl rfl)
  · obtain rfl : l = [] := by cases l with | cons x l' => simp [pk] at h1 | nil => rfl
    refine g_skip ?_
    refine g_then ?_
    refine g_seq ?_
    refine g_region ?_
    refine s_q (q_move rfl) rfl ?_
    refine s_q (q_move rfl) rfl ?_
    refine s_q (q_assign rfl) rfl ?_
    refine s_q (q_assign rfl) rfl ?_
    refine g_nil ?_
    refine g_then ?_
    refine g_ret ?_
    exact fin2 rfl (.tmp rfl) (.tmp rfl) (fun w' hw' => ⟨g, (by first | exact ⟨h, rfl⟩ | (dsimp only; exact ⟨h, rfl⟩)), by first | rfl | (simp_all; done), by have h9 := wok_sub (L' := [Res.blk b 50 (Rg.c g), Res.row (Rg.A g) (Rg.s g).length (Rg.cap g) 3 1 (Rg.s g)]) w' hw'; exact h9⟩) _ (.inl rfl)

set_option maxHeartbeats 400000 in
theorem push_i (b : Nat) (g : Rg) (l : List Int) (els : List Int) (A : Option Addr) (cap : Nat) (w : World) (hw : WOK (fps [Res.blk b 50 (Rg.c g), Res.row (Rg.A g) (Rg.s g).length (Rg.cap g) 3 1 (Rg.s g)]) w [Res.blk b 50 (Rg.c g), Res.row (Rg.A g) (Rg.s g).length (Rg.cap g) 3 1 (Rg.s g)] w) (h : g.Rep 1 (l.map (fun v : Int => [Value.int .i64 v]))) (hrd : Rd w [Res.blk b 50 (Rg.c g), Res.row (Rg.A g) (Rg.s g).length (Rg.cap g) 3 1 (Rg.s g)] A els.length 1 (els.map (fun v : Int => [Value.int .i64 v]))) (hcap : els.length ≤ cap) : Own2 (ι := Rg) Try.prog 20 [.pointer (some ⟨b, 0, none⟩), .slice A els.length cap] w [Res.blk b 50 (Rg.c g), Res.row (Rg.A g) (Rg.s g).length (Rg.cap g) 3 1 (Rg.s g)] (fun x => x.Rep 1 ((l ++ els.take (min els.length (Rg.size g - l.length))).map (fun v : Int => [Value.int .i64 v])) ∧ x.size = g.size) (fun x => .int .i64 ((min els.length (Rg.size g - l.length)) : Nat)) (fun x => []) (fun x => [Res.blk b 50 (Rg.c x), Res.row (Rg.A x) (Rg.s x).length (Rg.cap x) 3 1 (Rg.s x)]) := by
  refine g_start Try.func20 rfl 53 rfl (by simp) (fps [Res.blk b 50 (Rg.c g), Res.row (Rg.A g) (Rg.s g).length (Rg.cap g) 3 1 (Rg.s g)]) [Res.blk b 50 (Rg.c g), Res.row (Rg.A g) (Rg.s g).length (Rg.cap g) 3 1 (Rg.s g)] hw _ rfl ?_
  have q1 := h.sz; have q2 := h.hi; have q3 := h.le; have q4 := h.num
  refine g_seq ?_
  refine g_region ?_
  refine s_q (q_assign rfl) rfl ?_
  refine g_nil ?_
  refine g_then ?_
  refine g_seq ?_
  refine g_region ?_
  refine s_q (q_move rfl) rfl ?_
  refine s_q (q_len rfl) rfl ?_
  refine s_q (q_move rfl) rfl ?_
  refine g_op (g_keep [Res.blk b 50 (Rg.c g), Res.row (Rg.A g) (Rg.s g).length (Rg.cap g) 3 1 (Rg.s g)] rfl (fun w1 hw1 ho1 => by exact free_i b g l w1 ho1 h) rfl ?_)
  refine s_q (q_minn (a := els.length) (b := (Rg.size g - (l).length)) rfl rfl) rfl ?_
  refine s_q (q_assign rfl) rfl ?_
  refine g_nil ?_
  refine g_then ?_
  refine g_seq ?_
  refine g_seq ?_
  refine g_region ?_
  refine s_q (q_move rfl) rfl ?_
  refine s_q (q_move rfl) rfl ?_
  refine s_q (q_slice_h (h := (min els.length (Rg.size g - l.length))) rfl rfl rfl (by omega)) rfl ?_
  refine s_q (q_len rfl) rfl ?_
  refine s_q (q_move rfl) rfl ?_
  refine g_nil ?_
  refine g_then ?_
  refine g_block ?_
  refine g_loopk [0, 4, 5, 15, 16] (fun (x : Nat × Rg) => [(17, .int .i64 ((x.1 : Nat) : Int))]) (fun (x : Nat × Rg) => [Res.blk b 50 (Rg.c x.2), Res.row (Rg.A x.2) (Rg.s x.2).length (Rg.cap x.2) 3 1 (Rg.s x.2)]) (fun (x : Nat × Rg) => x.1 ≤ (min els.length (Rg.size g - l.length)) ∧ Rg.Rep x.2 1 ((l ++ els.take x.1).map (fun v : Int => [Value.int .i64 v])) ∧ Rg.size x.2 = Rg.size g) (fun (x : Nat × Rg) => (min els.length (Rg.size g - l.length)) - x.1) (0, g) (by (try dsimp only); exact ⟨Nat.zero_le _, (by simpa using h), rfl⟩) rfl (by repeat (first | exact trivial | refine ⟨rfl, ?_⟩)) wok_sub ?_
  rintro ⟨k, g1⟩ ⟨le_k, hr, es⟩
  replace le_k : k ≤ (min els.length (Rg.size g - l.length)) := le_k
  replace hr : Rg.Rep g1 1 ((l ++ els.take k).map (fun v : Int => [Value.int .i64 v])) := hr
  replace es : Rg.size g1 = Rg.size g := es
  refine g_setL (L' := [Res.blk b 50 (Rg.c g1), Res.row (Rg.A g1) (Rg.s g1).length (Rg.cap g1) 3 1 (Rg.s g1)]) rfl ?_
  refine g_val 17 (v' := .int .i64 ((k : Nat) : Int)) rfl rfl ?_
  refine g_seq ?_
  refine g_region ?_
  refine s_q (q_lss rfl rfl) rfl ?_
  refine g_nil ?_
  refine g_then ?_
  refine g_seq ?_
  refine g_cond rfl (fun h1 => ?_) (fun h1 => ?_)
  · have lt_k : k < (min els.length (Rg.size g - l.length)) := by have h9 := of_decide_eq_true h1; omega
    refine g_skip ?_
    refine g_then ?_
    refine g_seq ?_
    refine g_block ?_
    refine g_seq ?_
    refine g_region ?_
    refine s_q (q_index (i := k) rfl rfl rfl (hrd.rdb.h (cap := cap) (by omega) hcap) (by first | exact lt_k | omega)) rfl ?_
    refine s_q (q_load_el (i := k) (o := 0) rfl (hrd.rdb.h (cap := cap) (by omega) hcap) (take_get (l := els) (m := (min els.length (Rg.size g - l.length))) (by first | exact lt_k | omega) (by omega)) rfl rfl) rfl ?_
    refine s_q (q_assign rfl) rfl ?_
    refine g_nil ?_
    refine g_then ?_
    refine g_seq ?_
    refine g_region ?_
    refine s_q (q_move rfl) rfl ?_
    refine g_op (g_ownS [Res.blk b 50 (Rg.c g1), Res.row (Rg.A g1) (Rg.s g1).length (Rg.cap g1) 3 1 (Rg.s g1)] rfl (fun w1 hw1 ho1 => by exact grow_i b g1 _ w1 ho1 hr (by have q1 := hr.num; simp at q1; omega)) rfl ?_)
    rintro g22 ⟨r22, n22, s22⟩
    refine ⟨_, _, inferInstance, inferInstance, ?_⟩
    have q1 := r22.sz; have q2 := r22.hi; have q3 := r22.fst
    refine g_nil ?_
    refine g_then ?_
    refine g_seq ?_
    refine d_region [21] mixed rfl rfl ?_
    refine d_q 0 rfl (by kernel_rfl) (q_move rfl) wok_sub rfl (ls' := #[true, false, false, false, false, false, false, false, false, false, false, false, false, false, false, false, false, false, false, false, false, false]) rfl ?_
    refine d_q 1 rfl (by kernel_rfl) (q_nilck rfl) wok_sub rfl (ls' := #[true, true, false, false, false, false, false, false, false, false, false, false, false, false, false, false, false, false, false, false, false, false]) rfl ?_
    refine d_q 2 rfl (by kernel_rfl) (q_field rfl) wok_sub rfl (ls' := #[true, true, true, false, false, false, false, false, false, false, false, false, false, false, false, false, false, false, false, false, false, false]) rfl ?_
    refine d_q 3 rfl (by kernel_rfl) (q_load rfl rfl) wok_sub rfl (ls' := #[true, true, true, true, false, false, false, false, false, false, false, false, false, false, false, false, false, false, false, false, false, false]) rfl ?_
    refine d_q 4 rfl (by kernel_rfl) (q_move rfl) wok_sub rfl (ls' := #[true, true, true, true, true, false, false, false, false, false, false, false, false, false, false, false, false, false, false, false, false, false]) rfl ?_
    refine d_q 5 rfl (by kernel_rfl) (q_nilck rfl) wok_sub rfl (ls' := #[true, true, true, true, true, true, false, false, false, false, false, false, false, false, false, false, false, false, false, false, false, false]) rfl ?_
    refine d_q 6 rfl (by kernel_rfl) (q_field rfl) wok_sub rfl (ls' := #[true, true, true, true, true, true, true, false, false, false, false, false, false, false, false, false, false, false, false, false, false, false]) rfl ?_
    refine d_q 7 rfl (by kernel_rfl) (q_load rfl rfl) wok_sub rfl (ls' := #[true, true, true, true, true, true, true, true, false, false, false, false, false, false, false, false, false, false, false, false, false, false]) rfl ?_
    refine d_q 8 rfl (by kernel_rfl) (q_move rfl) wok_sub rfl (ls' := #[true, true, true, true, true, true, true, true, true, false, false, false, false, false, false, false, false, false, false, false, false, false]) rfl ?_
    refine d_q 9 rfl (by kernel_rfl) (q_nilck rfl) wok_sub rfl (ls' := #[true, true, true, true, true, true, true, true, true, true, false, false, false, false, false, false, false, false, false, false, false, false]) rfl ?_
    refine d_q 10 rfl (by kernel_rfl) (q_field rfl) wok_sub rfl (ls' := #[true, true, true, true, true, true, true, true, true, true, true, false, false, false, false, false, false, false, false, false, false, false]) rfl ?_
    refine d_q 11 rfl (by kernel_rfl) (q_load rfl rfl) wok_sub rfl (ls' := #[true, true, true, true, true, true, true, true, true, true, true, true, false, false, false, false, false, false, false, false, false, false]) rfl ?_
    refine d_q 12 rfl (by kernel_rfl) (q_addn (a := (Rg.first g22)) (b := (Rg.n g22)) rfl rfl (by first | omega | (simp; omega) | (simp_all; omega))) wok_sub rfl (ls' := #[true, true, true, true, true, true, true, true, true, true, true, true, true, false, false, false, false, false, false, false, false, false]) rfl ?_
    refine d_q 13 rfl (by kernel_rfl) (q_move rfl) wok_sub rfl (ls' := #[true, true, true, true, true, true, true, true, true, true, true, true, true, true, false, false, false, false, false, false, false, false]) rfl ?_
    refine d_q 14 rfl (by kernel_rfl) (q_nilck rfl) wok_sub rfl (ls' := #[true, true, true, true, true, true, true, true, true, true, true, true, true, true, true, false, false, false, false, false, false, false]) rfl ?_
    refine d_q 15 rfl (by kernel_rfl) (q_field rfl) wok_sub rfl (ls' := #[true, true, true, true, true, true, true, true, true, true, true, true, true, true, true, true, false, false, false, false, false, false]) rfl ?_
    refine d_q 16 rfl (by kernel_rfl) (q_load rfl rfl) wok_sub rfl (ls' := #[true, true, true, true, true, true, true, true, true, true, true, true, true, true, true, true, true, false, false, false, false, false]) rfl ?_
    refine d_q 17 rfl (by kernel_rfl) (q_len rfl) wok_sub rfl (ls' := #[true, true, true, true, true, true, true, true, true, true, true, true, true, true, true, true, true, true, false, false, false, false]) rfl ?_
    refine d_q 18 rfl (by kernel_rfl) (q_remn (a := ((Rg.first g22) + (Rg.n g22))) (b := (Rg.s g22).length) rfl rfl (by first | omega | (simp; omega) | (simp_all; omega))) wok_sub rfl (ls' := #[true, true, true, true, true, true, true, true, true, true, true, true, true, true, true, true, true, true, true, false, false, false]) rfl ?_
    refine d_q 19 rfl (by kernel_rfl) (q_move rfl) wok_sub rfl (ls' := #[true, true, true, true, true, true, true, true, true, true, true, true, true, true, true, true, true, true, true, true, false, false]) rfl ?_
    refine d_q 20 rfl (by kernel_rfl) (q_index (i := (g22.first + g22.n) % g22.s.length) rfl rfl rfl (InRow.rdb (A := Rg.A g22) rfl (fun c hc => (r22.one c hc).1)) (Nat.mod_lt _ (by omega))) wok_sub rfl (ls' := #[true, true, true, true, true, true, true, true, true, true, true, true, true, true, true, true, true, true, true, true, true, false]) rfl ?_
    refine d_op 21 rfl (by kernel_rfl) (ls' := #[true, true, true, true, true, true, true, true, true, true, true, true, true, true, true, true, true, true, true, true, true, true]) rfl wok_sub (g_store_el (A := Rg.A g22) (i := (g22.first + g22.n) % g22.s.length) (o := 0) (cs' := ((fun v : Int => [Value.int .i64 v]) els[k])) rfl rfl rfl rfl rfl (List.getElem?_eq_getElem (Nat.mod_lt _ (by omega))) (by simp) rfl (splice_all (r22.one _ (List.getElem_mem _)).1) ?_)
    refine d_end (by kernel_rfl) (.inl rfl) ?_
    refine g_then ?_
    refine g_region ?_
    refine s_q (q_move rfl) rfl ?_
    refine s_q (q_nilck rfl) rfl ?_
    refine s_q (q_field rfl) rfl ?_
    refine s_q (q_load rfl rfl) rfl ?_
    refine s_q (q_inc rfl rfl (by omega)) rfl ?_
    refine s_q (q_nilck rfl) rfl ?_
    refine s_q (q_field rfl) rfl ?_
    refine g_op (g_store rfl rfl rfl rfl rfl rfl rfl ?_)
    refine g_nil ?_
    refine g_blk_n ?_
    refine g_then ?_
    refine g_region ?_
    refine s_q (q_inc rfl rfl (by omega)) rfl ?_
    refine s_q (q_move rfl) rfl ?_
    refine g_nil ?_
    refine g_setL (L' := [Res.blk b 50 (Rg.c (Rg.put g22 ((fun v : Int => [Value.int .i64 v]) els[k]))), Res.row (Rg.A (Rg.put g22 ((fun v : Int => [Value.int .i64 v]) els[k]))) (Rg.s (Rg.put g22 ((fun v : Int => [Value.int .i64 v]) els[k]))).length (Rg.cap (Rg.put g22 ((fun v : Int => [Value.int .i64 v]) els[k]))) 3 1 (Rg.s (Rg.put g22 ((fun v : Int => [Value.int .i64 v]) els[k])))]) (by simp [Rg.put, Rg.c, splice]) ?_
    exact g_again ((k + 1), (Rg.put g22 ((fun v : Int => [Value.int .i64 v]) els[k]))) (by (try dsimp only); exact ⟨(by first | exact lt_k | omega), (by rw [← app_take_succ (by omega)]; exact r22.put ⟨rfl, by simp [Value.oneCell']⟩ n22), (by simp only [Rg.put]; omega)⟩) (by first | omega | (simp only; omega)) (by repeat (first | exact trivial | refine ⟨rfl, ?_⟩)) wok_sub
  · have eq_k : k = (min els.length (Rg.size g - l.length)) := by have h9 := of_decide_eq_false h1; omega
    refine g_exit ?_
    refine g_then_x (g_then_x (g_blk_hit ?_))
    refine g_then ?_
    refine g_seq ?_
    refine g_region ?_
    refine s_q (q_move rfl) rfl ?_
    refine s_q (q_assign rfl) rfl ?_
    refine g_nil ?_
    refine g_then ?_
    refine g_ret ?_
    exact fin1 rfl (.tmp rfl) (fun w' hw' => ⟨g1, (by first | exact ⟨by rw [← eq_k]; exact hr, es⟩ | (dsimp only; exact ⟨by rw [← eq_k]; exact hr, es⟩)), by first | rfl | (simp_all; done), by have h9 := wok_sub (L' := [Res.blk b 50 (Rg.c g1), Res.row (Rg.A g1) (Rg.s g1).length (Rg.cap g1) 3 1 (Rg.s g1)]) w' hw'; exact h9⟩) _ (.inl rfl)

set_option maxHeartbeats 400000 in
theorem all_i (b : Nat) (g : Rg) (l : List Int) (w : World) (hw : WOK (fps [Res.blk b 50 (Rg.c g), Res.row (Rg.A g) (Rg.s g).length (Rg.cap g) 3 1 (Rg.s g)]) w [Res.blk b 50 (Rg.c g), Res.row (Rg.A g) (Rg.s g).length (Rg.cap g) 3 1 (Rg.s g)] w) (h : g.Rep 1 (l.map (fun v : Int => [Value.int .i64 v]))) : Own2 (ι := (Option Addr × Nat)) Try.prog 14 [.pointer (some ⟨b, 0, none⟩)] w [Res.blk b 50 (Rg.c g), Res.row (Rg.A g) (Rg.s g).length (Rg.cap g) 3 1 (Rg.s g)] (fun x => True) (fun x => .slice x.1 l.length x.2) (fun x => [Res.row x.1 l.length x.2 3 1 (l.map (fun v : Int => [Value.int .i64 v]))]) (fun x => [Res.blk b 50 (Rg.c g), Res.row (Rg.A g) (Rg.s g).length (Rg.cap g) 3 1 (Rg.s g)]) := by
  refine g_start Try.func14 rfl 24 rfl (by simp) (fps [Res.blk b 50 (Rg.c g), Res.row (Rg.A g) (Rg.s g).length (Rg.cap g) 3 1 (Rg.s g)]) [Res.blk b 50 (Rg.c g), Res.row (Rg.A g) (Rg.s g).length (Rg.cap g) 3 1 (Rg.s g)] hw _ rfl ?_
  have q1 := h.sz; have q2 := h.hi; have q3 := h.le; have q4 := h.num
  refine g_seq ?_
  refine g_region ?_
  refine s_q (q_assign rfl) rfl ?_
  refine g_nil ?_
  refine g_then ?_
  refine g_seq ?_
  refine g_region ?_
  refine s_q (q_assign rfl) rfl ?_
  refine g_nilrow 3 3 1 rfl fun A3 cap3 hc3 => ?_
  refine g_nil ?_
  refine g_then ?_
  refine g_seq ?_
  refine g_seq ?_
  refine g_region ?_
  refine s_q (q_move rfl) rfl ?_
  refine g_op (g_keep [Res.blk b 50 (Rg.c g), Res.row (Rg.A g) (Rg.s g).length (Rg.cap g) 3 1 (Rg.s g)] rfl (fun w1 hw1 ho1 => by exact len_i b g l w1 ho1 h) rfl ?_)
  refine s_q (q_move rfl) rfl ?_
  refine g_nil ?_
  refine g_then ?_
  refine g_block ?_
  refine g_rowels (A := A3) ((l.take 0).map (fun v : Int => [Value.int .i64 v])) (by simp) ?_
  refine g_loopk [0, 2, 8] (fun (x : Nat × Option Addr × Nat) => [(3, .slice x.2.1 x.1 x.2.2), (9, .int .i64 ((x.1 : Nat) : Int))]) (fun (x : Nat × Option Addr × Nat) => [Res.row x.2.1 x.1 x.2.2 3 1 ((l.take x.1).map (fun v : Int => [Value.int .i64 v])), Res.blk b 50 (Rg.c g), Res.row (Rg.A g) (Rg.s g).length (Rg.cap g) 3 1 (Rg.s g)]) (fun (x : Nat × Option Addr × Nat) => x.1 ≤ l.length) (fun (x : Nat × Option Addr × Nat) => l.length - x.1) (0, A3, cap3) (by (try dsimp only); exact Nat.zero_le _) rfl (by repeat (first | exact trivial | refine ⟨rfl, ?_⟩)) wok_sub ?_
  rintro ⟨k, A, cap⟩ le_k
  replace le_k : k ≤ l.length := le_k
  refine g_setL (L' := [Res.row A k cap 3 1 ((l.take k).map (fun v : Int => [Value.int .i64 v])), Res.blk b 50 (Rg.c g), Res.row (Rg.A g) (Rg.s g).length (Rg.cap g) 3 1 (Rg.s g)]) rfl ?_
  refine g_val 3 (v' := .slice A k cap) rfl rfl ?_
  refine g_val 9 (v' := .int .i64 ((k : Nat) : Int)) rfl rfl ?_
  refine g_seq ?_
  refine g_region ?_
  refine s_q (q_lss rfl rfl) rfl ?_
  refine g_nil ?_
  refine g_then ?_
  refine g_seq ?_
  refine g_cond rfl (fun h1 => ?_) (fun h1 => ?_)
  · have lt_k : k < l.length := by have h9 := of_decide_eq_true h1; omega
    refine g_skip ?_
    refine g_then ?_
    refine g_seq ?_
    refine g_block ?_
    refine g_seq ?_
    refine g_region ?_
    refine s_q (q_move rfl) rfl ?_
    refine s_q (q_assign rfl) rfl ?_
    refine g_nil ?_
    refine g_then ?_
    refine g_seq ?_
    refine g_region ?_
    refine s_q (q_move rfl) rfl ?_
    refine s_q (q_move rfl) rfl ?_
    refine g_op (g_keep [Res.blk b 50 (Rg.c g), Res.row (Rg.A g) (Rg.s g).length (Rg.cap g) 3 1 (Rg.s g)] rfl (fun w1 hw1 ho1 => by exact peek_i b g l _ w1 ho1 h) rfl ?_)
    refine s_q (q_move rfl) rfl ?_
    refine s_q (q_extract rfl rfl) rfl ?_
    refine s_q (q_extract rfl rfl) rfl ?_
    refine s_q (q_assign rfl) rfl ?_
    refine g_val 5 (v' := .int .i64 l[k]) rfl (by rw [pk_nat, List.getElem?_eq_getElem lt_k]; rfl) ?_
    refine s_q (q_assign rfl) rfl ?_
    refine g_nil ?_
    refine g_then ?_
    refine g_region ?_
    refine s_q (q_move rfl) rfl ?_
    refine s_q (q_move rfl) rfl ?_
    refine g_op (g_lit rfl rfl rfl rfl rfl fun b20 => ?_)
    refine g_op (g_append (A := A) (els := (l.take k).map (fun v : Int => [Value.int .i64 v])) (news := [(fun v : Int => [Value.int .i64 v]) l[k]]) rfl rfl (InL.rdb (b := b20) rfl (by simp) rfl) (by simp [Value.oneCell']) (by omega) rfl fun A' cap' => ⟨_, inferInstance, ?_⟩)
    refine g_rowels (A := A') ((l.take (k + 1)).map (fun v : Int => [Value.int .i64 v])) (map_take_succ lt_k) ?_
    refine s_q (q_assign rfl) rfl ?_
    refine g_nil ?_
    refine g_blk_n ?_
    refine g_then ?_
    refine g_region ?_
    refine s_q (q_inc rfl rfl (by omega)) rfl ?_
    refine s_q (q_move rfl) rfl ?_
    refine g_nil ?_
    exact g_again ((k + 1), A', cap') (by (try dsimp only); exact (by first | exact lt_k | omega)) (by first | omega | (simp only; omega)) (by repeat (first | exact trivial | refine ⟨rfl, ?_⟩)) wok_sub
  · have eq_k : k = l.length := by have h9 := of_decide_eq_false h1; omega
    subst eq_k
    refine g_exit ?_
    refine g_then_x (g_then_x (g_blk_hit ?_))
    refine g_then ?_
    refine g_seq ?_
    refine g_region ?_
    refine s_q (q_move rfl) rfl ?_
    refine s_q (q_assign rfl) rfl ?_
    refine g_nil ?_
    refine g_then ?_
    refine g_ret ?_
    refine g_rowels (A := A) (l.map (fun v : Int => [Value.int .i64 v])) (by simp) ?_
    exact fin1 rfl (.tmp rfl) (fun w' hw' => ⟨(A, cap), (by first | exact trivial | (dsimp only; exact trivial)), rfl, by have h9 := wok_sub (L' := [Res.row A l.length cap 3 1 (l.map (fun v : Int => [Value.int .i64 v])), Res.blk b 50 (Rg.c g), Res.row (Rg.A g) (Rg.s g).length (Rg.cap g) 3 1 (Rg.s g)]) w' hw'; exact h9⟩) _ (.inl rfl)
end Go.Proofs.Ytjfncbgggfammaa
