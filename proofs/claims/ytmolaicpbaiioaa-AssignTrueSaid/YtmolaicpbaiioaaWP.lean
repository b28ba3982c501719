/- walks of few and push -/
import Derived.Test.YtmolaicpbaiioaaWO
namespace Go.Proofs.Ytmolaicpbaiioaa
open Go.RowKit Go.Eg
set_option synthInstance.maxSize 3000
set_option linter.unusedSimpArgs false
set_option linter.unusedVariables false
set_option maxRecDepth 100000
set_option maxHeartbeats 400000 in
theorem few_any (A : Option Addr) (cap : Nat) (l : List Ro) (w : World) (ha : Old w A l.length 3 (l.map Ro.c)) (hc : cap ≤ 9223372036854775807 ∧ l.length ≤ cap) : Pur Try.prog 9 [.slice A l.length cap] w (.bool (fewB l)) := by
  refine g_start Try.func9 rfl 25 rfl (by simp) ([]) [] (WOK.start _ _) _ rfl ?_
  refine g_seq ?_
  refine g_region ?_
  refine s_q (q_assign rfl) rfl ?_
  refine g_nil ?_
  refine g_then ?_
  refine g_seq ?_
  refine g_seq ?_
  refine g_region ?_
  refine s_q (q_move rfl) rfl ?_
  refine s_q (q_len rfl) rfl ?_
  refine s_q (q_gtr rfl rfl) rfl ?_
  refine g_nil ?_
  refine g_then ?_
  refine g_cond rfl (fun h1 => ?_) (fun h1 => ?_)
  · refine g_seq ?_
    refine g_region ?_
    refine s_q (q_assign rfl) rfl ?_
    refine g_nil ?_
    refine g_then ?_
    refine g_ret ?_
    refine g_then_ret ?_
    exact fin1 rfl (.tmp rfl) (fun w' hw' => ⟨by have h9 := of_decide_eq_true h1; unfold fewB; rw [decide_eq_false (by intro h; omega)], hw'.upd⟩) _ (.inl rfl)
  · refine g_skip ?_
    refine g_then ?_
    refine g_seq ?_
    refine g_seq ?_
    refine g_region ?_
    refine s_q (q_move rfl) rfl ?_
    refine s_q (q_len rfl) rfl ?_
    refine s_q (q_move rfl) rfl ?_
    refine g_nil ?_
    refine g_then ?_
    refine g_block ?_
    refine g_loopk [2, 8, 9] (fun (x : Nat) => [(10, .int .i64 ((x : Nat) : Int))]) (fun (x : Nat) => []) (fun (x : Nat) => x ≤ l.length ∧ (∀ r ∈ l.take x, r.f.length ≤ 20 ∧ r.v.length ≤ 20)) (fun (x : Nat) => l.length - x) 0 (by (try dsimp only); exact ⟨Nat.zero_le _, (by simp)⟩) rfl (by repeat (first | exact trivial | refine ⟨rfl, ?_⟩)) wok_sub ?_
    rintro k ⟨le_k, hp⟩
    replace le_k : k ≤ l.length := le_k
    replace hp : ∀ r ∈ l.take k, r.f.length ≤ 20 ∧ r.v.length ≤ 20 := hp
    refine g_seq ?_
    refine g_region ?_
    refine s_q (q_lss rfl rfl) rfl ?_
    refine g_nil ?_
    refine g_then ?_
    refine g_seq ?_
    refine g_cond rfl (fun h2 => ?_) (fun h2 => ?_)
    · have lt_k : k < l.length := by have h9 := of_decide_eq_true h2; omega
      refine g_skip ?_
      refine g_then ?_
      refine g_seq ?_
      refine g_block ?_
      refine g_seq ?_
      refine g_region ?_
      refine s_q (q_index (i := k) rfl rfl rfl (ha.rdb rfl) (by first | exact lt_k | omega)) rfl ?_
      refine s_q (q_load_ew (i := k) rfl (ha.rdb rfl) (map_get (by first | exact (by first | exact lt_k | omega) | omega | (simp_all; done) | (simp_all; omega))) rfl) rfl ?_
      refine g_op (g_alloc rfl fun b4 => ?_)
      refine g_op (g_storew rfl rfl rfl rfl rfl ?_)
      refine g_nil ?_
      refine g_then ?_
      refine g_seq ?_
      refine g_region ?_
      refine s_q (q_field rfl) rfl ?_
      refine s_q (q_load rfl rfl) rfl ?_
      refine s_q (q_len rfl) rfl ?_
      refine s_q (q_gtr rfl rfl) rfl ?_
      refine s_q (q_move rfl) rfl ?_
      refine g_split 18 rfl (fun h3 => ?_) (fun h3 => ?_)
      · have hb1 : ¬ l[k].f.length ≤ 20 := by have h9 := of_decide_eq_true h3; omega
        refine g_gf rfl rfl rfl rfl ?_
        refine g_gf rfl rfl rfl rfl ?_
        refine g_gf rfl rfl rfl rfl ?_
        refine g_gf rfl rfl rfl rfl ?_
        refine s_q (q_pick_t rfl rfl) rfl ?_
        refine g_nil ?_
        refine g_then ?_
        refine g_true rfl ?_
        refine g_seq ?_
        refine g_region ?_
        refine s_q (q_assign rfl) rfl ?_
        refine g_nil ?_
        refine g_then ?_
        refine g_ret ?_
        refine g_blk_ret (g_then_ret (g_then_ret (g_blk_ret (g_then_ret ?_))))
        exact fin1 rfl (.tmp rfl) (fun w' hw' => ⟨by unfold fewB; rw [decide_eq_false (by intro h; exact hb1 (h.2 _ (List.getElem_mem lt_k)).1)], hw'.upd⟩) _ (.inl rfl)
      · have hA1 : l[k].f.length ≤ 20 := by have h9 := of_decide_eq_false h3; omega
        refine s_qg (q_field rfl) rfl rfl rfl ?_
        refine s_qg (q_load rfl rfl) rfl rfl rfl ?_
        refine s_qg (q_len rfl) rfl rfl rfl ?_
        refine s_qg (q_gtr rfl rfl) rfl rfl rfl ?_
        refine s_q (q_pick_f rfl rfl) rfl ?_
        refine g_nil ?_
        refine g_then ?_
        refine g_cond rfl (fun h4 => ?_) (fun h4 => ?_)
        · have hb1 : ¬ l[k].v.length ≤ 20 := by have h9 := of_decide_eq_true h4; omega
          refine g_seq ?_
          refine g_region ?_
          refine s_q (q_assign rfl) rfl ?_
          refine g_nil ?_
          refine g_then ?_
          refine g_ret ?_
          refine g_blk_ret (g_then_ret (g_then_ret (g_blk_ret (g_then_ret ?_))))
          exact fin1 rfl (.tmp rfl) (fun w' hw' => ⟨by unfold fewB; rw [decide_eq_false (by intro h; exact hb1 (h.2 _ (List.getElem_mem lt_k)).2)], hw'.upd⟩) _ (.inl rfl)
        · have hA2 : l[k].v.length ≤ 20 := by have h9 := of_decide_eq_false h4; omega
          refine g_skip ?_
          refine g_blk_n ?_
          refine g_then ?_
          refine g_region ?_
          refine s_q (q_inc rfl rfl (by omega)) rfl ?_
          refine s_q (q_move rfl) rfl ?_
          refine g_nil ?_
          exact g_again (k + 1) (by (try dsimp only); exact ⟨(by first | exact lt_k | omega), (by rw [← List.take_append_getElem lt_k]; intro r hr; rcases List.mem_append.1 hr with hr | hr; exact hp r hr; simp at hr; subst hr; exact ⟨hA1, hA2⟩)⟩) (by first | omega | (simp only; omega)) (by repeat (first | exact trivial | refine ⟨rfl, ?_⟩)) wok_sub
    · have eq_k : k = l.length := by have h9 := of_decide_eq_false h2; omega
      refine g_exit ?_
      refine g_then_x (g_then_x (g_blk_hit ?_))
      refine g_then ?_
      refine g_seq ?_
      refine g_region ?_
      refine s_q (q_assign rfl) rfl ?_
      refine g_nil ?_
      refine g_then ?_
      refine g_ret ?_
      exact fin1 rfl (.tmp rfl) (fun w' hw' => ⟨by have h9 := of_decide_eq_false h1; unfold fewB; rw [decide_eq_true ⟨by omega, by rw [eq_k, List.take_length] at hp; exact hp⟩], hw'.upd⟩) _ (.inl rfl)

set_option maxHeartbeats 400000 in
theorem push_any (bl b0 b1 : Nat) (g0 g1 : Rg) (wb : Nat) (A0 A1 : Option Addr) (c0 c1 : Nat) (q v : LL) (sz : Nat) (r : Ro) (w : World) (hw : WOK (fps [Res.blk bl 77 [Value.pointer (some ⟨b0, 0, none⟩), Value.pointer (some ⟨b1, 0, none⟩)], Res.blk b0 108 (Rg.c g0), Res.row (Rg.A g0) (Rg.s g0).length (Rg.cap g0) 3 1 (Rg.s g0), Res.blk b1 108 (Rg.c g1), Res.row (Rg.A g1) (Rg.s g1).length (Rg.cap g1) 3 1 (Rg.s g1), Res.blk wb 33 [Value.slice A0 (v).f.length c0, Value.slice A1 (v).v.length c1, Value.int .i64 ((sz : Nat) : Int)], Res.ro A0 (v).f.length 1 ((v).f.map (fun v : Int => [Value.int .i64 v])), Res.ro A1 (v).v.length 1 ((v).v.map (fun v : Int => [Value.int .i64 v]))]) w [Res.blk bl 77 [Value.pointer (some ⟨b0, 0, none⟩), Value.pointer (some ⟨b1, 0, none⟩)], Res.blk b0 108 (Rg.c g0), Res.row (Rg.A g0) (Rg.s g0).length (Rg.cap g0) 3 1 (Rg.s g0), Res.blk b1 108 (Rg.c g1), Res.row (Rg.A g1) (Rg.s g1).length (Rg.cap g1) 3 1 (Rg.s g1), Res.blk wb 33 [Value.slice A0 (v).f.length c0, Value.slice A1 (v).v.length c1, Value.int .i64 ((sz : Nat) : Int)], Res.ro A0 (v).f.length 1 ((v).f.map (fun v : Int => [Value.int .i64 v])), Res.ro A1 (v).v.length 1 ((v).v.map (fun v : Int => [Value.int .i64 v]))] w) (h0 : g0.Rep 1 ((q).f.map (fun v : Int => [Value.int .i64 v]))) (hh1 : g1.Rep 1 ((q).v.map (fun v : Int => [Value.int .i64 v]))) (s0 : Rg.size g0 = sz) (s1 : Rg.size g1 = sz) (hsz : sz ≤ 4096) (hc0 : v.f.length ≤ c0) (hc1 : v.v.length ≤ c1) (hq : v.f.length ≤ sz ∧ v.v.length ≤ sz) (hf : Rd w [Res.blk bl 77 [Value.pointer (some ⟨b0, 0, none⟩), Value.pointer (some ⟨b1, 0, none⟩)], Res.blk b0 108 (Rg.c g0), Res.row (Rg.A g0) (Rg.s g0).length (Rg.cap g0) 3 1 (Rg.s g0), Res.blk b1 108 (Rg.c g1), Res.row (Rg.A g1) (Rg.s g1).length (Rg.cap g1) 3 1 (Rg.s g1), Res.blk wb 33 [Value.slice A0 (v).f.length c0, Value.slice A1 (v).v.length c1, Value.int .i64 ((sz : Nat) : Int)], Res.ro A0 (v).f.length 1 ((v).f.map (fun v : Int => [Value.int .i64 v])), Res.ro A1 (v).v.length 1 ((v).v.map (fun v : Int => [Value.int .i64 v]))] r.fA r.f.length 1 (r.f.map (fun v : Int => [Value.int .i64 v]))) (hv : Rd w [Res.blk bl 77 [Value.pointer (some ⟨b0, 0, none⟩), Value.pointer (some ⟨b1, 0, none⟩)], Res.blk b0 108 (Rg.c g0), Res.row (Rg.A g0) (Rg.s g0).length (Rg.cap g0) 3 1 (Rg.s g0), Res.blk b1 108 (Rg.c g1), Res.row (Rg.A g1) (Rg.s g1).length (Rg.cap g1) 3 1 (Rg.s g1), Res.blk wb 33 [Value.slice A0 (v).f.length c0, Value.slice A1 (v).v.length c1, Value.int .i64 ((sz : Nat) : Int)], Res.ro A0 (v).f.length 1 ((v).f.map (fun v : Int => [Value.int .i64 v])), Res.ro A1 (v).v.length 1 ((v).v.map (fun v : Int => [Value.int .i64 v]))] r.vA r.v.length 1 (r.v.map (fun v : Int => [Value.int .i64 v]))) (hn : r.f.length ≤ 1000000 ∧ r.v.length ≤ 1000000) : Own2 (ι := (Rg × Rg × Option Addr × Nat × Option Addr × Nat)) Try.prog 13 [.pointer (some ⟨bl, 0, none⟩), .pointer (some ⟨wb, 0, none⟩), .agg r.c.toArray] w [Res.blk bl 77 [Value.pointer (some ⟨b0, 0, none⟩), Value.pointer (some ⟨b1, 0, none⟩)], Res.blk b0 108 (Rg.c g0), Res.row (Rg.A g0) (Rg.s g0).length (Rg.cap g0) 3 1 (Rg.s g0), Res.blk b1 108 (Rg.c g1), Res.row (Rg.A g1) (Rg.s g1).length (Rg.cap g1) 3 1 (Rg.s g1), Res.blk wb 33 [Value.slice A0 (v).f.length c0, Value.slice A1 (v).v.length c1, Value.int .i64 ((sz : Nat) : Int)], Res.ro A0 (v).f.length 1 ((v).f.map (fun v : Int => [Value.int .i64 v])), Res.ro A1 (v).v.length 1 ((v).v.map (fun v : Int => [Value.int .i64 v]))] (fun x => x.1.Rep 1 (((pushR sz r q)).f.map (fun v : Int => [Value.int .i64 v])) ∧ x.2.1.Rep 1 (((pushR sz r q)).v.map (fun v : Int => [Value.int .i64 v])) ∧ x.1.size = sz ∧ x.2.1.size = sz ∧ ((pushR sz r v)).f.length ≤ x.2.2.2.1 ∧ ((pushR sz r v)).v.length ≤ x.2.2.2.2.2) (fun x => .tuple #[]) (fun x => []) (fun x => [Res.blk bl 77 [Value.pointer (some ⟨b0, 0, none⟩), Value.pointer (some ⟨b1, 0, none⟩)], Res.blk b0 108 (Rg.c x.1), Res.row (Rg.A x.1) (Rg.s x.1).length (Rg.cap x.1) 3 1 (Rg.s x.1), Res.blk b1 108 (Rg.c x.2.1), Res.row (Rg.A x.2.1) (Rg.s x.2.1).length (Rg.cap x.2.1) 3 1 (Rg.s x.2.1), Res.blk wb 33 [Value.slice x.2.2.1 ((pushR sz r v)).f.length x.2.2.2.1, Value.slice x.2.2.2.2.1 ((pushR sz r v)).v.length x.2.2.2.2.2, Value.int .i64 ((sz : Nat) : Int)], Res.ro x.2.2.1 ((pushR sz r v)).f.length 1 (((pushR sz r v)).f.map (fun v : Int => [Value.int .i64 v])), Res.ro x.2.2.2.2.1 ((pushR sz r v)).v.length 1 (((pushR sz r v)).v.map (fun v : Int => [Value.int .i64 v]))]) := by
  refine g_start Try.func13 rfl 38 rfl (by simp) (fps [Res.blk bl 77 [Value.pointer (some ⟨b0, 0, none⟩), Value.pointer (some ⟨b1, 0, none⟩)], Res.blk b0 108 (Rg.c g0), Res.row (Rg.A g0) (Rg.s g0).length (Rg.cap g0) 3 1 (Rg.s g0), Res.blk b1 108 (Rg.c g1), Res.row (Rg.A g1) (Rg.s g1).length (Rg.cap g1) 3 1 (Rg.s g1), Res.blk wb 33 [Value.slice A0 (v).f.length c0, Value.slice A1 (v).v.length c1, Value.int .i64 ((sz : Nat) : Int)], Res.ro A0 (v).f.length 1 ((v).f.map (fun v : Int => [Value.int .i64 v])), Res.ro A1 (v).v.length 1 ((v).v.map (fun v : Int => [Value.int .i64 v]))]) [Res.blk bl 77 [Value.pointer (some ⟨b0, 0, none⟩), Value.pointer (some ⟨b1, 0, none⟩)], Res.blk b0 108 (Rg.c g0), Res.row (Rg.A g0) (Rg.s g0).length (Rg.cap g0) 3 1 (Rg.s g0), Res.blk b1 108 (Rg.c g1), Res.row (Rg.A g1) (Rg.s g1).length (Rg.cap g1) 3 1 (Rg.s g1), Res.blk wb 33 [Value.slice A0 (v).f.length c0, Value.slice A1 (v).v.length c1, Value.int .i64 ((sz : Nat) : Int)], Res.ro A0 (v).f.length 1 ((v).f.map (fun v : Int => [Value.int .i64 v])), Res.ro A1 (v).v.length 1 ((v).v.map (fun v : Int => [Value.int .i64 v]))] hw _ rfl ?_
  refine g_seq ?_
  refine g_region ?_
  refine g_op (g_box (c := Ro.c r) rfl rfl rfl fun b5 => ?_)
  refine g_nil ?_
  refine g_then ?_
  refine g_seq ?_
  refine g_seq ?_
  refine g_region ?_
  refine s_q (q_field rfl) rfl ?_
  refine s_q (q_load rfl rfl) rfl ?_
  refine s_q (q_len rfl) rfl ?_
  refine s_q (q_move rfl) rfl ?_
  refine g_nil ?_
  refine g_then ?_
  refine g_block ?_
  refine g_loopk [0, 1, 5, 11, 12] (fun (x : Nat × Rg × Rg × Option Addr × Nat × Option Addr × Nat × LL × LL) => [(13, .int .i64 ((x.1 : Nat) : Int))]) (fun (x : Nat × Rg × Rg × Option Addr × Nat × Option Addr × Nat × LL × LL) => [Res.blk b5 37 r.c, Res.blk bl 77 [Value.pointer (some ⟨b0, 0, none⟩), Value.pointer (some ⟨b1, 0, none⟩)], Res.blk b0 108 (Rg.c x.2.1), Res.row (Rg.A x.2.1) (Rg.s x.2.1).length (Rg.cap x.2.1) 3 1 (Rg.s x.2.1), Res.blk b1 108 (Rg.c x.2.2.1), Res.row (Rg.A x.2.2.1) (Rg.s x.2.2.1).length (Rg.cap x.2.2.1) 3 1 (Rg.s x.2.2.1), Res.blk wb 33 [Value.slice x.2.2.2.1 (x.2.2.2.2.2.2.2.2).f.length x.2.2.2.2.1, Value.slice x.2.2.2.2.2.1 (x.2.2.2.2.2.2.2.2).v.length x.2.2.2.2.2.2.1, Value.int .i64 ((sz : Nat) : Int)], Res.ro x.2.2.2.1 (x.2.2.2.2.2.2.2.2).f.length 1 ((x.2.2.2.2.2.2.2.2).f.map (fun v : Int => [Value.int .i64 v])), Res.ro x.2.2.2.2.2.1 (x.2.2.2.2.2.2.2.2).v.length 1 ((x.2.2.2.2.2.2.2.2).v.map (fun v : Int => [Value.int .i64 v]))]) (fun (x : Nat × Rg × Rg × Option Addr × Nat × Option Addr × Nat × LL × LL) => x.1 ≤ r.f.length ∧ x.2.2.2.2.2.2.2.1 = pushA sz 0 (r.f.take x.1) q ∧ x.2.2.2.2.2.2.2.2 = pushA sz 0 (r.f.take x.1) v ∧ (x.2.1).Rep 1 ((x.2.2.2.2.2.2.2.1).f.map (fun v : Int => [Value.int .i64 v])) ∧ (x.2.2.1).Rep 1 ((x.2.2.2.2.2.2.2.1).v.map (fun v : Int => [Value.int .i64 v])) ∧ (x.2.1).size = sz ∧ (x.2.2.1).size = sz ∧ (x.2.2.2.2.2.2.2.2).f.length ≤ x.2.2.2.2.1 ∧ (x.2.2.2.2.2.2.2.2).v.length ≤ x.2.2.2.2.2.2.1 ∧ ((x.2.2.2.2.2.2.2.2).f.length ≤ sz ∧ (x.2.2.2.2.2.2.2.2).v.length ≤ sz)) (fun (x : Nat × Rg × Rg × Option Addr × Nat × Option Addr × Nat × LL × LL) => r.f.length - x.1) (0, g0, g1, A0, c0, A1, c1, q, v) (by (try dsimp only); exact ⟨Nat.zero_le _, (by simp [pushA]), (by simp [pushA]), h0, hh1, s0, s1, hc0, hc1, hq⟩) rfl (by repeat (first | exact trivial | refine ⟨rfl, ?_⟩)) wok_sub ?_
  rintro ⟨k, p0, p1, B0, d0, B1, d1, p, s⟩ ⟨le_k, he, he2, r0, r1, z0, z1, u0, u1, hp⟩
  replace le_k : k ≤ r.f.length := le_k
  replace he : p = pushA sz 0 (r.f.take k) q := he
  replace he2 : s = pushA sz 0 (r.f.take k) v := he2
  replace r0 : (p0).Rep 1 ((p).f.map (fun v : Int => [Value.int .i64 v])) := r0
  replace r1 : (p1).Rep 1 ((p).v.map (fun v : Int => [Value.int .i64 v])) := r1
  replace z0 : (p0).size = sz := z0
  replace z1 : (p1).size = sz := z1
  replace u0 : (s).f.length ≤ d0 := u0
  replace u1 : (s).v.length ≤ d1 := u1
  replace hp : (s).f.length ≤ sz ∧ (s).v.length ≤ sz := hp
  refine g_setL (L' := [Res.blk b5 37 r.c, Res.blk bl 77 [Value.pointer (some ⟨b0, 0, none⟩), Value.pointer (some ⟨b1, 0, none⟩)], Res.blk b0 108 (Rg.c p0), Res.row (Rg.A p0) (Rg.s p0).length (Rg.cap p0) 3 1 (Rg.s p0), Res.blk b1 108 (Rg.c p1), Res.row (Rg.A p1) (Rg.s p1).length (Rg.cap p1) 3 1 (Rg.s p1), Res.blk wb 33 [Value.slice B0 (s).f.length d0, Value.slice B1 (s).v.length d1, Value.int .i64 ((sz : Nat) : Int)], Res.ro B0 (s).f.length 1 ((s).f.map (fun v : Int => [Value.int .i64 v])), Res.ro B1 (s).v.length 1 ((s).v.map (fun v : Int => [Value.int .i64 v]))]) rfl ?_
  refine g_val 13 (v' := .int .i64 ((k : Nat) : Int)) rfl rfl ?_
  refine g_seq ?_
  refine g_region ?_
  refine s_q (q_lss rfl rfl) rfl ?_
  refine g_nil ?_
  refine g_then ?_
  refine g_seq ?_
  refine g_cond rfl (fun h1 => ?_) (fun h1 => ?_)
  · have lt_k : k < r.f.length := by have h9 := of_decide_eq_true h1; omega
    refine g_skip ?_
    refine g_then ?_
    refine g_seq ?_
    refine g_block ?_
    refine g_seq ?_
    refine g_region ?_
    refine s_q (q_index (i := k) rfl rfl rfl hf.rdb (by first | exact lt_k | omega)) rfl ?_
    refine s_q (q_load_el (i := k) (o := 0) rfl hf.rdb (map_get (by first | assumption | omega)) rfl rfl) rfl ?_
    refine s_q (q_assign rfl) rfl ?_
    refine g_nil ?_
    refine g_then ?_
    refine g_seq ?_
    refine g_region ?_
    refine s_q (q_move rfl) rfl ?_
    refine s_q (q_move rfl) rfl ?_
    refine g_op (g_ownS [Res.blk bl 77 [Value.pointer (some ⟨b0, 0, none⟩), Value.pointer (some ⟨b1, 0, none⟩)], Res.blk b0 108 (Rg.c p0), Res.row (Rg.A p0) (Rg.s p0).length (Rg.cap p0) 3 1 (Rg.s p0), Res.blk b1 108 (Rg.c p1), Res.row (Rg.A p1) (Rg.s p1).length (Rg.cap p1) 3 1 (Rg.s p1)] rfl (fun w1 hw1 ho1 => by have h7 := lpush_any bl b0 b1 p0 p1 p sz (0) (r.f[k]) w1 ho1 r0 r1 z0 z1 (by omega); exact h7) rfl ?_)
    rintro ⟨g19, gg19⟩ ⟨r19, rr19, s19, ss19⟩
    refine ⟨_, _, inferInstance, inferInstance, ?_⟩
    simp only at r19 rr19 s19 ss19
    refine g_nil ?_
    refine g_then ?_
    refine g_region ?_
    refine s_q (q_move rfl) rfl ?_
    refine s_q (q_move rfl) rfl ?_
    refine g_op (g_ownS [Res.blk wb 33 [Value.slice B0 (s).f.length d0, Value.slice B1 (s).v.length d1, Value.int .i64 ((sz : Nat) : Int)], Res.ro B0 (s).f.length 1 ((s).f.map (fun v : Int => [Value.int .i64 v])), Res.ro B1 (s).v.length 1 ((s).v.map (fun v : Int => [Value.int .i64 v]))] rfl (fun w1 hw1 ho1 => by have h7 := rpush_any wb B0 B1 d0 d1 s sz (r.f[k]) (0) w1 ho1 u0 u1 (by omega) hp; exact h7) rfl ?_)
    rintro ⟨A22, c22, AA22, cc22⟩ ⟨u22, uu22⟩
    refine ⟨_, _, inferInstance, inferInstance, ?_⟩
    simp only at u22 uu22
    have hq22 := pushL_len (0) (r.f[k]) hp
    refine g_nil ?_
    refine g_blk_n ?_
    refine g_then ?_
    refine g_region ?_
    refine s_q (q_inc rfl rfl (by omega)) rfl ?_
    refine s_q (q_move rfl) rfl ?_
    refine g_nil ?_
    exact g_again ((k + 1), g19, gg19, A22, c22, AA22, cc22, (pushL sz (0) (r.f[k]) p), (pushL sz (0) (r.f[k]) s)) (by (try dsimp only); exact ⟨(by first | exact lt_k | omega), (by rw [pushA_succ lt_k, ← he]), (by rw [pushA_succ lt_k, ← he2]), r19, rr19, s19, ss19, u22, uu22, hq22⟩) (by first | omega | (simp only; omega)) (by repeat (first | exact trivial | refine ⟨rfl, ?_⟩)) wok_sub
  · have eq_k : k = r.f.length := by have h9 := of_decide_eq_false h1; omega
    refine g_exit ?_
    refine g_then_x (g_then_x (g_blk_hit ?_))
    refine g_then ?_
    refine g_seq ?_
    refine g_region ?_
    refine s_q (q_field rfl) rfl ?_
    refine s_q (q_load rfl rfl) rfl ?_
    refine s_q (q_len rfl) rfl ?_
    refine s_q (q_move rfl) rfl ?_
    refine g_nil ?_
    refine g_then ?_
    refine g_block ?_
    refine g_loopk [0, 1, 25, 26] (fun (x : Nat × Rg × Rg × Option Addr × Nat × Option Addr × Nat × LL × LL) => [(27, .int .i64 ((x.1 : Nat) : Int))]) (fun (x : Nat × Rg × Rg × Option Addr × Nat × Option Addr × Nat × LL × LL) => [Res.blk b5 37 r.c, Res.blk bl 77 [Value.pointer (some ⟨b0, 0, none⟩), Value.pointer (some ⟨b1, 0, none⟩)], Res.blk b0 108 (Rg.c x.2.1), Res.row (Rg.A x.2.1) (Rg.s x.2.1).length (Rg.cap x.2.1) 3 1 (Rg.s x.2.1), Res.blk b1 108 (Rg.c x.2.2.1), Res.row (Rg.A x.2.2.1) (Rg.s x.2.2.1).length (Rg.cap x.2.2.1) 3 1 (Rg.s x.2.2.1), Res.blk wb 33 [Value.slice x.2.2.2.1 (x.2.2.2.2.2.2.2.2).f.length x.2.2.2.2.1, Value.slice x.2.2.2.2.2.1 (x.2.2.2.2.2.2.2.2).v.length x.2.2.2.2.2.2.1, Value.int .i64 ((sz : Nat) : Int)], Res.ro x.2.2.2.1 (x.2.2.2.2.2.2.2.2).f.length 1 ((x.2.2.2.2.2.2.2.2).f.map (fun v : Int => [Value.int .i64 v])), Res.ro x.2.2.2.2.2.1 (x.2.2.2.2.2.2.2.2).v.length 1 ((x.2.2.2.2.2.2.2.2).v.map (fun v : Int => [Value.int .i64 v]))]) (fun (x : Nat × Rg × Rg × Option Addr × Nat × Option Addr × Nat × LL × LL) => x.1 ≤ r.v.length ∧ x.2.2.2.2.2.2.2.1 = pushA sz 1 (r.v.take x.1) (pushA sz 0 r.f q) ∧ x.2.2.2.2.2.2.2.2 = pushA sz 1 (r.v.take x.1) (pushA sz 0 r.f v) ∧ (x.2.1).Rep 1 ((x.2.2.2.2.2.2.2.1).f.map (fun v : Int => [Value.int .i64 v])) ∧ (x.2.2.1).Rep 1 ((x.2.2.2.2.2.2.2.1).v.map (fun v : Int => [Value.int .i64 v])) ∧ (x.2.1).size = sz ∧ (x.2.2.1).size = sz ∧ (x.2.2.2.2.2.2.2.2).f.length ≤ x.2.2.2.2.1 ∧ (x.2.2.2.2.2.2.2.2).v.length ≤ x.2.2.2.2.2.2.1 ∧ ((x.2.2.2.2.2.2.2.2).f.length ≤ sz ∧ (x.2.2.2.2.2.2.2.2).v.length ≤ sz)) (fun (x : Nat × Rg × Rg × Option Addr × Nat × Option Addr × Nat × LL × LL) => r.v.length - x.1) (0, p0, p1, B0, d0, B1, d1, p, s) (by (try dsimp only); exact ⟨Nat.zero_le _, (by rw [he, eq_k, List.take_length]; simp [pushA]), (by rw [he2, eq_k, List.take_length]; simp [pushA]), r0, r1, z0, z1, u0, u1, hp⟩) rfl (by repeat (first | exact trivial | refine ⟨rfl, ?_⟩)) wok_sub ?_
    rintro ⟨j, p0, p1, B0, d0, B1, d1, p, s⟩ ⟨le_j, he, he2, r0, r1, z0, z1, u0, u1, hp⟩
    replace le_j : j ≤ r.v.length := le_j
    replace he : p = pushA sz 1 (r.v.take j) (pushA sz 0 r.f q) := he
    replace he2 : s = pushA sz 1 (r.v.take j) (pushA sz 0 r.f v) := he2
    replace r0 : (p0).Rep 1 ((p).f.map (fun v : Int => [Value.int .i64 v])) := r0
    replace r1 : (p1).Rep 1 ((p).v.map (fun v : Int => [Value.int .i64 v])) := r1
    replace z0 : (p0).size = sz := z0
    replace z1 : (p1).size = sz := z1
    replace u0 : (s).f.length ≤ d0 := u0
    replace u1 : (s).v.length ≤ d1 := u1
    replace hp : (s).f.length ≤ sz ∧ (s).v.length ≤ sz := hp
    refine g_setL (L' := [Res.blk b5 37 r.c, Res.blk bl 77 [Value.pointer (some ⟨b0, 0, none⟩), Value.pointer (some ⟨b1, 0, none⟩)], Res.blk b0 108 (Rg.c p0), Res.row (Rg.A p0) (Rg.s p0).length (Rg.cap p0) 3 1 (Rg.s p0), Res.blk b1 108 (Rg.c p1), Res.row (Rg.A p1) (Rg.s p1).length (Rg.cap p1) 3 1 (Rg.s p1), Res.blk wb 33 [Value.slice B0 (s).f.length d0, Value.slice B1 (s).v.length d1, Value.int .i64 ((sz : Nat) : Int)], Res.ro B0 (s).f.length 1 ((s).f.map (fun v : Int => [Value.int .i64 v])), Res.ro B1 (s).v.length 1 ((s).v.map (fun v : Int => [Value.int .i64 v]))]) rfl ?_
    refine g_val 27 (v' := .int .i64 ((j : Nat) : Int)) rfl rfl ?_
    refine g_seq ?_
    refine g_region ?_
    refine s_q (q_lss rfl rfl) rfl ?_
    refine g_nil ?_
    refine g_then ?_
    refine g_seq ?_
    refine g_cond rfl (fun h2 => ?_) (fun h2 => ?_)
    · have lt_j : j < r.v.length := by have h9 := of_decide_eq_true h2; omega
      refine g_skip ?_
      refine g_then ?_
      refine g_seq ?_
      refine g_block ?_
      refine g_seq ?_
      refine g_region ?_
      refine s_q (q_index (i := j) rfl rfl rfl hv.rdb (by first | exact lt_j | omega)) rfl ?_
      refine s_q (q_load_el (i := j) (o := 0) rfl hv.rdb (map_get (by first | assumption | omega)) rfl rfl) rfl ?_
      refine s_q (q_assign rfl) rfl ?_
      refine g_nil ?_
      refine g_then ?_
      refine g_seq ?_
      refine g_region ?_
      refine s_q (q_move rfl) rfl ?_
      refine s_q (q_move rfl) rfl ?_
      refine g_op (g_ownS [Res.blk bl 77 [Value.pointer (some ⟨b0, 0, none⟩), Value.pointer (some ⟨b1, 0, none⟩)], Res.blk b0 108 (Rg.c p0), Res.row (Rg.A p0) (Rg.s p0).length (Rg.cap p0) 3 1 (Rg.s p0), Res.blk b1 108 (Rg.c p1), Res.row (Rg.A p1) (Rg.s p1).length (Rg.cap p1) 3 1 (Rg.s p1)] rfl (fun w1 hw1 ho1 => by have h7 := lpush_any bl b0 b1 p0 p1 p sz (1) (r.v[j]) w1 ho1 r0 r1 z0 z1 (by omega); exact h7) rfl ?_)
      rintro ⟨g33, gg33⟩ ⟨r33, rr33, s33, ss33⟩
      refine ⟨_, _, inferInstance, inferInstance, ?_⟩
      simp only at r33 rr33 s33 ss33
      refine g_nil ?_
      refine g_then ?_
      refine g_region ?_
      refine s_q (q_move rfl) rfl ?_
      refine s_q (q_move rfl) rfl ?_
      refine g_op (g_ownS [Res.blk wb 33 [Value.slice B0 (s).f.length d0, Value.slice B1 (s).v.length d1, Value.int .i64 ((sz : Nat) : Int)], Res.ro B0 (s).f.length 1 ((s).f.map (fun v : Int => [Value.int .i64 v])), Res.ro B1 (s).v.length 1 ((s).v.map (fun v : Int => [Value.int .i64 v]))] rfl (fun w1 hw1 ho1 => by have h7 := rpush_any wb B0 B1 d0 d1 s sz (r.v[j]) (1) w1 ho1 u0 u1 (by omega) hp; exact h7) rfl ?_)
      rintro ⟨A36, c36, AA36, cc36⟩ ⟨u36, uu36⟩
      refine ⟨_, _, inferInstance, inferInstance, ?_⟩
      simp only at u36 uu36
      have hq36 := pushL_len (1) (r.v[j]) hp
      refine g_nil ?_
      refine g_blk_n ?_
      refine g_then ?_
      refine g_region ?_
      refine s_q (q_inc rfl rfl (by omega)) rfl ?_
      refine s_q (q_move rfl) rfl ?_
      refine g_nil ?_
      exact g_again ((j + 1), g33, gg33, A36, c36, AA36, cc36, (pushL sz (1) (r.v[j]) p), (pushL sz (1) (r.v[j]) s)) (by (try dsimp only); exact ⟨(by first | exact lt_j | omega), (by rw [pushA_succ lt_j, ← he]), (by rw [pushA_succ lt_j, ← he2]), r33, rr33, s33, ss33, u36, uu36, hq36⟩) (by first | omega | (simp only; omega)) (by repeat (first | exact trivial | refine ⟨rfl, ?_⟩)) wok_sub
    · have eq_j : j = r.v.length := by have h9 := of_decide_eq_false h2; omega
      refine g_exit ?_
      refine g_then_x (g_then_x (g_blk_hit ?_))
      have hR : pushR sz r q = p := by rw [he, eq_j, List.take_length]; rfl
      have hR2 : pushR sz r v = s := by rw [he2, eq_j, List.take_length]; rfl
      exact fin0 rfl (fun w' hw' => ⟨(p0, p1, B0, d0, B1, d1), (by first | (rw [hR, hR2]; exact ⟨r0, r1, z0, z1, u0, u1⟩) | (dsimp only; (rw [hR, hR2]; exact ⟨r0, r1, z0, z1, u0, u1⟩))), rfl, by have h9 := wok_sub (L' := [Res.blk bl 77 [Value.pointer (some ⟨b0, 0, none⟩), Value.pointer (some ⟨b1, 0, none⟩)], Res.blk b0 108 (Rg.c p0), Res.row (Rg.A p0) (Rg.s p0).length (Rg.cap p0) 3 1 (Rg.s p0), Res.blk b1 108 (Rg.c p1), Res.row (Rg.A p1) (Rg.s p1).length (Rg.cap p1) 3 1 (Rg.s p1), Res.blk wb 33 [Value.slice B0 (s).f.length d0, Value.slice B1 (s).v.length d1, Value.int .i64 ((sz : Nat) : Int)], Res.ro B0 (s).f.length 1 ((s).f.map (fun v : Int => [Value.int .i64 v])), Res.ro B1 (s).v.length 1 ((s).v.map (fun v : Int => [Value.int .i64 v]))]) w' hw'; show WOK _ _ [Res.blk bl 77 [Value.pointer (some ⟨b0, 0, none⟩), Value.pointer (some ⟨b1, 0, none⟩)], Res.blk b0 108 (Rg.c ((p0, p1, B0, d0, B1, d1)).1), Res.row (Rg.A ((p0, p1, B0, d0, B1, d1)).1) (Rg.s ((p0, p1, B0, d0, B1, d1)).1).length (Rg.cap ((p0, p1, B0, d0, B1, d1)).1) 3 1 (Rg.s ((p0, p1, B0, d0, B1, d1)).1), Res.blk b1 108 (Rg.c ((p0, p1, B0, d0, B1, d1)).2.1), Res.row (Rg.A ((p0, p1, B0, d0, B1, d1)).2.1) (Rg.s ((p0, p1, B0, d0, B1, d1)).2.1).length (Rg.cap ((p0, p1, B0, d0, B1, d1)).2.1) 3 1 (Rg.s ((p0, p1, B0, d0, B1, d1)).2.1), Res.blk wb 33 [Value.slice ((p0, p1, B0, d0, B1, d1)).2.2.1 ((pushR sz r v)).f.length ((p0, p1, B0, d0, B1, d1)).2.2.2.1, Value.slice ((p0, p1, B0, d0, B1, d1)).2.2.2.2.1 ((pushR sz r v)).v.length ((p0, p1, B0, d0, B1, d1)).2.2.2.2.2, Value.int .i64 ((sz : Nat) : Int)], Res.ro ((p0, p1, B0, d0, B1, d1)).2.2.1 ((pushR sz r v)).f.length 1 (((pushR sz r v)).f.map (fun v : Int => [Value.int .i64 v])), Res.ro ((p0, p1, B0, d0, B1, d1)).2.2.2.2.1 ((pushR sz r v)).v.length 1 (((pushR sz r v)).v.map (fun v : Int => [Value.int .i64 v]))] _; rw [hR2]; exact h9⟩) _ (.inr rfl)
end Go.Proofs.Ytmolaicpbaiioaa
