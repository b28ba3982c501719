/- PartialMinimum: for every list of validators, every queue and every configuration the law returns true. No condition. -/
import Derived.Test.YtmbnpdjchkadhaaW5
namespace Go.Proofs.Ytmbnpdjchkadhaa
open Go.RowKit Go.Eg
set_option synthInstance.maxSize 3000
set_option linter.unusedSimpArgs false
set_option linter.unusedVariables false
def relV (c : C) (x y : V) : Prop := y.st = x.st ∧ y.sl = x.sl ∧ 0 ≤ y.bal ∧ y.bal ≤ x.bal ∧ min x.bal c.minb ≤ y.bal ∧ y.rq = x.rq ∧ y.ex = x.ex ∧ y.wd = x.wd ∧ y.dl = x.dl
def payOK (l : List V) (p : Y) : Prop := ∃ (ix : Nat) (x : V), p.i = (ix : Int) ∧ l[ix]? = some x ∧ p.f = false ∧ 0 ≤ p.a ∧ (p.a = 0 ∨ (x.st = 2 ∧ x.sl = false))
structure Inv (c : C) (l : List V) (s : List V × List Y) : Prop where
  len : s.1.length = l.length
  rel : ∀ (i : Nat) (x y : V), l[i]? = some x → s.1[i]? = some y → relV c x y
  pay : ∀ p ∈ s.2, payOK l p
theorem avail_cases (y : V) (c : C) (hb : 0 ≤ y.bal ∧ y.bal ≤ 18446744073709551615) (hm : 0 ≤ c.minb) : avail y c = 0 ∨ (y.st = 2 ∧ y.sl = false ∧ avail y c = y.bal - c.minb ∧ c.minb ≤ y.bal) := by
  unfold avail
  split
  · exact .inl rfl
  · rename_i h
    split
    · exact .inl rfl
    · rename_i h2
      refine .inr ⟨Classical.byContradiction fun hc => h (.inl hc), by cases hs : y.sl with | false => rfl | true => exact absurd (.inr hs) h, ?_, by omega⟩
      rw [IntKind.wrap_u64]; omega
theorem relV.ap {c : C} {x y : V} {m : Int} (h : relV c x y) (hx : x.bal ≤ 18446744073709551615) (hm0 : 0 ≤ m) (hc : 0 ≤ c.minb) : relV c x (apV y m c) ∧ (apV y m c).bal = y.bal - min m (avail y c) ∧ 0 ≤ min m (avail y c) ∧ (min m (avail y c) = 0 ∨ (x.st = 2 ∧ x.sl = false)) := by
  obtain ⟨h1, h2, h3, h4, h5, h6, h7, h8, h9⟩ := h
  have hb : (apV y m c).bal = y.bal - min m (avail y c) := by
    show IntKind.u64.wrap (y.bal - min m (avail y c)) = _
    rw [IntKind.wrap_u64]
    rcases avail_cases y c ⟨h3, by omega⟩ hc with h | ⟨_, _, h, _⟩ <;> rw [h] <;> omega
  refine ⟨⟨h1, h2, ?_, ?_, ?_, h6, h7, h8, h9⟩, hb, ?_, ?_⟩ <;> (try rw [hb]) <;> rcases avail_cases y c ⟨h3, by omega⟩ hc with h | ⟨ha, hs, h, _⟩ <;> rw [h] <;> first | omega | exact .inl (by omega) | exact .inr ⟨by rw [← h1]; exact ha, by rw [← h2]; exact hs⟩
theorem Inv.step {c : C} {l : List V} {s : List V × List Y} {r : R} (h : Inv c l s) (hl : ∀ x ∈ l, x.bal ≤ 18446744073709551615) (hr : 0 ≤ r.m) (hc : 0 ≤ c.minb) : Inv c l (stepQ c s r) := by
  by_cases hin : inB s.1 r
  · obtain ⟨ix, hix⟩ : ∃ ix : Nat, r.i = ix := ⟨r.i.toNat, by have := hin.1; omega⟩
    have hx : ix < s.1.length := by have := hin.2; omega
    have hxl : ix < l.length := by rw [← h.len]; exact hx
    have hrel := h.rel ix l[ix] (s.1[ix]) (List.getElem?_eq_getElem hxl) (List.getElem?_eq_getElem hx)
    have hap := hrel.ap (m := r.m) (hl _ (List.getElem_mem _)) hr hc
    refine ⟨by simp [stepQ, payO_len, h.len], fun i x y hi hy => ?_, fun p hp => ?_⟩
    · simp only [stepQ, payO_in hix hx] at hy
      rw [List.getElem?_set] at hy
      split at hy
      · rename_i he
        subst he
        simp only [hx, if_true, Option.some.injEq] at hy
        subst hy
        rw [List.getElem?_eq_getElem hxl] at hi
        simp only [Option.some.injEq] at hi
        subst hi
        exact hap.1
      · exact h.rel i x y hi hy
    · simp only [stepQ, payP_in hix hx] at hp
      rcases List.mem_append.1 hp with hp | hp
      · exact h.pay p hp
      · simp only [List.mem_singleton] at hp
        subst hp
        exact ⟨ix, l[ix], rfl, List.getElem?_eq_getElem hxl, rfl, hap.2.2.1, hap.2.2.2⟩
  · refine ⟨by simp [stepQ, payO_len, h.len], fun i x y hi hy => ?_, fun p hp => ?_⟩
    · simp only [stepQ, payO_out hin] at hy; exact h.rel i x y hi hy
    · simp only [stepQ, payP_out hin] at hp; exact h.pay p hp
theorem Inv.fold {c : C} {l : List V} (hl : ∀ x ∈ l, x.bal ≤ 18446744073709551615) (hc : 0 ≤ c.minb) : ∀ (q : List R) (s : List V × List Y), (∀ r ∈ q, 0 ≤ r.m) → Inv c l s → Inv c l (q.foldl (stepQ c) s)
  | [], _, _, h => h
  | r :: q, s, hq, h => Inv.fold hl hc q _ (fun x hx => hq x (by simp [hx])) (h.step hl (hq r (by simp)) hc)
theorem Inv.run {c : C} {l : List V} {q : List R} (hl : ∀ x ∈ l, x.ok) (hq : ∀ r ∈ q, r.ok) (hc : c.ok) : Inv c l (run c l q) :=
  Inv.fold (fun x hx => (hl x hx).bal.2) hc.minb.1 q _ (fun r hr => (hq r hr).m.1) ⟨rfl, fun i x y hx hy => by
    rw [hx] at hy
    simp only [Option.some.injEq] at hy
    subst hy
    have := (hl x (List.mem_of_getElem? hx)).bal.1
    exact ⟨rfl, rfl, this, by omega, by omega, rfl, rfl, rfl, rfl⟩, by simp⟩

set_option maxHeartbeats 400000 in
theorem law_partialMinimum (A_l : Option Addr) (c_l : Nat) (l : List V) (A_q : Option Addr) (c_q : Nat) (q : List R) (c : C) (w : World) (o_l : Old w A_l l.length 7 (l.map V.c)) (h_l : l.length ≤ c_l ∧ c_l ≤ 9223372036854775807) (k_l : ∀ x ∈ l, (fun x : V => x.ok) x) (o_q : Old w A_q q.length 2 (q.map R.c)) (h_q : q.length ≤ c_q ∧ c_q ≤ 9223372036854775807) (k_q : ∀ x ∈ q, (fun x : R => x.ok) x) (k_c : (c).ok) : Pur Try.prog 6 [.slice A_l l.length c_l, .slice A_q q.length c_q, c.v] w (.bool true) := by
  refine g_start Try.func6 rfl 122 rfl (by simp) ([]) [] (WOK.start _ _) _ rfl ?_
  refine g_seq ?_
  refine g_region ?_
  refine g_op (g_box rfl rfl rfl fun b5 => ?_)
  refine s_q (q_assign rfl) rfl ?_
  refine g_nil ?_
  refine g_then ?_
  refine g_seq ?_
  refine g_seq ?_
  refine g_region ?_
  refine s_q (q_loadw rfl rfl) rfl ?_
  refine g_op (g_pure rfl (fun w hw => chk_any _ w) rfl ?_)
  refine s_q (q_neq rfl rfl) rfl ?_
  refine s_q (q_move rfl) rfl ?_
  refine g_split 17 rfl (fun h1 => ?_) (fun h1 => ?_)
  · refine g_gf rfl rfl rfl rfl ?_
    refine g_gf rfl rfl rfl rfl ?_
    refine g_gf rfl rfl rfl rfl ?_
    refine s_q (q_pick_t rfl rfl) rfl ?_
    refine s_q (q_move rfl) rfl ?_
    refine g_gf rfl rfl rfl rfl ?_
    refine g_gf rfl rfl rfl rfl ?_
    refine g_gf rfl rfl rfl rfl ?_
    refine s_q (q_pick_t rfl rfl) rfl ?_
    refine g_nil ?_
    refine g_then ?_
    refine g_true rfl ?_
    refine g_seq ?_
    refine g_region ?_
    refine g_op (g_pure rfl (fun w1 hw1 => alive_any w1) rfl ?_)
    refine s_q (q_assign rfl) rfl ?_
    refine g_nil ?_
    refine g_then ?_
    refine g_ret ?_
    refine g_then_ret ?_
    exact fin1 rfl (.tmp rfl) (fun w' hw' => ⟨by first | rfl | (simp_all; done) | (simp_all; omega), hw'.upd⟩) _ (.inl rfl)
  · refine s_qg (q_move rfl) rfl rfl rfl ?_
    refine s_qg (q_len rfl) rfl rfl rfl ?_
    refine s_qg (q_gtr rfl rfl) rfl rfl rfl ?_
    refine s_q (q_pick_f rfl rfl) rfl ?_
    refine s_q (q_move rfl) rfl ?_
    refine g_split 22 rfl (fun h2 => ?_) (fun h2 => ?_)
    · refine g_gf rfl rfl rfl rfl ?_
      refine g_gf rfl rfl rfl rfl ?_
      refine g_gf rfl rfl rfl rfl ?_
      refine s_q (q_pick_t rfl rfl) rfl ?_
      refine g_nil ?_
      refine g_then ?_
      refine g_true rfl ?_
      refine g_seq ?_
      refine g_region ?_
      refine g_op (g_pure rfl (fun w1 hw1 => alive_any w1) rfl ?_)
      refine s_q (q_assign rfl) rfl ?_
      refine g_nil ?_
      refine g_then ?_
      refine g_ret ?_
      refine g_then_ret ?_
      exact fin1 rfl (.tmp rfl) (fun w' hw' => ⟨by first | rfl | (simp_all; done) | (simp_all; omega), hw'.upd⟩) _ (.inl rfl)
    · refine s_qg (q_move rfl) rfl rfl rfl ?_
      refine s_qg (q_len rfl) rfl rfl rfl ?_
      refine s_qg (q_gtr rfl rfl) rfl rfl rfl ?_
      refine s_q (q_pick_f rfl rfl) rfl ?_
      refine g_nil ?_
      refine g_then ?_
      refine g_cond rfl (fun h3 => ?_) (fun h3 => ?_)
      · refine g_seq ?_
        refine g_region ?_
        refine g_op (g_pure rfl (fun w1 hw1 => alive_any w1) rfl ?_)
        refine s_q (q_assign rfl) rfl ?_
        refine g_nil ?_
        refine g_then ?_
        refine g_ret ?_
        refine g_then_ret ?_
        exact fin1 rfl (.tmp rfl) (fun w' hw' => ⟨by first | rfl | (simp_all; done) | (simp_all; omega), hw'.upd⟩) _ (.inl rfl)
      · have hchk : chk c = 0 := by simpa using h1
        have hl60 : l.length ≤ 60 := by simp at h2; omega
        have hq60 : q.length ≤ 60 := by simp at h3; omega
        have h17 := chk_right hchk 17 (by omega) (by omega)
        simp [rightB] at h17
        obtain ⟨P, hP⟩ : ∃ P : Nat, c.parts = P := ⟨c.parts.toNat, by omega⟩
        refine g_skip ?_
        refine g_then ?_
        refine g_seq ?_
        refine d_region [] mixed rfl rfl ?_
        refine d_q 0 rfl (by kernel_rfl) (q_move rfl) wok_sub rfl (ls' := #[true, false, false, false, false, false, false, false, false, false, false, false]) rfl ?_
        refine d_q 1 rfl (by kernel_rfl) (q_move rfl) wok_sub rfl (ls' := #[true, true, false, false, false, false, false, false, false, false, false, false]) rfl ?_
        refine d_q 3 rfl (by kernel_rfl) (q_loadw rfl rfl) wok_sub rfl (ls' := #[true, true, false, true, false, false, false, false, false, false, false, false]) rfl ?_
        refine d_op 2 rfl (by kernel_rfl) (ls' := #[true, true, true, true, false, false, false, false, false, false, false, false]) rfl wok_sub (g_ownS [] rfl (fun w1 hw1 ho1 => by have h7 := requests_any A_q (q.length) (c_q) (q) w1 (Rd.ofOld hw1 o_q (by omega) (by simp)) (by omega); exact h7) rfl ?_)
        rintro ⟨A31, cap31⟩ _
        refine ⟨_, _, inferInstance, inferInstance, ?_⟩
        refine d_op 4 rfl (by kernel_rfl) (ls' := #[true, true, true, true, true, false, false, false, false, false, false, false]) rfl wok_sub (g_ownS [] rfl (fun w1 hw1 ho1 => by have h7 := step_any A_l A31 (l.length) (c_l) (cap31) P (l) (q) c w1 (Rd.ofOld hw1 o_l (by omega) (by simp)) (Rd.ofRow (A := A31) hw1) (row_le (A := A31) hw1) (by omega) (by omega) hP; exact h7) rfl ?_)
        rintro ⟨A33, cap33, AA33, capp33⟩ _
        refine ⟨_, _, inferInstance, inferInstance, ?_⟩
        obtain ⟨g33, hg33⟩ : ∃ x, x = (run c l (q.take (min q.length P))).1 := ⟨_, rfl⟩
        obtain ⟨p33, hp33⟩ : ∃ x, x = pos (run c l (q.take (min q.length P))).2 := ⟨_, rfl⟩
        rw [← hg33, ← hp33]
        have hgl : g33.length = l.length := by rw [hg33]; exact run_len _ _ _
        refine d_q 5 rfl (by kernel_rfl) (q_move rfl) wok_sub rfl (ls' := #[true, true, true, true, true, true, false, false, false, false, false, false]) rfl ?_
        have hinv := Inv.run (c := c) (l := l) (q := q.take (min q.length P)) k_l (fun r hr => k_q r (List.mem_of_mem_take hr)) k_c
        have hrel : ∀ k (h : k < l.length) (h' : k < g33.length), relV c l[k] g33[k] := fun k h h' => hinv.rel k _ _ (List.getElem?_eq_getElem h) (by rw [← hg33]; exact List.getElem?_eq_getElem h')
        have hpay : ∀ p ∈ p33, ∃ ix : Nat, p.i = ix ∧ ∃ h : ix < l.length, (l[ix]).st = 2 ∧ (l[ix]).sl = false ∧ p.f = false ∧ ¬ p.a = 0 ∧ 0 ≤ p.a := fun p hp => by
          rw [hp33] at hp
          obtain ⟨hp1, hp2⟩ := List.mem_filter.1 hp
          obtain ⟨ix, x, h1, h2, h3, h4, h5⟩ := hinv.pay p hp1
          have hp3 : ¬ p.a = 0 := by simpa using hp2
          obtain ⟨hlt, rfl⟩ := List.getElem?_eq_some_iff.1 h2
          exact ⟨ix, h1, hlt, (h5.resolve_left hp3).1, (h5.resolve_left hp3).2, h3, hp3, h4⟩
        have hpn : p33.length ≤ P ∧ p33.length ≤ 60 := by
          have h1 := pos_le (run c l (q.take (min q.length P))).2
          have h2 := runp_len c l (q.take (min q.length P))
          rw [← hp33] at h1
          simp only [List.length_take] at h2
          omega
        refine d_q 6 rfl (by kernel_rfl) (q_extract rfl rfl) wok_sub rfl (ls' := #[true, true, true, true, true, true, true, false, false, false, false, false]) rfl ?_
        refine d_q 7 rfl (by kernel_rfl) (q_extract rfl rfl) wok_sub rfl (ls' := #[true, true, true, true, true, true, true, true, false, false, false, false]) rfl ?_
        refine d_q 8 rfl (by kernel_rfl) (q_extract rfl rfl) wok_sub rfl (ls' := #[true, true, true, true, true, true, true, true, true, false, false, false]) rfl ?_
        refine d_q 9 rfl (by kernel_rfl) (q_assign rfl) wok_sub rfl (ls' := #[true, true, true, true, true, true, true, true, true, true, false, false]) rfl ?_
        refine d_q 10 rfl (by kernel_rfl) (q_assign rfl) wok_sub rfl (ls' := #[true, true, true, true, true, true, true, true, true, true, true, false]) rfl ?_
        refine d_q 11 rfl (by kernel_rfl) (q_assign rfl) wok_sub rfl (ls' := #[true, true, true, true, true, true, true, true, true, true, true, true]) rfl ?_
        refine d_end (by kernel_rfl) (.inr wok_sub) ?_
        refine g_then ?_
        refine g_seq ?_
        refine g_seq ?_
        refine g_region ?_
        refine s_q (q_move rfl) rfl ?_
        refine s_q (q_len rfl) rfl ?_
        refine s_q (q_move rfl) rfl ?_
        refine s_q (q_len rfl) rfl ?_
        refine s_q (q_neq rfl rfl) rfl ?_
        refine g_litb 41 (b := false) rfl (by simp) ?_
        refine g_nil ?_
        refine g_then ?_
        refine g_false rfl ?_
        refine g_skip ?_
        refine g_then ?_
        refine g_seq ?_
        refine g_seq ?_
        refine g_region ?_
        refine s_q (q_move rfl) rfl ?_
        refine s_q (q_len rfl) rfl ?_
        refine s_q (q_move rfl) rfl ?_
        refine g_nil ?_
        refine g_then ?_
        refine g_block ?_
        refine g_loopk [0, 5, 6, 8, 42, 43] (fun (x : Nat) => [(44, .int .i64 ((x : Nat) : Int))]) (fun (x : Nat) => [Res.row A33 l.length cap33 24 7 (g33.map V.c), Res.row AA33 p33.length capp33 51 3 (p33.map Y.c), Res.blk b5 26 c.c]) (fun (x : Nat) => x ≤ l.length) (fun (x : Nat) => l.length - x) 0 (by (try dsimp only); exact Nat.zero_le _) rfl (by repeat (first | exact trivial | refine ⟨rfl, ?_⟩)) wok_sub ?_
        rintro k le_k
        replace le_k : k ≤ l.length := le_k
        refine g_seq ?_
        refine g_region ?_
        refine s_q (q_lss rfl rfl) rfl ?_
        refine g_nil ?_
        refine g_then ?_
        refine g_seq ?_
        refine g_cond rfl (fun h4 => ?_) (fun h4 => ?_)
        · have lt_k : k < l.length := by have h9 := of_decide_eq_true h4; omega
          refine g_skip ?_
          refine g_then ?_
          refine g_seq ?_
          refine g_block ?_
          refine g_seq ?_
          refine g_region ?_
          refine s_q (q_move rfl) rfl ?_
          refine s_q (q_index (i := k) rfl rfl rfl (InRow.rdb (A := A33) (els := (g33).map V.c) (by rw [List.length_map]; exact hgl.symm) (map_cat (c := V.c) (fun _ => rfl) _)) (by first | exact lt_k | omega)) rfl ?_
          refine s_q (q_load_ew (i := k) rfl (InRow.rdb (A := A33) (els := (g33).map V.c) (by rw [List.length_map]; exact hgl.symm) (map_cat (c := V.c) (fun _ => rfl) _)) (map_get (by first | assumption | omega | (simp_all; done) | (simp_all; omega))) rfl) rfl ?_
          refine g_op (g_alloc rfl fun b11 => ?_)
          refine s_q (q_assign rfl) rfl ?_
          refine g_op (g_storew rfl rfl rfl rfl rfl ?_)
          refine g_nil ?_
          refine g_then ?_
          refine g_seq ?_
          refine d_region [] mixed rfl rfl ?_
          have hr := hrel k lt_k (by omega)
          obtain ⟨r1, r2, r3, r4, r5, r6⟩ := hr
          refine d_q 0 rfl (by kernel_rfl) (q_field rfl) wok_sub rfl (ls' := #[true, false, false, false, false, false, false, false, false, false, false, false, false, false, false, false, false, false, false, false, false]) rfl ?_
          refine d_q 1 rfl (by kernel_rfl) (q_load rfl rfl) wok_sub rfl (ls' := #[true, true, false, false, false, false, false, false, false, false, false, false, false, false, false, false, false, false, false, false, false]) rfl ?_
          refine d_q 2 rfl (by kernel_rfl) (q_move rfl) wok_sub rfl (ls' := #[true, true, true, false, false, false, false, false, false, false, false, false, false, false, false, false, false, false, false, false, false]) rfl ?_
          refine d_q 3 rfl (by kernel_rfl) (q_move rfl) wok_sub rfl (ls' := #[true, true, true, true, false, false, false, false, false, false, false, false, false, false, false, false, false, false, false, false, false]) rfl ?_
          refine d_q 4 rfl (by kernel_rfl) (q_index (i := k) rfl rfl rfl (o_l.rdb rfl) (by first | exact lt_k | omega)) wok_sub rfl (ls' := #[true, true, true, true, true, false, false, false, false, false, false, false, false, false, false, false, false, false, false, false, false]) rfl ?_
          refine d_q 5 rfl (by kernel_rfl) (q_field rfl) wok_sub rfl (ls' := #[true, true, true, true, true, true, false, false, false, false, false, false, false, false, false, false, false, false, false, false, false]) rfl ?_
          refine d_q 6 rfl (by kernel_rfl) (q_load_el (i := k) (o := 0) rfl (o_l.rdb rfl) (map_get (by first | assumption | omega)) rfl rfl) wok_sub rfl (ls' := #[true, true, true, true, true, true, true, false, false, false, false, false, false, false, false, false, false, false, false, false, false]) rfl ?_
          refine d_q 7 rfl (by kernel_rfl) (q_field rfl) wok_sub rfl (ls' := #[true, true, true, true, true, true, true, true, false, false, false, false, false, false, false, false, false, false, false, false, false]) rfl ?_
          refine d_q 8 rfl (by kernel_rfl) (q_load rfl rfl) wok_sub rfl (ls' := #[true, true, true, true, true, true, true, true, true, false, false, false, false, false, false, false, false, false, false, false, false]) rfl ?_
          refine d_q 9 rfl (by kernel_rfl) (q_min rfl rfl) wok_sub rfl (ls' := #[true, true, true, true, true, true, true, true, true, true, false, false, false, false, false, false, false, false, false, false, false]) rfl ?_
          refine d_q 10 rfl (by kernel_rfl) (q_lss rfl rfl) wok_sub rfl (ls' := #[true, true, true, true, true, true, true, true, true, true, true, false, false, false, false, false, false, false, false, false, false]) rfl ?_
          refine g_litb 59 (b := false) rfl (by simp; omega) ?_
          refine d_q 11 rfl (by kernel_rfl) (q_move rfl) wok_sub rfl (ls' := #[true, true, true, true, true, true, true, true, true, true, true, true, false, false, false, false, false, false, false, false, false]) rfl ?_
          refine d_qg 12 rfl (by kernel_rfl) (q_field rfl) rfl rfl wok_sub rfl (ls' := #[true, true, true, true, true, true, true, true, true, true, true, true, true, false, false, false, false, false, false, false, false]) rfl ?_
          refine d_qg 13 rfl (by kernel_rfl) (q_load rfl rfl) rfl rfl wok_sub rfl (ls' := #[true, true, true, true, true, true, true, true, true, true, true, true, true, true, false, false, false, false, false, false, false]) rfl ?_
          refine d_qg 14 rfl (by kernel_rfl) (q_move rfl) rfl rfl wok_sub rfl (ls' := #[true, true, true, true, true, true, true, true, true, true, true, true, true, true, true, false, false, false, false, false, false]) rfl ?_
          refine d_qg 15 rfl (by kernel_rfl) (q_move rfl) rfl rfl wok_sub rfl (ls' := #[true, true, true, true, true, true, true, true, true, true, true, true, true, true, true, true, false, false, false, false, false]) rfl ?_
          refine d_qg 16 rfl (by kernel_rfl) (q_index (i := k) rfl rfl rfl (o_l.rdb rfl) (by first | exact lt_k | omega)) rfl rfl wok_sub rfl (ls' := #[true, true, true, true, true, true, true, true, true, true, true, true, true, true, true, true, true, false, false, false, false]) rfl ?_
          refine d_qg 17 rfl (by kernel_rfl) (q_field rfl) rfl rfl wok_sub rfl (ls' := #[true, true, true, true, true, true, true, true, true, true, true, true, true, true, true, true, true, true, false, false, false]) rfl ?_
          refine d_qg 18 rfl (by kernel_rfl) (q_load_el (i := k) (o := 0) rfl (o_l.rdb rfl) (map_get (by first | assumption | omega)) rfl rfl) rfl rfl wok_sub rfl (ls' := #[true, true, true, true, true, true, true, true, true, true, true, true, true, true, true, true, true, true, true, false, false]) rfl ?_
          refine d_qg 19 rfl (by kernel_rfl) (q_gtr rfl rfl) rfl rfl wok_sub rfl (ls' := #[true, true, true, true, true, true, true, true, true, true, true, true, true, true, true, true, true, true, true, true, false]) rfl ?_
          refine g_litb 68 (b := false) rfl (by simp; omega) ?_
          refine d_q 20 rfl (by kernel_rfl) (q_pick_f rfl rfl) wok_sub rfl (ls' := #[true, true, true, true, true, true, true, true, true, true, true, true, true, true, true, true, true, true, true, true, true]) rfl ?_
          refine d_end (by kernel_rfl) (.inr wok_sub) ?_
          refine g_then ?_
          refine g_false rfl ?_
          refine g_skip ?_
          refine g_blk_n ?_
          refine g_then ?_
          refine g_region ?_
          refine s_q (q_inc rfl rfl (by omega)) rfl ?_
          refine s_q (q_move rfl) rfl ?_
          refine g_nil ?_
          exact g_again (k + 1) (by (try dsimp only); exact (by first | exact lt_k | omega)) (by first | omega | (simp only; omega)) (by repeat (first | exact trivial | refine ⟨rfl, ?_⟩)) wok_sub
        · have eq_k : k = l.length := by have h9 := of_decide_eq_false h4; omega
          refine g_exit ?_
          refine g_then_x (g_then_x (g_blk_hit ?_))
          refine g_then ?_
          refine g_seq ?_
          refine g_seq ?_
          refine g_region ?_
          refine s_q (q_move rfl) rfl ?_
          refine s_q (q_len rfl) rfl ?_
          refine s_q (q_move rfl) rfl ?_
          refine g_nil ?_
          refine g_then ?_
          refine g_block ?_
          refine g_loopk [0, 5, 6, 8, 71, 72] (fun (x : Nat) => [(73, .int .i64 ((x : Nat) : Int))]) (fun (x : Nat) => [Res.row A33 l.length cap33 24 7 (g33.map V.c), Res.row AA33 p33.length capp33 51 3 (p33.map Y.c), Res.blk b5 26 c.c]) (fun (x : Nat) => x ≤ p33.length) (fun (x : Nat) => p33.length - x) 0 (by (try dsimp only); exact Nat.zero_le _) rfl (by repeat (first | exact trivial | refine ⟨rfl, ?_⟩)) wok_sub ?_
          rintro j le_j
          replace le_j : j ≤ p33.length := le_j
          refine g_seq ?_
          refine g_region ?_
          refine s_q (q_lss rfl rfl) rfl ?_
          refine g_nil ?_
          refine g_then ?_
          refine g_seq ?_
          refine g_cond rfl (fun h5 => ?_) (fun h5 => ?_)
          · have lt_j : j < p33.length := by have h9 := of_decide_eq_true h5; omega
            refine g_skip ?_
            refine g_then ?_
            refine g_seq ?_
            refine g_block ?_
            refine g_seq ?_
            refine g_region ?_
            refine s_q (q_index (i := j) rfl rfl rfl (InRow.rdb (A := AA33) (els := (p33).map Y.c) (by first | rfl | assumption | (simp; done) | (simp_all; done) | (simp; omega) | (simp_all; omega)) (map_cat (c := Y.c) (fun _ => rfl) _)) (by first | exact lt_j | omega)) rfl ?_
            refine s_q (q_load_ew (i := j) rfl (InRow.rdb (A := AA33) (els := (p33).map Y.c) (by first | rfl | assumption | (simp; done) | (simp_all; done) | (simp; omega) | (simp_all; omega)) (map_cat (c := Y.c) (fun _ => rfl) _)) (map_get (by first | assumption | omega | (simp_all; done) | (simp_all; omega))) rfl) rfl ?_
            refine g_op (g_alloc rfl fun b13 => ?_)
            refine g_op (g_storew rfl rfl rfl rfl rfl ?_)
            refine g_nil ?_
            refine g_then ?_
            refine g_seq ?_
            refine g_region ?_
            obtain ⟨ix, hix, hxl, hst, hsl, hf, ha, ha2⟩ := hpay (p33[j]) (List.getElem_mem _)
            refine s_q (q_field rfl) rfl ?_
            refine s_q (q_load rfl rfl) rfl ?_
            refine g_val 78 (v' := .int .i64 ((ix : Nat) : Int)) rfl (by rw [hix]) ?_
            refine s_q (q_lss rfl rfl) rfl ?_
            refine g_litb 79 (b := false) rfl (by simp) ?_
            refine s_q (q_move rfl) rfl ?_
            refine s_qg (q_field rfl) rfl rfl rfl ?_
            refine s_qg (q_load rfl rfl) rfl rfl rfl ?_
            refine g_val 82 (v' := .int .i64 ((ix : Nat) : Int)) rfl (by rw [hix]) ?_
            refine s_qg (q_move rfl) rfl rfl rfl ?_
            refine s_qg (q_len rfl) rfl rfl rfl ?_
            refine s_qg (q_geq rfl rfl) rfl rfl rfl ?_
            refine g_litb 85 (b := false) rfl (by simp; omega) ?_
            refine s_q (q_pick_f rfl rfl) rfl ?_
            refine s_q (q_move rfl) rfl ?_
            refine s_qg (q_move rfl) rfl rfl rfl ?_
            refine s_qg (q_field rfl) rfl rfl rfl ?_
            refine s_qg (q_load rfl rfl) rfl rfl rfl ?_
            refine g_val 90 (v' := .int .i64 ((ix : Nat) : Int)) rfl (by rw [hix]) ?_
            refine s_qg (q_index (i := ix) rfl rfl rfl (o_l.rdb rfl) (by first | omega | (simp; done) | (simp; omega))) rfl rfl rfl ?_
            refine s_qg (q_field rfl) rfl rfl rfl ?_
            refine s_qg (q_load_el (i := ix) (o := 1) rfl (o_l.rdb rfl) (map_get (by first | assumption | omega)) rfl rfl) rfl rfl rfl ?_
            refine s_qg (q_neq rfl rfl) rfl rfl rfl ?_
            refine g_litb 94 (b := false) rfl (by simp [hst]) ?_
            refine s_q (q_pick_f rfl rfl) rfl ?_
            refine s_q (q_move rfl) rfl ?_
            refine s_qg (q_move rfl) rfl rfl rfl ?_
            refine s_qg (q_field rfl) rfl rfl rfl ?_
            refine s_qg (q_load rfl rfl) rfl rfl rfl ?_
            refine g_val 99 (v' := .int .i64 ((ix : Nat) : Int)) rfl (by rw [hix]) ?_
            refine s_qg (q_index (i := ix) rfl rfl rfl (o_l.rdb rfl) (by first | omega | (simp; done) | (simp; omega))) rfl rfl rfl ?_
            refine s_qg (q_field rfl) rfl rfl rfl ?_
            refine s_qg (q_load_el (i := ix) (o := 2) rfl (o_l.rdb rfl) (map_get (by first | assumption | omega)) rfl rfl) rfl rfl rfl ?_
            refine g_litb 102 (b := false) rfl (hsl) ?_
            refine s_q (q_pick_f rfl rfl) rfl ?_
            refine s_q (q_move rfl) rfl ?_
            refine s_qg (q_field rfl) rfl rfl rfl ?_
            refine s_qg (q_load rfl rfl) rfl rfl rfl ?_
            refine g_litb 106 (b := false) rfl (hf) ?_
            refine s_q (q_pick_f rfl rfl) rfl ?_
            refine s_q (q_move rfl) rfl ?_
            refine s_qg (q_field rfl) rfl rfl rfl ?_
            refine s_qg (q_load rfl rfl) rfl rfl rfl ?_
            refine s_qg (q_eql rfl rfl) rfl rfl rfl ?_
            refine g_litb 111 (b := false) rfl (by simp [ha]) ?_
            refine s_q (q_pick_f rfl rfl) rfl ?_
            refine g_nil ?_
            refine g_then ?_
            refine g_false rfl ?_
            refine g_skip ?_
            refine g_blk_n ?_
            refine g_then ?_
            refine g_region ?_
            refine s_q (q_inc rfl rfl (by omega)) rfl ?_
            refine s_q (q_move rfl) rfl ?_
            refine g_nil ?_
            exact g_again (j + 1) (by (try dsimp only); exact (by first | exact lt_j | omega)) (by first | omega | (simp only; omega)) (by repeat (first | exact trivial | refine ⟨rfl, ?_⟩)) wok_sub
          · have eq_j : j = p33.length := by have h9 := of_decide_eq_false h5; omega
            refine g_exit ?_
            refine g_then_x (g_then_x (g_blk_hit ?_))
            refine g_then ?_
            refine g_seq ?_
            refine g_region ?_
            refine g_op (g_pure rfl (fun w1 hw1 => alive_any w1) rfl ?_)
            refine s_q (q_move rfl) rfl ?_
            refine s_qg (q_move rfl) rfl rfl rfl ?_
            refine s_qg (q_len rfl) rfl rfl rfl ?_
            refine s_qg (q_field rfl) rfl rfl rfl ?_
            refine s_qg (q_load rfl rfl) rfl rfl rfl ?_
            refine s_qg (q_leq rfl rfl) rfl rfl rfl ?_
            refine g_litb 120 (b := true) rfl (by simp; omega) ?_
            refine s_q (q_pick_t rfl rfl) rfl ?_
            refine s_q (q_assign rfl) rfl ?_
            refine g_nil ?_
            refine g_then ?_
            refine g_ret ?_
            exact fin1 rfl (.tmp rfl) (fun w' hw' => ⟨by first | rfl | (simp_all; done) | (simp_all; omega), hw'.upd⟩) _ (.inl rfl)

theorem main_partialMinimum (v0 : Value) (v1 : Value) (v2 : Value) (W : World) (a0 : Arg Try.prog W 36 v0) (a1 : Arg Try.prog W 44 v1) (a2 : Arg Try.prog W 26 v2) : Pur Try.prog 6 [v0, v1, v2] W (.bool true) := by
  obtain ⟨A_l, c_l, l, rfl, hle0, hm0, o_l, k_l⟩ := Arg.slice V.c (fun x : V => x.ok) Try.underlying36 (show Try.prog.cellsOf 24 = 7 by kernel_rfl) (by omega) (openV) a0
  have h_l : l.length ≤ c_l ∧ c_l ≤ 9223372036854775807 := ⟨hle0, by unfold maxLen at hm0; omega⟩
  obtain ⟨A_q, c_q, q, rfl, hle1, hm1, o_q, k_q⟩ := Arg.slice R.c (fun x : R => x.ok) Try.underlying44 (show Try.prog.cellsOf 38 = 2 by kernel_rfl) (by omega) (openR) a1
  have h_q : q.length ≤ c_q ∧ c_q ≤ 9223372036854775807 := ⟨hle1, by unfold maxLen at hm1; omega⟩
  obtain ⟨cs, rfl, f, h⟩ := Arg.agg Try.underlying26 a2
  obtain ⟨c, rfl, k_c⟩ := openC f cs h
  exact law_partialMinimum A_l c_l l A_q c_q q c W o_l h_l k_l o_q h_q k_q k_c
end Go.Proofs.Ytmbnpdjchkadhaa
