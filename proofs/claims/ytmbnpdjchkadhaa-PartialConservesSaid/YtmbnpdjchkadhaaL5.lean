/- PartialConserves: for every list of validators, every queue and every configuration the law returns true. No condition. -/
import Derived.Test.YtmbnpdjchkadhaaL4p
namespace Go.Proofs.Ytmbnpdjchkadhaa
open Go.RowKit Go.Eg
set_option synthInstance.maxSize 3000
set_option linter.unusedSimpArgs false
set_option linter.unusedVariables false
def sumI (i : Nat) : List Y → Int
  | [] => 0
  | y :: r => (if y.i = (i : Int) then y.a else 0) + sumI i r
theorem sumI_app (i : Nat) : ∀ (l m : List Y), sumI i (l ++ m) = sumI i l + sumI i m
  | [], m => by simp [sumI]
  | y :: l, m => by simp only [List.cons_append, sumI, sumI_app i l m]; omega
theorem sumI_succ {k j : Nat} {p : List Y} (h : j < p.length) : sumI k (p.take (j + 1)) = sumI k (p.take j) + (if (p[j]).i = (k : Int) then (p[j]).a else 0) := by
  rw [← List.take_append_getElem h, sumI_app]; simp [sumI]
theorem sumI_pos (k : Nat) : ∀ (p : List Y), sumI k (pos p) = sumI k p
  | [] => rfl
  | y :: p => by
    have ih := sumI_pos k p
    unfold pos at ih ⊢
    rw [List.filter_cons]
    split
    · simp only [sumI, ih]
    · rename_i h
      have h0 : y.a = 0 := by simpa using h
      simp only [sumI, ih, h0]; split <;> omega
theorem sumI_nn (k : Nat) : ∀ {p : List Y}, (∀ y ∈ p, 0 ≤ y.a) → 0 ≤ sumI k p
  | [], _ => by simp [sumI]
  | y :: p, h => by
    have h1 := sumI_nn k (p := p) (fun x hx => h x (by simp [hx]))
    have h2 := h y (by simp)
    simp only [sumI]; split <;> omega
theorem sumI_take {k j : Nat} {p : List Y} (h : ∀ y ∈ p, 0 ≤ y.a) : 0 ≤ sumI k (p.take j) ∧ sumI k (p.take j) ≤ sumI k p := by
  refine ⟨sumI_nn k fun y hy => h y (List.mem_of_mem_take hy), ?_⟩
  have e : sumI k p = sumI k (p.take j) + sumI k (p.drop j) := by rw [← sumI_app, List.take_append_drop]
  have := sumI_nn k (p := p.drop j) fun y hy => h y (List.mem_of_mem_drop hy)
  omega
def Cons (l : List V) (s : List V × List Y) : Prop := ∀ (i : Nat) (x y : V), l[i]? = some x → s.1[i]? = some y → y.bal + sumI i s.2 = x.bal
theorem Cons.step {c : C} {l : List V} {s : List V × List Y} {r : R} (h : Inv c l s) (hc : Cons l s) (hl : ∀ x ∈ l, x.bal ≤ 18446744073709551615) (hr : 0 ≤ r.m) (hcm : 0 ≤ c.minb) : Cons l (stepQ c s r) := by
  by_cases hin : inB s.1 r
  · obtain ⟨ix, hix⟩ : ∃ ix : Nat, r.i = ix := ⟨r.i.toNat, by have := hin.1; omega⟩
    have hx : ix < s.1.length := by have := hin.2; omega
    have hxl : ix < l.length := by rw [← h.len]; exact hx
    have hrel := h.rel ix l[ix] (s.1[ix]) (List.getElem?_eq_getElem hxl) (List.getElem?_eq_getElem hx)
    have hap := hrel.ap (m := r.m) (hl _ (List.getElem_mem _)) hr hcm
    intro i x y hi hy
    simp only [stepQ, payO_in hix hx] at hy
    simp only [stepQ, payP_in hix hx, sumI_app]
    rw [List.getElem?_set] at hy
    split at hy
    · rename_i he
      subst he
      simp only [hx, if_true, Option.some.injEq] at hy
      subst hy
      have h0 := hc ix x _ hi (List.getElem?_eq_getElem hx)
      rw [hap.2.1]
      simp [sumI]; omega
    · rename_i he
      have h0 := hc i x y hi hy
      have he' : ¬ ((ix : Int) = (i : Int)) := by omega
      simp [sumI, he']; omega
  · intro i x y hi hy
    simp only [stepQ, payO_out hin] at hy
    simp only [stepQ, payP_out hin]
    exact hc i x y hi hy
theorem Cons.fold {c : C} {l : List V} (hl : ∀ x ∈ l, x.bal ≤ 18446744073709551615) (hcm : 0 ≤ c.minb) : ∀ (q : List R) (s : List V × List Y), (∀ r ∈ q, 0 ≤ r.m) → Inv c l s → Cons l s → Cons l (q.foldl (stepQ c) s)
  | [], _, _, _, h => h
  | r :: q, s, hq, hi, h => Cons.fold hl hcm q _ (fun x hx => hq x (by simp [hx])) (hi.step hl (hq r (by simp)) hcm) (Cons.step hi h hl (hq r (by simp)) hcm)
theorem Inv.start {c : C} {l : List V} (hl : ∀ x ∈ l, x.ok) : Inv c l (l, []) := ⟨rfl, fun i x y hx hy => by
    rw [hx] at hy
    simp only [Option.some.injEq] at hy
    subst hy
    have := (hl x (List.mem_of_getElem? hx)).bal.1
    exact ⟨rfl, rfl, this, by omega, by omega, rfl, rfl, rfl, rfl⟩, by simp⟩
theorem Cons.run {c : C} {l : List V} {q : List R} (hl : ∀ x ∈ l, x.ok) (hq : ∀ r ∈ q, r.ok) (hc : c.ok) : Cons l (run c l q) :=
  Cons.fold (fun x hx => (hl x hx).bal.2) hc.minb.1 q _ (fun r hr => (hq r hr).m.1) (Inv.start hl) fun i x y hx hy => by
    rw [hx] at hy
    simp only [Option.some.injEq] at hy
    subst hy
    simp [sumI]

set_option maxHeartbeats 400000 in
theorem law_partialConserves (A_l : Option Addr) (c_l : Nat) (l : List V) (A_q : Option Addr) (c_q : Nat) (q : List R) (c : C) (w : World) (o_l : Old w A_l l.length 7 (l.map V.c)) (h_l : l.length ≤ c_l ∧ c_l ≤ 9223372036854775807) (k_l : ∀ x ∈ l, (fun x : V => x.ok) x) (o_q : Old w A_q q.length 2 (q.map R.c)) (h_q : q.length ≤ c_q ∧ c_q ≤ 9223372036854775807) (k_q : ∀ x ∈ q, (fun x : R => x.ok) x) (k_c : (c).ok) : Pur Try.prog 7 [.slice A_l l.length c_l, .slice A_q q.length c_q, c.v] w (.bool true) := by
  refine g_start Try.func7 rfl 93 rfl (by simp) ([]) [] (WOK.start _ _) _ rfl ?_
  refine g_seq ?_
  refine g_region ?_
  refine g_op (g_box rfl rfl rfl fun b5 => ?_)
  refine s_q (q_assign rfl) rfl ?_
  refine g_nil ?_
  refine g_then ?_
  refine g_seq ?_
  refine g_seq ?_
  refine g_region ?_
  refine s_q (q_loadw rfl rfl) rfl ?_
  refine g_op (g_pure rfl (fun w hw => chk_any _ w) rfl ?_)
  refine s_q (q_neq rfl rfl) rfl ?_
  refine s_q (q_move rfl) rfl ?_
  refine g_split 19 rfl (fun h1 => ?_) (fun h1 => ?_)
  · refine g_gf rfl rfl rfl rfl ?_
    refine g_gf rfl rfl rfl rfl ?_
    refine g_gf rfl rfl rfl rfl ?_
    refine s_q (q_pick_t rfl rfl) rfl ?_
    refine s_q (q_move rfl) rfl ?_
    refine g_gf rfl rfl rfl rfl ?_
    refine g_gf rfl rfl rfl rfl ?_
    refine g_gf rfl rfl rfl rfl ?_
    refine s_q (q_pick_t rfl rfl) rfl ?_
    refine g_nil ?_
    refine g_then ?_
    refine g_true rfl ?_
    refine g_seq ?_
    refine g_region ?_
    refine g_op (g_pure rfl (fun w1 hw1 => alive_any w1) rfl ?_)
    refine s_q (q_assign rfl) rfl ?_
    refine g_nil ?_
    refine g_then ?_
    refine g_ret ?_
    refine g_then_ret ?_
    exact fin1 rfl (.tmp rfl) (fun w' hw' => ⟨by first | rfl | (simp_all; done) | (simp_all; omega), hw'.upd⟩) _ (.inl rfl)
  · refine s_qg (q_move rfl) rfl rfl rfl ?_
    refine s_qg (q_len rfl) rfl rfl rfl ?_
    refine s_qg (q_gtr rfl rfl) rfl rfl rfl ?_
    refine s_q (q_pick_f rfl rfl) rfl ?_
    refine s_q (q_move rfl) rfl ?_
    refine g_split 24 rfl (fun h2 => ?_) (fun h2 => ?_)
    · refine g_gf rfl rfl rfl rfl ?_
      refine g_gf rfl rfl rfl rfl ?_
      refine g_gf rfl rfl rfl rfl ?_
      refine s_q (q_pick_t rfl rfl) rfl ?_
      refine g_nil ?_
      refine g_then ?_
      refine g_true rfl ?_
      refine g_seq ?_
      refine g_region ?_
      refine g_op (g_pure rfl (fun w1 hw1 => alive_any w1) rfl ?_)
      refine s_q (q_assign rfl) rfl ?_
      refine g_nil ?_
      refine g_then ?_
      refine g_ret ?_
      refine g_then_ret ?_
      exact fin1 rfl (.tmp rfl) (fun w' hw' => ⟨by first | rfl | (simp_all; done) | (simp_all; omega), hw'.upd⟩) _ (.inl rfl)
    · refine s_qg (q_move rfl) rfl rfl rfl ?_
      refine s_qg (q_len rfl) rfl rfl rfl ?_
      refine s_qg (q_gtr rfl rfl) rfl rfl rfl ?_
      refine s_q (q_pick_f rfl rfl) rfl ?_
      refine g_nil ?_
      refine g_then ?_
      refine g_cond rfl (fun h3 => ?_) (fun h3 => ?_)
      · refine g_seq ?_
        refine g_region ?_
        refine g_op (g_pure rfl (fun w1 hw1 => alive_any w1) rfl ?_)
        refine s_q (q_assign rfl) rfl ?_
        refine g_nil ?_
        refine g_then ?_
        refine g_ret ?_
        refine g_then_ret ?_
        exact fin1 rfl (.tmp rfl) (fun w' hw' => ⟨by first | rfl | (simp_all; done) | (simp_all; omega), hw'.upd⟩) _ (.inl rfl)
      · have hchk : chk c = 0 := by simpa using h1
        have hl60 : l.length ≤ 60 := by simp at h2; omega
        have hq60 : q.length ≤ 60 := by simp at h3; omega
        have h17 := chk_right hchk 17 (by omega) (by omega)
        simp [rightB] at h17
        obtain ⟨P, hP⟩ : ∃ P : Nat, c.parts = P := ⟨c.parts.toNat, by omega⟩
        refine g_skip ?_
        refine g_then ?_
        refine g_seq ?_
        refine d_region [] mixed rfl rfl ?_
        refine d_q 0 rfl (by kernel_rfl) (q_move rfl) wok_sub rfl (ls' := #[true, false, false, false, false, false, false, false, false, false, false, false]) rfl ?_
        refine d_q 1 rfl (by kernel_rfl) (q_move rfl) wok_sub rfl (ls' := #[true, true, false, false, false, false, false, false, false, false, false, false]) rfl ?_
        refine d_q 3 rfl (by kernel_rfl) (q_loadw rfl rfl) wok_sub rfl (ls' := #[true, true, false, true, false, false, false, false, false, false, false, false]) rfl ?_
        refine d_op 2 rfl (by kernel_rfl) (ls' := #[true, true, true, true, false, false, false, false, false, false, false, false]) rfl wok_sub (g_ownS [] rfl (fun w1 hw1 ho1 => by have h7 := requests_any A_q (q.length) (c_q) (q) w1 (Rd.ofOld hw1 o_q (by omega) (by simp)) (by omega); exact h7) rfl ?_)
        rintro ⟨A33, cap33⟩ _
        refine ⟨_, _, inferInstance, inferInstance, ?_⟩
        refine d_op 4 rfl (by kernel_rfl) (ls' := #[true, true, true, true, true, false, false, false, false, false, false, false]) rfl wok_sub (g_ownS [] rfl (fun w1 hw1 ho1 => by have h7 := step_any A_l A33 (l.length) (c_l) (cap33) P (l) (q) c w1 (Rd.ofOld hw1 o_l (by omega) (by simp)) (Rd.ofRow (A := A33) hw1) (row_le (A := A33) hw1) (by omega) (by omega) hP; exact h7) rfl ?_)
        rintro ⟨A35, cap35, AA35, capp35⟩ _
        refine ⟨_, _, inferInstance, inferInstance, ?_⟩
        obtain ⟨g35, hg35⟩ : ∃ x, x = (run c l (q.take (min q.length P))).1 := ⟨_, rfl⟩
        obtain ⟨p35, hp35⟩ : ∃ x, x = pos (run c l (q.take (min q.length P))).2 := ⟨_, rfl⟩
        rw [← hg35, ← hp35]
        have hgl : g35.length = l.length := by rw [hg35]; exact run_len _ _ _
        refine d_q 5 rfl (by kernel_rfl) (q_move rfl) wok_sub rfl (ls' := #[true, true, true, true, true, true, false, false, false, false, false, false]) rfl ?_
        have hinv := Inv.run (c := c) (l := l) (q := q.take (min q.length P)) k_l (fun r hr => k_q r (List.mem_of_mem_take hr)) k_c
        have hrel : ∀ k (h : k < l.length) (h' : k < g35.length), relV c l[k] g35[k] := fun k h h' => hinv.rel k _ _ (List.getElem?_eq_getElem h) (by rw [← hg35]; exact List.getElem?_eq_getElem h')
        have hpay : ∀ p ∈ p35, ∃ ix : Nat, p.i = ix ∧ ∃ h : ix < l.length, (l[ix]).st = 2 ∧ (l[ix]).sl = false ∧ p.f = false ∧ ¬ p.a = 0 ∧ 0 ≤ p.a := fun p hp => by
          rw [hp35] at hp
          obtain ⟨hp1, hp2⟩ := List.mem_filter.1 hp
          obtain ⟨ix, x, h1, h2, h3, h4, h5⟩ := hinv.pay p hp1
          have hp3 : ¬ p.a = 0 := by simpa using hp2
          obtain ⟨hlt, rfl⟩ := List.getElem?_eq_some_iff.1 h2
          exact ⟨ix, h1, hlt, (h5.resolve_left hp3).1, (h5.resolve_left hp3).2, h3, hp3, h4⟩
        have hpn : p35.length ≤ P ∧ p35.length ≤ 60 := by
          have h1 := pos_le (run c l (q.take (min q.length P))).2
          have h2 := runp_len c l (q.take (min q.length P))
          rw [← hp35] at h1
          simp only [List.length_take] at h2
          omega
        have hcons := Cons.run (c := c) (l := l) (q := q.take (min q.length P)) k_l (fun r hr => k_q r (List.mem_of_mem_take hr)) k_c
        have hsum : ∀ k (h : k < l.length) (h' : k < g35.length), (g35[k]).bal + sumI k p35 = (l[k]).bal := fun k h h' => by
          rw [hp35, sumI_pos]
          exact hcons k _ _ (List.getElem?_eq_getElem h) (by rw [← hg35]; exact List.getElem?_eq_getElem h')
        have hann : ∀ y ∈ p35, 0 ≤ y.a := fun y hy => by obtain ⟨_, _, _, _, _, _, _, h⟩ := hpay y hy; exact h
        refine d_q 6 rfl (by kernel_rfl) (q_extract rfl rfl) wok_sub rfl (ls' := #[true, true, true, true, true, true, true, false, false, false, false, false]) rfl ?_
        refine d_q 7 rfl (by kernel_rfl) (q_extract rfl rfl) wok_sub rfl (ls' := #[true, true, true, true, true, true, true, true, false, false, false, false]) rfl ?_
        refine d_q 8 rfl (by kernel_rfl) (q_extract rfl rfl) wok_sub rfl (ls' := #[true, true, true, true, true, true, true, true, true, false, false, false]) rfl ?_
        refine d_q 9 rfl (by kernel_rfl) (q_assign rfl) wok_sub rfl (ls' := #[true, true, true, true, true, true, true, true, true, true, false, false]) rfl ?_
        refine d_q 10 rfl (by kernel_rfl) (q_assign rfl) wok_sub rfl (ls' := #[true, true, true, true, true, true, true, true, true, true, true, false]) rfl ?_
        refine d_q 11 rfl (by kernel_rfl) (q_assign rfl) wok_sub rfl (ls' := #[true, true, true, true, true, true, true, true, true, true, true, true]) rfl ?_
        refine d_end (by kernel_rfl) (.inr wok_sub) ?_
        refine g_then ?_
        refine g_seq ?_
        refine g_seq ?_
        refine g_region ?_
        refine s_q (q_move rfl) rfl ?_
        refine s_q (q_len rfl) rfl ?_
        refine s_q (q_move rfl) rfl ?_
        refine s_q (q_len rfl) rfl ?_
        refine s_q (q_neq rfl rfl) rfl ?_
        refine g_litb 43 (b := false) rfl (by simp) ?_
        refine g_nil ?_
        refine g_then ?_
        refine g_false rfl ?_
        refine g_skip ?_
        refine g_then ?_
        refine g_seq ?_
        refine g_seq ?_
        refine g_region ?_
        refine s_q (q_move rfl) rfl ?_
        refine s_q (q_len rfl) rfl ?_
        refine s_q (q_move rfl) rfl ?_
        refine g_nil ?_
        refine g_then ?_
        refine g_block ?_
        refine g_loopk [0, 6, 7, 8, 44, 45] (fun (x : Nat) => [(46, .int .i64 ((x : Nat) : Int))]) (fun (x : Nat) => [Res.row A35 l.length cap35 24 7 (g35.map V.c), Res.row AA35 p35.length capp35 51 3 (p35.map Y.c), Res.blk b5 26 c.c]) (fun (x : Nat) => x ≤ p35.length) (fun (x : Nat) => p35.length - x) 0 (by (try dsimp only); exact Nat.zero_le _) rfl (by repeat (first | exact trivial | refine ⟨rfl, ?_⟩)) wok_sub ?_
        rintro j le_j
        replace le_j : j ≤ p35.length := le_j
        refine g_seq ?_
        refine g_region ?_
        refine s_q (q_lss rfl rfl) rfl ?_
        refine g_nil ?_
        refine g_then ?_
        refine g_seq ?_
        refine g_cond rfl (fun h4 => ?_) (fun h4 => ?_)
        · have lt_j : j < p35.length := by have h9 := of_decide_eq_true h4; omega
          refine g_skip ?_
          refine g_then ?_
          refine g_seq ?_
          refine g_block ?_
          refine g_seq ?_
          refine g_region ?_
          refine s_q (q_index (i := j) rfl rfl rfl (InRow.rdb (A := AA35) (els := (p35).map Y.c) (by first | rfl | assumption | (simp; done) | (simp_all; done) | (simp; omega) | (simp_all; omega)) (map_cat (c := Y.c) (fun _ => rfl) _)) (by first | exact lt_j | omega)) rfl ?_
          refine s_q (q_load_ew (i := j) rfl (InRow.rdb (A := AA35) (els := (p35).map Y.c) (by first | rfl | assumption | (simp; done) | (simp_all; done) | (simp; omega) | (simp_all; omega)) (map_cat (c := Y.c) (fun _ => rfl) _)) (map_get (by first | assumption | omega | (simp_all; done) | (simp_all; omega))) rfl) rfl ?_
          refine g_op (g_alloc rfl fun b11 => ?_)
          refine g_op (g_storew rfl rfl rfl rfl rfl ?_)
          refine g_nil ?_
          refine g_then ?_
          refine g_seq ?_
          refine g_region ?_
          obtain ⟨ix, hix, hxl, hst, hsl, hf, ha, ha2⟩ := hpay (p35[j]) (List.getElem_mem _)
          refine s_q (q_field rfl) rfl ?_
          refine s_q (q_load rfl rfl) rfl ?_
          refine g_val 51 (v' := .int .i64 ((ix : Nat) : Int)) rfl (by rw [hix]) ?_
          refine s_q (q_lss rfl rfl) rfl ?_
          refine g_litb 52 (b := false) rfl (by simp) ?_
          refine s_q (q_move rfl) rfl ?_
          refine s_qg (q_field rfl) rfl rfl rfl ?_
          refine s_qg (q_load rfl rfl) rfl rfl rfl ?_
          refine g_val 55 (v' := .int .i64 ((ix : Nat) : Int)) rfl (by rw [hix]) ?_
          refine s_qg (q_move rfl) rfl rfl rfl ?_
          refine s_qg (q_len rfl) rfl rfl rfl ?_
          refine s_qg (q_geq rfl rfl) rfl rfl rfl ?_
          refine g_litb 58 (b := false) rfl (by simp; omega) ?_
          refine s_q (q_pick_f rfl rfl) rfl ?_
          refine g_nil ?_
          refine g_then ?_
          refine g_false rfl ?_
          refine g_skip ?_
          refine g_blk_n ?_
          refine g_then ?_
          refine g_region ?_
          refine s_q (q_inc rfl rfl (by omega)) rfl ?_
          refine s_q (q_move rfl) rfl ?_
          refine g_nil ?_
          exact g_again (j + 1) (by (try dsimp only); exact (by first | exact lt_j | omega)) (by first | omega | (simp only; omega)) (by repeat (first | exact trivial | refine ⟨rfl, ?_⟩)) wok_sub
        · have eq_j : j = p35.length := by have h9 := of_decide_eq_false h4; omega
          refine g_exit ?_
          refine g_then_x (g_then_x (g_blk_hit ?_))
          refine g_then ?_
          refine g_seq ?_
          refine g_seq ?_
          refine g_region ?_
          refine s_q (q_move rfl) rfl ?_
          refine s_q (q_len rfl) rfl ?_
          refine s_q (q_move rfl) rfl ?_
          refine g_nil ?_
          refine g_then ?_
          refine g_block ?_
          refine g_loopk [0, 6, 8, 61, 62] (fun (x : Nat) => [(63, .int .i64 ((x : Nat) : Int))]) (fun (x : Nat) => [Res.row A35 l.length cap35 24 7 (g35.map V.c), Res.row AA35 p35.length capp35 51 3 (p35.map Y.c), Res.blk b5 26 c.c]) (fun (x : Nat) => x ≤ l.length) (fun (x : Nat) => l.length - x) 0 (by (try dsimp only); exact Nat.zero_le _) rfl (by repeat (first | exact trivial | refine ⟨rfl, ?_⟩)) wok_sub ?_
          rintro k le_k
          replace le_k : k ≤ l.length := le_k
          refine g_seq ?_
          refine g_region ?_
          refine s_q (q_lss rfl rfl) rfl ?_
          refine g_nil ?_
          refine g_then ?_
          refine g_seq ?_
          refine g_cond rfl (fun h5 => ?_) (fun h5 => ?_)
          · have lt_k : k < l.length := by have h9 := of_decide_eq_true h5; omega
            refine g_skip ?_
            refine g_then ?_
            refine g_seq ?_
            refine g_block ?_
            refine g_seq ?_
            refine g_region ?_
            refine s_q (q_move rfl) rfl ?_
            refine s_q (q_index (i := k) rfl rfl rfl (InRow.rdb (A := A35) (els := (g35).map V.c) (by rw [List.length_map]; exact hgl.symm) (map_cat (c := V.c) (fun _ => rfl) _)) (by first | exact lt_k | omega)) rfl ?_
            refine s_q (q_load_ew (i := k) rfl (InRow.rdb (A := A35) (els := (g35).map V.c) (by rw [List.length_map]; exact hgl.symm) (map_cat (c := V.c) (fun _ => rfl) _)) (map_get (by first | assumption | omega | (simp_all; done) | (simp_all; omega))) rfl) rfl ?_
            refine g_op (g_alloc rfl fun b13 => ?_)
            refine s_q (q_assign rfl) rfl ?_
            refine g_op (g_storew rfl rfl rfl rfl rfl ?_)
            refine g_nil ?_
            refine g_then ?_
            refine g_seq ?_
            refine g_seq ?_
            refine g_region ?_
            have hr := hrel k lt_k (by omega)
            obtain ⟨r1, r2, r3, r4, r5, r6, r7, r8, r9⟩ := hr
            have hs := hsum k lt_k (by omega)
            have hlk := (k_l (l[k]) (List.getElem_mem _)).bal
            refine s_q (q_move rfl) rfl ?_
            refine s_q (q_len rfl) rfl ?_
            refine s_q (q_move rfl) rfl ?_
            refine g_nil ?_
            refine g_then ?_
            refine g_block ?_
            refine g_blkc (b := b13) (V.c { g35[k] with bal := (g35[k]).bal + sumI k (p35.take 0) }) (by simp [V.c, sumI]) ?_
            refine g_loopk [0, 6, 8, 12, 13, 61, 62, 63, 68, 69] (fun (x : Nat) => [(70, .int .i64 ((x : Nat) : Int))]) (fun (x : Nat) => [Res.blk b13 24 (V.c { g35[k] with bal := (g35[k]).bal + sumI k (p35.take x) }), Res.row A35 l.length cap35 24 7 (g35.map V.c), Res.row AA35 p35.length capp35 51 3 (p35.map Y.c), Res.blk b5 26 c.c]) (fun (x : Nat) => x ≤ p35.length) (fun (x : Nat) => p35.length - x) 0 (by (try dsimp only); exact Nat.zero_le _) rfl (by repeat (first | exact trivial | refine ⟨rfl, ?_⟩)) wok_sub ?_
            rintro m le_m
            replace le_m : m ≤ p35.length := le_m
            have ht := sumI_take (k := k) (j := m + 1) hann
            have ht0 := sumI_take (k := k) (j := m) hann
            refine g_seq ?_
            refine g_region ?_
            refine s_q (q_lss rfl rfl) rfl ?_
            refine g_nil ?_
            refine g_then ?_
            refine g_seq ?_
            refine g_cond rfl (fun h6 => ?_) (fun h6 => ?_)
            · have lt_m : m < p35.length := by have h9 := of_decide_eq_true h6; omega
              refine g_skip ?_
              refine g_then ?_
              refine g_seq ?_
              refine g_block ?_
              refine g_seq ?_
              refine g_region ?_
              refine s_q (q_index (i := m) rfl rfl rfl (InRow.rdb (A := AA35) (els := (p35).map Y.c) (by first | rfl | assumption | (simp; done) | (simp_all; done) | (simp; omega) | (simp_all; omega)) (map_cat (c := Y.c) (fun _ => rfl) _)) (by first | exact lt_m | omega)) rfl ?_
              refine s_q (q_load_ew (i := m) rfl (InRow.rdb (A := AA35) (els := (p35).map Y.c) (by first | rfl | assumption | (simp; done) | (simp_all; done) | (simp; omega) | (simp_all; omega)) (map_cat (c := Y.c) (fun _ => rfl) _)) (map_get (by first | assumption | omega | (simp_all; done) | (simp_all; omega))) rfl) rfl ?_
              refine g_op (g_alloc rfl fun b15 => ?_)
              refine g_op (g_storew rfl rfl rfl rfl rfl ?_)
              refine g_nil ?_
              refine g_then ?_
              refine g_seq ?_
              refine g_region ?_
              refine s_q (q_field rfl) rfl ?_
              refine s_q (q_load rfl rfl) rfl ?_
              refine s_q (q_move rfl) rfl ?_
              refine s_q (q_eql rfl rfl) rfl ?_
              refine g_nil ?_
              refine g_then ?_
              refine g_cond rfl (fun h7 => ?_) (fun h7 => ?_)
              · have hs1 := sumI_succ (k := k) lt_m
                rw [if_pos (by simpa using h7)] at hs1
                refine g_region ?_
                refine s_q (q_field rfl) rfl ?_
                refine s_q (q_load rfl rfl) rfl ?_
                refine s_q (q_field rfl) rfl ?_
                refine s_q (q_load rfl rfl) rfl ?_
                refine s_q (q_addz (z := (g35[k]).bal + sumI k (p35.take (m + 1))) rfl rfl (by dsimp only; rw [wu64 (by omega) (by omega)]; omega)) rfl ?_
                refine s_q (q_field rfl) rfl ?_
                refine g_op (g_store rfl rfl rfl rfl rfl rfl rfl ?_)
                refine g_blkc (b := b13) (V.c { g35[k] with bal := (g35[k]).bal + sumI k (p35.take (m + 1)) }) (by simp [V.c, splice]) ?_
                refine g_nil ?_
                refine g_blk_n ?_
                refine g_then ?_
                refine g_region ?_
                refine s_q (q_inc rfl rfl (by omega)) rfl ?_
                refine s_q (q_move rfl) rfl ?_
                refine g_nil ?_
                exact g_again (m + 1) (by (try dsimp only); exact (by first | exact lt_m | omega)) (by first | omega | (simp only; omega)) (by repeat (first | exact trivial | refine ⟨rfl, ?_⟩)) wok_sub
              · have hs1 := sumI_succ (k := k) lt_m
                rw [if_neg (by simpa using h7), Int.add_zero] at hs1
                refine g_blkc (b := b13) (V.c { g35[k] with bal := (g35[k]).bal + sumI k (p35.take (m + 1)) }) (by rw [hs1]) ?_
                refine g_skip ?_
                refine g_blk_n ?_
                refine g_then ?_
                refine g_region ?_
                refine s_q (q_inc rfl rfl (by omega)) rfl ?_
                refine s_q (q_move rfl) rfl ?_
                refine g_nil ?_
                exact g_again (m + 1) (by (try dsimp only); exact (by first | exact lt_m | omega)) (by first | omega | (simp only; omega)) (by repeat (first | exact trivial | refine ⟨rfl, ?_⟩)) wok_sub
            · have eq_m : m = p35.length := by have h9 := of_decide_eq_false h6; omega
              refine g_exit ?_
              refine g_then_x (g_then_x (g_blk_hit ?_))
              refine g_then ?_
              refine g_seq ?_
              refine d_region [] mixed rfl rfl ?_
              rw [eq_m, List.take_length]
              refine d_q 0 rfl (by kernel_rfl) (q_loadw rfl rfl) wok_sub rfl (ls' := #[true, false, false, false, false, false]) rfl ?_
              refine d_q 1 rfl (by kernel_rfl) (q_move rfl) wok_sub rfl (ls' := #[true, true, false, false, false, false]) rfl ?_
              refine d_q 2 rfl (by kernel_rfl) (q_move rfl) wok_sub rfl (ls' := #[true, true, true, false, false, false]) rfl ?_
              refine d_q 3 rfl (by kernel_rfl) (q_index (i := k) rfl rfl rfl (o_l.rdb rfl) (by first | exact lt_k | omega)) wok_sub rfl (ls' := #[true, true, true, true, false, false]) rfl ?_
              refine d_q 4 rfl (by kernel_rfl) (q_load_ew (i := k) rfl (o_l.rdb rfl) (map_get (by first | assumption | omega)) rfl) wok_sub rfl (ls' := #[true, true, true, true, true, false]) rfl ?_
              refine d_q 5 rfl (by kernel_rfl) (q_nes rfl rfl rfl) wok_sub rfl (ls' := #[true, true, true, true, true, true]) rfl ?_
              refine g_litb 90 (b := false) rfl (by simp [hs, r1, r2, r6, r7, r8, r9]) ?_
              refine d_end (by kernel_rfl) (.inr wok_sub) ?_
              refine g_then ?_
              refine g_false rfl ?_
              refine g_skip ?_
              refine g_blk_n ?_
              refine g_then ?_
              refine g_region ?_
              refine s_q (q_inc rfl rfl (by omega)) rfl ?_
              refine s_q (q_move rfl) rfl ?_
              refine g_nil ?_
              exact g_again (k + 1) (by (try dsimp only); exact (by first | exact lt_k | omega)) (by first | omega | (simp only; omega)) (by repeat (first | exact trivial | refine ⟨rfl, ?_⟩)) wok_sub
          · have eq_k : k = l.length := by have h9 := of_decide_eq_false h5; omega
            refine g_exit ?_
            refine g_then_x (g_then_x (g_blk_hit ?_))
            refine g_then ?_
            refine g_seq ?_
            refine g_region ?_
            refine g_op (g_pure rfl (fun w1 hw1 => alive_any w1) rfl ?_)
            refine s_q (q_assign rfl) rfl ?_
            refine g_nil ?_
            refine g_then ?_
            refine g_ret ?_
            exact fin1 rfl (.tmp rfl) (fun w' hw' => ⟨by first | rfl | (simp_all; done) | (simp_all; omega), hw'.upd⟩) _ (.inl rfl)

theorem main_partialConserves (v0 : Value) (v1 : Value) (v2 : Value) (W : World) (a0 : Arg Try.prog W 36 v0) (a1 : Arg Try.prog W 44 v1) (a2 : Arg Try.prog W 26 v2) : Pur Try.prog 7 [v0, v1, v2] W (.bool true) := by
  obtain ⟨A_l, c_l, l, rfl, hle0, hm0, o_l, k_l⟩ := Arg.slice V.c (fun x : V => x.ok) Try.underlying36 (show Try.prog.cellsOf 24 = 7 by kernel_rfl) (by omega) (openV) a0
  have h_l : l.length ≤ c_l ∧ c_l ≤ 9223372036854775807 := ⟨hle0, by unfold maxLen at hm0; omega⟩
  obtain ⟨A_q, c_q, q, rfl, hle1, hm1, o_q, k_q⟩ := Arg.slice R.c (fun x : R => x.ok) Try.underlying44 (show Try.prog.cellsOf 38 = 2 by kernel_rfl) (by omega) (openR) a1
  have h_q : q.length ≤ c_q ∧ c_q ≤ 9223372036854775807 := ⟨hle1, by unfold maxLen at hm1; omega⟩
  obtain ⟨cs, rfl, f, h⟩ := Arg.agg Try.underlying26 a2
  obtain ⟨c, rfl, k_c⟩ := openC f cs h
  exact law_partialConserves A_l c_l l A_q c_q q c W o_l h_l k_l o_q h_q k_q k_c

namespace LawPartialConserves
open Go.ChangeShapes Go.WideShapes Go.ChangeAt Go.RowKit Go.Eg
set_option linter.unusedVariables false
theorem own : ownKnob Try.prog.godebug = none := by kernel_rfl
theorem laidOut : laidOutB Try.prog = true := by kernel_rfl
set_option maxRecDepth 100000 in
theorem lifted (os : Os) (started : os.Started) (H : Type) (enc : TypeId × Value → H) :
    ReturnsInHanded {} Try.checked os 7 .any (Rows.partialConservesSpec.pre6 enc Try.prog Try.f7 Rows.partialConservesRow.domain false) (Rows.partialConservesSpec.post enc Try.prog Try.f7 false true false false) := by
  refine returnsInHanded_of_change (C := Try.checked) own started (by kernel_rfl) Try.func7
    (ChangeSpec.witness6 (enc := enc) (C := Try.checked) false ⟨#[], #[.slice none 0 0, .slice none 0 0, .agg #[.int .i64 0, .int .i64 0, .int .u64 0, .int .u64 0, .int .u64 0, .int .u64 0, .int .u64 0, .int .u64 0, .int .u64 0, .int .u64 0, .int .i64 0, .int .i64 0, .int .i64 0, .int .i64 0, .int .i64 0, .int .i64 0, .int .i64 0, .int .i64 0, .int .u64 0, .int .u64 0]], []⟩ 8 (by kernel_rfl) (by kernel_rfl) (by kernel_rfl) (by kernel_rfl)) ?_
  intro W base args ds gs before hval0 hW hcnd _
  have hval : ∀ (j : Nat) t v, Try.f7.params[j]? = some t → args[j]? = some v → Value.okWide Try.prog W .any base t v := hval0
  have hW' := hW
  obtain ⟨p, q, hA0, hV, rfl, hfz, hnd⟩ := hW
  have hA : DataW.TrodAll enc Try.prog W 0 (fun _ => true) true Try.f7.params.toList args.toList ds p := hA0
  rw [Try.params7] at hA hval
  obtain ⟨v0, vs0, d0, ds0, p0, q0, hargs, rfl, rfl, h0, r0⟩ := trodAll_cons hA
  obtain ⟨v1, vs1, d1, ds1, p1, q1, rfl, rfl, rfl, h1, r1⟩ := trodAll_cons r0
  obtain ⟨v2, vs2, d2, ds2, p2, q2, rfl, rfl, rfl, h2, r2⟩ := trodAll_cons r1
  obtain ⟨rfl, rfl, rfl⟩ := trodAll_nil r2
  obtain rfl : args = #[v0, v1, v2] := by cases args; simp_all
  obtain ⟨rfl, rfl⟩ := trodVars_none hV
  have a0 := Arg.of h0 (hval 0 36 v0 rfl rfl)
  have lt0 : ∀ x ∈ p0, x.block < W.heap.size := by obtain ⟨m, hm⟩ := h0; exact DataW.trod_lt m _ _ _ hm
  have a1 := Arg.of h1 (hval 1 44 v1 rfl rfl)
  have lt1 : ∀ x ∈ p1, x.block < W.heap.size := by obtain ⟨m, hm⟩ := h1; exact DataW.trod_lt m _ _ _ hm
  have a2 := Arg.of h2 (hval 2 26 v2 rfl rfl)
  have lt2 : ∀ x ∈ p2, x.block < W.heap.size := by obtain ⟨m, hm⟩ := h2; exact DataW.trod_lt m _ _ _ hm
  clear hA0 hval0
  simp only [List.append_nil] at hW'
  refine Calls.mono (main_partialConserves v0 v1 v2 W a0 a1 a2) ?_
  rintro e W' ⟨v, rfl, rfl, hu⟩
  have bel := hu.below
  have targ := (trodAll_cons_mk (Below.trod laidOut (by kernel_rfl) (of_decide_eq_true (by kernel_rfl)) h0 bel lt0) (trodAll_cons_mk (Below.trod laidOut (by kernel_rfl) (of_decide_eq_true (by kernel_rfl)) h1 bel lt1) (trodAll_cons_mk (Below.trod laidOut (by kernel_rfl) (of_decide_eq_true (by kernel_rfl)) h2 bel lt2) trodAll_mk0)))
  simp only [List.append_nil] at targ
  exact ⟨_, rfl, _, _, _, [], _, [], hW', trodAll_mk1 (shut_bool Try.underlying4 _), targ, rfl, bel.frame _, fun h => by cases h⟩
theorem over : Rows.partialConservesRow.holds Try.pinned (OpenSpec.ofChange Rows.partialConservesSpec) :=
  OpenClaim.holds_of_wide 7 Try.f7 rfl rfl rfl rfl rfl rfl rfl ⟨rfl, rfl, rfl, rfl, rfl⟩ rfl rfl rfl rfl rfl (by kernel_rfl) Try.func7 (by kernel_rfl)
    (of_decide_eq_true (by kernel_rfl)) (by unfold Func.isWrapper; first | (rw [if_pos (by decide +kernel)]; kernel_rfl) | (rw [if_neg (by decide +kernel)]; exact ⟨rfl, rfl⟩))
    (fun os started H enc _ => lifted os started H enc)
theorem proved : Rows.PartialConservesSaid := over
end LawPartialConserves
end Go.Proofs.Ytmbnpdjchkadhaa
