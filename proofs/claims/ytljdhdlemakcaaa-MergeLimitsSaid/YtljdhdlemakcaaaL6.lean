/- MergeLimits: for every list of validators, every queue and every configuration the law returns true. No condition. -/
import Derived.Test.YtljdhdlemakcaaaW7
namespace Go.Proofs.Ytljdhdlemakcaaa
open Go.RowKit Go.Eg
set_option synthInstance.maxSize 3000
set_option linter.unusedSimpArgs false
set_option linter.unusedVariables false
def newM (x y : V) : Nat := if y.st = 7 ∧ ¬ x.st = 7 then 1 else 0
def cntM : List V → List V → Nat
  | x :: l, y :: g => newM x y + cntM l g
  | _, _ => 0
theorem newM_le (x y : V) : newM x y ≤ 1 := by unfold newM; split <;> omega
theorem cnt_set : ∀ (l g : List V) (i : Nat) (y : V), cntM l (g.set i y) ≤ cntM l g + 1
  | [], g, i, y => by simp [cntM]
  | x :: l, [], i, y => by simp [cntM]
  | x :: l, z :: g, 0, y => by
    have := newM_le x y
    simp only [List.set_cons_zero, cntM]; omega
  | x :: l, z :: g, i + 1, y => by
    have := cnt_set l g i y
    simp only [List.set_cons_succ, cntM]; omega
theorem cnt_same : ∀ (l g : List V) (i : Nat) (h : i < g.length) (y : V), y.st = (g[i]).st → cntM l (g.set i y) = cntM l g
  | [], g, i, _, y, _ => by simp [cntM]
  | x :: l, [], i, h, y, _ => by simp at h
  | x :: l, z :: g, 0, _, y, hy => by
    simp only [List.getElem_cons_zero] at hy
    simp [cntM, newM, hy]
  | x :: l, z :: g, i + 1, h, y, hy => by
    have := cnt_same l g i (by simpa using h) y (by simpa using hy)
    simp only [List.set_cons_succ, cntM, this]
theorem cnt_take : ∀ (l g : List V) (k : Nat) (h : k < l.length) (h' : k < g.length), cntM (l.take (k + 1)) (g.take (k + 1)) = cntM (l.take k) (g.take k) + newM l[k] g[k]
  | [], g, k, h, _ => by simp at h
  | x :: l, [], k, _, h' => by simp at h'
  | x :: l, z :: g, 0, _, _ => by simp [cntM]
  | x :: l, z :: g, k + 1, h, h' => by
    have := cnt_take l g k (by simpa using h) (by simpa using h')
    simp only [List.take_succ_cons, cntM, List.getElem_cons_succ] at this ⊢
    omega
theorem cnt_take_le : ∀ (l g : List V) (k : Nat), cntM (l.take k) (g.take k) ≤ cntM l g
  | [], g, k => by simp [cntM]
  | x :: l, [], k => by cases k <;> simp [cntM]
  | x :: l, z :: g, 0 => by simp [cntM]
  | x :: l, z :: g, k + 1 => by
    have := cnt_take_le l g k
    simp only [List.take_succ_cons, cntM]; omega
theorem cnt_self : ∀ l : List V, cntM l l = 0
  | [] => rfl
  | x :: l => by simp [cntM, newM, cnt_self l]
def okM (c : C) (x y : V) : Prop := (y.st = x.st ∨ (y.st = 7 ∧ y.bal = 0)) ∧ (y.bal ≤ x.bal ∨ y.bal ≤ c.maxb)
structure InvM (c : C) (l : List V) (s : List V × List Bool) : Prop where
  len : s.1.length = l.length
  rel : ∀ (i : Nat) (x y : V), l[i]? = some x → s.1[i]? = some y → okM c x y
  cnt : cntM l s.1 ≤ s.2.length
  ok : okV s.1
theorem InvM.step {c : C} {l : List V} {s : List V × List Bool} {p : PP} (h : InvM c l s) (hl : okV l) : InvM c l (stepM c s p) := by
  by_cases hr : okReq s.1 p c = true
  · obtain ⟨g1, g2, g3, g4, g5, g6⟩ := req_ok (of_decide_eq_true hr)
    obtain ⟨ni, hni⟩ : ∃ t : Nat, p.a = t := ⟨p.a.toNat, by omega⟩
    obtain ⟨nj, hnj⟩ : ∃ t : Nat, p.b = t := ⟨p.b.toNat, by omega⟩
    have hi : ni < s.1.length := by omega
    have hj : nj < s.1.length := by omega
    have hne : ni ≠ nj := by omega
    rw [atV_get hni hi, atV_get hnj hj] at g6
    obtain ⟨q1, q2, _, _, q3, q4⟩ := check_st g6
    have bi := h.ok _ (List.getElem_mem hi)
    have bj := h.ok _ (List.getElem_mem hj)
    have e : (stepM c s p).1 = mvN s.1 ni nj := by unfold stepM; dsimp only; rw [if_pos hr, hni, hnj]; rfl
    have e2 : (stepM c s p).2.length = s.2.length + 1 := by simp [stepM]
    have hw : IntKind.u64.wrap ((s.1[nj]).bal + (s.1[ni]).bal) = (s.1[nj]).bal + (s.1[ni]).bal := by rw [IntKind.wrap_u64]; omega
    have hj' : nj < (s.1.set ni { s.1[ni] with bal := 0, st := 7 }).length := by simpa using hj
    have ej : (s.1.set ni { s.1[ni] with bal := 0, st := 7 })[nj] = s.1[nj] := by rw [List.getElem_set_ne hne]
    refine ⟨by rw [e, mvN_len]; exact h.len, fun i x y hx hy => ?_, ?_, by rw [e]; exact okV_mv h.ok⟩
    · rw [e] at hy
      simp only [mvN, atN_get hi, atN_get hj, hw] at hy
      rw [List.getElem?_set] at hy
      split at hy
      · rename_i hc
        subst hc
        simp only [hj', if_true, Option.some.injEq] at hy
        subst hy
        have hold := h.rel nj x _ hx (List.getElem?_eq_getElem hj)
        refine ⟨?_, .inr (by dsimp only; omega)⟩
        rcases hold.1 with h1 | ⟨h1, _⟩
        · exact .inl h1
        · omega
      · rw [List.getElem?_set] at hy
        split at hy
        · simp only [hi, if_true, Option.some.injEq] at hy
          subst hy
          have hx0 := hl x (List.mem_of_getElem? hx)
          exact ⟨.inr ⟨rfl, rfl⟩, .inl (by dsimp only; omega)⟩
        · exact h.rel i x y hx hy
    · rw [e2, e]
      simp only [mvN, atN_get hi, atN_get hj]
      rw [cnt_same _ _ _ hj' _ (by rw [ej])]
      have h1 := cnt_set l s.1 ni { s.1[ni] with bal := 0, st := 7 }
      have h2 := h.cnt
      omega
  · have e : (stepM c s p).1 = s.1 := by unfold stepM; dsimp only; rw [if_neg hr]
    have e2 : (stepM c s p).2.length = s.2.length + 1 := by simp [stepM]
    exact ⟨by rw [e]; exact h.len, by rw [e]; exact h.rel, by rw [e, e2]; have := h.cnt; omega, by rw [e]; exact h.ok⟩
theorem InvM.fold {c : C} {l : List V} (hl : okV l) : ∀ (q : List PP) (s : List V × List Bool), InvM c l s → InvM c l (q.foldl (stepM c) s)
  | [], _, h => h
  | p :: q, s, h => InvM.fold hl q _ (h.step hl)
theorem InvM.run {c : C} {l : List V} (q : List PP) (hl : okV l) : InvM c l (runM c l q) :=
  InvM.fold hl q _ ⟨rfl, fun i x y hx hy => by
    rw [hx] at hy
    simp only [Option.some.injEq] at hy
    subst hy
    exact ⟨.inl rfl, .inl (Int.le_refl _)⟩, by rw [cnt_self]; simp, hl⟩

set_option maxHeartbeats 400000 in
theorem law_mergeLimits (A_l : Option Addr) (c_l : Nat) (l : List V) (A_q : Option Addr) (c_q : Nat) (q : List PP) (c : C) (w : World) (o_l : Old w A_l l.length 7 (l.map V.c)) (h_l : l.length ≤ c_l ∧ c_l ≤ 9223372036854775807) (k_l : ∀ x ∈ l, (fun x : V => x.ok) x) (o_q : Old w A_q q.length 2 (q.map PP.c)) (h_q : q.length ≤ c_q ∧ c_q ≤ 9223372036854775807) (k_q : ∀ x ∈ q, (fun x : PP => x.ok) x) (k_c : (c).ok) : Pur Try.prog 7 [.slice A_l l.length c_l, .slice A_q q.length c_q, c.v] w (.bool true) := by
  refine g_start Try.func7 rfl 97 rfl (by simp) ([]) [] (WOK.start _ _) _ rfl ?_
  refine g_seq ?_
  refine g_region ?_
  refine g_op (g_box rfl rfl rfl fun b5 => ?_)
  refine s_q (q_assign rfl) rfl ?_
  refine g_nil ?_
  refine g_then ?_
  refine g_seq ?_
  refine g_seq ?_
  refine g_region ?_
  refine s_q (q_loadw rfl rfl) rfl ?_
  refine g_op (g_pure rfl (fun w hw => chk_any _ w) rfl ?_)
  refine s_q (q_neq rfl rfl) rfl ?_
  refine s_q (q_move rfl) rfl ?_
  refine g_split 15 rfl (fun h1 => ?_) (fun h1 => ?_)
  · refine g_gf rfl rfl rfl rfl ?_
    refine g_gf rfl rfl rfl rfl ?_
    refine g_gf rfl rfl rfl rfl ?_
    refine s_q (q_pick_t rfl rfl) rfl ?_
    refine s_q (q_move rfl) rfl ?_
    refine g_gf rfl rfl rfl rfl ?_
    refine g_gf rfl rfl rfl rfl ?_
    refine g_gf rfl rfl rfl rfl ?_
    refine s_q (q_pick_t rfl rfl) rfl ?_
    refine g_nil ?_
    refine g_then ?_
    refine g_true rfl ?_
    refine g_seq ?_
    refine g_region ?_
    refine g_op (g_pure rfl (fun w1 hw1 => alive_any w1) rfl ?_)
    refine s_q (q_assign rfl) rfl ?_
    refine g_nil ?_
    refine g_then ?_
    refine g_ret ?_
    refine g_then_ret ?_
    exact fin1 rfl (.tmp rfl) (fun w' hw' => ⟨by first | rfl | (simp_all; done) | (simp_all; omega), hw'.upd⟩) _ (.inl rfl)
  · refine s_qg (q_move rfl) rfl rfl rfl ?_
    refine s_qg (q_len rfl) rfl rfl rfl ?_
    refine s_qg (q_gtr rfl rfl) rfl rfl rfl ?_
    refine s_q (q_pick_f rfl rfl) rfl ?_
    refine s_q (q_move rfl) rfl ?_
    refine g_split 20 rfl (fun h2 => ?_) (fun h2 => ?_)
    · refine g_gf rfl rfl rfl rfl ?_
      refine g_gf rfl rfl rfl rfl ?_
      refine g_gf rfl rfl rfl rfl ?_
      refine s_q (q_pick_t rfl rfl) rfl ?_
      refine g_nil ?_
      refine g_then ?_
      refine g_true rfl ?_
      refine g_seq ?_
      refine g_region ?_
      refine g_op (g_pure rfl (fun w1 hw1 => alive_any w1) rfl ?_)
      refine s_q (q_assign rfl) rfl ?_
      refine g_nil ?_
      refine g_then ?_
      refine g_ret ?_
      refine g_then_ret ?_
      exact fin1 rfl (.tmp rfl) (fun w' hw' => ⟨by first | rfl | (simp_all; done) | (simp_all; omega), hw'.upd⟩) _ (.inl rfl)
    · refine s_qg (q_move rfl) rfl rfl rfl ?_
      refine s_qg (q_len rfl) rfl rfl rfl ?_
      refine s_qg (q_gtr rfl rfl) rfl rfl rfl ?_
      refine s_q (q_pick_f rfl rfl) rfl ?_
      refine g_nil ?_
      refine g_then ?_
      refine g_cond rfl (fun h3 => ?_) (fun h3 => ?_)
      · refine g_seq ?_
        refine g_region ?_
        refine g_op (g_pure rfl (fun w1 hw1 => alive_any w1) rfl ?_)
        refine s_q (q_assign rfl) rfl ?_
        refine g_nil ?_
        refine g_then ?_
        refine g_ret ?_
        refine g_then_ret ?_
        exact fin1 rfl (.tmp rfl) (fun w' hw' => ⟨by first | rfl | (simp_all; done) | (simp_all; omega), hw'.upd⟩) _ (.inl rfl)
      · have hchk : chk c = 0 := by simpa using h1
        have hl60 : l.length ≤ 60 := by simp at h2; omega
        have hq60 : q.length ≤ 60 := by simp at h3; omega
        have h18 := chk_right hchk 18 (by omega) (by omega)
        simp [rightB, btw] at h18
        obtain ⟨P, hP⟩ : ∃ P : Nat, c.merg = P := ⟨c.merg.toNat, by omega⟩
        refine g_skip ?_
        refine g_then ?_
        refine g_seq ?_
        refine g_region ?_
        refine s_q (q_move rfl) rfl ?_
        refine s_q (q_move rfl) rfl ?_
        refine s_q (q_loadw rfl rfl) rfl ?_
        refine g_op (g_ownS [] rfl (fun w1 hw1 ho1 => by have h7 := step_any A_l A_q (l.length) (c_l) (c_q) P (l) (q) c w1 (Rd.ofOld hw1 o_l (by omega) (by simp)) (Rd.ofOld hw1 o_q (by omega) (by simp)) h_q.1 (by omega) (by omega) hP (fun x hx => (k_l x hx).bal); exact h7) rfl ?_)
        rintro ⟨A30, cap30, AA30, capd30⟩ _
        refine ⟨_, _, inferInstance, inferInstance, ?_⟩
        obtain ⟨g30, hg30⟩ : ∃ x, x = (runM c l (q.take (min q.length P))).1 := ⟨_, rfl⟩
        obtain ⟨d30, hd30⟩ : ∃ x, x = (runM c l (q.take (min q.length P))).2 := ⟨_, rfl⟩
        rw [← hg30, ← hd30]
        have hgl30 : g30.length = l.length := by rw [hg30]; exact (runM_len _ _ _).1
        have hdl30 : d30.length = min q.length P := by rw [hd30, (runM_len _ _ _).2]; simp
        have hinv := InvM.run (c := c) (q.take (min q.length P)) (fun x hx => (k_l x hx).bal)
        rw [show (runM c l (q.take (min q.length P))) = (g30, d30) from by rw [hg30, hd30]] at hinv
        have hrel : ∀ k (h : k < l.length) (h' : k < g30.length), okM c l[k] g30[k] := fun k h h' => hinv.rel k _ _ (List.getElem?_eq_getElem h) (List.getElem?_eq_getElem h')
        have hcnt := hinv.cnt
        simp only at hcnt
        refine s_q (q_move rfl) rfl ?_
        refine s_q (q_extract rfl rfl) rfl ?_
        refine s_q (q_extract rfl rfl) rfl ?_
        refine s_q (q_assign rfl) rfl ?_
        refine s_q (q_assign rfl) rfl ?_
        refine g_nil ?_
        refine g_then ?_
        refine g_seq ?_
        refine g_seq ?_
        refine g_region ?_
        refine s_q (q_move rfl) rfl ?_
        refine s_q (q_len rfl) rfl ?_
        refine s_q (q_move rfl) rfl ?_
        refine s_q (q_len rfl) rfl ?_
        refine s_q (q_neq rfl rfl) rfl ?_
        refine g_litb 37 (b := false) rfl (by simp) ?_
        refine s_q (q_move rfl) rfl ?_
        refine s_qg (q_move rfl) rfl rfl rfl ?_
        refine s_qg (q_len rfl) rfl rfl rfl ?_
        refine s_qg (q_field rfl) rfl rfl rfl ?_
        refine s_qg (q_load rfl rfl) rfl rfl rfl ?_
        refine s_qg (q_gtr rfl rfl) rfl rfl rfl ?_
        refine g_litb 43 (b := false) rfl (by simp [hP]; omega) ?_
        refine s_q (q_pick_f rfl rfl) rfl ?_
        refine g_nil ?_
        refine g_then ?_
        refine g_false rfl ?_
        refine g_skip ?_
        refine g_then ?_
        refine g_seq ?_
        refine g_region ?_
        refine s_q (q_assign rfl) rfl ?_
        refine g_nil ?_
        refine g_then ?_
        refine g_seq ?_
        refine g_seq ?_
        refine g_region ?_
        refine s_q (q_move rfl) rfl ?_
        refine s_q (q_len rfl) rfl ?_
        refine s_q (q_move rfl) rfl ?_
        refine g_nil ?_
        refine g_then ?_
        refine g_block ?_
        refine g_loopk [0, 5, 6, 8, 45, 46] (fun (x : Nat) => [(9, .int .i64 (((cntM (l.take x) (g30.take x)) : Nat) : Int)), (47, .int .i64 ((x : Nat) : Int))]) (fun (x : Nat) => [Res.row A30 l.length cap30 24 7 (g30.map V.c), Res.row AA30 d30.length capd30 4 1 (d30.map (fun v : Bool => [Value.bool v])), Res.blk b5 26 c.c]) (fun (x : Nat) => x ≤ l.length) (fun (x : Nat) => l.length - x) 0 (by (try dsimp only); exact Nat.zero_le _) rfl (by repeat (first | exact trivial | refine ⟨rfl, ?_⟩)) wok_sub ?_
        rintro k le_k
        replace le_k : k ≤ l.length := le_k
        have hr := cnt_take_le l g30 k
        refine g_seq ?_
        refine g_region ?_
        refine s_q (q_lss rfl rfl) rfl ?_
        refine g_nil ?_
        refine g_then ?_
        refine g_seq ?_
        refine g_cond rfl (fun h4 => ?_) (fun h4 => ?_)
        · have lt_k : k < l.length := by have h9 := of_decide_eq_true h4; omega
          have hrk := hrel k lt_k (by omega)
          obtain ⟨hk1, hk2⟩ := hrk
          refine g_skip ?_
          refine g_then ?_
          refine g_seq ?_
          refine g_block ?_
          refine g_seq ?_
          refine g_region ?_
          refine s_q (q_move rfl) rfl ?_
          refine s_q (q_index (i := k) rfl rfl rfl (InRow.rdb (A := A30) (els := (g30).map V.c) (by rw [List.length_map]; exact hgl30.symm) (map_cat (c := V.c) (fun _ => rfl) _)) (by first | exact lt_k | omega)) rfl ?_
          refine s_q (q_load_ew (i := k) rfl (InRow.rdb (A := A30) (els := (g30).map V.c) (by rw [List.length_map]; exact hgl30.symm) (map_cat (c := V.c) (fun _ => rfl) _)) (map_get (by first | assumption | omega | (simp_all; done) | (simp_all; omega))) rfl) rfl ?_
          refine g_op (g_alloc rfl fun b11 => ?_)
          refine s_q (q_assign rfl) rfl ?_
          refine g_op (g_storew rfl rfl rfl rfl rfl ?_)
          refine g_nil ?_
          refine g_then ?_
          refine g_seq ?_
          refine g_seq ?_
          refine d_region [] mixed rfl rfl ?_
          refine d_q 0 rfl (by kernel_rfl) (q_field rfl) wok_sub rfl (ls' := #[true, false, false, false, false, false, false, false, false, false, false, false, false, false, false]) rfl ?_
          refine d_q 1 rfl (by kernel_rfl) (q_load rfl rfl) wok_sub rfl (ls' := #[true, true, false, false, false, false, false, false, false, false, false, false, false, false, false]) rfl ?_
          refine d_q 2 rfl (by kernel_rfl) (q_move rfl) wok_sub rfl (ls' := #[true, true, true, false, false, false, false, false, false, false, false, false, false, false, false]) rfl ?_
          refine d_q 3 rfl (by kernel_rfl) (q_move rfl) wok_sub rfl (ls' := #[true, true, true, true, false, false, false, false, false, false, false, false, false, false, false]) rfl ?_
          refine d_q 4 rfl (by kernel_rfl) (q_index (i := k) rfl rfl rfl (o_l.rdb rfl) (by first | exact lt_k | omega)) wok_sub rfl (ls' := #[true, true, true, true, true, false, false, false, false, false, false, false, false, false, false]) rfl ?_
          refine d_q 5 rfl (by kernel_rfl) (q_field rfl) wok_sub rfl (ls' := #[true, true, true, true, true, true, false, false, false, false, false, false, false, false, false]) rfl ?_
          refine d_q 6 rfl (by kernel_rfl) (q_load_el (i := k) (o := 0) rfl (o_l.rdb rfl) (map_get (by first | assumption | omega)) rfl rfl) wok_sub rfl (ls' := #[true, true, true, true, true, true, true, false, false, false, false, false, false, false, false]) rfl ?_
          refine d_q 7 rfl (by kernel_rfl) (q_gtr rfl rfl) wok_sub rfl (ls' := #[true, true, true, true, true, true, true, true, false, false, false, false, false, false, false]) rfl ?_
          refine d_q 8 rfl (by kernel_rfl) (q_move rfl) wok_sub rfl (ls' := #[true, true, true, true, true, true, true, true, true, false, false, false, false, false, false]) rfl ?_
          refine g_split 60 rfl (fun h5 => ?_) (fun h5 => ?_)
          · have hgt := of_decide_eq_true h5
            refine d_qg 9 rfl (by kernel_rfl) (q_field rfl) rfl rfl wok_sub rfl (ls' := #[true, true, true, true, true, true, true, true, true, true, false, false, false, false, false]) rfl ?_
            refine d_qg 10 rfl (by kernel_rfl) (q_load rfl rfl) rfl rfl wok_sub rfl (ls' := #[true, true, true, true, true, true, true, true, true, true, true, false, false, false, false]) rfl ?_
            refine d_qg 11 rfl (by kernel_rfl) (q_field rfl) rfl rfl wok_sub rfl (ls' := #[true, true, true, true, true, true, true, true, true, true, true, true, false, false, false]) rfl ?_
            refine d_qg 12 rfl (by kernel_rfl) (q_load rfl rfl) rfl rfl wok_sub rfl (ls' := #[true, true, true, true, true, true, true, true, true, true, true, true, true, false, false]) rfl ?_
            refine d_qg 13 rfl (by kernel_rfl) (q_gtr rfl rfl) rfl rfl wok_sub rfl (ls' := #[true, true, true, true, true, true, true, true, true, true, true, true, true, true, false]) rfl ?_
            refine g_litb 65 (b := false) rfl (by simp; omega) ?_
            refine d_q 14 rfl (by kernel_rfl) (q_pick_t rfl rfl) wok_sub rfl (ls' := #[true, true, true, true, true, true, true, true, true, true, true, true, true, true, true]) rfl ?_
            refine d_end (by kernel_rfl) (.inr wok_sub) ?_
            refine g_then ?_
            refine g_false rfl ?_
            refine g_skip ?_
            refine g_then ?_
            refine g_seq ?_
            refine g_region ?_
            refine s_q (q_field rfl) rfl ?_
            refine s_q (q_load rfl rfl) rfl ?_
            refine s_q (q_eql rfl rfl) rfl ?_
            refine s_q (q_move rfl) rfl ?_
            refine g_split 70 rfl (fun h6 => ?_) (fun h6 => ?_)
            · have hM1 := of_decide_eq_true h6
              refine s_qg (q_move rfl) rfl rfl rfl ?_
              refine s_qg (q_move rfl) rfl rfl rfl ?_
              refine s_qg (q_index (i := k) rfl rfl rfl (o_l.rdb rfl) (by first | exact lt_k | omega)) rfl rfl rfl ?_
              refine s_qg (q_field rfl) rfl rfl rfl ?_
              refine s_qg (q_load_el (i := k) (o := 1) rfl (o_l.rdb rfl) (map_get (by first | assumption | omega)) rfl rfl) rfl rfl rfl ?_
              refine s_qg (q_neq rfl rfl) rfl rfl rfl ?_
              refine s_q (q_pick_t rfl rfl) rfl ?_
              refine g_nil ?_
              refine g_then ?_
              refine g_cond rfl (fun h7 => ?_) (fun h7 => ?_)
              · have hM2 : ¬ (l[k]).st = 7 := by simpa using h7
                have hb0 : (g30[k]).bal = 0 := by rcases hk1 with h | h <;> omega
                refine g_seq ?_
                refine g_region ?_
                refine s_q (q_move rfl) rfl ?_
                refine s_q (q_inc rfl rfl (by omega)) rfl ?_
                refine s_q (q_assign rfl) rfl ?_
                refine g_nil ?_
                refine g_then ?_
                refine g_seq ?_
                refine g_region ?_
                refine s_q (q_field rfl) rfl ?_
                refine s_q (q_load rfl rfl) rfl ?_
                refine s_q (q_neq rfl rfl) rfl ?_
                refine g_litb 82 (b := false) rfl (by simp [hb0]) ?_
                refine g_nil ?_
                refine g_then ?_
                refine g_false rfl ?_
                refine g_skip ?_
                refine g_blk_n ?_
                refine g_then ?_
                refine g_region ?_
                refine s_q (q_inc rfl rfl (by omega)) rfl ?_
                refine s_q (q_move rfl) rfl ?_
                refine g_nil ?_
                have hct := cnt_take l g30 k lt_k (by omega)
                refine g_val 9 (v' := .int .i64 ((cntM (l.take (k + 1)) (g30.take (k + 1)) : Nat) : Int)) rfl (by rw [hct, show newM l[k] g30[k] = 1 from if_pos ⟨hM1, hM2⟩]) ?_
                exact g_again (k + 1) (by (try dsimp only); exact (by first | exact lt_k | omega)) (by first | omega | (simp only; omega)) (by repeat (first | exact trivial | refine ⟨rfl, ?_⟩)) wok_sub
              · have hM2 : (l[k]).st = 7 := by simpa using h7
                refine g_skip ?_
                refine g_blk_n ?_
                refine g_then ?_
                refine g_region ?_
                refine s_q (q_inc rfl rfl (by omega)) rfl ?_
                refine s_q (q_move rfl) rfl ?_
                refine g_nil ?_
                have hct := cnt_take l g30 k lt_k (by omega)
                refine g_val 9 (v' := .int .i64 ((cntM (l.take (k + 1)) (g30.take (k + 1)) : Nat) : Int)) rfl (by rw [hct, show newM l[k] g30[k] = 0 from if_neg (fun h => h.2 hM2), Nat.add_zero]) ?_
                exact g_again (k + 1) (by (try dsimp only); exact (by first | exact lt_k | omega)) (by first | omega | (simp only; omega)) (by repeat (first | exact trivial | refine ⟨rfl, ?_⟩)) wok_sub
            · have hM1 := of_decide_eq_false h6
              refine g_gf rfl rfl rfl rfl ?_
              refine g_gf rfl rfl rfl rfl ?_
              refine g_gf rfl rfl rfl rfl ?_
              refine g_gf rfl rfl rfl rfl ?_
              refine g_gf rfl rfl rfl rfl ?_
              refine g_gf rfl rfl rfl rfl ?_
              refine s_q (q_pick_f rfl rfl) rfl ?_
              refine g_nil ?_
              refine g_then ?_
              refine g_false rfl ?_
              refine g_skip ?_
              refine g_blk_n ?_
              refine g_then ?_
              refine g_region ?_
              refine s_q (q_inc rfl rfl (by omega)) rfl ?_
              refine s_q (q_move rfl) rfl ?_
              refine g_nil ?_
              have hct := cnt_take l g30 k lt_k (by omega)
              refine g_val 9 (v' := .int .i64 ((cntM (l.take (k + 1)) (g30.take (k + 1)) : Nat) : Int)) rfl (by rw [hct, show newM l[k] g30[k] = 0 from if_neg (fun h => hM1 h.1), Nat.add_zero]) ?_
              exact g_again (k + 1) (by (try dsimp only); exact (by first | exact lt_k | omega)) (by first | omega | (simp only; omega)) (by repeat (first | exact trivial | refine ⟨rfl, ?_⟩)) wok_sub
          · refine d_gf 9 rfl (by kernel_rfl) rfl rfl rfl wok_sub rfl (ls' := #[true, true, true, true, true, true, true, true, true, true, false, false, false, false, false]) rfl ?_
            refine d_gf 10 rfl (by kernel_rfl) rfl rfl rfl wok_sub rfl (ls' := #[true, true, true, true, true, true, true, true, true, true, true, false, false, false, false]) rfl ?_
            refine d_gf 11 rfl (by kernel_rfl) rfl rfl rfl wok_sub rfl (ls' := #[true, true, true, true, true, true, true, true, true, true, true, true, false, false, false]) rfl ?_
            refine d_gf 12 rfl (by kernel_rfl) rfl rfl rfl wok_sub rfl (ls' := #[true, true, true, true, true, true, true, true, true, true, true, true, true, false, false]) rfl ?_
            refine d_gf 13 rfl (by kernel_rfl) rfl rfl rfl wok_sub rfl (ls' := #[true, true, true, true, true, true, true, true, true, true, true, true, true, true, false]) rfl ?_
            refine d_q 14 rfl (by kernel_rfl) (q_pick_f rfl rfl) wok_sub rfl (ls' := #[true, true, true, true, true, true, true, true, true, true, true, true, true, true, true]) rfl ?_
            refine d_end (by kernel_rfl) (.inr wok_sub) ?_
            refine g_then ?_
            refine g_false rfl ?_
            refine g_skip ?_
            refine g_then ?_
            refine g_seq ?_
            refine g_region ?_
            refine s_q (q_field rfl) rfl ?_
            refine s_q (q_load rfl rfl) rfl ?_
            refine s_q (q_eql rfl rfl) rfl ?_
            refine s_q (q_move rfl) rfl ?_
            refine g_split 70 rfl (fun h8 => ?_) (fun h8 => ?_)
            · have hM1 := of_decide_eq_true h8
              refine s_qg (q_move rfl) rfl rfl rfl ?_
              refine s_qg (q_move rfl) rfl rfl rfl ?_
              refine s_qg (q_index (i := k) rfl rfl rfl (o_l.rdb rfl) (by first | exact lt_k | omega)) rfl rfl rfl ?_
              refine s_qg (q_field rfl) rfl rfl rfl ?_
              refine s_qg (q_load_el (i := k) (o := 1) rfl (o_l.rdb rfl) (map_get (by first | assumption | omega)) rfl rfl) rfl rfl rfl ?_
              refine s_qg (q_neq rfl rfl) rfl rfl rfl ?_
              refine s_q (q_pick_t rfl rfl) rfl ?_
              refine g_nil ?_
              refine g_then ?_
              refine g_cond rfl (fun h9 => ?_) (fun h9 => ?_)
              · have hM2 : ¬ (l[k]).st = 7 := by simpa using h9
                have hb0 : (g30[k]).bal = 0 := by rcases hk1 with h | h <;> omega
                refine g_seq ?_
                refine g_region ?_
                refine s_q (q_move rfl) rfl ?_
                refine s_q (q_inc rfl rfl (by omega)) rfl ?_
                refine s_q (q_assign rfl) rfl ?_
                refine g_nil ?_
                refine g_then ?_
                refine g_seq ?_
                refine g_region ?_
                refine s_q (q_field rfl) rfl ?_
                refine s_q (q_load rfl rfl) rfl ?_
                refine s_q (q_neq rfl rfl) rfl ?_
                refine g_litb 82 (b := false) rfl (by simp [hb0]) ?_
                refine g_nil ?_
                refine g_then ?_
                refine g_false rfl ?_
                refine g_skip ?_
                refine g_blk_n ?_
                refine g_then ?_
                refine g_region ?_
                refine s_q (q_inc rfl rfl (by omega)) rfl ?_
                refine s_q (q_move rfl) rfl ?_
                refine g_nil ?_
                have hct := cnt_take l g30 k lt_k (by omega)
                refine g_val 9 (v' := .int .i64 ((cntM (l.take (k + 1)) (g30.take (k + 1)) : Nat) : Int)) rfl (by rw [hct, show newM l[k] g30[k] = 1 from if_pos ⟨hM1, hM2⟩]) ?_
                exact g_again (k + 1) (by (try dsimp only); exact (by first | exact lt_k | omega)) (by first | omega | (simp only; omega)) (by repeat (first | exact trivial | refine ⟨rfl, ?_⟩)) wok_sub
              · have hM2 : (l[k]).st = 7 := by simpa using h9
                refine g_skip ?_
                refine g_blk_n ?_
                refine g_then ?_
                refine g_region ?_
                refine s_q (q_inc rfl rfl (by omega)) rfl ?_
                refine s_q (q_move rfl) rfl ?_
                refine g_nil ?_
                have hct := cnt_take l g30 k lt_k (by omega)
                refine g_val 9 (v' := .int .i64 ((cntM (l.take (k + 1)) (g30.take (k + 1)) : Nat) : Int)) rfl (by rw [hct, show newM l[k] g30[k] = 0 from if_neg (fun h => h.2 hM2), Nat.add_zero]) ?_
                exact g_again (k + 1) (by (try dsimp only); exact (by first | exact lt_k | omega)) (by first | omega | (simp only; omega)) (by repeat (first | exact trivial | refine ⟨rfl, ?_⟩)) wok_sub
            · have hM1 := of_decide_eq_false h8
              refine g_gf rfl rfl rfl rfl ?_
              refine g_gf rfl rfl rfl rfl ?_
              refine g_gf rfl rfl rfl rfl ?_
              refine g_gf rfl rfl rfl rfl ?_
              refine g_gf rfl rfl rfl rfl ?_
              refine g_gf rfl rfl rfl rfl ?_
              refine s_q (q_pick_f rfl rfl) rfl ?_
              refine g_nil ?_
              refine g_then ?_
              refine g_false rfl ?_
              refine g_skip ?_
              refine g_blk_n ?_
              refine g_then ?_
              refine g_region ?_
              refine s_q (q_inc rfl rfl (by omega)) rfl ?_
              refine s_q (q_move rfl) rfl ?_
              refine g_nil ?_
              have hct := cnt_take l g30 k lt_k (by omega)
              refine g_val 9 (v' := .int .i64 ((cntM (l.take (k + 1)) (g30.take (k + 1)) : Nat) : Int)) rfl (by rw [hct, show newM l[k] g30[k] = 0 from if_neg (fun h => hM1 h.1), Nat.add_zero]) ?_
              exact g_again (k + 1) (by (try dsimp only); exact (by first | exact lt_k | omega)) (by first | omega | (simp only; omega)) (by repeat (first | exact trivial | refine ⟨rfl, ?_⟩)) wok_sub
        · have eq_k : k = l.length := by have h9 := of_decide_eq_false h4; omega
          refine g_exit ?_
          refine g_then_x (g_then_x (g_blk_hit ?_))
          refine g_then ?_
          refine g_seq ?_
          refine g_region ?_
          refine g_op (g_pure rfl (fun w1 hw1 => alive_any w1) rfl ?_)
          refine s_q (q_move rfl) rfl ?_
          refine s_qg (q_move rfl) rfl rfl rfl ?_
          refine s_qg (q_field rfl) rfl rfl rfl ?_
          refine s_qg (q_load rfl rfl) rfl rfl rfl ?_
          refine s_qg (q_leq rfl rfl) rfl rfl rfl ?_
          refine g_litb 89 (b := true) rfl (by simp [hP]; omega) ?_
          refine s_q (q_pick_t rfl rfl) rfl ?_
          refine s_q (q_move rfl) rfl ?_
          refine s_qg (q_move rfl) rfl rfl rfl ?_
          refine s_qg (q_move rfl) rfl rfl rfl ?_
          refine s_qg (q_len rfl) rfl rfl rfl ?_
          refine s_qg (q_leq rfl rfl) rfl rfl rfl ?_
          refine g_litb 95 (b := true) rfl (by simp; omega) ?_
          refine s_q (q_pick_t rfl rfl) rfl ?_
          refine s_q (q_assign rfl) rfl ?_
          refine g_nil ?_
          refine g_then ?_
          refine g_ret ?_
          exact fin1 rfl (.tmp rfl) (fun w' hw' => ⟨by first | rfl | (simp_all; done) | (simp_all; omega), hw'.upd⟩) _ (.inl rfl)

theorem main_mergeLimits (v0 : Value) (v1 : Value) (v2 : Value) (W : World) (a0 : Arg Try.prog W 34 v0) (a1 : Arg Try.prog W 42 v1) (a2 : Arg Try.prog W 26 v2) : Pur Try.prog 7 [v0, v1, v2] W (.bool true) := by
  obtain ⟨A_l, c_l, l, rfl, hle0, hm0, o_l, k_l⟩ := Arg.slice V.c (fun x : V => x.ok) Try.underlying34 (show Try.prog.cellsOf 24 = 7 by kernel_rfl) (by omega) (openV) a0
  have h_l : l.length ≤ c_l ∧ c_l ≤ 9223372036854775807 := ⟨hle0, by unfold maxLen at hm0; omega⟩
  obtain ⟨A_q, c_q, q, rfl, hle1, hm1, o_q, k_q⟩ := Arg.slice PP.c (fun x : PP => x.ok) Try.underlying42 (show Try.prog.cellsOf 37 = 2 by kernel_rfl) (by omega) (openPP) a1
  have h_q : q.length ≤ c_q ∧ c_q ≤ 9223372036854775807 := ⟨hle1, by unfold maxLen at hm1; omega⟩
  obtain ⟨cs, rfl, f, h⟩ := Arg.agg Try.underlying26 a2
  obtain ⟨c, rfl, k_c⟩ := openC f cs h
  exact law_mergeLimits A_l c_l l A_q c_q q c W o_l h_l k_l o_q h_q k_q k_c

namespace LawMergeLimits
open Go.ChangeShapes Go.WideShapes Go.ChangeAt Go.RowKit Go.Eg
set_option linter.unusedVariables false
theorem own : ownKnob Try.prog.godebug = none := by kernel_rfl
theorem laidOut : laidOutB Try.prog = true := by kernel_rfl
set_option maxRecDepth 100000 in
theorem lifted (os : Os) (started : os.Started) (H : Type) (enc : TypeId × Value → H) :
    ReturnsInHanded {} Try.checked os 7 .any (Rows.mergeLimitsSpec.pre6 enc Try.prog Try.f7 Rows.mergeLimitsRow.domain false) (Rows.mergeLimitsSpec.post enc Try.prog Try.f7 false true false false) := by
  refine returnsInHanded_of_change (C := Try.checked) own started (by kernel_rfl) Try.func7
    (ChangeSpec.witness6 (enc := enc) (C := Try.checked) false ⟨#[], #[.slice none 0 0, .slice none 0 0, .agg #[.int .i64 0, .int .i64 0, .int .u64 0, .int .u64 0, .int .u64 0, .int .u64 0, .int .u64 0, .int .u64 0, .int .u64 0, .int .u64 0, .int .i64 0, .int .i64 0, .int .i64 0, .int .i64 0, .int .i64 0, .int .i64 0, .int .i64 0, .int .i64 0, .int .u64 0, .int .u64 0]], []⟩ 8 (by kernel_rfl) (by kernel_rfl) (by kernel_rfl) (by kernel_rfl)) ?_
  intro W base args ds gs before hval0 hW hcnd _
  have hval : ∀ (j : Nat) t v, Try.f7.params[j]? = some t → args[j]? = some v → Value.okWide Try.prog W .any base t v := hval0
  have hW' := hW
  obtain ⟨p, q, hA0, hV, rfl, hfz, hnd⟩ := hW
  have hA : DataW.TrodAll enc Try.prog W 0 (fun _ => true) true Try.f7.params.toList args.toList ds p := hA0
  rw [Try.params7] at hA hval
  obtain ⟨v0, vs0, d0, ds0, p0, q0, hargs, rfl, rfl, h0, r0⟩ := trodAll_cons hA
  obtain ⟨v1, vs1, d1, ds1, p1, q1, rfl, rfl, rfl, h1, r1⟩ := trodAll_cons r0
  obtain ⟨v2, vs2, d2, ds2, p2, q2, rfl, rfl, rfl, h2, r2⟩ := trodAll_cons r1
  obtain ⟨rfl, rfl, rfl⟩ := trodAll_nil r2
  obtain rfl : args = #[v0, v1, v2] := by cases args; simp_all
  obtain ⟨rfl, rfl⟩ := trodVars_none hV
  have a0 := Arg.of h0 (hval 0 34 v0 rfl rfl)
  have lt0 : ∀ x ∈ p0, x.block < W.heap.size := by obtain ⟨m, hm⟩ := h0; exact DataW.trod_lt m _ _ _ hm
  have a1 := Arg.of h1 (hval 1 42 v1 rfl rfl)
  have lt1 : ∀ x ∈ p1, x.block < W.heap.size := by obtain ⟨m, hm⟩ := h1; exact DataW.trod_lt m _ _ _ hm
  have a2 := Arg.of h2 (hval 2 26 v2 rfl rfl)
  have lt2 : ∀ x ∈ p2, x.block < W.heap.size := by obtain ⟨m, hm⟩ := h2; exact DataW.trod_lt m _ _ _ hm
  clear hA0 hval0
  simp only [List.append_nil] at hW'
  refine Calls.mono (main_mergeLimits v0 v1 v2 W a0 a1 a2) ?_
  rintro e W' ⟨v, rfl, rfl, hu⟩
  have bel := hu.below
  have targ := (trodAll_cons_mk (Below.trod laidOut (by kernel_rfl) (of_decide_eq_true (by kernel_rfl)) h0 bel lt0) (trodAll_cons_mk (Below.trod laidOut (by kernel_rfl) (of_decide_eq_true (by kernel_rfl)) h1 bel lt1) (trodAll_cons_mk (Below.trod laidOut (by kernel_rfl) (of_decide_eq_true (by kernel_rfl)) h2 bel lt2) trodAll_mk0)))
  simp only [List.append_nil] at targ
  exact ⟨_, rfl, _, _, _, [], _, [], hW', trodAll_mk1 (shut_bool Try.underlying4 _), targ, rfl, bel.frame _, fun h => by cases h⟩
theorem over : Rows.mergeLimitsRow.holds Try.pinned (OpenSpec.ofChange Rows.mergeLimitsSpec) :=
  OpenClaim.holds_of_wide 7 Try.f7 rfl rfl rfl rfl rfl rfl rfl ⟨rfl, rfl, rfl, rfl, rfl⟩ rfl rfl rfl rfl rfl (by kernel_rfl) Try.func7 (by kernel_rfl)
    (of_decide_eq_true (by kernel_rfl)) (by unfold Func.isWrapper; first | (rw [if_pos (by decide +kernel)]; kernel_rfl) | (rw [if_neg (by decide +kernel)]; exact ⟨rfl, rfl⟩))
    (fun os started H enc _ => lifted os started H enc)
theorem proved : Rows.MergeLimitsSaid := over
end LawMergeLimits
end Go.Proofs.Ytljdhdlemakcaaa
