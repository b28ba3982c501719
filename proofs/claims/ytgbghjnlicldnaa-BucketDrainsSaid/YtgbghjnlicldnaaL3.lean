/- BucketDrains: for every length and list of epochs the law returns true. No condition. -/
import Derived.Test.YtgbghjnlicldnaaW5
namespace Go.Proofs.Ytgbghjnlicldnaa
open Go.RowKit Go.Eg
set_option synthInstance.maxSize 3000
set_option linter.unusedSimpArgs false
set_option linter.unusedVariables false
set_option maxRecDepth 100000
def epF (l : List Int) (k : Nat) : List En := (List.range k).map fun j => En.mk (l.getD j 0) (j : Nat)
def drE (l : List Int) (e : Int) : List En := (epF l l.length).filter fun x => decide (e ≤ x.e)
def okB (l : List Int) : Prop := ∀ x ∈ l, 0 ≤ x ∧ x ≤ 255
theorem epF_succ {l : List Int} (h : okB l) {k : Nat} (hk : k < l.length) : putE (epF l k) l[k] ((k : Nat) : Int) = epF l (k + 1) := by
  have h1 := h l[k] (List.getElem_mem hk)
  rw [putE, if_pos (show validE l[k] = true from decide_eq_true ⟨h1.1, by omega⟩)]
  unfold epF
  rw [List.range_succ, List.map_append]
  simp [hk]
theorem epF_mem {l : List Int} {n : Nat} {x : En} (hn : n ≤ l.length) (h : x ∈ epF l n) : ∃ (j : Nat) (hj : j < l.length), x = ⟨l[j], (j : Nat)⟩ := by
  obtain ⟨j, hj, rfl⟩ := List.mem_map.1 h
  have hj' : j < l.length := by have := List.mem_range.1 hj; omega
  exact ⟨j, hj', by simp [hj']⟩
theorem epF_len (l : List Int) (k : Nat) : (epF l k).length = k := by simp [epF]
theorem drE_zero {l : List Int} (h : okB l) : drE l 0 = epF l l.length := List.filter_eq_self.2 fun x hx => by
  obtain ⟨j, hj, rfl⟩ := epF_mem (Nat.le_refl _) hx
  exact decide_eq_true (h _ (List.getElem_mem hj)).1
theorem drE_end {l : List Int} (h : okB l) : drE l 256 = [] := List.filter_eq_nil_iff.2 fun x hx => by
  obtain ⟨j, hj, rfl⟩ := epF_mem (Nat.le_refl _) hx
  have := (h _ (List.getElem_mem hj)).2
  simp; omega
theorem drE_keep (l : List Int) (e : Nat) : keepE (e : Int) (drE l (e : Int)) = drE l ((e + 1 : Nat) : Int) := by
  unfold keepE drE
  rw [List.filter_filter]
  refine List.filter_congr fun x _ => ?_
  by_cases h1 : x.e = (e : Int)
  · have : ¬ (((e + 1 : Nat) : Int) ≤ x.e) := by omega
    simp only [h1, decide_true, Bool.not_true, Bool.false_and]
    exact (decide_eq_false (by omega)).symm
  · simp only [h1, decide_false, Bool.not_false, Bool.true_and]
    by_cases h2 : (e : Int) ≤ x.e
    · rw [decide_eq_true h2, decide_eq_true (by omega)]
    · rw [decide_eq_false h2, decide_eq_false (by omega)]
theorem due_mem {l : List Int} {e y : Int} (h : y ∈ dueO e (drE l e)) : ∃ (q : Nat) (hq : q < l.length), y = q ∧ l[q] = e := by
  obtain ⟨x, hx, rfl⟩ := List.mem_map.1 h
  obtain ⟨h1, h2⟩ := List.mem_filter.1 hx
  obtain ⟨j, hj, rfl⟩ := epF_mem (Nat.le_refl _) (List.mem_filter.1 h1).1
  exact ⟨j, hj, rfl, by simpa using h2⟩
theorem due_pw (l : List Int) (e : Int) : (dueO e (drE l e)).Pairwise (· < ·) := by
  have h0 : ((epF l l.length).map En.i).Pairwise (· < ·) := by
    have e1 : (epF l l.length).map En.i = (List.range l.length).map fun j : Nat => (j : Int) := by
      unfold epF; rw [List.map_map]; rfl
    rw [e1, List.pairwise_map]
    exact List.Pairwise.imp (fun h => by omega) (List.pairwise_lt_range)
  exact h0.sublist (List.Sublist.map _ ((List.filter_sublist).trans List.filter_sublist))
theorem due_next {l : List Int} {e : Int} {j : Nat} (hj : j < (dueO e (drE l e)).length) {y : Int} (hy : (dueO e (drE l e))[j + 1]? = some y) : (dueO e (drE l e))[j] < y := by
  obtain ⟨h1, rfl⟩ := List.getElem?_eq_some_iff.1 hy
  exact List.pairwise_iff_getElem.1 (due_pw l e) j (j + 1) hj h1 (by omega)

set_option maxHeartbeats 400000 in
theorem law_bucketDrains (len : Nat) (A_l : Option Addr) (c_l : Nat) (l : List Int) (w : World) (h_len : len < 256) (o_l : Old w A_l l.length 1 (l.map (fun v : Int => [Value.int .u8 v]))) (h_l : l.length ≤ c_l ∧ c_l ≤ 9223372036854775807) (k_l : ∀ x ∈ l, (fun x : Int => 0 ≤ x ∧ x ≤ 255) x) : Pur Try.prog 5 [.int .u8 ((len : Nat) : Int), .slice A_l l.length c_l] w (.bool true) := by
  refine g_start Try.func5 rfl 84 rfl (by simp) ([]) [] (WOK.start _ _) _ rfl ?_
  refine g_seq ?_
  refine g_region ?_
  refine s_q (q_assign rfl) rfl ?_
  refine g_nil ?_
  refine g_then ?_
  refine g_seq ?_
  refine g_seq ?_
  refine g_region ?_
  refine s_q (q_move rfl) rfl ?_
  refine s_q (q_len rfl) rfl ?_
  refine s_q (q_gtr rfl rfl) rfl ?_
  refine g_nil ?_
  refine g_then ?_
  refine g_cond rfl (fun h1 => ?_) (fun h1 => ?_)
  · refine g_seq ?_
    refine g_region ?_
    refine g_op (g_pure rfl (fun w1 hw1 => alive_any w1) rfl ?_)
    refine s_q (q_assign rfl) rfl ?_
    refine g_nil ?_
    refine g_then ?_
    refine g_ret ?_
    refine g_then_ret ?_
    exact fin1 rfl (.tmp rfl) (fun w' hw' => ⟨by first | rfl | (simp_all; done) | (simp_all; omega), hw'.upd⟩) _ (.inl rfl)
  · have hn100 : l.length ≤ 100 := by have h9 := of_decide_eq_false h1; omega
    have hob : okB l := k_l
    refine g_skip ?_
    refine g_then ?_
    refine g_seq ?_
    refine g_region ?_
    refine s_q (q_move rfl) rfl ?_
    refine s_q (q_convz (z := ((len : Nat) : Int)) rfl (wi64 (by omega) (by omega))) rfl ?_
    refine s_q (q_remn (a := len) (b := 12) rfl rfl (by first | omega | (simp; omega) | (simp_all; omega))) rfl ?_
    refine s_q (q_inc rfl rfl (by omega)) rfl ?_
    refine g_op (g_ownS [] rfl (fun w1 hw1 ho1 => by have h7 := bnew_any (((len % 12) + 1)) w1 (by omega); exact h7) rfl ?_)
    rintro ⟨b21, g21⟩ ⟨r21, s21⟩
    refine ⟨_, _, inferInstance, inferInstance, ?_⟩
    simp only at r21 s21
    refine s_q (q_assign rfl) rfl ?_
    refine g_nil ?_
    refine g_then ?_
    refine g_seq ?_
    refine g_seq ?_
    refine g_region ?_
    refine s_q (q_move rfl) rfl ?_
    refine s_q (q_eqp (b := false) rfl rfl rfl) rfl ?_
    refine g_nil ?_
    refine g_then ?_
    refine g_false rfl ?_
    refine g_skip ?_
    refine g_then ?_
    refine g_seq ?_
    refine g_seq ?_
    refine g_region ?_
    refine s_q (q_move rfl) rfl ?_
    refine s_q (q_len rfl) rfl ?_
    refine s_q (q_move rfl) rfl ?_
    refine g_nil ?_
    refine g_then ?_
    refine g_block ?_
    refine g_loopk [1, 4, 5, 24, 25] (fun (x : Nat × BR) => [(26, .int .i64 ((x.1 : Nat) : Int))]) (fun (x : Nat × BR) => [Res.blk b21 57 [Value.slice (BR.A x.2) (BR.bs x.2).length (BR.cap x.2), Value.int .i64 (BR.n x.2)], Res.row (BR.A x.2) (BR.bs x.2).length (BR.cap x.2) 47 1 ((BR.bs x.2).map (fun k : Bk En => [k.v])), bks 50 2 En.c (BR.bs x.2)]) (fun (x : Nat × BR) => x.1 ≤ l.length ∧ (x.2).Rep (epF l x.1)) (fun (x : Nat × BR) => l.length - x.1) (0, g21) (by (try dsimp only); exact ⟨Nat.zero_le _, r21⟩) rfl (by repeat (first | exact trivial | refine ⟨rfl, ?_⟩)) wok_sub ?_
    rintro ⟨k, g1⟩ ⟨le_k, hr⟩
    replace le_k : k ≤ l.length := le_k
    replace hr : (g1).Rep (epF l k) := hr
    refine g_setL (L' := [Res.blk b21 57 [Value.slice (BR.A g1) (BR.bs g1).length (BR.cap g1), Value.int .i64 (BR.n g1)], Res.row (BR.A g1) (BR.bs g1).length (BR.cap g1) 47 1 ((BR.bs g1).map (fun k : Bk En => [k.v])), bks 50 2 En.c (BR.bs g1)]) rfl ?_
    refine g_val 26 (v' := .int .i64 ((k : Nat) : Int)) rfl rfl ?_
    refine g_seq ?_
    refine g_region ?_
    refine s_q (q_lss rfl rfl) rfl ?_
    refine g_nil ?_
    refine g_then ?_
    refine g_seq ?_
    refine g_cond rfl (fun h2 => ?_) (fun h2 => ?_)
    · have lt_k : k < l.length := by have h9 := of_decide_eq_true h2; omega
      have hlk := hob l[k] (List.getElem_mem lt_k)
      refine g_skip ?_
      refine g_then ?_
      refine g_seq ?_
      refine g_block ?_
      refine g_seq ?_
      refine g_region ?_
      refine s_q (q_move rfl) rfl ?_
      refine s_q (q_index (i := k) rfl rfl rfl (o_l.rdb rfl) (by first | exact lt_k | omega)) rfl ?_
      refine s_q (q_load_el (i := k) (o := 0) rfl (o_l.rdb rfl) (map_get (by first | assumption | omega)) rfl rfl) rfl ?_
      refine s_q (q_assign rfl) rfl ?_
      refine s_q (q_assign rfl) rfl ?_
      refine g_nil ?_
      refine g_then ?_
      refine g_seq ?_
      refine g_region ?_
      refine s_q (q_move rfl) rfl ?_
      refine s_q (q_move rfl) rfl ?_
      refine s_q (q_convz (z := l[k]) rfl (wi64 (by omega) (by omega))) rfl ?_
      refine s_q (q_move rfl) rfl ?_
      refine g_op (g_ownS [Res.blk b21 57 [Value.slice (BR.A g1) (BR.bs g1).length (BR.cap g1), Value.int .i64 (BR.n g1)], Res.row (BR.A g1) (BR.bs g1).length (BR.cap g1) 47 1 ((BR.bs g1).map (fun k : Bk En => [k.v])), bks 50 2 En.c (BR.bs g1)] rfl (fun w1 hw1 ho1 => by have h7 := bput_any b21 g1 (epF l k) (l[k]) (((k : Nat) : Int)) w1 ho1 hr (by first | omega | (rw [epF_len]; omega)); exact h7) rfl ?_)
      rintro g35 ⟨r35, s35⟩
      refine ⟨_, _, inferInstance, inferInstance, ?_⟩
      refine g_litb 35 (b := true) rfl (decide_eq_true ⟨by omega, by omega⟩) ?_
      refine s_q (q_not rfl) rfl ?_
      refine g_nil ?_
      refine g_then ?_
      refine g_false rfl ?_
      refine g_skip ?_
      refine g_blk_n ?_
      refine g_then ?_
      refine g_region ?_
      refine s_q (q_inc rfl rfl (by omega)) rfl ?_
      refine s_q (q_move rfl) rfl ?_
      refine g_nil ?_
      exact g_again ((k + 1), g35) (by (try dsimp only); exact ⟨(by first | exact lt_k | omega), (by rw [← epF_succ hob lt_k]; exact r35)⟩) (by first | omega | (simp only; omega)) (by repeat (first | exact trivial | refine ⟨rfl, ?_⟩)) wok_sub
    · have eq_k : k = l.length := by have h9 := of_decide_eq_false h2; omega
      rw [eq_k] at hr
      refine g_exit ?_
      refine g_then_x (g_then_x (g_blk_hit ?_))
      refine g_then ?_
      refine g_seq ?_
      refine g_region ?_
      refine s_q (q_assign rfl) rfl ?_
      refine g_nil ?_
      refine g_then ?_
      refine g_seq ?_
      refine g_seq ?_
      refine g_region ?_
      refine s_q (q_move rfl) rfl ?_
      refine g_nil ?_
      refine g_then ?_
      refine g_block ?_
      refine g_loopk [1, 4, 5] (fun (x : Nat × BR × Nat) => [(8, .int .i64 ((x.2.2 : Nat) : Int)), (38, .int .i64 ((x.1 : Nat) : Int))]) (fun (x : Nat × BR × Nat) => [Res.blk b21 57 [Value.slice (BR.A x.2.1) (BR.bs x.2.1).length (BR.cap x.2.1), Value.int .i64 (BR.n x.2.1)], Res.row (BR.A x.2.1) (BR.bs x.2.1).length (BR.cap x.2.1) 47 1 ((BR.bs x.2.1).map (fun k : Bk En => [k.v])), bks 50 2 En.c (BR.bs x.2.1)]) (fun (x : Nat × BR × Nat) => x.1 ≤ 256 ∧ (x.2.1).Rep (drE l ((x.1 : Nat) : Int)) ∧ x.2.2 + (drE l ((x.1 : Nat) : Int)).length = l.length) (fun (x : Nat × BR × Nat) => 256 - x.1) (0, g1, 0) (by (try dsimp only); exact ⟨Nat.zero_le _, (by rw [show ((0 : Nat) : Int) = 0 from rfl, drE_zero hob]; exact hr), (by rw [show ((0 : Nat) : Int) = 0 from rfl, drE_zero hob, epF_len]; omega)⟩) rfl (by repeat (first | exact trivial | refine ⟨rfl, ?_⟩)) wok_sub ?_
      rintro ⟨e, g2, s9⟩ ⟨le_e, hr2, hs9⟩
      replace le_e : e ≤ 256 := le_e
      replace hr2 : (g2).Rep (drE l ((e : Nat) : Int)) := hr2
      replace hs9 : s9 + (drE l ((e : Nat) : Int)).length = l.length := hs9
      refine g_setL (L' := [Res.blk b21 57 [Value.slice (BR.A g2) (BR.bs g2).length (BR.cap g2), Value.int .i64 (BR.n g2)], Res.row (BR.A g2) (BR.bs g2).length (BR.cap g2) 47 1 ((BR.bs g2).map (fun k : Bk En => [k.v])), bks 50 2 En.c (BR.bs g2)]) rfl ?_
      refine g_val 8 (v' := .int .i64 ((s9 : Nat) : Int)) rfl rfl ?_
      refine g_val 38 (v' := .int .i64 ((e : Nat) : Int)) rfl rfl ?_
      refine g_seq ?_
      refine g_region ?_
      refine s_q (q_lss rfl rfl) rfl ?_
      refine g_nil ?_
      refine g_then ?_
      refine g_seq ?_
      refine g_cond rfl (fun h3 => ?_) (fun h3 => ?_)
      · have lt_e : e < 256 := by have h9 := of_decide_eq_true h3; omega
        refine g_skip ?_
        refine g_then ?_
        refine g_seq ?_
        refine g_block ?_
        refine g_seq ?_
        refine g_region ?_
        refine s_q (q_move rfl) rfl ?_
        refine s_q (q_assign rfl) rfl ?_
        refine g_nil ?_
        refine g_then ?_
        refine g_seq ?_
        refine g_region ?_
        refine s_q (q_assign rfl) rfl ?_
        refine g_nil ?_
        refine g_then ?_
        refine g_seq ?_
        refine g_region ?_
        refine s_q (q_move rfl) rfl ?_
        refine s_q (q_move rfl) rfl ?_
        refine g_op (g_ownS [Res.blk b21 57 [Value.slice (BR.A g2) (BR.bs g2).length (BR.cap g2), Value.int .i64 (BR.n g2)], Res.row (BR.A g2) (BR.bs g2).length (BR.cap g2) 47 1 ((BR.bs g2).map (fun k : Bk En => [k.v])), bks 50 2 En.c (BR.bs g2)] rfl (fun w1 hw1 ho1 => by have h7 := bdue_any b21 g2 (drE l ((e : Nat) : Int)) (((e : Nat) : Int)) w1 ho1 hr2 (by first | omega | (rw [epF_len]; omega)); exact h7) rfl ?_)
        rintro ⟨A43, cap43, g43⟩ ⟨r43, s43⟩
        refine ⟨_, _, inferInstance, inferInstance, ?_⟩
        simp only at r43 s43
        have hdl := due_keep ((e : Nat) : Int) (drE l ((e : Nat) : Int))
        refine s_q (q_len rfl) rfl ?_
        refine s_q (q_move rfl) rfl ?_
        refine g_nil ?_
        refine g_then ?_
        refine g_block ?_
        refine g_loopk [1, 4, 5, 9, 38, 43, 44] (fun (x : Nat × Int × Nat) => [(10, .int .i64 x.2.1), (8, .int .i64 ((x.2.2 : Nat) : Int)), (45, .int .i64 ((x.1 : Nat) : Int))]) (fun (x : Nat × Int × Nat) => [Res.row A43 (dueO ((e : Nat) : Int) (drE l ((e : Nat) : Int))).length cap43 3 1 ((dueO ((e : Nat) : Int) (drE l ((e : Nat) : Int))).map (fun v : Int => [Value.int .i64 v])), Res.blk b21 57 [Value.slice (BR.A g43) (BR.bs g43).length (BR.cap g43), Value.int .i64 (BR.n g43)], Res.row (BR.A g43) (BR.bs g43).length (BR.cap g43) 47 1 ((BR.bs g43).map (fun k : Bk En => [k.v])), bks 50 2 En.c (BR.bs g43)]) (fun (x : Nat × Int × Nat) => x.1 ≤ (dueO ((e : Nat) : Int) (drE l ((e : Nat) : Int))).length ∧ (∀ y, (dueO ((e : Nat) : Int) (drE l ((e : Nat) : Int)))[x.1]? = some y → x.2.1 < y) ∧ x.2.2 = s9 + x.1) (fun (x : Nat × Int × Nat) => (dueO ((e : Nat) : Int) (drE l ((e : Nat) : Int))).length - x.1) (0, (-1), s9) (by (try dsimp only); exact ⟨Nat.zero_le _, (fun y hy => by obtain ⟨h8, rfl⟩ := List.getElem?_eq_some_iff.1 hy; obtain ⟨q, hq, h9, _⟩ := due_mem (List.getElem_mem h8); omega), rfl⟩) rfl (by repeat (first | exact trivial | refine ⟨rfl, ?_⟩)) wok_sub ?_
        rintro ⟨j, lst, sn⟩ ⟨le_j, hlst, hsn⟩
        replace le_j : j ≤ (dueO ((e : Nat) : Int) (drE l ((e : Nat) : Int))).length := le_j
        replace hlst : ∀ y, (dueO ((e : Nat) : Int) (drE l ((e : Nat) : Int)))[j]? = some y → lst < y := hlst
        replace hsn : sn = s9 + j := hsn
        refine g_setL (L' := [Res.row A43 (dueO ((e : Nat) : Int) (drE l ((e : Nat) : Int))).length cap43 3 1 ((dueO ((e : Nat) : Int) (drE l ((e : Nat) : Int))).map (fun v : Int => [Value.int .i64 v])), Res.blk b21 57 [Value.slice (BR.A g43) (BR.bs g43).length (BR.cap g43), Value.int .i64 (BR.n g43)], Res.row (BR.A g43) (BR.bs g43).length (BR.cap g43) 47 1 ((BR.bs g43).map (fun k : Bk En => [k.v])), bks 50 2 En.c (BR.bs g43)]) rfl ?_
        refine g_val 10 (v' := .int .i64 lst) rfl rfl ?_
        refine g_val 8 (v' := .int .i64 ((sn : Nat) : Int)) rfl rfl ?_
        refine g_val 45 (v' := .int .i64 ((j : Nat) : Int)) rfl rfl ?_
        refine g_seq ?_
        refine g_region ?_
        refine s_q (q_lss rfl rfl) rfl ?_
        refine g_nil ?_
        refine g_then ?_
        refine g_seq ?_
        refine g_cond rfl (fun h4 => ?_) (fun h4 => ?_)
        · have lt_j : j < (dueO ((e : Nat) : Int) (drE l ((e : Nat) : Int))).length := by have h9 := of_decide_eq_true h4; omega
          obtain ⟨q, hq, hdq, hlq⟩ := due_mem (List.getElem_mem lt_j)
          have hlq2 := hob l[q] (List.getElem_mem hq)
          have hltq : lst < ((q : Nat) : Int) := by rw [← hdq]; exact hlst _ (List.getElem?_eq_getElem lt_j)
          refine g_skip ?_
          refine g_then ?_
          refine g_seq ?_
          refine g_block ?_
          refine g_seq ?_
          refine g_region ?_
          refine s_q (q_index (i := j) rfl rfl rfl (InRow.rdb (A := A43) (els := ((dueO ((e : Nat) : Int) (drE l ((e : Nat) : Int)))).map (fun v : Int => [Value.int .i64 v])) (by first | rfl | assumption | (simp; done) | (simp_all; done) | (simp; omega) | (simp_all; omega)) (map_cat (c := (fun v : Int => [Value.int .i64 v])) (fun _ => rfl) _)) (by first | exact lt_j | omega)) rfl ?_
          refine s_q (q_load_el (i := j) (o := 0) rfl (InRow.rdb (A := A43) (els := ((dueO ((e : Nat) : Int) (drE l ((e : Nat) : Int)))).map (fun v : Int => [Value.int .i64 v])) (by first | rfl | assumption | (simp; done) | (simp_all; done) | (simp; omega) | (simp_all; omega)) (map_cat (c := (fun v : Int => [Value.int .i64 v])) (fun _ => rfl) _)) (map_get (by first | assumption | omega | (simp_all; done) | (simp_all; omega))) rfl rfl) rfl ?_
          refine g_val 48 (v' := .int .i64 ((q : Nat) : Int)) rfl (by rw [hdq]) ?_
          refine s_q (q_assign rfl) rfl ?_
          refine g_nil ?_
          refine g_then ?_
          refine g_seq ?_
          refine g_seq ?_
          refine g_region ?_
          refine s_q (q_move rfl) rfl ?_
          refine s_q (q_move rfl) rfl ?_
          refine s_q (q_leq rfl rfl) rfl ?_
          refine g_litb 51 (b := false) rfl (decide_eq_false (by omega)) ?_
          refine s_q (q_move rfl) rfl ?_
          refine s_qg (q_move rfl) rfl rfl rfl ?_
          refine s_qg (q_move rfl) rfl rfl rfl ?_
          refine s_qg (q_len rfl) rfl rfl rfl ?_
          refine s_qg (q_geq rfl rfl) rfl rfl rfl ?_
          refine g_litb 56 (b := false) rfl (decide_eq_false (by omega)) ?_
          refine s_q (q_pick_f rfl rfl) rfl ?_
          refine s_q (q_move rfl) rfl ?_
          refine s_qg (q_move rfl) rfl rfl rfl ?_
          refine s_qg (q_move rfl) rfl rfl rfl ?_
          refine s_qg (q_index (i := q) rfl rfl rfl (o_l.rdb rfl) (by first | omega | (simp; done) | (simp; omega))) rfl rfl rfl ?_
          refine s_qg (q_load_el (i := q) (o := 0) rfl (o_l.rdb rfl) (map_get (by first | assumption | omega)) rfl rfl) rfl rfl rfl ?_
          refine s_qg (q_convz (z := l[q]) rfl (wi64 (by omega) (by omega))) rfl rfl rfl ?_
          refine s_qg (q_move rfl) rfl rfl rfl ?_
          refine s_qg (q_neq rfl rfl) rfl rfl rfl ?_
          refine g_litb 65 (b := false) rfl (by rw [hlq]; simp) ?_
          refine s_q (q_pick_f rfl rfl) rfl ?_
          refine g_nil ?_
          refine g_then ?_
          refine g_false rfl ?_
          refine g_skip ?_
          refine g_then ?_
          refine g_seq ?_
          refine g_region ?_
          refine s_q (q_move rfl) rfl ?_
          refine s_q (q_assign rfl) rfl ?_
          refine g_nil ?_
          refine g_then ?_
          refine g_region ?_
          refine s_q (q_move rfl) rfl ?_
          refine s_q (q_inc rfl rfl (by omega)) rfl ?_
          refine s_q (q_assign rfl) rfl ?_
          refine g_nil ?_
          refine g_blk_n ?_
          refine g_then ?_
          refine g_region ?_
          refine s_q (q_inc rfl rfl (by omega)) rfl ?_
          refine s_q (q_move rfl) rfl ?_
          refine g_nil ?_
          exact g_again ((j + 1), ((q : Nat) : Int), (sn + 1)) (by (try dsimp only); exact ⟨(by first | exact lt_j | omega), (fun y hy => by rw [← hdq]; exact due_next lt_j hy), (by omega)⟩) (by dsimp only; omega) (by repeat (first | exact trivial | refine ⟨rfl, ?_⟩)) wok_sub
        · have eq_j : j = (dueO ((e : Nat) : Int) (drE l ((e : Nat) : Int))).length := by have h9 := of_decide_eq_false h4; omega
          refine g_exit ?_
          refine g_then_x (g_then_x (g_blk_hit ?_))
          refine g_blk_n ?_
          refine g_then ?_
          refine g_region ?_
          refine s_q (q_inc rfl rfl (by omega)) rfl ?_
          refine s_q (q_move rfl) rfl ?_
          refine g_nil ?_
          exact g_again ((e + 1), g43, sn) (by (try dsimp only); exact ⟨(by first | exact lt_e | omega), (by rw [← drE_keep]; exact r43), (by have h9 := due_keep ((e : Nat) : Int) (drE l ((e : Nat) : Int)); rw [drE_keep] at h9; omega)⟩) (by dsimp only; omega) (by repeat (first | exact trivial | refine ⟨rfl, ?_⟩)) wok_sub
      · have eq_e : e = 256 := by have h9 := of_decide_eq_false h3; omega
        rw [eq_e] at hs9 hr2
        rw [show ((256 : Nat) : Int) = 256 from rfl, drE_end hob] at hs9 hr2
        simp only [List.length_nil, Nat.add_zero] at hs9
        refine g_exit ?_
        refine g_then_x (g_then_x (g_blk_hit ?_))
        refine g_then ?_
        refine g_seq ?_
        refine g_region ?_
        refine g_op (g_pure rfl (fun w1 hw1 => alive_any w1) rfl ?_)
        refine s_q (q_move rfl) rfl ?_
        refine s_qg (q_move rfl) rfl rfl rfl ?_
        refine s_qg (q_move rfl) rfl rfl rfl ?_
        refine s_qg (q_len rfl) rfl rfl rfl ?_
        refine s_qg (q_eql rfl rfl) rfl rfl rfl ?_
        refine g_litb 77 (b := true) rfl (decide_eq_true (by rw [hs9])) ?_
        refine s_q (q_pick_t rfl rfl) rfl ?_
        refine s_q (q_move rfl) rfl ?_
        refine s_qg (q_move rfl) rfl rfl rfl ?_
        refine g_gt rfl rfl (g_keep [Res.blk b21 57 [Value.slice (BR.A g2) (BR.bs g2).length (BR.cap g2), Value.int .i64 (BR.n g2)], Res.row (BR.A g2) (BR.bs g2).length (BR.cap g2) 47 1 ((BR.bs g2).map (fun k : Bk En => [k.v])), bks 50 2 En.c (BR.bs g2)] rfl (fun w1 hw1 ho1 => by exact blen_any b21 g2 ([] : List En) w1 ho1 hr2) rfl ?_)
        refine s_qg (q_eql rfl rfl) rfl rfl rfl ?_
        refine g_litb 82 (b := true) rfl (rfl) ?_
        refine s_q (q_pick_t rfl rfl) rfl ?_
        refine s_q (q_assign rfl) rfl ?_
        refine g_nil ?_
        refine g_then ?_
        refine g_ret ?_
        exact fin1 rfl (.tmp rfl) (fun w' hw' => ⟨by first | rfl | (simp_all; done) | (simp_all; omega), hw'.upd⟩) _ (.inl rfl)

theorem main_bucketDrains (v0 : Value) (v1 : Value) (W : World) (a0 : Arg Try.prog W 5 v0) (a1 : Arg Try.prog W 41 v1) : Pur Try.prog 5 [v0, v1] W (.bool true) := by
  obtain ⟨z0, rfl, hz0⟩ := Arg.int Try.underlying5 a0
  obtain ⟨len, rfl⟩ : ∃ q : Nat, z0 = q := ⟨z0.toNat, by have h0 : 0 ≤ z0 ∧ z0 ≤ 255 := hz0; omega⟩
  have h_len : len < 256 := by have h0 : 0 ≤ ((len : Nat) : Int) ∧ ((len : Nat) : Int) ≤ 255 := hz0; omega
  obtain ⟨A_l, c_l, l, rfl, hle1, hm1, o_l, k_l⟩ := Arg.slice (fun v : Int => [Value.int .u8 v]) (fun x : Int => 0 ≤ x ∧ x ≤ 255) Try.underlying41 (show Try.prog.cellsOf 5 = 1 by kernel_rfl) (by omega) (fun f cs h => OKc.int Try.underlying5 h) a1
  have h_l : l.length ≤ c_l ∧ c_l ≤ 9223372036854775807 := ⟨hle1, by unfold maxLen at hm1; omega⟩
  exact law_bucketDrains len A_l c_l l W h_len o_l h_l k_l

namespace LawBucketDrains
open Go.ChangeShapes Go.WideShapes Go.ChangeAt Go.RowKit Go.Eg
set_option linter.unusedVariables false
theorem own : ownKnob Try.prog.godebug = none := by kernel_rfl
theorem laidOut : laidOutB Try.prog = true := by kernel_rfl
set_option maxRecDepth 100000 in
theorem lifted (os : Os) (started : os.Started) (H : Type) (enc : TypeId × Value → H) :
    ReturnsInHanded {} Try.checked os 5 .any (Rows.bucketDrainsSpec.pre6 enc Try.prog Try.f5 Rows.bucketDrainsRow.domain false) (Rows.bucketDrainsSpec.post enc Try.prog Try.f5 false true false false) := by
  refine returnsInHanded_of_change (C := Try.checked) own started (by kernel_rfl) Try.func5
    (ChangeSpec.witness6 (enc := enc) (C := Try.checked) false ⟨#[], #[.int .u8 0, .slice none 0 0], []⟩ 8 (by kernel_rfl) (by kernel_rfl) (by kernel_rfl) (by kernel_rfl)) ?_
  intro W base args ds gs before hval0 hW hcnd _
  have hval : ∀ (j : Nat) t v, Try.f5.params[j]? = some t → args[j]? = some v → Value.okWide Try.prog W .any base t v := hval0
  have hW' := hW
  obtain ⟨p, q, hA0, hV, rfl, hfz, hnd⟩ := hW
  have hA : DataW.TrodAll enc Try.prog W 0 (fun _ => true) true Try.f5.params.toList args.toList ds p := hA0
  rw [Try.params5] at hA hval
  obtain ⟨v0, vs0, d0, ds0, p0, q0, hargs, rfl, rfl, h0, r0⟩ := trodAll_cons hA
  obtain ⟨v1, vs1, d1, ds1, p1, q1, rfl, rfl, rfl, h1, r1⟩ := trodAll_cons r0
  obtain ⟨rfl, rfl, rfl⟩ := trodAll_nil r1
  obtain rfl : args = #[v0, v1] := by cases args; simp_all
  obtain ⟨rfl, rfl⟩ := trodVars_none hV
  have a0 := Arg.of h0 (hval 0 5 v0 rfl rfl)
  have lt0 : ∀ x ∈ p0, x.block < W.heap.size := by obtain ⟨m, hm⟩ := h0; exact DataW.trod_lt m _ _ _ hm
  have a1 := Arg.of h1 (hval 1 41 v1 rfl rfl)
  have lt1 : ∀ x ∈ p1, x.block < W.heap.size := by obtain ⟨m, hm⟩ := h1; exact DataW.trod_lt m _ _ _ hm
  clear hA0 hval0
  simp only [List.append_nil] at hW'
  refine Calls.mono (main_bucketDrains v0 v1 W a0 a1) ?_
  rintro e W' ⟨v, rfl, rfl, hu⟩
  have bel := hu.below
  have targ := (trodAll_cons_mk (Below.trod laidOut (by kernel_rfl) (of_decide_eq_true (by kernel_rfl)) h0 bel lt0) (trodAll_cons_mk (Below.trod laidOut (by kernel_rfl) (of_decide_eq_true (by kernel_rfl)) h1 bel lt1) trodAll_mk0))
  simp only [List.append_nil] at targ
  exact ⟨_, rfl, _, _, _, [], _, [], hW', trodAll_mk1 (shut_bool Try.underlying4 _), targ, rfl, bel.frame _, fun h => by cases h⟩
theorem over : Rows.bucketDrainsRow.holds Try.pinned (OpenSpec.ofChange Rows.bucketDrainsSpec) :=
  OpenClaim.holds_of_wide 5 Try.f5 rfl rfl rfl rfl rfl rfl rfl ⟨rfl, rfl, rfl, rfl, rfl⟩ rfl rfl rfl rfl rfl (by kernel_rfl) Try.func5 (by kernel_rfl)
    (of_decide_eq_true (by kernel_rfl)) (by unfold Func.isWrapper; first | (rw [if_pos (by decide +kernel)]; kernel_rfl) | (rw [if_neg (by decide +kernel)]; exact ⟨rfl, rfl⟩))
    (fun os started H enc _ => lifted os started H enc)
theorem proved : Rows.BucketDrainsSaid := over
end LawBucketDrains
end Go.Proofs.Ytgbghjnlicldnaa
