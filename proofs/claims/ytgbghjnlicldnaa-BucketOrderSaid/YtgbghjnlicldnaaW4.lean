/- walks of the reference ring -/
import Derived.Test.YtgbghjnlicldnaaW3
namespace Go.Proofs.Ytgbghjnlicldnaa
open Go.RowKit Go.Eg
set_option synthInstance.maxSize 3000
set_option linter.unusedSimpArgs false
set_option linter.unusedVariables false
set_option maxRecDepth 100000
set_option maxHeartbeats 400000 in
theorem equal_i (A B : Option Addr) (n1 n2 cap1 cap2 : Nat) (l1 l2 : List Int) (w : World) (ha : Old w A n1 1 (l1.map (fun v : Int => [Value.int .i64 v]))) (hb : Old w B n2 1 (l2.map (fun v : Int => [Value.int .i64 v]))) (hc1 : n1 ≤ 9223372036854775807) : Pur Try.prog 21 [.slice A n1 cap1, .slice B n2 cap2] w (.bool (decide (l1 = l2))) := by
  refine g_start Try.func21 rfl 26 rfl (by simp) ([]) [] (WOK.start _ _) _ rfl ?_
  have e1 : n1 = l1.length := by simpa using ha.len
  have e2 : n2 = l2.length := by simpa using hb.len
  refine g_seq ?_
  refine g_region ?_
  refine s_q (q_assign rfl) rfl ?_
  refine g_nil ?_
  refine g_then ?_
  refine g_seq ?_
  refine g_seq ?_
  refine g_region ?_
  refine s_q (q_move rfl) rfl ?_
  refine s_q (q_len rfl) rfl ?_
  refine s_q (q_move rfl) rfl ?_
  refine s_q (q_len rfl) rfl ?_
  refine s_q (q_neq rfl rfl) rfl ?_
  refine g_nil ?_
  refine g_then ?_
  refine g_cond rfl (fun h1 => ?_) (fun h1 => ?_)
  · refine g_seq ?_
    refine g_region ?_
    refine s_q (q_assign rfl) rfl ?_
    refine g_nil ?_
    refine g_then ?_
    refine g_ret ?_
    refine g_then_ret ?_
    exact fin1 rfl (.tmp rfl) (fun w' hw' => ⟨by rw [decide_eq_false (fun e => by subst e; simp at h1; omega)], hw'.upd⟩) _ (.inl rfl)
  · have hn : n1 = n2 := by simp at h1; omega
    refine g_skip ?_
    refine g_then ?_
    refine g_seq ?_
    refine g_seq ?_
    refine g_region ?_
    refine s_q (q_move rfl) rfl ?_
    refine s_q (q_len rfl) rfl ?_
    refine s_q (q_move rfl) rfl ?_
    refine g_nil ?_
    refine g_then ?_
    refine g_block ?_
    refine g_loopk [0, 1, 4, 12] (fun (x : Nat) => [(13, .int .i64 ((x : Nat) : Int))]) (fun (x : Nat) => []) (fun (x : Nat) => x ≤ n1 ∧ (∀ j, j < x → l1[j]? = l2[j]?)) (fun (x : Nat) => n1 - x) 0 (by (try dsimp only); exact ⟨Nat.zero_le _, (fun j hj => absurd hj (Nat.not_lt_zero _))⟩) rfl (by repeat (first | exact trivial | refine ⟨rfl, ?_⟩)) wok_sub ?_
    rintro k ⟨le_k, pre⟩
    replace le_k : k ≤ n1 := le_k
    replace pre : ∀ j, j < k → l1[j]? = l2[j]? := pre
    refine g_seq ?_
    refine g_region ?_
    refine s_q (q_lss rfl rfl) rfl ?_
    refine g_nil ?_
    refine g_then ?_
    refine g_seq ?_
    refine g_cond rfl (fun h2 => ?_) (fun h2 => ?_)
    · have lt_k : k < n1 := by have h9 := of_decide_eq_true h2; omega
      have lk1 : k < l1.length := by omega
      have lk2 : k < l2.length := by omega
      refine g_skip ?_
      refine g_then ?_
      refine g_seq ?_
      refine g_block ?_
      refine g_seq ?_
      refine g_region ?_
      refine s_q (q_move rfl) rfl ?_
      refine s_q (q_assign rfl) rfl ?_
      refine g_nil ?_
      refine g_then ?_
      refine g_seq ?_
      refine d_region [] mixed rfl rfl ?_
      refine d_q 0 rfl (by kernel_rfl) (q_move rfl) wok_sub rfl (ls' := #[true, false, false, false, false, false, false, false, false]) rfl ?_
      refine d_q 1 rfl (by kernel_rfl) (q_move rfl) wok_sub rfl (ls' := #[true, true, false, false, false, false, false, false, false]) rfl ?_
      refine d_q 2 rfl (by kernel_rfl) (q_index (i := k) rfl rfl rfl (ha.rdb rfl) (by first | exact lt_k | omega)) wok_sub rfl (ls' := #[true, true, true, false, false, false, false, false, false]) rfl ?_
      refine d_q 3 rfl (by kernel_rfl) (q_load_el (i := k) (o := 0) rfl (ha.rdb rfl) (map_get (by first | exact (by first | exact lt_k | omega) | omega | (simp_all; done) | (simp_all; omega))) rfl rfl) wok_sub rfl (ls' := #[true, true, true, true, false, false, false, false, false]) rfl ?_
      refine d_q 4 rfl (by kernel_rfl) (q_move rfl) wok_sub rfl (ls' := #[true, true, true, true, true, false, false, false, false]) rfl ?_
      refine d_q 5 rfl (by kernel_rfl) (q_move rfl) wok_sub rfl (ls' := #[true, true, true, true, true, true, false, false, false]) rfl ?_
      refine d_q 6 rfl (by kernel_rfl) (q_index (i := k) rfl rfl rfl (hb.rdb rfl) (by first | exact lt_k | omega)) wok_sub rfl (ls' := #[true, true, true, true, true, true, true, false, false]) rfl ?_
      refine d_q 7 rfl (by kernel_rfl) (q_load_el (i := k) (o := 0) rfl (hb.rdb rfl) (map_get (by first | exact (by first | exact lt_k | omega) | omega | (simp_all; done) | (simp_all; omega))) rfl rfl) wok_sub rfl (ls' := #[true, true, true, true, true, true, true, true, false]) rfl ?_
      refine d_q 8 rfl (by kernel_rfl) (q_neq rfl rfl) wok_sub rfl (ls' := #[true, true, true, true, true, true, true, true, true]) rfl ?_
      refine d_end (by kernel_rfl) (.inr wok_sub) ?_
      refine g_then ?_
      refine g_cond rfl (fun h3 => ?_) (fun h3 => ?_)
      · refine g_seq ?_
        refine g_region ?_
        refine s_q (q_assign rfl) rfl ?_
        refine g_nil ?_
        refine g_then ?_
        refine g_ret ?_
        refine g_blk_ret (g_then_ret (g_then_ret (g_blk_ret (g_then_ret ?_))))
        exact fin1 rfl (.tmp rfl) (fun w' hw' => ⟨by rw [decide_eq_false (fun e => by subst e; simp at h3)], hw'.upd⟩) _ (.inl rfl)
      · refine g_skip ?_
        refine g_blk_n ?_
        refine g_then ?_
        refine g_region ?_
        refine s_q (q_inc rfl rfl (by omega)) rfl ?_
        refine s_q (q_move rfl) rfl ?_
        refine g_nil ?_
        exact g_again (k + 1) (by (try dsimp only); exact ⟨(by first | exact lt_k | omega), (pre_succ pre (by rw [List.getElem?_eq_getElem (by omega), List.getElem?_eq_getElem (by omega)]; exact congrArg some (by simpa using h3)))⟩) (by first | omega | (simp only; omega)) (by repeat (first | exact trivial | refine ⟨rfl, ?_⟩)) wok_sub
    · have eq_k : k = n1 := by have h9 := of_decide_eq_false h2; omega
      refine g_exit ?_
      refine g_then_x (g_then_x (g_blk_hit ?_))
      refine g_then ?_
      refine g_seq ?_
      refine g_region ?_
      refine s_q (q_assign rfl) rfl ?_
      refine g_nil ?_
      refine g_then ?_
      refine g_ret ?_
      exact fin1 rfl (.tmp rfl) (fun w' hw' => ⟨by rw [decide_eq_true (pre_all pre (by omega) (by omega))], hw'.upd⟩) _ (.inl rfl)

theorem g_noresN {κ : Cx} {e : Env} {L : List Res} {X : Act → World → Prop} (A : Option Addr) (T k n : Nat) (els : List (List Value)) (hn : n = 0) (he : els = []) (h : G κ e (.row A n 0 T k els :: L) X) : G κ e L X := by
  subst hn; subst he; exact g_nores A T k h
theorem en_get_e {es : List En} {k : Nat} (h : k < es.length) : ((es.map En.e).map fun v : Int => [Value.int .i64 v])[k]? = some [Value.int .i64 es[k].e] := by simp [h]
theorem en_get_i {es : List En} {k : Nat} (h : k < es.length) : ((es.map En.i).map fun v : Int => [Value.int .i64 v])[k]? = some [Value.int .i64 es[k].i] := by simp [h]
theorem put_e {es : List En} {e i : Int} (hv : validE e = true) : (putE es e i).map En.e = es.map En.e ++ [e] := by rw [putE, if_pos hv]; simp
theorem put_i {es : List En} {e i : Int} (hv : validE e = true) : (putE es e i).map En.i = es.map En.i ++ [i] := by rw [putE, if_pos hv]; simp
theorem put_n {es : List En} {e i : Int} (hv : ¬ validE e = true) : putE es e i = es := by rw [putE, if_neg hv]
theorem next_succ {es : List En} {n : Int} {k : Nat} (hk : k < es.length) (h : (n, true) = nextE (es.take (max k 1))) : (min n es[k].e, true) = nextE (es.take (max (k + 1) 1)) := by
  have e1 : max (k + 1) 1 = k + 1 := by omega
  rw [e1]
  rcases Nat.eq_zero_or_pos k with rfl | h0
  · have e2 : es.take 1 = [es[0]] := by rw [← List.take_append_getElem hk]; rfl
    have e3 : max 0 1 = 1 := rfl
    rw [e3, e2] at h
    rw [show 0 + 1 = 1 from rfl, e2]
    have e4 : nextE [es[0]] = (es[0].e, true) := by simp [nextE, nstep]
    rw [e4] at h ⊢
    injection h with h1 _
    rw [h1]; simp
  · have e2 : max k 1 = k := by omega
    rw [e2] at h
    rw [← List.take_append_getElem hk]
    unfold nextE at h ⊢
    rw [List.foldl_append, ← h]
    simp only [List.foldl_cons, List.foldl_nil, nstep, Bool.true_eq_false, false_or]
    split
    · congr 1; omega
    · congr 1; omega
theorem cnt_succ {es : List En} {p : En → Bool} {k : Nat} (hk : k < es.length) : ((es.take (k + 1)).filter p).length = ((es.take k).filter p).length + (if p es[k] = true then 1 else 0) := by
  rw [← List.take_append_getElem hk, List.filter_append]
  by_cases h : p es[k] = true <;> simp [h]

set_option maxHeartbeats 400000 in
theorem rput_any (wb : Nat) (A0 : Option Addr) (c0 : Nat) (A1 : Option Addr) (c1 : Nat) (es : List En) (e it : Int) (w : World) (hw : WOK (fps [Res.blk wb 29 [Value.slice A0 (es.map En.e).length c0, Value.slice A1 (es.map En.i).length c1], Res.row A0 (es.map En.e).length c0 3 1 ((es.map En.e).map (fun v : Int => [Value.int .i64 v])), Res.row A1 (es.map En.i).length c1 3 1 ((es.map En.i).map (fun v : Int => [Value.int .i64 v]))]) w [Res.blk wb 29 [Value.slice A0 (es.map En.e).length c0, Value.slice A1 (es.map En.i).length c1], Res.row A0 (es.map En.e).length c0 3 1 ((es.map En.e).map (fun v : Int => [Value.int .i64 v])), Res.row A1 (es.map En.i).length c1 3 1 ((es.map En.i).map (fun v : Int => [Value.int .i64 v]))] w) (hnE : es.length ≤ 1000000) : Own2 (ι := (Option Addr × Nat × Option Addr × Nat)) Try.prog 24 [.pointer (some ⟨wb, 0, none⟩), .int .i64 e, .int .i64 it] w [Res.blk wb 29 [Value.slice A0 (es.map En.e).length c0, Value.slice A1 (es.map En.i).length c1], Res.row A0 (es.map En.e).length c0 3 1 ((es.map En.e).map (fun v : Int => [Value.int .i64 v])), Res.row A1 (es.map En.i).length c1 3 1 ((es.map En.i).map (fun v : Int => [Value.int .i64 v]))] (fun x => True) (fun x => .bool (validE e)) (fun x => []) (fun x => [Res.blk wb 29 [Value.slice x.1 ((putE es e it).map En.e).length x.2.1, Value.slice x.2.2.1 ((putE es e it).map En.i).length x.2.2.2], Res.row x.1 ((putE es e it).map En.e).length x.2.1 3 1 (((putE es e it).map En.e).map (fun v : Int => [Value.int .i64 v])), Res.row x.2.2.1 ((putE es e it).map En.i).length x.2.2.2 3 1 (((putE es e it).map En.i).map (fun v : Int => [Value.int .i64 v]))]) := by
  refine g_start Try.func24 rfl 37 rfl (by simp) (fps [Res.blk wb 29 [Value.slice A0 (es.map En.e).length c0, Value.slice A1 (es.map En.i).length c1], Res.row A0 (es.map En.e).length c0 3 1 ((es.map En.e).map (fun v : Int => [Value.int .i64 v])), Res.row A1 (es.map En.i).length c1 3 1 ((es.map En.i).map (fun v : Int => [Value.int .i64 v]))]) [Res.blk wb 29 [Value.slice A0 (es.map En.e).length c0, Value.slice A1 (es.map En.i).length c1], Res.row A0 (es.map En.e).length c0 3 1 ((es.map En.e).map (fun v : Int => [Value.int .i64 v])), Res.row A1 (es.map En.i).length c1 3 1 ((es.map En.i).map (fun v : Int => [Value.int .i64 v]))] hw _ rfl ?_
  refine g_seq ?_
  refine g_region ?_
  refine s_q (q_assign rfl) rfl ?_
  refine g_nil ?_
  refine g_then ?_
  refine g_seq ?_
  refine g_seq ?_
  refine g_region ?_
  refine s_q (q_move rfl) rfl ?_
  refine s_q (q_lss rfl rfl) rfl ?_
  refine s_q (q_move rfl) rfl ?_
  refine g_split 9 rfl (fun h1 => ?_) (fun h1 => ?_)
  · have hv : ¬ validE e = true := fun hc => by have h8 := of_decide_eq_true hc; have h9 := of_decide_eq_true h1; omega
    refine g_gf rfl rfl rfl rfl ?_
    refine g_gf rfl rfl rfl rfl ?_
    refine s_q (q_pick_t rfl rfl) rfl ?_
    refine g_nil ?_
    refine g_then ?_
    refine g_true rfl ?_
    refine g_seq ?_
    refine g_region ?_
    refine s_q (q_assign rfl) rfl ?_
    refine g_nil ?_
    refine g_then ?_
    refine g_ret ?_
    refine g_then_ret ?_
    exact fin1 rfl (.tmp rfl) (fun w' hw' => ⟨(A0, c0, A1, c1), (by first | exact trivial | (dsimp only; exact trivial)), by simp [hv], by have h9 := wok_sub (L' := [Res.blk wb 29 [Value.slice A0 (es.map En.e).length c0, Value.slice A1 (es.map En.i).length c1], Res.row A0 (es.map En.e).length c0 3 1 ((es.map En.e).map (fun v : Int => [Value.int .i64 v])), Res.row A1 (es.map En.i).length c1 3 1 ((es.map En.i).map (fun v : Int => [Value.int .i64 v]))]) w' hw'; show WOK _ _ [Res.blk wb 29 [Value.slice ((A0, c0, A1, c1)).1 ((putE es e it).map En.e).length ((A0, c0, A1, c1)).2.1, Value.slice ((A0, c0, A1, c1)).2.2.1 ((putE es e it).map En.i).length ((A0, c0, A1, c1)).2.2.2], Res.row ((A0, c0, A1, c1)).1 ((putE es e it).map En.e).length ((A0, c0, A1, c1)).2.1 3 1 (((putE es e it).map En.e).map (fun v : Int => [Value.int .i64 v])), Res.row ((A0, c0, A1, c1)).2.2.1 ((putE es e it).map En.i).length ((A0, c0, A1, c1)).2.2.2 3 1 (((putE es e it).map En.i).map (fun v : Int => [Value.int .i64 v]))] _; rw [put_n hv]; exact h9⟩) _ (.inl rfl)
  · have he0 : 0 ≤ e := by have h9 := of_decide_eq_false h1; omega
    refine s_qg (q_move rfl) rfl rfl rfl ?_
    refine s_qg (q_gtr rfl rfl) rfl rfl rfl ?_
    refine s_q (q_pick_f rfl rfl) rfl ?_
    refine g_nil ?_
    refine g_then ?_
    refine g_cond rfl (fun h2 => ?_) (fun h2 => ?_)
    · have hv : ¬ validE e = true := fun hc => by have h8 := of_decide_eq_true hc; have h9 := of_decide_eq_true h2; omega
      refine g_seq ?_
      refine g_region ?_
      refine s_q (q_assign rfl) rfl ?_
      refine g_nil ?_
      refine g_then ?_
      refine g_ret ?_
      refine g_then_ret ?_
      exact fin1 rfl (.tmp rfl) (fun w' hw' => ⟨(A0, c0, A1, c1), (by first | exact trivial | (dsimp only; exact trivial)), by simp [hv], by have h9 := wok_sub (L' := [Res.blk wb 29 [Value.slice A0 (es.map En.e).length c0, Value.slice A1 (es.map En.i).length c1], Res.row A0 (es.map En.e).length c0 3 1 ((es.map En.e).map (fun v : Int => [Value.int .i64 v])), Res.row A1 (es.map En.i).length c1 3 1 ((es.map En.i).map (fun v : Int => [Value.int .i64 v]))]) w' hw'; show WOK _ _ [Res.blk wb 29 [Value.slice ((A0, c0, A1, c1)).1 ((putE es e it).map En.e).length ((A0, c0, A1, c1)).2.1, Value.slice ((A0, c0, A1, c1)).2.2.1 ((putE es e it).map En.i).length ((A0, c0, A1, c1)).2.2.2], Res.row ((A0, c0, A1, c1)).1 ((putE es e it).map En.e).length ((A0, c0, A1, c1)).2.1 3 1 (((putE es e it).map En.e).map (fun v : Int => [Value.int .i64 v])), Res.row ((A0, c0, A1, c1)).2.2.1 ((putE es e it).map En.i).length ((A0, c0, A1, c1)).2.2.2 3 1 (((putE es e it).map En.i).map (fun v : Int => [Value.int .i64 v]))] _; rw [put_n hv]; exact h9⟩) _ (.inl rfl)
    · have hv : validE e = true := decide_eq_true (by have h9 := of_decide_eq_false h2; omega)
      refine g_skip ?_
      refine g_then ?_
      refine g_seq ?_
      refine g_region ?_
      refine s_q (q_move rfl) rfl ?_
      refine g_op (g_lit rfl rfl rfl rfl rfl fun b14 => ?_)
      refine g_norow (t := 14) (T := 3) (k := 1) rfl fun A14 cap14 hc14 => ?_
      refine g_rowels (A := A14) (([] : List Int).map (fun v : Int => [Value.int .i64 v])) rfl ?_
      refine s_q (q_move rfl) rfl ?_
      refine s_q (q_nilck rfl) rfl ?_
      refine s_q (q_field rfl) rfl ?_
      refine s_q (q_load rfl rfl) rfl ?_
      refine g_op (g_append (A := A14) (els := (([] : List Int)).map (fun v : Int => [Value.int .i64 v])) (news := (((es.map En.e)).map (fun v : Int => [Value.int .i64 v]))) rfl rfl (InRow.rdb (A := A0) (els := ((es.map En.e)).map (fun v : Int => [Value.int .i64 v])) (by first | rfl | assumption | (simp; done) | (simp_all; done) | (simp; omega) | (simp_all; omega)) (map_cat (c := (fun v : Int => [Value.int .i64 v])) (fun _ => rfl) _)) (map_one (c := (fun v : Int => [Value.int .i64 v])) (by intro x; simp [Value.oneCell']) _) (by simp; omega) rfl fun A19 cap19 => ⟨_, inferInstance, ?_⟩)
      refine g_rowels (A := A19) (((es.map En.e)).map (fun v : Int => [Value.int .i64 v])) (by first | rfl | exact List.map_append.symm | (simp; done)) ?_
      refine g_rown (A := A19) ((es.map En.e).length) (by simp) ?_
      refine g_val 19 (v' := .slice A19 ((es.map En.e).length) cap19) rfl (by simp) ?_
      refine s_q (q_move rfl) rfl ?_
      refine g_op (g_lit rfl rfl rfl rfl rfl fun b21 => ?_)
      refine g_blkc (b := b21) ((([e] : List Int).map (fun v : Int => [Value.int .i64 v])).flatten) rfl ?_
      refine g_op (g_append (A := A19) (els := ((es.map En.e)).map (fun v : Int => [Value.int .i64 v])) (news := (([e] : List Int).map (fun v : Int => [Value.int .i64 v]))) rfl rfl (InL.rdb (b := b21) rfl (by simp) rfl) (map_one (c := (fun v : Int => [Value.int .i64 v])) (by intro x; simp [Value.oneCell']) _) (by simp; omega) rfl fun A22 cap22 => ⟨_, inferInstance, ?_⟩)
      refine g_rowels (A := A22) ((((es.map En.e) ++ [e])).map (fun v : Int => [Value.int .i64 v])) (by first | rfl | exact List.map_append.symm | (simp; done)) ?_
      refine s_q (q_nilck rfl) rfl ?_
      refine s_q (q_field rfl) rfl ?_
      refine g_op (g_store rfl rfl rfl rfl rfl rfl rfl ?_)
      refine g_rown (A := A22) (es.map En.e ++ [e]).length (by simp) ?_
      refine g_blkc (b := wb) [Value.slice A22 (es.map En.e ++ [e]).length cap22, Value.slice A1 (es.map En.i).length c1] (by simp [splice]) ?_
      refine g_nil ?_
      refine g_then ?_
      refine g_seq ?_
      refine g_region ?_
      refine s_q (q_move rfl) rfl ?_
      refine g_op (g_lit rfl rfl rfl rfl rfl fun b26 => ?_)
      refine g_norow (t := 26) (T := 3) (k := 1) rfl fun A26 cap26 hc26 => ?_
      refine g_rowels (A := A26) (([] : List Int).map (fun v : Int => [Value.int .i64 v])) rfl ?_
      refine s_q (q_move rfl) rfl ?_
      refine s_q (q_nilck rfl) rfl ?_
      refine s_q (q_field rfl) rfl ?_
      refine s_q (q_load rfl rfl) rfl ?_
      refine g_op (g_append (A := A26) (els := (([] : List Int)).map (fun v : Int => [Value.int .i64 v])) (news := (((es.map En.i)).map (fun v : Int => [Value.int .i64 v]))) rfl rfl (InRow.rdb (A := A1) (els := ((es.map En.i)).map (fun v : Int => [Value.int .i64 v])) (by first | rfl | assumption | (simp; done) | (simp_all; done) | (simp; omega) | (simp_all; omega)) (map_cat (c := (fun v : Int => [Value.int .i64 v])) (fun _ => rfl) _)) (map_one (c := (fun v : Int => [Value.int .i64 v])) (by intro x; simp [Value.oneCell']) _) (by simp; omega) rfl fun A31 cap31 => ⟨_, inferInstance, ?_⟩)
      refine g_rowels (A := A31) (((es.map En.i)).map (fun v : Int => [Value.int .i64 v])) (by first | rfl | exact List.map_append.symm | (simp; done)) ?_
      refine g_rown (A := A31) ((es.map En.i).length) (by simp) ?_
      refine g_val 31 (v' := .slice A31 ((es.map En.i).length) cap31) rfl (by simp) ?_
      refine s_q (q_move rfl) rfl ?_
      refine g_op (g_lit rfl rfl rfl rfl rfl fun b33 => ?_)
      refine g_blkc (b := b33) ((([it] : List Int).map (fun v : Int => [Value.int .i64 v])).flatten) rfl ?_
      refine g_op (g_append (A := A31) (els := ((es.map En.i)).map (fun v : Int => [Value.int .i64 v])) (news := (([it] : List Int).map (fun v : Int => [Value.int .i64 v]))) rfl rfl (InL.rdb (b := b33) rfl (by simp) rfl) (map_one (c := (fun v : Int => [Value.int .i64 v])) (by intro x; simp [Value.oneCell']) _) (by simp; omega) rfl fun A34 cap34 => ⟨_, inferInstance, ?_⟩)
      refine g_rowels (A := A34) ((((es.map En.i) ++ [it])).map (fun v : Int => [Value.int .i64 v])) (by first | rfl | exact List.map_append.symm | (simp; done)) ?_
      refine s_q (q_nilck rfl) rfl ?_
      refine s_q (q_field rfl) rfl ?_
      refine g_op (g_store rfl rfl rfl rfl rfl rfl rfl ?_)
      refine g_rown (A := A34) (es.map En.i ++ [it]).length (by simp) ?_
      refine g_blkc (b := wb) [Value.slice A22 (es.map En.e ++ [e]).length cap22, Value.slice A34 (es.map En.i ++ [it]).length cap34] (by simp [splice]) ?_
      refine g_nil ?_
      refine g_then ?_
      refine g_seq ?_
      refine g_region ?_
      refine s_q (q_assign rfl) rfl ?_
      refine g_nil ?_
      refine g_then ?_
      refine g_ret ?_
      exact fin1 rfl (.tmp rfl) (fun w' hw' => ⟨(A22, cap22, A34, cap34), (by first | exact trivial | (dsimp only; exact trivial)), by rw [hv], by have h9 := wok_sub (L' := [Res.blk wb 29 [Value.slice A22 (es.map En.e ++ [e]).length cap22, Value.slice A34 (es.map En.i ++ [it]).length cap34], Res.row A22 (es.map En.e ++ [e]).length cap22 3 1 ((es.map En.e ++ [e]).map (fun v : Int => [Value.int .i64 v])), Res.row A34 (es.map En.i ++ [it]).length cap34 3 1 ((es.map En.i ++ [it]).map (fun v : Int => [Value.int .i64 v]))]) w' hw'; show WOK _ _ [Res.blk wb 29 [Value.slice ((A22, cap22, A34, cap34)).1 ((putE es e it).map En.e).length ((A22, cap22, A34, cap34)).2.1, Value.slice ((A22, cap22, A34, cap34)).2.2.1 ((putE es e it).map En.i).length ((A22, cap22, A34, cap34)).2.2.2], Res.row ((A22, cap22, A34, cap34)).1 ((putE es e it).map En.e).length ((A22, cap22, A34, cap34)).2.1 3 1 (((putE es e it).map En.e).map (fun v : Int => [Value.int .i64 v])), Res.row ((A22, cap22, A34, cap34)).2.2.1 ((putE es e it).map En.i).length ((A22, cap22, A34, cap34)).2.2.2 3 1 (((putE es e it).map En.i).map (fun v : Int => [Value.int .i64 v]))] _; simp only [put_e hv, put_i hv]; exact h9⟩) _ (.inl rfl)

set_option maxHeartbeats 400000 in
theorem rdue_any (wb : Nat) (A0 : Option Addr) (c0 : Nat) (A1 : Option Addr) (c1 : Nat) (es : List En) (e : Int) (w : World) (hw : WOK (fps [Res.blk wb 29 [Value.slice A0 (es.map En.e).length c0, Value.slice A1 (es.map En.i).length c1], Res.row A0 (es.map En.e).length c0 3 1 ((es.map En.e).map (fun v : Int => [Value.int .i64 v])), Res.row A1 (es.map En.i).length c1 3 1 ((es.map En.i).map (fun v : Int => [Value.int .i64 v]))]) w [Res.blk wb 29 [Value.slice A0 (es.map En.e).length c0, Value.slice A1 (es.map En.i).length c1], Res.row A0 (es.map En.e).length c0 3 1 ((es.map En.e).map (fun v : Int => [Value.int .i64 v])), Res.row A1 (es.map En.i).length c1 3 1 ((es.map En.i).map (fun v : Int => [Value.int .i64 v]))] w) (hnE : es.length ≤ 1000000) : Own2 (ι := (Option Addr × Nat × Option Addr × Nat × Option Addr × Nat)) Try.prog 23 [.pointer (some ⟨wb, 0, none⟩), .int .i64 e] w [Res.blk wb 29 [Value.slice A0 (es.map En.e).length c0, Value.slice A1 (es.map En.i).length c1], Res.row A0 (es.map En.e).length c0 3 1 ((es.map En.e).map (fun v : Int => [Value.int .i64 v])), Res.row A1 (es.map En.i).length c1 3 1 ((es.map En.i).map (fun v : Int => [Value.int .i64 v]))] (fun x => True) (fun x => .slice x.1 (dueO e es).length x.2.1) (fun x => [Res.row x.1 (dueO e es).length x.2.1 3 1 ((dueO e es).map (fun v : Int => [Value.int .i64 v]))]) (fun x => [Res.blk wb 29 [Value.slice x.2.2.1 ((keepE e es).map En.e).length x.2.2.2.1, Value.slice x.2.2.2.2.1 ((keepE e es).map En.i).length x.2.2.2.2.2], Res.row x.2.2.1 ((keepE e es).map En.e).length x.2.2.2.1 3 1 (((keepE e es).map En.e).map (fun v : Int => [Value.int .i64 v])), Res.row x.2.2.2.2.1 ((keepE e es).map En.i).length x.2.2.2.2.2 3 1 (((keepE e es).map En.i).map (fun v : Int => [Value.int .i64 v]))]) := by
  refine g_start Try.func23 rfl 85 rfl (by simp) (fps [Res.blk wb 29 [Value.slice A0 (es.map En.e).length c0, Value.slice A1 (es.map En.i).length c1], Res.row A0 (es.map En.e).length c0 3 1 ((es.map En.e).map (fun v : Int => [Value.int .i64 v])), Res.row A1 (es.map En.i).length c1 3 1 ((es.map En.i).map (fun v : Int => [Value.int .i64 v]))]) [Res.blk wb 29 [Value.slice A0 (es.map En.e).length c0, Value.slice A1 (es.map En.i).length c1], Res.row A0 (es.map En.e).length c0 3 1 ((es.map En.e).map (fun v : Int => [Value.int .i64 v])), Res.row A1 (es.map En.i).length c1 3 1 ((es.map En.i).map (fun v : Int => [Value.int .i64 v]))] hw _ rfl ?_
  refine g_seq ?_
  refine g_region ?_
  refine s_q (q_assign rfl) rfl ?_
  refine g_nil ?_
  refine g_then ?_
  refine g_seq ?_
  refine g_region ?_
  refine s_q (q_assign rfl) rfl ?_
  refine g_nilrow 5 3 1 rfl fun Az1 capz1 hcz1 => ?_
  refine g_rowels (A := Az1) (([] : List Int).map (fun v : Int => [Value.int .i64 v])) rfl ?_
  refine g_nil ?_
  refine g_then ?_
  refine g_seq ?_
  refine g_region ?_
  refine s_q (q_build (c := [Value.slice none 0 0, Value.slice none 0 0]) rfl rfl) rfl ?_
  refine g_op (g_box (c := [Value.slice none 0 0, Value.slice none 0 0]) rfl rfl rfl fun b9 => ?_)
  refine s_q (q_assign rfl) rfl ?_
  refine g_blkc (b := b9) [Value.slice none (([] : List Int)).length 0, Value.slice none (([] : List Int)).length 0] rfl ?_
  refine g_noresL none 3 1 (([] : List Int).map (fun v : Int => [Value.int .i64 v])) rfl ?_
  refine g_noresL none 3 1 (([] : List Int).map (fun v : Int => [Value.int .i64 v])) rfl ?_
  refine g_nil ?_
  refine g_then ?_
  refine g_seq ?_
  refine g_seq ?_
  refine g_region ?_
  refine s_q (q_assign rfl) rfl ?_
  refine g_nil ?_
  refine g_then ?_
  refine g_block ?_
  refine g_loopk [0, 1, 4, 6] (fun (x : Nat × Option Addr × Nat × List Int × Option Addr × Nat × List Int × Option Addr × Nat × List Int) => [(5, .slice x.2.1 (x.2.2.2.1).length x.2.2.1), (7, .int .i64 ((x.1 : Nat) : Int))]) (fun (x : Nat × Option Addr × Nat × List Int × Option Addr × Nat × List Int × Option Addr × Nat × List Int) => [Res.blk wb 29 [Value.slice A0 (es.map En.e).length c0, Value.slice A1 (es.map En.i).length c1], Res.row A0 (es.map En.e).length c0 3 1 ((es.map En.e).map (fun v : Int => [Value.int .i64 v])), Res.row A1 (es.map En.i).length c1 3 1 ((es.map En.i).map (fun v : Int => [Value.int .i64 v])), Res.row x.2.1 (x.2.2.2.1).length x.2.2.1 3 1 ((x.2.2.2.1).map (fun v : Int => [Value.int .i64 v])), Res.blk b9 29 [Value.slice x.2.2.2.2.1 (x.2.2.2.2.2.2.1).length x.2.2.2.2.2.1, Value.slice x.2.2.2.2.2.2.2.1 (x.2.2.2.2.2.2.2.2.2).length x.2.2.2.2.2.2.2.2.1], Res.row x.2.2.2.2.1 (x.2.2.2.2.2.2.1).length x.2.2.2.2.2.1 3 1 ((x.2.2.2.2.2.2.1).map (fun v : Int => [Value.int .i64 v])), Res.row x.2.2.2.2.2.2.2.1 (x.2.2.2.2.2.2.2.2.2).length x.2.2.2.2.2.2.2.2.1 3 1 ((x.2.2.2.2.2.2.2.2.2).map (fun v : Int => [Value.int .i64 v]))]) (fun (x : Nat × Option Addr × Nat × List Int × Option Addr × Nat × List Int × Option Addr × Nat × List Int) => x.1 ≤ es.length ∧ x.2.2.2.1 = dueO e (es.take x.1) ∧ x.2.2.2.2.2.2.1 = (keepE e (es.take x.1)).map En.e ∧ x.2.2.2.2.2.2.2.2.2 = (keepE e (es.take x.1)).map En.i) (fun (x : Nat × Option Addr × Nat × List Int × Option Addr × Nat × List Int × Option Addr × Nat × List Int) => es.length - x.1) (0, Az1, capz1, ([] : List Int), none, 0, ([] : List Int), none, 0, ([] : List Int)) (by (try dsimp only); exact ⟨(by omega), rfl, rfl, rfl⟩) rfl (by repeat (first | exact trivial | refine ⟨rfl, ?_⟩)) wok_sub ?_
  rintro ⟨k, B, bc, o, C, cc, x1, D, dc, y1⟩ ⟨hk, ho, hx, hy⟩
  replace hk : k ≤ es.length := hk
  replace ho : o = dueO e (es.take k) := ho
  replace hx : x1 = (keepE e (es.take k)).map En.e := hx
  replace hy : y1 = (keepE e (es.take k)).map En.i := hy
  refine g_setL (L' := [Res.blk wb 29 [Value.slice A0 (es.map En.e).length c0, Value.slice A1 (es.map En.i).length c1], Res.row A0 (es.map En.e).length c0 3 1 ((es.map En.e).map (fun v : Int => [Value.int .i64 v])), Res.row A1 (es.map En.i).length c1 3 1 ((es.map En.i).map (fun v : Int => [Value.int .i64 v])), Res.row B (o).length bc 3 1 ((o).map (fun v : Int => [Value.int .i64 v])), Res.blk b9 29 [Value.slice C (x1).length cc, Value.slice D (y1).length dc], Res.row C (x1).length cc 3 1 ((x1).map (fun v : Int => [Value.int .i64 v])), Res.row D (y1).length dc 3 1 ((y1).map (fun v : Int => [Value.int .i64 v]))]) rfl ?_
  refine g_val 5 (v' := .slice B (o).length bc) rfl rfl ?_
  refine g_val 7 (v' := .int .i64 ((k : Nat) : Int)) rfl rfl ?_
  have hol : o.length ≤ k := by have h9 := dueO_le e (es.take k); rw [ho]; simp at h9 ⊢; omega
  have hxl : x1.length ≤ k := by have h9 := keepE_le e (es.take k); rw [hx]; simp at h9 ⊢; omega
  have hyl : y1.length ≤ k := by have h9 := keepE_le e (es.take k); rw [hy]; simp at h9 ⊢; omega
  refine g_seq ?_
  refine g_seq ?_
  refine g_region ?_
  refine s_q (q_move rfl) rfl ?_
  refine s_q (q_move rfl) rfl ?_
  refine s_q (q_nilck rfl) rfl ?_
  refine s_q (q_field rfl) rfl ?_
  refine s_q (q_load rfl rfl) rfl ?_
  refine s_q (q_len rfl) rfl ?_
  refine s_q (q_lss rfl rfl) rfl ?_
  refine g_nil ?_
  refine g_then ?_
  refine g_cond rfl (fun h1 => ?_) (fun h1 => ?_)
  · have hk1 : k < es.length := by have h9 := of_decide_eq_true h1; simp at h9; omega
    refine g_skip ?_
    refine g_then ?_
    refine g_seq ?_
    refine g_block ?_
    refine g_seq ?_
    refine g_region ?_
    refine s_q (q_move rfl) rfl ?_
    refine s_q (q_nilck rfl) rfl ?_
    refine s_q (q_field rfl) rfl ?_
    refine s_q (q_load rfl rfl) rfl ?_
    refine s_q (q_move rfl) rfl ?_
    refine s_q (q_index (i := k) rfl rfl rfl (InRow.rdb (A := A0) (els := ((es.map En.e)).map (fun v : Int => [Value.int .i64 v])) (by first | rfl | assumption | (simp; done) | (simp_all; done) | (simp; omega) | (simp_all; omega)) (map_cat (c := (fun v : Int => [Value.int .i64 v])) (fun _ => rfl) _)) (by first | omega | (simp; done) | (simp; omega))) rfl ?_
    refine s_q (q_load_el (i := k) (o := 0) rfl (InRow.rdb (A := A0) (els := ((es.map En.e)).map (fun v : Int => [Value.int .i64 v])) (by first | rfl | assumption | (simp; done) | (simp_all; done) | (simp; omega) | (simp_all; omega)) (map_cat (c := (fun v : Int => [Value.int .i64 v])) (fun _ => rfl) _)) (en_get_e (by first | assumption | omega)) rfl rfl) rfl ?_
    refine s_q (q_move rfl) rfl ?_
    refine s_q (q_eql rfl rfl) rfl ?_
    refine g_nil ?_
    refine g_then ?_
    refine g_cond rfl (fun h2 => ?_) (fun h2 => ?_)
    · have heq : (es[k]).e = e := of_decide_eq_true h2
      refine g_region ?_
      refine s_q (q_move rfl) rfl ?_
      refine s_q (q_move rfl) rfl ?_
      refine s_q (q_nilck rfl) rfl ?_
      refine s_q (q_field rfl) rfl ?_
      refine s_q (q_load rfl rfl) rfl ?_
      refine s_q (q_move rfl) rfl ?_
      refine s_q (q_index (i := k) rfl rfl rfl (InRow.rdb (A := A1) (els := ((es.map En.i)).map (fun v : Int => [Value.int .i64 v])) (by first | rfl | assumption | (simp; done) | (simp_all; done) | (simp; omega) | (simp_all; omega)) (map_cat (c := (fun v : Int => [Value.int .i64 v])) (fun _ => rfl) _)) (by first | omega | (simp; done) | (simp; omega))) rfl ?_
      refine s_q (q_load_el (i := k) (o := 0) rfl (InRow.rdb (A := A1) (els := ((es.map En.i)).map (fun v : Int => [Value.int .i64 v])) (by first | rfl | assumption | (simp; done) | (simp_all; done) | (simp; omega) | (simp_all; omega)) (map_cat (c := (fun v : Int => [Value.int .i64 v])) (fun _ => rfl) _)) (en_get_i (by first | assumption | omega)) rfl rfl) rfl ?_
      refine g_op (g_lit rfl rfl rfl rfl rfl fun b36 => ?_)
      refine g_blkc (b := b36) ((([(es[k]).i] : List Int).map (fun v : Int => [Value.int .i64 v])).flatten) rfl ?_
      refine g_op (g_append (A := B) (els := (o).map (fun v : Int => [Value.int .i64 v])) (news := (([(es[k]).i] : List Int).map (fun v : Int => [Value.int .i64 v]))) rfl rfl (InL.rdb (b := b36) rfl (by simp) rfl) (map_one (c := (fun v : Int => [Value.int .i64 v])) (by intro x; simp [Value.oneCell']) _) (by omega) rfl fun A37 cap37 => ⟨_, inferInstance, ?_⟩)
      refine g_rowels (A := A37) (((o ++ [(es[k]).i])).map (fun v : Int => [Value.int .i64 v])) (by first | rfl | exact List.map_append.symm | (simp; done)) ?_
      refine s_q (q_assign rfl) rfl ?_
      refine g_nil ?_
      refine g_blk_n ?_
      refine g_then ?_
      refine g_region ?_
      refine s_q (q_move rfl) rfl ?_
      refine s_q (q_inc rfl rfl (by omega)) rfl ?_
      refine s_q (q_assign rfl) rfl ?_
      refine g_nil ?_
      refine g_rown (A := A37) ((o ++ [(es[k]).i])).length (by simp) ?_
      refine g_val 5 (v' := .slice A37 ((o ++ [(es[k]).i])).length cap37) rfl (by simp) ?_
      exact g_again ((k + 1), A37, cap37, (o ++ [(es[k]).i]), C, cc, x1, D, dc, y1) (by (try dsimp only); exact ⟨(by omega), (by rw [ho, ← dueO_succ _ hk1, dueO_yes heq]), (by rw [hx, keepE_succ _ hk1, keepE_yes heq, List.append_nil]), (by rw [hy, keepE_succ _ hk1, keepE_yes heq, List.append_nil])⟩) (by dsimp only; omega) (by repeat (first | exact trivial | refine ⟨rfl, ?_⟩)) wok_sub
    · have hne : ¬ (es[k]).e = e := of_decide_eq_false h2
      refine g_seq ?_
      refine d_regionL (L0 := [Res.blk wb 29 [Value.slice A0 (es.map En.e).length c0, Value.slice A1 (es.map En.i).length c1], Res.row A0 (es.map En.e).length c0 3 1 ((es.map En.e).map (fun v : Int => [Value.int .i64 v])), Res.row A1 (es.map En.i).length c1 3 1 ((es.map En.i).map (fun v : Int => [Value.int .i64 v])), Res.row B o.length bc 3 1 (o.map (fun v : Int => [Value.int .i64 v])), Res.blk b9 29 [Value.slice C x1.length cc, Value.slice D y1.length dc], Res.row D y1.length dc 3 1 (y1.map (fun v : Int => [Value.int .i64 v]))]) [16] mixed rfl rfl wok_sub ?_
      refine d_q 0 rfl (by kernel_rfl) (q_move rfl) wok_sub rfl (ls' := #[true, false, false, false, false, false, false, false, false, false, false, false, false, false, false, false, false]) rfl ?_
      refine d_q 1 rfl (by kernel_rfl) (q_move rfl) wok_sub rfl (ls' := #[true, true, false, false, false, false, false, false, false, false, false, false, false, false, false, false, false]) rfl ?_
      refine d_q 2 rfl (by kernel_rfl) (q_nilck rfl) wok_sub rfl (ls' := #[true, true, true, false, false, false, false, false, false, false, false, false, false, false, false, false, false]) rfl ?_
      refine d_q 3 rfl (by kernel_rfl) (q_field rfl) wok_sub rfl (ls' := #[true, true, true, true, false, false, false, false, false, false, false, false, false, false, false, false, false]) rfl ?_
      refine d_q 4 rfl (by kernel_rfl) (q_load rfl rfl) wok_sub rfl (ls' := #[true, true, true, true, true, false, false, false, false, false, false, false, false, false, false, false, false]) rfl ?_
      refine d_q 5 rfl (by kernel_rfl) (q_move rfl) wok_sub rfl (ls' := #[true, true, true, true, true, true, false, false, false, false, false, false, false, false, false, false, false]) rfl ?_
      refine d_q 6 rfl (by kernel_rfl) (q_nilck rfl) wok_sub rfl (ls' := #[true, true, true, true, true, true, true, false, false, false, false, false, false, false, false, false, false]) rfl ?_
      refine d_q 7 rfl (by kernel_rfl) (q_field rfl) wok_sub rfl (ls' := #[true, true, true, true, true, true, true, true, false, false, false, false, false, false, false, false, false]) rfl ?_
      refine d_q 8 rfl (by kernel_rfl) (q_load rfl rfl) wok_sub rfl (ls' := #[true, true, true, true, true, true, true, true, true, false, false, false, false, false, false, false, false]) rfl ?_
      refine d_q 9 rfl (by kernel_rfl) (q_move rfl) wok_sub rfl (ls' := #[true, true, true, true, true, true, true, true, true, true, false, false, false, false, false, false, false]) rfl ?_
      refine d_q 10 rfl (by kernel_rfl) (q_index (i := k) rfl rfl rfl (InRow.rdb (A := A0) (els := ((es.map En.e)).map (fun v : Int => [Value.int .i64 v])) (by first | rfl | assumption | (simp; done) | (simp_all; done) | (simp; omega) | (simp_all; omega)) (map_cat (c := (fun v : Int => [Value.int .i64 v])) (fun _ => rfl) _)) (by first | omega | (simp; done) | (simp; omega))) wok_sub rfl (ls' := #[true, true, true, true, true, true, true, true, true, true, true, false, false, false, false, false, false]) rfl ?_
      refine d_q 11 rfl (by kernel_rfl) (q_load_el (i := k) (o := 0) rfl (InRow.rdb (A := A0) (els := ((es.map En.e)).map (fun v : Int => [Value.int .i64 v])) (by first | rfl | assumption | (simp; done) | (simp_all; done) | (simp; omega) | (simp_all; omega)) (map_cat (c := (fun v : Int => [Value.int .i64 v])) (fun _ => rfl) _)) (en_get_e (by first | assumption | omega)) rfl rfl) wok_sub rfl (ls' := #[true, true, true, true, true, true, true, true, true, true, true, true, false, false, false, false, false]) rfl ?_
      refine d_op 12 rfl (by kernel_rfl) (ls' := #[true, true, true, true, true, true, true, true, true, true, true, true, true, false, false, false, false]) rfl wok_sub (g_lit rfl rfl rfl rfl rfl fun b50 => ?_)
      refine g_blkc (b := b50) ((([(es[k]).e] : List Int).map (fun v : Int => [Value.int .i64 v])).flatten) rfl ?_
      refine d_op 13 rfl (by kernel_rfl) (ls' := #[true, true, true, true, true, true, true, true, true, true, true, true, true, true, false, false, false]) rfl wok_sub (g_append (A := C) (els := (x1).map (fun v : Int => [Value.int .i64 v])) (news := (([(es[k]).e] : List Int).map (fun v : Int => [Value.int .i64 v]))) rfl rfl (InL.rdb (b := b50) rfl (by simp) rfl) (map_one (c := (fun v : Int => [Value.int .i64 v])) (by intro x; simp [Value.oneCell']) _) (by omega) rfl fun A51 cap51 => ⟨_, inferInstance, ?_⟩)
      refine g_rowels (A := A51) (((x1 ++ [(es[k]).e])).map (fun v : Int => [Value.int .i64 v])) (by first | rfl | exact List.map_append.symm | (simp; done)) ?_
      refine d_p 14 rfl (by kernel_rfl) (fun _ => q_nilck rfl) rfl (ls' := #[true, true, true, true, true, true, true, true, true, true, true, true, true, true, true, false, false]) rfl ?_
      refine d_q 15 rfl (by kernel_rfl) (q_field rfl) wok_sub rfl (ls' := #[true, true, true, true, true, true, true, true, true, true, true, true, true, true, true, true, false]) rfl ?_
      refine d_op 16 rfl (by kernel_rfl) (ls' := #[true, true, true, true, true, true, true, true, true, true, true, true, true, true, true, true, true]) rfl wok_sub (g_store rfl rfl rfl rfl rfl rfl rfl ?_)
      refine g_rown (A := A51) (x1 ++ [(es[k]).e]).length (by simp) ?_
      refine g_blkc (b := b9) [Value.slice A51 (x1 ++ [(es[k]).e]).length cap51, Value.slice D y1.length dc] (by simp [splice]) ?_
      refine d_end (by kernel_rfl) (.inl rfl) ?_
      refine g_then ?_
      refine d_regionL (L0 := [Res.blk wb 29 [Value.slice A0 (es.map En.e).length c0, Value.slice A1 (es.map En.i).length c1], Res.row A0 (es.map En.e).length c0 3 1 ((es.map En.e).map (fun v : Int => [Value.int .i64 v])), Res.row A1 (es.map En.i).length c1 3 1 ((es.map En.i).map (fun v : Int => [Value.int .i64 v])), Res.row B o.length bc 3 1 (o.map (fun v : Int => [Value.int .i64 v])), Res.blk b9 29 [Value.slice A51 (x1 ++ [(es[k]).e]).length cap51, Value.slice D y1.length dc], Res.row A51 (x1 ++ [(es[k]).e]).length cap51 3 1 ((x1 ++ [(es[k]).e]).map (fun v : Int => [Value.int .i64 v]))]) [16] mixed rfl rfl wok_sub ?_
      refine d_q 0 rfl (by kernel_rfl) (q_move rfl) wok_sub rfl (ls' := #[true, false, false, false, false, false, false, false, false, false, false, false, false, false, false, false, false]) rfl ?_
      refine d_q 1 rfl (by kernel_rfl) (q_move rfl) wok_sub rfl (ls' := #[true, true, false, false, false, false, false, false, false, false, false, false, false, false, false, false, false]) rfl ?_
      refine d_q 2 rfl (by kernel_rfl) (q_nilck rfl) wok_sub rfl (ls' := #[true, true, true, false, false, false, false, false, false, false, false, false, false, false, false, false, false]) rfl ?_
      refine d_q 3 rfl (by kernel_rfl) (q_field rfl) wok_sub rfl (ls' := #[true, true, true, true, false, false, false, false, false, false, false, false, false, false, false, false, false]) rfl ?_
      refine d_q 4 rfl (by kernel_rfl) (q_load rfl rfl) wok_sub rfl (ls' := #[true, true, true, true, true, false, false, false, false, false, false, false, false, false, false, false, false]) rfl ?_
      refine d_q 5 rfl (by kernel_rfl) (q_move rfl) wok_sub rfl (ls' := #[true, true, true, true, true, true, false, false, false, false, false, false, false, false, false, false, false]) rfl ?_
      refine d_q 6 rfl (by kernel_rfl) (q_nilck rfl) wok_sub rfl (ls' := #[true, true, true, true, true, true, true, false, false, false, false, false, false, false, false, false, false]) rfl ?_
      refine d_q 7 rfl (by kernel_rfl) (q_field rfl) wok_sub rfl (ls' := #[true, true, true, true, true, true, true, true, false, false, false, false, false, false, false, false, false]) rfl ?_
      refine d_q 8 rfl (by kernel_rfl) (q_load rfl rfl) wok_sub rfl (ls' := #[true, true, true, true, true, true, true, true, true, false, false, false, false, false, false, false, false]) rfl ?_
      refine d_q 9 rfl (by kernel_rfl) (q_move rfl) wok_sub rfl (ls' := #[true, true, true, true, true, true, true, true, true, true, false, false, false, false, false, false, false]) rfl ?_
      refine d_q 10 rfl (by kernel_rfl) (q_index (i := k) rfl rfl rfl (InRow.rdb (A := A1) (els := ((es.map En.i)).map (fun v : Int => [Value.int .i64 v])) (by first | rfl | assumption | (simp; done) | (simp_all; done) | (simp; omega) | (simp_all; omega)) (map_cat (c := (fun v : Int => [Value.int .i64 v])) (fun _ => rfl) _)) (by first | omega | (simp; done) | (simp; omega))) wok_sub rfl (ls' := #[true, true, true, true, true, true, true, true, true, true, true, false, false, false, false, false, false]) rfl ?_
      refine d_q 11 rfl (by kernel_rfl) (q_load_el (i := k) (o := 0) rfl (InRow.rdb (A := A1) (els := ((es.map En.i)).map (fun v : Int => [Value.int .i64 v])) (by first | rfl | assumption | (simp; done) | (simp_all; done) | (simp; omega) | (simp_all; omega)) (map_cat (c := (fun v : Int => [Value.int .i64 v])) (fun _ => rfl) _)) (en_get_i (by first | assumption | omega)) rfl rfl) wok_sub rfl (ls' := #[true, true, true, true, true, true, true, true, true, true, true, true, false, false, false, false, false]) rfl ?_
      refine d_op 12 rfl (by kernel_rfl) (ls' := #[true, true, true, true, true, true, true, true, true, true, true, true, true, false, false, false, false]) rfl wok_sub (g_lit rfl rfl rfl rfl rfl fun b66 => ?_)
      refine g_blkc (b := b66) ((([(es[k]).i] : List Int).map (fun v : Int => [Value.int .i64 v])).flatten) rfl ?_
      refine d_op 13 rfl (by kernel_rfl) (ls' := #[true, true, true, true, true, true, true, true, true, true, true, true, true, true, false, false, false]) rfl wok_sub (g_append (A := D) (els := (y1).map (fun v : Int => [Value.int .i64 v])) (news := (([(es[k]).i] : List Int).map (fun v : Int => [Value.int .i64 v]))) rfl rfl (InL.rdb (b := b66) rfl (by simp) rfl) (map_one (c := (fun v : Int => [Value.int .i64 v])) (by intro x; simp [Value.oneCell']) _) (by omega) rfl fun A67 cap67 => ⟨_, inferInstance, ?_⟩)
      refine g_rowels (A := A67) (((y1 ++ [(es[k]).i])).map (fun v : Int => [Value.int .i64 v])) (by first | rfl | exact List.map_append.symm | (simp; done)) ?_
      refine d_p 14 rfl (by kernel_rfl) (fun _ => q_nilck rfl) rfl (ls' := #[true, true, true, true, true, true, true, true, true, true, true, true, true, true, true, false, false]) rfl ?_
      refine d_q 15 rfl (by kernel_rfl) (q_field rfl) wok_sub rfl (ls' := #[true, true, true, true, true, true, true, true, true, true, true, true, true, true, true, true, false]) rfl ?_
      refine d_op 16 rfl (by kernel_rfl) (ls' := #[true, true, true, true, true, true, true, true, true, true, true, true, true, true, true, true, true]) rfl wok_sub (g_store rfl rfl rfl rfl rfl rfl rfl ?_)
      refine g_rown (A := A67) (y1 ++ [(es[k]).i]).length (by simp) ?_
      refine g_blkc (b := b9) [Value.slice A51 (x1 ++ [(es[k]).e]).length cap51, Value.slice A67 (y1 ++ [(es[k]).i]).length cap67] (by simp [splice]) ?_
      refine d_end (by kernel_rfl) (.inl rfl) ?_
      refine g_blk_n ?_
      refine g_then ?_
      refine g_region ?_
      refine s_q (q_move rfl) rfl ?_
      refine s_q (q_inc rfl rfl (by omega)) rfl ?_
      refine s_q (q_assign rfl) rfl ?_
      refine g_nil ?_
      skip
      exact g_again ((k + 1), B, bc, o, A51, cap51, (x1 ++ [(es[k]).e]), A67, cap67, (y1 ++ [(es[k]).i])) (by (try dsimp only); exact ⟨(by omega), (by rw [ho, ← dueO_succ _ hk1, dueO_no hne, List.append_nil]), (by rw [hx, keepE_succ _ hk1, keepE_no hne, List.map_append]; rfl), (by rw [hy, keepE_succ _ hk1, keepE_no hne, List.map_append]; rfl)⟩) (by dsimp only; omega) (by repeat (first | exact trivial | refine ⟨rfl, ?_⟩)) wok_sub
  · have hk2 : k = es.length := by have h9 := of_decide_eq_false h1; simp at h9; omega
    rw [hk2, List.take_length] at ho hx hy
    subst ho hx hy
    refine g_exit ?_
    refine g_then_x (g_then_x (g_blk_hit ?_))
    refine g_then ?_
    refine g_seq ?_
    refine g_region ?_
    refine s_q (q_move rfl) rfl ?_
    refine s_q (q_move rfl) rfl ?_
    refine s_q (q_nilck rfl) rfl ?_
    refine s_q (q_field rfl) rfl ?_
    refine s_q (q_load rfl rfl) rfl ?_
    refine s_q (q_nilck rfl) rfl ?_
    refine s_q (q_field rfl) rfl ?_
    refine g_op (g_store rfl rfl rfl rfl rfl rfl rfl ?_)
    refine g_blkc (b := wb) [Value.slice C ((keepE e es).map En.e).length cc, Value.slice A1 (es.map En.i).length c1] (by simp [splice]) ?_
    refine g_nil ?_
    refine g_then ?_
    refine g_seq ?_
    refine g_region ?_
    refine s_q (q_move rfl) rfl ?_
    refine s_q (q_move rfl) rfl ?_
    refine s_q (q_nilck rfl) rfl ?_
    refine s_q (q_field rfl) rfl ?_
    refine s_q (q_load rfl rfl) rfl ?_
    refine s_q (q_nilck rfl) rfl ?_
    refine s_q (q_field rfl) rfl ?_
    refine g_op (g_store rfl rfl rfl rfl rfl rfl rfl ?_)
    refine g_blkc (b := wb) [Value.slice C ((keepE e es).map En.e).length cc, Value.slice D ((keepE e es).map En.i).length dc] (by simp [splice]) ?_
    refine g_nil ?_
    refine g_then ?_
    refine g_seq ?_
    refine g_region ?_
    refine s_q (q_move rfl) rfl ?_
    refine s_q (q_assign rfl) rfl ?_
    refine g_nil ?_
    refine g_then ?_
    refine g_ret ?_
    exact fin1 rfl (.tmp rfl) (fun w' hw' => ⟨(B, bc, C, cc, D, dc), (by first | exact trivial | (dsimp only; exact trivial)), rfl, by have h9 := wok_sub (L' := [Res.row ((B, bc, C, cc, D, dc)).1 (dueO e es).length ((B, bc, C, cc, D, dc)).2.1 3 1 ((dueO e es).map (fun v : Int => [Value.int .i64 v])), Res.blk wb 29 [Value.slice ((B, bc, C, cc, D, dc)).2.2.1 ((keepE e es).map En.e).length ((B, bc, C, cc, D, dc)).2.2.2.1, Value.slice ((B, bc, C, cc, D, dc)).2.2.2.2.1 ((keepE e es).map En.i).length ((B, bc, C, cc, D, dc)).2.2.2.2.2], Res.row ((B, bc, C, cc, D, dc)).2.2.1 ((keepE e es).map En.e).length ((B, bc, C, cc, D, dc)).2.2.2.1 3 1 (((keepE e es).map En.e).map (fun v : Int => [Value.int .i64 v])), Res.row ((B, bc, C, cc, D, dc)).2.2.2.2.1 ((keepE e es).map En.i).length ((B, bc, C, cc, D, dc)).2.2.2.2.2 3 1 (((keepE e es).map En.i).map (fun v : Int => [Value.int .i64 v]))]) w' hw'; exact h9⟩) _ (.inl rfl)

set_option maxHeartbeats 400000 in
theorem rnext_any (wb : Nat) (A0 : Option Addr) (c0 : Nat) (A1 : Option Addr) (c1 : Nat) (es : List En) (w : World) (hw : WOK (fps [Res.blk wb 29 [Value.slice A0 (es.map En.e).length c0, Value.slice A1 (es.map En.i).length c1], Res.row A0 (es.map En.e).length c0 3 1 ((es.map En.e).map (fun v : Int => [Value.int .i64 v])), Res.row A1 (es.map En.i).length c1 3 1 ((es.map En.i).map (fun v : Int => [Value.int .i64 v]))]) w [Res.blk wb 29 [Value.slice A0 (es.map En.e).length c0, Value.slice A1 (es.map En.i).length c1], Res.row A0 (es.map En.e).length c0 3 1 ((es.map En.e).map (fun v : Int => [Value.int .i64 v])), Res.row A1 (es.map En.i).length c1 3 1 ((es.map En.i).map (fun v : Int => [Value.int .i64 v]))] w) (hnE : es.length ≤ 1000000) : Keep Try.prog 14 [.pointer (some ⟨wb, 0, none⟩)] w [Res.blk wb 29 [Value.slice A0 (es.map En.e).length c0, Value.slice A1 (es.map En.i).length c1], Res.row A0 (es.map En.e).length c0 3 1 ((es.map En.e).map (fun v : Int => [Value.int .i64 v])), Res.row A1 (es.map En.i).length c1 3 1 ((es.map En.i).map (fun v : Int => [Value.int .i64 v]))] (.tuple [.int .i64 (nextE es).1, .bool (nextE es).2].toArray) := by
  refine g_start Try.func14 rfl 37 rfl (by simp) (fps [Res.blk wb 29 [Value.slice A0 (es.map En.e).length c0, Value.slice A1 (es.map En.i).length c1], Res.row A0 (es.map En.e).length c0 3 1 ((es.map En.e).map (fun v : Int => [Value.int .i64 v])), Res.row A1 (es.map En.i).length c1 3 1 ((es.map En.i).map (fun v : Int => [Value.int .i64 v]))]) [Res.blk wb 29 [Value.slice A0 (es.map En.e).length c0, Value.slice A1 (es.map En.i).length c1], Res.row A0 (es.map En.e).length c0 3 1 ((es.map En.e).map (fun v : Int => [Value.int .i64 v])), Res.row A1 (es.map En.i).length c1 3 1 ((es.map En.i).map (fun v : Int => [Value.int .i64 v]))] hw _ rfl ?_
  refine g_seq ?_
  refine g_region ?_
  refine s_q (q_assign rfl) rfl ?_
  refine s_q (q_assign rfl) rfl ?_
  refine g_nil ?_
  refine g_then ?_
  refine g_seq ?_
  refine g_seq ?_
  refine g_region ?_
  refine s_q (q_move rfl) rfl ?_
  refine s_q (q_nilck rfl) rfl ?_
  refine s_q (q_field rfl) rfl ?_
  refine s_q (q_load rfl rfl) rfl ?_
  refine s_q (q_len rfl) rfl ?_
  refine s_q (q_eql rfl rfl) rfl ?_
  refine g_nil ?_
  refine g_then ?_
  refine g_cond rfl (fun h1 => ?_) (fun h1 => ?_)
  · have he0 : es = [] := List.length_eq_zero_iff.1 (by have h9 := of_decide_eq_true h1; simp at h9; simpa using h9)
    refine g_seq ?_
    refine g_region ?_
    refine s_q (q_assign rfl) rfl ?_
    refine s_q (q_assign rfl) rfl ?_
    refine g_nil ?_
    refine g_then ?_
    refine g_ret ?_
    refine g_then_ret ?_
    exact fin2 rfl (.tmp rfl) (.tmp rfl) (fun w' hw' => ⟨(), trivial, by subst he0; rfl, by have h9 := wok_sub (L' := [Res.blk wb 29 [Value.slice A0 (es.map En.e).length c0, Value.slice A1 (es.map En.i).length c1], Res.row A0 (es.map En.e).length c0 3 1 ((es.map En.e).map (fun v : Int => [Value.int .i64 v])), Res.row A1 (es.map En.i).length c1 3 1 ((es.map En.i).map (fun v : Int => [Value.int .i64 v]))]) w' hw'; exact h9⟩) _ (.inl rfl)
  · have h0 : 0 < es.length := by have h9 := of_decide_eq_false h1; simp at h9; exact List.length_pos_iff.2 h9
    refine g_skip ?_
    refine g_then ?_
    refine g_seq ?_
    refine g_region ?_
    refine s_q (q_move rfl) rfl ?_
    refine s_q (q_nilck rfl) rfl ?_
    refine s_q (q_field rfl) rfl ?_
    refine s_q (q_load rfl rfl) rfl ?_
    refine s_q (q_index (i := 0) rfl rfl rfl (InRow.rdb (A := A0) (els := ((es.map En.e)).map (fun v : Int => [Value.int .i64 v])) (by first | rfl | assumption | (simp; done) | (simp_all; done) | (simp; omega) | (simp_all; omega)) (map_cat (c := (fun v : Int => [Value.int .i64 v])) (fun _ => rfl) _)) (by first | omega | (simp; done) | (simp; omega))) rfl ?_
    refine s_q (q_load_el (i := 0) (o := 0) rfl (InRow.rdb (A := A0) (els := ((es.map En.e)).map (fun v : Int => [Value.int .i64 v])) (by first | rfl | assumption | (simp; done) | (simp_all; done) | (simp; omega) | (simp_all; omega)) (map_cat (c := (fun v : Int => [Value.int .i64 v])) (fun _ => rfl) _)) (en_get_e (by first | assumption | omega)) rfl rfl) rfl ?_
    refine s_q (q_assign rfl) rfl ?_
    refine g_nil ?_
    refine g_then ?_
    refine g_seq ?_
    refine g_seq ?_
    refine g_region ?_
    refine s_q (q_assign rfl) rfl ?_
    refine g_nil ?_
    refine g_then ?_
    refine g_block ?_
    refine g_loopk [0, 2, 3] (fun (x : Nat × Int) => [(4, .int .i64 x.2), (5, .int .i64 ((x.1 : Nat) : Int))]) (fun (x : Nat × Int) => [Res.blk wb 29 [Value.slice A0 (es.map En.e).length c0, Value.slice A1 (es.map En.i).length c1], Res.row A0 (es.map En.e).length c0 3 1 ((es.map En.e).map (fun v : Int => [Value.int .i64 v])), Res.row A1 (es.map En.i).length c1 3 1 ((es.map En.i).map (fun v : Int => [Value.int .i64 v]))]) (fun (x : Nat × Int) => x.1 ≤ es.length ∧ (x.2, true) = nextE (es.take (max x.1 1))) (fun (x : Nat × Int) => es.length - x.1) (0, (es[0]).e) (by (try dsimp only); exact ⟨(by omega), (by rw [show max 0 1 = 0 + 1 from rfl, ← List.take_append_getElem h0]; simp [nextE, nstep])⟩) rfl (by repeat (first | exact trivial | refine ⟨rfl, ?_⟩)) wok_sub ?_
    rintro ⟨k, n⟩ ⟨hk, hn⟩
    replace hk : k ≤ es.length := hk
    replace hn : (n, true) = nextE (es.take (max k 1)) := hn
    refine g_setL (L' := [Res.blk wb 29 [Value.slice A0 (es.map En.e).length c0, Value.slice A1 (es.map En.i).length c1], Res.row A0 (es.map En.e).length c0 3 1 ((es.map En.e).map (fun v : Int => [Value.int .i64 v])), Res.row A1 (es.map En.i).length c1 3 1 ((es.map En.i).map (fun v : Int => [Value.int .i64 v]))]) rfl ?_
    refine g_val 4 (v' := .int .i64 n) rfl rfl ?_
    refine g_val 5 (v' := .int .i64 ((k : Nat) : Int)) rfl rfl ?_
    refine g_seq ?_
    refine g_seq ?_
    refine g_region ?_
    refine s_q (q_move rfl) rfl ?_
    refine s_q (q_move rfl) rfl ?_
    refine s_q (q_nilck rfl) rfl ?_
    refine s_q (q_field rfl) rfl ?_
    refine s_q (q_load rfl rfl) rfl ?_
    refine s_q (q_len rfl) rfl ?_
    refine s_q (q_lss rfl rfl) rfl ?_
    refine g_nil ?_
    refine g_then ?_
    refine g_cond rfl (fun h2 => ?_) (fun h2 => ?_)
    · have hk1 : k < es.length := by have h9 := of_decide_eq_true h2; simp at h9; omega
      refine g_skip ?_
      refine g_then ?_
      refine g_seq ?_
      refine g_block ?_
      refine g_region ?_
      refine s_q (q_move rfl) rfl ?_
      refine s_q (q_move rfl) rfl ?_
      refine s_q (q_nilck rfl) rfl ?_
      refine s_q (q_field rfl) rfl ?_
      refine s_q (q_load rfl rfl) rfl ?_
      refine s_q (q_move rfl) rfl ?_
      refine s_q (q_index (i := k) rfl rfl rfl (InRow.rdb (A := A0) (els := ((es.map En.e)).map (fun v : Int => [Value.int .i64 v])) (by first | rfl | assumption | (simp; done) | (simp_all; done) | (simp; omega) | (simp_all; omega)) (map_cat (c := (fun v : Int => [Value.int .i64 v])) (fun _ => rfl) _)) (by first | omega | (simp; done) | (simp; omega))) rfl ?_
      refine s_q (q_load_el (i := k) (o := 0) rfl (InRow.rdb (A := A0) (els := ((es.map En.e)).map (fun v : Int => [Value.int .i64 v])) (by first | rfl | assumption | (simp; done) | (simp_all; done) | (simp; omega) | (simp_all; omega)) (map_cat (c := (fun v : Int => [Value.int .i64 v])) (fun _ => rfl) _)) (en_get_e (by first | assumption | omega)) rfl rfl) rfl ?_
      refine s_q (q_min rfl rfl) rfl ?_
      refine s_q (q_assign rfl) rfl ?_
      refine g_nil ?_
      refine g_blk_n ?_
      refine g_then ?_
      refine g_region ?_
      refine s_q (q_move rfl) rfl ?_
      refine s_q (q_inc rfl rfl (by omega)) rfl ?_
      refine s_q (q_assign rfl) rfl ?_
      refine g_nil ?_
      exact g_again ((k + 1), (min n (es[k]).e)) (by (try dsimp only); exact ⟨(by omega), (next_succ hk1 hn)⟩) (by dsimp only; omega) (by repeat (first | exact trivial | refine ⟨rfl, ?_⟩)) wok_sub
    · have hk2 : k = es.length := by have h9 := of_decide_eq_false h2; simp at h9; omega
      have hnn : (n, true) = nextE es := by rw [hk2, show max es.length 1 = es.length from by omega, List.take_length] at hn; exact hn
      refine g_exit ?_
      refine g_then_x (g_then_x (g_blk_hit ?_))
      refine g_then ?_
      refine g_seq ?_
      refine g_region ?_
      refine s_q (q_move rfl) rfl ?_
      refine s_q (q_assign rfl) rfl ?_
      refine s_q (q_assign rfl) rfl ?_
      refine g_nil ?_
      refine g_then ?_
      refine g_ret ?_
      exact fin2 rfl (.tmp rfl) (.tmp rfl) (fun w' hw' => ⟨(), trivial, by rw [← hnn], by have h9 := wok_sub (L' := [Res.blk wb 29 [Value.slice A0 (es.map En.e).length c0, Value.slice A1 (es.map En.i).length c1], Res.row A0 (es.map En.e).length c0 3 1 ((es.map En.e).map (fun v : Int => [Value.int .i64 v])), Res.row A1 (es.map En.i).length c1 3 1 ((es.map En.i).map (fun v : Int => [Value.int .i64 v]))]) w' hw'; exact h9⟩) _ (.inl rfl)

set_option maxHeartbeats 400000 in
theorem rload_any (wb : Nat) (A0 : Option Addr) (c0 : Nat) (A1 : Option Addr) (c1 : Nat) (es : List En) (m : Nat) (q : Int) (w : World) (hw : WOK (fps [Res.blk wb 29 [Value.slice A0 (es.map En.e).length c0, Value.slice A1 (es.map En.i).length c1], Res.row A0 (es.map En.e).length c0 3 1 ((es.map En.e).map (fun v : Int => [Value.int .i64 v])), Res.row A1 (es.map En.i).length c1 3 1 ((es.map En.i).map (fun v : Int => [Value.int .i64 v]))]) w [Res.blk wb 29 [Value.slice A0 (es.map En.e).length c0, Value.slice A1 (es.map En.i).length c1], Res.row A0 (es.map En.e).length c0 3 1 ((es.map En.e).map (fun v : Int => [Value.int .i64 v])), Res.row A1 (es.map En.i).length c1 3 1 ((es.map En.i).map (fun v : Int => [Value.int .i64 v]))] w) (hnE : es.length ≤ 1000000) (hm : 0 < m) (hok : ∀ x ∈ es, 0 ≤ x.e ∧ x.e ≤ 1099511627776) : Keep Try.prog 16 [.pointer (some ⟨wb, 0, none⟩), .int .i64 (m : Int), .int .i64 q] w [Res.blk wb 29 [Value.slice A0 (es.map En.e).length c0, Value.slice A1 (es.map En.i).length c1], Res.row A0 (es.map En.e).length c0 3 1 ((es.map En.e).map (fun v : Int => [Value.int .i64 v])), Res.row A1 (es.map En.i).length c1 3 1 ((es.map En.i).map (fun v : Int => [Value.int .i64 v]))] (.int .i64 (((es.filter (fun x => decide (x.e % (m : Int) = q))).length : Nat) : Int)) := by
  refine g_start Try.func16 rfl 32 rfl (by simp) (fps [Res.blk wb 29 [Value.slice A0 (es.map En.e).length c0, Value.slice A1 (es.map En.i).length c1], Res.row A0 (es.map En.e).length c0 3 1 ((es.map En.e).map (fun v : Int => [Value.int .i64 v])), Res.row A1 (es.map En.i).length c1 3 1 ((es.map En.i).map (fun v : Int => [Value.int .i64 v]))]) [Res.blk wb 29 [Value.slice A0 (es.map En.e).length c0, Value.slice A1 (es.map En.i).length c1], Res.row A0 (es.map En.e).length c0 3 1 ((es.map En.e).map (fun v : Int => [Value.int .i64 v])), Res.row A1 (es.map En.i).length c1 3 1 ((es.map En.i).map (fun v : Int => [Value.int .i64 v]))] hw _ rfl ?_
  refine g_seq ?_
  refine g_region ?_
  refine s_q (q_assign rfl) rfl ?_
  refine g_nil ?_
  refine g_then ?_
  refine g_seq ?_
  refine g_region ?_
  refine s_q (q_assign rfl) rfl ?_
  refine g_nil ?_
  refine g_then ?_
  refine g_seq ?_
  refine g_seq ?_
  refine g_region ?_
  refine s_q (q_assign rfl) rfl ?_
  refine g_nil ?_
  refine g_then ?_
  refine g_block ?_
  refine g_loopk [0, 1, 2, 6] (fun (x : Nat × Nat) => [(7, .int .i64 ((x.2 : Nat) : Int)), (8, .int .i64 ((x.1 : Nat) : Int))]) (fun (x : Nat × Nat) => [Res.blk wb 29 [Value.slice A0 (es.map En.e).length c0, Value.slice A1 (es.map En.i).length c1], Res.row A0 (es.map En.e).length c0 3 1 ((es.map En.e).map (fun v : Int => [Value.int .i64 v])), Res.row A1 (es.map En.i).length c1 3 1 ((es.map En.i).map (fun v : Int => [Value.int .i64 v]))]) (fun (x : Nat × Nat) => x.1 ≤ es.length ∧ x.2 = ((es.take x.1).filter (fun x => decide (x.e % (m : Int) = q))).length) (fun (x : Nat × Nat) => es.length - x.1) (0, 0) (by (try dsimp only); exact ⟨(by omega), rfl⟩) rfl (by repeat (first | exact trivial | refine ⟨rfl, ?_⟩)) wok_sub ?_
  rintro ⟨k, n⟩ ⟨hk, hn⟩
  replace hk : k ≤ es.length := hk
  replace hn : n = ((es.take k).filter (fun x => decide (x.e % (m : Int) = q))).length := hn
  refine g_setL (L' := [Res.blk wb 29 [Value.slice A0 (es.map En.e).length c0, Value.slice A1 (es.map En.i).length c1], Res.row A0 (es.map En.e).length c0 3 1 ((es.map En.e).map (fun v : Int => [Value.int .i64 v])), Res.row A1 (es.map En.i).length c1 3 1 ((es.map En.i).map (fun v : Int => [Value.int .i64 v]))]) rfl ?_
  refine g_val 7 (v' := .int .i64 ((n : Nat) : Int)) rfl rfl ?_
  refine g_val 8 (v' := .int .i64 ((k : Nat) : Int)) rfl rfl ?_
  have hnk : n ≤ k := by rw [hn]; exact Nat.le_trans (List.length_filter_le _ _) (by simp; omega)
  refine g_seq ?_
  refine g_seq ?_
  refine g_region ?_
  refine s_q (q_move rfl) rfl ?_
  refine s_q (q_move rfl) rfl ?_
  refine s_q (q_nilck rfl) rfl ?_
  refine s_q (q_field rfl) rfl ?_
  refine s_q (q_load rfl rfl) rfl ?_
  refine s_q (q_len rfl) rfl ?_
  refine s_q (q_lss rfl rfl) rfl ?_
  refine g_nil ?_
  refine g_then ?_
  refine g_cond rfl (fun h1 => ?_) (fun h1 => ?_)
  · have hk1 : k < es.length := by have h9 := of_decide_eq_true h1; simp at h9; omega
    refine g_skip ?_
    refine g_then ?_
    refine g_seq ?_
    refine g_block ?_
    refine g_seq ?_
    refine g_region ?_
    refine s_q (q_move rfl) rfl ?_
    refine s_q (q_nilck rfl) rfl ?_
    refine s_q (q_field rfl) rfl ?_
    refine s_q (q_load rfl rfl) rfl ?_
    refine s_q (q_move rfl) rfl ?_
    refine s_q (q_index (i := k) rfl rfl rfl (InRow.rdb (A := A0) (els := ((es.map En.e)).map (fun v : Int => [Value.int .i64 v])) (by first | rfl | assumption | (simp; done) | (simp_all; done) | (simp; omega) | (simp_all; omega)) (map_cat (c := (fun v : Int => [Value.int .i64 v])) (fun _ => rfl) _)) (by first | omega | (simp; done) | (simp; omega))) rfl ?_
    refine s_q (q_load_el (i := k) (o := 0) rfl (InRow.rdb (A := A0) (els := ((es.map En.e)).map (fun v : Int => [Value.int .i64 v])) (by first | rfl | assumption | (simp; done) | (simp_all; done) | (simp; omega) | (simp_all; omega)) (map_cat (c := (fun v : Int => [Value.int .i64 v])) (fun _ => rfl) _)) (en_get_e (by first | assumption | omega)) rfl rfl) rfl ?_
    refine s_q (q_move rfl) rfl ?_
    refine s_q (q_rem rfl rfl (by omega)) rfl ?_
    refine g_val 26 (v' := .int .i64 ((es[k]).e % (m : Int))) rfl (by rw [Int.tmod_eq_emod_of_nonneg (hok _ (List.getElem_mem _)).1]) ?_
    refine s_q (q_move rfl) rfl ?_
    refine s_q (q_eql rfl rfl) rfl ?_
    refine g_nil ?_
    refine g_then ?_
    refine g_cond rfl (fun h2 => ?_) (fun h2 => ?_)
    · have heq : (es[k]).e % (m : Int) = q := of_decide_eq_true h2
      refine g_region ?_
      refine s_q (q_move rfl) rfl ?_
      refine s_q (q_inc rfl rfl (by omega)) rfl ?_
      refine s_q (q_assign rfl) rfl ?_
      refine g_nil ?_
      refine g_blk_n ?_
      refine g_then ?_
      refine g_region ?_
      refine s_q (q_move rfl) rfl ?_
      refine s_q (q_inc rfl rfl (by omega)) rfl ?_
      refine s_q (q_assign rfl) rfl ?_
      refine g_nil ?_
      exact g_again ((k + 1), (n + 1)) (by (try dsimp only); exact ⟨(by omega), (by rw [cnt_succ hk1, if_pos (decide_eq_true heq), hn])⟩) (by dsimp only; omega) (by repeat (first | exact trivial | refine ⟨rfl, ?_⟩)) wok_sub
    · have hne : ¬ (es[k]).e % (m : Int) = q := of_decide_eq_false h2
      refine g_skip ?_
      refine g_blk_n ?_
      refine g_then ?_
      refine g_region ?_
      refine s_q (q_move rfl) rfl ?_
      refine s_q (q_inc rfl rfl (by omega)) rfl ?_
      refine s_q (q_assign rfl) rfl ?_
      refine g_nil ?_
      exact g_again ((k + 1), n) (by (try dsimp only); exact ⟨(by omega), (by rw [cnt_succ hk1, if_neg (by simpa using hne), hn, Nat.add_zero])⟩) (by dsimp only; omega) (by repeat (first | exact trivial | refine ⟨rfl, ?_⟩)) wok_sub
  · have hk2 : k = es.length := by have h9 := of_decide_eq_false h1; simp at h9; omega
    rw [hk2, List.take_length] at hn
    refine g_exit ?_
    refine g_then_x (g_then_x (g_blk_hit ?_))
    refine g_then ?_
    refine g_seq ?_
    refine g_region ?_
    refine s_q (q_move rfl) rfl ?_
    refine s_q (q_assign rfl) rfl ?_
    refine g_nil ?_
    refine g_then ?_
    refine g_ret ?_
    exact fin1 rfl (.tmp rfl) (fun w' hw' => ⟨(), trivial, by rw [hn], by have h9 := wok_sub (L' := [Res.blk wb 29 [Value.slice A0 (es.map En.e).length c0, Value.slice A1 (es.map En.i).length c1], Res.row A0 (es.map En.e).length c0 3 1 ((es.map En.e).map (fun v : Int => [Value.int .i64 v])), Res.row A1 (es.map En.i).length c1 3 1 ((es.map En.i).map (fun v : Int => [Value.int .i64 v]))]) w' hw'; exact h9⟩) _ (.inl rfl)
end Go.Proofs.Ytgbghjnlicldnaa
