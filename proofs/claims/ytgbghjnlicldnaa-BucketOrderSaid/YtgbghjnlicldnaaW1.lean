/- walks of the removal of entries -/
import Derived.Test.YtgbghjnlicldnaaO
import Derived.Test.YtgbghjnlicldnaaZ
import Derived.Test.YtgbghjnlicldnaaR
namespace Go.Proofs.Ytgbghjnlicldnaa
open Go.RowKit Go.Eg
set_option synthInstance.maxSize 3000
set_option linter.unusedSimpArgs false
set_option linter.unusedVariables false
set_option maxRecDepth 100000
def dueO (ep : Int) (l : List En) : List Int := (l.filter fun x => decide (x.e = ep)).map En.i
def keepE (ep : Int) (l : List En) : List En := l.filter fun x => !decide (x.e = ep)
theorem dueO_app (ep : Int) (a b : List En) : dueO ep (a ++ b) = dueO ep a ++ dueO ep b := by simp [dueO]
theorem keepE_app (ep : Int) (a b : List En) : keepE ep (a ++ b) = keepE ep a ++ keepE ep b := by simp [keepE]
theorem dueO_yes {ep : Int} {y : En} (h : y.e = ep) : dueO ep [y] = [y.i] := by simp [dueO, h]
theorem dueO_no {ep : Int} {y : En} (h : ¬ y.e = ep) : dueO ep [y] = [] := by simp [dueO, h]
theorem keepE_yes {ep : Int} {y : En} (h : y.e = ep) : keepE ep [y] = [] := by simp [keepE, h]
theorem keepE_no {ep : Int} {y : En} (h : ¬ y.e = ep) : keepE ep [y] = [y] := by simp [keepE, h]
theorem dueO_le (ep : Int) (l : List En) : (dueO ep l).length ≤ l.length := by simpa [dueO] using List.length_filter_le _ l
theorem keepE_le (ep : Int) (l : List En) : (keepE ep l).length ≤ l.length := List.length_filter_le _ l
theorem due_keep (ep : Int) : ∀ l : List En, (dueO ep l).length + (keepE ep l).length = l.length
  | [] => rfl
  | y :: l => by
    have ih := due_keep ep l
    have e1 := dueO_app ep [y] l
    have e2 := keepE_app ep [y] l
    simp only [List.singleton_append] at e1 e2
    rw [e1, e2]
    by_cases h : y.e = ep
    · rw [dueO_yes h, keepE_yes h]; simp; omega
    · rw [dueO_no h, keepE_no h]; simp; omega
theorem dueO_none {ep : Int} {l : List En} (h : ∀ y ∈ l, ¬ y.e = ep) : dueO ep l = [] := by
  unfold dueO; rw [List.filter_eq_nil_iff.2 fun y hy => by simp [h y hy]]; rfl
theorem keepE_all {ep : Int} {l : List En} (h : ∀ y ∈ l, ¬ y.e = ep) : keepE ep l = l := List.filter_eq_self.2 fun y hy => by simp [h y hy]
theorem dueO_succ (ep : Int) {l : List En} {j : Nat} (h : j < l.length) : dueO ep (l.take j) ++ dueO ep [l[j]] = dueO ep (l.take (j + 1)) := by rw [← dueO_app, List.take_append_getElem h]
theorem keepE_succ (ep : Int) {l : List En} {j : Nat} (h : j < l.length) : keepE ep (l.take (j + 1)) = keepE ep (l.take j) ++ keepE ep [l[j]] := by rw [← keepE_app, List.take_append_getElem h]
theorem drop_get {α : Type} {s l : List α} {j : Nat} (h : s.drop j = l.drop j) (h1 : j < s.length) (h2 : j < l.length) : s[j] = l[j] ∧ s.drop (j + 1) = l.drop (j + 1) := by
  rw [List.drop_eq_getElem_cons h1, List.drop_eq_getElem_cons h2] at h
  injection h with h3 h4
  exact ⟨h3, h4⟩
theorem del_keep {ep : Int} {s l : List En} {i j : Nat} (hij : i < j) (hs : j < s.length) (hj : j < l.length) (htk : s.take i = keepE ep (l.take j)) (hdr : s.drop j = l.drop j) (h0 : ¬ s[j].e = ep) :
    (s.set i s[j]).take (i + 1) = keepE ep (l.take (j + 1)) ∧ (s.set i s[j]).drop (j + 1) = l.drop (j + 1) := by
  obtain ⟨h1, h2⟩ := drop_get hdr hs hj
  constructor
  · rw [keepE_succ ep hj, ← h1, keepE_no h0, ← htk, List.set_eq_take_append_cons_drop, if_pos (by omega), show s.take i ++ s[j] :: s.drop (i + 1) = (s.take i ++ [s[j]]) ++ s.drop (i + 1) by simp]
    exact List.take_left' (by simp; omega)
  · rw [List.drop_set_of_lt (by omega)]; exact h2
theorem del_drop {ep : Int} {s l : List En} {i j : Nat} (hs : j < s.length) (hj : j < l.length) (htk : s.take i = keepE ep (l.take j)) (hdr : s.drop j = l.drop j) (h0 : s[j].e = ep) : s.take i = keepE ep (l.take (j + 1)) ∧ s.drop (j + 1) = l.drop (j + 1) := by
  obtain ⟨h1, h2⟩ := drop_get hdr hs hj
  exact ⟨by rw [keepE_succ ep hj, ← h1, keepE_yes h0, List.append_nil]; exact htk, h2⟩
theorem keep_pre {ep : Int} {l : List En} {i : Nat} (hi : i < l.length) (hp : ∀ y ∈ l.take i, ¬ y.e = ep) (ha : (l[i]?.map En.e) = some ep) : l.take i = keepE ep (l.take (i + 1)) := by
  have h0 : l[i].e = ep := by rw [List.getElem?_eq_getElem hi] at ha; simpa using ha
  rw [keepE_succ ep hi, keepE_yes h0, List.append_nil]
  exact (keepE_all hp).symm
theorem bk_get {bs : List (Bk En)} {i : Nat} {A : Option Addr} {c : Nat} {els : List En} (h : bs[i]? = some ⟨A, c, els⟩) : (bs.map fun k : Bk En => [k.v])[i]? = some [Value.slice A els.length c] := by
  rw [List.getElem?_map, h]; rfl

set_option maxHeartbeats 400000 in
theorem due1_any (eb ob : Nat) (ep : Int) (A : Option Addr) (cap : Nat) (o : List Int) (y : En) (w : World) (hw : WOK (fps [Res.blk eb 3 [Value.int .i64 (ep)], Res.blk ob 27 [Value.slice A (o).length cap], Res.row A (o).length cap 3 1 ((o).map (fun v : Int => [Value.int .i64 v]))]) w [Res.blk eb 3 [Value.int .i64 (ep)], Res.blk ob 27 [Value.slice A (o).length cap], Res.row A (o).length cap 3 1 ((o).map (fun v : Int => [Value.int .i64 v]))] w) (hob : o.length ≤ 1000000) : Own2 (ι := (Option Addr × Nat)) Try.prog 29 [.agg y.c.toArray, .pointer (some ⟨eb, 0, none⟩), .pointer (some ⟨ob, 0, none⟩)] w [Res.blk eb 3 [Value.int .i64 (ep)], Res.blk ob 27 [Value.slice A (o).length cap], Res.row A (o).length cap 3 1 ((o).map (fun v : Int => [Value.int .i64 v]))] (fun x => True) (fun x => .bool (decide (y.e = ep))) (fun x => []) (fun x => [Res.blk eb 3 [Value.int .i64 (ep)], Res.blk ob 27 [Value.slice x.1 ((o ++ dueO ep [y])).length x.2], Res.row x.1 ((o ++ dueO ep [y])).length x.2 3 1 (((o ++ dueO ep [y])).map (fun v : Int => [Value.int .i64 v]))]) := by
  refine g_start Try.func29 rfl 14 rfl (by simp) (fps [Res.blk eb 3 [Value.int .i64 (ep)], Res.blk ob 27 [Value.slice A (o).length cap], Res.row A (o).length cap 3 1 ((o).map (fun v : Int => [Value.int .i64 v]))]) [Res.blk eb 3 [Value.int .i64 (ep)], Res.blk ob 27 [Value.slice A (o).length cap], Res.row A (o).length cap 3 1 ((o).map (fun v : Int => [Value.int .i64 v]))] hw _ rfl ?_
  refine g_seq ?_
  refine g_region ?_
  refine g_op (g_box rfl rfl rfl fun b3 => ?_)
  refine s_q (q_assign rfl) rfl ?_
  refine g_nil ?_
  refine g_then ?_
  refine g_seq ?_
  refine g_seq ?_
  refine g_region ?_
  refine s_q (q_field rfl) rfl ?_
  refine s_q (q_load rfl rfl) rfl ?_
  refine s_q (q_load rfl rfl) rfl ?_
  refine s_q (q_neq rfl rfl) rfl ?_
  refine g_nil ?_
  refine g_then ?_
  refine g_cond rfl (fun h1 => ?_) (fun h1 => ?_)
  · have hne : ¬ y.e = ep := by simpa using h1
    refine g_seq ?_
    refine g_region ?_
    refine s_q (q_assign rfl) rfl ?_
    refine g_nil ?_
    refine g_then ?_
    refine g_ret ?_
    refine g_then_ret ?_
    exact fin1 rfl (.tmp rfl) (fun w' hw' => ⟨(A, cap), (by first | exact trivial | (dsimp only; exact trivial)), by rw [decide_eq_false hne], by have h9 := wok_sub (L' := [Res.blk eb 3 [Value.int .i64 (ep)], Res.blk ob 27 [Value.slice A (o).length cap], Res.row A (o).length cap 3 1 ((o).map (fun v : Int => [Value.int .i64 v]))]) w' hw'; show WOK _ _ [Res.blk eb 3 [Value.int .i64 (ep)], Res.blk ob 27 [Value.slice ((A, cap)).1 ((o ++ dueO ep [y])).length ((A, cap)).2], Res.row ((A, cap)).1 ((o ++ dueO ep [y])).length ((A, cap)).2 3 1 (((o ++ dueO ep [y])).map (fun v : Int => [Value.int .i64 v]))] _; simp only [dueO_no hne, List.append_nil]; exact h9⟩) _ (.inl rfl)
  · have heq : y.e = ep := by simpa using h1
    refine g_skip ?_
    refine g_then ?_
    refine g_seq ?_
    refine g_region ?_
    refine s_q (q_load rfl rfl) rfl ?_
    refine s_q (q_field rfl) rfl ?_
    refine s_q (q_load rfl rfl) rfl ?_
    refine g_op (g_lit rfl rfl rfl rfl rfl fun b12 => ?_)
    refine g_blkc (b := b12) ((([(y).i] : List Int).map (fun v : Int => [Value.int .i64 v])).flatten) rfl ?_
    refine g_op (g_append (A := A) (els := (o).map (fun v : Int => [Value.int .i64 v])) (news := (([(y).i] : List Int).map (fun v : Int => [Value.int .i64 v]))) rfl rfl (InL.rdb (b := b12) rfl (by simp) rfl) (map_one (c := (fun v : Int => [Value.int .i64 v])) (by intro x; simp [Value.oneCell']) _) (by omega) rfl fun A13 cap13 => ⟨_, inferInstance, ?_⟩)
    refine g_rowels (A := A13) (((o ++ [(y).i])).map (fun v : Int => [Value.int .i64 v])) (by first | rfl | exact List.map_append.symm | (simp; done)) ?_
    refine g_op (g_store rfl rfl rfl rfl rfl rfl rfl ?_)
    refine g_rown (A := A13) (o ++ [y.i]).length (by simp) ?_
    refine g_blkc (b := ob) [Value.slice A13 (o ++ [y.i]).length cap13] (by simp [splice]) ?_
    refine g_nil ?_
    refine g_then ?_
    refine g_seq ?_
    refine g_region ?_
    refine s_q (q_assign rfl) rfl ?_
    refine g_nil ?_
    refine g_then ?_
    refine g_ret ?_
    exact fin1 rfl (.tmp rfl) (fun w' hw' => ⟨(A13, cap13), (by first | exact trivial | (dsimp only; exact trivial)), by rw [decide_eq_true heq], by have h9 := wok_sub (L' := [Res.blk eb 3 [Value.int .i64 (ep)], Res.blk ob 27 [Value.slice A13 ((o ++ [y.i])).length cap13], Res.row A13 ((o ++ [y.i])).length cap13 3 1 (((o ++ [y.i])).map (fun v : Int => [Value.int .i64 v]))]) w' hw'; show WOK _ _ [Res.blk eb 3 [Value.int .i64 (ep)], Res.blk ob 27 [Value.slice ((A13, cap13)).1 ((o ++ dueO ep [y])).length ((A13, cap13)).2], Res.row ((A13, cap13)).1 ((o ++ dueO ep [y])).length ((A13, cap13)).2 3 1 (((o ++ dueO ep [y])).map (fun v : Int => [Value.int .i64 v]))] _; simp only [dueO_yes heq]; exact h9⟩) _ (.inl rfl)

set_option maxHeartbeats 400000 in
theorem index_any (eb ob : Nat) (ep : Int) (O : Option Addr) (oc : Nat) (o : List Int) (A : Option Addr) (n cap : Nat) (l : List En) (w : World) (hw : WOK (fps [Res.row A n cap 50 2 ((l).map En.c), Res.blk eb 3 [Value.int .i64 (ep)], Res.blk ob 27 [Value.slice O (o).length oc], Res.row O (o).length oc 3 1 ((o).map (fun v : Int => [Value.int .i64 v]))]) w [Res.row A n cap 50 2 ((l).map En.c), Res.blk eb 3 [Value.int .i64 (ep)], Res.blk ob 27 [Value.slice O (o).length oc], Res.row O (o).length oc 3 1 ((o).map (fun v : Int => [Value.int .i64 v]))] w) (hn : n = l.length) (hcap : o.length + n ≤ 1000000) : Own2 (ι := (Int × Option Addr × Nat × List Int)) Try.prog 35 [.slice A n cap, .func (.func 29) #[] [Value.pointer (some ⟨eb, 0, none⟩), Value.pointer (some ⟨ob, 0, none⟩)].toArray] w [Res.row A n cap 50 2 ((l).map En.c), Res.blk eb 3 [Value.int .i64 (ep)], Res.blk ob 27 [Value.slice O (o).length oc], Res.row O (o).length oc 3 1 ((o).map (fun v : Int => [Value.int .i64 v]))] (fun x => ((x.1 = -1 ∧ (∀ y ∈ l, ¬ y.e = ep)) ∧ x.2.2.2 = o ++ dueO ep l) ∨ (∃ k : Nat, x.1 = k ∧ k < l.length ∧ (∀ y ∈ l.take k, ¬ y.e = ep) ∧ (l[k]?.map En.e) = some ep ∧ x.2.2.2 = o ++ dueO ep (l.take (k + 1)))) (fun x => .int .i64 x.1) (fun x => []) (fun x => [Res.row A n cap 50 2 ((l).map En.c), Res.blk eb 3 [Value.int .i64 (ep)], Res.blk ob 27 [Value.slice x.2.1 (x.2.2.2).length x.2.2.1], Res.row x.2.1 (x.2.2.2).length x.2.2.1 3 1 ((x.2.2.2).map (fun v : Int => [Value.int .i64 v]))]) := by
  refine g_start Try.func35 rfl 19 rfl (by simp) (fps [Res.row A n cap 50 2 ((l).map En.c), Res.blk eb 3 [Value.int .i64 (ep)], Res.blk ob 27 [Value.slice O (o).length oc], Res.row O (o).length oc 3 1 ((o).map (fun v : Int => [Value.int .i64 v]))]) [Res.row A n cap 50 2 ((l).map En.c), Res.blk eb 3 [Value.int .i64 (ep)], Res.blk ob 27 [Value.slice O (o).length oc], Res.row O (o).length oc 3 1 ((o).map (fun v : Int => [Value.int .i64 v]))] hw _ rfl ?_
  refine g_seq ?_
  refine g_region ?_
  refine s_q (q_assign rfl) rfl ?_
  refine g_nil ?_
  refine g_then ?_
  refine g_seq ?_
  refine g_seq ?_
  refine g_region ?_
  refine s_q (q_move rfl) rfl ?_
  refine s_q (q_len rfl) rfl ?_
  refine s_q (q_move rfl) rfl ?_
  refine g_nil ?_
  refine g_then ?_
  refine g_block ?_
  refine g_loopk [0, 1, 4, 7] (fun (x : Nat × Option Addr × Nat × List Int) => [(8, .int .i64 ((x.1 : Nat) : Int))]) (fun (x : Nat × Option Addr × Nat × List Int) => [Res.row A n cap 50 2 ((l).map En.c), Res.blk eb 3 [Value.int .i64 (ep)], Res.blk ob 27 [Value.slice x.2.1 (x.2.2.2).length x.2.2.1], Res.row x.2.1 (x.2.2.2).length x.2.2.1 3 1 ((x.2.2.2).map (fun v : Int => [Value.int .i64 v]))]) (fun (x : Nat × Option Addr × Nat × List Int) => x.1 ≤ l.length ∧ x.2.2.2 = o ++ dueO ep (l.take x.1) ∧ (∀ y ∈ l.take x.1, ¬ y.e = ep)) (fun (x : Nat × Option Addr × Nat × List Int) => l.length - x.1) (0, O, oc, o) (by (try dsimp only); exact ⟨Nat.zero_le _, (by simp [dueO]), (by simp)⟩) rfl (by repeat (first | exact trivial | refine ⟨rfl, ?_⟩)) wok_sub ?_
  rintro ⟨k, O1, oc1, o1⟩ ⟨le_k, ho, hz⟩
  replace le_k : k ≤ l.length := le_k
  replace ho : o1 = o ++ dueO ep (l.take k) := ho
  replace hz : ∀ y ∈ l.take k, ¬ y.e = ep := hz
  refine g_setL (L' := [Res.row A n cap 50 2 ((l).map En.c), Res.blk eb 3 [Value.int .i64 (ep)], Res.blk ob 27 [Value.slice O1 (o1).length oc1], Res.row O1 (o1).length oc1 3 1 ((o1).map (fun v : Int => [Value.int .i64 v]))]) rfl ?_
  refine g_val 8 (v' := .int .i64 ((k : Nat) : Int)) rfl rfl ?_
  refine g_seq ?_
  refine g_region ?_
  refine s_q (q_lss rfl rfl) rfl ?_
  refine g_nil ?_
  refine g_then ?_
  refine g_seq ?_
  refine g_cond rfl (fun h1 => ?_) (fun h1 => ?_)
  · have lt_k : k < l.length := by have h9 := of_decide_eq_true h1; omega
    refine g_skip ?_
    refine g_then ?_
    refine g_seq ?_
    refine g_block ?_
    refine g_seq ?_
    refine g_region ?_
    refine s_q (q_move rfl) rfl ?_
    refine s_q (q_assign rfl) rfl ?_
    refine g_nil ?_
    refine g_then ?_
    refine g_seq ?_
    refine g_region ?_
    refine s_q (q_move rfl) rfl ?_
    refine s_q (q_move rfl) rfl ?_
    refine s_q (q_move rfl) rfl ?_
    refine s_q (q_index (i := k) rfl rfl rfl (InRow.rdb (A := A) (els := l.map En.c) (by simpa using hn) (map_cat (c := En.c) (fun _ => rfl) _)) (by first | exact lt_k | omega)) rfl ?_
    refine s_q (q_load_ew (i := k) rfl (InRow.rdb (A := A) (els := l.map En.c) (by simpa using hn) (map_cat (c := En.c) (fun _ => rfl) _)) (map_get (by first | exact (by first | exact lt_k | omega) | omega | (simp_all; done) | (simp_all; omega))) rfl) rfl ?_
    refine g_op (g_ownV [Res.blk eb 3 [Value.int .i64 (ep)], Res.blk ob 27 [Value.slice O1 (o1).length oc1], Res.row O1 (o1).length oc1 3 1 ((o1).map (fun v : Int => [Value.int .i64 v]))] rfl rfl (fun w1 hw1 ho1 => by have h7 := due1_any eb ob ep O1 oc1 o1 (l[k]) w1 ho1 (by rw [ho]; have h9 := dueO_le ep (l.take k); simp at h9 ⊢; omega); exact h7) rfl ?_)
    rintro ⟨O16, oc16⟩ _
    refine ⟨_, _, inferInstance, inferInstance, ?_⟩
    refine g_nil ?_
    refine g_then ?_
    refine g_cond rfl (fun h2 => ?_) (fun h2 => ?_)
    · have heq : l[k].e = ep := by simpa using h2
      refine g_seq ?_
      refine g_region ?_
      refine s_q (q_move rfl) rfl ?_
      refine s_q (q_assign rfl) rfl ?_
      refine g_nil ?_
      refine g_then ?_
      refine g_ret ?_
      refine g_blk_ret (g_then_ret (g_then_ret (g_blk_ret (g_then_ret ?_))))
      exact fin1 rfl (.tmp rfl) (fun w' hw' => ⟨(((k : Nat) : Int), O16, oc16, (o1 ++ dueO ep [l[k]])), (by first | exact .inr ⟨k, rfl, lt_k, hz, by rw [List.getElem?_eq_getElem lt_k]; simp [heq], by rw [ho, List.append_assoc, dueO_succ ep lt_k]⟩ | (dsimp only; exact .inr ⟨k, rfl, lt_k, hz, by rw [List.getElem?_eq_getElem lt_k]; simp [heq], by rw [ho, List.append_assoc, dueO_succ ep lt_k]⟩)), rfl, by have h9 := wok_sub (L' := [Res.row A n cap 50 2 ((l).map En.c), Res.blk eb 3 [Value.int .i64 (ep)], Res.blk ob 27 [Value.slice ((((k : Nat) : Int), O16, oc16, (o1 ++ dueO ep [l[k]]))).2.1 (((((k : Nat) : Int), O16, oc16, (o1 ++ dueO ep [l[k]]))).2.2.2).length ((((k : Nat) : Int), O16, oc16, (o1 ++ dueO ep [l[k]]))).2.2.1], Res.row ((((k : Nat) : Int), O16, oc16, (o1 ++ dueO ep [l[k]]))).2.1 (((((k : Nat) : Int), O16, oc16, (o1 ++ dueO ep [l[k]]))).2.2.2).length ((((k : Nat) : Int), O16, oc16, (o1 ++ dueO ep [l[k]]))).2.2.1 3 1 ((((((k : Nat) : Int), O16, oc16, (o1 ++ dueO ep [l[k]]))).2.2.2).map (fun v : Int => [Value.int .i64 v]))]) w' hw'; exact h9⟩) _ (.inl rfl)
    · have hne : ¬ l[k].e = ep := by simpa using h2
      refine g_skip ?_
      refine g_blk_n ?_
      refine g_then ?_
      refine g_region ?_
      refine s_q (q_inc rfl rfl (by omega)) rfl ?_
      refine s_q (q_move rfl) rfl ?_
      refine g_nil ?_
      exact g_again ((k + 1), O16, oc16, (o1 ++ dueO ep [l[k]])) (by (try dsimp only); exact ⟨(by first | exact lt_k | omega), (by rw [ho, List.append_assoc, dueO_succ ep lt_k]), (by rw [← List.take_append_getElem lt_k]; intro y hy; rcases List.mem_append.1 hy with h | h; exact hz y h; simp at h; subst h; exact hne)⟩) (by first | omega | (simp only; omega)) (by repeat (first | exact trivial | refine ⟨rfl, ?_⟩)) wok_sub
  · have eq_k : k = l.length := by have h9 := of_decide_eq_false h1; omega
    refine g_exit ?_
    refine g_then_x (g_then_x (g_blk_hit ?_))
    refine g_then ?_
    refine g_seq ?_
    refine g_region ?_
    refine s_q (q_assign rfl) rfl ?_
    refine g_nil ?_
    refine g_then ?_
    refine g_ret ?_
    exact fin1 rfl (.tmp rfl) (fun w' hw' => ⟨((-1 : Int), O1, oc1, o1), (by first | exact .inl ⟨⟨rfl, by rw [eq_k, List.take_length] at hz; exact hz⟩, by rw [ho, eq_k, List.take_length]⟩ | (dsimp only; exact .inl ⟨⟨rfl, by rw [eq_k, List.take_length] at hz; exact hz⟩, by rw [ho, eq_k, List.take_length]⟩)), rfl, by have h9 := wok_sub (L' := [Res.row A n cap 50 2 ((l).map En.c), Res.blk eb 3 [Value.int .i64 (ep)], Res.blk ob 27 [Value.slice (((-1 : Int), O1, oc1, o1)).2.1 ((((-1 : Int), O1, oc1, o1)).2.2.2).length (((-1 : Int), O1, oc1, o1)).2.2.1], Res.row (((-1 : Int), O1, oc1, o1)).2.1 ((((-1 : Int), O1, oc1, o1)).2.2.2).length (((-1 : Int), O1, oc1, o1)).2.2.1 3 1 (((((-1 : Int), O1, oc1, o1)).2.2.2).map (fun v : Int => [Value.int .i64 v]))]) w' hw'; exact h9⟩) _ (.inl rfl)

set_option maxHeartbeats 400000 in
theorem delete_any (eb ob : Nat) (ep : Int) (O : Option Addr) (oc : Nat) (o : List Int) (A : Option Addr) (n cap : Nat) (l : List En) (w : World) (hw : WOK (fps [Res.row A n cap 50 2 ((l).map En.c), Res.blk eb 3 [Value.int .i64 (ep)], Res.blk ob 27 [Value.slice O (o).length oc], Res.row O (o).length oc 3 1 ((o).map (fun v : Int => [Value.int .i64 v]))]) w [Res.row A n cap 50 2 ((l).map En.c), Res.blk eb 3 [Value.int .i64 (ep)], Res.blk ob 27 [Value.slice O (o).length oc], Res.row O (o).length oc 3 1 ((o).map (fun v : Int => [Value.int .i64 v]))] w) (hn : n = l.length) (hcap : o.length + n ≤ 1000000) : Own2 (ι := (Option Addr × Nat × Option Addr × Nat)) Try.prog 28 [.slice A n cap, .func (.func 29) #[] [Value.pointer (some ⟨eb, 0, none⟩), Value.pointer (some ⟨ob, 0, none⟩)].toArray] w [Res.row A n cap 50 2 ((l).map En.c), Res.blk eb 3 [Value.int .i64 (ep)], Res.blk ob 27 [Value.slice O (o).length oc], Res.row O (o).length oc 3 1 ((o).map (fun v : Int => [Value.int .i64 v]))] (fun x => True) (fun x => .slice x.1 (keepE ep l).length x.2.1) (fun x => []) (fun x => [Res.row x.1 (keepE ep l).length x.2.1 50 2 (((keepE ep l)).map En.c), Res.blk eb 3 [Value.int .i64 (ep)], Res.blk ob 27 [Value.slice x.2.2.1 ((o ++ dueO ep l)).length x.2.2.2], Res.row x.2.2.1 ((o ++ dueO ep l)).length x.2.2.2 3 1 (((o ++ dueO ep l)).map (fun v : Int => [Value.int .i64 v]))]) := by
  refine g_start Try.func28 rfl 42 rfl (by simp) (fps [Res.row A n cap 50 2 ((l).map En.c), Res.blk eb 3 [Value.int .i64 (ep)], Res.blk ob 27 [Value.slice O (o).length oc], Res.row O (o).length oc 3 1 ((o).map (fun v : Int => [Value.int .i64 v]))]) [Res.row A n cap 50 2 ((l).map En.c), Res.blk eb 3 [Value.int .i64 (ep)], Res.blk ob 27 [Value.slice O (o).length oc], Res.row O (o).length oc 3 1 ((o).map (fun v : Int => [Value.int .i64 v]))] hw _ rfl ?_
  refine g_seq ?_
  refine g_region ?_
  refine s_q (q_assign rfl) rfl ?_
  refine g_nil ?_
  refine g_then ?_
  refine g_seq ?_
  refine g_region ?_
  refine s_q (q_move rfl) rfl ?_
  refine s_q (q_move rfl) rfl ?_
  refine g_op (g_ownS [Res.row A (n) cap 50 2 ((l).map En.c), Res.blk eb 3 [Value.int .i64 (ep)], Res.blk ob 27 [Value.slice O (o).length oc], Res.row O (o).length oc 3 1 ((o).map (fun v : Int => [Value.int .i64 v]))] rfl (fun w1 hw1 ho1 => by have h7 := index_any eb ob ep O oc o A (n) (cap) (l) w1 ho1 (by first | assumption | (simp; done)) (by omega); exact h7) rfl ?_)
  rintro ⟨z, O10, oc10, o10⟩ hz
  refine ⟨_, _, inferInstance, inferInstance, ?_⟩
  simp only at hz
  refine s_q (q_assign rfl) rfl ?_
  refine g_nil ?_
  refine g_then ?_
  refine g_seq ?_
  refine g_seq ?_
  refine g_region ?_
  refine s_q (q_move rfl) rfl ?_
  refine s_q (q_eql rfl rfl) rfl ?_
  refine g_nil ?_
  refine g_then ?_
  refine g_cond rfl (fun h1 => ?_) (fun h1 => ?_)
  · obtain ⟨hall, ho10⟩ : (∀ y ∈ l, ¬ y.e = ep) ∧ o10 = o ++ dueO ep l := by
      rcases hz with h | ⟨k, hk, _⟩
      · exact ⟨h.1.2, h.2⟩
      · exfalso; rw [hk] at h1; have h9 := of_decide_eq_true h1; omega
    refine g_seq ?_
    refine g_region ?_
    refine s_q (q_move rfl) rfl ?_
    refine s_q (q_assign rfl) rfl ?_
    refine g_nil ?_
    refine g_then ?_
    refine g_ret ?_
    refine g_then_ret ?_
    subst ho10
    refine g_rown (A := A) (keepE ep l).length (by rw [keepE_all hall, hn]) ?_
    refine g_rowels (A := A) ((keepE ep l).map En.c) (by rw [keepE_all hall]) ?_
    exact fin1 rfl (.tmp rfl) (fun w' hw' => ⟨(A, cap, O10, oc10), (by first | exact trivial | (dsimp only; exact trivial)), by rw [keepE_all hall, hn], by have h9 := wok_sub (L' := [Res.row ((A, cap, O10, oc10)).1 (keepE ep l).length ((A, cap, O10, oc10)).2.1 50 2 (((keepE ep l)).map En.c), Res.blk eb 3 [Value.int .i64 (ep)], Res.blk ob 27 [Value.slice ((A, cap, O10, oc10)).2.2.1 ((o ++ dueO ep l)).length ((A, cap, O10, oc10)).2.2.2], Res.row ((A, cap, O10, oc10)).2.2.1 ((o ++ dueO ep l)).length ((A, cap, O10, oc10)).2.2.2 3 1 (((o ++ dueO ep l)).map (fun v : Int => [Value.int .i64 v]))]) w' hw'; exact h9⟩) _ (.inl rfl)
  · obtain ⟨i, rfl, hi, hpre, ha, ho10⟩ : ∃ k : Nat, z = k ∧ k < l.length ∧ (∀ y ∈ l.take k, ¬ y.e = ep) ∧ (l[k]?.map En.e) = some ep ∧ o10 = o ++ dueO ep (l.take (k + 1)) := by
      rcases hz with h | h
      · exact absurd h.1.1 (by simpa using h1)
      · exact h
    refine g_skip ?_
    refine g_then ?_
    refine g_seq ?_
    refine g_seq ?_
    refine g_region ?_
    refine s_q (q_move rfl) rfl ?_
    refine s_q (q_inc rfl rfl (by omega)) rfl ?_
    refine s_q (q_assign rfl) rfl ?_
    refine g_nil ?_
    refine g_then ?_
    refine g_block ?_
    refine g_loopk [0, 1, 4] (fun (x : Nat × Nat × List En × Option Addr × Nat × List Int) => [(5, .int .i64 ((x.1 : Nat) : Int)), (6, .int .i64 ((x.2.1 : Nat) : Int))]) (fun (x : Nat × Nat × List En × Option Addr × Nat × List Int) => [Res.row A n cap 50 2 ((x.2.2.1).map En.c), Res.blk eb 3 [Value.int .i64 (ep)], Res.blk ob 27 [Value.slice x.2.2.2.1 (x.2.2.2.2.2).length x.2.2.2.2.1], Res.row x.2.2.2.1 (x.2.2.2.2.2).length x.2.2.2.2.1 3 1 ((x.2.2.2.2.2).map (fun v : Int => [Value.int .i64 v]))]) (fun (x : Nat × Nat × List En × Option Addr × Nat × List Int) => x.1 < x.2.1 ∧ x.2.1 ≤ l.length ∧ (x.2.2.1).length = l.length ∧ (x.2.2.1).take x.1 = keepE ep (l.take x.2.1) ∧ (x.2.2.1).drop x.2.1 = l.drop x.2.1 ∧ x.2.2.2.2.2 = o ++ dueO ep (l.take x.2.1)) (fun (x : Nat × Nat × List En × Option Addr × Nat × List Int) => l.length - x.2.1) (i, (i + 1), l, O10, oc10, o10) (by (try dsimp only); exact ⟨(by omega), (by omega), rfl, (keep_pre hi hpre ha), rfl, ho10⟩) rfl (by repeat (first | exact trivial | refine ⟨rfl, ?_⟩)) wok_sub ?_
    rintro ⟨i1, j, s1, O1, oc1, o1⟩ ⟨hij, hjn, hls, htk, hdr, ho⟩
    replace hij : i1 < j := hij
    replace hjn : j ≤ l.length := hjn
    replace hls : (s1).length = l.length := hls
    replace htk : (s1).take i1 = keepE ep (l.take j) := htk
    replace hdr : (s1).drop j = l.drop j := hdr
    replace ho : o1 = o ++ dueO ep (l.take j) := ho
    refine g_setL (L' := [Res.row A n cap 50 2 ((s1).map En.c), Res.blk eb 3 [Value.int .i64 (ep)], Res.blk ob 27 [Value.slice O1 (o1).length oc1], Res.row O1 (o1).length oc1 3 1 ((o1).map (fun v : Int => [Value.int .i64 v]))]) rfl ?_
    refine g_val 5 (v' := .int .i64 ((i1 : Nat) : Int)) rfl rfl ?_
    refine g_val 6 (v' := .int .i64 ((j : Nat) : Int)) rfl rfl ?_
    refine g_seq ?_
    refine g_seq ?_
    refine g_region ?_
    refine s_q (q_move rfl) rfl ?_
    refine s_q (q_move rfl) rfl ?_
    refine s_q (q_len rfl) rfl ?_
    refine s_q (q_lss rfl rfl) rfl ?_
    refine g_nil ?_
    refine g_then ?_
    refine g_cond rfl (fun h2 => ?_) (fun h2 => ?_)
    · have lt_j : j < l.length := by have h9 := of_decide_eq_true h2; omega
      have lt_s : j < s1.length := by omega
      refine g_skip ?_
      refine g_then ?_
      refine g_seq ?_
      refine g_block ?_
      refine g_seq ?_
      refine g_region ?_
      refine s_q (q_move rfl) rfl ?_
      refine s_q (q_move rfl) rfl ?_
      refine s_q (q_index (i := j) rfl rfl rfl (InRow.rdb (A := A) (els := (s1).map En.c) (by first | rfl | assumption | (simp; done) | (simp_all; done) | (simp; omega) | (simp_all; omega)) (map_cat (c := En.c) (fun _ => rfl) _)) (by first | omega | (simp; done) | (simp; omega))) rfl ?_
      refine s_q (q_load_ew (i := j) rfl (InRow.rdb (A := A) (els := (s1).map En.c) (by first | rfl | assumption | (simp; done) | (simp_all; done) | (simp; omega) | (simp_all; omega)) (map_cat (c := En.c) (fun _ => rfl) _)) (map_get (by first | assumption | omega | (simp_all; done) | (simp_all; omega))) rfl) rfl ?_
      refine g_op (g_alloc rfl fun b7 => ?_)
      refine g_op (g_storew rfl rfl rfl rfl rfl ?_)
      refine g_nil ?_
      refine g_then ?_
      refine g_seq ?_
      refine g_region ?_
      refine s_q (q_move rfl) rfl ?_
      refine s_q (q_loadw rfl rfl) rfl ?_
      refine g_op (g_ownV [Res.blk eb 3 [Value.int .i64 (ep)], Res.blk ob 27 [Value.slice O1 (o1).length oc1], Res.row O1 (o1).length oc1 3 1 ((o1).map (fun v : Int => [Value.int .i64 v]))] rfl rfl (fun w1 hw1 ho1 => by have h7 := due1_any eb ob ep O1 oc1 o1 ((s1)[j]) w1 ho1 (by rw [ho]; have h9 := dueO_le ep (l.take j); simp at h9 ⊢; omega); exact h7) rfl ?_)
      rintro ⟨O28, oc28⟩ _
      refine ⟨_, _, inferInstance, inferInstance, ?_⟩
      refine s_q (q_not rfl) rfl ?_
      refine g_nil ?_
      refine g_then ?_
      refine g_cond rfl (fun h3 => ?_) (fun h3 => ?_)
      · have hne : ¬ s1[j].e = ep := by simpa using h3
        refine g_seq ?_
        refine g_region ?_
        refine s_q (q_move rfl) rfl ?_
        refine s_q (q_move rfl) rfl ?_
        refine s_q (q_loadw rfl rfl) rfl ?_
        refine s_q (q_index (i := i1) rfl rfl rfl (InRow.rdb (A := A) (els := (s1).map En.c) (by first | rfl | assumption | (simp; done) | (simp_all; done) | (simp; omega) | (simp_all; omega)) (map_cat (c := En.c) (fun _ => rfl) _)) (by first | omega | (simp; done) | (simp; omega))) rfl ?_
        refine g_op (g_store_el (A := A) (i := i1) (o := 0) (cs' := En.c ((s1[j]))) rfl rfl rfl rfl rfl (map_get (by first | assumption | omega | (simp_all; done) | (simp_all; omega))) (by first | (simp; done) | exact Nat.le_refl _) rfl (splice_all rfl) ?_)
        refine g_rowels (A := A) ((s1.set i1 (s1[j])).map En.c) (by simp only [List.map_set]) ?_
        refine g_nil ?_
        refine g_then ?_
        refine g_region ?_
        refine s_q (q_move rfl) rfl ?_
        refine s_q (q_inc rfl rfl (by omega)) rfl ?_
        refine s_q (q_assign rfl) rfl ?_
        refine g_nil ?_
        refine g_blk_n ?_
        refine g_then ?_
        refine g_region ?_
        refine s_q (q_move rfl) rfl ?_
        refine s_q (q_inc rfl rfl (by omega)) rfl ?_
        refine s_q (q_assign rfl) rfl ?_
        refine g_nil ?_
        exact g_again ((i1 + 1), (j + 1), (s1.set i1 s1[j]), O28, oc28, (o1 ++ dueO ep [(s1)[j]])) (by (try dsimp only); exact ⟨(by omega), (by omega), (by simpa using hls), (del_keep hij lt_s lt_j htk hdr hne).1, (del_keep hij lt_s lt_j htk hdr hne).2, (by rw [ho, List.append_assoc, (drop_get hdr lt_s lt_j).1, dueO_succ ep lt_j])⟩) (by dsimp only; omega) (by repeat (first | exact trivial | refine ⟨rfl, ?_⟩)) wok_sub
      · have heq : s1[j].e = ep := by simpa using h3
        refine g_skip ?_
        refine g_blk_n ?_
        refine g_then ?_
        refine g_region ?_
        refine s_q (q_move rfl) rfl ?_
        refine s_q (q_inc rfl rfl (by omega)) rfl ?_
        refine s_q (q_assign rfl) rfl ?_
        refine g_nil ?_
        exact g_again (i1, (j + 1), s1, O28, oc28, (o1 ++ dueO ep [(s1)[j]])) (by (try dsimp only); exact ⟨(by omega), (by omega), hls, (del_drop lt_s lt_j htk hdr heq).1, (del_drop lt_s lt_j htk hdr heq).2, (by rw [ho, List.append_assoc, (drop_get hdr lt_s lt_j).1, dueO_succ ep lt_j])⟩) (by dsimp only; omega) (by repeat (first | exact trivial | refine ⟨rfl, ?_⟩)) wok_sub
    · have eq_j : j = l.length := by have h9 := of_decide_eq_false h2; omega
      rw [eq_j, List.take_length] at htk ho
      have hi1 : i1 = (keepE ep l).length := by have h9 := congrArg List.length htk; simp at h9; omega
      have hlt : i1 < n := by omega
      refine g_exit ?_
      refine g_then_x (g_then_x (g_blk_hit ?_))
      refine g_then ?_
      refine g_seq ?_
      refine g_region ?_
      refine g_rowA A (by omega) fun ⟨hA, hA0⟩ hle hcm => ?_
      refine s_q (q_move rfl) rfl ?_
      refine s_q (q_move rfl) rfl ?_
      refine s_q (q_slice_l (l := i1) rfl rfl rfl (by omega)) rfl ?_
      refine g_op (g_clear (A := A) (l := i1) (n := n) (els := s1.map En.c) rfl (fun h0 => subA_at hA (by omega)) (by omega) (by simp [Value.oneCell']) ?_)
      refine g_nil ?_
      refine g_then ?_
      refine g_seq ?_
      refine g_region ?_
      refine s_q (q_move rfl) rfl ?_
      refine s_q (q_move rfl) rfl ?_
      refine s_q (q_slice_h (h := i1) rfl rfl rfl (by omega)) rfl ?_
      refine s_q (q_assign rfl) rfl ?_
      refine g_nil ?_
      refine g_then ?_
      refine g_ret ?_
      refine g_rowTake (A := A) i1 (keepE ep l).length ((keepE ep l).map En.c) (by omega) hi1 (by rw [List.append_assoc, List.take_append_of_le_length (by simp; omega), List.take_take, Nat.min_self, ← List.map_take, htk]) ?_
      subst ho
      exact fin1 rfl (.tmp rfl) (fun w' hw' => ⟨(subA A cap 0 2, cap, O1, oc1), (by first | exact trivial | (dsimp only; exact trivial)), by rw [hi1], by have h9 := wok_sub (L' := [Res.row ((subA A cap 0 2, cap, O1, oc1)).1 (keepE ep l).length ((subA A cap 0 2, cap, O1, oc1)).2.1 50 2 (((keepE ep l)).map En.c), Res.blk eb 3 [Value.int .i64 (ep)], Res.blk ob 27 [Value.slice ((subA A cap 0 2, cap, O1, oc1)).2.2.1 ((o ++ dueO ep l)).length ((subA A cap 0 2, cap, O1, oc1)).2.2.2], Res.row ((subA A cap 0 2, cap, O1, oc1)).2.2.1 ((o ++ dueO ep l)).length ((subA A cap 0 2, cap, O1, oc1)).2.2.2 3 1 (((o ++ dueO ep l)).map (fun v : Int => [Value.int .i64 v]))]) w' hw'; exact h9⟩) _ (.inl rfl)
end Go.Proofs.Ytgbghjnlicldnaa
