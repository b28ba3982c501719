/- walks of the entries of the ring -/
import Derived.Test.YtgbghjnlicldnaaW2
namespace Go.Proofs.Ytgbghjnlicldnaa
open Go.RowKit Go.Eg
set_option synthInstance.maxSize 3000
set_option linter.unusedSimpArgs false
set_option linter.unusedVariables false
set_option maxRecDepth 100000
def nstep (s : Int × Bool) (x : En) : Int × Bool := if s.2 = false ∨ x.e < s.1 then (x.e, true) else s
def nextE (l : List En) : Int × Bool := l.foldl nstep (0, false)
theorem nstep_comm (s : Int × Bool) (x y : En) : nstep (nstep s x) y = nstep (nstep s y) x := by
  obtain ⟨b, f⟩ := s
  unfold nstep
  cases f
  · simp only [true_or, if_true, false_or, Bool.true_eq_false]
    split <;> split <;> first | rfl | (congr 1; omega) | omega
  · simp only [Bool.true_eq_false, false_or]
    repeat' split
    all_goals first | rfl | (simp only at *; omega) | (congr 1; simp only at *; omega) | (simp only [Bool.true_eq_false, false_or] at *; first | omega | (congr 1; omega))
theorem next_perm {l1 l2 : List En} (h : l1.Perm l2) : ∀ s, l1.foldl nstep s = l2.foldl nstep s := by
  induction h with
  | nil => exact fun _ => rfl
  | cons x _ ih => exact fun s => ih _
  | swap x y l => exact fun s => by simp only [List.foldl_cons]; rw [nstep_comm]
  | trans _ _ ih1 ih2 => exact fun s => (ih1 s).trans (ih2 s)
theorem perm_ins {x : En} {F : Nat → List En} {k0 : Nat} : ∀ {ks : List Nat}, ks.Nodup → k0 ∈ ks → (ks.flatMap fun k => if k0 = k then x :: F k else F k).Perm (x :: ks.flatMap F)
  | [], _, h => absurd h (by simp)
  | k :: ks, hn, hm => by
    rw [List.nodup_cons] at hn
    simp only [List.flatMap_cons]
    by_cases e : k0 = k
    · subst e
      have : (ks.flatMap fun k => if k0 = k then x :: F k else F k) = ks.flatMap F := by
        have h : ∀ k ∈ ks, (if k0 = k then x :: F k else F k) = F k := fun k hk => if_neg fun (e : k0 = k) => hn.1 (e ▸ hk)
        clear hn hm
        induction ks with
        | nil => rfl
        | cons q ks ih => rw [List.flatMap_cons, List.flatMap_cons, h q (by simp), ih fun k hk => h k (by simp [hk])]
      rw [if_pos rfl, this]
      exact .refl _
    · rw [if_neg e]
      have ih := perm_ins (x := x) (F := F) hn.2 ((List.mem_cons.1 hm).resolve_left e)
      exact (ih.append_left _).trans List.perm_middle
theorem perm_flat {m : Nat} : ∀ {es : List En}, (∀ x ∈ es, ∃ k : Nat, k < m ∧ x.e % (m : Int) = k) → ((List.range m).flatMap fun k : Nat => es.filter fun x => decide (x.e % (m : Int) = k)).Perm es
  | [], _ => by
    have : ((List.range m).flatMap fun _ : Nat => ([] : List En)) = [] := by simp
    simp
  | x :: es, h => by
    obtain ⟨k0, hk, hx⟩ := h x (by simp)
    have ih := perm_flat (es := es) fun y hy => h y (by simp [hy])
    have e : ((List.range m).flatMap fun k : Nat => (x :: es).filter fun x => decide (x.e % (m : Int) = k)) = (List.range m).flatMap fun k => if k0 = k then x :: (es.filter fun x => decide (x.e % (m : Int) = k)) else es.filter fun x => decide (x.e % (m : Int) = k) := by
      congr 1
      funext k
      rw [List.filter_cons, hx]
      by_cases e : k0 = k
      · subst e; simp
      · rw [if_neg e, if_neg (by simpa using fun hc : (k0 : Int) = k => e (by omega))]
    rw [e]
    exact (perm_ins List.nodup_range (List.mem_range.2 hk)).trans (ih.cons x)
theorem BR.Rep.all {g : BR} {es : List En} (h : g.Rep es) : allE g = (List.range g.bs.length).flatMap fun k : Nat => es.filter fun x => decide (x.e % (g.bs.length : Int) = k) := by
  unfold allE
  have key : ∀ (m : Nat), m ≤ g.bs.length → (g.bs.take m).flatMap Bk.els = (List.range m).flatMap fun k : Nat => es.filter fun x => decide (x.e % (g.bs.length : Int) = k) := fun m => by
    induction m with
    | zero => exact fun _ => rfl
    | succ m ih =>
      intro hm
      obtain ⟨A, c, e, hb⟩ : ∃ A c els, g.bs[m]? = some ⟨A, c, els⟩ := ⟨_, _, _, List.getElem?_eq_getElem (by omega)⟩
      have he := h.bk _ _ hb
      simp only at he
      rw [flat_succ hb, ih (by omega), List.range_succ, List.flatMap_append, he]
      simp
  have := key g.bs.length (Nat.le_refl _)
  rwa [List.take_length] at this
theorem BR.Rep.perm {g : BR} {es : List En} (h : g.Rep es) : (allE g).Perm es := by
  rw [h.all]
  refine perm_flat fun x hx => ⟨(x.e % (g.bs.length : Int)).toNat, ?_, ?_⟩
  · have h1 := Int.emod_lt_of_pos x.e (show (0 : Int) < (g.bs.length : Int) by have := h.pos; omega)
    have h2 := Int.emod_nonneg x.e (show (g.bs.length : Int) ≠ 0 by have := h.pos; omega)
    omega
  · have h2 := Int.emod_nonneg x.e (show (g.bs.length : Int) ≠ 0 by have := h.pos; omega)
    omega
theorem BR.Rep.next {g : BR} {es : List En} (h : g.Rep es) : nextE (allE g) = nextE es := next_perm h.perm _
theorem BR.Rep.allLen {g : BR} {es : List En} (h : g.Rep es) : (allE g).length = es.length := h.perm.length_eq

set_option maxHeartbeats 400000 in
theorem entries_any (rb : Option Addr) (w : World)  : Own2 (ι := Nat) Try.prog 25 [.pointer rb] w [] (fun x => True) (fun x => .func (.func 34) #[] [Value.pointer (some ⟨x, 0, none⟩)].toArray) (fun x => [Res.blk x 23 [Value.pointer rb]]) (fun x => []) := by
  refine g_start Try.func25 rfl 4 rfl (by simp) (fps []) [] (WOK.start _ _) _ rfl ?_
  refine g_seq ?_
  refine g_region ?_
  refine g_op (g_box (c := [Value.pointer rb]) rfl rfl rfl fun b1 => ?_)
  refine s_q (q_assign rfl) rfl ?_
  refine g_nil ?_
  refine g_then ?_
  refine g_seq ?_
  refine g_region ?_
  refine s_q (q_funcL rfl rfl (fun _ => rfl)) rfl ?_
  refine s_q (q_assign rfl) rfl ?_
  refine g_nil ?_
  refine g_then ?_
  refine g_ret ?_
  exact fin1 rfl (.tmp rfl) (fun w' hw' => ⟨b1, (by first | exact trivial | (dsimp only; exact trivial)), rfl, by have h9 := wok_sub (L' := [Res.blk b1 23 [Value.pointer rb]]) w' hw'; exact h9⟩) _ (.inl rfl)

set_option maxHeartbeats 400000 in
theorem ent1_any (l9 : Nat) (B9 : List En → Res → Prop) (r : Res) (q b : Nat) (g : BR) (w : World) (hw : WOK (fps [Res.blk q 23 [Value.pointer (some ⟨b, 0, none⟩)], Res.blk b 57 [Value.slice (BR.A g) (BR.bs g).length (BR.cap g), Value.int .i64 (BR.n g)], Res.row (BR.A g) (BR.bs g).length (BR.cap g) 47 1 ((BR.bs g).map (fun k : Bk En => [k.v])), bks 50 2 En.c (BR.bs g), r]) w [Res.blk q 23 [Value.pointer (some ⟨b, 0, none⟩)], Res.blk b 57 [Value.slice (BR.A g) (BR.bs g).length (BR.cap g), Value.int .i64 (BR.n g)], Res.row (BR.A g) (BR.bs g).length (BR.cap g) 47 1 ((BR.bs g).map (fun k : Bk En => [k.v])), bks 50 2 En.c (BR.bs g), r] w) (hY : YOK Try.prog l9 (fun x : En => Value.agg x.c.toArray) B9 (allE g)) (hB0 : B9 [] r) (hm : (BR.bs g).length ≤ 4096) (hl9 : ∀ (i : Nat) (k : Bk En), (BR.bs g)[i]? = some k → k.els.length ≤ 1000000) : Ret Try.prog 34 [.func (.yield l9) #[] #[], .pointer (some ⟨q, 0, none⟩)] w (fun _ w2 => ∃ r2, B9 (allE g) r2 ∧ WOK (fps [Res.blk q 23 [Value.pointer (some ⟨b, 0, none⟩)], Res.blk b 57 [Value.slice (BR.A g) (BR.bs g).length (BR.cap g), Value.int .i64 (BR.n g)], Res.row (BR.A g) (BR.bs g).length (BR.cap g) 47 1 ((BR.bs g).map (fun k : Bk En => [k.v])), bks 50 2 En.c (BR.bs g), r]) w [Res.blk q 23 [Value.pointer (some ⟨b, 0, none⟩)], Res.blk b 57 [Value.slice (BR.A g) (BR.bs g).length (BR.cap g), Value.int .i64 (BR.n g)], Res.row (BR.A g) (BR.bs g).length (BR.cap g) 47 1 ((BR.bs g).map (fun k : Bk En => [k.v])), bks 50 2 En.c (BR.bs g), r2] w2) := by
  refine g_start Try.func34 rfl 30 rfl (by simp) (fps [Res.blk q 23 [Value.pointer (some ⟨b, 0, none⟩)], Res.blk b 57 [Value.slice (BR.A g) (BR.bs g).length (BR.cap g), Value.int .i64 (BR.n g)], Res.row (BR.A g) (BR.bs g).length (BR.cap g) 47 1 ((BR.bs g).map (fun k : Bk En => [k.v])), bks 50 2 En.c (BR.bs g), r]) [Res.blk q 23 [Value.pointer (some ⟨b, 0, none⟩)], Res.blk b 57 [Value.slice (BR.A g) (BR.bs g).length (BR.cap g), Value.int .i64 (BR.n g)], Res.row (BR.A g) (BR.bs g).length (BR.cap g) 47 1 ((BR.bs g).map (fun k : Bk En => [k.v])), bks 50 2 En.c (BR.bs g), r] hw _ rfl ?_
  refine g_seq ?_
  refine g_seq ?_
  refine g_region ?_
  refine s_q (q_load rfl rfl) rfl ?_
  refine s_q (q_eqp (b := false) rfl rfl rfl) rfl ?_
  refine g_nil ?_
  refine g_then ?_
  refine g_false rfl ?_
  refine g_skip ?_
  refine g_then ?_
  refine g_seq ?_
  refine g_region ?_
  refine s_q (q_load rfl rfl) rfl ?_
  refine s_q (q_nilck rfl) rfl ?_
  refine s_q (q_field rfl) rfl ?_
  refine s_q (q_load rfl rfl) rfl ?_
  refine s_q (q_len rfl) rfl ?_
  refine s_q (q_move rfl) rfl ?_
  refine g_nil ?_
  refine g_then ?_
  refine g_block ?_
  refine g_loopk [0, 12, 13] (fun (x : Nat × Res) => [(14, .int .i64 ((x.1 : Nat) : Int))]) (fun (x : Nat × Res) => [Res.blk q 23 [Value.pointer (some ⟨b, 0, none⟩)], Res.blk b 57 [Value.slice (BR.A g) (BR.bs g).length (BR.cap g), Value.int .i64 (BR.n g)], Res.row (BR.A g) (BR.bs g).length (BR.cap g) 47 1 ((BR.bs g).map (fun k : Bk En => [k.v])), bks 50 2 En.c (BR.bs g), x.2]) (fun (x : Nat × Res) => x.1 ≤ (BR.bs g).length ∧ B9 (((BR.bs g).take x.1).flatMap Bk.els) x.2) (fun (x : Nat × Res) => (BR.bs g).length - x.1) (0, r) (by (try dsimp only); exact ⟨Nat.zero_le _, (by simpa using hB0)⟩) rfl (by repeat (first | exact trivial | refine ⟨rfl, ?_⟩)) wok_sub ?_
  rintro ⟨i, r1⟩ ⟨le_i, hB⟩
  replace le_i : i ≤ (BR.bs g).length := le_i
  replace hB : B9 (((BR.bs g).take i).flatMap Bk.els) r1 := hB
  refine g_setL (L' := [Res.blk q 23 [Value.pointer (some ⟨b, 0, none⟩)], Res.blk b 57 [Value.slice (BR.A g) (BR.bs g).length (BR.cap g), Value.int .i64 (BR.n g)], Res.row (BR.A g) (BR.bs g).length (BR.cap g) 47 1 ((BR.bs g).map (fun k : Bk En => [k.v])), bks 50 2 En.c (BR.bs g), r1]) rfl ?_
  refine g_val 14 (v' := .int .i64 ((i : Nat) : Int)) rfl rfl ?_
  refine g_seq ?_
  refine g_region ?_
  refine s_q (q_lss rfl rfl) rfl ?_
  refine g_nil ?_
  refine g_then ?_
  refine g_seq ?_
  refine g_cond rfl (fun h1 => ?_) (fun h1 => ?_)
  · have lt_i : i < (BR.bs g).length := by have h9 := of_decide_eq_true h1; omega
    obtain ⟨A0, c0, e0, hb0⟩ : ∃ A c els, (BR.bs g)[i]? = some ⟨A, c, els⟩ := ⟨_, _, _, List.getElem?_eq_getElem lt_i⟩
    have he0 : e0.length ≤ 1000000 := hl9 i _ hb0
    refine g_skip ?_
    refine g_then ?_
    refine g_seq ?_
    refine g_block ?_
    refine g_seq ?_
    refine g_region ?_
    refine s_q (q_index (i := i) rfl rfl rfl (InRow.rdb (A := (BR.A g)) (els := ((BR.bs g)).map (fun k : Bk En => [k.v])) (by first | rfl | assumption | (simp; done) | (simp_all; done) | (simp; omega) | (simp_all; omega)) (map_cat (c := (fun k : Bk En => [k.v])) (fun _ => rfl) _)) (by first | exact lt_i | omega)) rfl ?_
    refine s_q (q_load_el (i := i) (o := 0) rfl (InRow.rdb (A := (BR.A g)) (els := ((BR.bs g)).map (fun k : Bk En => [k.v])) (by first | rfl | assumption | (simp; done) | (simp_all; done) | (simp; omega) | (simp_all; omega)) (map_cat (c := (fun k : Bk En => [k.v])) (fun _ => rfl) _)) (bk_get hb0) rfl rfl) rfl ?_
    refine s_q (q_assign rfl) rfl ?_
    refine g_nil ?_
    refine g_then ?_
    refine g_seq ?_
    refine g_region ?_
    refine s_q (q_move rfl) rfl ?_
    refine s_q (q_len rfl) rfl ?_
    refine s_q (q_move rfl) rfl ?_
    refine g_nil ?_
    refine g_then ?_
    refine g_block ?_
    refine g_loopk [0, 12, 13, 14, 18, 19] (fun (x : Nat × Res) => [(20, .int .i64 ((x.1 : Nat) : Int))]) (fun (x : Nat × Res) => [Res.blk q 23 [Value.pointer (some ⟨b, 0, none⟩)], Res.blk b 57 [Value.slice (BR.A g) (BR.bs g).length (BR.cap g), Value.int .i64 (BR.n g)], Res.row (BR.A g) (BR.bs g).length (BR.cap g) 47 1 ((BR.bs g).map (fun k : Bk En => [k.v])), bks 50 2 En.c (BR.bs g), x.2]) (fun (x : Nat × Res) => x.1 ≤ e0.length ∧ B9 (((BR.bs g).take i).flatMap Bk.els ++ e0.take x.1) x.2) (fun (x : Nat × Res) => e0.length - x.1) (0, r1) (by (try dsimp only); exact ⟨Nat.zero_le _, (by simpa using hB)⟩) rfl (by repeat (first | exact trivial | refine ⟨rfl, ?_⟩)) wok_sub ?_
    rintro ⟨j, r2⟩ ⟨le_j, hB2⟩
    replace le_j : j ≤ e0.length := le_j
    replace hB2 : B9 (((BR.bs g).take i).flatMap Bk.els ++ e0.take j) r2 := hB2
    refine g_setL (L' := [Res.blk q 23 [Value.pointer (some ⟨b, 0, none⟩)], Res.blk b 57 [Value.slice (BR.A g) (BR.bs g).length (BR.cap g), Value.int .i64 (BR.n g)], Res.row (BR.A g) (BR.bs g).length (BR.cap g) 47 1 ((BR.bs g).map (fun k : Bk En => [k.v])), bks 50 2 En.c (BR.bs g), r2]) rfl ?_
    refine g_val 20 (v' := .int .i64 ((j : Nat) : Int)) rfl rfl ?_
    refine g_seq ?_
    refine g_region ?_
    refine s_q (q_lss rfl rfl) rfl ?_
    refine g_nil ?_
    refine g_then ?_
    refine g_seq ?_
    refine g_cond rfl (fun h2 => ?_) (fun h2 => ?_)
    · have lt_j : j < e0.length := by have h9 := of_decide_eq_true h2; omega
      have hpre9 : ((BR.bs g).take i).flatMap Bk.els ++ e0.take j ++ [e0[j]] <+: allE g := pre_bk hb0 lt_j
      refine g_skip ?_
      refine g_then ?_
      refine g_seq ?_
      refine g_block ?_
      refine g_seq ?_
      refine g_region ?_
      refine s_q (q_index (i := j) rfl rfl rfl (Rdb.bk 50 (n := 2) (c := En.c) (fun _ => rfl) hb0) (by first | exact lt_j | omega)) rfl ?_
      refine s_q (q_load_ew (i := j) rfl (Rdb.bk 50 (n := 2) (c := En.c) (fun _ => rfl) hb0) (map_get (by first | assumption | omega)) rfl) rfl ?_
      refine g_op (g_alloc rfl fun b6 => ?_)
      refine g_op (g_storew rfl rfl rfl rfl rfl ?_)
      refine g_nil ?_
      refine g_then ?_
      refine g_seq ?_
      refine g_region ?_
      refine s_q (q_move rfl) rfl ?_
      refine s_q (q_loadw rfl rfl) rfl ?_
      refine g_op (g_yield hY hpre9 hB2 rfl rfl rfl fun r9 hB9 => ?_)
      refine ⟨_, inferInstance, ?_⟩
      refine s_q (q_not rfl) rfl ?_
      refine g_nil ?_
      refine g_then ?_
      refine g_false rfl ?_
      refine g_skip ?_
      refine g_blk_n ?_
      refine g_then ?_
      refine g_region ?_
      refine s_q (q_inc rfl rfl (by omega)) rfl ?_
      refine s_q (q_move rfl) rfl ?_
      refine g_nil ?_
      exact g_again ((j + 1), r9) (by (try dsimp only); exact ⟨(by first | exact lt_j | omega), (by rw [← List.take_append_getElem lt_j, ← List.append_assoc]; exact hB9)⟩) (by first | omega | (simp only; omega)) (by repeat (first | exact trivial | refine ⟨rfl, ?_⟩)) wok_sub
    · have eq_j : j = e0.length := by have h9 := of_decide_eq_false h2; omega
      refine g_exit ?_
      refine g_then_x (g_then_x (g_blk_hit ?_))
      refine g_blk_n ?_
      refine g_then ?_
      refine g_region ?_
      refine s_q (q_inc rfl rfl (by omega)) rfl ?_
      refine s_q (q_move rfl) rfl ?_
      refine g_nil ?_
      exact g_again ((i + 1), r2) (by (try dsimp only); exact ⟨(by first | exact lt_i | omega), (by rw [flat_succ hb0]; rw [eq_j, List.take_length] at hB2; exact hB2)⟩) (by first | omega | (simp only; omega)) (by repeat (first | exact trivial | refine ⟨rfl, ?_⟩)) wok_sub
  · have eq_i : i = (BR.bs g).length := by have h9 := of_decide_eq_false h1; omega
    refine g_exit ?_
    refine g_then_x (g_then_x (g_blk_hit ?_))
    exact fin0 rfl (fun w' hw' => ⟨r1, by rw [eq_i, List.take_length] at hB; exact hB, by have h9 := wok_sub (L' := [Res.blk q 23 [Value.pointer (some ⟨b, 0, none⟩)], Res.blk b 57 [Value.slice (BR.A g) (BR.bs g).length (BR.cap g), Value.int .i64 (BR.n g)], Res.row (BR.A g) (BR.bs g).length (BR.cap g) 47 1 ((BR.bs g).map (fun k : Bk En => [k.v])), bks 50 2 En.c (BR.bs g), r1]) w' hw'; exact h9⟩) _ (.inr rfl)

set_option maxHeartbeats 400000 in
theorem ent1_nil (l9 : Nat) (B9 : List En → Res → Prop) (r : Res) (q : Nat) (w : World) (hw : WOK (fps [Res.blk q 23 [Value.pointer none], r]) w [Res.blk q 23 [Value.pointer none], r] w) (hB0 : B9 [] r) : Ret Try.prog 34 [.func (.yield l9) #[] #[], .pointer (some ⟨q, 0, none⟩)] w (fun _ w2 => ∃ r2, B9 [] r2 ∧ WOK (fps [Res.blk q 23 [Value.pointer none], r]) w [Res.blk q 23 [Value.pointer none], r2] w2) := by
  refine g_start Try.func34 rfl 30 rfl (by simp) (fps [Res.blk q 23 [Value.pointer none], r]) [Res.blk q 23 [Value.pointer none], r] hw _ rfl ?_
  refine g_seq ?_
  refine g_seq ?_
  refine g_region ?_
  refine s_q (q_load rfl rfl) rfl ?_
  refine s_q (q_eqp (b := true) rfl rfl rfl) rfl ?_
  refine g_nil ?_
  refine g_then ?_
  refine g_true rfl ?_
  refine g_ret ?_
  refine g_then_ret ?_
  exact fin0 rfl (fun w' hw' => ⟨r, hB0, by have h9 := wok_sub (L' := [Res.blk q 23 [Value.pointer none], r]) w' hw'; exact h9⟩) _ (.inl rfl)

set_option maxHeartbeats 400000 in
theorem bnext_any (b : Nat) (g : BR) (es : List En) (w : World) (hw : WOK (fps [Res.blk b 57 [Value.slice (BR.A g) (BR.bs g).length (BR.cap g), Value.int .i64 (BR.n g)], Res.row (BR.A g) (BR.bs g).length (BR.cap g) 47 1 ((BR.bs g).map (fun k : Bk En => [k.v])), bks 50 2 En.c (BR.bs g)]) w [Res.blk b 57 [Value.slice (BR.A g) (BR.bs g).length (BR.cap g), Value.int .i64 (BR.n g)], Res.row (BR.A g) (BR.bs g).length (BR.cap g) 47 1 ((BR.bs g).map (fun k : Bk En => [k.v])), bks 50 2 En.c (BR.bs g)] w) (h : g.Rep es) (hnE : es.length ≤ 1000000) : Keep Try.prog 13 [.pointer (some ⟨b, 0, none⟩)] w [Res.blk b 57 [Value.slice (BR.A g) (BR.bs g).length (BR.cap g), Value.int .i64 (BR.n g)], Res.row (BR.A g) (BR.bs g).length (BR.cap g) 47 1 ((BR.bs g).map (fun k : Bk En => [k.v])), bks 50 2 En.c (BR.bs g)] (.tuple [.int .i64 (nextE es).1, .bool (nextE es).2].toArray) := by
  refine g_startM Try.func13 rfl 22 rfl (by simp) (fps [Res.blk b 57 [Value.slice (BR.A g) (BR.bs g).length (BR.cap g), Value.int .i64 (BR.n g)], Res.row (BR.A g) (BR.bs g).length (BR.cap g) 47 1 ((BR.bs g).map (fun k : Bk En => [k.v])), bks 50 2 En.c (BR.bs g)]) [Res.blk b 57 [Value.slice (BR.A g) (BR.bs g).length (BR.cap g), Value.int .i64 (BR.n g)], Res.row (BR.A g) (BR.bs g).length (BR.cap g) 47 1 ((BR.bs g).map (fun k : Bk En => [k.v])), bks 50 2 En.c (BR.bs g)] hw _ rfl ?_
  have hbl : ∀ (i : Nat) (k : Bk En), (BR.bs g)[i]? = some k → k.els.length ≤ 1000000 := fun i k hk => by rw [h.bk i k hk]; exact Nat.le_trans (List.length_filter_le _ _) hnE
  refine g_seq ?_
  refine g_region ?_
  refine s_q (q_assign rfl) rfl ?_
  refine s_q (q_assign rfl) rfl ?_
  refine g_nil ?_
  refine g_then ?_
  refine g_seq ?_
  refine g_region ?_
  refine g_op (g_alloc rfl fun b4 => ?_)
  refine g_op (g_alloc rfl fun b5 => ?_)
  refine g_op (g_store rfl rfl rfl rfl rfl rfl rfl ?_)
  refine g_op (g_store rfl rfl rfl rfl rfl rfl rfl ?_)
  refine g_blkc (b := b4) [Value.int .i64 ((0 : Int), false).1] rfl ?_
  refine g_blkc (b := b5) [Value.bool ((0 : Int), false).2] rfl ?_
  refine g_nil ?_
  refine g_then ?_
  refine g_seq ?_
  refine g_seq ?_
  refine g_region ?_
  refine s_q (q_move rfl) rfl ?_
  refine g_op (g_ownS [] rfl (fun w1 hw1 ho1 => by have h7 := entries_any (some ⟨b, 0, none⟩) w1; exact h7) rfl ?_)
  rintro q8 _
  refine ⟨_, _, inferInstance, inferInstance, ?_⟩
  refine g_nil ?_
  refine g_then ?_
  refine g_block ?_
  refine g_rangeFunc2 (fst := []) (cap := [Value.pointer (some ⟨q8, 0, none⟩)]) (enc := (fun x : En => Value.agg x.c.toArray)) (all := (allE g)) rfl rfl [Res.blk q8 23 [Value.pointer (some ⟨b, 0, none⟩)], Res.blk b 57 [Value.slice (BR.A g) (BR.bs g).length (BR.cap g), Value.int .i64 (BR.n g)], Res.row (BR.A g) (BR.bs g).length (BR.cap g) 47 1 ((BR.bs g).map (fun k : Bk En => [k.v])), bks 50 2 En.c (BR.bs g)] [Res.blk q8 23 [Value.pointer (some ⟨b, 0, none⟩)], Res.blk b 57 [Value.slice (BR.A g) (BR.bs g).length (BR.cap g), Value.int .i64 (BR.n g)], Res.row (BR.A g) (BR.bs g).length (BR.cap g) 47 1 ((BR.bs g).map (fun k : Bk En => [k.v])), bks 50 2 En.c (BR.bs g)] [] (fun (y9 : Int × Bool) => [Res.blk b4 3 [Value.int .i64 (y9).1], Res.blk b5 4 [Value.bool (y9).2]]) (fun pre (y9 : Int × Bool) => y9 = nextE pre) (0, false) (rfl) (fun w1 hw1 => by have h9 := wok_sub (L' := [Res.blk q8 23 [Value.pointer (some ⟨b, 0, none⟩)], Res.blk b 57 [Value.slice (BR.A g) (BR.bs g).length (BR.cap g), Value.int .i64 (BR.n g)], Res.row (BR.A g) (BR.bs g).length (BR.cap g) 47 1 ((BR.bs g).map (fun k : Bk En => [k.v])), bks 50 2 En.c (BR.bs g), Res.blk b4 3 [Value.int .i64 (((0 : Int), false)).1], Res.blk b5 4 [Value.bool (((0 : Int), false)).2]]) w1 hw1; exact h9) (fun w1 hw1 => by intro l9 B9 r9 hY9 hB9 hc9 ho9; exact ent1_any l9 B9 r9 q8 b g w1 ho9 hY9 hB9 h.le hbl) (fun x9 (y9 : Int × Bool) (z9 : Nat) => [(6, Value.pointer (some ⟨z9, 0, none⟩)), (4, Value.pointer (some ⟨b4, 0, none⟩)), (5, Value.pointer (some ⟨b5, 0, none⟩))]) (fun x9 (y9 : Int × Bool) (z9 : Nat) => [Res.blk z9 50 x9.c, Res.blk b4 3 [Value.int .i64 (y9).1], Res.blk b5 4 [Value.bool (y9).2]]) ?_ ?_ ?_
  · rintro l9 pre x9 ⟨m9, f9⟩ w9 hpre9 hp9
    refine g_setL (L' := [Res.blk b4 3 [Value.int .i64 m9], Res.blk b5 4 [Value.bool f9]]) rfl ?_
    refine g_region ?_
    refine g_op (g_alloc rfl fun b6 => ?_)
    refine g_op (g_storew rfl rfl rfl rfl rfl ?_)
    refine g_nil ?_
    exact g_asgx (b6) (by repeat (first | exact trivial | refine ⟨rfl, ?_⟩)) wok_sub
  · rintro l9 pre x9 ⟨m9, f9⟩ z9 w9 hpre9 hp9
    replace hp9 : (m9, f9) = nextE pre := hp9
    refine g_setL (L' := [Res.blk z9 50 x9.c, Res.blk b4 3 [Value.int .i64 m9], Res.blk b5 4 [Value.bool f9]]) rfl ?_
    refine g_block ?_
    refine g_seq ?_
    refine g_region ?_
    refine s_q (q_load rfl rfl) rfl ?_
    refine s_q (q_not rfl) rfl ?_
    refine s_q (q_move rfl) rfl ?_
    refine g_split 12 rfl (fun h1 => ?_) (fun h1 => ?_)
    · have hor : f9 = false ∨ x9.e < m9 := .inl (by simpa using h1)
      refine g_gf rfl rfl rfl rfl ?_
      refine g_gf rfl rfl rfl rfl ?_
      refine g_gf rfl rfl rfl rfl ?_
      refine g_gf rfl rfl rfl rfl ?_
      refine s_q (q_pick_t rfl rfl) rfl ?_
      refine g_nil ?_
      refine g_then ?_
      refine g_true rfl ?_
      refine g_region ?_
      refine s_q (q_field rfl) rfl ?_
      refine s_q (q_load rfl rfl) rfl ?_
      refine g_op (g_store rfl rfl rfl rfl rfl rfl rfl ?_)
      refine g_op (g_store rfl rfl rfl rfl rfl rfl rfl ?_)
      refine g_blkc (b := b4) [Value.int .i64 ((x9.e : Int), true).1] rfl ?_
      refine g_blkc (b := b5) [Value.bool ((x9.e : Int), true).2] rfl ?_
      refine g_nil ?_
      refine g_blk_n ?_
      exact g_round (fun w2 hw2 => ⟨(x9.e, true), by show _ = nextE (pre ++ [x9]); unfold nextE at hp9 ⊢; rw [List.foldl_append, ← hp9]; simp only [List.foldl_cons, List.foldl_nil, nstep]; rw [if_pos hor], by have h9 := wok_sub (L' := [Res.blk b4 3 [Value.int .i64 (((x9.e : Int), true)).1], Res.blk b5 4 [Value.bool (((x9.e : Int), true)).2]]) w2 hw2; exact h9⟩)
    · have hf9 : f9 = true := by simpa using h1
      refine s_qg (q_field rfl) rfl rfl rfl ?_
      refine s_qg (q_load rfl rfl) rfl rfl rfl ?_
      refine s_qg (q_load rfl rfl) rfl rfl rfl ?_
      refine s_qg (q_lss rfl rfl) rfl rfl rfl ?_
      refine s_q (q_pick_f rfl rfl) rfl ?_
      refine g_nil ?_
      refine g_then ?_
      refine g_cond rfl (fun h2 => ?_) (fun h2 => ?_)
      · have hor : f9 = false ∨ x9.e < m9 := .inr (of_decide_eq_true h2)
        refine g_region ?_
        refine s_q (q_field rfl) rfl ?_
        refine s_q (q_load rfl rfl) rfl ?_
        refine g_op (g_store rfl rfl rfl rfl rfl rfl rfl ?_)
        refine g_op (g_store rfl rfl rfl rfl rfl rfl rfl ?_)
        refine g_blkc (b := b4) [Value.int .i64 ((x9.e : Int), true).1] rfl ?_
        refine g_blkc (b := b5) [Value.bool ((x9.e : Int), true).2] rfl ?_
        refine g_nil ?_
        refine g_blk_n ?_
        exact g_round (fun w2 hw2 => ⟨(x9.e, true), by show _ = nextE (pre ++ [x9]); unfold nextE at hp9 ⊢; rw [List.foldl_append, ← hp9]; simp only [List.foldl_cons, List.foldl_nil, nstep]; rw [if_pos hor], by have h9 := wok_sub (L' := [Res.blk b4 3 [Value.int .i64 (((x9.e : Int), true)).1], Res.blk b5 4 [Value.bool (((x9.e : Int), true)).2]]) w2 hw2; exact h9⟩)
      · have hge : ¬ x9.e < m9 := of_decide_eq_false h2
        refine g_skip ?_
        refine g_blk_n ?_
        exact g_round (fun w2 hw2 => ⟨(m9, f9), by show _ = nextE (pre ++ [x9]); unfold nextE at hp9 ⊢; rw [List.foldl_append, ← hp9]; simp only [List.foldl_cons, List.foldl_nil, nstep]; rw [if_neg (fun hc => hc.elim (fun hc => absurd (hc.symm.trans hf9) (by decide)) hge)], by have h9 := wok_sub (L' := [Res.blk b4 3 [Value.int .i64 ((m9, f9)).1], Res.blk b5 4 [Value.bool ((m9, f9)).2]]) w2 hw2; exact h9⟩)
  rintro ⟨m8, f8⟩ hp9 m9
  refine g_setL (L' := [Res.obj m9 (.deferred (some [])), Res.blk q8 23 [Value.pointer (some ⟨b, 0, none⟩)], Res.blk b 57 [Value.slice (BR.A g) (BR.bs g).length (BR.cap g), Value.int .i64 (BR.n g)], Res.row (BR.A g) (BR.bs g).length (BR.cap g) 47 1 ((BR.bs g).map (fun k : Bk En => [k.v])), bks 50 2 En.c (BR.bs g), Res.blk b4 3 [Value.int .i64 m8], Res.blk b5 4 [Value.bool f8]]) rfl ?_
  replace hp9 : (m8, f8) = nextE (allE g) := hp9
  refine g_blk_n ?_
  refine g_then ?_
  refine g_seq ?_
  refine d_region [] mixed rfl rfl ?_
  refine d_q 0 rfl (by kernel_rfl) (q_load rfl rfl) wok_sub rfl (ls' := #[true, false, false, false]) rfl ?_
  refine d_q 1 rfl (by kernel_rfl) (q_load rfl rfl) wok_sub rfl (ls' := #[true, true, false, false]) rfl ?_
  refine d_q 2 rfl (by kernel_rfl) (q_assign rfl) wok_sub rfl (ls' := #[true, true, true, false]) rfl ?_
  refine d_q 3 rfl (by kernel_rfl) (q_assign rfl) wok_sub rfl (ls' := #[true, true, true, true]) rfl ?_
  refine d_end (by kernel_rfl) (.inr wok_sub) ?_
  refine g_then ?_
  refine g_ret ?_
  exact finM2 rfl (.tmp rfl) (.tmp rfl) (fun w' hw' => ⟨(), trivial, by rw [h.next] at hp9; rw [← hp9], by have h9 := wok_sub (L' := [Res.blk b 57 [Value.slice (BR.A g) (BR.bs g).length (BR.cap g), Value.int .i64 (BR.n g)], Res.row (BR.A g) (BR.bs g).length (BR.cap g) 47 1 ((BR.bs g).map (fun k : Bk En => [k.v])), bks 50 2 En.c (BR.bs g)]) w' hw'; exact h9⟩) _ (.inl rfl)

set_option maxHeartbeats 400000 in
theorem bnext_nil  (w : World)  : Own2 (ι := Unit) Try.prog 13 [.pointer none] w [] (fun x => True) (fun x => .tuple [.int .i64 0, .bool false].toArray) (fun x => []) (fun x => []) := by
  refine g_startM Try.func13 rfl 22 rfl (by simp) (fps []) [] (WOK.start _ _) _ rfl ?_
  refine g_seq ?_
  refine g_region ?_
  refine s_q (q_assign rfl) rfl ?_
  refine s_q (q_assign rfl) rfl ?_
  refine g_nil ?_
  refine g_then ?_
  refine g_seq ?_
  refine g_region ?_
  refine g_op (g_alloc rfl fun b4 => ?_)
  refine g_op (g_alloc rfl fun b5 => ?_)
  refine g_op (g_store rfl rfl rfl rfl rfl rfl rfl ?_)
  refine g_op (g_store rfl rfl rfl rfl rfl rfl rfl ?_)
  refine g_blkc (b := b4) [Value.int .i64 ((0 : Int), false).1] rfl ?_
  refine g_blkc (b := b5) [Value.bool ((0 : Int), false).2] rfl ?_
  refine g_nil ?_
  refine g_then ?_
  refine g_seq ?_
  refine g_seq ?_
  refine g_region ?_
  refine s_q (q_move rfl) rfl ?_
  refine g_op (g_ownS [] rfl (fun w1 hw1 ho1 => by have h7 := entries_any none w1; exact h7) rfl ?_)
  rintro q8 _
  refine ⟨_, _, inferInstance, inferInstance, ?_⟩
  refine g_nil ?_
  refine g_then ?_
  refine g_block ?_
  refine g_rangeFunc2 (fst := []) (cap := [Value.pointer (some ⟨q8, 0, none⟩)]) (enc := (fun x : En => Value.agg x.c.toArray)) (all := ([] : List En)) rfl rfl [Res.blk q8 23 [Value.pointer none]] [Res.blk q8 23 [Value.pointer none]] [] (fun (y9 : Int × Bool) => [Res.blk b4 3 [Value.int .i64 (y9).1], Res.blk b5 4 [Value.bool (y9).2]]) (fun pre (y9 : Int × Bool) => y9 = nextE pre) (0, false) (rfl) (fun w1 hw1 => by have h9 := wok_sub (L' := [Res.blk q8 23 [Value.pointer none], Res.blk b4 3 [Value.int .i64 (((0 : Int), false)).1], Res.blk b5 4 [Value.bool (((0 : Int), false)).2]]) w1 hw1; exact h9) (fun w1 hw1 => by intro l9 B9 r9 hY9 hB9 hc9 ho9; exact ent1_nil l9 B9 r9 q8 w1 ho9 hB9) (fun x9 (y9 : Int × Bool) (z9 : Nat) => [(6, Value.pointer (some ⟨z9, 0, none⟩)), (4, Value.pointer (some ⟨b4, 0, none⟩)), (5, Value.pointer (some ⟨b5, 0, none⟩))]) (fun x9 (y9 : Int × Bool) (z9 : Nat) => [Res.blk z9 50 x9.c, Res.blk b4 3 [Value.int .i64 (y9).1], Res.blk b5 4 [Value.bool (y9).2]]) ?_ ?_ ?_
  · rintro l9 pre x9 ⟨m9, f9⟩ w9 hpre9 hp9
    refine g_setL (L' := [Res.blk b4 3 [Value.int .i64 m9], Res.blk b5 4 [Value.bool f9]]) rfl ?_
    refine g_region ?_
    refine g_op (g_alloc rfl fun b6 => ?_)
    refine g_op (g_storew rfl rfl rfl rfl rfl ?_)
    refine g_nil ?_
    exact g_asgx (b6) (by repeat (first | exact trivial | refine ⟨rfl, ?_⟩)) wok_sub
  · rintro l9 pre x9 ⟨m9, f9⟩ z9 w9 hpre9 hp9
    replace hp9 : (m9, f9) = nextE pre := hp9
    refine g_setL (L' := [Res.blk z9 50 x9.c, Res.blk b4 3 [Value.int .i64 m9], Res.blk b5 4 [Value.bool f9]]) rfl ?_
    refine g_block ?_
    refine g_seq ?_
    refine g_region ?_
    refine s_q (q_load rfl rfl) rfl ?_
    refine s_q (q_not rfl) rfl ?_
    refine s_q (q_move rfl) rfl ?_
    refine g_split 12 rfl (fun h1 => ?_) (fun h1 => ?_)
    · have hor : f9 = false ∨ x9.e < m9 := .inl (by simpa using h1)
      refine g_gf rfl rfl rfl rfl ?_
      refine g_gf rfl rfl rfl rfl ?_
      refine g_gf rfl rfl rfl rfl ?_
      refine g_gf rfl rfl rfl rfl ?_
      refine s_q (q_pick_t rfl rfl) rfl ?_
      refine g_nil ?_
      refine g_then ?_
      refine g_true rfl ?_
      refine g_region ?_
      refine s_q (q_field rfl) rfl ?_
      refine s_q (q_load rfl rfl) rfl ?_
      refine g_op (g_store rfl rfl rfl rfl rfl rfl rfl ?_)
      refine g_op (g_store rfl rfl rfl rfl rfl rfl rfl ?_)
      refine g_blkc (b := b4) [Value.int .i64 ((x9.e : Int), true).1] rfl ?_
      refine g_blkc (b := b5) [Value.bool ((x9.e : Int), true).2] rfl ?_
      refine g_nil ?_
      refine g_blk_n ?_
      exact g_round (fun w2 hw2 => ⟨(x9.e, true), by show _ = nextE (pre ++ [x9]); unfold nextE at hp9 ⊢; rw [List.foldl_append, ← hp9]; simp only [List.foldl_cons, List.foldl_nil, nstep]; rw [if_pos hor], by have h9 := wok_sub (L' := [Res.blk b4 3 [Value.int .i64 (((x9.e : Int), true)).1], Res.blk b5 4 [Value.bool (((x9.e : Int), true)).2]]) w2 hw2; exact h9⟩)
    · have hf9 : f9 = true := by simpa using h1
      refine s_qg (q_field rfl) rfl rfl rfl ?_
      refine s_qg (q_load rfl rfl) rfl rfl rfl ?_
      refine s_qg (q_load rfl rfl) rfl rfl rfl ?_
      refine s_qg (q_lss rfl rfl) rfl rfl rfl ?_
      refine s_q (q_pick_f rfl rfl) rfl ?_
      refine g_nil ?_
      refine g_then ?_
      refine g_cond rfl (fun h2 => ?_) (fun h2 => ?_)
      · have hor : f9 = false ∨ x9.e < m9 := .inr (of_decide_eq_true h2)
        refine g_region ?_
        refine s_q (q_field rfl) rfl ?_
        refine s_q (q_load rfl rfl) rfl ?_
        refine g_op (g_store rfl rfl rfl rfl rfl rfl rfl ?_)
        refine g_op (g_store rfl rfl rfl rfl rfl rfl rfl ?_)
        refine g_blkc (b := b4) [Value.int .i64 ((x9.e : Int), true).1] rfl ?_
        refine g_blkc (b := b5) [Value.bool ((x9.e : Int), true).2] rfl ?_
        refine g_nil ?_
        refine g_blk_n ?_
        exact g_round (fun w2 hw2 => ⟨(x9.e, true), by show _ = nextE (pre ++ [x9]); unfold nextE at hp9 ⊢; rw [List.foldl_append, ← hp9]; simp only [List.foldl_cons, List.foldl_nil, nstep]; rw [if_pos hor], by have h9 := wok_sub (L' := [Res.blk b4 3 [Value.int .i64 (((x9.e : Int), true)).1], Res.blk b5 4 [Value.bool (((x9.e : Int), true)).2]]) w2 hw2; exact h9⟩)
      · have hge : ¬ x9.e < m9 := of_decide_eq_false h2
        refine g_skip ?_
        refine g_blk_n ?_
        exact g_round (fun w2 hw2 => ⟨(m9, f9), by show _ = nextE (pre ++ [x9]); unfold nextE at hp9 ⊢; rw [List.foldl_append, ← hp9]; simp only [List.foldl_cons, List.foldl_nil, nstep]; rw [if_neg (fun hc => hc.elim (fun hc => absurd (hc.symm.trans hf9) (by decide)) hge)], by have h9 := wok_sub (L' := [Res.blk b4 3 [Value.int .i64 ((m9, f9)).1], Res.blk b5 4 [Value.bool ((m9, f9)).2]]) w2 hw2; exact h9⟩)
  rintro ⟨m8, f8⟩ hp9 m9
  refine g_setL (L' := [Res.obj m9 (.deferred (some [])), Res.blk q8 23 [Value.pointer none], Res.blk b4 3 [Value.int .i64 m8], Res.blk b5 4 [Value.bool f8]]) rfl ?_
  replace hp9 : (m8, f8) = nextE ([] : List En) := hp9
  refine g_blk_n ?_
  refine g_then ?_
  refine g_seq ?_
  refine d_region [] mixed rfl rfl ?_
  refine d_q 0 rfl (by kernel_rfl) (q_load rfl rfl) wok_sub rfl (ls' := #[true, false, false, false]) rfl ?_
  refine d_q 1 rfl (by kernel_rfl) (q_load rfl rfl) wok_sub rfl (ls' := #[true, true, false, false]) rfl ?_
  refine d_q 2 rfl (by kernel_rfl) (q_assign rfl) wok_sub rfl (ls' := #[true, true, true, false]) rfl ?_
  refine d_q 3 rfl (by kernel_rfl) (q_assign rfl) wok_sub rfl (ls' := #[true, true, true, true]) rfl ?_
  refine d_end (by kernel_rfl) (.inr wok_sub) ?_
  refine g_then ?_
  refine g_ret ?_
  exact finM2 rfl (.tmp rfl) (.tmp rfl) (fun w' hw' => ⟨(), (by first | exact trivial | (dsimp only; exact trivial)), by have h9 := hp9; unfold nextE at h9; injection h9 with h1 h2; subst h1; subst h2; rfl, by have h9 := wok_sub (L' := []) w' hw'; exact h9⟩) _ (.inl rfl)
end Go.Proofs.Ytgbghjnlicldnaa
