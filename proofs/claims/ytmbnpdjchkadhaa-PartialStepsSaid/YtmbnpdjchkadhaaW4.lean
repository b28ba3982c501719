/- walks of pay and Step -/
import Derived.Test.YtmbnpdjchkadhaaW3
namespace Go.Proofs.Ytmbnpdjchkadhaa
open Go.RowKit Go.Eg
set_option synthInstance.maxSize 3000
set_option linter.unusedSimpArgs false
set_option linter.unusedVariables false
def apV (x : V) (m : Int) (c : C) : V := { x with bal := IntKind.u64.wrap (x.bal - min m (avail x c)) }
def inB (out : List V) (r : R) : Prop := 0 ≤ r.i ∧ r.i < (out.length : Int)
instance (out : List V) (r : R) : Decidable (inB out r) := by unfold inB; exact inferInstance
theorem inB.lt {out : List V} {r : R} (h : inB out r) : r.i.toNat < out.length := by unfold inB at h; omega
def payO (c : C) (out : List V) (r : R) : List V := if h : inB out r then out.set r.i.toNat (apV (out[r.i.toNat]'h.lt) r.m c) else out
def payP (c : C) (out : List V) (paid : List Y) (r : R) : List Y := if h : inB out r then paid ++ [⟨r.i, min r.m (avail (out[r.i.toNat]'h.lt) c), false⟩] else paid
theorem payO_len (c : C) (out : List V) (r : R) : (payO c out r).length = out.length := by unfold payO; split <;> simp
def stepQ (c : C) (s : List V × List Y) (r : R) : List V × List Y := (payO c s.1 r, payP c s.1 s.2 r)
def run (c : C) (l : List V) (q : List R) : List V × List Y := q.foldl (stepQ c) (l, [])
theorem run_succ {c : C} {l : List V} {q : List R} {k : Nat} (h : k < q.length) : run c l (q.take (k + 1)) = stepQ c (run c l (q.take k)) q[k] := by
  unfold run
  rw [← List.take_append_getElem h, List.foldl_append]; rfl
theorem run_o {c : C} {l : List V} {q : List R} {k : Nat} (h : k < q.length) : (run c l (q.take (k + 1))).1 = payO c (run c l (q.take k)).1 q[k] := by rw [run_succ h]; rfl
theorem run_p {c : C} {l : List V} {q : List R} {k : Nat} (h : k < q.length) : (run c l (q.take (k + 1))).2 = payP c (run c l (q.take k)).1 (run c l (q.take k)).2 q[k] := by rw [run_succ h]; rfl
theorem foldl_len (c : C) : ∀ (q : List R) (s : List V × List Y), (q.foldl (stepQ c) s).1.length = s.1.length
  | [], _ => rfl
  | r :: q, s => by rw [List.foldl_cons, foldl_len c q]; exact payO_len c s.1 r
theorem run_len (c : C) (l : List V) (q : List R) : (run c l q).1.length = l.length := foldl_len c q (l, [])
theorem payP_len (c : C) (out : List V) (paid : List Y) (r : R) : (payP c out paid r).length ≤ paid.length + 1 := by unfold payP; split <;> simp
theorem foldp_len (c : C) : ∀ (q : List R) (s : List V × List Y), (q.foldl (stepQ c) s).2.length ≤ s.2.length + q.length
  | [], _ => by simp
  | r :: q, s => by
    rw [List.foldl_cons]
    have h1 := foldp_len c q (stepQ c s r)
    have h2 : (stepQ c s r).2.length ≤ s.2.length + 1 := payP_len c s.1 s.2 r
    simp only [List.length_cons]; omega
theorem runp_len (c : C) (l : List V) (q : List R) : (run c l q).2.length ≤ q.length := by have := foldp_len c q (l, []); simpa [run] using this
theorem payO_in {c : C} {out : List V} {r : R} {k : Nat} (hr : r.i = (k : Int)) (h : k < out.length) : payO c out r = out.set k (apV out[k] r.m c) := by
  obtain ⟨i, m⟩ := r
  simp only at hr; subst hr
  unfold payO; rw [dif_pos (show inB out ⟨(k : Int), m⟩ from ⟨by simp, by simpa using h⟩)]; rfl
theorem payP_in {c : C} {out : List V} {paid : List Y} {r : R} {k : Nat} (hr : r.i = (k : Int)) (h : k < out.length) : payP c out paid r = paid ++ [⟨(k : Int), min r.m (avail out[k] c), false⟩] := by
  obtain ⟨i, m⟩ := r
  simp only at hr; subst hr
  unfold payP; rw [dif_pos (show inB out ⟨(k : Int), m⟩ from ⟨by simp, by simpa using h⟩)]; rfl
theorem payO_out {c : C} {out : List V} {r : R} (h : ¬ inB out r) : payO c out r = out := by unfold payO; rw [dif_neg h]
theorem payP_out {c : C} {out : List V} {paid : List Y} {r : R} (h : ¬ inB out r) : payP c out paid r = paid := by unfold payP; rw [dif_neg h]

set_option maxHeartbeats 400000 in
theorem pay_any (bo bc bp : Nat) (A Ap : Option Addr) (n cap cp : Nat) (out : List V) (paid : List Y) (c : C) (r : R) (w : World) (hw : WOK (fps [Res.blk bo 36 [Value.slice A n cap], Res.row A n cap 24 7 ((out).map V.c), Res.blk bc 26 c.c, Res.blk bp 45 [Value.slice Ap (paid).length cp], Res.row Ap (paid).length cp 51 3 ((paid).map Y.c)]) w [Res.blk bo 36 [Value.slice A n cap], Res.row A n cap 24 7 ((out).map V.c), Res.blk bc 26 c.c, Res.blk bp 45 [Value.slice Ap (paid).length cp], Res.row Ap (paid).length cp 51 3 ((paid).map Y.c)] w) (hn : n = out.length) (hcap : n ≤ 1000000) (hpl : paid.length ≤ 1000000) : Own2 (ι := (Option Addr × Nat)) Try.prog 25 [.agg r.c.toArray, .pointer (some ⟨bo, 0, none⟩), .pointer (some ⟨bc, 0, none⟩), .pointer (some ⟨bp, 0, none⟩)] w [Res.blk bo 36 [Value.slice A n cap], Res.row A n cap 24 7 ((out).map V.c), Res.blk bc 26 c.c, Res.blk bp 45 [Value.slice Ap (paid).length cp], Res.row Ap (paid).length cp 51 3 ((paid).map Y.c)] (fun x => True) (fun x => .tuple #[]) (fun x => []) (fun x => [Res.blk bo 36 [Value.slice A n cap], Res.row A n cap 24 7 ((payO c out r).map V.c), Res.blk bc 26 c.c, Res.blk bp 45 [Value.slice x.1 (payP c out paid r).length x.2], Res.row x.1 (payP c out paid r).length x.2 51 3 ((payP c out paid r).map Y.c)]) := by
  refine g_start Try.func25 rfl 41 rfl (by simp) (fps [Res.blk bo 36 [Value.slice A n cap], Res.row A n cap 24 7 ((out).map V.c), Res.blk bc 26 c.c, Res.blk bp 45 [Value.slice Ap (paid).length cp], Res.row Ap (paid).length cp 51 3 ((paid).map Y.c)]) [Res.blk bo 36 [Value.slice A n cap], Res.row A n cap 24 7 ((out).map V.c), Res.blk bc 26 c.c, Res.blk bp 45 [Value.slice Ap (paid).length cp], Res.row Ap (paid).length cp 51 3 ((paid).map Y.c)] hw _ rfl ?_
  refine g_seq ?_
  refine g_region ?_
  refine g_op (g_box rfl rfl rfl fun b4 => ?_)
  refine g_nil ?_
  refine g_then ?_
  refine g_seq ?_
  refine g_seq ?_
  refine g_region ?_
  refine s_q (q_field rfl) rfl ?_
  refine s_q (q_load rfl rfl) rfl ?_
  refine s_q (q_lss rfl rfl) rfl ?_
  refine s_q (q_move rfl) rfl ?_
  refine g_split 10 rfl (fun h1 => ?_) (fun h1 => ?_)
  · refine g_gf rfl rfl rfl rfl ?_
    refine g_gf rfl rfl rfl rfl ?_
    refine g_gf rfl rfl rfl rfl ?_
    refine g_gf rfl rfl rfl rfl ?_
    refine g_gf rfl rfl rfl rfl ?_
    refine s_q (q_pick_t rfl rfl) rfl ?_
    refine g_nil ?_
    refine g_then ?_
    refine g_true rfl ?_
    refine g_ret ?_
    refine g_then_ret ?_
    have hno : ¬ inB out r := fun h => by simp at h1; exact absurd h.1 (by omega)
    exact fin0 rfl (fun w' hw' => ⟨(Ap, cp), (by first | exact trivial | (dsimp only; exact trivial)), rfl, by have h9 := wok_sub (L' := [Res.blk bo 36 [Value.slice A n cap], Res.row A n cap 24 7 ((out).map V.c), Res.blk bc 26 c.c, Res.blk bp 45 [Value.slice Ap (paid).length cp], Res.row Ap (paid).length cp 51 3 ((paid).map Y.c)]) w' hw'; show WOK _ _ [Res.blk bo 36 [Value.slice A n cap], Res.row A n cap 24 7 ((payO c out r).map V.c), Res.blk bc 26 c.c, Res.blk bp 45 [Value.slice ((Ap, cp)).1 (payP c out paid r).length ((Ap, cp)).2], Res.row ((Ap, cp)).1 (payP c out paid r).length ((Ap, cp)).2 51 3 ((payP c out paid r).map Y.c)] _; rw [payO_out hno, payP_out hno]; exact h9⟩) _ (.inl rfl)
  · refine s_qg (q_field rfl) rfl rfl rfl ?_
    refine s_qg (q_load rfl rfl) rfl rfl rfl ?_
    refine s_qg (q_load rfl rfl) rfl rfl rfl ?_
    refine s_qg (q_len rfl) rfl rfl rfl ?_
    refine s_qg (q_geq rfl rfl) rfl rfl rfl ?_
    refine s_q (q_pick_f rfl rfl) rfl ?_
    refine g_nil ?_
    refine g_then ?_
    refine g_cond rfl (fun h2 => ?_) (fun h2 => ?_)
    · refine g_ret ?_
      refine g_then_ret ?_
      have hno : ¬ inB out r := fun h => by simp at h2; exact absurd h.2 (by omega)
      exact fin0 rfl (fun w' hw' => ⟨(Ap, cp), (by first | exact trivial | (dsimp only; exact trivial)), rfl, by have h9 := wok_sub (L' := [Res.blk bo 36 [Value.slice A n cap], Res.row A n cap 24 7 ((out).map V.c), Res.blk bc 26 c.c, Res.blk bp 45 [Value.slice Ap (paid).length cp], Res.row Ap (paid).length cp 51 3 ((paid).map Y.c)]) w' hw'; show WOK _ _ [Res.blk bo 36 [Value.slice A n cap], Res.row A n cap 24 7 ((payO c out r).map V.c), Res.blk bc 26 c.c, Res.blk bp 45 [Value.slice ((Ap, cp)).1 (payP c out paid r).length ((Ap, cp)).2], Res.row ((Ap, cp)).1 (payP c out paid r).length ((Ap, cp)).2 51 3 ((payP c out paid r).map Y.c)] _; rw [payO_out hno, payP_out hno]; exact h9⟩) _ (.inl rfl)
    · obtain ⟨k, hk0⟩ : ∃ k : Nat, r.i = k := ⟨r.i.toNat, by simp at h1; omega⟩
      have hk : k < out.length := by simp at h2; omega
      refine g_skip ?_
      refine g_then ?_
      refine g_seq ?_
      refine d_region [13] mixed rfl rfl ?_
      refine d_q 0 rfl (by kernel_rfl) (q_load rfl rfl) wok_sub rfl (ls' := #[true, false, false, false, false, false, false, false, false, false, false, false, false, false, false]) rfl ?_
      refine d_q 1 rfl (by kernel_rfl) (q_field rfl) wok_sub rfl (ls' := #[true, true, false, false, false, false, false, false, false, false, false, false, false, false, false]) rfl ?_
      refine d_q 2 rfl (by kernel_rfl) (q_load rfl rfl) wok_sub rfl (ls' := #[true, true, true, false, false, false, false, false, false, false, false, false, false, false, false]) rfl ?_
      refine g_val 20 (v' := .int .i64 ((k : Nat) : Int)) rfl (by rw [hk0]) ?_
      refine d_q 3 rfl (by kernel_rfl) (q_index (i := k) rfl rfl rfl (InRow.rdb (A := A) (els := (out).map V.c) (by simpa using hn) (map_cat (c := V.c) (fun _ => rfl) _)) (by first | omega | (simp; done) | (simp; omega))) wok_sub rfl (ls' := #[true, true, true, true, false, false, false, false, false, false, false, false, false, false, false]) rfl ?_
      refine d_q 4 rfl (by kernel_rfl) (q_load_ew (i := k) rfl (InRow.rdb (A := A) (els := (out).map V.c) (by simpa using hn) (map_cat (c := V.c) (fun _ => rfl) _)) (map_get (by first | exact (by first | omega | (simp; done) | (simp; omega)) | omega | (simp_all; done) | (simp_all; omega))) rfl) wok_sub rfl (ls' := #[true, true, true, true, true, false, false, false, false, false, false, false, false, false, false]) rfl ?_
      refine d_q 5 rfl (by kernel_rfl) (q_field rfl) wok_sub rfl (ls' := #[true, true, true, true, true, true, false, false, false, false, false, false, false, false, false]) rfl ?_
      refine d_q 6 rfl (by kernel_rfl) (q_load rfl rfl) wok_sub rfl (ls' := #[true, true, true, true, true, true, true, false, false, false, false, false, false, false, false]) rfl ?_
      refine d_q 7 rfl (by kernel_rfl) (q_loadw rfl rfl) wok_sub rfl (ls' := #[true, true, true, true, true, true, true, true, false, false, false, false, false, false, false]) rfl ?_
      refine d_many [8, 12] (by kernel_rfl) (by simp) wok_sub ⟨d_pick rfl (ls' := #[true, true, true, true, true, true, true, true, true, false, false, false, false, false, false]) rfl (g_pure rfl (fun w hw => apply_any _ _ _ w) rfl ?_), d_pick rfl (ls' := #[true, true, true, true, true, true, true, true, false, false, false, false, true, false, false]) rfl (g_alloc rfl fun b5 => ?_), trivial⟩
      · refine d_q 9 rfl (by kernel_rfl) (q_move rfl) wok_sub rfl (ls' := #[true, true, true, true, true, true, true, true, true, true, false, false, false, false, false]) rfl ?_
        refine d_q 10 rfl (by kernel_rfl) (q_extract rfl rfl) wok_sub rfl (ls' := #[true, true, true, true, true, true, true, true, true, true, true, false, false, false, false]) rfl ?_
        refine d_p 11 rfl (by kernel_rfl) (fun _ => q_extract rfl rfl) rfl (ls' := #[true, true, true, true, true, true, true, true, true, true, true, true, false, false, false]) rfl ?_
        refine d_op 12 rfl (by kernel_rfl) (ls' := #[true, true, true, true, true, true, true, true, true, true, true, true, true, false, false]) rfl wok_sub (g_alloc rfl fun b5 => ?_)
        refine d_op 13 rfl (by kernel_rfl) (ls' := #[true, true, true, true, true, true, true, true, true, true, true, true, true, true, false]) rfl wok_sub (g_storew rfl rfl rfl rfl rfl ?_)
        refine d_p 14 rfl (by kernel_rfl) (fun _ => q_assign rfl) rfl (ls' := #[true, true, true, true, true, true, true, true, true, true, true, true, true, true, true]) rfl ?_
        refine d_end (by kernel_rfl) (.inl rfl) ?_
        refine g_then ?_
        refine g_seq ?_
        refine g_region ?_
        refine s_q (q_load rfl rfl) rfl ?_
        refine s_q (q_field rfl) rfl ?_
        refine s_q (q_load rfl rfl) rfl ?_
        refine g_val 31 (v' := .int .i64 ((k : Nat) : Int)) rfl (by rw [hk0]) ?_
        refine s_q (q_loadw rfl rfl) rfl ?_
        refine s_q (q_index (i := k) rfl rfl rfl (InRow.rdb (A := A) (els := (out).map V.c) (by simpa using hn) (map_cat (c := V.c) (fun _ => rfl) _)) (by first | omega | (simp; done) | (simp; omega))) rfl ?_
        refine g_op (g_store_el (A := A) (i := k) (o := 0) (cs' := V.c ((apV out[k] r.m c))) rfl rfl rfl rfl rfl (map_get (by first | exact (by first | omega | (simp; done) | (simp; omega)) | omega | (simp_all; done) | (simp_all; omega))) (by first | (simp; done) | exact Nat.le_refl _) rfl (splice_all rfl) ?_)
        refine g_rowels (A := A) ((out.set k (apV out[k] r.m c)).map V.c) (by rw [List.map_set]) ?_
        refine g_nil ?_
        refine g_then ?_
        refine g_region ?_
        refine s_q (q_load rfl rfl) rfl ?_
        refine s_q (q_field rfl) rfl ?_
        refine s_q (q_load rfl rfl) rfl ?_
        refine g_val 36 (v' := .int .i64 ((k : Nat) : Int)) rfl (by rw [hk0]) ?_
        refine s_q (q_move rfl) rfl ?_
        refine s_q (q_build rfl rfl) rfl ?_
        refine g_op (g_lit rfl rfl rfl rfl rfl fun b39 => ?_)
        refine g_blkc (b := b39) ((([(Y.mk ((k : Nat) : Int) (min r.m (avail out[k] c)) false)] : List Y).map Y.c).flatten) rfl ?_
        refine g_op (g_append (A := Ap) (els := (paid).map Y.c) (news := (([(Y.mk ((k : Nat) : Int) (min r.m (avail out[k] c)) false)] : List Y).map Y.c)) rfl rfl (InL.rdb (b := b39) rfl (by simp [Y.c]) rfl) (map_one (c := Y.c) (by intro x; simp [Y.c, Value.oneCell']) _) (by first | omega | (simp; omega) | (simp_all; omega)) rfl fun A40 cap40 => ⟨_, inferInstance, ?_⟩)
        refine g_rowels (A := A40) (((paid ++ [(Y.mk ((k : Nat) : Int) (min r.m (avail out[k] c)) false)])).map Y.c) (by first | rfl | exact List.map_append.symm | (simp; done)) ?_
        refine g_op (g_store rfl rfl rfl rfl rfl rfl rfl ?_)
        refine g_nil ?_
        refine g_rown (A := A40) (paid ++ [(Y.mk ((k : Nat) : Int) (min r.m (avail out[k] c)) false)]).length (by simp) ?_
        refine g_blkc (b := bp) [Value.slice A40 (paid ++ [(Y.mk ((k : Nat) : Int) (min r.m (avail out[k] c)) false)]).length cap40] (by simp [splice]) ?_
        exact fin0 rfl (fun w' hw' => ⟨(A40, cap40), (by first | exact trivial | (dsimp only; exact trivial)), rfl, by have h9 := wok_sub (L' := [Res.blk bo 36 [Value.slice A n cap], Res.row A n cap 24 7 (((out.set k (apV out[k] r.m c))).map V.c), Res.blk bc 26 c.c, Res.blk bp 45 [Value.slice A40 ((paid ++ [(Y.mk ((k : Nat) : Int) (min r.m (avail out[k] c)) false)])).length cap40], Res.row A40 ((paid ++ [(Y.mk ((k : Nat) : Int) (min r.m (avail out[k] c)) false)])).length cap40 51 3 (((paid ++ [(Y.mk ((k : Nat) : Int) (min r.m (avail out[k] c)) false)])).map Y.c)]) w' hw'; show WOK _ _ [Res.blk bo 36 [Value.slice A n cap], Res.row A n cap 24 7 ((payO c out r).map V.c), Res.blk bc 26 c.c, Res.blk bp 45 [Value.slice ((A40, cap40)).1 (payP c out paid r).length ((A40, cap40)).2], Res.row ((A40, cap40)).1 (payP c out paid r).length ((A40, cap40)).2 51 3 ((payP c out paid r).map Y.c)] _; rw [payO_in hk0 hk, payP_in hk0 hk]; exact h9⟩) _ (.inr rfl)
      · refine d_op 8 rfl (by kernel_rfl) (ls' := #[true, true, true, true, true, true, true, true, true, false, false, false, true, false, false]) rfl wok_sub (g_pure rfl (fun w hw => apply_any _ _ _ w) rfl ?_)
        refine d_q 9 rfl (by kernel_rfl) (q_move rfl) wok_sub rfl (ls' := #[true, true, true, true, true, true, true, true, true, true, false, false, true, false, false]) rfl ?_
        refine d_q 10 rfl (by kernel_rfl) (q_extract rfl rfl) wok_sub rfl (ls' := #[true, true, true, true, true, true, true, true, true, true, true, false, true, false, false]) rfl ?_
        refine d_p 11 rfl (by kernel_rfl) (fun _ => q_extract rfl rfl) rfl (ls' := #[true, true, true, true, true, true, true, true, true, true, true, true, true, false, false]) rfl ?_
        refine d_op 13 rfl (by kernel_rfl) (ls' := #[true, true, true, true, true, true, true, true, true, true, true, true, true, true, false]) rfl wok_sub (g_storew rfl rfl rfl rfl rfl ?_)
        refine d_p 14 rfl (by kernel_rfl) (fun _ => q_assign rfl) rfl (ls' := #[true, true, true, true, true, true, true, true, true, true, true, true, true, true, true]) rfl ?_
        refine d_end (by kernel_rfl) (.inl rfl) ?_
        refine g_then ?_
        refine g_seq ?_
        refine g_region ?_
        refine s_q (q_load rfl rfl) rfl ?_
        refine s_q (q_field rfl) rfl ?_
        refine s_q (q_load rfl rfl) rfl ?_
        refine g_val 31 (v' := .int .i64 ((k : Nat) : Int)) rfl (by rw [hk0]) ?_
        refine s_q (q_loadw rfl rfl) rfl ?_
        refine s_q (q_index (i := k) rfl rfl rfl (InRow.rdb (A := A) (els := (out).map V.c) (by simpa using hn) (map_cat (c := V.c) (fun _ => rfl) _)) (by first | omega | (simp; done) | (simp; omega))) rfl ?_
        refine g_op (g_store_el (A := A) (i := k) (o := 0) (cs' := V.c ((apV out[k] r.m c))) rfl rfl rfl rfl rfl (map_get (by first | exact (by first | omega | (simp; done) | (simp; omega)) | omega | (simp_all; done) | (simp_all; omega))) (by first | (simp; done) | exact Nat.le_refl _) rfl (splice_all rfl) ?_)
        refine g_rowels (A := A) ((out.set k (apV out[k] r.m c)).map V.c) (by rw [List.map_set]) ?_
        refine g_nil ?_
        refine g_then ?_
        refine g_region ?_
        refine s_q (q_load rfl rfl) rfl ?_
        refine s_q (q_field rfl) rfl ?_
        refine s_q (q_load rfl rfl) rfl ?_
        refine g_val 36 (v' := .int .i64 ((k : Nat) : Int)) rfl (by rw [hk0]) ?_
        refine s_q (q_move rfl) rfl ?_
        refine s_q (q_build rfl rfl) rfl ?_
        refine g_op (g_lit rfl rfl rfl rfl rfl fun b39 => ?_)
        refine g_blkc (b := b39) ((([(Y.mk ((k : Nat) : Int) (min r.m (avail out[k] c)) false)] : List Y).map Y.c).flatten) rfl ?_
        refine g_op (g_append (A := Ap) (els := (paid).map Y.c) (news := (([(Y.mk ((k : Nat) : Int) (min r.m (avail out[k] c)) false)] : List Y).map Y.c)) rfl rfl (InL.rdb (b := b39) rfl (by simp [Y.c]) rfl) (map_one (c := Y.c) (by intro x; simp [Y.c, Value.oneCell']) _) (by first | omega | (simp; omega) | (simp_all; omega)) rfl fun A40 cap40 => ⟨_, inferInstance, ?_⟩)
        refine g_rowels (A := A40) (((paid ++ [(Y.mk ((k : Nat) : Int) (min r.m (avail out[k] c)) false)])).map Y.c) (by first | rfl | exact List.map_append.symm | (simp; done)) ?_
        refine g_op (g_store rfl rfl rfl rfl rfl rfl rfl ?_)
        refine g_nil ?_
        refine g_rown (A := A40) (paid ++ [(Y.mk ((k : Nat) : Int) (min r.m (avail out[k] c)) false)]).length (by simp) ?_
        refine g_blkc (b := bp) [Value.slice A40 (paid ++ [(Y.mk ((k : Nat) : Int) (min r.m (avail out[k] c)) false)]).length cap40] (by simp [splice]) ?_
        exact fin0 rfl (fun w' hw' => ⟨(A40, cap40), (by first | exact trivial | (dsimp only; exact trivial)), rfl, by have h9 := wok_sub (L' := [Res.blk bo 36 [Value.slice A n cap], Res.row A n cap 24 7 (((out.set k (apV out[k] r.m c))).map V.c), Res.blk bc 26 c.c, Res.blk bp 45 [Value.slice A40 ((paid ++ [(Y.mk ((k : Nat) : Int) (min r.m (avail out[k] c)) false)])).length cap40], Res.row A40 ((paid ++ [(Y.mk ((k : Nat) : Int) (min r.m (avail out[k] c)) false)])).length cap40 51 3 (((paid ++ [(Y.mk ((k : Nat) : Int) (min r.m (avail out[k] c)) false)])).map Y.c)]) w' hw'; show WOK _ _ [Res.blk bo 36 [Value.slice A n cap], Res.row A n cap 24 7 ((payO c out r).map V.c), Res.blk bc 26 c.c, Res.blk bp 45 [Value.slice ((A40, cap40)).1 (payP c out paid r).length ((A40, cap40)).2], Res.row ((A40, cap40)).1 (payP c out paid r).length ((A40, cap40)).2 51 3 ((payP c out paid r).map Y.c)] _; rw [payO_in hk0 hk, payP_in hk0 hk]; exact h9⟩) _ (.inr rfl)

set_option maxHeartbeats 400000 in
theorem step_any (A B : Option Addr) (n cap capq P : Nat) (l : List V) (q : List R) (c : C) (w : World) (hl : Rd w [] A n 7 (l.map V.c)) (hq : Rd w [] B q.length 2 (q.map R.c)) (hcq : q.length ≤ capq) (hb : n ≤ 1000000) (hbq : q.length ≤ 1000000) (hP : c.parts = ((P : Nat) : Int)) : Own2 (ι := (Option Addr × Nat × Option Addr × Nat)) Try.prog 16 [.slice A n cap, .slice B q.length capq, c.v] w [] (fun x => True) (fun x => .tuple [.slice x.1 l.length x.2.1, .slice x.2.2.1 (pos (run c l (q.take (min q.length P))).2).length x.2.2.2, .int .i64 (((min q.length P) : Nat) : Int)].toArray) (fun x => [Res.row x.1 l.length x.2.1 24 7 ((run c l (q.take (min q.length P))).1.map V.c), Res.row x.2.2.1 (pos (run c l (q.take (min q.length P))).2).length x.2.2.2 51 3 ((pos (run c l (q.take (min q.length P))).2).map Y.c)]) (fun x => []) := by
  refine g_start Try.func16 rfl 39 rfl (by simp) (fps []) [] (WOK.start _ _) _ rfl ?_
  have hln : n = l.length := by have := hl.old.len; simpa using this
  refine g_seq ?_
  refine g_region ?_
  refine g_op (g_box rfl rfl rfl fun b5 => ?_)
  refine s_q (q_assign rfl) rfl ?_
  refine s_q (q_assign rfl) rfl ?_
  refine s_q (q_assign rfl) rfl ?_
  refine g_nil ?_
  refine g_then ?_
  refine g_seq ?_
  refine g_region ?_
  refine s_q (q_move rfl) rfl ?_
  refine g_op (g_ownS [] rfl (fun w1 hw1 ho1 => by have h7 := clone_v A (n) (cap) (l) w1 (Rd.ofRd hw1 hl (by omega)) (by first | omega | (simp; omega)); exact h7) rfl ?_)
  rintro ⟨A16, cap16⟩ _
  refine ⟨_, _, inferInstance, inferInstance, ?_⟩
  refine g_op (g_alloc rfl fun b9 => ?_)
  refine g_op (g_store rfl rfl rfl rfl rfl rfl rfl ?_)
  refine g_blkc (b := b9) [Value.slice A16 (l).length cap16] (by simp [splice]) ?_
  refine g_nil ?_
  refine g_then ?_
  refine g_seq ?_
  refine g_region ?_
  refine g_op (g_alloc rfl fun b10 => ?_)
  refine g_nil ?_
  refine g_then ?_
  refine g_seq ?_
  refine g_region ?_
  refine s_q (q_funcL rfl rfl (fun _ => rfl)) rfl ?_
  refine g_nores none 51 3 ?_
  refine g_rowels (A := none) ((run c l (q.take 0)).2.map Y.c) (by simp [run]) ?_
  refine g_rown (A := none) (run c l (q.take 0)).2.length (by simp [run]) ?_
  refine g_blkc (b := b10) [Value.slice none (run c l (q.take 0)).2.length 0] (by simp [run]) ?_
  refine g_rowels (A := A16) ((run c l (q.take 0)).1.map V.c) (by simp [run]) ?_
  refine s_q (q_assign rfl) rfl ?_
  refine g_nil ?_
  refine g_then ?_
  refine g_seq ?_
  refine g_region ?_
  refine s_q (q_move rfl) rfl ?_
  refine s_q (q_len rfl) rfl ?_
  refine s_q (q_field rfl) rfl ?_
  refine s_q (q_load rfl rfl) rfl ?_
  refine s_q (q_min rfl rfl) rfl ?_
  refine g_val 22 (v' := .int .i64 (((min q.length P) : Nat) : Int)) rfl (by rw [hP]; congr 1; omega) ?_
  refine s_q (q_assign rfl) rfl ?_
  refine g_nil ?_
  refine g_then ?_
  refine g_seq ?_
  refine g_seq ?_
  refine g_region ?_
  refine s_q (q_move rfl) rfl ?_
  refine s_q (q_move rfl) rfl ?_
  refine s_q (q_slice_h (h := (min q.length P)) rfl rfl rfl (by omega)) rfl ?_
  refine s_q (q_len rfl) rfl ?_
  refine s_q (q_move rfl) rfl ?_
  refine g_nil ?_
  refine g_then ?_
  refine g_block ?_
  refine g_loopk [6, 7, 8, 9, 10, 11, 12, 25, 26] (fun (x : Nat × Option Addr × Nat) => [(27, .int .i64 ((x.1 : Nat) : Int))]) (fun (x : Nat × Option Addr × Nat) => [Res.blk b9 36 [Value.slice A16 (l).length cap16], Res.row A16 (l).length cap16 24 7 (((run c l (q.take x.1)).1).map V.c), Res.blk b5 26 c.c, Res.blk b10 45 [Value.slice x.2.1 ((run c l (q.take x.1)).2).length x.2.2], Res.row x.2.1 ((run c l (q.take x.1)).2).length x.2.2 51 3 (((run c l (q.take x.1)).2).map Y.c)]) (fun (x : Nat × Option Addr × Nat) => x.1 ≤ (min q.length P)) (fun (x : Nat × Option Addr × Nat) => (min q.length P) - x.1) (0, none, 0) (by (try dsimp only); exact Nat.zero_le _) rfl (by repeat (first | exact trivial | refine ⟨rfl, ?_⟩)) wok_sub ?_
  rintro ⟨k, A, cap⟩ le_k
  replace le_k : k ≤ (min q.length P) := le_k
  refine g_setL (L' := [Res.blk b9 36 [Value.slice A16 (l).length cap16], Res.row A16 (l).length cap16 24 7 (((run c l (q.take k)).1).map V.c), Res.blk b5 26 c.c, Res.blk b10 45 [Value.slice A ((run c l (q.take k)).2).length cap], Res.row A ((run c l (q.take k)).2).length cap 51 3 (((run c l (q.take k)).2).map Y.c)]) rfl ?_
  refine g_val 27 (v' := .int .i64 ((k : Nat) : Int)) rfl rfl ?_
  have hr1 := runp_len c l (q.take k)
  have hr2 : (q.take k).length ≤ k := List.length_take_le _ _
  have hr3 := Rd.old hl
  refine g_seq ?_
  refine g_region ?_
  refine s_q (q_lss rfl rfl) rfl ?_
  refine g_nil ?_
  refine g_then ?_
  refine g_seq ?_
  refine g_cond rfl (fun h1 => ?_) (fun h1 => ?_)
  · have lt_k : k < (min q.length P) := by have h9 := of_decide_eq_true h1; omega
    refine g_skip ?_
    refine g_then ?_
    refine g_seq ?_
    refine g_block ?_
    refine g_seq ?_
    refine g_region ?_
    refine s_q (q_index (i := k) rfl rfl rfl (hq.rdb.h (cap := capq) (by omega) hcq) (by first | exact lt_k | omega)) rfl ?_
    refine s_q (q_load_ew (i := k) rfl (hq.rdb.h (cap := capq) (by omega) hcq) (take_get (l := q) (m := (min q.length P)) (by first | exact (by first | exact lt_k | omega) | omega) (by omega)) rfl) rfl ?_
    refine g_op (g_alloc rfl fun b14 => ?_)
    refine g_op (g_storew rfl rfl rfl rfl rfl ?_)
    refine g_nil ?_
    refine g_then ?_
    refine g_region ?_
    refine s_q (q_move rfl) rfl ?_
    refine s_q (q_loadw rfl rfl) rfl ?_
    refine g_op (g_ownV [Res.blk b9 36 [Value.slice A16 (l).length cap16], Res.row A16 (l).length cap16 24 7 (((run c l (q.take k)).1).map V.c), Res.blk b5 26 c.c, Res.blk b10 45 [Value.slice A ((run c l (q.take k)).2).length cap], Res.row A ((run c l (q.take k)).2).length cap 51 3 (((run c l (q.take k)).2).map Y.c)] rfl rfl (fun w1 hw1 ho1 => by have h7 := pay_any b9 b5 b10 A16 A (l).length cap16 cap (run c l (q.take k)).1 (run c l (q.take k)).2 c (q[k]) w1 ho1 (run_len _ _ _).symm (by omega) (by omega); exact h7) rfl ?_)
    rintro ⟨A33, cap33⟩ _
    refine ⟨_, _, inferInstance, inferInstance, ?_⟩
    refine g_nil ?_
    refine g_blk_n ?_
    refine g_then ?_
    refine g_region ?_
    refine s_q (q_inc rfl rfl (by omega)) rfl ?_
    refine s_q (q_move rfl) rfl ?_
    refine g_nil ?_
    have hkq : k < q.length := by omega
    rw [← run_o hkq, ← run_p hkq]
    exact g_again ((k + 1), A33, cap33) (by (try dsimp only); exact (by first | exact lt_k | omega)) (by first | omega | (simp only; omega)) (by repeat (first | exact trivial | refine ⟨rfl, ?_⟩)) wok_sub
  · have eq_k : k = (min q.length P) := by have h9 := of_decide_eq_false h1; omega
    refine g_exit ?_
    refine g_then_x (g_then_x (g_blk_hit ?_))
    refine g_then ?_
    refine g_seq ?_
    refine d_regionL (L0 := [Res.blk b9 36 [Value.slice A16 (l).length cap16], Res.blk b10 45 [Value.slice A (run c l (q.take k)).2.length cap]]) [] mixed rfl rfl wok_sub ?_
    refine d_q 0 rfl (by kernel_rfl) (q_load rfl rfl) wok_sub rfl (ls' := #[true, false, false, false, false, false, false]) rfl ?_
    refine d_q 1 rfl (by kernel_rfl) (q_load rfl rfl) wok_sub rfl (ls' := #[true, true, false, false, false, false, false]) rfl ?_
    refine d_q 3 rfl (by kernel_rfl) (q_move rfl) wok_sub rfl (ls' := #[true, true, false, true, false, false, false]) rfl ?_
    refine d_op 2 rfl (by kernel_rfl) (ls' := #[true, true, true, true, false, false, false]) rfl wok_sub (g_ownS [Res.row A ((run c l (q.take k)).2.length) cap 51 3 (((run c l (q.take k)).2).map Y.c)] rfl (fun w1 hw1 ho1 => by have h7 := positive_any A ((run c l (q.take k)).2.length) (cap) ((run c l (q.take k)).2) w1 ho1 (by first | assumption | (simp; done)) (by first | assumption | omega); exact h7) rfl ?_)
    rintro ⟨A37, cap37⟩ _
    refine ⟨_, _, inferInstance, inferInstance, ?_⟩
    refine d_q 4 rfl (by kernel_rfl) (q_assign rfl) wok_sub rfl (ls' := #[true, true, true, true, true, false, false]) rfl ?_
    refine d_q 5 rfl (by kernel_rfl) (q_assign rfl) wok_sub rfl (ls' := #[true, true, true, true, true, true, false]) rfl ?_
    refine d_q 6 rfl (by kernel_rfl) (q_assign rfl) wok_sub rfl (ls' := #[true, true, true, true, true, true, true]) rfl ?_
    refine d_end (by kernel_rfl) (.inr wok_sub) ?_
    refine g_then ?_
    refine g_ret ?_
    exact fin3 rfl (.tmp rfl) (.tmp rfl) (.tmp rfl) (fun w' hw' => ⟨(A16, cap16, A37, cap37), (by first | exact trivial | (dsimp only; exact trivial)), by rw [← eq_k], by have h9 := wok_sub (L' := [Res.row A16 l.length cap16 24 7 ((run c l (q.take k)).1.map V.c), Res.row A37 (pos (run c l (q.take k)).2).length cap37 51 3 ((pos (run c l (q.take k)).2).map Y.c)]) w' hw'; show WOK _ _ [Res.row ((A16, cap16, A37, cap37)).1 l.length ((A16, cap16, A37, cap37)).2.1 24 7 ((run c l (q.take (min q.length P))).1.map V.c), Res.row ((A16, cap16, A37, cap37)).2.2.1 (pos (run c l (q.take (min q.length P))).2).length ((A16, cap16, A37, cap37)).2.2.2 51 3 ((pos (run c l (q.take (min q.length P))).2).map Y.c)] _; rw [← eq_k]; exact h9⟩) _ (.inl rfl)
end Go.Proofs.Ytmbnpdjchkadhaa
