/- TopForced: for every configuration and all operations the law returns true. No condition. Part 41 of 42. -/
import Derived.Test.YtdddiilocbbkkaaGreatTF40
set_option linter.unusedVariables false
set_option linter.unusedSimpArgs false
namespace Go.Proofs.YtdddiilocbbkkaaGreat
open Go.RowKit Go.Eg
set_option maxHeartbeats 4000000
set_option synthInstance.maxSize 3000
set_option maxRecDepth 100000
def c1R : C := { dflt with elen := 1 }
def opsR : List Op := ([⟨1, 0, 0, 20⟩, ⟨7, 0, 0, 0⟩, ⟨2, 0, 0, 0⟩] ++ List.replicate 4 ⟨7, 0, 0, 0⟩ : List Op)
def bsR : List Nat := opsR.flatMap wrB
theorem opsR_ok : ∀ y ∈ opsR, y.ok ∧ okE y = true := by
 intro y hy
 have h : y = ⟨1, 0, 0, 20⟩ ∨ y = ⟨7, 0, 0, 0⟩ ∨ y = ⟨2, 0, 0, 0⟩ := by
  simp [opsR] at hy
  rcases hy with h | h | h | h
  ·exact .inl h
  ·exact .inr (.inl h)
  ·exact .inr (.inr h)
  ·exact .inr (.inl h)
 rcases h with rfl | rfl | rfl
 ·exact ⟨by constructor <;> simp, by decide +kernel⟩
 ·exact ⟨by constructor <;> simp, by decide +kernel⟩
 ·exact ⟨by constructor <;> simp, by decide +kernel⟩
theorem bsR_by : ∀ b ∈ bsR, b < 256 := fun b hb => by
 obtain ⟨y, _, hb⟩ := List.mem_flatMap.1 hb
 exact wrB_by b hb
theorem c1R_chk : chk c1R = 0 := by decide +kernel
theorem c1R_ok : c1R.ok := by constructor <;> simp [c1R, dflt]
theorem runR : (runE (newE c1R) (decL bsR)).1.paid = 20 ∧ (runE (newE c1R) (decL bsR)).1.ep = 5 ∧ (runE (newE c1R) (decL bsR)).2.length = 7 := by decide +kernel
theorem runs_any  (w : World)  : Pur Tryz.prog 9 [] w (.bool true) := by
 refine g_st Tryz.func9 47 (WOK.start [] _) ?_
 refine rn [1,3,0,1] ?_
 refine g_op (zG rfl (fun w hw => dflt_any w) rfl ?_)
 refine g_op (zI rfl fun b1 => ?_)
 refine rn [33,0,1,4] ?_
 refine g_op (zP rfl rfl rfl rfl rfl rfl rfl ?_)
 refine zJ (b := b1) (C.c c1R) (by rfl) ?_
 refine rn [0,1,49,49,49] ?_
 refine g_op (g_lit rfl rfl rfl rfl rfl fun b12 => ?_)
 refine zJ (b := b12) ((([(Op.mk 1 0 0 20), (Op.mk 7 0 0 0), (Op.mk 2 0 0 0)] : List Op).map Op.c).flatten) rfl ?_
 refine g_op (zH [] rfl (fun w1 hw1 ho1 => by have h7 := ticks_any 4 w1 (by omega); exact h7) rfl ?_)
 rintro ⟨A13, cap13⟩ _
 refine ii ?_
 refine xN (b := b12) 4 3 (([(Op.mk 1 0 0 20), (Op.mk 7 0 0 0), (Op.mk 2 0 0 0)] : List Op).map Op.c) (zM (c := Op.c) (fun _ => rfl) _) rfl rfl (by decide) ?_
 refine g_op (zY (A := (some ⟨b12, 0, none⟩)) (els := (([(Op.mk 1 0 0 20), (Op.mk 7 0 0 0), (Op.mk 2 0 0 0)] : List Op)).map Op.c) (news := (((List.replicate 4 (Op.mk 7 0 0 0))).map Op.c)) rfl rfl (InRow.rdb (A := A13) (els := ((List.replicate 4 (Op.mk 7 0 0 0))).map Op.c) (by first | rfl | assumption | (simp; done) | (simp_all; done) | (simp; omega) | (simp_all; omega)) (zM (c := Op.c) (fun _ => rfl) _)) (yG (c := Op.c) (by intro x; simp [Op.c, Value.oneCell']) _) (by first | omega | (simp; done)) rfl fun A14 cap14 => ⟨_, inferInstance, ?_⟩)
 refine zF (A := A14) (((([(Op.mk 1 0 0 20), (Op.mk 7 0 0 0), (Op.mk 2 0 0 0)] : List Op) ++ (List.replicate 4 (Op.mk 7 0 0 0)))).map Op.c) (by first | rfl | exact List.map_append.symm | (simp; done)) ?_
 refine zF (A := A14) (opsR.map Op.c) (by rfl) ?_
 refine yC (A := A14) opsR.length (by rfl) ?_
 refine g_val 14 (v' := .slice A14 opsR.length cap14) rfl (by rfl) ?_
 refine g_op (zH [] rfl (fun w1 hw1 ho1 => by have h7 := senc_any A14 (opsR.length) (cap14) opsR w1 (Rd.ofRow (A := A14) hw1) (by decide) opsR_ok; exact h7) rfl ?_)
 rintro ⟨A15, cap15⟩ _
 refine ii ?_
 refine zF (A := A15) (bsR.map (fun v : Nat => [Value.int .u8 ((v : Nat) : Int)])) (by rfl) ?_
 refine yC (A := A15) bsR.length (by rfl) ?_
 refine g_val 15 (v' := .tuple [.slice A15 bsR.length cap15, .bool true].toArray) rfl (by rfl) ?_
 have hbl : bsR.length ≤ 1000 := by decide +kernel
 refine rn [2,40,40,3,3,0,1,45,2] ?_
 refine g_op (zH [] rfl (fun w1 hw1 ho1 => by have h7 := run_any9 c1R A15 (bsR.length) (cap15) bsR w1 c1R_chk c1R_ok (Rd.ofRow (A := A15) hw1) (row_le (A := A15) hw1) (by omega) bsR_by; exact h7) rfl ?_)
 rintro ⟨p21, a21, sn21, A21, c21, xs⟩ ⟨hr9, hx9⟩
 refine ii ?_
 simp only at hr9 hx9
 have hxl : xs.length = 7 := by rw [← runR.2.2, ← hx9]; simp
 refine rn [2,40,40] ?_
 refine g_op (zI rfl fun b4 => ?_)
 refine rn [33,3,0,1,2,2,22,2,22,44] ?_
 refine yD 27 (b := true) rfl (rfl) ?_
 refine rn [41,2,22,4,22,4,22,5,22,44] ?_
 refine yD 33 (b := true) rfl (by rw [runR.1]; rfl) ?_
 refine rn [41,2,22,4,22,4,22,5,22,44] ?_
 refine yD 39 (b := true) rfl (by rw [runR.2.1]; rfl) ?_
 refine rn [41,2,22,4,22,5,22,47,22,44] ?_
 refine yD 45 (b := true) rfl (by rw [hxl]; rfl) ?_
 refine rn [41,3,0,11] ?_
 exact fin1 rfl (.tmp rfl) (fun w' hw' => ⟨by rfl, hw'.upd⟩) _ (.inl rfl)
def fitB (c : C) (n : Nat) : Bool := decide (chk c = 0 ∧ c.capa ≤ 100 ∧ c.vis ≤ 200 ∧ c.pays ≤ 200 ∧ c.merg ≤ 200 ∧ c.qsize ≤ 200 ∧ n ≤ 400)
theorem fit_no {c : C} {n : Nat} (h : ¬ (chk c = 0 ∧ c.capa ≤ 100 ∧ c.vis ≤ 200 ∧ c.pays ≤ 200 ∧ c.merg ≤ 200 ∧ c.qsize ≤ 200 ∧ n ≤ 400)) : (if fitB c n = true then (1 : Int) else 0) = 0 := by
 unfold fitB; rw [decide_eq_false h]; rfl
theorem fits_any (c : C) (A : Option Addr) (n cap : Nat) (w : World)  : Pur Tryz.prog 8 [c.v, .slice A n cap] w (.int .i64 (if fitB c n = true then 1 else 0)) := by
 refine g_st Tryz.func8 38 (WOK.start [] _) ?_
 refine rn [1] ?_
 refine g_op (g_box rfl rfl rfl fun b2 => ?_)
 refine rn [3,0,8,1,45] ?_
 refine g_op (zG rfl (fun w hw => chk_any _ w) rfl ?_)
 refine rn [51,2] ?_
 refine zV 8 rfl (fun h1 => ?_) (fun h1 => ?_)
 ·have h0 : (if fitB c n = true then (1 : Int) else 0) = 0 := fit_no (fun hc => by have h9 := h1; simp at h9; exact h9 hc.1)
  refine rn [21,21,21,41,2,21,21,21,41,2,21,21,21,41,2,21,21,21,41,2,21,21,21,41,2,21,21,21,41,0,19,1,3,0,11,13] ?_
  exact fin1 rfl (.tmp rfl) (fun w' hw' => ⟨by first | rw [h0] | rw [h1_], hw'.upd⟩) _ (.inl rfl)
 ·have f0 := h1
  refine rn [22,4,22,5,22,55,42,2] ?_
  refine zV 13 rfl (fun h2 => ?_) (fun h2 => ?_)
  ·have h0 : (if fitB c n = true then (1 : Int) else 0) = 0 := fit_no (fun hc => by have h9 := h2; simp at h9; have h8 := hc.2.1; omega)
   refine rn [21,21,21,41,2,21,21,21,41,2,21,21,21,41,2,21,21,21,41,2,21,21,21,41,0,19,1,3,0,11,13] ?_
   exact fin1 rfl (.tmp rfl) (fun w' hw' => ⟨by first | rw [h0] | rw [h1_], hw'.upd⟩) _ (.inl rfl)
  ·have f1 := h2
   refine rn [22,4,22,5,22,55,42,2] ?_
   refine zV 18 rfl (fun h3 => ?_) (fun h3 => ?_)
   ·have h0 : (if fitB c n = true then (1 : Int) else 0) = 0 := fit_no (fun hc => by have h9 := h3; simp at h9; have h8 := hc.2.2.1; omega)
    refine rn [21,21,21,41,2,21,21,21,41,2,21,21,21,41,2,21,21,21,41,0,19,1,3,0,11,13] ?_
    exact fin1 rfl (.tmp rfl) (fun w' hw' => ⟨by first | rw [h0] | rw [h1_], hw'.upd⟩) _ (.inl rfl)
   ·have f2 := h3
    refine rn [22,4,22,5,22,55,42,2] ?_
    refine zV 23 rfl (fun h4 => ?_) (fun h4 => ?_)
    ·have h0 : (if fitB c n = true then (1 : Int) else 0) = 0 := fit_no (fun hc => by have h9 := h4; simp at h9; have h8 := hc.2.2.2.1; omega)
     refine rn [21,21,21,41,2,21,21,21,41,2,21,21,21,41,0,19,1,3,0,11,13] ?_
     exact fin1 rfl (.tmp rfl) (fun w' hw' => ⟨by first | rw [h0] | rw [h1_], hw'.upd⟩) _ (.inl rfl)
    ·have f3 := h4
     refine rn [22,4,22,5,22,55,42,2] ?_
     refine zV 28 rfl (fun h5 => ?_) (fun h5 => ?_)
     ·have h0 : (if fitB c n = true then (1 : Int) else 0) = 0 := fit_no (fun hc => by have h9 := h5; simp at h9; have h8 := hc.2.2.2.2.1; omega)
      refine rn [21,21,21,41,2,21,21,21,41,0,19,1,3,0,11,13] ?_
      exact fin1 rfl (.tmp rfl) (fun w' hw' => ⟨by first | rw [h0] | rw [h1_], hw'.upd⟩) _ (.inl rfl)
     ·have f4 := h5
      refine rn [22,4,22,5,22,55,42,2] ?_
      refine zV 33 rfl (fun h6 => ?_) (fun h6 => ?_)
      ·have h0 : (if fitB c n = true then (1 : Int) else 0) = 0 := fit_no (fun hc => by have h9 := h6; simp at h9; have h8 := hc.2.2.2.2.2.1; omega)
       refine rn [21,21,21,41,0,19,1,3,0,11,13] ?_
       exact fin1 rfl (.tmp rfl) (fun w' hw' => ⟨by first | rw [h0] | rw [h1_], hw'.upd⟩) _ (.inl rfl)
      ·have f5 := h6
       refine rn [22,2,22,47,22,55,42,0] ?_
       refine zC rfl (fun h7 => ?_) (fun h7 => ?_)
       ·have h0 : (if fitB c n = true then (1 : Int) else 0) = 0 := fit_no (fun hc => by have h9 := h7; simp at h9; have h8 := hc.2.2.2.2.2.2; omega)
        refine rn [1,3,0,11,13] ?_
        exact fin1 rfl (.tmp rfl) (fun w' hw' => ⟨by first | rw [h0] | rw [h1_], hw'.upd⟩) _ (.inl rfl)
       ·have h1_ : (if fitB c n = true then (1 : Int) else 0) = 1 := by unfold fitB; rw [decide_eq_true]; rfl; simp at f0 f1 f2 f3 f4 f5; have h9 := h7; simp at h9; exact ⟨f0, by omega, by omega, by omega, by omega, by omega, by omega⟩
        refine rn [12,7,1,3,0,11] ?_
        exact fin1 rfl (.tmp rfl) (fun w' hw' => ⟨by first | rw [h0] | rw [h1_], hw'.upd⟩) _ (.inl rfl)
theorem clone_op (A : Option Addr) (n cap : Nat) (l : List Op) (w : World) (hrd : Rd w [] A n 4 (l.map Op.c)) (hcap : n ≤ 1000000) : Own2 (ι := (Option Addr × Nat)) Tryz.prog 11 [.slice A n cap] w [] (fun x => True) (fun x => .slice x.1 l.length x.2) (fun x => [Res.row x.1 l.length x.2 35 4 (l.map Op.c)]) (fun x => []) := by
 refine g_st Tryz.func11 8 (WOK.start (fps []) _) ?_
 have hn : n = l.length := by have := hrd.old.len; simpa using this
 refine rn [1,3,0,8,1,2] ?_
 refine s_q (q_eqsl rfl rfl) rfl ?_
 refine rn [0] ?_
 refine zC rfl (fun h1 => ?_) (fun h1 => ?_)
 ·refine rn [1,3,0,11,13] ?_
  have h0 : A = none := by simpa using h1
  have hl : l = [] := by
    rcases Nat.eq_zero_or_pos n with h2 | h2
    · exact List.eq_nil_of_length_eq_zero (by have := hrd.old.len; simp at this; omega)
    · have := (hrd.old.at_ h2).1; rw [h0] at this; simp at this
  subst hl
  refine zW none 35 4 (([] : List Op).map Op.c) rfl ?_
  exact fin1 rfl (.tmp rfl) (fun w' hw' => ⟨((none : Option Addr), (0 : Nat)), (by exact trivial), rfl, by have h9 := zB (L' := [Res.row none 0 0 35 4 (([] : List Op).map Op.c)]) w' hw'; exact h9⟩) _ (.inl rfl)
 ·refine rn [12,7,1] ?_
  refine g_op (g_lit rfl rfl rfl rfl rfl fun b5 => ?_)
  refine g_norow (t := 5) (T := 35) (k := 4) rfl fun A5 cap5 hc5 => ?_
  refine zF (A := A5) (([] : List Op).map Op.c) rfl ?_
  refine rn [2] ?_
  refine g_op (zY (A := A5) (els := (([] : List Op)).map Op.c) (news := ((l).map Op.c)) rfl rfl hrd.rdb (yG (c := Op.c) (by intro x; simp [Op.c, Value.oneCell']) _) (by first | omega | (simp; omega) | (simp_all; omega)) rfl fun A7 cap7 => ⟨_, inferInstance, ?_⟩)
  refine zF (A := A7) ((l).map Op.c) (by first | rfl | exact List.map_append.symm | (simp; done)) ?_
  refine yC (A := A7) (n) (by simp) ?_
  refine g_val 7 (v' := .slice A7 (n) cap7) rfl (by simp) ?_
  refine rn [3,0,11] ?_
  exact fin1 rfl (.tmp rfl) (fun w' hw' => ⟨(A7, cap7), (by exact trivial), by rw [← hn], by rw [← hn]; exact zA w' hw'⟩) _ (.inl rfl)
theorem paysE_ep {s : Eg} (h : Inv s) : (paysE s).1.ep = s.ep := (paysE_all h).2.2.1
theorem bdyE_ep (s : Eg) : (bdyE s).1.ep = s.ep := rfl
theorem ag_shape {s : Eg} (h : Inv s) (hb : s.blk < 1000000000) (y : Op) : ∃ a b : Nat, (applyE s y).2.ag = (s.q.f.take a).map (fun i => As.mk i 0 ((applyE s y).2.ep + 1)) ++ (s.q.v.take b).map (fun i => As.mk i 1 ((applyE s y).2.ep + 1)) ∧ a ≤ s.q.f.length ∧ b ≤ s.q.v.length ∧ (0 < b → a = s.q.f.length) := by
 unfold applyE
 split
 ·rw [tickE_eq]
  obtain ⟨hm, hB⟩ := mid_inv h hb
  have hep := paysE_ep hm
  simp only
  rw [hep]
  by_cases hc : (s.blk + 1) % s.c.elen.toNat = 0
  ·obtain ⟨B⟩ := hB hc
   have hmid : midE s = bdyE { s with blk := s.blk + 1 } := if_pos hc
   obtain ⟨a, b, g1, g2, g3, g4⟩ := B.hs
   refine ⟨a, b, ?_, g2, g3, g4⟩
   rw [hmid, B.ha, bdyE_ep]
   exact g1
  ·have hmid : midE s = ({ s with blk := s.blk + 1 }, []) := if_neg hc
   refine ⟨0, 0, ?_, Nat.zero_le _, Nat.zero_le _, by omega⟩
   rw [hmid]; simp
 ·refine ⟨0, 0, ?_, Nat.zero_le _, Nat.zero_le _, by omega⟩
  have : ((actE s y).1, rcp s y (actE s y).2).2.ag = [] := by
   show (rcp s y (actE s y).2).ag = []
   unfold rcp; split <;> rfl
  rw [this]; simp
theorem fit_of {c : C} {n : Nat} (h : decide ((if fitB c n = true then (1 : Int) else 0) = 0) = false) : fitB c n = true := by
 by_cases hf : fitB c n = true
 ·exact hf
 ·rw [if_neg hf] at h; simp at h
theorem sh_get {f v : List Int} {a b : Nat} {e : Int} {ag : List As} (h : ag = (f.take a).map (fun i => As.mk i 0 e) ++ (v.take b).map (fun i => As.mk i 1 e)) (ha : a ≤ f.length) (hb : b ≤ v.length) :
  ag.length = a + b ∧ ∀ (j : Nat) (hj : j < ag.length), ag[j].e = e ∧ ag[j].c = if j < a then 0 else 1 := by
 have hl : ag.length = a + b := by rw [h]; simp; omega
 refine ⟨hl, fun j hj => ?_⟩
 have hm : ((f.take a).map fun i => As.mk i 0 e).length = a := by simp; omega
 subst h
 by_cases hja : j < a
 ·rw [List.getElem_append_left (by omega), if_pos hja]; simp
 ·rw [List.getElem_append_right (by omega), if_neg hja]; simp
theorem rep_ep {s : Eg} (h : Inv s) (hb : s.blk < 1000000000) (y : Op) : 0 ≤ (applyE s y).2.ep ∧ (applyE s y).2.ep ≤ 1000000000 := by
 unfold applyE
 split
 ·have h1 := (tickE_inv h hb).epb
  rw [tickE_eq] at h1 ⊢
  exact h1
 ·have : ((actE s y).1, rcp s y (actE s y).2).2.ep = s.ep := by
   show (rcp s y (actE s y).2).ep = _
   unfold rcp; split <;> rfl
  rw [this]; exact h.epb
end Go.Proofs.YtdddiilocbbkkaaGreat
