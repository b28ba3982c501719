/- TopForced: for every configuration and all operations the law returns true. No condition. Part 21 of 42. -/
import Derived.Test.YtdddiilocbbkkaaGreatTF17
set_option linter.unusedVariables false
set_option linter.unusedSimpArgs false
namespace Go.Proofs.YtdddiilocbbkkaaGreat
open Go.RowKit Go.Eg
set_option maxHeartbeats 4000000
set_option synthInstance.maxSize 3000
set_option maxRecDepth 100000
theorem wG (y lo hi : Int) (w : World)  : Pur Tryz.prog 206 [.int .i64 y, .int .i64 lo, .int .i64 hi] w (.bool (decide (lo ≤ y) && decide (y ≤ hi))) := by
 refine g_st Tryz.func206 15 (WOK.start [] _) ?_
 refine rn [1,3,0,1,2,2,56,2] ?_
 refine zV 10 rfl (fun h1 => ?_) (fun h1 => ?_)
 ·refine rn [22,2,22,2,22,56,41,3,0,11] ?_
  exact fin1 rfl (.tmp rfl) (fun w' hw' => ⟨by first | (simp_all; done) | (simp_all; omega), hw'.upd⟩) _ (.inl rfl)
 ·refine rn [21,21,21,42,3,0,11] ?_
  exact fin1 rfl (.tmp rfl) (fun w' hw' => ⟨by first | (simp_all; done) | (simp_all; omega), hw'.upd⟩) _ (.inl rfl)
theorem inU_any (y lo hi : Int) (w : World)  : Pur Tryz.prog 211 [.int .u64 y, .int .u64 lo, .int .u64 hi] w (.bool (decide (lo ≤ y) && decide (y ≤ hi))) := by
 refine g_st Tryz.func211 15 (WOK.start [] _) ?_
 refine rn [1,3,0,1,2,2,56,2] ?_
 refine zV 10 rfl (fun h1 => ?_) (fun h1 => ?_)
 ·refine rn [22,2,22,2,22,56,41,3,0,11] ?_
  exact fin1 rfl (.tmp rfl) (fun w' hw' => ⟨by first | (simp_all; done) | (simp_all; omega), hw'.upd⟩) _ (.inl rfl)
 ·refine rn [21,21,21,42,3,0,11] ?_
  exact fin1 rfl (.tmp rfl) (fun w' hw' => ⟨by first | (simp_all; done) | (simp_all; omega), hw'.upd⟩) _ (.inl rfl)
theorem cnd1 (c : C) (w : World) (hc : chk c = 0) (hk : Cok c) : Pur Tryz.prog 205 [c.v] w (.bool true) := by
 refine g_st Tryz.func205 6 (WOK.start [] _) ?_
 refine rn [1] ?_
 refine g_op (g_box (c := C.c c) rfl rfl rfl fun b1 => ?_)
 refine rn [3,0,1,4,5] ?_
 refine g_op (zG rfl (fun w1 hw1 => wG _ _ _ w1) rfl ?_)
 refine rn [3,0,11] ?_
 exact fin1 rfl (.tmp rfl) (fun w' hw' => ⟨by have h9 := zU hc 1 (by omega) (by omega); simp [rightB, btw] at h9; simp <;> omega, hw'.upd⟩) _ (.inl rfl)
theorem cnd2 (c : C) (w : World) (hc : chk c = 0) (hk : Cok c) : Pur Tryz.prog 207 [c.v] w (.bool true) := by
 refine g_st Tryz.func207 6 (WOK.start [] _) ?_
 refine rn [1] ?_
 refine g_op (g_box (c := C.c c) rfl rfl rfl fun b1 => ?_)
 refine rn [3,0,1,4,5] ?_
 refine g_op (zG rfl (fun w1 hw1 => wG _ _ _ w1) rfl ?_)
 refine rn [3,0,11] ?_
 exact fin1 rfl (.tmp rfl) (fun w' hw' => ⟨by have h9 := zU hc 2 (by omega) (by omega); simp [rightB, btw] at h9; simp <;> omega, hw'.upd⟩) _ (.inl rfl)
theorem cnd3 (c : C) (w : World) (hc : chk c = 0) (hk : Cok c) : Pur Tryz.prog 208 [c.v] w (.bool true) := by
 refine g_st Tryz.func208 6 (WOK.start [] _) ?_
 refine rn [1] ?_
 refine g_op (g_box (c := C.c c) rfl rfl rfl fun b1 => ?_)
 refine rn [3,0,1,4,5,55,3,0,11] ?_
 exact fin1 rfl (.tmp rfl) (fun w' hw' => ⟨by have h9 := zU hc 3 (by omega) (by omega); simp [rightB, btw] at h9; simp <;> omega, hw'.upd⟩) _ (.inl rfl)
theorem cnd4 (c : C) (w : World) (hc : chk c = 0) (hk : Cok c) : Pur Tryz.prog 209 [c.v] w (.bool true) := by
 refine g_st Tryz.func209 8 (WOK.start [] _) ?_
 refine rn [1] ?_
 refine g_op (g_box (c := C.c c) rfl rfl rfl fun b1 => ?_)
 refine rn [3,0,1,4,5,4,5,53,3,0,11] ?_
 exact fin1 rfl (.tmp rfl) (fun w' hw' => ⟨by have h9 := zU hc 4 (by omega) (by omega); simp [rightB, btw] at h9; simp <;> omega, hw'.upd⟩) _ (.inl rfl)
theorem cnd5 (c : C) (w : World) (hc : chk c = 0) (hk : Cok c) : Pur Tryz.prog 210 [c.v] w (.bool true) := by
 refine g_st Tryz.func210 8 (WOK.start [] _) ?_
 refine rn [1] ?_
 refine g_op (g_box (c := C.c c) rfl rfl rfl fun b1 => ?_)
 refine rn [3,0,1,4,5,4,5] ?_
 refine g_op (zG rfl (fun w1 hw1 => inU_any _ _ _ w1) rfl ?_)
 refine rn [3,0,11] ?_
 exact fin1 rfl (.tmp rfl) (fun w' hw' => ⟨by have h9 := zU hc 5 (by omega) (by omega); simp [rightB, btw] at h9; simp <;> omega, hw'.upd⟩) _ (.inl rfl)
theorem cnd6 (c : C) (w : World) (hc : chk c = 0) (hk : Cok c) : Pur Tryz.prog 212 [c.v] w (.bool true) := by
 refine g_st Tryz.func212 8 (WOK.start [] _) ?_
 refine rn [1] ?_
 refine g_op (g_box (c := C.c c) rfl rfl rfl fun b1 => ?_)
 refine rn [3,0,1,4,5,4,5] ?_
 refine g_op (zG rfl (fun w1 hw1 => inU_any _ _ _ w1) rfl ?_)
 refine rn [3,0,11] ?_
 exact fin1 rfl (.tmp rfl) (fun w' hw' => ⟨by have h9 := zU hc 6 (by omega) (by omega); simp [rightB, btw] at h9; simp <;> omega, hw'.upd⟩) _ (.inl rfl)
theorem cnd7 (c : C) (w : World) (hc : chk c = 0) (hk : Cok c) : Pur Tryz.prog 213 [c.v] w (.bool true) := by
 refine g_st Tryz.func213 10 (WOK.start [] _) ?_
 refine rn [1] ?_
 refine g_op (g_box (c := C.c c) rfl rfl rfl fun b1 => ?_)
 refine rn [3,0,1,4,5,4,5,4,5] ?_
 refine g_op (zG rfl (fun w1 hw1 => inU_any _ _ _ w1) rfl ?_)
 refine rn [3,0,11] ?_
 exact fin1 rfl (.tmp rfl) (fun w' hw' => ⟨by have h9 := zU hc 7 (by omega) (by omega); simp [rightB, btw] at h9; simp <;> omega, hw'.upd⟩) _ (.inl rfl)
theorem cnd8 (c : C) (w : World) (hc : chk c = 0) (hk : Cok c) : Pur Tryz.prog 214 [c.v] w (.bool true) := by
 refine g_st Tryz.func214 6 (WOK.start [] _) ?_
 refine rn [1] ?_
 refine g_op (g_box (c := C.c c) rfl rfl rfl fun b1 => ?_)
 refine rn [3,0,1,4,5] ?_
 refine g_op (zG rfl (fun w1 hw1 => inU_any _ _ _ w1) rfl ?_)
 refine rn [3,0,11] ?_
 exact fin1 rfl (.tmp rfl) (fun w' hw' => ⟨by have h9 := zU hc 8 (by omega) (by omega); simp [rightB, btw] at h9; simp <;> omega, hw'.upd⟩) _ (.inl rfl)
theorem cnd9 (c : C) (w : World) (hc : chk c = 0) (hk : Cok c) : Pur Tryz.prog 215 [c.v] w (.bool true) := by
 refine g_st Tryz.func215 6 (WOK.start [] _) ?_
 refine rn [1] ?_
 refine g_op (g_box (c := C.c c) rfl rfl rfl fun b1 => ?_)
 refine rn [3,0,1,4,5,55,3,0,11] ?_
 exact fin1 rfl (.tmp rfl) (fun w' hw' => ⟨by have h9 := zU hc 9 (by omega) (by omega); simp [rightB, btw] at h9; simp <;> omega, hw'.upd⟩) _ (.inl rfl)
theorem cnd10 (c : C) (w : World) (hc : chk c = 0) (hk : Cok c) : Pur Tryz.prog 216 [c.v] w (.bool true) := by
 refine g_st Tryz.func216 6 (WOK.start [] _) ?_
 refine rn [1] ?_
 refine g_op (g_box (c := C.c c) rfl rfl rfl fun b1 => ?_)
 refine rn [3,0,1,4,5,56,3,0,11] ?_
 exact fin1 rfl (.tmp rfl) (fun w' hw' => ⟨by have h9 := zU hc 10 (by omega) (by omega); simp [rightB, btw] at h9; simp <;> omega, hw'.upd⟩) _ (.inl rfl)
theorem cnd11 (c : C) (w : World) (hc : chk c = 0) (hk : Cok c) : Pur Tryz.prog 217 [c.v] w (.bool true) := by
 refine g_st Tryz.func217 6 (WOK.start [] _) ?_
 refine rn [1] ?_
 refine g_op (g_box (c := C.c c) rfl rfl rfl fun b1 => ?_)
 refine rn [3,0,1,4,5] ?_
 refine g_op (zG rfl (fun w1 hw1 => wG _ _ _ w1) rfl ?_)
 refine rn [3,0,11] ?_
 exact fin1 rfl (.tmp rfl) (fun w' hw' => ⟨by have h9 := zU hc 11 (by omega) (by omega); simp [rightB, btw] at h9; simp <;> omega, hw'.upd⟩) _ (.inl rfl)
theorem cnd12 (c : C) (w : World) (hc : chk c = 0) (hk : Cok c) : Pur Tryz.prog 218 [c.v] w (.bool true) := by
 refine g_st Tryz.func218 9 (WOK.start [] _) ?_
 have g1 := hk.vis; have g2 := hk.pays; have g3 := hk.unb
 refine rn [1] ?_
 refine g_op (g_box (c := C.c c) rfl rfl rfl fun b1 => ?_)
 refine rn [3,0,1,4,5,4,5] ?_
 refine s_q (yM (z := c.unb + 1) rfl rfl (wi64 (by omega) (by omega))) rfl ?_
 refine g_op (zG rfl (fun w1 hw1 => wG _ _ _ w1) rfl ?_)
 refine rn [3,0,11] ?_
 exact fin1 rfl (.tmp rfl) (fun w' hw' => ⟨by have h9 := zU hc 12 (by omega) (by omega); simp [rightB, btw] at h9; simp <;> omega, hw'.upd⟩) _ (.inl rfl)
theorem cnd13 (c : C) (w : World) (hc : chk c = 0) (hk : Cok c) : Pur Tryz.prog 219 [c.v] w (.bool true) := by
 refine g_st Tryz.func219 6 (WOK.start [] _) ?_
 refine rn [1] ?_
 refine g_op (g_box (c := C.c c) rfl rfl rfl fun b1 => ?_)
 refine rn [3,0,1,4,5] ?_
 refine g_op (zG rfl (fun w1 hw1 => wG _ _ _ w1) rfl ?_)
 refine rn [3,0,11] ?_
 exact fin1 rfl (.tmp rfl) (fun w' hw' => ⟨by have h9 := zU hc 13 (by omega) (by omega); simp [rightB, btw] at h9; simp <;> omega, hw'.upd⟩) _ (.inl rfl)
theorem cnd14 (c : C) (w : World) (hc : chk c = 0) (hk : Cok c) : Pur Tryz.prog 220 [c.v] w (.bool true) := by
 refine g_st Tryz.func220 6 (WOK.start [] _) ?_
 refine rn [1] ?_
 refine g_op (g_box (c := C.c c) rfl rfl rfl fun b1 => ?_)
 refine rn [3,0,1,4,5] ?_
 refine g_op (zG rfl (fun w1 hw1 => wG _ _ _ w1) rfl ?_)
 refine rn [3,0,11] ?_
 exact fin1 rfl (.tmp rfl) (fun w' hw' => ⟨by have h9 := zU hc 14 (by omega) (by omega); simp [rightB, btw] at h9; simp <;> omega, hw'.upd⟩) _ (.inl rfl)
theorem cnd15 (c : C) (w : World) (hc : chk c = 0) (hk : Cok c) : Pur Tryz.prog 221 [c.v] w (.bool true) := by
 refine g_st Tryz.func221 6 (WOK.start [] _) ?_
 refine rn [1] ?_
 refine g_op (g_box (c := C.c c) rfl rfl rfl fun b1 => ?_)
 refine rn [3,0,1,4,5] ?_
 refine g_op (zG rfl (fun w1 hw1 => wG _ _ _ w1) rfl ?_)
 refine rn [3,0,11] ?_
 exact fin1 rfl (.tmp rfl) (fun w' hw' => ⟨by have h9 := zU hc 15 (by omega) (by omega); simp [rightB, btw] at h9; simp <;> omega, hw'.upd⟩) _ (.inl rfl)
theorem cnd16 (c : C) (w : World) (hc : chk c = 0) (hk : Cok c) : Pur Tryz.prog 222 [c.v] w (.bool true) := by
 refine g_st Tryz.func222 6 (WOK.start [] _) ?_
 refine rn [1] ?_
 refine g_op (g_box (c := C.c c) rfl rfl rfl fun b1 => ?_)
 refine rn [3,0,1,4,5] ?_
 refine g_op (zG rfl (fun w1 hw1 => wG _ _ _ w1) rfl ?_)
 refine rn [3,0,11] ?_
 exact fin1 rfl (.tmp rfl) (fun w' hw' => ⟨by have h9 := zU hc 16 (by omega) (by omega); simp [rightB, btw] at h9; simp <;> omega, hw'.upd⟩) _ (.inl rfl)
theorem cnd17 (c : C) (w : World) (hc : chk c = 0) (hk : Cok c) : Pur Tryz.prog 223 [c.v] w (.bool true) := by
 refine g_st Tryz.func223 12 (WOK.start [] _) ?_
 have g1 := hk.vis; have g2 := hk.pays; have g3 := hk.unb
 refine rn [1] ?_
 refine g_op (g_box (c := C.c c) rfl rfl rfl fun b1 => ?_)
 refine rn [3,0,1,4,5,4,5,4,5,58] ?_
 refine s_q (yY (z := min c.vis c.pays - 1) rfl rfl (wi64 (by omega) (by omega))) rfl ?_
 refine g_op (zG rfl (fun w1 hw1 => wG _ _ _ w1) rfl ?_)
 refine rn [3,0,11] ?_
 exact fin1 rfl (.tmp rfl) (fun w' hw' => ⟨by have h9 := zU hc 17 (by omega) (by omega); simp [rightB, btw] at h9; simp <;> omega, hw'.upd⟩) _ (.inl rfl)
theorem cnd18 (c : C) (w : World) (hc : chk c = 0) (hk : Cok c) : Pur Tryz.prog 224 [c.v] w (.bool true) := by
 refine g_st Tryz.func224 6 (WOK.start [] _) ?_
 refine rn [1] ?_
 refine g_op (g_box (c := C.c c) rfl rfl rfl fun b1 => ?_)
 refine rn [3,0,1,4,5] ?_
 refine g_op (zG rfl (fun w1 hw1 => wG _ _ _ w1) rfl ?_)
 refine rn [3,0,11] ?_
 exact fin1 rfl (.tmp rfl) (fun w' hw' => ⟨by have h9 := zU hc 18 (by omega) (by omega); simp [rightB, btw] at h9; simp <;> omega, hw'.upd⟩) _ (.inl rfl)
theorem cnd19 (c : C) (w : World) (hc : chk c = 0) (hk : Cok c) : Pur Tryz.prog 225 [c.v] w (.bool true) := by
 refine g_st Tryz.func225 8 (WOK.start [] _) ?_
 refine rn [1] ?_
 refine g_op (g_box (c := C.c c) rfl rfl rfl fun b1 => ?_)
 refine rn [3,0,1,4,5,4,5,56,3,0,11] ?_
 exact fin1 rfl (.tmp rfl) (fun w' hw' => ⟨by have h9 := zU hc 19 (by omega) (by omega); simp [rightB, btw] at h9; simp <;> omega, hw'.upd⟩) _ (.inl rfl)
theorem cnd20 (c : C) (w : World) (hc : chk c = 0) (hk : Cok c) : Pur Tryz.prog 226 [c.v] w (.bool true) := by
 refine g_st Tryz.func226 6 (WOK.start [] _) ?_
 refine rn [1] ?_
 refine g_op (g_box (c := C.c c) rfl rfl rfl fun b1 => ?_)
 refine rn [3,0,1,4,5] ?_
 refine g_op (zG rfl (fun w1 hw1 => inU_any _ _ _ w1) rfl ?_)
 refine rn [3,0,11] ?_
 exact fin1 rfl (.tmp rfl) (fun w' hw' => ⟨by have h9 := zU hc 20 (by omega) (by omega); simp [rightB, btw] at h9; simp <;> omega, hw'.upd⟩) _ (.inl rfl)
def cndF : List Nat := [205, 207, 208, 209, 210, 212, 213, 214, 215, 216, 217, 218, 219, 220, 221, 222, 223, 224, 225, 226]
def cndV : List Value := cndF.map fun f => .func (.func f) #[] #[]
theorem cnd_all {c : C} (hc : chk c = 0) (hk : Cok c) : ∀ f ∈ cndF, hasBody Tryz.prog f = true ∧ ∀ w, Pur Tryz.prog f [c.v] w (.bool true) := by
 intro f hf
 simp only [cndF, List.mem_cons, List.not_mem_nil, or_false] at hf
 rcases hf with rfl | rfl | rfl | rfl | rfl | rfl | rfl | rfl | rfl | rfl | rfl | rfl | rfl | rfl | rfl | rfl | rfl | rfl | rfl | rfl
 ·exact ⟨by kernel_rfl, fun w => cnd1 c w hc hk⟩
 ·exact ⟨by kernel_rfl, fun w => cnd2 c w hc hk⟩
 ·exact ⟨by kernel_rfl, fun w => cnd3 c w hc hk⟩
 ·exact ⟨by kernel_rfl, fun w => cnd4 c w hc hk⟩
 ·exact ⟨by kernel_rfl, fun w => cnd5 c w hc hk⟩
 ·exact ⟨by kernel_rfl, fun w => cnd6 c w hc hk⟩
 ·exact ⟨by kernel_rfl, fun w => cnd7 c w hc hk⟩
 ·exact ⟨by kernel_rfl, fun w => cnd8 c w hc hk⟩
 ·exact ⟨by kernel_rfl, fun w => cnd9 c w hc hk⟩
 ·exact ⟨by kernel_rfl, fun w => cnd10 c w hc hk⟩
 ·exact ⟨by kernel_rfl, fun w => cnd11 c w hc hk⟩
 ·exact ⟨by kernel_rfl, fun w => cnd12 c w hc hk⟩
 ·exact ⟨by kernel_rfl, fun w => cnd13 c w hc hk⟩
 ·exact ⟨by kernel_rfl, fun w => cnd14 c w hc hk⟩
 ·exact ⟨by kernel_rfl, fun w => cnd15 c w hc hk⟩
 ·exact ⟨by kernel_rfl, fun w => cnd16 c w hc hk⟩
 ·exact ⟨by kernel_rfl, fun w => cnd17 c w hc hk⟩
 ·exact ⟨by kernel_rfl, fun w => cnd18 c w hc hk⟩
 ·exact ⟨by kernel_rfl, fun w => cnd19 c w hc hk⟩
 ·exact ⟨by kernel_rfl, fun w => cnd20 c w hc hk⟩
theorem cnd_get {i : Nat} (h : i < 20) : ∃ f ∈ cndF, cndV[i]? = some (.func (.func f) #[] #[]) := ⟨cndF[i]'h, List.getElem_mem _, by unfold cndV; rw [List.getElem?_map, List.getElem?_eq_getElem (show i < cndF.length from h)]; rfl⟩
theorem conds_any  (w : World)  : Pur Tryz.prog 143 [] w (.agg cndV.toArray) := by
 refine g_st Tryz.func143 22 (WOK.start [] _) ?_
 refine rn [1] ?_
 refine g_op (zI rfl fun b0 => ?_)
 refine rn [0,1,49,49,49,49,49,49,49,49,49,49,49,49,49,49,49,49,49,49,49,49,49,33,0,11] ?_
 exact fin1 rfl (.cellw rfl rfl) (fun w' hw' => ⟨by rfl, hw'.upd⟩) _ (.inl rfl)
theorem cchk_any (c : C) (w : World) (hc : chk c = 0) (hk : Cok c) : Pur Tryz.prog 87 [c.v] w (.int .i64 0) := by
 refine g_st Tryz.func87 18 (WOK.start [] _) ?_
 refine rn [1] ?_
 refine g_op (g_box (c := C.c c) rfl rfl rfl fun b1 => ?_)
 refine rn [3,0,8,1] ?_
 refine g_op (zG rfl (fun w1 hw1 => conds_any w1) rfl ?_)
 refine rn [2,0,14] ?_
 refine g_lk [1, 2, 5] (fun (x : Nat) => [(6, .int .i64 ((x : Nat) : Int))]) (fun (x : Nat) => [Res.blk b1 24 c.c]) (fun (x : Nat) => x ≤ 20) (fun (x : Nat) => 20 - x) 0 (by (try dsimp only); exact Nat.zero_le _) ?_
 rintro k le_k
 replace le_k : k ≤ 20 := le_k
 refine rn [1,46,0,8] ?_
 refine zC rfl (fun h1 => ?_) (fun h1 => ?_)
 ·have lt_k : k < 20 := by have h9 := of_decide_eq_true h1; omega
  obtain ⟨f, hf, hfv⟩ := cnd_get lt_k
  refine rn [12,7,8,14,1,2] ?_
  refine s_q (q_idxagg1 (i := k) rfl rfl rfl lt_k hfv) rfl ?_
  refine g_op (zI rfl fun b4 => ?_)
  refine rn [3,33,0,1,4,5,45] ?_
  refine g_op (g_purevE (hb := ⟨(cnd_all hc hk f hf).1⟩) (f := f) rfl rfl (fun w1 hw1 => (cnd_all hc hk f hf).2 w1) rfl ?_)
  refine rn [48] ?_
  refine yD 14 (b := false) rfl (rfl) ?_
  refine rn [0,20,12,15,7,10,43,2,9] ?_
  exact g_ag (k + 1) (by (try dsimp only); exact (by first | exact lt_k | omega))
 ·have eq_k : k = 20 := by have h9 := of_decide_eq_false h1; omega
  refine rn [16] ?_
  refine zE (zE (zQ ?_))
  refine rn [7,1,3,0,11] ?_
  exact fin1 rfl (.tmp rfl) (fun w' hw' => ⟨by rfl, hw'.upd⟩) _ (.inl rfl)
theorem cvalid_any (c : C) (w : World) (hc : chk c = 0) (hk : Cok c) : Pur Tryz.prog 32 [c.v] w (.bool true) := by
 refine g_st Tryz.func32 6 (WOK.start [] _) ?_
 refine rn [1] ?_
 refine g_op (g_box (c := C.c c) rfl rfl rfl fun b1 => ?_)
 refine rn [3,0,1,45] ?_
 refine g_op (zG rfl (fun w1 hw1 => cchk_any c w1 hc hk) rfl ?_)
 refine rn [44,3,0,11] ?_
 exact fin1 rfl (.tmp rfl) (fun w' hw' => ⟨by rfl, hw'.upd⟩) _ (.inl rfl)
theorem cyc1_any (ub b2 b3 n k : Nat) (w : World) (hw : W0 [Res.blk b2 96 [Value.pointer (some ⟨ub, 0, none⟩)], Res.blk b3 3 [Value.int .i64 ((n : Nat) : Int)], Res.blk ub 180 [Value.int .i64 ((k : Nat) : Int)]] w) (hk : k < 1000000) (hn : 0 < n ∧ n ≤ 1000000) : Own2 (ι := Unit) Tryz.prog 287 [.pointer (some ⟨b2, 0, none⟩), .pointer (some ⟨b3, 0, none⟩)] w [Res.blk b2 96 [Value.pointer (some ⟨ub, 0, none⟩)], Res.blk b3 3 [Value.int .i64 ((n : Nat) : Int)], Res.blk ub 180 [Value.int .i64 ((k : Nat) : Int)]] (fun x => True) (fun x => .int .i64 ((k % n : Nat) : Int)) (fun x => []) (fun x => [Res.blk b2 96 [Value.pointer (some ⟨ub, 0, none⟩)], Res.blk b3 3 [Value.int .i64 ((n : Nat) : Int)], Res.blk ub 180 [Value.int .i64 ((((k % n + 1) % n) : Nat) : Int)]]) := by
 refine g_st Tryz.func287 18 hw ?_
 have hm := Nat.mod_lt k hn.1
 refine rn [1,3,0,8] ?_
 refine dreg [] mixed rfl ?_
 refine rn [23,0,5,23,1,6,23,2,4,23,3,5,23,4,5] ?_
 refine dq 5 rfl (wB (a := k) (b := n) rfl rfl (by first | omega | (simp; omega) | (simp_all; omega))) ?_
 refine rn [23,6,3,27,7,8] ?_
 refine dreg [7] mixed rfl ?_
 refine rn [23,0,5,23,1,2,23,2,43,23,3,5] ?_
 refine dq 4 rfl (wB (a := ((k % n) + 1)) (b := n) rfl rfl (by first | omega | (simp; omega) | (simp_all; omega))) ?_
 refine rn [24,5,6,23,6,4] ?_
 refine dop 7 rfl (zP rfl rfl rfl rfl rfl rfl rfl ?_)
 refine zJ (b := ub) [Value.int .i64 (((k % n + 1) % n : Nat) : Int)] (by simp [splice]) ?_
 refine rn [28,7,1,2,3,0,11] ?_
 exact fin1 rfl (.tmp rfl) (fun w' hw' => ⟨(), (by exact trivial), rfl, zA w' hw'⟩) _ (.inl rfl)
theorem cycle_any (ub n : Nat) (w : World)  : Own2 (ι := (Nat × Nat)) Tryz.prog 239 [.pointer (some ⟨ub, 0, none⟩), .int .i64 ((n : Nat) : Int)] w [] (fun x => True) (fun x => .func (.func 287) #[] [Value.pointer (some ⟨x.1, 0, none⟩), Value.pointer (some ⟨x.2, 0, none⟩)].toArray) (fun x => [Res.blk x.1 96 [Value.pointer (some ⟨ub, 0, none⟩)], Res.blk x.2 3 [Value.int .i64 ((n : Nat) : Int)]]) (fun x => []) := by
 refine g_st Tryz.func239 6 (WOK.start (fps []) _) ?_
 refine rn [1] ?_
 refine g_op (g_box rfl rfl rfl fun b2 => ?_)
 refine g_op (g_box rfl rfl rfl fun b3 => ?_)
 refine rn [3,0,1,52,3,0,11] ?_
 exact fin1 rfl (.tmp rfl) (fun w' hw' => ⟨(b2, b3), (by exact trivial), rfl, zA w' hw'⟩) _ (.inl rfl)
theorem swp_stop {rd : List Bool} {n pays k at_ made : Nat} {paid : List Int} (h : paid.length = pays) : swp rd n pays k at_ paid made = (at_, paid, made) := by
 cases k with
 | zero => rfl
 | succ k => rw [swp, if_pos h]
theorem swp_go {rd : List Bool} {n pays K at_ made : Nat} {paid : List Int} (h : ¬ paid.length = pays) (hk : made < K) : swp rd n pays (K - made) at_ paid made = swp rd n pays (K - (made + 1)) ((at_ % n + 1) % n) (if rd[at_ % n]? = some true then paid ++ [((at_ % n : Nat) : Int)] else paid) (made + 1) := by
 obtain ⟨k, hk⟩ : ∃ k, K - made = k + 1 := ⟨K - made - 1, by omega⟩
 rw [hk, swp, if_neg h, show K - (made + 1) = k by omega]
theorem sweep_any (ub k : Nat) (A : Option Addr) (n cap : Nat) (rd : List Bool) (vis pays : Int) (w : World) (hw : W0 [Res.blk ub 180 [Value.int .i64 ((k : Nat) : Int)]] w) (hk : k ≤ 4096) (hrd : Rd w [Res.blk ub 180 [Value.int .i64 ((k : Nat) : Int)]] A n 1 (rd.map (fun v : Bool => [Value.bool v]))) (hb : n ≤ 4096) : Own2 (ι := (Option Addr × Nat)) Tryz.prog 159 [.pointer (some ⟨ub, 0, none⟩), .slice A n cap, .int .i64 vis, .int .i64 pays] w [Res.blk ub 180 [Value.int .i64 ((k : Nat) : Int)]] (fun x => True) (fun x => .tuple [.slice x.1 (sweepS k rd vis pays).2.1.length x.2, .int .i64 (((sweepS k rd vis pays).2.2 : Nat) : Int)].toArray) (fun x => [Res.row x.1 ((sweepS k rd vis pays).2.1).length x.2 3 1 (((sweepS k rd vis pays).2.1).map (fun v : Int => [Value.int .i64 v]))]) (fun x => [Res.blk ub 180 [Value.int .i64 (((sweepS k rd vis pays).1 : Nat) : Int)]]) := by
 refine g_st Tryz.func159 53 hw ?_
 have hn : n = rd.length := by have := hrd.old.len; simpa using this
 refine rn [1,3,3,0] ?_
 refine g_scope ?_
 refine rn [1,2,47,3,0,8,1,2,50,2,22,2,22,44,42,2] ?_
 refine zV 23 rfl (fun h1 => ?_) (fun h1 => ?_)
 ·have hn1 : n = 0 := by have h9 := of_decide_eq_true h1; omega
  have hR : (sweepS k rd vis pays) = (k, [], 0) := by unfold sweepS; rw [if_pos (.inl (by omega))]
  refine rn [21,21,41,0,19,1,3,3,0,11] ?_
  refine zD (g_ng_ret ?_)
  refine zW none 3 1 (([] : List Int).map (fun v : Int => [Value.int .i64 v])) rfl ?_
  exact fin2 rfl (.tmp rfl) (.tmp rfl) (fun w' hw' => ⟨((none : Option Addr), 0), (by exact trivial), by rw [hR]; rfl, by rw [hR]; exact zA w' hw'⟩) _ (.inl rfl)
 ·have hn0 : 0 < n := by have h9 := of_decide_eq_false h1; omega
  refine rn [22,2,22,46,42,0] ?_
  refine zC rfl (fun h2 => ?_) (fun h2 => ?_)
  ·have hR : (sweepS k rd vis pays) = (k, [], 0) := by unfold sweepS; rw [if_pos (.inr (of_decide_eq_true h2))]
   refine rn [1,3,3,0,11] ?_
   refine zD (g_ng_ret ?_)
   refine zW none 3 1 (([] : List Int).map (fun v : Int => [Value.int .i64 v])) rfl ?_
   exact fin2 rfl (.tmp rfl) (.tmp rfl) (fun w' hw' => ⟨((none : Option Addr), 0), (by exact trivial), by rw [hR]; rfl, by rw [hR]; exact zA w' hw'⟩) _ (.inl rfl)
  ·have hp0 : 1 ≤ pays := by have h9 := of_decide_eq_false h2; omega
   obtain ⟨P, hP⟩ : ∃ q : Nat, pays = q := ⟨pays.toNat, by omega⟩
   refine g_val 3 (v' := .int .i64 ((P : Nat) : Int)) rfl (by rw [hP]) ?_
   obtain ⟨K, hK⟩ : ∃ q : Nat, (min vis (rd.length : Int)).toNat = q := ⟨_, rfl⟩
   have hR0 : (sweepS k rd vis pays) = swp rd n P (K - 0) k [] 0 := by unfold sweepS; rw [if_neg (by omega), hK, hn, show pays.toNat = P by omega]; rfl
   have hKn : K ≤ n := by omega
   have hm0 := Nat.mod_lt k hn0
   refine rn [12,7,1,2,2] ?_
   refine g_op (zH [] rfl (fun w1 hw1 ho1 => by have h7 := cycle_any ub n w1; exact h7) rfl ?_)
   rintro ⟨b2, b3⟩ _
   refine ii ?_
   refine rn [3,0,1,3] ?_
   refine xM 12 3 1 rfl fun Az1 capz1 hcz1 => ?_
   refine zF (A := Az1) (([] : List Int).map (fun v : Int => [Value.int .i64 v])) rfl ?_
   refine rn [0,1,3,0,8] ?_
   refine g_label ?_
   refine rn [7,8,14] ?_
   refine g_lk [1, 2, 3, 8, 9, 10, 11] (fun (x : Nat × List Int × Nat × Option Addr × Nat) => [(12, .slice x.2.2.2.1 (x.2.1).length x.2.2.2.2), (13, .int .i64 ((x.2.2.1 : Nat) : Int))]) (fun (x : Nat × List Int × Nat × Option Addr × Nat) => [Res.row x.2.2.2.1 (x.2.1).length x.2.2.2.2 3 1 ((x.2.1).map (fun v : Int => [Value.int .i64 v])), Res.blk b2 96 [Value.pointer (some ⟨ub, 0, none⟩)], Res.blk b3 3 [Value.int .i64 ((n : Nat) : Int)], Res.blk ub 180 [Value.int .i64 ((x.1 : Nat) : Int)]]) (fun (x : Nat × List Int × Nat × Option Addr × Nat) => x.1 ≤ 4096 ∧ (x.2.1).length ≤ x.2.2.1 ∧ x.2.2.1 ≤ K ∧ (sweepS k rd vis pays) = swp rd n P (K - x.2.2.1) x.1 x.2.1 x.2.2.1) (fun (x : Nat × List Int × Nat × Option Addr × Nat) => K - x.2.2.1) (k, ([] : List Int), 0, Az1, capz1) (by (try dsimp only); exact ⟨hk, (by simp), (by omega), hR0⟩) ?_
   rintro ⟨k1, p1, m1, A1, cap1⟩ ⟨hk1, hpl, hmK, hs⟩
   replace hk1 : k1 ≤ 4096 := hk1
   replace hpl : (p1).length ≤ m1 := hpl
   replace hmK : m1 ≤ K := hmK
   replace hs : (sweepS k rd vis pays) = swp rd n P (K - m1) k1 p1 m1 := hs
   refine zX (L' := [Res.row A1 (p1).length cap1 3 1 ((p1).map (fun v : Int => [Value.int .i64 v])), Res.blk b2 96 [Value.pointer (some ⟨ub, 0, none⟩)], Res.blk b3 3 [Value.int .i64 ((n : Nat) : Int)], Res.blk ub 180 [Value.int .i64 ((k1 : Nat) : Int)]]) rfl ?_
   refine g_val 12 (v' := .slice A1 (p1).length cap1) rfl rfl ?_
   refine g_val 13 (v' := .int .i64 ((m1 : Nat) : Int)) rfl rfl ?_
   refine rn [8,1,2,2,2,58,46,0] ?_
   refine zC rfl (fun h3 => ?_) (fun h3 => ?_)
   ·have lt_m : m1 < K := by have h9 := of_decide_eq_true h3; omega
    have hm1 := Nat.mod_lt k1 hn0
    have hm2 := Nat.mod_lt (k1 % n + 1) hn0
    refine rn [12,7,8,14,8,1,2,47,2,44,0] ?_
    refine zC rfl (fun h4 => ?_) (fun h4 => ?_)
    ·have hR : (sweepS k rd vis pays) = (k1, p1, m1) := by rw [hs]; exact swp_stop (by have h9 := of_decide_eq_true h4; omega)
     refine rn [16] ?_
     refine zE (g_blk_miss rfl (zE (zE (zQ ?_))))
     refine rn [7,1,2,2,3,3,0,11] ?_
     refine g_ng_ret ?_
     exact fin2 rfl (.tmp rfl) (.tmp rfl) (fun w' hw' => ⟨(A1, cap1), (by exact trivial), by rw [hR], by rw [hR]; exact zA w' hw'⟩) _ (.inl rfl)
    ·have hne : ¬ p1.length = P := by have h9 := of_decide_eq_false h4; omega
     refine rn [12,7,1,2] ?_
     refine g_op (xL [Res.blk b2 96 [Value.pointer (some ⟨ub, 0, none⟩)], Res.blk b3 3 [Value.int .i64 ((n : Nat) : Int)], Res.blk ub 180 [Value.int .i64 ((k1 : Nat) : Int)]] rfl rfl (fun w1 hw1 ho1 => by have h7 := cyc1_any ub b2 b3 n k1 w1 ho1 (by omega) ⟨hn0, by omega⟩; exact h7) rfl ?_)
     rintro ⟨⟩ _
     refine ii ?_
     refine rn [3,0,1,2,2] ?_
     refine s_q (zR (i := (k1 % n)) rfl rfl rfl hrd.rdb (by first | omega | (simp; done) | (simp; omega))) rfl ?_
     refine s_q (yL (i := (k1 % n)) (o := 0) rfl hrd.rdb (zS (by omega)) rfl rfl) rfl ?_
     refine rn [0] ?_
     refine zC rfl (fun h5 => ?_) (fun h5 => ?_)
     ·have hrx : rd[k1 % n]? = some true := by rw [List.getElem?_eq_getElem (by omega)]; simpa using h5
      refine rn [10,2,2] ?_
      refine g_op (g_lit rfl rfl rfl rfl rfl fun b49 => ?_)
      refine zJ (b := b49) ((([(((k1 % n) : Nat) : Int)] : List Int).map (fun v : Int => [Value.int .i64 v])).flatten) rfl ?_
      refine g_op (zY (A := A1) (els := (p1).map (fun v : Int => [Value.int .i64 v])) (news := (([(((k1 % n) : Nat) : Int)] : List Int).map (fun v : Int => [Value.int .i64 v]))) rfl rfl (InL.rdb (b := b49) rfl (by simp) rfl) (yG (c := (fun v : Int => [Value.int .i64 v])) (by intro x; simp [Value.oneCell']) _) (by omega) rfl fun A50 cap50 => ⟨_, inferInstance, ?_⟩)
      refine zF (A := A50) (((p1 ++ [(((k1 % n) : Nat) : Int)])).map (fun v : Int => [Value.int .i64 v])) (by first | rfl | exact List.map_append.symm | (simp; done)) ?_
      refine yC (A := A50) (p1 ++ [((k1 % n : Nat) : Int)]).length (by simp) ?_
      refine g_val 50 (v' := .slice A50 (p1 ++ [((k1 % n : Nat) : Int)]).length cap50) rfl (by simp) ?_
      refine rn [3,9,15,7,10,2,43,3,9] ?_
      exact g_ag (((k1 % n + 1) % n), (p1 ++ [((k1 % n : Nat) : Int)]), (m1 + 1), A50, cap50) (by (try dsimp only); exact ⟨(by omega), (by simp; omega), (by omega), (by rw [swp_go hne lt_m, if_pos hrx] at hs; exact hs)⟩)
     ·have hrx : ¬ rd[k1 % n]? = some true := by rw [List.getElem?_eq_getElem (by omega)]; simpa using h5
      refine rn [12,15,7,10,2,43,3,9] ?_
      exact g_ag (((k1 % n + 1) % n), p1, (m1 + 1), A1, cap1) (by (try dsimp only); exact ⟨(by omega), (by omega), (by omega), (by rw [swp_go hne lt_m, if_neg hrx] at hs; exact hs)⟩)
   ·have eq_m : m1 = K := by have h9 := of_decide_eq_false h3; omega
    have hR : (sweepS k rd vis pays) = (k1, p1, m1) := by rw [hs, eq_m, Nat.sub_self]; rfl
    refine rn [16] ?_
    refine zE (zE (zQ ?_))
    refine rn [7,1,2,2,3,3,0,11] ?_
    refine g_ng_ret ?_
    exact fin2 rfl (.tmp rfl) (.tmp rfl) (fun w' hw' => ⟨(A1, cap1), (by exact trivial), by rw [hR], by rw [hR]; exact zA w' hw'⟩) _ (.inl rfl)
end Go.Proofs.YtdddiilocbbkkaaGreat
