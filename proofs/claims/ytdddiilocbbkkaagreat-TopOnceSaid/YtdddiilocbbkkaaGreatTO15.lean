/- TopOnce: for every configuration and all operations the law returns true. No condition. Part 15 of 27. -/
import Derived.Test.YtdddiilocbbkkaaGreatTO14
set_option linter.unusedVariables false
set_option linter.unusedSimpArgs false
namespace Go.Proofs.YtdddiilocbbkkaaGreat
open Go.RowKit Go.Eg
set_option maxHeartbeats 4000000
set_option synthInstance.maxSize 3000
set_option maxRecDepth 100000
theorem wG (y lo hi : Int) (w : World)  : Pur Tryz.prog 206 [.int .i64 y, .int .i64 lo, .int .i64 hi] w (.bool (decide (lo ≤ y) && decide (y ≤ hi))) := by
 refine g_st Tryz.func206 15 (WOK.start [] _) ?_
 refine rn [1,3,0,1,2,2,56,2] ?_
 refine zV 10 rfl (fun h1 => ?_) (fun h1 => ?_)
 ·refine rn [22,2,22,2,22,56,41,3,0,11] ?_
  exact fin1 rfl (.tmp rfl) (fun w' hw' => ⟨by first | (simp_all; done) | (simp_all; omega), hw'.upd⟩) _ (.inl rfl)
 ·refine rn [21,21,21,42,3,0,11] ?_
  exact fin1 rfl (.tmp rfl) (fun w' hw' => ⟨by first | (simp_all; done) | (simp_all; omega), hw'.upd⟩) _ (.inl rfl)
theorem sQ (y lo hi : Int) (w : World)  : Pur Tryz.prog 211 [.int .u64 y, .int .u64 lo, .int .u64 hi] w (.bool (decide (lo ≤ y) && decide (y ≤ hi))) := by
 refine g_st Tryz.func211 15 (WOK.start [] _) ?_
 refine rn [1,3,0,1,2,2,56,2] ?_
 refine zV 10 rfl (fun h1 => ?_) (fun h1 => ?_)
 ·refine rn [22,2,22,2,22,56,41,3,0,11] ?_
  exact fin1 rfl (.tmp rfl) (fun w' hw' => ⟨by first | (simp_all; done) | (simp_all; omega), hw'.upd⟩) _ (.inl rfl)
 ·refine rn [21,21,21,42,3,0,11] ?_
  exact fin1 rfl (.tmp rfl) (fun w' hw' => ⟨by first | (simp_all; done) | (simp_all; omega), hw'.upd⟩) _ (.inl rfl)
theorem cnd1 (c : C) (w : World) (hc : chk c = 0) (hk : Cok c) : Pur Tryz.prog 205 [c.v] w (.bool true) := by
 refine g_st Tryz.func205 6 (WOK.start [] _) ?_
 refine rn [1] ?_
 refine g_op (g_box (c := C.c c) rfl rfl rfl fun b1 => ?_)
 refine rn [3,0,1,4,5] ?_
 refine g_op (zG rfl (fun w1 hw1 => wG _ _ _ w1) rfl ?_)
 refine rn [3,0,11] ?_
 exact fin1 rfl (.tmp rfl) (fun w' hw' => ⟨by have h9 := zU hc 1 (by omega) (by omega); simp [rightB, btw] at h9; simp <;> omega, hw'.upd⟩) _ (.inl rfl)
theorem cnd2 (c : C) (w : World) (hc : chk c = 0) (hk : Cok c) : Pur Tryz.prog 207 [c.v] w (.bool true) := by
 refine g_st Tryz.func207 6 (WOK.start [] _) ?_
 refine rn [1] ?_
 refine g_op (g_box (c := C.c c) rfl rfl rfl fun b1 => ?_)
 refine rn [3,0,1,4,5] ?_
 refine g_op (zG rfl (fun w1 hw1 => wG _ _ _ w1) rfl ?_)
 refine rn [3,0,11] ?_
 exact fin1 rfl (.tmp rfl) (fun w' hw' => ⟨by have h9 := zU hc 2 (by omega) (by omega); simp [rightB, btw] at h9; simp <;> omega, hw'.upd⟩) _ (.inl rfl)
theorem cnd3 (c : C) (w : World) (hc : chk c = 0) (hk : Cok c) : Pur Tryz.prog 208 [c.v] w (.bool true) := by
 refine g_st Tryz.func208 6 (WOK.start [] _) ?_
 refine rn [1] ?_
 refine g_op (g_box (c := C.c c) rfl rfl rfl fun b1 => ?_)
 refine rn [3,0,1,4,5,55,3,0,11] ?_
 exact fin1 rfl (.tmp rfl) (fun w' hw' => ⟨by have h9 := zU hc 3 (by omega) (by omega); simp [rightB, btw] at h9; simp <;> omega, hw'.upd⟩) _ (.inl rfl)
theorem cnd4 (c : C) (w : World) (hc : chk c = 0) (hk : Cok c) : Pur Tryz.prog 209 [c.v] w (.bool true) := by
 refine g_st Tryz.func209 8 (WOK.start [] _) ?_
 refine rn [1] ?_
 refine g_op (g_box (c := C.c c) rfl rfl rfl fun b1 => ?_)
 refine rn [3,0,1,4,5,4,5,53,3,0,11] ?_
 exact fin1 rfl (.tmp rfl) (fun w' hw' => ⟨by have h9 := zU hc 4 (by omega) (by omega); simp [rightB, btw] at h9; simp <;> omega, hw'.upd⟩) _ (.inl rfl)
theorem cnd5 (c : C) (w : World) (hc : chk c = 0) (hk : Cok c) : Pur Tryz.prog 210 [c.v] w (.bool true) := by
 refine g_st Tryz.func210 8 (WOK.start [] _) ?_
 refine rn [1] ?_
 refine g_op (g_box (c := C.c c) rfl rfl rfl fun b1 => ?_)
 refine rn [3,0,1,4,5,4,5] ?_
 refine g_op (zG rfl (fun w1 hw1 => sQ _ _ _ w1) rfl ?_)
 refine rn [3,0,11] ?_
 exact fin1 rfl (.tmp rfl) (fun w' hw' => ⟨by have h9 := zU hc 5 (by omega) (by omega); simp [rightB, btw] at h9; simp <;> omega, hw'.upd⟩) _ (.inl rfl)
theorem cnd6 (c : C) (w : World) (hc : chk c = 0) (hk : Cok c) : Pur Tryz.prog 212 [c.v] w (.bool true) := by
 refine g_st Tryz.func212 8 (WOK.start [] _) ?_
 refine rn [1] ?_
 refine g_op (g_box (c := C.c c) rfl rfl rfl fun b1 => ?_)
 refine rn [3,0,1,4,5,4,5] ?_
 refine g_op (zG rfl (fun w1 hw1 => sQ _ _ _ w1) rfl ?_)
 refine rn [3,0,11] ?_
 exact fin1 rfl (.tmp rfl) (fun w' hw' => ⟨by have h9 := zU hc 6 (by omega) (by omega); simp [rightB, btw] at h9; simp <;> omega, hw'.upd⟩) _ (.inl rfl)
theorem cnd7 (c : C) (w : World) (hc : chk c = 0) (hk : Cok c) : Pur Tryz.prog 213 [c.v] w (.bool true) := by
 refine g_st Tryz.func213 10 (WOK.start [] _) ?_
 refine rn [1] ?_
 refine g_op (g_box (c := C.c c) rfl rfl rfl fun b1 => ?_)
 refine rn [3,0,1,4,5,4,5,4,5] ?_
 refine g_op (zG rfl (fun w1 hw1 => sQ _ _ _ w1) rfl ?_)
 refine rn [3,0,11] ?_
 exact fin1 rfl (.tmp rfl) (fun w' hw' => ⟨by have h9 := zU hc 7 (by omega) (by omega); simp [rightB, btw] at h9; simp <;> omega, hw'.upd⟩) _ (.inl rfl)
theorem cnd8 (c : C) (w : World) (hc : chk c = 0) (hk : Cok c) : Pur Tryz.prog 214 [c.v] w (.bool true) := by
 refine g_st Tryz.func214 6 (WOK.start [] _) ?_
 refine rn [1] ?_
 refine g_op (g_box (c := C.c c) rfl rfl rfl fun b1 => ?_)
 refine rn [3,0,1,4,5] ?_
 refine g_op (zG rfl (fun w1 hw1 => sQ _ _ _ w1) rfl ?_)
 refine rn [3,0,11] ?_
 exact fin1 rfl (.tmp rfl) (fun w' hw' => ⟨by have h9 := zU hc 8 (by omega) (by omega); simp [rightB, btw] at h9; simp <;> omega, hw'.upd⟩) _ (.inl rfl)
theorem cnd9 (c : C) (w : World) (hc : chk c = 0) (hk : Cok c) : Pur Tryz.prog 215 [c.v] w (.bool true) := by
 refine g_st Tryz.func215 6 (WOK.start [] _) ?_
 refine rn [1] ?_
 refine g_op (g_box (c := C.c c) rfl rfl rfl fun b1 => ?_)
 refine rn [3,0,1,4,5,55,3,0,11] ?_
 exact fin1 rfl (.tmp rfl) (fun w' hw' => ⟨by have h9 := zU hc 9 (by omega) (by omega); simp [rightB, btw] at h9; simp <;> omega, hw'.upd⟩) _ (.inl rfl)
theorem cnd10 (c : C) (w : World) (hc : chk c = 0) (hk : Cok c) : Pur Tryz.prog 216 [c.v] w (.bool true) := by
 refine g_st Tryz.func216 6 (WOK.start [] _) ?_
 refine rn [1] ?_
 refine g_op (g_box (c := C.c c) rfl rfl rfl fun b1 => ?_)
 refine rn [3,0,1,4,5,56,3,0,11] ?_
 exact fin1 rfl (.tmp rfl) (fun w' hw' => ⟨by have h9 := zU hc 10 (by omega) (by omega); simp [rightB, btw] at h9; simp <;> omega, hw'.upd⟩) _ (.inl rfl)
theorem cnd11 (c : C) (w : World) (hc : chk c = 0) (hk : Cok c) : Pur Tryz.prog 217 [c.v] w (.bool true) := by
 refine g_st Tryz.func217 6 (WOK.start [] _) ?_
 refine rn [1] ?_
 refine g_op (g_box (c := C.c c) rfl rfl rfl fun b1 => ?_)
 refine rn [3,0,1,4,5] ?_
 refine g_op (zG rfl (fun w1 hw1 => wG _ _ _ w1) rfl ?_)
 refine rn [3,0,11] ?_
 exact fin1 rfl (.tmp rfl) (fun w' hw' => ⟨by have h9 := zU hc 11 (by omega) (by omega); simp [rightB, btw] at h9; simp <;> omega, hw'.upd⟩) _ (.inl rfl)
theorem cnd12 (c : C) (w : World) (hc : chk c = 0) (hk : Cok c) : Pur Tryz.prog 218 [c.v] w (.bool true) := by
 refine g_st Tryz.func218 9 (WOK.start [] _) ?_
 have g1 := hk.vis; have g2 := hk.pays; have g3 := hk.unb
 refine rn [1] ?_
 refine g_op (g_box (c := C.c c) rfl rfl rfl fun b1 => ?_)
 refine rn [3,0,1,4,5,4,5] ?_
 refine s_q (yQ (z := c.unb + 1) rfl rfl (wi64 (by omega) (by omega))) rfl ?_
 refine g_op (zG rfl (fun w1 hw1 => wG _ _ _ w1) rfl ?_)
 refine rn [3,0,11] ?_
 exact fin1 rfl (.tmp rfl) (fun w' hw' => ⟨by have h9 := zU hc 12 (by omega) (by omega); simp [rightB, btw] at h9; simp <;> omega, hw'.upd⟩) _ (.inl rfl)
theorem cnd13 (c : C) (w : World) (hc : chk c = 0) (hk : Cok c) : Pur Tryz.prog 219 [c.v] w (.bool true) := by
 refine g_st Tryz.func219 6 (WOK.start [] _) ?_
 refine rn [1] ?_
 refine g_op (g_box (c := C.c c) rfl rfl rfl fun b1 => ?_)
 refine rn [3,0,1,4,5] ?_
 refine g_op (zG rfl (fun w1 hw1 => wG _ _ _ w1) rfl ?_)
 refine rn [3,0,11] ?_
 exact fin1 rfl (.tmp rfl) (fun w' hw' => ⟨by have h9 := zU hc 13 (by omega) (by omega); simp [rightB, btw] at h9; simp <;> omega, hw'.upd⟩) _ (.inl rfl)
theorem cnd14 (c : C) (w : World) (hc : chk c = 0) (hk : Cok c) : Pur Tryz.prog 220 [c.v] w (.bool true) := by
 refine g_st Tryz.func220 6 (WOK.start [] _) ?_
 refine rn [1] ?_
 refine g_op (g_box (c := C.c c) rfl rfl rfl fun b1 => ?_)
 refine rn [3,0,1,4,5] ?_
 refine g_op (zG rfl (fun w1 hw1 => wG _ _ _ w1) rfl ?_)
 refine rn [3,0,11] ?_
 exact fin1 rfl (.tmp rfl) (fun w' hw' => ⟨by have h9 := zU hc 14 (by omega) (by omega); simp [rightB, btw] at h9; simp <;> omega, hw'.upd⟩) _ (.inl rfl)
theorem cnd15 (c : C) (w : World) (hc : chk c = 0) (hk : Cok c) : Pur Tryz.prog 221 [c.v] w (.bool true) := by
 refine g_st Tryz.func221 6 (WOK.start [] _) ?_
 refine rn [1] ?_
 refine g_op (g_box (c := C.c c) rfl rfl rfl fun b1 => ?_)
 refine rn [3,0,1,4,5] ?_
 refine g_op (zG rfl (fun w1 hw1 => wG _ _ _ w1) rfl ?_)
 refine rn [3,0,11] ?_
 exact fin1 rfl (.tmp rfl) (fun w' hw' => ⟨by have h9 := zU hc 15 (by omega) (by omega); simp [rightB, btw] at h9; simp <;> omega, hw'.upd⟩) _ (.inl rfl)
theorem cnd16 (c : C) (w : World) (hc : chk c = 0) (hk : Cok c) : Pur Tryz.prog 222 [c.v] w (.bool true) := by
 refine g_st Tryz.func222 6 (WOK.start [] _) ?_
 refine rn [1] ?_
 refine g_op (g_box (c := C.c c) rfl rfl rfl fun b1 => ?_)
 refine rn [3,0,1,4,5] ?_
 refine g_op (zG rfl (fun w1 hw1 => wG _ _ _ w1) rfl ?_)
 refine rn [3,0,11] ?_
 exact fin1 rfl (.tmp rfl) (fun w' hw' => ⟨by have h9 := zU hc 16 (by omega) (by omega); simp [rightB, btw] at h9; simp <;> omega, hw'.upd⟩) _ (.inl rfl)
theorem cnd17 (c : C) (w : World) (hc : chk c = 0) (hk : Cok c) : Pur Tryz.prog 223 [c.v] w (.bool true) := by
 refine g_st Tryz.func223 12 (WOK.start [] _) ?_
 have g1 := hk.vis; have g2 := hk.pays; have g3 := hk.unb
 refine rn [1] ?_
 refine g_op (g_box (c := C.c c) rfl rfl rfl fun b1 => ?_)
 refine rn [3,0,1,4,5,4,5,4,5,58] ?_
 refine s_q (yZ (z := min c.vis c.pays - 1) rfl rfl (wi64 (by omega) (by omega))) rfl ?_
 refine g_op (zG rfl (fun w1 hw1 => wG _ _ _ w1) rfl ?_)
 refine rn [3,0,11] ?_
 exact fin1 rfl (.tmp rfl) (fun w' hw' => ⟨by have h9 := zU hc 17 (by omega) (by omega); simp [rightB, btw] at h9; simp <;> omega, hw'.upd⟩) _ (.inl rfl)
theorem cnd18 (c : C) (w : World) (hc : chk c = 0) (hk : Cok c) : Pur Tryz.prog 224 [c.v] w (.bool true) := by
 refine g_st Tryz.func224 6 (WOK.start [] _) ?_
 refine rn [1] ?_
 refine g_op (g_box (c := C.c c) rfl rfl rfl fun b1 => ?_)
 refine rn [3,0,1,4,5] ?_
 refine g_op (zG rfl (fun w1 hw1 => wG _ _ _ w1) rfl ?_)
 refine rn [3,0,11] ?_
 exact fin1 rfl (.tmp rfl) (fun w' hw' => ⟨by have h9 := zU hc 18 (by omega) (by omega); simp [rightB, btw] at h9; simp <;> omega, hw'.upd⟩) _ (.inl rfl)
theorem cnd19 (c : C) (w : World) (hc : chk c = 0) (hk : Cok c) : Pur Tryz.prog 225 [c.v] w (.bool true) := by
 refine g_st Tryz.func225 8 (WOK.start [] _) ?_
 refine rn [1] ?_
 refine g_op (g_box (c := C.c c) rfl rfl rfl fun b1 => ?_)
 refine rn [3,0,1,4,5,4,5,56,3,0,11] ?_
 exact fin1 rfl (.tmp rfl) (fun w' hw' => ⟨by have h9 := zU hc 19 (by omega) (by omega); simp [rightB, btw] at h9; simp <;> omega, hw'.upd⟩) _ (.inl rfl)
theorem cnd20 (c : C) (w : World) (hc : chk c = 0) (hk : Cok c) : Pur Tryz.prog 226 [c.v] w (.bool true) := by
 refine g_st Tryz.func226 6 (WOK.start [] _) ?_
 refine rn [1] ?_
 refine g_op (g_box (c := C.c c) rfl rfl rfl fun b1 => ?_)
 refine rn [3,0,1,4,5] ?_
 refine g_op (zG rfl (fun w1 hw1 => sQ _ _ _ w1) rfl ?_)
 refine rn [3,0,11] ?_
 exact fin1 rfl (.tmp rfl) (fun w' hw' => ⟨by have h9 := zU hc 20 (by omega) (by omega); simp [rightB, btw] at h9; simp <;> omega, hw'.upd⟩) _ (.inl rfl)
def cndF : List Nat := [205, 207, 208, 209, 210, 212, 213, 214, 215, 216, 217, 218, 219, 220, 221, 222, 223, 224, 225, 226]
def cndV : List Value := cndF.map fun f => .func (.func f) #[] #[]
theorem cnd_all {c : C} (hc : chk c = 0) (hk : Cok c) : ∀ f ∈ cndF, hasBody Tryz.prog f = true ∧ ∀ w, Pur Tryz.prog f [c.v] w (.bool true) := by
 intro f hf
 simp only [cndF, List.mem_cons, List.not_mem_nil, or_false] at hf
 rcases hf with rfl | rfl | rfl | rfl | rfl | rfl | rfl | rfl | rfl | rfl | rfl | rfl | rfl | rfl | rfl | rfl | rfl | rfl | rfl | rfl
 ·exact ⟨by kernel_rfl, fun w => cnd1 c w hc hk⟩
 ·exact ⟨by kernel_rfl, fun w => cnd2 c w hc hk⟩
 ·exact ⟨by kernel_rfl, fun w => cnd3 c w hc hk⟩
 ·exact ⟨by kernel_rfl, fun w => cnd4 c w hc hk⟩
 ·exact ⟨by kernel_rfl, fun w => cnd5 c w hc hk⟩
 ·exact ⟨by kernel_rfl, fun w => cnd6 c w hc hk⟩
 ·exact ⟨by kernel_rfl, fun w => cnd7 c w hc hk⟩
 ·exact ⟨by kernel_rfl, fun w => cnd8 c w hc hk⟩
 ·exact ⟨by kernel_rfl, fun w => cnd9 c w hc hk⟩
 ·exact ⟨by kernel_rfl, fun w => cnd10 c w hc hk⟩
 ·exact ⟨by kernel_rfl, fun w => cnd11 c w hc hk⟩
 ·exact ⟨by kernel_rfl, fun w => cnd12 c w hc hk⟩
 ·exact ⟨by kernel_rfl, fun w => cnd13 c w hc hk⟩
 ·exact ⟨by kernel_rfl, fun w => cnd14 c w hc hk⟩
 ·exact ⟨by kernel_rfl, fun w => cnd15 c w hc hk⟩
 ·exact ⟨by kernel_rfl, fun w => cnd16 c w hc hk⟩
 ·exact ⟨by kernel_rfl, fun w => cnd17 c w hc hk⟩
 ·exact ⟨by kernel_rfl, fun w => cnd18 c w hc hk⟩
 ·exact ⟨by kernel_rfl, fun w => cnd19 c w hc hk⟩
 ·exact ⟨by kernel_rfl, fun w => cnd20 c w hc hk⟩
theorem cnd_get {i : Nat} (h : i < 20) : ∃ f ∈ cndF, cndV[i]? = some (.func (.func f) #[] #[]) := ⟨cndF[i]'h, List.getElem_mem _, by unfold cndV; rw [List.getElem?_map, List.getElem?_eq_getElem (show i < cndF.length from h)]; rfl⟩
theorem conds_any  (w : World)  : Pur Tryz.prog 143 [] w (.agg cndV.toArray) := by
 refine g_st Tryz.func143 22 (WOK.start [] _) ?_
 refine rn [1] ?_
 refine g_op (zI rfl fun b0 => ?_)
 refine rn [0,1,49,49,49,49,49,49,49,49,49,49,49,49,49,49,49,49,49,49,49,49,49,33,0,11] ?_
 exact fin1 rfl (.cellw rfl rfl) (fun w' hw' => ⟨by rfl, hw'.upd⟩) _ (.inl rfl)
theorem cchk_any (c : C) (w : World) (hc : chk c = 0) (hk : Cok c) : Pur Tryz.prog 87 [c.v] w (.int .i64 0) := by
 refine g_st Tryz.func87 18 (WOK.start [] _) ?_
 refine rn [1] ?_
 refine g_op (g_box (c := C.c c) rfl rfl rfl fun b1 => ?_)
 refine rn [3,0,8,1] ?_
 refine g_op (zG rfl (fun w1 hw1 => conds_any w1) rfl ?_)
 refine rn [2,0,14] ?_
 refine g_lk [1, 2, 5] (fun (x : Nat) => [(6, .int .i64 ((x : Nat) : Int))]) (fun (x : Nat) => [Res.blk b1 24 c.c]) (fun (x : Nat) => x ≤ 20) (fun (x : Nat) => 20 - x) 0 (by (try dsimp only); exact Nat.zero_le _) ?_
 rintro k le_k
 replace le_k : k ≤ 20 := le_k
 refine rn [1,46,0,8] ?_
 refine zC rfl (fun h1 => ?_) (fun h1 => ?_)
 ·have lt_k : k < 20 := by have h9 := of_decide_eq_true h1; omega
  obtain ⟨f, hf, hfv⟩ := cnd_get lt_k
  refine rn [12,7,8,14,1,2] ?_
  refine s_q (q_idxagg1 (i := k) rfl rfl rfl lt_k hfv) rfl ?_
  refine g_op (zI rfl fun b4 => ?_)
  refine rn [3,33,0,1,4,5,45] ?_
  refine g_op (g_purevE (hb := ⟨(cnd_all hc hk f hf).1⟩) (f := f) rfl rfl (fun w1 hw1 => (cnd_all hc hk f hf).2 w1) rfl ?_)
  refine rn [48] ?_
  refine yG 14 (b := false) rfl (rfl) ?_
  refine rn [0,20,12,15,7,10,43,2,9] ?_
  exact g_ag (k + 1) (by (try dsimp only); exact (by first | exact lt_k | omega))
 ·have eq_k : k = 20 := by have h9 := of_decide_eq_false h1; omega
  refine rn [16] ?_
  refine zF (zF (zQ ?_))
  refine rn [7,1,3,0,11] ?_
  exact fin1 rfl (.tmp rfl) (fun w' hw' => ⟨by rfl, hw'.upd⟩) _ (.inl rfl)
theorem cvalid_any (c : C) (w : World) (hc : chk c = 0) (hk : Cok c) : Pur Tryz.prog 32 [c.v] w (.bool true) := by
 refine g_st Tryz.func32 6 (WOK.start [] _) ?_
 refine rn [1] ?_
 refine g_op (g_box (c := C.c c) rfl rfl rfl fun b1 => ?_)
 refine rn [3,0,1,45] ?_
 refine g_op (zG rfl (fun w1 hw1 => cchk_any c w1 hc hk) rfl ?_)
 refine rn [44,3,0,11] ?_
 exact fin1 rfl (.tmp rfl) (fun w' hw' => ⟨by rfl, hw'.upd⟩) _ (.inl rfl)
theorem cyc1_any (ub b2 b3 n k : Nat) (w : World) (hw : W0 [Res.blk b2 96 [Value.pointer (some ⟨ub, 0, none⟩)], Res.blk b3 3 [Value.int .i64 ((n : Nat) : Int)], Res.blk ub 180 [Value.int .i64 ((k : Nat) : Int)]] w) (hk : k < 1000000) (hn : 0 < n ∧ n ≤ 1000000) : Own2 (ι := Unit) Tryz.prog 287 [.pointer (some ⟨b2, 0, none⟩), .pointer (some ⟨b3, 0, none⟩)] w [Res.blk b2 96 [Value.pointer (some ⟨ub, 0, none⟩)], Res.blk b3 3 [Value.int .i64 ((n : Nat) : Int)], Res.blk ub 180 [Value.int .i64 ((k : Nat) : Int)]] (fun x => True) (fun x => .int .i64 ((k % n : Nat) : Int)) (fun x => []) (fun x => [Res.blk b2 96 [Value.pointer (some ⟨ub, 0, none⟩)], Res.blk b3 3 [Value.int .i64 ((n : Nat) : Int)], Res.blk ub 180 [Value.int .i64 ((((k % n + 1) % n) : Nat) : Int)]]) := by
 refine g_st Tryz.func287 18 hw ?_
 have hm := Nat.mod_lt k hn.1
 refine rn [1,3,0,8] ?_
 refine dreg [] mixed rfl ?_
 refine rn [23,0,5,23,1,6,23,2,4,23,3,5,23,4,5] ?_
 refine dq 5 rfl (wB (a := k) (b := n) rfl rfl (by first | omega | (simp; omega) | (simp_all; omega))) ?_
 refine rn [23,6,3,27,7,8] ?_
 refine dreg [7] mixed rfl ?_
 refine rn [23,0,5,23,1,2,23,2,43,23,3,5] ?_
 refine dq 4 rfl (wB (a := ((k % n) + 1)) (b := n) rfl rfl (by first | omega | (simp; omega) | (simp_all; omega))) ?_
 refine rn [24,5,6,23,6,4] ?_
 refine dop 7 rfl (zP rfl rfl rfl rfl rfl rfl rfl ?_)
 refine zJ (b := ub) [Value.int .i64 (((k % n + 1) % n : Nat) : Int)] (by simp [splice]) ?_
 refine rn [28,7,1,2,3,0,11] ?_
 exact fin1 rfl (.tmp rfl) (fun w' hw' => ⟨(), (by exact trivial), rfl, zA w' hw'⟩) _ (.inl rfl)
theorem cycle_any (ub n : Nat) (w : World)  : Own2 (ι := (Nat × Nat)) Tryz.prog 239 [.pointer (some ⟨ub, 0, none⟩), .int .i64 ((n : Nat) : Int)] w [] (fun x => True) (fun x => .func (.func 287) #[] [Value.pointer (some ⟨x.1, 0, none⟩), Value.pointer (some ⟨x.2, 0, none⟩)].toArray) (fun x => [Res.blk x.1 96 [Value.pointer (some ⟨ub, 0, none⟩)], Res.blk x.2 3 [Value.int .i64 ((n : Nat) : Int)]]) (fun x => []) := by
 refine g_st Tryz.func239 6 (WOK.start (fps []) _) ?_
 refine rn [1] ?_
 refine g_op (g_box rfl rfl rfl fun b2 => ?_)
 refine g_op (g_box rfl rfl rfl fun b3 => ?_)
 refine rn [3,0,1,52,3,0,11] ?_
 exact fin1 rfl (.tmp rfl) (fun w' hw' => ⟨(b2, b3), (by exact trivial), rfl, zA w' hw'⟩) _ (.inl rfl)
theorem swp_stop {rd : List Bool} {n pays k at_ made : Nat} {paid : List Int} (h : paid.length = pays) : swp rd n pays k at_ paid made = (at_, paid, made) := by
 cases k with
 | zero => rfl
 | succ k => rw [swp, if_pos h]
theorem swp_go {rd : List Bool} {n pays K at_ made : Nat} {paid : List Int} (h : ¬ paid.length = pays) (hk : made < K) : swp rd n pays (K - made) at_ paid made = swp rd n pays (K - (made + 1)) ((at_ % n + 1) % n) (if rd[at_ % n]? = some true then paid ++ [((at_ % n : Nat) : Int)] else paid) (made + 1) := by
 obtain ⟨k, hk⟩ : ∃ k, K - made = k + 1 := ⟨K - made - 1, by omega⟩
 rw [hk, swp, if_neg h, show K - (made + 1) = k by omega]
theorem sweep_any (ub k : Nat) (A : Option Addr) (n cap : Nat) (rd : List Bool) (vis pays : Int) (w : World) (hw : W0 [Res.blk ub 180 [Value.int .i64 ((k : Nat) : Int)]] w) (hk : k ≤ 4096) (hrd : Rd w [Res.blk ub 180 [Value.int .i64 ((k : Nat) : Int)]] A n 1 (rd.map (fun v : Bool => [Value.bool v]))) (hb : n ≤ 4096) : Own2 (ι := (Option Addr × Nat)) Tryz.prog 159 [.pointer (some ⟨ub, 0, none⟩), .slice A n cap, .int .i64 vis, .int .i64 pays] w [Res.blk ub 180 [Value.int .i64 ((k : Nat) : Int)]] (fun x => True) (fun x => .tuple [.slice x.1 (sweepS k rd vis pays).2.1.length x.2, .int .i64 (((sweepS k rd vis pays).2.2 : Nat) : Int)].toArray) (fun x => [Res.row x.1 ((sweepS k rd vis pays).2.1).length x.2 3 1 (((sweepS k rd vis pays).2.1).map (fun v : Int => [Value.int .i64 v]))]) (fun x => [Res.blk ub 180 [Value.int .i64 (((sweepS k rd vis pays).1 : Nat) : Int)]]) := by
 refine g_st Tryz.func159 53 hw ?_
 have hn : n = rd.length := by have := hrd.old.len; simpa using this
 refine rn [1,3,3,0] ?_
 refine g_scope ?_
 refine rn [1,2,47,3,0,8,1,2,50,2,22,2,22,44,42,2] ?_
 refine zV 23 rfl (fun h1 => ?_) (fun h1 => ?_)
 ·have hn1 : n = 0 := by have h9 := of_decide_eq_true h1; omega
  have hR : (sweepS k rd vis pays) = (k, [], 0) := by unfold sweepS; rw [if_pos (.inl (by omega))]
  refine rn [21,21,41,0,19,1,3,3,0,11] ?_
  refine zD (wT ?_)
  refine zW none 3 1 (([] : List Int).map (fun v : Int => [Value.int .i64 v])) rfl ?_
  exact fin2 rfl (.tmp rfl) (.tmp rfl) (fun w' hw' => ⟨((none : Option Addr), 0), (by exact trivial), by rw [hR]; rfl, by rw [hR]; exact zA w' hw'⟩) _ (.inl rfl)
 ·have hn0 : 0 < n := by have h9 := of_decide_eq_false h1; omega
  refine rn [22,2,22,46,42,0] ?_
  refine zC rfl (fun h2 => ?_) (fun h2 => ?_)
  ·have hR : (sweepS k rd vis pays) = (k, [], 0) := by unfold sweepS; rw [if_pos (.inr (of_decide_eq_true h2))]
   refine rn [1,3,3,0,11] ?_
   refine zD (wT ?_)
   refine zW none 3 1 (([] : List Int).map (fun v : Int => [Value.int .i64 v])) rfl ?_
   exact fin2 rfl (.tmp rfl) (.tmp rfl) (fun w' hw' => ⟨((none : Option Addr), 0), (by exact trivial), by rw [hR]; rfl, by rw [hR]; exact zA w' hw'⟩) _ (.inl rfl)
  ·have hp0 : 1 ≤ pays := by have h9 := of_decide_eq_false h2; omega
   obtain ⟨P, hP⟩ : ∃ q : Nat, pays = q := ⟨pays.toNat, by omega⟩
   refine g_val 3 (v' := .int .i64 ((P : Nat) : Int)) rfl (by rw [hP]) ?_
   obtain ⟨K, hK⟩ : ∃ q : Nat, (min vis (rd.length : Int)).toNat = q := ⟨_, rfl⟩
   have hR0 : (sweepS k rd vis pays) = swp rd n P (K - 0) k [] 0 := by unfold sweepS; rw [if_neg (by omega), hK, hn, show pays.toNat = P by omega]; rfl
   have hKn : K ≤ n := by omega
   have hm0 := Nat.mod_lt k hn0
   refine rn [12,7,1,2,2] ?_
   refine g_op (zH [] rfl (fun w1 hw1 ho1 => by have h7 := cycle_any ub n w1; exact h7) rfl ?_)
   rintro ⟨b2, b3⟩ _
   refine ii ?_
   refine rn [3,0,1,3] ?_
   refine xP 12 3 1 rfl fun Az1 capz1 hcz1 => ?_
   refine zE (A := Az1) (([] : List Int).map (fun v : Int => [Value.int .i64 v])) rfl ?_
   refine rn [0,1,3,0,8] ?_
   refine g_label ?_
   refine rn [7,8,14] ?_
   refine g_lk [1, 2, 3, 8, 9, 10, 11] (fun (x : Nat × List Int × Nat × Option Addr × Nat) => [(12, .slice x.2.2.2.1 (x.2.1).length x.2.2.2.2), (13, .int .i64 ((x.2.2.1 : Nat) : Int))]) (fun (x : Nat × List Int × Nat × Option Addr × Nat) => [Res.row x.2.2.2.1 (x.2.1).length x.2.2.2.2 3 1 ((x.2.1).map (fun v : Int => [Value.int .i64 v])), Res.blk b2 96 [Value.pointer (some ⟨ub, 0, none⟩)], Res.blk b3 3 [Value.int .i64 ((n : Nat) : Int)], Res.blk ub 180 [Value.int .i64 ((x.1 : Nat) : Int)]]) (fun (x : Nat × List Int × Nat × Option Addr × Nat) => x.1 ≤ 4096 ∧ (x.2.1).length ≤ x.2.2.1 ∧ x.2.2.1 ≤ K ∧ (sweepS k rd vis pays) = swp rd n P (K - x.2.2.1) x.1 x.2.1 x.2.2.1) (fun (x : Nat × List Int × Nat × Option Addr × Nat) => K - x.2.2.1) (k, ([] : List Int), 0, Az1, capz1) (by (try dsimp only); exact ⟨hk, (by simp), (by omega), hR0⟩) ?_
   rintro ⟨k1, p1, m1, A1, cap1⟩ ⟨hk1, hpl, hmK, hs⟩
   replace hk1 : k1 ≤ 4096 := hk1
   replace hpl : (p1).length ≤ m1 := hpl
   replace hmK : m1 ≤ K := hmK
   replace hs : (sweepS k rd vis pays) = swp rd n P (K - m1) k1 p1 m1 := hs
   refine zX (L' := [Res.row A1 (p1).length cap1 3 1 ((p1).map (fun v : Int => [Value.int .i64 v])), Res.blk b2 96 [Value.pointer (some ⟨ub, 0, none⟩)], Res.blk b3 3 [Value.int .i64 ((n : Nat) : Int)], Res.blk ub 180 [Value.int .i64 ((k1 : Nat) : Int)]]) rfl ?_
   refine g_val 12 (v' := .slice A1 (p1).length cap1) rfl rfl ?_
   refine g_val 13 (v' := .int .i64 ((m1 : Nat) : Int)) rfl rfl ?_
   refine rn [8,1,2,2,2,58,46,0] ?_
   refine zC rfl (fun h3 => ?_) (fun h3 => ?_)
   ·have lt_m : m1 < K := by have h9 := of_decide_eq_true h3; omega
    have hm1 := Nat.mod_lt k1 hn0
    have hm2 := Nat.mod_lt (k1 % n + 1) hn0
    refine rn [12,7,8,14,8,1,2,47,2,44,0] ?_
    refine zC rfl (fun h4 => ?_) (fun h4 => ?_)
    ·have hR : (sweepS k rd vis pays) = (k1, p1, m1) := by rw [hs]; exact swp_stop (by have h9 := of_decide_eq_true h4; omega)
     refine rn [16] ?_
     refine zF (sA rfl (zF (zF (zQ ?_))))
     refine rn [7,1,2,2,3,3,0,11] ?_
     refine wT ?_
     exact fin2 rfl (.tmp rfl) (.tmp rfl) (fun w' hw' => ⟨(A1, cap1), (by exact trivial), by rw [hR], by rw [hR]; exact zA w' hw'⟩) _ (.inl rfl)
    ·have hne : ¬ p1.length = P := by have h9 := of_decide_eq_false h4; omega
     refine rn [12,7,1,2] ?_
     refine g_op (xO [Res.blk b2 96 [Value.pointer (some ⟨ub, 0, none⟩)], Res.blk b3 3 [Value.int .i64 ((n : Nat) : Int)], Res.blk ub 180 [Value.int .i64 ((k1 : Nat) : Int)]] rfl rfl (fun w1 hw1 ho1 => by have h7 := cyc1_any ub b2 b3 n k1 w1 ho1 (by omega) ⟨hn0, by omega⟩; exact h7) rfl ?_)
     rintro ⟨⟩ _
     refine ii ?_
     refine rn [3,0,1,2,2] ?_
     refine s_q (zR (i := (k1 % n)) rfl rfl rfl hrd.rdb (by first | omega | (simp; done) | (simp; omega))) rfl ?_
     refine s_q (yK (i := (k1 % n)) (o := 0) rfl hrd.rdb (zS (by omega)) rfl rfl) rfl ?_
     refine rn [0] ?_
     refine zC rfl (fun h5 => ?_) (fun h5 => ?_)
     ·have hrx : rd[k1 % n]? = some true := by rw [List.getElem?_eq_getElem (by omega)]; simpa using h5
      refine rn [10,2,2] ?_
      refine g_op (g_lit rfl rfl rfl rfl rfl fun b49 => ?_)
      refine zJ (b := b49) ((([(((k1 % n) : Nat) : Int)] : List Int).map (fun v : Int => [Value.int .i64 v])).flatten) rfl ?_
      refine g_op (zY (A := A1) (els := (p1).map (fun v : Int => [Value.int .i64 v])) (news := (([(((k1 % n) : Nat) : Int)] : List Int).map (fun v : Int => [Value.int .i64 v]))) rfl rfl (InL.rdb (b := b49) rfl (by simp) rfl) (yF (c := (fun v : Int => [Value.int .i64 v])) (by intro x; simp [Value.oneCell']) _) (by omega) rfl fun A50 cap50 => ⟨_, inferInstance, ?_⟩)
      refine zE (A := A50) (((p1 ++ [(((k1 % n) : Nat) : Int)])).map (fun v : Int => [Value.int .i64 v])) (by first | rfl | exact List.map_append.symm | (simp; done)) ?_
      refine yC (A := A50) (p1 ++ [((k1 % n : Nat) : Int)]).length (by simp) ?_
      refine g_val 50 (v' := .slice A50 (p1 ++ [((k1 % n : Nat) : Int)]).length cap50) rfl (by simp) ?_
      refine rn [3,9,15,7,10,2,43,3,9] ?_
      exact g_ag (((k1 % n + 1) % n), (p1 ++ [((k1 % n : Nat) : Int)]), (m1 + 1), A50, cap50) (by (try dsimp only); exact ⟨(by omega), (by simp; omega), (by omega), (by rw [swp_go hne lt_m, if_pos hrx] at hs; exact hs)⟩)
     ·have hrx : ¬ rd[k1 % n]? = some true := by rw [List.getElem?_eq_getElem (by omega)]; simpa using h5
      refine rn [12,15,7,10,2,43,3,9] ?_
      exact g_ag (((k1 % n + 1) % n), p1, (m1 + 1), A1, cap1) (by (try dsimp only); exact ⟨(by omega), (by omega), (by omega), (by rw [swp_go hne lt_m, if_neg hrx] at hs; exact hs)⟩)
   ·have eq_m : m1 = K := by have h9 := of_decide_eq_false h3; omega
    have hR : (sweepS k rd vis pays) = (k1, p1, m1) := by rw [hs, eq_m, Nat.sub_self]; rfl
    refine rn [16] ?_
    refine zF (zF (zQ ?_))
    refine rn [7,1,2,2,3,3,0,11] ?_
    refine wT ?_
    exact fin2 rfl (.tmp rfl) (.tmp rfl) (fun w' hw' => ⟨(A1, cap1), (by exact trivial), by rw [hR], by rw [hR]; exact zA w' hw'⟩) _ (.inl rfl)
theorem radd_reg (rb : Nat) (g : RG) (v : V) (w : World) (hw : W0 [RgB rb g, RgW g, Res.im (RG.m g)] w) (hg : g.Rep) (hv : v.ok) (hlt : g.l.length < g.cp) (hb : (g.l.map V.bal).sum + v.bal ≤ 18446744073709551615) : Own2 (ι := RG) Tryz.prog 106 [.pointer (some ⟨rb, 0, none⟩), .agg v.c.toArray] w [RgB rb g, RgW g, Res.im (RG.m g)] (fun x => x.Rep ∧ x.l = g.l ++ [v] ∧ x.cp = g.cp) (fun x => .tuple [.int .i64 (((RG.l g).length : Nat) : Int), .int .i64 0].toArray) (fun x => []) (fun x => [RgB rb x, RgW x, Res.im (RG.m x)]) := by
 refine uU Tryz.func106 rfl 51 rfl (by simp) (fps [RgB rb g, RgW g, Res.im (RG.m g)]) [RgB rb g, RgW g, Res.im (RG.m g)] hw _ rfl ?_
 have hcp := hg.cp
 have hvb := hv.bal
 have ht0 : 0 ≤ RG.t g := by rw [hg.t]; exact xM fun x hx => by obtain ⟨y, hy, rfl⟩ := List.mem_map.1 hx; exact (hg.ok y hy).bal.1
 refine rn [1] ?_
 refine g_op (g_box rfl rfl rfl fun b3 => ?_)
 refine rn [3,3,0,8,1,2,50,0,20,12,7,8,8] ?_
 refine dreg [] mixed rfl ?_
 refine rn [23,0,2,23,1,6,23,2,4,23,3,5,23,4,47,23,5,2,23,6,6,23,7,4,23,8,5,23,9,44] ?_
 refine yG 19 (b := false) rfl (by simp; omega) ?_
 refine rn [27,7,20,12,7,8,8] ?_
 refine dreg [] mixed rfl ?_
 refine rn [23,0,2,23,1,6,23,2,4,23,3,5,23,4,4,23,5,5] ?_
 refine dop 6 rfl (g_lit rfl rfl rfl rfl rfl fun b27 => ?_)
 refine zJ (b := b27) ((([(RG.t g), v.bal] : List Int).map (fun v : Int => [Value.int .u64 v])).flatten) rfl ?_
 refine dop 7 rfl (zG rfl (fun w1 hw1 => vB (some ⟨b27, 0, none⟩) (2) (2) (([(RG.t g), v.bal] : List Int)) w1 (Rdb.toOld (InL.rdb (b := b27) (els := (([(RG.t g), v.bal] : List Int)).map (fun v : Int => [Value.int .u64 v])) rfl (by simp) rfl) hw1) (by intro x hx; simp at hx; have := hg.t; have := hg.mx; rcases hx with rfl | rfl <;> omega) (by first | omega | (simp; omega) | (simp; done))) rfl ?_)
 refine rn [23,8,2,23,9,40,23,10,40,23,11,3,23,12,3,27,7,1,2,48,0] ?_
 refine zC rfl (fun h1 => ?_) (fun h1 => ?_)
 ·exfalso; have h9 := h1; have h8 : addB [RG.t g, v.bal] = true := (add_fits (by have h7 := hg.t; simp; omega)).1; rw [h8] at h9; simp at h9
 ·refine rn [12,7,1,2,45] ?_
  refine g_op (g_defer (fst := []) (cap := []) rfl rfl ?_)
  refine rn [0,8] ?_
  refine dregL (L0 := [Res.blk rb 167 [Value.int .i64 ((RG.cp g : Nat) : Int), .slice (RG.A g) (RG.l g).length (RG.k g), .int .u64 (RG.a g), .int .u64 (RG.t g), .map (some (RG.m g))], Res.blk b3 52 v.c]) [10] mixed rfl zB ?_
  refine rn [23,0,2,23,1,2,23,2,6,23,3,4,23,4,5,23,5,45] ?_
  refine dop 6 rfl (g_lit rfl rfl rfl rfl rfl fun b41 => ?_)
  refine zJ (b := b41) ((([v] : List V).map V.c).flatten) rfl ?_
  refine dop 7 rfl (zY (A := (RG.A g)) (els := ((RG.l g)).map V.c) (news := (([v] : List V).map V.c)) rfl rfl (InL.rdb (b := b41) rfl (by simp [V.c]) rfl) (yF (c := V.c) (by intro x; simp [V.c, Value.oneCell']) _) (by have := hg.cp; omega) rfl fun A42 cap42 => ⟨_, inferInstance, ?_⟩)
  refine zE (A := A42) ((((RG.l g) ++ [v])).map V.c) (by first | rfl | exact List.map_append.symm | (simp; done)) ?_
  refine yC (A := A42) (g.l ++ [v]).length (by simp) ?_
  refine g_val 42 (v' := .slice A42 (g.l ++ [v]).length cap42) rfl (by simp) ?_
  refine rn [24,8,6,23,9,4] ?_
  refine dop 10 rfl (zP rfl rfl rfl rfl rfl rfl rfl ?_)
  refine zJ (b := rb) [Value.int .i64 ((RG.cp g : Nat) : Int), .slice A42 (g.l ++ [v]).length cap42, .int .u64 (RG.a g), .int .u64 (RG.t g), .map (some (RG.m g))] (by simp [splice]) ?_
  refine rn [28,7,1,2,6,4,5,47] ?_
  refine s_q (yZ (z := (((RG.l g).length : Nat) : Int)) rfl rfl (by simp; rw [wi64 (by omega) (by omega)])) rfl ?_
  refine rn [3,3,0,11] ?_
  refine finD [RgB rb (RG.mk g.cp A42 cap42 (g.l ++ [v]) g.a g.t g.m), RgW (RG.mk g.cp A42 cap42 (g.l ++ [v]) g.a g.t g.m), Res.im (RG.m (RG.mk g.cp A42 cap42 (g.l ++ [v]) g.a g.t g.m))] (fun w1 hw1 ho1 => by have h7 := countD_any rb (RG.mk g.cp A42 cap42 (g.l ++ [v]) g.a g.t g.m) v true w1 ho1 hv; exact h7) ?_ _ (.inl rfl)
  rintro ⟨⟩ _
  refine ⟨_, _, inferInstance, inferInstance, ?_⟩
  exact finM2 rfl (.tmp rfl) (.tmp rfl) (fun w' hw' => ⟨(RG.cnt (RG.mk g.cp A42 cap42 (g.l ++ [v]) g.a g.t g.m) (sgn v true) v), ⟨RG.add_rep hg hlt hv hb, rfl, rfl⟩, rfl, by have h9 := zB (L' := [RgB rb (RG.cnt (RG.mk g.cp A42 cap42 (g.l ++ [v]) g.a g.t g.m) (sgn v true) v), RgW (RG.cnt (RG.mk g.cp A42 cap42 (g.l ++ [v]) g.a g.t g.m) (sgn v true) v), Res.im (RG.m (RG.cnt (RG.mk g.cp A42 cap42 (g.l ++ [v]) g.a g.t g.m) (sgn v true) v))]) w' hw'; exact h9⟩)
theorem xB (rb : Nat) (g : RG) (i : Int) (v : V) (w : World) (hw : W0 [RgB rb g, RgW g, Res.im (RG.m g)] w) (hg : g.Rep) (hv : v.ok) (hb : ∀ n : Nat, i = n → (h : n < g.l.length) → (g.l.map V.bal).sum - (g.l[n]).bal + v.bal ≤ 18446744073709551615) : Own2 (ι := RG) Tryz.prog 113 [.agg #[.pointer (some ⟨rb, 0, none⟩)], .int .i64 i, .agg v.c.toArray] w [RgB rb g, RgW g, Res.im (RG.m g)] (fun x => x.Rep ∧ x.l = setV g.l i v ∧ x.cp = g.cp) (fun x => .tuple #[]) (fun x => []) (fun x => [RgB rb x, RgW x, Res.im (RG.m x)]) := by
 refine g_st Tryz.func113 11 hw ?_
 refine rn [1] ?_
 refine g_op (g_box (c := [Value.pointer (some ⟨rb, 0, none⟩)]) rfl rfl rfl fun b3 => ?_)
 refine g_op (g_box rfl rfl rfl fun b5 => ?_)
 refine rn [0,10,4,5,2,45] ?_
 refine g_op (zH _ rfl (fun w1 hw1 ho1 => by have h7 := rset_any rb g (i) (v) w1 ho1 hg hv hb; exact h7) rfl ?_)
 rintro g10 ⟨r10, l10, c10⟩
 refine ii ?_
 refine rn [9] ?_
 exact fin0 rfl (fun w' hw' => ⟨g10, (by exact ⟨r10, by rw [l10]; rfl, c10⟩), rfl, zA w' hw'⟩) _ (.inr rfl)
theorem ok_st {v : V} {z : Int} (h : v.ok) (hz : 0 ≤ z ∧ z ≤ 7) : ({ v with st := z } : V).ok := ⟨h.bal, by simp only; omega, h.rq, h.ex, h.wd, h.dl⟩
theorem sum_same {l : List V} {n : Nat} (h : n < l.length) (hm : (l.map V.bal).sum ≤ 18446744073709551615) {v : V} (hv : v.bal = (l[n]).bal) : (l.map V.bal).sum - (l[n]).bal + v.bal ≤ 18446744073709551615 := by rw [hv]; omega
theorem rH (rb : Nat) (g : RG) (i : Int) (e : Nat) (w : World) (hw : W0 [RgB rb g, RgW g, Res.im (RG.m g)] w) (hg : g.Rep) (he : e < 8) (hst : ∀ v ∈ RG.l g, 0 ≤ v.st ∧ v.st ≤ 7) : Own2 (ι := RG) Tryz.prog 148 [.agg #[.pointer (some ⟨rb, 0, none⟩)], .int .i64 i, .int .i64 (e : Int)] w [RgB rb g, RgW g, Res.im (RG.m g)] (fun x => x.Rep ∧ x.l = evV g.l i (e : Int) ∧ x.cp = g.cp) (fun x => .bool (hasV g.l i && decide ((nxt (gotV g.l i).st (e : Int)) ≠ 0))) (fun x => []) (fun x => [RgB rb x, RgW x, Res.im (RG.m x)]) := by
 refine g_st Tryz.func148 37 hw ?_
 refine rn [1] ?_
 refine g_op (g_box (c := [Value.pointer (some ⟨rb, 0, none⟩)]) rfl rfl rfl fun b3 => ?_)
 refine rn [3,0,1,4,5,2] ?_
 refine g_op (zL _ rfl (fun w1 hw1 ho1 => by exact xU rb g (i) w1 ho1) rfl ?_)
 refine rn [2,40,40] ?_
 refine g_op (zI rfl fun b7 => ?_)
 refine rn [33,3,0,1] ?_
 have hst1 : 0 ≤ (gotV g.l i).st ∧ (gotV g.l i).st ≤ 7 := by
   rcases Bool.eq_false_or_eq_true (hasV g.l i) with h | h
   · exact hst _ (by have h9 := of_decide_eq_true h; obtain ⟨q, rfl⟩ : ∃ q : Nat, i = q := ⟨i.toNat, by omega⟩; rw [yT (by omega)]; exact List.getElem_mem _)
   · rw [sR h]; decide
 refine rn [4,5,2] ?_
 refine g_op (zG rfl (fun w1 hw1 => by have h7 := next_any ((gotV g.l i).st).toNat ((e : Int)).toNat w1 (by omega) (by omega); rw [Int.toNat_of_nonneg (show 0 ≤ (gotV g.l i).st by omega), Int.toNat_of_nonneg (show 0 ≤ (e : Int) by omega)] at h7; exact h7) rfl ?_)
 refine rn [2,40,40,3,3,0,8,1,2,48,2] ?_
 refine zV 27 rfl (fun h1 => ?_) (fun h1 => ?_)
 ·have hh : hasV g.l i = false := by simpa using h1
  refine rn [21,21,41,0,19,1,3,0,11,13] ?_
  exact fin1 rfl (.tmp rfl) (fun w' hw' => ⟨g, (by (try dsimp only); exact ⟨hg, by unfold evV; rw [if_neg (by first | (rw [hh]; simp; done) | (rw [hn]; simp; done) | simp_all)], rfl⟩), by first | (rw [hh]; rfl) | (rw [hn]; simp), zA w' hw'⟩) _ (.inl rfl)
 ·have hh : hasV g.l i = true := by simpa using h1
  refine rn [22,2,22,48,42,0] ?_
  refine zC rfl (fun h2 => ?_) (fun h2 => ?_)
  ·have hn : (nxt (gotV g.l i).st (e : Int)) = 0 := by simpa using h2
   refine rn [1,3,0,11,13] ?_
   exact fin1 rfl (.tmp rfl) (fun w' hw' => ⟨g, (by (try dsimp only); exact ⟨hg, by unfold evV; rw [if_neg (by first | (rw [hh]; simp; done) | (rw [hn]; simp; done) | simp_all)], rfl⟩), by first | (rw [hh]; rfl) | (rw [hn]; simp), zA w' hw'⟩) _ (.inl rfl)
  ·have hn : ¬ (nxt (gotV g.l i).st (e : Int)) = 0 := by simpa using h2
   refine rn [12,7,1,2,4] ?_
   refine g_op (zP rfl rfl rfl rfl rfl rfl rfl ?_)
   refine zJ (b := b7) (V.c { gotV g.l i with st := nxt (gotV g.l i).st (e : Int) }) (by simp [splice, V.c]) ?_
   obtain ⟨q9, hqi⟩ : ∃ q : Nat, i = q := ⟨i.toNat, by have h9 := of_decide_eq_true hh; omega⟩
   have hq9 : q9 < g.l.length := by have h9 := of_decide_eq_true hh; omega
   have hgo : gotV g.l i = g.l[q9] := by rw [hqi]; exact yT hq9
   refine rn [0,1,45,2,45] ?_
   refine g_op (zH _ rfl (fun w1 hw1 ho1 => by have h7 := xB rb g (i) ({ gotV g.l i with st := nxt (gotV g.l i).st (e : Int) }) w1 ho1 hg (by rw [hgo]; exact ok_st (hg.ok _ (List.getElem_mem hq9)) (nxt_rng _ _)) (fun n hn2 h => sum_same h hg.mx (by obtain rfl : q9 = n := (by omega); simp only [hgo])); exact h7) rfl ?_)
   rintro g36 ⟨r36, l36, c36⟩
   refine ii ?_
   refine rn [0,1,3,0,11] ?_
   exact fin1 rfl (.tmp rfl) (fun w' hw' => ⟨g36, (by exact ⟨r36, by rw [l36]; unfold evV setV; rw [if_pos hh, if_pos ⟨hh, hn⟩], c36⟩), by rw [hh, decide_eq_true hn]; rfl, zA w' hw'⟩) _ (.inl rfl)
theorem uF (rb : Nat) (g : RG) (w : World) (hw : W0 [RgB rb g, RgW g, Res.im (RG.m g)] w) (hg : g.Rep) : Own2 (ι := (Option Addr × Nat)) Tryz.prog 153 [.agg #[.pointer (some ⟨rb, 0, none⟩)]] w [RgB rb g, RgW g, Res.im (RG.m g)] (fun x => True) (fun x => .slice x.1 ((RG.l g).map V.bal).length x.2) (fun x => [Res.row x.1 ((RG.l g).map V.bal).length x.2 22 1 (((RG.l g).map V.bal).map (fun v : Int => [Value.int .u64 v]))]) (fun x => [RgB rb g, RgW g, Res.im (RG.m g)]) := by
 refine g_st Tryz.func153 21 hw ?_
 have q1 := hg.le; have q2 := hg.cp
 refine rn [1] ?_
 refine g_op (g_box (c := [Value.pointer (some ⟨rb, 0, none⟩)]) rfl rfl rfl fun b1 => ?_)
 refine rn [3,0,1,3] ?_
 refine xP 3 22 1 rfl fun Az1 capz1 hcz1 => ?_
 refine zE (A := Az1) (([] : List Int).map (fun v : Int => [Value.int .u64 v])) rfl ?_
 refine rn [0,8,1,4,5] ?_
 refine g_op (zH _ rfl (fun w1 hw1 ho1 => by have h7 := vK rb g w1 ho1 hg; exact h7) rfl ?_)
 rintro ⟨A8, cap8⟩ _
 refine ii ?_
 refine rn [47,2,0,14] ?_
 refine zE (A := Az1) ((((RG.l g).map V.bal).take 0).map (fun v : Int => [Value.int .u64 v])) (by simp) ?_
 refine g_lk [2, 8, 9] (fun (x : Nat × Option Addr × Nat) => [(3, .slice x.2.1 x.1 x.2.2), (10, .int .i64 ((x.1 : Nat) : Int))]) (fun (x : Nat × Option Addr × Nat) => [Res.row x.2.1 x.1 x.2.2 22 1 ((((RG.l g).map V.bal).take x.1).map (fun v : Int => [Value.int .u64 v])), Res.row A8 (RG.l g).length cap8 52 7 ((RG.l g).map V.c), RgB rb g, RgW g, Res.im (RG.m g)]) (fun (x : Nat × Option Addr × Nat) => x.1 ≤ (RG.l g).length) (fun (x : Nat × Option Addr × Nat) => (RG.l g).length - x.1) (0, Az1, capz1) (by (try dsimp only); exact Nat.zero_le _) ?_
 rintro ⟨k, A1, cap1⟩ le_k
 replace le_k : k ≤ (RG.l g).length := le_k
 refine zX (L' := [Res.row A1 k cap1 22 1 ((((RG.l g).map V.bal).take k).map (fun v : Int => [Value.int .u64 v])), Res.row A8 (RG.l g).length cap8 52 7 ((RG.l g).map V.c), RgB rb g, RgW g, Res.im (RG.m g)]) rfl ?_
 refine g_val 3 (v' := .slice A1 k cap1) rfl rfl ?_
 refine g_val 10 (v' := .int .i64 ((k : Nat) : Int)) rfl rfl ?_
 refine rn [1,46,0,8] ?_
 refine zC rfl (fun h1 => ?_) (fun h1 => ?_)
 ·have lt_k : k < (RG.l g).length := by have h9 := of_decide_eq_true h1; omega
  refine rn [12,7,8,14,1] ?_
  refine s_q (zR (i := k) rfl rfl rfl (InRow.rdb (A := A8) (els := ((RG.l g)).map V.c) (by first | rfl | assumption | (simp; done) | (simp_all; done) | (simp; omega) | (simp_all; omega)) (zK (c := V.c) (fun _ => rfl) _)) (by first | exact lt_k | omega)) rfl ?_
  refine s_q (zT (i := k) rfl (InRow.rdb (A := A8) (els := ((RG.l g)).map V.c) (by first | rfl | assumption | (simp; done) | (simp_all; done) | (simp; omega) | (simp_all; omega)) (zK (c := V.c) (fun _ => rfl) _)) (zS (by first | assumption | omega | (simp_all; done) | (simp_all; omega))) rfl) rfl ?_
  refine g_op (zI rfl fun b5 => ?_)
  refine rn [33,0,10,2,4,5] ?_
  refine g_op (g_lit rfl rfl rfl rfl rfl fun b17 => ?_)
  refine zJ (b := b17) ((([(RG.l g)[k].bal] : List Int).map (fun v : Int => [Value.int .u64 v])).flatten) rfl ?_
  refine g_op (zY (A := A1) (els := ((((RG.l g).map V.bal).take k)).map (fun v : Int => [Value.int .u64 v])) (news := (([(RG.l g)[k].bal] : List Int).map (fun v : Int => [Value.int .u64 v]))) rfl rfl (InL.rdb (b := b17) rfl (by simp) rfl) (yF (c := (fun v : Int => [Value.int .u64 v])) (by intro x; simp [Value.oneCell']) _) (by omega) rfl fun A18 cap18 => ⟨_, inferInstance, ?_⟩)
  refine zE (A := A18) ((((((RG.l g).map V.bal).take k) ++ [(RG.l g)[k].bal])).map (fun v : Int => [Value.int .u64 v])) (by first | rfl | exact List.map_append.symm | (simp; done)) ?_
  refine zE (A := A18) ((((RG.l g).map V.bal).take (k + 1)).map (fun v : Int => [Value.int .u64 v])) (by rw [← List.take_append_getElem (show k < ((RG.l g).map V.bal).length by simpa using lt_k)]; simp) ?_
  refine rn [3,9,15,7,10,43,2,9] ?_
  exact g_ag ((k + 1), A18, cap18) (by (try dsimp only); exact (by first | exact lt_k | omega))
 ·have eq_k : k = (RG.l g).length := by have h9 := of_decide_eq_false h1; omega
  subst eq_k
  refine rn [16] ?_
  refine zF (zF (zQ ?_))
  refine rn [7,1,2,3,0,11] ?_
  refine zE (A := A1) (((RG.l g).map V.bal).map (fun v : Int => [Value.int .u64 v])) (by rw [List.take_of_length_le (by simp)]) ?_
  refine yC (A := A1) ((RG.l g).map V.bal).length (by simp) ?_
  exact fin1 rfl (.tmp rfl) (fun w' hw' => ⟨(A1, cap1), (by exact trivial), by simp, zA w' hw'⟩) _ (.inl rfl)
theorem pcheck_any (A : Option Addr) (n cap : Nat) (l : List V) (r : Rq) (w : World) (hl : Old w A n 7 (l.map V.c)) (hb : n ≤ 1000000) : Pur Tryz.prog 119 [.slice A n cap, .agg r.c.toArray] w (.int .i64 (prtC l r.i r.m)) := by
 refine g_st Tryz.func119 30 (WOK.start [] _) ?_
 have hn : n = l.length := by simpa using hl.len
 refine rn [1] ?_
 refine g_op (g_box (c := Rq.c r) rfl rfl rfl fun b3 => ?_)
 refine rn [3,0,8,14,1,4,5,46,2] ?_
 refine zV 9 rfl (fun h1 => ?_) (fun h1 => ?_)
 ·have hh : hasV l r.i = false := decide_eq_false (by have h9 := of_decide_eq_true h1; omega)
  refine rn [21,21,21,21,21,41,3,0,19,1,3,0,11] ?_
  refine zN (zD ?_)
  exact fin1 rfl (.tmp rfl) (fun w' hw' => ⟨by unfold prtC; first | (rw [if_pos hh]; done) | (rw [if_neg (by rw [hh]; simp), if_pos h0]; done) | (rw [if_neg (by rw [hh]; simp), if_neg h0, hni, yT hil]; simp_all), hw'.upd⟩) _ (.inl rfl)
 ·refine rn [22,4,22,5,22,2,22,47,22,53,42,3,0] ?_
  refine zC rfl (fun h2 => ?_) (fun h2 => ?_)
  ·have hh : hasV l r.i = false := decide_eq_false (by have h9 := of_decide_eq_true h2; omega)
   refine rn [1,3,0,11] ?_
   refine zN (zD ?_)
   exact fin1 rfl (.tmp rfl) (fun w' hw' => ⟨by unfold prtC; first | (rw [if_pos hh]; done) | (rw [if_neg (by rw [hh]; simp), if_pos h0]; done) | (rw [if_neg (by rw [hh]; simp), if_neg h0, hni, yT hil]; simp_all), hw'.upd⟩) _ (.inl rfl)
  ·have hh : hasV l r.i = true := decide_eq_true (by have h8 := of_decide_eq_false h1; have h9 := of_decide_eq_false h2; omega)
   obtain ⟨ni, hni⟩ : ∃ q : Nat, r.i = q := ⟨r.i.toNat, by have h9 := of_decide_eq_true hh; omega⟩
   have hil : ni < l.length := by have h9 := of_decide_eq_true hh; omega
   refine rn [1,45,4,5,49] ?_
   refine s_q (q_eqs rfl rfl rfl) rfl ?_
   refine rn [3,0] ?_
   refine zC rfl (fun h3 => ?_) (fun h3 => ?_)
   ·have h0 : r.m = 0 := by simpa using h3
    refine rn [1,3,0,11] ?_
    refine zN (zD ?_)
    exact fin1 rfl (.tmp rfl) (fun w' hw' => ⟨by unfold prtC; first | (rw [if_pos hh]; done) | (rw [if_neg (by rw [hh]; simp), if_pos h0]; done) | (rw [if_neg (by rw [hh]; simp), if_neg h0, hni, yT hil]; simp_all), hw'.upd⟩) _ (.inl rfl)
   ·have h0 : ¬ r.m = 0 := by simpa using h3
    refine rn [1,2,4,5] ?_
    refine s_q (zR (i := ni) rfl rfl hni (hl.rdb rfl) (by omega)) rfl ?_
    refine rn [4] ?_
    refine s_q (yK (i := ni) (o := 1) rfl (hl.rdb rfl) (zS hil) rfl rfl) rfl ?_
    refine rn [51,3,0] ?_
    refine zC rfl (fun h4 => ?_) (fun h4 => ?_)
    ·refine rn [1,3,0,11] ?_
     refine zN (zD ?_)
     exact fin1 rfl (.tmp rfl) (fun w' hw' => ⟨by unfold prtC; first | (rw [if_pos hh]; done) | (rw [if_neg (by rw [hh]; simp), if_pos h0]; done) | (rw [if_neg (by rw [hh]; simp), if_neg h0, hni, yT hil]; simp_all), hw'.upd⟩) _ (.inl rfl)
    ·refine rn [12,15,7,1,3,0,11] ?_
     exact fin1 rfl (.tmp rfl) (fun w' hw' => ⟨by unfold prtC; first | (rw [if_pos hh]; done) | (rw [if_neg (by rw [hh]; simp), if_pos h0]; done) | (rw [if_neg (by rw [hh]; simp), if_neg h0, hni, yT hil]; simp_all), hw'.upd⟩) _ (.inl rfl)
end Go.Proofs.YtdddiilocbbkkaaGreat
