/- TopForced: for every configuration and all operations the law returns true. No condition. (the texts of the proof, part 11 of 12) -/
import Derived.Test.YtdddiilocbbkkaaGreatM10
set_option linter.unusedVariables false
set_option linter.unusedSimpArgs false
namespace Go.Proofs.YtdddiilocbbkkaaGreat
open Go.RowKit Go.Eg
set_option maxHeartbeats 4000000
set_option synthInstance.maxSize 3000
set_option maxRecDepth 100000
def szO : Nat → Nat
 | 0 => 8
 | _ => 2
def getF : Nat → Nat
 | 0 => 308
 | 1 => 310
 | _ => 312
def setF : Nat → Nat
 | 0 => 309
 | 1 => 311
 | _ => 313
def getV (j : Nat) (y : Op) : Int := match j with
 | 0 => y.a
 | 1 => IntKind.u64.wrap y.i
 | _ => IntKind.u64.wrap y.t
def setO (j : Nat) (y : Op) (v : Int) : Op := match j with
 | 0 => { y with a := v }
 | 1 => { y with i := IntKind.i64.wrap v }
 | _ => { y with t := IntKind.i64.wrap v }
def OD.c (j : Nat) : List Value := [.int .i64 ((szO j : Nat) : Int), .func (.func (getF j)) #[] #[], .func (.func (setF j)) #[] #[]]
def opsL (k : Int) : List Nat := if k = 1 then [0] else if k = 2 then [1] else if k = 3 then [1] else if k = 4 then [1] else if k = 5 then [1, 2] else if k = 6 then [1, 0] else []
def opsB (k : Int) : Bool := decide (1 ≤ k ∧ k ≤ 7)
def szK (k : Int) : Nat := if opsB k = true then 1 + ((opsL k).map szO).sum else 0
theorem opsL_le (k : Int) : ∀ j ∈ opsL k, j ≤ 2 := by
 intro j hj
 unfold opsL at hj
 repeat' split at hj
 all_goals simp at hj
 all_goals omega
theorem opsL_len (k : Int) : (opsL k).length ≤ 2 := by
 unfold opsL; repeat' split
 all_goals simp
theorem szO_le (j : Nat) : 1 ≤ szO j ∧ szO j ≤ 8 := by unfold szO; split <;> omega
theorem od_0  (w : World)  : Pur Tryz.prog 270 [] w (.agg (OD.c 0).toArray) := by
 refine g_st Tryz.func270 2 (WOK.start [] _) ?_
 refine rn [1] ?_
 refine g_op (zI rfl fun b0 => ?_)
 refine rn [0,1] ?_
 refine s_q (yH (c := OD.c 0) rfl rfl) rfl ?_
 refine rn [33,0,11] ?_
 exact fin1 rfl (.cellw rfl rfl) (fun w' hw' => ⟨by rfl, hw'.upd⟩) _ (.inl rfl)
theorem get_0 (y : Op) (w : World)  : Pur Tryz.prog 308 [.agg y.c.toArray] w (.int .u64 (getV 0 y)) := by
 refine g_st Tryz.func308 5 (WOK.start [] _) ?_
 refine rn [1] ?_
 refine g_op (g_box rfl rfl rfl fun b1 => ?_)
 refine rn [3,0,1,4,5,3,0,11] ?_
 exact fin1 rfl (.tmp rfl) (fun w' hw' => ⟨by rfl, hw'.upd⟩) _ (.inl rfl)
theorem set_0 (b : Nat) (y : Op) (v : Int) (w : World) (hw : W0 [Res.blk b 35 y.c] w)  : Own2 (ι := Unit) Tryz.prog 309 [.pointer (some ⟨b, 0, none⟩), .int .u64 v] w [Res.blk b 35 y.c] (fun x => True) (fun x => .tuple #[]) (fun x => []) (fun x => [Res.blk b 35 (Op.c (setO 0 y v))]) := by
 refine g_st Tryz.func309 8 hw ?_
 refine rn [10,2,2,6,4] ?_
 refine g_op (zP rfl rfl rfl rfl rfl rfl rfl ?_)
 refine zJ (b := b) (Op.c (setO 0 y v)) (by rfl) ?_
 refine rn [9] ?_
 exact fin0 rfl (fun w' hw' => ⟨(), (by exact trivial), rfl, zA w' hw'⟩) _ (.inr rfl)
theorem od_1  (w : World)  : Pur Tryz.prog 271 [] w (.agg (OD.c 1).toArray) := by
 refine g_st Tryz.func271 2 (WOK.start [] _) ?_
 refine rn [1] ?_
 refine g_op (zI rfl fun b0 => ?_)
 refine rn [0,1] ?_
 refine s_q (yH (c := OD.c 1) rfl rfl) rfl ?_
 refine rn [33,0,11] ?_
 exact fin1 rfl (.cellw rfl rfl) (fun w' hw' => ⟨by rfl, hw'.upd⟩) _ (.inl rfl)
theorem get_1 (y : Op) (w : World)  : Pur Tryz.prog 310 [.agg y.c.toArray] w (.int .u64 (getV 1 y)) := by
 refine g_st Tryz.func310 6 (WOK.start [] _) ?_
 refine rn [1] ?_
 refine g_op (g_box rfl rfl rfl fun b1 => ?_)
 refine rn [3,0,1,4,5,62,3,0,11] ?_
 exact fin1 rfl (.tmp rfl) (fun w' hw' => ⟨by rfl, hw'.upd⟩) _ (.inl rfl)
theorem set_1 (b : Nat) (y : Op) (v : Int) (w : World) (hw : W0 [Res.blk b 35 y.c] w)  : Own2 (ι := Unit) Tryz.prog 311 [.pointer (some ⟨b, 0, none⟩), .int .u64 v] w [Res.blk b 35 y.c] (fun x => True) (fun x => .tuple #[]) (fun x => []) (fun x => [Res.blk b 35 (Op.c (setO 1 y v))]) := by
 refine g_st Tryz.func311 9 hw ?_
 refine rn [10,2,2,62,6,4] ?_
 refine g_op (zP rfl rfl rfl rfl rfl rfl rfl ?_)
 refine zJ (b := b) (Op.c (setO 1 y v)) (by rfl) ?_
 refine rn [9] ?_
 exact fin0 rfl (fun w' hw' => ⟨(), (by exact trivial), rfl, zA w' hw'⟩) _ (.inr rfl)
theorem od_2  (w : World)  : Pur Tryz.prog 272 [] w (.agg (OD.c 2).toArray) := by
 refine g_st Tryz.func272 2 (WOK.start [] _) ?_
 refine rn [1] ?_
 refine g_op (zI rfl fun b0 => ?_)
 refine rn [0,1] ?_
 refine s_q (yH (c := OD.c 2) rfl rfl) rfl ?_
 refine rn [33,0,11] ?_
 exact fin1 rfl (.cellw rfl rfl) (fun w' hw' => ⟨by rfl, hw'.upd⟩) _ (.inl rfl)
theorem get_2 (y : Op) (w : World)  : Pur Tryz.prog 312 [.agg y.c.toArray] w (.int .u64 (getV 2 y)) := by
 refine g_st Tryz.func312 6 (WOK.start [] _) ?_
 refine rn [1] ?_
 refine g_op (g_box rfl rfl rfl fun b1 => ?_)
 refine rn [3,0,1,4,5,62,3,0,11] ?_
 exact fin1 rfl (.tmp rfl) (fun w' hw' => ⟨by rfl, hw'.upd⟩) _ (.inl rfl)
theorem set_2 (b : Nat) (y : Op) (v : Int) (w : World) (hw : W0 [Res.blk b 35 y.c] w)  : Own2 (ι := Unit) Tryz.prog 313 [.pointer (some ⟨b, 0, none⟩), .int .u64 v] w [Res.blk b 35 y.c] (fun x => True) (fun x => .tuple #[]) (fun x => []) (fun x => [Res.blk b 35 (Op.c (setO 2 y v))]) := by
 refine g_st Tryz.func313 9 hw ?_
 refine rn [10,2,2,62,6,4] ?_
 refine g_op (zP rfl rfl rfl rfl rfl rfl rfl ?_)
 refine zJ (b := b) (Op.c (setO 2 y v)) (by rfl) ?_
 refine rn [9] ?_
 exact fin0 rfl (fun w' hw' => ⟨(), (by exact trivial), rfl, zA w' hw'⟩) _ (.inr rfl)
theorem hasG {j : Nat} (h : j ≤ 2) : HasB Tryz.prog (getF j) := by
 rcases (show j = 0 ∨ j = 1 ∨ j = 2 by omega) with rfl | rfl | rfl
 ·exact (inferInstance : HasB Tryz.prog 308)
 ·exact (inferInstance : HasB Tryz.prog 310)
 ·exact (inferInstance : HasB Tryz.prog 312)
theorem hasS {j : Nat} (h : j ≤ 2) : HasB Tryz.prog (setF j) := by
 rcases (show j = 0 ∨ j = 1 ∨ j = 2 by omega) with rfl | rfl | rfl
 ·exact (inferInstance : HasB Tryz.prog 309)
 ·exact (inferInstance : HasB Tryz.prog 311)
 ·exact (inferInstance : HasB Tryz.prog 313)
theorem get_all {j : Nat} (h : j ≤ 2) (y : Op) (w : World) : Pur Tryz.prog (getF j) [.agg y.c.toArray] w (.int .u64 (getV j y)) := by
 rcases (show j = 0 ∨ j = 1 ∨ j = 2 by omega) with rfl | rfl | rfl
 ·exact get_0 y w
 ·exact get_1 y w
 ·exact get_2 y w
theorem set_all {j : Nat} (h : j ≤ 2) (b : Nat) (y : Op) (v : Int) (w : World) (hw : W0 [Res.blk b 35 y.c] w) : Own2 (ι := Unit) Tryz.prog (setF j) [.pointer (some ⟨b, 0, none⟩), .int .u64 v] w [Res.blk b 35 y.c] (fun _ => True) (fun _ => .tuple #[]) (fun _ => []) (fun _ => [Res.blk b 35 (Op.c (setO j y v))]) := by
 rcases (show j = 0 ∨ j = 1 ∨ j = 2 by omega) with rfl | rfl | rfl
 ·exact set_0 b y v w hw
 ·exact set_1 b y v w hw
 ·exact set_2 b y v w hw
theorem operands_any (k : Int) (w : World) (hk : -9223372036854775808 ≤ k ∧ k ≤ 9223372036854775807) : Own2 (ι := (Option Addr × Nat)) Tryz.prog 204 [.int .i64 k] w [] (fun x => True) (fun x => .tuple [.slice x.1 (opsL k).length x.2, .bool (opsB k)].toArray) (fun x => [Res.row x.1 (opsL k).length x.2 324 3 ((opsL k).map OD.c)]) (fun x => []) := by
 refine g_st Tryz.func204 30 (WOK.start (fps []) _) ?_
 refine rn [1,3,3,0,1] ?_
 refine g_op (g_makeMap rfl fun b7 => ?_)
 refine g_op (zG rfl (fun w1 hw1 => od_0 w1) rfl ?_)
 refine g_op (g_lit rfl rfl rfl rfl rfl fun b9 => ?_)
 refine g_op (xC (b := b7) (D := []) rfl rfl rfl (k3 (by decide)) (fun p hp => by simp at hp) (fun p hp => by simp at hp) ?_)
 refine g_mpEq b7 [(Value.int .i64 1, Value.slice (some ⟨b9, 0, none⟩) 1 1)] rfl ?_
 refine g_op (zG rfl (fun w1 hw1 => od_1 w1) rfl ?_)
 refine g_op (g_lit rfl rfl rfl rfl rfl fun b11 => ?_)
 refine g_op (xC (b := b7) (D := [(Value.int .i64 1, Value.slice (some ⟨b9, 0, none⟩) 1 1)]) rfl rfl rfl (k3 (by decide)) (by intro p hp; simp only [List.mem_cons, List.not_mem_nil, or_false] at hp; rcases hp with rfl <;> exact k3 (by decide)) (by intro p hp; simp only [List.mem_cons, List.not_mem_nil, or_false] at hp; rcases hp with rfl <;> (intro hc; injection hc with _ hc; exact absurd hc (by decide))) ?_)
 refine g_mpEq b7 [(Value.int .i64 1, Value.slice (some ⟨b9, 0, none⟩) 1 1), (Value.int .i64 2, Value.slice (some ⟨b11, 0, none⟩) 1 1)] rfl ?_
 refine g_op (zG rfl (fun w1 hw1 => od_1 w1) rfl ?_)
 refine g_op (g_lit rfl rfl rfl rfl rfl fun b13 => ?_)
 refine g_op (xC (b := b7) (D := [(Value.int .i64 1, Value.slice (some ⟨b9, 0, none⟩) 1 1), (Value.int .i64 2, Value.slice (some ⟨b11, 0, none⟩) 1 1)]) rfl rfl rfl (k3 (by decide)) (by intro p hp; simp only [List.mem_cons, List.not_mem_nil, or_false] at hp; rcases hp with rfl | rfl <;> exact k3 (by decide)) (by intro p hp; simp only [List.mem_cons, List.not_mem_nil, or_false] at hp; rcases hp with rfl | rfl <;> (intro hc; injection hc with _ hc; exact absurd hc (by decide))) ?_)
 refine g_mpEq b7 [(Value.int .i64 1, Value.slice (some ⟨b9, 0, none⟩) 1 1), (Value.int .i64 2, Value.slice (some ⟨b11, 0, none⟩) 1 1), (Value.int .i64 3, Value.slice (some ⟨b13, 0, none⟩) 1 1)] rfl ?_
 refine g_op (zG rfl (fun w1 hw1 => od_1 w1) rfl ?_)
 refine g_op (g_lit rfl rfl rfl rfl rfl fun b15 => ?_)
 refine g_op (xC (b := b7) (D := [(Value.int .i64 1, Value.slice (some ⟨b9, 0, none⟩) 1 1), (Value.int .i64 2, Value.slice (some ⟨b11, 0, none⟩) 1 1), (Value.int .i64 3, Value.slice (some ⟨b13, 0, none⟩) 1 1)]) rfl rfl rfl (k3 (by decide)) (by intro p hp; simp only [List.mem_cons, List.not_mem_nil, or_false] at hp; rcases hp with rfl | rfl | rfl <;> exact k3 (by decide)) (by intro p hp; simp only [List.mem_cons, List.not_mem_nil, or_false] at hp; rcases hp with rfl | rfl | rfl <;> (intro hc; injection hc with _ hc; exact absurd hc (by decide))) ?_)
 refine g_mpEq b7 [(Value.int .i64 1, Value.slice (some ⟨b9, 0, none⟩) 1 1), (Value.int .i64 2, Value.slice (some ⟨b11, 0, none⟩) 1 1), (Value.int .i64 3, Value.slice (some ⟨b13, 0, none⟩) 1 1), (Value.int .i64 4, Value.slice (some ⟨b15, 0, none⟩) 1 1)] rfl ?_
 refine g_op (zG rfl (fun w1 hw1 => od_1 w1) rfl ?_)
 refine g_op (zG rfl (fun w1 hw1 => od_2 w1) rfl ?_)
 refine g_op (g_lit rfl rfl rfl rfl rfl fun b18 => ?_)
 refine g_op (xC (b := b7) (D := [(Value.int .i64 1, Value.slice (some ⟨b9, 0, none⟩) 1 1), (Value.int .i64 2, Value.slice (some ⟨b11, 0, none⟩) 1 1), (Value.int .i64 3, Value.slice (some ⟨b13, 0, none⟩) 1 1), (Value.int .i64 4, Value.slice (some ⟨b15, 0, none⟩) 1 1)]) rfl rfl rfl (k3 (by decide)) (by intro p hp; simp only [List.mem_cons, List.not_mem_nil, or_false] at hp; rcases hp with rfl | rfl | rfl | rfl <;> exact k3 (by decide)) (by intro p hp; simp only [List.mem_cons, List.not_mem_nil, or_false] at hp; rcases hp with rfl | rfl | rfl | rfl <;> (intro hc; injection hc with _ hc; exact absurd hc (by decide))) ?_)
 refine g_mpEq b7 [(Value.int .i64 1, Value.slice (some ⟨b9, 0, none⟩) 1 1), (Value.int .i64 2, Value.slice (some ⟨b11, 0, none⟩) 1 1), (Value.int .i64 3, Value.slice (some ⟨b13, 0, none⟩) 1 1), (Value.int .i64 4, Value.slice (some ⟨b15, 0, none⟩) 1 1), (Value.int .i64 5, Value.slice (some ⟨b18, 0, none⟩) 2 2)] rfl ?_
 refine g_op (zG rfl (fun w1 hw1 => od_1 w1) rfl ?_)
 refine g_op (zG rfl (fun w1 hw1 => od_0 w1) rfl ?_)
 refine g_op (g_lit rfl rfl rfl rfl rfl fun b21 => ?_)
 refine g_op (xC (b := b7) (D := [(Value.int .i64 1, Value.slice (some ⟨b9, 0, none⟩) 1 1), (Value.int .i64 2, Value.slice (some ⟨b11, 0, none⟩) 1 1), (Value.int .i64 3, Value.slice (some ⟨b13, 0, none⟩) 1 1), (Value.int .i64 4, Value.slice (some ⟨b15, 0, none⟩) 1 1), (Value.int .i64 5, Value.slice (some ⟨b18, 0, none⟩) 2 2)]) rfl rfl rfl (k3 (by decide)) (by intro p hp; simp only [List.mem_cons, List.not_mem_nil, or_false] at hp; rcases hp with rfl | rfl | rfl | rfl | rfl <;> exact k3 (by decide)) (by intro p hp; simp only [List.mem_cons, List.not_mem_nil, or_false] at hp; rcases hp with rfl | rfl | rfl | rfl | rfl <;> (intro hc; injection hc with _ hc; exact absurd hc (by decide))) ?_)
 refine g_mpEq b7 [(Value.int .i64 1, Value.slice (some ⟨b9, 0, none⟩) 1 1), (Value.int .i64 2, Value.slice (some ⟨b11, 0, none⟩) 1 1), (Value.int .i64 3, Value.slice (some ⟨b13, 0, none⟩) 1 1), (Value.int .i64 4, Value.slice (some ⟨b15, 0, none⟩) 1 1), (Value.int .i64 5, Value.slice (some ⟨b18, 0, none⟩) 2 2), (Value.int .i64 6, Value.slice (some ⟨b21, 0, none⟩) 2 2)] rfl ?_
 refine g_op (g_lit rfl rfl rfl rfl rfl fun b22 => ?_)
 refine g_op (xC (b := b7) (D := [(Value.int .i64 1, Value.slice (some ⟨b9, 0, none⟩) 1 1), (Value.int .i64 2, Value.slice (some ⟨b11, 0, none⟩) 1 1), (Value.int .i64 3, Value.slice (some ⟨b13, 0, none⟩) 1 1), (Value.int .i64 4, Value.slice (some ⟨b15, 0, none⟩) 1 1), (Value.int .i64 5, Value.slice (some ⟨b18, 0, none⟩) 2 2), (Value.int .i64 6, Value.slice (some ⟨b21, 0, none⟩) 2 2)]) rfl rfl rfl (k3 (by decide)) (by intro p hp; simp only [List.mem_cons, List.not_mem_nil, or_false] at hp; rcases hp with rfl | rfl | rfl | rfl | rfl | rfl <;> exact k3 (by decide)) (by intro p hp; simp only [List.mem_cons, List.not_mem_nil, or_false] at hp; rcases hp with rfl | rfl | rfl | rfl | rfl | rfl <;> (intro hc; injection hc with _ hc; exact absurd hc (by decide))) ?_)
 refine g_mpEq b7 [(Value.int .i64 1, Value.slice (some ⟨b9, 0, none⟩) 1 1), (Value.int .i64 2, Value.slice (some ⟨b11, 0, none⟩) 1 1), (Value.int .i64 3, Value.slice (some ⟨b13, 0, none⟩) 1 1), (Value.int .i64 4, Value.slice (some ⟨b15, 0, none⟩) 1 1), (Value.int .i64 5, Value.slice (some ⟨b18, 0, none⟩) 2 2), (Value.int .i64 6, Value.slice (some ⟨b21, 0, none⟩) 2 2), (Value.int .i64 7, Value.slice (some ⟨b22, 0, none⟩) 0 0)] rfl ?_
 refine rn [2] ?_
 rcases (show k = 1 ∨ k = 2 ∨ k = 3 ∨ k = 4 ∨ k = 5 ∨ k = 6 ∨ k = 7 ∨ ¬ (1 ≤ k ∧ k ≤ 7) by omega) with hk1 | hk2 | hk3 | hk4 | hk5 | hk6 | hk7 | hk0
 ·have hL : opsL k = [0] := by rw [hk1]; rfl
  have hB : opsB k = true := by rw [hk1]; rfl
  refine rn [2] ?_
  refine s_q (q_look_t (b := b7) (v := .slice (some ⟨b9, 0, none⟩) 1 1) (D := [(Value.int .i64 1, Value.slice (some ⟨b9, 0, none⟩) 1 1), (Value.int .i64 2, Value.slice (some ⟨b11, 0, none⟩) 1 1), (Value.int .i64 3, Value.slice (some ⟨b13, 0, none⟩) 1 1), (Value.int .i64 4, Value.slice (some ⟨b15, 0, none⟩) 1 1), (Value.int .i64 5, Value.slice (some ⟨b18, 0, none⟩) 2 2), (Value.int .i64 6, Value.slice (some ⟨b21, 0, none⟩) 2 2), (Value.int .i64 7, Value.slice (some ⟨b22, 0, none⟩) 0 0)]) rfl (by rw [hk1]; rfl) (k3 (by decide)) (by intro p hp; simp only [List.mem_cons, List.not_mem_nil, or_false] at hp; rcases hp with rfl | rfl | rfl | rfl | rfl | rfl | rfl <;> exact k3 (by decide)) (by simp) (by intro p hp hc; simp only [List.mem_cons, List.not_mem_nil, or_false] at hp; rcases hp with rfl | rfl | rfl | rfl | rfl | rfl | rfl <;> first | rfl | (injection hc with _ hc; exact absurd hc (by decide)))) rfl ?_
  refine rn [2,40,40,3,3,0,1,2,2,3,3,0,11] ?_
  refine zJ (b := b9) ((([0] : List Nat).map OD.c).flatten) (by rfl) ?_
  refine g_blkRow (b := b9) 3 1 (([0] : List Nat).map OD.c) (zM (c := OD.c) (fun _ => rfl) _) rfl rfl (by decide) ?_
  exact fin2 rfl (.tmp rfl) (.tmp rfl) (fun w' hw' => ⟨((some ⟨b9, 0, none⟩ : Option Addr), (1 : Nat)), (by exact trivial), by rw [hL, hB]; rfl, by rw [hL]; exact zA w' hw'⟩) _ (.inl rfl)
 ·have hL : opsL k = [1] := by rw [hk2]; rfl
  have hB : opsB k = true := by rw [hk2]; rfl
  refine rn [2] ?_
  refine s_q (q_look_t (b := b7) (v := .slice (some ⟨b11, 0, none⟩) 1 1) (D := [(Value.int .i64 1, Value.slice (some ⟨b9, 0, none⟩) 1 1), (Value.int .i64 2, Value.slice (some ⟨b11, 0, none⟩) 1 1), (Value.int .i64 3, Value.slice (some ⟨b13, 0, none⟩) 1 1), (Value.int .i64 4, Value.slice (some ⟨b15, 0, none⟩) 1 1), (Value.int .i64 5, Value.slice (some ⟨b18, 0, none⟩) 2 2), (Value.int .i64 6, Value.slice (some ⟨b21, 0, none⟩) 2 2), (Value.int .i64 7, Value.slice (some ⟨b22, 0, none⟩) 0 0)]) rfl (by rw [hk2]; rfl) (k3 (by decide)) (by intro p hp; simp only [List.mem_cons, List.not_mem_nil, or_false] at hp; rcases hp with rfl | rfl | rfl | rfl | rfl | rfl | rfl <;> exact k3 (by decide)) (by simp) (by intro p hp hc; simp only [List.mem_cons, List.not_mem_nil, or_false] at hp; rcases hp with rfl | rfl | rfl | rfl | rfl | rfl | rfl <;> first | rfl | (injection hc with _ hc; exact absurd hc (by decide)))) rfl ?_
  refine rn [2,40,40,3,3,0,1,2,2,3,3,0,11] ?_
  refine zJ (b := b11) ((([1] : List Nat).map OD.c).flatten) (by rfl) ?_
  refine g_blkRow (b := b11) 3 1 (([1] : List Nat).map OD.c) (zM (c := OD.c) (fun _ => rfl) _) rfl rfl (by decide) ?_
  exact fin2 rfl (.tmp rfl) (.tmp rfl) (fun w' hw' => ⟨((some ⟨b11, 0, none⟩ : Option Addr), (1 : Nat)), (by exact trivial), by rw [hL, hB]; rfl, by rw [hL]; exact zA w' hw'⟩) _ (.inl rfl)
 ·have hL : opsL k = [1] := by rw [hk3]; rfl
  have hB : opsB k = true := by rw [hk3]; rfl
  refine rn [2] ?_
  refine s_q (q_look_t (b := b7) (v := .slice (some ⟨b13, 0, none⟩) 1 1) (D := [(Value.int .i64 1, Value.slice (some ⟨b9, 0, none⟩) 1 1), (Value.int .i64 2, Value.slice (some ⟨b11, 0, none⟩) 1 1), (Value.int .i64 3, Value.slice (some ⟨b13, 0, none⟩) 1 1), (Value.int .i64 4, Value.slice (some ⟨b15, 0, none⟩) 1 1), (Value.int .i64 5, Value.slice (some ⟨b18, 0, none⟩) 2 2), (Value.int .i64 6, Value.slice (some ⟨b21, 0, none⟩) 2 2), (Value.int .i64 7, Value.slice (some ⟨b22, 0, none⟩) 0 0)]) rfl (by rw [hk3]; rfl) (k3 (by decide)) (by intro p hp; simp only [List.mem_cons, List.not_mem_nil, or_false] at hp; rcases hp with rfl | rfl | rfl | rfl | rfl | rfl | rfl <;> exact k3 (by decide)) (by simp) (by intro p hp hc; simp only [List.mem_cons, List.not_mem_nil, or_false] at hp; rcases hp with rfl | rfl | rfl | rfl | rfl | rfl | rfl <;> first | rfl | (injection hc with _ hc; exact absurd hc (by decide)))) rfl ?_
  refine rn [2,40,40,3,3,0,1,2,2,3,3,0,11] ?_
  refine zJ (b := b13) ((([1] : List Nat).map OD.c).flatten) (by rfl) ?_
  refine g_blkRow (b := b13) 3 1 (([1] : List Nat).map OD.c) (zM (c := OD.c) (fun _ => rfl) _) rfl rfl (by decide) ?_
  exact fin2 rfl (.tmp rfl) (.tmp rfl) (fun w' hw' => ⟨((some ⟨b13, 0, none⟩ : Option Addr), (1 : Nat)), (by exact trivial), by rw [hL, hB]; rfl, by rw [hL]; exact zA w' hw'⟩) _ (.inl rfl)
 ·have hL : opsL k = [1] := by rw [hk4]; rfl
  have hB : opsB k = true := by rw [hk4]; rfl
  refine rn [2] ?_
  refine s_q (q_look_t (b := b7) (v := .slice (some ⟨b15, 0, none⟩) 1 1) (D := [(Value.int .i64 1, Value.slice (some ⟨b9, 0, none⟩) 1 1), (Value.int .i64 2, Value.slice (some ⟨b11, 0, none⟩) 1 1), (Value.int .i64 3, Value.slice (some ⟨b13, 0, none⟩) 1 1), (Value.int .i64 4, Value.slice (some ⟨b15, 0, none⟩) 1 1), (Value.int .i64 5, Value.slice (some ⟨b18, 0, none⟩) 2 2), (Value.int .i64 6, Value.slice (some ⟨b21, 0, none⟩) 2 2), (Value.int .i64 7, Value.slice (some ⟨b22, 0, none⟩) 0 0)]) rfl (by rw [hk4]; rfl) (k3 (by decide)) (by intro p hp; simp only [List.mem_cons, List.not_mem_nil, or_false] at hp; rcases hp with rfl | rfl | rfl | rfl | rfl | rfl | rfl <;> exact k3 (by decide)) (by simp) (by intro p hp hc; simp only [List.mem_cons, List.not_mem_nil, or_false] at hp; rcases hp with rfl | rfl | rfl | rfl | rfl | rfl | rfl <;> first | rfl | (injection hc with _ hc; exact absurd hc (by decide)))) rfl ?_
  refine rn [2,40,40,3,3,0,1,2,2,3,3,0,11] ?_
  refine zJ (b := b15) ((([1] : List Nat).map OD.c).flatten) (by rfl) ?_
  refine g_blkRow (b := b15) 3 1 (([1] : List Nat).map OD.c) (zM (c := OD.c) (fun _ => rfl) _) rfl rfl (by decide) ?_
  exact fin2 rfl (.tmp rfl) (.tmp rfl) (fun w' hw' => ⟨((some ⟨b15, 0, none⟩ : Option Addr), (1 : Nat)), (by exact trivial), by rw [hL, hB]; rfl, by rw [hL]; exact zA w' hw'⟩) _ (.inl rfl)
 ·have hL : opsL k = [1, 2] := by rw [hk5]; rfl
  have hB : opsB k = true := by rw [hk5]; rfl
  refine rn [2] ?_
  refine s_q (q_look_t (b := b7) (v := .slice (some ⟨b18, 0, none⟩) 2 2) (D := [(Value.int .i64 1, Value.slice (some ⟨b9, 0, none⟩) 1 1), (Value.int .i64 2, Value.slice (some ⟨b11, 0, none⟩) 1 1), (Value.int .i64 3, Value.slice (some ⟨b13, 0, none⟩) 1 1), (Value.int .i64 4, Value.slice (some ⟨b15, 0, none⟩) 1 1), (Value.int .i64 5, Value.slice (some ⟨b18, 0, none⟩) 2 2), (Value.int .i64 6, Value.slice (some ⟨b21, 0, none⟩) 2 2), (Value.int .i64 7, Value.slice (some ⟨b22, 0, none⟩) 0 0)]) rfl (by rw [hk5]; rfl) (k3 (by decide)) (by intro p hp; simp only [List.mem_cons, List.not_mem_nil, or_false] at hp; rcases hp with rfl | rfl | rfl | rfl | rfl | rfl | rfl <;> exact k3 (by decide)) (by simp) (by intro p hp hc; simp only [List.mem_cons, List.not_mem_nil, or_false] at hp; rcases hp with rfl | rfl | rfl | rfl | rfl | rfl | rfl <;> first | rfl | (injection hc with _ hc; exact absurd hc (by decide)))) rfl ?_
  refine rn [2,40,40,3,3,0,1,2,2,3,3,0,11] ?_
  refine zJ (b := b18) ((([1, 2] : List Nat).map OD.c).flatten) (by rfl) ?_
  refine g_blkRow (b := b18) 3 2 (([1, 2] : List Nat).map OD.c) (zM (c := OD.c) (fun _ => rfl) _) rfl rfl (by decide) ?_
  exact fin2 rfl (.tmp rfl) (.tmp rfl) (fun w' hw' => ⟨((some ⟨b18, 0, none⟩ : Option Addr), (2 : Nat)), (by exact trivial), by rw [hL, hB]; rfl, by rw [hL]; exact zA w' hw'⟩) _ (.inl rfl)
 ·have hL : opsL k = [1, 0] := by rw [hk6]; rfl
  have hB : opsB k = true := by rw [hk6]; rfl
  refine rn [2] ?_
  refine s_q (q_look_t (b := b7) (v := .slice (some ⟨b21, 0, none⟩) 2 2) (D := [(Value.int .i64 1, Value.slice (some ⟨b9, 0, none⟩) 1 1), (Value.int .i64 2, Value.slice (some ⟨b11, 0, none⟩) 1 1), (Value.int .i64 3, Value.slice (some ⟨b13, 0, none⟩) 1 1), (Value.int .i64 4, Value.slice (some ⟨b15, 0, none⟩) 1 1), (Value.int .i64 5, Value.slice (some ⟨b18, 0, none⟩) 2 2), (Value.int .i64 6, Value.slice (some ⟨b21, 0, none⟩) 2 2), (Value.int .i64 7, Value.slice (some ⟨b22, 0, none⟩) 0 0)]) rfl (by rw [hk6]; rfl) (k3 (by decide)) (by intro p hp; simp only [List.mem_cons, List.not_mem_nil, or_false] at hp; rcases hp with rfl | rfl | rfl | rfl | rfl | rfl | rfl <;> exact k3 (by decide)) (by simp) (by intro p hp hc; simp only [List.mem_cons, List.not_mem_nil, or_false] at hp; rcases hp with rfl | rfl | rfl | rfl | rfl | rfl | rfl <;> first | rfl | (injection hc with _ hc; exact absurd hc (by decide)))) rfl ?_
  refine rn [2,40,40,3,3,0,1,2,2,3,3,0,11] ?_
  refine zJ (b := b21) ((([1, 0] : List Nat).map OD.c).flatten) (by rfl) ?_
  refine g_blkRow (b := b21) 3 2 (([1, 0] : List Nat).map OD.c) (zM (c := OD.c) (fun _ => rfl) _) rfl rfl (by decide) ?_
  exact fin2 rfl (.tmp rfl) (.tmp rfl) (fun w' hw' => ⟨((some ⟨b21, 0, none⟩ : Option Addr), (2 : Nat)), (by exact trivial), by rw [hL, hB]; rfl, by rw [hL]; exact zA w' hw'⟩) _ (.inl rfl)
 ·have hL : opsL k = [] := by rw [hk7]; rfl
  have hB : opsB k = true := by rw [hk7]; rfl
  refine rn [2] ?_
  refine s_q (q_look_t (b := b7) (v := .slice (some ⟨b22, 0, none⟩) 0 0) (D := [(Value.int .i64 1, Value.slice (some ⟨b9, 0, none⟩) 1 1), (Value.int .i64 2, Value.slice (some ⟨b11, 0, none⟩) 1 1), (Value.int .i64 3, Value.slice (some ⟨b13, 0, none⟩) 1 1), (Value.int .i64 4, Value.slice (some ⟨b15, 0, none⟩) 1 1), (Value.int .i64 5, Value.slice (some ⟨b18, 0, none⟩) 2 2), (Value.int .i64 6, Value.slice (some ⟨b21, 0, none⟩) 2 2), (Value.int .i64 7, Value.slice (some ⟨b22, 0, none⟩) 0 0)]) rfl (by rw [hk7]; rfl) (k3 (by decide)) (by intro p hp; simp only [List.mem_cons, List.not_mem_nil, or_false] at hp; rcases hp with rfl | rfl | rfl | rfl | rfl | rfl | rfl <;> exact k3 (by decide)) (by simp) (by intro p hp hc; simp only [List.mem_cons, List.not_mem_nil, or_false] at hp; rcases hp with rfl | rfl | rfl | rfl | rfl | rfl | rfl <;> first | rfl | (injection hc with _ hc; exact absurd hc (by decide)))) rfl ?_
  refine rn [2,40,40,3,3,0,1,2,2,3,3,0,11] ?_
  refine zJ (b := b22) ((([] : List Nat).map OD.c).flatten) (by rfl) ?_
  refine g_blkRow (b := b22) 3 0 (([] : List Nat).map OD.c) (zM (c := OD.c) (fun _ => rfl) _) rfl rfl (by decide) ?_
  exact fin2 rfl (.tmp rfl) (.tmp rfl) (fun w' hw' => ⟨((some ⟨b22, 0, none⟩ : Option Addr), (0 : Nat)), (by exact trivial), by rw [hL, hB]; rfl, by rw [hL]; exact zA w' hw'⟩) _ (.inl rfl)
 ·have hL : opsL k = [] := by unfold opsL; repeat rw [if_neg (by omega)]
  have hB : opsB k = false := decide_eq_false hk0
  refine rn [2] ?_
  refine s_q (q_look_f (b := b7) (z := .slice none 0 0) (D := [(Value.int .i64 1, Value.slice (some ⟨b9, 0, none⟩) 1 1), (Value.int .i64 2, Value.slice (some ⟨b11, 0, none⟩) 1 1), (Value.int .i64 3, Value.slice (some ⟨b13, 0, none⟩) 1 1), (Value.int .i64 4, Value.slice (some ⟨b15, 0, none⟩) 1 1), (Value.int .i64 5, Value.slice (some ⟨b18, 0, none⟩) 2 2), (Value.int .i64 6, Value.slice (some ⟨b21, 0, none⟩) 2 2), (Value.int .i64 7, Value.slice (some ⟨b22, 0, none⟩) 0 0)]) rfl rfl (k3 hk) (by intro p hp; simp only [List.mem_cons, List.not_mem_nil, or_false] at hp; rcases hp with rfl | rfl | rfl | rfl | rfl | rfl | rfl <;> exact k3 (by decide)) (by intro p hp hc; simp only [List.mem_cons, List.not_mem_nil, or_false] at hp; rcases hp with rfl | rfl | rfl | rfl | rfl | rfl | rfl <;> (injection hc with _ hc; omega)) (zv (by kernel_rfl))) rfl ?_
  refine rn [2,40,40,3,3,0,1,2,2,3,3,0,11] ?_
  refine zW none 324 3 (([] : List Nat).map OD.c) (by rfl) ?_
  exact fin2 rfl (.tmp rfl) (.tmp rfl) (fun w' hw' => ⟨((none : Option Addr), (0 : Nat)), (by exact trivial), by rw [hL, hB]; rfl, by rw [hL]; exact zA w' hw'⟩) _ (.inl rfl)
theorem sum_take_le : ∀ (l : List Nat) (k : Nat), ((l.take k).map szO).sum ≤ 8 * l.length
 | [], _ => by simp
 | a :: l, 0 => by simp
 | a :: l, k + 1 => by
  have h1 := sum_take_le l k
  have h2 := szO_le a
  simp only [List.take_succ_cons, List.map_cons, List.sum_cons, List.length_cons]; omega
theorem sum_take_succ {l : List Nat} {k : Nat} (h : k < l.length) : ((l.take (k + 1)).map szO).sum = ((l.take k).map szO).sum + szO l[k] := by
 rw [← List.take_append_getElem h, List.map_append, List.sum_append, List.map_cons, List.map_nil, List.sum_cons, List.sum_nil, Nat.add_zero]
theorem szK_le (k : Int) : szK k ≤ 17 := by
 unfold szK
 have h1 := sum_take_le (opsL k) (opsL k).length
 have h2 := opsL_len k
 rw [List.take_length] at h1
 split <;> omega
theorem size_any (k : Int) (w : World) (hk : -9223372036854775808 ≤ k ∧ k ≤ 9223372036854775807) : Pur Tryz.prog 252 [.int .i64 k] w (.int .i64 ((szK k : Nat) : Int)) := by
 refine g_st Tryz.func252 27 (WOK.start [] _) ?_
 refine rn [1,3,0,1,2] ?_
 refine g_op (zH [] rfl (fun w1 hw1 ho1 => by have h7 := operands_any (k) w1 hk; exact h7) rfl ?_)
 rintro ⟨A10, cap10⟩ _
 refine ii ?_
 refine rn [2,40,40,3,3,0,8,1,2,48,0] ?_
 refine zC rfl (fun h1 => ?_) (fun h1 => ?_)
 ·have hB : opsB k = false := by simpa using h1
  refine rn [1,3,0,11,13] ?_
  exact fin1 rfl (.tmp rfl) (fun w' hw' => ⟨by unfold szK; rw [hB]; rfl, hw'.upd⟩) _ (.inl rfl)
 ·have hB : opsB k = true := by simpa using h1
  refine rn [12,7,1,3,0,8,1,2,47,2,0,14] ?_
  refine g_val 5 (v' := .int .i64 (((1 + (((opsL k).take 0).map szO).sum) : Nat) : Int)) rfl (by rfl) ?_
  refine g_lk [2, 15, 16] (fun (x : Nat) => [(5, .int .i64 (((1 + (((opsL k).take x).map szO).sum) : Nat) : Int)), (17, .int .i64 ((x : Nat) : Int))]) (fun (x : Nat) => [Res.row A10 (opsL k).length cap10 324 3 ((opsL k).map OD.c)]) (fun (x : Nat) => x ≤ (opsL k).length) (fun (x : Nat) => (opsL k).length - x) 0 (by (try dsimp only); exact Nat.zero_le _) ?_
  rintro i le_i
  replace le_i : i ≤ (opsL k).length := le_i
  have hs9 := sum_take_le (opsL k) i
  have ho9 := opsL_len k
  refine rn [1,46,0,8] ?_
  refine zC rfl (fun h2 => ?_) (fun h2 => ?_)
  ·have lt_i : i < (opsL k).length := by have h9 := of_decide_eq_true h2; omega
   refine rn [12,7,8,14,1] ?_
   refine s_q (zR (i := i) rfl rfl rfl (InRow.rdb (A := A10) (els := ((opsL k)).map OD.c) (by first | rfl | assumption | (simp; done) | (simp_all; done) | (simp; omega) | (simp_all; omega)) (zM (c := OD.c) (fun _ => rfl) _)) (by first | exact lt_i | omega)) rfl ?_
   refine s_q (zT (i := i) rfl (InRow.rdb (A := A10) (els := ((opsL k)).map OD.c) (by first | rfl | assumption | (simp; done) | (simp_all; done) | (simp; omega) | (simp_all; omega)) (zM (c := OD.c) (fun _ => rfl) _)) (zS (by first | assumption | omega | (simp_all; done) | (simp_all; omega))) rfl) rfl ?_
   refine g_op (zI rfl fun b7 => ?_)
   refine rn [33,0,10,2,4,5] ?_
   refine s_q (q_addn (a := (1 + (((opsL k).take i).map szO).sum)) (b := szO (opsL k)[i]) rfl rfl (by have h9 := szO_le (opsL k)[i]; omega)) rfl ?_
   refine rn [3,9,15,7,10,43,2,9] ?_
   refine g_val 5 (v' := .int .i64 (((1 + (((opsL k).take (i + 1)).map szO).sum) : Nat) : Int)) rfl (by rw [sum_take_succ lt_i]; congr 1; omega) ?_
   exact g_ag (i + 1) (by (try dsimp only); exact (by first | exact lt_i | omega))
  ·have eq_i : i = (opsL k).length := by have h9 := of_decide_eq_false h2; omega
   refine rn [16] ?_
   refine zE (zE (zQ ?_))
   refine rn [7,1,2,3,0,11] ?_
   exact fin1 rfl (.tmp rfl) (fun w' hw' => ⟨by unfold szK; rw [if_pos hB, eq_i, List.take_length], hw'.upd⟩) _ (.inl rfl)
theorem reader_any (A : Option Addr) (n cap : Nat) (w : World)  : Own2 (ι := Nat) Tryz.prog 253 [.slice A n cap] w [] (fun x => True) (fun x => .func (.func 296) #[] [Value.pointer (some ⟨x, 0, none⟩)].toArray) (fun x => [Res.blk x 56 [Value.slice A n cap]]) (fun x => []) := by
 refine g_st Tryz.func253 4 (WOK.start (fps []) _) ?_
 refine rn [1] ?_
 refine g_op (g_box (c := [Value.slice A n cap]) rfl rfl rfl fun b1 => ?_)
 refine rn [3,0,1,52,3,0,11] ?_
 exact fin1 rfl (.tmp rfl) (fun w' hw' => ⟨b1, (by exact trivial), rfl, zA w' hw'⟩) _ (.inl rfl)
def rdN (bs : List Nat) : Nat := bs.foldl (fun v b => v * 256 + b) 0
theorem rdN_succ {bs : List Nat} {k : Nat} (h : k < bs.length) : rdN (bs.take (k + 1)) = rdN (bs.take k) * 256 + bs[k] := by
 unfold rdN; rw [← List.take_append_getElem h, List.foldl_append]; rfl
theorem rdN_lt {bs : List Nat} (hb : ∀ b ∈ bs, b < 256) : ∀ k, k ≤ bs.length → rdN (bs.take k) < 256 ^ k
 | 0, _ => by simp [rdN]
 | k + 1, h => by
  have h1 := rdN_lt hb k (by omega)
  have h2 := hb _ (List.getElem_mem (show k < bs.length by omega))
  rw [rdN_succ (by omega), Nat.pow_succ]; omega
theorem pow8 {k : Nat} (h : k < 8) : 256 ^ k * 256 ≤ 18446744073709551616 := by
 rw [← Nat.pow_succ]
 exact Nat.pow_le_pow_right (by decide) (show k + 1 ≤ 8 by omega)
theorem or_low {a b : Nat} (hb : b < 256) : (a * 256) ||| b = a * 256 + b := by
 have := Nat.two_pow_add_eq_or_of_lt (i := 8) (show b < 2 ^ 8 by omega) a
 rw [Nat.mul_comm]; exact this.symm
theorem rdr_any (q : Nat) (A : Option Addr) (m cap n : Nat) (bs : List Nat) (w : World) (hw : W0 [Res.blk q 56 [Value.slice A m cap]] w) (hrd : Rd w [Res.blk q 56 [Value.slice A m cap]] A m 1 (bs.map (fun v : Nat => [Value.int .u8 ((v : Nat) : Int)]))) (hcap : m ≤ cap) (hn : n ≤ m) (hn8 : n ≤ 8) (hby : ∀ b ∈ bs, b < 256) : Own2 (ι := Unit) Tryz.prog 296 [.int .i64 (n : Int), .pointer (some ⟨q, 0, none⟩)] w [Res.blk q 56 [Value.slice A m cap]] (fun x => True) (fun x => .int .u64 ((rdN (bs.take n) : Nat) : Int)) (fun x => []) (fun x => [Res.blk q 56 [Value.slice (subA A cap n 1) (m - n) (cap - n)]]) := by
 refine g_st Tryz.func296 25 hw ?_
 have hm : m = bs.length := by have := hrd.old.len; simpa using this
 refine rn [1,3,0,1,3,0,8,1,5,2] ?_
 refine s_q (yV (h := n) rfl rfl rfl (by omega)) rfl ?_
 refine rn [47,2,0,14] ?_
 refine g_val 4 (v' := .int .u64 ((rdN (bs.take 0) : Nat) : Int)) rfl (by rfl) ?_
 refine g_lk [0, 1, 3, 9, 10] (fun (x : Nat) => [(4, .int .u64 ((rdN (bs.take x) : Nat) : Int)), (11, .int .i64 ((x : Nat) : Int))]) (fun (x : Nat) => [Res.blk q 56 [Value.slice A m cap]]) (fun (x : Nat) => x ≤ n) (fun (x : Nat) => n - x) 0 (by (try dsimp only); exact Nat.zero_le _) ?_
 rintro i le_i
 replace le_i : i ≤ n := le_i
 refine rn [1,46,0,8] ?_
 refine zC rfl (fun h1 => ?_) (fun h1 => ?_)
 ·have lt_i : i < n := by have h9 := of_decide_eq_true h1; omega
  have hbs : i < bs.length := by omega
  have hb9 := hby _ (List.getElem_mem hbs)
  have hl9 := rdN_lt hby i (by omega)
  have hp9 := pow8 (k := i) (by omega)
  have hq9 : rdN (bs.take i) * 256 < 18446744073709551616 - 255 := by
    have h8 : (rdN (bs.take i) + 1) * 256 ≤ 256 ^ i * 256 := Nat.mul_le_mul_right 256 hl9
    omega
  refine rn [12,7,8,14,1] ?_
  refine s_q (zR (i := i) rfl rfl rfl (hrd.rdb.h (cap := cap) (by omega) hcap) (by first | exact lt_i | omega)) rfl ?_
  refine s_q (yL (i := i) (o := 0) rfl (hrd.rdb.h (cap := cap) (by omega) hcap) (take_get (l := bs) (m := n) (by first | exact lt_i | omega) (by omega)) rfl rfl) rfl ?_
  refine rn [3,0,10,2] ?_
  refine s_q (q_shln (a := rdN (bs.take i)) (n := 8) rfl rfl (by decide)) rfl ?_
  refine g_val 16 (v' := .int .u64 ((rdN (bs.take i) * 256 : Nat) : Int)) rfl (by rw [Nat.mod_eq_of_lt (by omega)]) ?_
  refine rn [2] ?_
  refine s_q (yQ (z := ((bs[i] : Nat) : Int)) rfl (wu64 (by omega) (by omega))) rfl ?_
  refine s_q (q_orn (a := rdN (bs.take i) * 256) (b := bs[i]) rfl rfl (by omega) (by omega)) rfl ?_
  refine g_val 19 (v' := .int .u64 ((rdN (bs.take (i + 1)) : Nat) : Int)) rfl (by rw [or_low hb9, rdN_succ hbs]) ?_
  refine rn [3,9,15,7,10,43,2,9] ?_
  exact g_ag (i + 1) (by (try dsimp only); exact (by first | exact lt_i | omega))
 ·have eq_i : i = n := by have h9 := of_decide_eq_false h1; omega
  refine rn [16] ?_
  refine zE (zE (zQ ?_))
  refine rn [7,1,5,2] ?_
  refine s_q (xF (l := n) rfl rfl rfl (by omega)) rfl ?_
  refine g_op (zP rfl rfl rfl rfl rfl rfl rfl ?_)
  refine zJ (b := q) [Value.slice (subA A cap n 1) (m - n) (cap - n)] (by rfl) ?_
  refine rn [0,1,2,3,0,11] ?_
  exact fin1 rfl (.tmp rfl) (fun w' hw' => ⟨(), (by exact trivial), by rw [eq_i], zA w' hw'⟩) _ (.inl rfl)
def zO : Op := ⟨0, 0, 0, 0⟩
def decS (s : Op × List Nat) (j : Nat) : Op × List Nat := (setO j s.1 ((rdN (s.2.take (szO j)) : Nat) : Int), s.2.drop (szO j))
def decK (js : List Nat) (s : Op × List Nat) (k : Nat) : Op × List Nat := (js.take k).foldl decS s
theorem decK_succ {js : List Nat} {s : Op × List Nat} {k : Nat} (h : k < js.length) : decK js s (k + 1) = decS (decK js s k) js[k] := fold_succ _ _ h
def decO (k : Nat) (rest : List Nat) : Op := (decK (opsL k) (⟨k, 0, 0, 0⟩, rest) (opsL k).length).1
def decP (bs : List Nat) (p : Nat) : Op × Nat × Bool :=
 if h : p < bs.length then
  if szK bs[p] = 0 then (zO, p + 1, true) else if bs.length - p < szK bs[p] then (zO, bs.length, true) else (decO bs[p] (bs.drop (p + 1)), p + szK bs[p], true)
 else (zO, 0, false)
theorem sum_mono : ∀ {l : List Nat} {k : Nat}, k ≤ l.length → ((l.take k).map szO).sum ≤ (l.map szO).sum
 | [], _, _ => by simp
 | a :: l, 0, _ => by simp
 | a :: l, k + 1, h => by
  have := sum_mono (l := l) (k := k) (by simpa using h)
  simp only [List.take_succ_cons, List.map_cons, List.sum_cons]; omega
theorem decK_len {js : List Nat} {s : Op × List Nat} : ∀ k, k ≤ js.length → ((js.map szO).sum ≤ s.2.length) → (decK js s k).2.length + ((js.take k).map szO).sum = s.2.length ∧ ∀ (h : k < js.length), szO js[k] ≤ (decK js s k).2.length
 | 0, _, hs => by
  refine ⟨by simp [decK], fun h => ?_⟩
  have := sum_take_succ (l := js) (k := 0) h
  have h2 := sum_mono (l := js) (k := 1) h
  simp [decK] at this h2 ⊢; omega
 | k + 1, h, hs => by
  obtain ⟨h1, h2⟩ := decK_len (js := js) (s := s) k (by omega) hs
  have h3 := h2 (by omega)
  rw [decK_succ (by omega)]
  have h4 := sum_take_succ (l := js) (k := k) (by omega)
  have h5 : (decS (decK js s k) js[k]).2.length + ((js.take (k + 1)).map szO).sum = s.2.length := by
   show ((decK js s k).2.drop (szO js[k])).length + _ = _
   rw [h4, List.length_drop]; omega
  refine ⟨h5, fun h6 => ?_⟩
  have h7 := sum_take_succ (l := js) (k := k + 1) h6
  have h8 := sum_mono (l := js) (k := k + 1 + 1) (by omega)
  omega
theorem decK_by {js : List Nat} {s : Op × List Nat} (hb : ∀ b ∈ s.2, b < 256) (k : Nat) : ∀ b ∈ (decK js s k).2, b < 256 := by
 have key : ∀ (js : List Nat) (s : Op × List Nat), (∀ b ∈ s.2, b < 256) → ∀ b ∈ (js.foldl decS s).2, b < 256 := fun js => by
  induction js with
  | nil => exact fun _ h => h
  | cons j js ih => exact fun s h => ih _ fun b hb => h b (List.mem_of_mem_drop hb)
 exact key _ _ hb
theorem odec_any (A : Option Addr) (n cap p : Nat) (bs : List Nat) (w : World) (hrd : Rd w [] A n 1 (bs.map (fun v : Nat => [Value.int .u8 ((v : Nat) : Int)]))) (hcap : n ≤ cap) (hn : n ≤ 1000000) (hpm : p ≤ 2000000) (hby : ∀ b ∈ bs, b < 256) : Pur Tryz.prog 186 [.slice A n cap, .int .i64 (p : Int)] w (.tuple [.agg (Op.c (decP bs p).1).toArray, .int .i64 (((decP bs p).2.1 : Nat) : Int), .bool (decP bs p).2.2].toArray) := by
 refine g_st Tryz.func186 78 (WOK.start [] _) ?_
 have hm : n = bs.length := by have := hrd.old.len; simpa using this
 refine rn [1] ?_
 refine g_op (zI rfl fun b4 => ?_)
 refine rn [3,3,0,8,1,2,46,2] ?_
 refine zV 17 rfl (fun h1 => ?_) (fun h1 => ?_)
 ·exfalso; have h9 := of_decide_eq_true h1; omega
 ·refine rn [22,2,22,2,22,47,22,53,42,0] ?_
  refine zC rfl (fun h2 => ?_) (fun h2 => ?_)
  ·have hp : ¬ p < bs.length := by have h9 := of_decide_eq_true h2; omega
   have hD : decP bs p = (zO, 0, false) := by unfold decP; rw [dif_neg hp]
   refine rn [1,49,33,3,3,0,11,13] ?_
   exact fin3 rfl (.cellw rfl rfl) (.tmp rfl) (.tmp rfl) (fun w' hw' => ⟨by rw [hD]; rfl, hw'.upd⟩) _ (.inl rfl)
  ·have hp : p < bs.length := by have h9 := of_decide_eq_false h2; omega
   obtain ⟨kb, hkb⟩ : ∃ z, z = bs[p] := ⟨_, rfl⟩
   have hb9 : kb < 256 := hkb ▸ hby _ (List.getElem_mem hp)
   have hz9 := szK_le ((kb : Nat) : Int)
   refine rn [12,7,1,2,2] ?_
   refine s_q (zR (i := p) rfl rfl rfl hrd.rdb (by first | omega | (simp; done) | (simp; omega))) rfl ?_
   refine s_q (yL (i := p) (o := 0) rfl hrd.rdb (zS (by first | assumption | omega)) rfl rfl) rfl ?_
   refine g_val 27 (v' := .int .u8 ((kb : Nat) : Int)) rfl (by rw [hkb]) ?_
   refine s_q (yQ (z := ((kb : Nat) : Int)) rfl (wi64 (by omega) (by omega))) rfl ?_
   refine rn [3,0,8,1,2] ?_
   refine g_op (zG rfl (fun w1 hw1 => size_any (((kb : Nat) : Int)) w1 (by omega)) rfl ?_)
   refine rn [3,0,14,1,2,44,3,0] ?_
   refine zC rfl (fun h3 => ?_) (fun h3 => ?_)
   ·have hs : szK ((kb : Nat) : Int) = 0 := by have h9 := of_decide_eq_true h3; omega
    have hD : decP bs p = (zO, p + 1, true) := by unfold decP; rw [dif_pos hp, ← hkb, if_pos hs]
    refine rn [1,49,2,43,33,3,3,0,11] ?_
    refine zN (zD ?_)
    exact fin3 rfl (.cellw rfl rfl) (.tmp rfl) (.tmp rfl) (fun w' hw' => ⟨by rw [hD]; rfl, hw'.upd⟩) _ (.inl rfl)
   ·have hs : ¬ szK ((kb : Nat) : Int) = 0 := by have h9 := of_decide_eq_false h3; omega
    refine rn [1,2,47,2] ?_
    refine s_q (q_subn (a := n) (b := p) rfl rfl (by first | omega | (simp; omega) | (simp_all; omega)) (by first | omega | (simp; omega) | (simp_all; omega))) rfl ?_
    refine rn [2,46,3,0] ?_
    refine zC rfl (fun h4 => ?_) (fun h4 => ?_)
    ·have ht : bs.length - p < szK ((kb : Nat) : Int) := by have h9 := of_decide_eq_true h4; omega
     have hD : decP bs p = (zO, bs.length, true) := by unfold decP; rw [dif_pos hp, ← hkb, if_neg hs, if_pos ht]
     refine rn [1,49,2,47,33,3,3,0,11] ?_
     refine zN (zD ?_)
     exact fin3 rfl (.cellw rfl rfl) (.tmp rfl) (.tmp rfl) (fun w' hw' => ⟨by rw [hD, hm]; rfl, hw'.upd⟩) _ (.inl rfl)
    ·have ht : ¬ bs.length - p < szK ((kb : Nat) : Int) := by have h9 := of_decide_eq_false h4; omega
     have hD : decP bs p = (decO kb (bs.drop (p + 1)), p + szK ((kb : Nat) : Int), true) := by unfold decP; rw [dif_pos hp, ← hkb, if_neg hs, if_neg ht]
     have hB : opsB ((kb : Nat) : Int) = true := by unfold szK at hs; split at hs <;> simp_all
     have hsum : ((opsL ((kb : Nat) : Int)).map szO).sum ≤ (bs.drop (p + 1)).length := by unfold szK at ht; rw [if_pos hB] at ht; simp only [List.length_drop]; omega
     have hrt := hrd.sub (cap := cap) (l := p + 1) (m := n) (by omega) (Nat.le_refl _) hcap
     rw [List.take_of_length_le (by simp; omega), ← List.map_drop] at hrt
     refine rn [12,15,7,1,2,49] ?_
     refine g_op (zI rfl fun b9 => ?_)
     refine rn [33] ?_
     refine zJ (b := b9) (Op.c (decK (opsL ((kb : Nat) : Int)) ((⟨((kb : Nat) : Int), 0, 0, 0⟩ : Op), bs.drop (p + 1)) 0).1) (by rfl) ?_
     refine rn [0,1,2,2,43] ?_
     refine s_q (xF (l := p + 1) rfl rfl rfl (by omega)) rfl ?_
     refine g_op (zH [] rfl (fun w1 hw1 ho1 => by have h7 := reader_any (subA A cap (p + 1) 1) ((n - (p + 1))) ((cap - (p + 1))) w1; exact h7) rfl ?_)
     rintro b53 _
     refine ii ?_
     refine rn [3,0,1,2] ?_
     refine g_op (zH [] rfl (fun w1 hw1 ho1 => by have h7 := operands_any (((kb : Nat) : Int)) w1 (by omega); exact h7) rfl ?_)
     rintro ⟨A56, cap56⟩ _
     refine ii ?_
     refine rn [2,40,40,3,3,0,8,1,2,47,2,0,14] ?_
     refine g_lk [1, 4, 5, 6, 7, 9, 10, 59, 60] (fun (x : Nat × Option Addr × Nat × Nat) => [(61, .int .i64 ((x.1 : Nat) : Int))]) (fun (x : Nat × Option Addr × Nat × Nat) => [Res.blk b4 35 [Value.int .i64 0, .int .i64 0, .int .i64 0, .int .u64 0], Res.row A56 (opsL ((kb : Nat) : Int)).length cap56 324 3 ((opsL ((kb : Nat) : Int)).map OD.c), Res.blk b9 35 (Op.c (decK (opsL ((kb : Nat) : Int)) ((⟨((kb : Nat) : Int), 0, 0, 0⟩ : Op), bs.drop (p + 1)) x.1).1), Res.blk b53 56 [Value.slice x.2.1 x.2.2.1 x.2.2.2]]) (fun (x : Nat × Option Addr × Nat × Nat) => x.1 ≤ (opsL ((kb : Nat) : Int)).length ∧ Rd w [] x.2.1 x.2.2.1 1 ((decK (opsL ((kb : Nat) : Int)) ((⟨((kb : Nat) : Int), 0, 0, 0⟩ : Op), bs.drop (p + 1)) x.1).2.map (fun v : Nat => [Value.int .u8 ((v : Nat) : Int)])) ∧ x.2.2.1 ≤ x.2.2.2) (fun (x : Nat × Option Addr × Nat × Nat) => (opsL ((kb : Nat) : Int)).length - x.1) (0, (subA A cap (p + 1) 1), (n - (p + 1)), (cap - (p + 1))) (by (try dsimp only); exact ⟨Nat.zero_le _, hrt, (by omega)⟩) ?_
     rintro ⟨k, A9, n9, c9⟩ ⟨le_k, hr9, hn9⟩
     replace le_k : k ≤ (opsL ((kb : Nat) : Int)).length := le_k
     replace hr9 : Rd w [] A9 n9 1 ((decK (opsL ((kb : Nat) : Int)) ((⟨((kb : Nat) : Int), 0, 0, 0⟩ : Op), bs.drop (p + 1)) k).2.map (fun v : Nat => [Value.int .u8 ((v : Nat) : Int)])) := hr9
     replace hn9 : n9 ≤ c9 := hn9
     refine zX (L' := [Res.blk b4 35 [Value.int .i64 0, .int .i64 0, .int .i64 0, .int .u64 0], Res.row A56 (opsL ((kb : Nat) : Int)).length cap56 324 3 ((opsL ((kb : Nat) : Int)).map OD.c), Res.blk b9 35 (Op.c (decK (opsL ((kb : Nat) : Int)) ((⟨((kb : Nat) : Int), 0, 0, 0⟩ : Op), bs.drop (p + 1)) k).1), Res.blk b53 56 [Value.slice A9 n9 c9]]) rfl ?_
     refine g_val 61 (v' := .int .i64 ((k : Nat) : Int)) rfl rfl ?_
     have hel : n9 = (decK (opsL ((kb : Nat) : Int)) ((⟨((kb : Nat) : Int), 0, 0, 0⟩ : Op), bs.drop (p + 1)) k).2.length := by have h9 := hr9.old.len; simpa using h9
     obtain ⟨hl9, hs9⟩ := decK_len (js := (opsL ((kb : Nat) : Int))) (s := ((⟨((kb : Nat) : Int), 0, 0, 0⟩ : Op), bs.drop (p + 1))) k (by omega) hsum
     have hby9 := decK_by (js := (opsL ((kb : Nat) : Int))) (s := ((⟨((kb : Nat) : Int), 0, 0, 0⟩ : Op), bs.drop (p + 1))) (fun b hb => hby b (List.mem_of_mem_drop hb)) k
     have hol9 := opsL_len ((kb : Nat) : Int)
     refine rn [1,46,0,8] ?_
     refine zC rfl (fun h5 => ?_) (fun h5 => ?_)
     ·have lt_k : k < (opsL ((kb : Nat) : Int)).length := by have h9 := of_decide_eq_true h5; omega
      have hz8 := hs9 lt_k
      obtain ⟨jk, hjk⟩ : ∃ z, z = (opsL ((kb : Nat) : Int))[k] := ⟨_, rfl⟩
      have hj2 : jk ≤ 2 := hjk ▸ opsL_le _ _ (List.getElem_mem lt_k)
      rw [← hjk] at hz8
      have hz7 := szO_le jk
      have hbS : HasB Tryz.prog (setF jk) := hasS hj2
      have hk9 : (decK (opsL ((kb : Nat) : Int)) ((⟨((kb : Nat) : Int), 0, 0, 0⟩ : Op), bs.drop (p + 1)) (k + 1)) = decS (decK (opsL ((kb : Nat) : Int)) ((⟨((kb : Nat) : Int), 0, 0, 0⟩ : Op), bs.drop (p + 1)) k) jk := by rw [hjk]; exact decK_succ lt_k
      have hr8 := hr9.sub (cap := c9) (l := szO jk) (m := n9) (by omega) (Nat.le_refl _) hn9
      rw [List.take_of_length_le (by simp; omega), ← List.map_drop] at hr8
      rw [show (decK (opsL ((kb : Nat) : Int)) ((⟨((kb : Nat) : Int), 0, 0, 0⟩ : Op), bs.drop (p + 1)) k).2.drop (szO jk) = (decK (opsL ((kb : Nat) : Int)) ((⟨((kb : Nat) : Int), 0, 0, 0⟩ : Op), bs.drop (p + 1)) (k + 1)).2 from by rw [hk9]; rfl] at hr8
      refine rn [12,7,8,14,1] ?_
      refine s_q (zR (i := k) rfl rfl rfl (InRow.rdb (A := A56) (els := ((opsL ((kb : Nat) : Int))).map OD.c) (by first | rfl | assumption | (simp; done) | (simp_all; done) | (simp; omega) | (simp_all; omega)) (zM (c := OD.c) (fun _ => rfl) _)) (by first | exact lt_k | omega)) rfl ?_
      refine s_q (zT (i := k) rfl (InRow.rdb (A := A56) (els := ((opsL ((kb : Nat) : Int))).map OD.c) (by first | rfl | assumption | (simp; done) | (simp_all; done) | (simp; omega) | (simp_all; omega)) (zM (c := OD.c) (fun _ => rfl) _)) (zS (by first | assumption | omega | (simp_all; done) | (simp_all; omega))) rfl) rfl ?_
      refine g_op (zI rfl fun b14 => ?_)
      refine rn [33] ?_
      refine zJ (b := b14) (OD.c jk) (by rw [hjk]) ?_
      refine rn [0] ?_
      refine dregL (L0 := [Res.blk b14 324 (OD.c jk)]) [] mixed rfl zB ?_
      refine rn [23,0,4,23,1,5,23,2,2,23,3,4,23,4,5] ?_
      refine dop 5 rfl (g_ownV [Res.blk b53 56 [Value.slice A9 n9 c9]] rfl rfl (fun w1 hw1 ho1 => by have h7 := rdr_any b53 A9 (n9) (c9) ((szO jk)) (decK (opsL ((kb : Nat) : Int)) ((⟨((kb : Nat) : Int), 0, 0, 0⟩ : Op), bs.drop (p + 1)) k).2 w1 ho1 (Rd.ofOld hw1 hr9.old (by omega) (by simp)) hn9 (by omega) (by omega) hby9; exact h7) rfl ?_)
      rintro ⟨⟩ _
      refine ii ?_
      refine dop 6 rfl ((g_ownV (f := setF jk) (fst := []) (cap := []) [Res.blk b9 35 (Op.c (decK (opsL ((kb : Nat) : Int)) ((⟨((kb : Nat) : Int), 0, 0, 0⟩ : Op), bs.drop (p + 1)) k).1)] rfl rfl (fun w1 hw1 ho1 => by have h7 := set_all hj2 b9 (decK (opsL ((kb : Nat) : Int)) ((⟨((kb : Nat) : Int), 0, 0, 0⟩ : Op), bs.drop (p + 1)) k).1 ((rdN ((decK (opsL ((kb : Nat) : Int)) ((⟨((kb : Nat) : Int), 0, 0, 0⟩ : Op), bs.drop (p + 1)) k).2.take (szO jk)) : Nat) : Int) w1 ho1; exact h7) rfl ?_))
      rintro ⟨⟩ _
      refine ii ?_
      refine rn [27,15,7,10,43,2,9] ?_
      refine zJ (b := b9) (Op.c (decK (opsL ((kb : Nat) : Int)) ((⟨((kb : Nat) : Int), 0, 0, 0⟩ : Op), bs.drop (p + 1)) (k + 1)).1) (by rw [hk9]; rfl) ?_
      exact g_ag ((k + 1), (subA A9 c9 (szO jk) 1), (n9 - szO jk), (c9 - szO jk)) (by (try dsimp only); exact ⟨(by first | exact lt_k | omega), hr8, (by omega)⟩)
     ·have eq_k : k = (opsL ((kb : Nat) : Int)).length := by have h9 := of_decide_eq_false h5; omega
      subst eq_k
      refine rn [16] ?_
      refine zE (zE (zQ ?_))
      refine rn [7,8] ?_
      refine dregL (L0 := [Res.blk b9 35 (Op.c (decK (opsL ((kb : Nat) : Int)) ((⟨((kb : Nat) : Int), 0, 0, 0⟩ : Op), bs.drop (p + 1)) (opsL ((kb : Nat) : Int)).length).1)]) [5] mixed rfl zB ?_
      refine rn [23,0,45,24,1,2,24,2,2] ?_
      refine dop 3 rfl (zG rfl (fun w1 hw1 => size_any (((kb : Nat) : Int)) w1 (by omega)) rfl ?_)
      refine dp 4 rfl (fun _ => q_addn (a := p) (b := (szK ((kb : Nat) : Int))) rfl rfl (by first | omega | (simp; omega) | (simp_all; omega))) ?_
      refine dop 5 rfl (zL rfl rfl rfl rfl rfl ?_)
      refine rn [24,6,3,24,7,3,28,7,11] ?_
      exact fin3 rfl (.cellw rfl rfl) (.tmp rfl) (.tmp rfl) (fun w' hw' => ⟨by rw [hD]; unfold decO; rfl, hw'.upd⟩) _ (.inl rfl)
def vN (j : Nat) (y : Op) : Nat := (getV j y).toNat
theorem vN_eq {y : Op} (hy : y.ok) (j : Nat) : getV j y = ((vN j y : Nat) : Int) := by
 have h0 : 0 ≤ getV j y := by
  unfold getV
  split
  ·exact hy.a.1
  ·rw [IntKind.wrap_u64]; omega
  ·rw [IntKind.wrap_u64]; omega
 unfold vN; omega
def beB (n v i : Nat) : List Nat := (List.range i).map fun t => v / 2 ^ (8 * (n - 1 - t)) % 256
theorem beB_succ (n v i : Nat) : beB n v (i + 1) = beB n v i ++ [v / 2 ^ (8 * (n - 1 - i)) % 256] := by unfold beB; rw [List.range_succ, List.map_append]; rfl
theorem beB_len (n v i : Nat) : (beB n v i).length = i := by simp [beB]
def wrK (y : Op) (k : Nat) : List Nat := y.k.toNat :: ((opsL y.k).take k).flatMap fun j => beB (szO j) (vN j y) (szO j)
def wrB (y : Op) : List Nat := if opsB y.k = true then wrK y (opsL y.k).length else []
theorem wrK_succ {y : Op} {k : Nat} (h : k < (opsL y.k).length) : wrK y (k + 1) = wrK y k ++ beB (szO (opsL y.k)[k]) (vN (opsL y.k)[k] y) (szO (opsL y.k)[k]) := by
 unfold wrK; rw [← List.take_append_getElem h, List.flatMap_append]; simp
theorem wrK_len (y : Op) : ∀ k, k ≤ (opsL y.k).length → (wrK y k).length = 1 + (((opsL y.k).take k).map szO).sum
 | 0, _ => by simp [wrK]
 | k + 1, h => by rw [wrK_succ (by omega), List.length_append, wrK_len y k (by omega), beB_len, sum_take_succ (by omega)]; omega
theorem write_any (y : Op) (w : World) (hy : y.ok) : Own2 (ι := (Option Addr × Nat)) Tryz.prog 142 [.agg y.c.toArray] w [] (fun x => True) (fun x => .tuple [.slice x.1 (wrB y).length x.2, .bool (opsB y.k)].toArray) (fun x => [Res.row x.1 (wrB y).length x.2 5 1 ((wrB y).map (fun v : Nat => [Value.int .u8 ((v : Nat) : Int)]))]) (fun x => []) := by
 refine g_st Tryz.func142 48 (WOK.start (fps []) _) ?_
 refine rn [1] ?_
 refine g_op (g_box rfl rfl rfl fun b1 => ?_)
 refine rn [3,3,0,1,4,5] ?_
 refine g_op (zH [] rfl (fun w1 hw1 ho1 => by have h7 := operands_any ((y).k) w1 hy.k; exact h7) rfl ?_)
 rintro ⟨A13, cap13⟩ _
 refine ii ?_
 refine rn [2,40,40,3,3,0,8,1,2,48,0] ?_
 refine zC rfl (fun h1 => ?_) (fun h1 => ?_)
 ·have hB : opsB y.k = false := by simpa using h1
  have hW : wrB y = [] := by unfold wrB; rw [hB]; rfl
  refine rn [1,3,3,0,11,13] ?_
  refine zW none 5 1 (([] : List Nat).map (fun v : Nat => [Value.int .u8 ((v : Nat) : Int)])) (by rfl) ?_
  exact fin2 rfl (.tmp rfl) (.tmp rfl) (fun w' hw' => ⟨((none : Option Addr), (0 : Nat)), (by exact trivial), by rw [hW, hB]; rfl, by rw [hW]; exact zA w' hw'⟩) _ (.inl rfl)
 ·have hB : opsB y.k = true := by simpa using h1
  have hk7 : 1 ≤ y.k ∧ y.k ≤ 7 := of_decide_eq_true hB
  have hW : wrB y = wrK y (opsL y.k).length := by unfold wrB; rw [hB]; rfl
  refine rn [12,7,1,4,5] ?_
  refine s_q (yQ (z := ((y.k.toNat : Nat) : Int)) rfl (by rw [show (((y.k.toNat : Nat)) : Int) = y.k by omega]; simp only [IntKind.wrap_u8]; omega)) rfl ?_
  refine g_op (g_lit rfl rfl rfl rfl rfl fun b21 => ?_)
  refine zJ (b := b21) ((([y.k.toNat] : List Nat).map (fun v : Nat => [Value.int .u8 ((v : Nat) : Int)])).flatten) rfl ?_
  refine rn [3,0,8,1,2,47,2,0,14] ?_
  refine zJ (b := b21) (((wrK y 0).map (fun v : Nat => [Value.int .u8 ((v : Nat) : Int)])).flatten) (by rfl) ?_
  refine g_blkRow (b := b21) 1 1 ((wrK y 0).map (fun v : Nat => [Value.int .u8 ((v : Nat) : Int)])) (zM (c := (fun v : Nat => [Value.int .u8 ((v : Nat) : Int)])) (fun _ => rfl) _) rfl rfl (by decide) ?_
  refine yC (A := some ⟨b21, 0, none⟩) (wrK y 0).length (by rfl) ?_
  refine g_val 6 (v' := .slice (some ⟨b21, 0, none⟩) (wrK y 0).length 1) rfl (by rfl) ?_
  refine g_lk [1, 2, 3, 22, 23] (fun (x : Nat × Option Addr × Nat) => [(6, .slice x.2.1 (wrK y x.1).length x.2.2), (24, .int .i64 ((x.1 : Nat) : Int))]) (fun (x : Nat × Option Addr × Nat) => [Res.blk b1 35 y.c, Res.row A13 (opsL y.k).length cap13 324 3 ((opsL y.k).map OD.c), Res.row x.2.1 ((wrK y x.1)).length x.2.2 5 1 (((wrK y x.1)).map (fun v : Nat => [Value.int .u8 ((v : Nat) : Int)]))]) (fun (x : Nat × Option Addr × Nat) => x.1 ≤ (opsL y.k).length) (fun (x : Nat × Option Addr × Nat) => (opsL y.k).length - x.1) (0, (some ⟨b21, 0, none⟩), 1) (by (try dsimp only); exact Nat.zero_le _) ?_
  rintro ⟨k, A9, c9⟩ le_k
  replace le_k : k ≤ (opsL y.k).length := le_k
  refine zX (L' := [Res.blk b1 35 y.c, Res.row A13 (opsL y.k).length cap13 324 3 ((opsL y.k).map OD.c), Res.row A9 ((wrK y k)).length c9 5 1 (((wrK y k)).map (fun v : Nat => [Value.int .u8 ((v : Nat) : Int)]))]) rfl ?_
  refine g_val 6 (v' := .slice A9 (wrK y k).length c9) rfl rfl ?_
  refine g_val 24 (v' := .int .i64 ((k : Nat) : Int)) rfl rfl ?_
  have hol9 := opsL_len y.k
  have hwl9 := wrK_len y k (by omega)
  have hwm9 := sum_take_le (opsL y.k) k
  refine rn [1,46,0,8] ?_
  refine zC rfl (fun h2 => ?_) (fun h2 => ?_)
  ·have lt_k : k < (opsL y.k).length := by have h9 := of_decide_eq_true h2; omega
   obtain ⟨jk, hjk⟩ : ∃ z, z = (opsL y.k)[k] := ⟨_, rfl⟩
   have hj2 : jk ≤ 2 := hjk ▸ opsL_le _ _ (List.getElem_mem lt_k)
   have hk9 : (wrK y (k + 1)) = wrK y k ++ beB (szO jk) (vN jk y) (szO jk) := by rw [hjk]; exact wrK_succ lt_k
   have hz7 := szO_le jk
   have hbG : HasB Tryz.prog (getF jk) := hasG hj2
   refine rn [12,7,8,14,1] ?_
   refine s_q (zR (i := k) rfl rfl rfl (InRow.rdb (A := A13) (els := ((opsL (y).k)).map OD.c) (by first | rfl | assumption | (simp; done) | (simp_all; done) | (simp; omega) | (simp_all; omega)) (zM (c := OD.c) (fun _ => rfl) _)) (by first | exact lt_k | omega)) rfl ?_
   refine s_q (zT (i := k) rfl (InRow.rdb (A := A13) (els := ((opsL (y).k)).map OD.c) (by first | rfl | assumption | (simp; done) | (simp_all; done) | (simp; omega) | (simp_all; omega)) (zM (c := OD.c) (fun _ => rfl) _)) (zS (by first | assumption | omega | (simp_all; done) | (simp_all; omega))) rfl) rfl ?_
   refine g_op (zI rfl fun b8 => ?_)
   refine rn [33] ?_
   refine zJ (b := b8) (OD.c jk) (by rw [hjk]) ?_
   refine rn [0,1,4,5] ?_
   refine s_q (yY (z := (szO jk : Int) - 1 - ((0 : Nat) : Int)) rfl rfl (by rw [wi64 (by omega) (by omega)]; omega)) rfl ?_
   refine rn [3,0,14] ?_
   refine zF (A := A9) ((wrK y k ++ beB (szO jk) (vN jk y) 0).map (fun v : Nat => [Value.int .u8 ((v : Nat) : Int)])) (by simp [beB]) ?_
   refine yC (A := A9) (wrK y k ++ beB (szO jk) (vN jk y) 0).length (by simp [beB]) ?_
   refine g_val 6 (v' := .slice A9 (wrK y k ++ beB (szO jk) (vN jk y) 0).length c9) rfl (by simp [beB]) ?_
   refine g_lk [1, 2, 3, 8, 22, 23, 24] (fun (x : Nat × Option Addr × Nat) => [(6, .slice x.2.1 (wrK y k ++ beB (szO jk) (vN jk y) x.1).length x.2.2), (9, .int .i64 ((szO jk : Int) - 1 - ((x.1 : Nat) : Int)))]) (fun (x : Nat × Option Addr × Nat) => [Res.blk b8 324 (OD.c jk), Res.blk b1 35 y.c, Res.row A13 (opsL y.k).length cap13 324 3 ((opsL y.k).map OD.c), Res.row x.2.1 ((wrK y k ++ beB (szO jk) (vN jk y) x.1)).length x.2.2 5 1 (((wrK y k ++ beB (szO jk) (vN jk y) x.1)).map (fun v : Nat => [Value.int .u8 ((v : Nat) : Int)]))]) (fun (x : Nat × Option Addr × Nat) => x.1 ≤ szO jk) (fun (x : Nat × Option Addr × Nat) => szO jk - x.1) (0, A9, c9) (by (try dsimp only); exact (by omega)) ?_
   rintro ⟨i, A8, c8⟩ le_i
   replace le_i : i ≤ szO jk := le_i
   refine zX (L' := [Res.blk b8 324 (OD.c jk), Res.blk b1 35 y.c, Res.row A13 (opsL y.k).length cap13 324 3 ((opsL y.k).map OD.c), Res.row A8 ((wrK y k ++ beB (szO jk) (vN jk y) i)).length c8 5 1 (((wrK y k ++ beB (szO jk) (vN jk y) i)).map (fun v : Nat => [Value.int .u8 ((v : Nat) : Int)]))]) rfl ?_
   refine g_val 6 (v' := .slice A8 (wrK y k ++ beB (szO jk) (vN jk y) i).length c8) rfl rfl ?_
   refine g_val 9 (v' := .int .i64 ((szO jk : Int) - 1 - ((i : Nat) : Int))) rfl rfl ?_
   have hbl9 := beB_len (szO jk) (vN jk y) i
   refine rn [8,1,2,53,0] ?_
   refine zC rfl (fun h3 => ?_) (fun h3 => ?_)
   ·have lt_i : i < szO jk := by have h9 := of_decide_eq_true h3; omega
    have hi9 : (wrK y k ++ beB (szO jk) (vN jk y) (i + 1)) = (wrK y k ++ beB (szO jk) (vN jk y) i) ++ [(vN jk y / 2 ^ (8 * (szO jk - 1 - i)) % 256)] := by rw [beB_succ, List.append_assoc]
    refine rn [12,7,8,14,10,2,4,5,45] ?_
    refine g_op ((g_purevE (f := getF jk) rfl rfl (fun w1 hw1 => get_all hj2 y w1) rfl ?_))
    refine g_val 39 (v' := .int .u64 ((vN jk y : Nat) : Int)) rfl (by rw [vN_eq hy]) ?_
    refine rn [2] ?_
    refine s_q (q_mulz (z := ((8 * (szO jk - 1 - i) : Nat) : Int)) rfl rfl (by rw [wi64 (by omega) (by omega)]; omega)) rfl ?_
    refine s_q (q_shrn (a := vN jk y) (n := 8 * (szO jk - 1 - i)) rfl rfl (by omega)) rfl ?_
    refine s_q (yQ (z := (((vN jk y / 2 ^ (8 * (szO jk - 1 - i)) % 256) : Nat) : Int)) rfl (by simp only [IntKind.wrap_u8]; omega)) rfl ?_
    refine g_op (g_lit rfl rfl rfl rfl rfl fun b44 => ?_)
    refine zJ (b := b44) ((([(vN jk y / 2 ^ (8 * (szO jk - 1 - i)) % 256)] : List Nat).map (fun v : Nat => [Value.int .u8 ((v : Nat) : Int)])).flatten) rfl ?_
    refine g_op (zY (A := A8) (els := ((wrK y k ++ beB (szO jk) (vN jk y) i)).map (fun v : Nat => [Value.int .u8 ((v : Nat) : Int)])) (news := (([(vN jk y / 2 ^ (8 * (szO jk - 1 - i)) % 256)] : List Nat).map (fun v : Nat => [Value.int .u8 ((v : Nat) : Int)]))) rfl rfl (InL.rdb (b := b44) rfl (by simp) rfl) (yG (c := (fun v : Nat => [Value.int .u8 ((v : Nat) : Int)])) (by intro x; simp [Value.oneCell']) _) (by first | omega | (simp; omega) | (simp_all; omega)) rfl fun A45 cap45 => ⟨_, inferInstance, ?_⟩)
    refine zF (A := A45) ((((wrK y k ++ beB (szO jk) (vN jk y) i) ++ [(vN jk y / 2 ^ (8 * (szO jk - 1 - i)) % 256)])).map (fun v : Nat => [Value.int .u8 ((v : Nat) : Int)])) (by first | rfl | exact List.map_append.symm | (simp; done)) ?_
    refine rn [3,9,15,7,10,2] ?_
    refine s_q (yY (z := (szO jk : Int) - 1 - ((i + 1 : Nat) : Int)) rfl rfl (by rw [wi64 (by omega) (by omega)]; omega)) rfl ?_
    refine rn [3,9] ?_
    refine zF (A := A45) ((wrK y k ++ beB (szO jk) (vN jk y) (i + 1)).map (fun v : Nat => [Value.int .u8 ((v : Nat) : Int)])) (by rw [hi9]) ?_
    refine yC (A := A45) (wrK y k ++ beB (szO jk) (vN jk y) (i + 1)).length (by rw [hi9]; simp; omega) ?_
    refine g_val 6 (v' := .slice A45 (wrK y k ++ beB (szO jk) (vN jk y) (i + 1)).length cap45) rfl (by rw [hi9]; simp; omega) ?_
    exact g_ag ((i + 1), A45, cap45) (by (try dsimp only); exact (by omega))
   ·have eq_i : i = szO jk := by have h9 := of_decide_eq_false h3; omega
    refine rn [16] ?_
    refine zE (zE (zQ ?_))
    refine rn [15,7,10,43,2,9] ?_
    rw [eq_i] at *
    refine zF (A := A8) ((wrK y (k + 1)).map (fun v : Nat => [Value.int .u8 ((v : Nat) : Int)])) (by rw [hk9]) ?_
    refine yC (A := A8) (wrK y (k + 1)).length (by rw [hk9]) ?_
    refine g_val 6 (v' := .slice A8 (wrK y (k + 1)).length c8) rfl (by rw [hk9]) ?_
    exact g_ag ((k + 1), A8, c8) (by (try dsimp only); exact (by first | exact lt_k | omega))
  ·have eq_k : k = (opsL y.k).length := by have h9 := of_decide_eq_false h2; omega
   refine rn [16] ?_
   refine zE (zE (zQ ?_))
   refine rn [7,1,2,3,3,0,11] ?_
   subst eq_k
   exact fin2 rfl (.tmp rfl) (.tmp rfl) (fun w' hw' => ⟨(A9, c9), (by exact trivial), by rw [hW, hB], by rw [hW]; exact zA w' hw'⟩) _ (.inl rfl)
def okE (y : Op) : Bool := opsB y.k && decide ((decP (wrB y) 0).1 = y)
theorem ok_B {y : Op} (h : okE y = true) : opsB y.k = true := by unfold okE at h; simp at h; exact h.1
theorem wrB_by {y : Op} : ∀ b ∈ wrB y, b < 256 := fun b hb => by
 unfold wrB at hb
 split at hb
 ·rename_i hB
  have hB : 1 ≤ y.k ∧ y.k ≤ 7 := of_decide_eq_true hB
  unfold wrK at hb
  rcases List.mem_cons.1 hb with rfl | hb
  ·omega
  ·obtain ⟨j, _, hb⟩ := List.mem_flatMap.1 hb
   obtain ⟨t, _, rfl⟩ := List.mem_map.1 hb
   exact Nat.mod_lt _ (by decide)
 ·simp at hb
theorem wrB_len (y : Op) : (wrB y).length ≤ 17 := by
 unfold wrB
 split
 ·rw [wrK_len y _ (Nat.le_refl _)]
  have h1 := sum_take_le (opsL y.k) (opsL y.k).length
  have h2 := opsL_len y.k
  omega
 ·simp
theorem valid_op (y : Op) (w : World) (hy : y.ok) : Pur Tryz.prog 141 [.agg y.c.toArray] w (.bool (okE y)) := by
 refine g_st Tryz.func141 24 (WOK.start [] _) ?_
 refine rn [1] ?_
 refine g_op (g_box rfl rfl rfl fun b1 => ?_)
 refine rn [3,0,1,45] ?_
 refine g_op (zH [] rfl (fun w1 hw1 ho1 => by have h7 := write_any y w1 hy; exact h7) rfl ?_)
 rintro ⟨A10, cap10⟩ _
 refine ii ?_
 refine rn [2,40,40,3,3,0,8,1,2,48,0] ?_
 refine zC rfl (fun h1 => ?_) (fun h1 => ?_)
 ·have hB : opsB y.k = false := by simpa using h1
  refine rn [1,3,0,11,13] ?_
  exact fin1 rfl (.tmp rfl) (fun w' hw' => ⟨by unfold okE; rw [hB]; rfl, hw'.upd⟩) _ (.inl rfl)
 ·have hB : opsB y.k = true := by simpa using h1
  have hwl := wrB_len y
  refine rn [12,7,1,2] ?_
  refine g_op (zG rfl (fun w1 hw1 => odec_any A10 ((wrB y).length) (cap10) 0 (wrB y) w1 (Rd.ofRow (A := A10) hw1) (row_le (A := A10) hw1) (by omega) (by omega) wrB_by) rfl ?_)
  refine rn [2,40,40,40] ?_
  refine g_op (zI rfl fun b5 => ?_)
  refine rn [33,3,3,0,1,45,45] ?_
  refine s_q (q_eqs rfl rfl rfl) rfl ?_
  refine rn [3,0,11] ?_
  exact fin1 rfl (.tmp rfl) (fun w' hw' => ⟨by unfold okE; rw [hB, Bool.true_and]; simp [Op.ext_iff'], hw'.upd⟩) _ (.inl rfl)
theorem oenc_any (y : Op) (w : World) (hy : y.ok) (hv : okE y = true) : Own2 (ι := (Option Addr × Nat)) Tryz.prog 86 [.agg y.c.toArray] w [] (fun x => True) (fun x => .tuple [.slice x.1 (wrB y).length x.2, .bool true].toArray) (fun x => [Res.row x.1 (wrB y).length x.2 5 1 ((wrB y).map (fun v : Nat => [Value.int .u8 ((v : Nat) : Int)]))]) (fun x => []) := by
 refine g_st Tryz.func86 11 (WOK.start (fps []) _) ?_
 refine rn [1] ?_
 refine g_op (g_box rfl rfl rfl fun b1 => ?_)
 refine rn [3,3,0,8,1,45] ?_
 refine g_op (zG rfl (fun w1 hw1 => valid_op y w1 hy) rfl ?_)
 refine yD 5 (b := true) rfl (by rw [hv]) ?_
 refine rn [48,0,20,12,7,1,45] ?_
 refine g_op (zH [] rfl (fun w1 hw1 ho1 => by have h7 := write_any y w1 hy; exact h7) rfl ?_)
 rintro ⟨A8, cap8⟩ _
 refine ii ?_
 refine rn [40,40,3,3,0,11] ?_
 exact fin2 rfl (.tmp rfl) (.tmp rfl) (fun w' hw' => ⟨(A8, cap8), (by exact trivial), by rw [ok_B hv], zA w' hw'⟩) _ (.inl rfl)
theorem bmul_any (x y : Nat) (w : World) (hx : x < 18446744073709551616) (hy : y < 18446744073709551616) : Pur Tryz.prog 88 [.int .u64 ((x : Nat) : Int), .int .u64 ((y : Nat) : Int)] w (.tuple [.int .u64 ((x * y / 18446744073709551616 : Nat) : Int), .int .u64 ((x * y % 18446744073709551616 : Nat) : Int)].toArray) := by
 refine g_st Tryz.func88 30 (WOK.start [] _) ?_
 refine rn [1,3,3,0,8,20,12,7,1,2,2] ?_
 refine g_op (zG rfl (fun w1 hw1 => mul64_any x y w1 hx hy) rfl ?_)
 refine rn [2,40,40,3,3,0,1,2,2,3,3,0,11] ?_
 exact fin2 rfl (.tmp rfl) (.tmp rfl) (fun w' hw' => ⟨by rfl, hw'.upd⟩) _ (.inl rfl)
theorem rep_first (z : Op) (n : Nat) : (List.replicate n (Op.c zO)).take 0 ++ ([z].map Op.c).take (min 1 n) ++ (List.replicate n (Op.c zO)).drop (0 + min 1 n) = List.replicate (min 1 n) (Op.c z) ++ List.replicate (n - min 1 n) (Op.c zO) := by
 rcases Nat.eq_zero_or_pos n with h0 | h0
 ·subst h0; rfl
 ·rw [show min 1 n = 1 by omega]; simp
theorem rep_copy (z : Op) {n m : Nat} (h : m ≤ n) : ((List.replicate m (Op.c z) ++ List.replicate (n - m) (Op.c zO))).take m ++ (((List.replicate m (Op.c z) ++ List.replicate (n - m) (Op.c zO))).take m).take (min m (n - m)) ++ ((List.replicate m (Op.c z) ++ List.replicate (n - m) (Op.c zO))).drop (m + min m (n - m)) = (List.replicate (m + min m (n - m)) (Op.c z) ++ List.replicate (n - (m + min m (n - m))) (Op.c zO)) := by
 have h1 : (List.replicate m (Op.c z) ++ List.replicate (n - m) (Op.c zO)).take m = List.replicate m (Op.c z) := List.take_left' (by simp)
 rw [h1, List.take_replicate, Nat.min_eq_left (Nat.min_le_left _ _), ← List.drop_drop, List.drop_left' (by simp), List.drop_replicate, List.replicate_append_replicate]
 congr 2
 omega
theorem rep_any (A : Option Addr) (cap n : Nat) (z : Op) (w : World) (hrd : Rd w [] A 1 4 ([z].map Op.c)) (hn : n ≤ 100000) : Own2 (ι := (Option Addr × Nat)) Tryz.prog 43 [.slice A 1 cap, .int .i64 (n : Int)] w [] (fun x => True) (fun x => .slice x.1 (List.replicate n z).length x.2) (fun x => [Res.row x.1 (List.replicate n z).length x.2 35 4 ((List.replicate n z).map Op.c)]) (fun x => []) := by
 refine g_st Tryz.func43 48 (WOK.start (fps []) _) ?_
 refine rn [1,3,0,8,1,2,46,0] ?_
 refine zC rfl (fun h1 => ?_) (fun h1 => ?_)
 ·exfalso; have h9 := of_decide_eq_true h1; omega
 ·refine rn [12,7,1,2,47] ?_
  refine s_q (yQ (z := ((1 : Nat) : Int)) rfl (wu64 (by omega) (by omega))) rfl ?_
  refine rn [2] ?_
  refine s_q (yQ (z := ((n : Nat) : Int)) rfl (wu64 (by omega) (by omega))) rfl ?_
  refine g_op (zG rfl (fun w1 hw1 => bmul_any 1 n w1 (by omega) (by omega)) rfl ?_)
  refine g_val 18 (v' := .tuple [.int .u64 ((0 : Nat) : Int), .int .u64 ((n : Nat) : Int)].toArray) rfl (by rw [Nat.one_mul, Nat.div_eq_of_lt (by omega), Nat.mod_eq_of_lt (by omega)]) ?_
  refine rn [2,40,40,3,3,0,8,1,2,55] ?_
  refine yD 22 (b := false) rfl (by decide) ?_
  refine rn [2,22,2,22,55] ?_
  refine yD 25 (b := false) rfl (by simp; omega) ?_
  refine rn [42,0,20,12,7,1,2] ?_
  refine s_q (yQ (z := ((n : Nat) : Int)) rfl (wi64 (by omega) (by omega))) rfl ?_
  refine g_op (g_make (n := n) rfl rfl rfl rfl (by omega) rfl fun g30 => ?_)
  refine rn [3,0,1,2,2] ?_
  refine g_op (g_copy (A := (some ⟨g30, 0, none⟩)) (n := n) (cap := n) (els := List.replicate n (Op.c zO)) (news := [z].map Op.c) (l := 0) rfl rfl (fun _ => by simp) hrd.rdb (by omega) (by simp [Op.c, Value.oneCell']) rfl ?_)
  refine zF (A := (some ⟨g30, 0, none⟩)) (List.replicate (min 1 n) (Op.c z) ++ List.replicate (n - (min 1 n)) (Op.c zO)) (rep_first z n) ?_
  refine g_val 33 (v' := .int .i64 ((min 1 n : Nat) : Int)) rfl (by rfl) ?_
  refine rn [3,0,8,14] ?_
  refine g_lk [4, 7] (fun (x : Nat) => [(8, .int .i64 ((x : Nat) : Int))]) (fun (x : Nat) => [Res.row (some ⟨g30, 0, none⟩) n n 35 4 (List.replicate x (Op.c z) ++ List.replicate (n - x) (Op.c zO))]) (fun (x : Nat) => (x ≤ n ∧ (0 < n → 1 ≤ x))) (fun (x : Nat) => n - x) (min 1 n) (by (try dsimp only); exact (by omega)) ?_
  rintro m9 hm9
  replace hm9 : m9 ≤ n ∧ (0 < n → 1 ≤ m9) := hm9
  refine rn [8,1,2,2,47,46,0] ?_
  refine zC rfl (fun h2 => ?_) (fun h2 => ?_)
  ·have lt_m : m9 < n := by have h9 := of_decide_eq_true h2; omega
   refine rn [12,7,14] ?_
   refine dregL (L0 := []) [] mixed rfl zB ?_
   refine rn [23,0,2,23,1,2,23,2,2] ?_
   refine dq 3 rfl (xF (l := m9) rfl rfl rfl (by omega)) ?_
   refine rn [23,4,2,23,5,2] ?_
   refine dq 6 rfl (yV (h := m9) rfl rfl rfl (by omega)) ?_
   refine dop 7 rfl (g_copy (A := (some ⟨g30, 0, none⟩)) (n := n) (cap := n) (els := (List.replicate m9 (Op.c z) ++ List.replicate (n - m9) (Op.c zO))) (l := m9) rfl rfl (fun h0 => by unfold subA; rw [if_neg (by omega)]; simp [yP]) (Rdb.h (InRow.rdb (A := (some ⟨g30, 0, none⟩)) (els := (List.replicate m9 (Op.c z) ++ List.replicate (n - m9) (Op.c zO))) (by simp; omega) (by intro c hc; rcases List.mem_append.1 hc with hc | hc <;> (rw [List.eq_of_mem_replicate hc]; rfl))) (cap := n) (h := m9) (by omega) (Nat.le_refl _)) (by omega) (fun c hc => by rcases List.mem_append.1 (List.mem_of_mem_take hc) with hc | hc <;> (rw [List.eq_of_mem_replicate hc]; simp [Op.c, zO, Value.oneCell'])) rfl ?_)
   refine zF (A := (some ⟨g30, 0, none⟩)) (List.replicate (m9 + min m9 (n - m9)) (Op.c z) ++ List.replicate (n - (m9 + min m9 (n - m9))) (Op.c zO)) (rep_copy z (by omega)) ?_
   refine dq 8 rfl (q_addn (a := m9) (b := (min m9 (n - m9))) rfl rfl (by first | omega | (simp; omega) | (simp_all; omega))) ?_
   refine rn [23,9,3,27,15] ?_
   exact g_ag (m9 + min m9 (n - m9)) (by (try dsimp only); exact (by omega))
  ·have eq_m : n = m9 := by have h9 := of_decide_eq_false h2; omega
   subst eq_m
   refine rn [16] ?_
   refine zE (zE (zQ ?_))
   refine rn [7,1,2,3,0,11] ?_
   refine zF (A := (some ⟨g30, 0, none⟩)) ((List.replicate n z).map Op.c) (by simp) ?_
   refine yC (A := (some ⟨g30, 0, none⟩)) (List.replicate n z).length (by simp) ?_
   exact fin1 rfl (.tmp rfl) (fun w' hw' => ⟨((some ⟨g30, 0, none⟩ : Option Addr), n), (by exact trivial), by simp, zA w' hw'⟩) _ (.inl rfl)
theorem ticks_any (n : Nat) (w : World) (hn : n ≤ 100000) : Own2 (ι := (Option Addr × Nat)) Tryz.prog 12 [.int .i64 (n : Int)] w [] (fun x => True) (fun x => .slice x.1 (List.replicate n (Op.mk 7 0 0 0)).length x.2) (fun x => [Res.row x.1 (List.replicate n (Op.mk 7 0 0 0)).length x.2 35 4 ((List.replicate n (Op.mk 7 0 0 0)).map Op.c)]) (fun x => []) := by
 refine g_st Tryz.func12 9 (WOK.start (fps []) _) ?_
 refine rn [1,3,0,1,49] ?_
 refine g_op (g_lit rfl rfl rfl rfl rfl fun b4 => ?_)
 refine zJ (b := b4) ((([(Op.mk 7 0 0 0)] : List Op).map Op.c).flatten) rfl ?_
 refine rn [2] ?_
 refine s_q (q_maxn (a := n) (b := 0) rfl rfl) rfl ?_
 refine s_q (q_minn (a := (max n 0)) (b := 1048576) rfl rfl) rfl ?_
 refine g_val 7 (v' := .int .i64 ((n : Nat) : Int)) rfl (by simp; omega) ?_
 refine g_op (zH [] rfl (fun w1 hw1 ho1 => by have h7 := rep_any (some ⟨b4, 0, none⟩) 1 n (Op.mk 7 0 0 0) w1 (Rd.ofBlk (b := b4) (els := ([(Op.mk 7 0 0 0)] : List Op).map Op.c) hw1 rfl (by simp [Op.c]) rfl) (by omega); exact h7) rfl ?_)
 rintro ⟨A8, cap8⟩ _
 refine ii ?_
 refine rn [3,0,11] ?_
 exact fin1 rfl (.tmp rfl) (fun w' hw' => ⟨(A8, cap8), (by exact trivial), rfl, zA w' hw'⟩) _ (.inl rfl)
theorem flat_len_le : ∀ (l : List Op) (k : Nat), ((l.take k).flatMap wrB).length ≤ 17 * k
 | [], _ => by simp
 | y :: l, 0 => by simp
 | y :: l, k + 1 => by
  have h1 := flat_len_le l k
  have h2 := wrB_len y
  simp only [List.take_succ_cons, List.flatMap_cons, List.length_append]; omega
theorem flat_wr_succ {l : List Op} {k : Nat} (h : k < l.length) : (l.take (k + 1)).flatMap wrB = (l.take k).flatMap wrB ++ wrB l[k] := by rw [← List.take_append_getElem h, List.flatMap_append]; simp
def decF (bs : List Nat) : Nat → Nat → List Op
 | 0, _ => []
 | k + 1, p => if p < bs.length then (decP bs p).1 :: decF bs k (decP bs p).2.1 else []
def decL (bs : List Nat) : List Op := decF bs bs.length 0
theorem decF_end {bs : List Nat} {k p : Nat} (h : ¬ p < bs.length) : decF bs k p = [] := by
 cases k with
 | zero => rfl
 | succ k => simp only [decF]; rw [if_neg h]
theorem decF_succ {bs : List Nat} {k p : Nat} (h : p < bs.length) : decF bs (k + 1) p = (decP bs p).1 :: decF bs k (decP bs p).2.1 := by simp only [decF]; rw [if_pos h]
theorem decP_in {bs : List Nat} {p : Nat} (h : p < bs.length) : (decP bs p).2.2 = true ∧ p < (decP bs p).2.1 ∧ (decP bs p).2.1 ≤ bs.length := by
 unfold decP
 rw [dif_pos h]
 split
 ·exact ⟨rfl, by simp, by simp only; omega⟩
 ·rename_i h1
  split
  ·exact ⟨rfl, h, Nat.le_refl _⟩
  ·exact ⟨rfl, by simp only; omega, by simp only; omega⟩
theorem decF_len (bs : List Nat) : ∀ k p, (decF bs k p).length ≤ k
 | 0, _ => Nat.le_refl _
 | k + 1, p => by
  unfold decF
  split
  ·have := decF_len bs k (decP bs p).2.1; simp only [List.length_cons]; omega
  ·simp
theorem decL_len (bs : List Nat) : (decL bs).length ≤ bs.length := decF_len _ _ _
theorem senc_any (A : Option Addr) (n cap : Nat) (l : List Op) (w : World) (hrd : Rd w [] A n 4 (l.map Op.c)) (hn : n ≤ 10000) (hv : ∀ y ∈ l, y.ok ∧ okE y = true) : Own2 (ι := (Option Addr × Nat)) Tryz.prog 31 [.slice A n cap] w [] (fun x => True) (fun x => .tuple [.slice x.1 (l.flatMap wrB).length x.2, .bool true].toArray) (fun x => [Res.row x.1 (l.flatMap wrB).length x.2 5 1 ((l.flatMap wrB).map (fun v : Nat => [Value.int .u8 ((v : Nat) : Int)]))]) (fun x => []) := by
 refine g_st Tryz.func31 27 (WOK.start (fps []) _) ?_
 have hm : n = l.length := by have := hrd.old.len; simpa using this
 refine rn [1,3,3,0,1,3] ?_
 refine g_nilrow 4 5 1 rfl fun Az1 capz1 hcz1 => ?_
 refine zF (A := Az1) (([] : List Nat).map (fun v : Nat => [Value.int .u8 ((v : Nat) : Int)])) rfl ?_
 refine rn [0,8,1,2,47,2,0,14] ?_
 refine zF (A := Az1) (((l.take 0).flatMap wrB).map (fun v : Nat => [Value.int .u8 ((v : Nat) : Int)])) (by simp) ?_
 refine yC (A := Az1) ((l.take 0).flatMap wrB).length (by simp) ?_
 refine g_val 4 (v' := .slice Az1 ((l.take 0).flatMap wrB).length capz1) rfl (by simp) ?_
 refine g_lk [2, 3, 9, 10] (fun (x : Nat × Option Addr × Nat) => [(4, .slice x.2.1 ((l.take x.1).flatMap wrB).length x.2.2), (11, .int .i64 ((x.1 : Nat) : Int))]) (fun (x : Nat × Option Addr × Nat) => [Res.row x.2.1 (((l.take x.1).flatMap wrB)).length x.2.2 5 1 ((((l.take x.1).flatMap wrB)).map (fun v : Nat => [Value.int .u8 ((v : Nat) : Int)]))]) (fun (x : Nat × Option Addr × Nat) => x.1 ≤ n) (fun (x : Nat × Option Addr × Nat) => n - x.1) (0, Az1, capz1) (by (try dsimp only); exact Nat.zero_le _) ?_
 rintro ⟨k, A9, c9⟩ le_k
 replace le_k : k ≤ n := le_k
 refine zX (L' := [Res.row A9 (((l.take k).flatMap wrB)).length c9 5 1 ((((l.take k).flatMap wrB)).map (fun v : Nat => [Value.int .u8 ((v : Nat) : Int)]))]) rfl ?_
 refine g_val 4 (v' := .slice A9 ((l.take k).flatMap wrB).length c9) rfl rfl ?_
 refine g_val 11 (v' := .int .i64 ((k : Nat) : Int)) rfl rfl ?_
 have hfl9 := flat_len_le l k
 refine rn [1,46,0,8] ?_
 refine zC rfl (fun h1 => ?_) (fun h1 => ?_)
 ·have lt_k : k < n := by have h9 := of_decide_eq_true h1; omega
  have hkl : k < l.length := by omega
  obtain ⟨yk, hyk⟩ : ∃ z, z = l[k] := ⟨_, rfl⟩
  obtain ⟨hy9, hv9⟩ := hv yk (hyk ▸ List.getElem_mem hkl)
  have hs9 := flat_wr_succ hkl
  rw [← hyk] at hs9
  have hwl9 := wrB_len yk
  refine rn [12,7,8,14,1] ?_
  refine s_q (zR (i := k) rfl rfl rfl hrd.rdb (by first | exact lt_k | omega)) rfl ?_
  refine s_q (zT (i := k) rfl hrd.rdb (zS (by first | exact (by first | exact lt_k | omega) | omega | (simp_all; done) | (simp_all; omega))) rfl) rfl ?_
  refine g_op (zI rfl fun b6 => ?_)
  refine rn [33] ?_
  refine zJ (b := b6) (Op.c yk) (by rw [hyk]) ?_
  refine rn [0,1,45] ?_
  refine g_op (zH [] rfl (fun w1 hw1 ho1 => by have h7 := oenc_any yk w1 hy9 hv9; exact h7) rfl ?_)
  rintro ⟨A17, cap17⟩ _
  refine ii ?_
  refine rn [2,40,40,3,3,0,8,1,2,48,0,20,12,7,10,2,2] ?_
  refine g_op (zY (A := A9) (els := (((l.take k).flatMap wrB)).map (fun v : Nat => [Value.int .u8 ((v : Nat) : Int)])) (news := (((wrB yk)).map (fun v : Nat => [Value.int .u8 ((v : Nat) : Int)]))) rfl rfl (InRow.rdb (A := A17) (els := ((wrB yk)).map (fun v : Nat => [Value.int .u8 ((v : Nat) : Int)])) (by first | rfl | assumption | (simp; done) | (simp_all; done) | (simp; omega) | (simp_all; omega)) (zM (c := (fun v : Nat => [Value.int .u8 ((v : Nat) : Int)])) (fun _ => rfl) _)) (yG (c := (fun v : Nat => [Value.int .u8 ((v : Nat) : Int)])) (by intro x; simp [Value.oneCell']) _) (by first | omega | (simp; omega) | (simp_all; omega)) rfl fun A24 cap24 => ⟨_, inferInstance, ?_⟩)
  refine zF (A := A24) (((((l.take k).flatMap wrB) ++ (wrB yk))).map (fun v : Nat => [Value.int .u8 ((v : Nat) : Int)])) (by first | rfl | exact List.map_append.symm | (simp; done)) ?_
  refine rn [3,9,15,7,10,43,2,9] ?_
  refine zF (A := A24) (((l.take (k + 1)).flatMap wrB).map (fun v : Nat => [Value.int .u8 ((v : Nat) : Int)])) (by rw [hs9, hyk]) ?_
  refine yC (A := A24) ((l.take (k + 1)).flatMap wrB).length (by rw [hs9, hyk]; simp) ?_
  refine g_val 4 (v' := .slice A24 ((l.take (k + 1)).flatMap wrB).length cap24) rfl (by rw [hs9, hyk]; simp) ?_
  exact g_ag ((k + 1), A24, cap24) (by (try dsimp only); exact (by first | exact lt_k | omega))
 ·have eq_k : k = n := by have h9 := of_decide_eq_false h1; omega
  refine rn [16] ?_
  refine zE (zE (zQ ?_))
  refine rn [7,1,2,3,3,0,11] ?_
  subst eq_k
  have hE : ((l.take k).flatMap wrB) = l.flatMap wrB := by rw [hm, List.take_length]
  refine zF (A := A9) ((l.flatMap wrB).map (fun v : Nat => [Value.int .u8 ((v : Nat) : Int)])) (by rw [hE]) ?_
  refine yC (A := A9) (l.flatMap wrB).length (by rw [hE]) ?_
  exact fin2 rfl (.tmp rfl) (.tmp rfl) (fun w' hw' => ⟨(A9, c9), (by exact trivial), by rw [hE], zA w' hw'⟩) _ (.inl rfl)
theorem oprs_any (A : Option Addr) (n cap : Nat) (w : World)  : Own2 (ι := Nat) Tryz.prog 126 [.slice A n cap] w [] (fun x => True) (fun x => .func (.func 185) #[] [Value.pointer (some ⟨x, 0, none⟩)].toArray) (fun x => [Res.blk x 56 [Value.slice A n cap]]) (fun x => []) := by
 refine g_st Tryz.func126 4 (WOK.start (fps []) _) ?_
 refine rn [1] ?_
 refine g_op (g_box (c := [Value.slice A n cap]) rfl rfl rfl fun b1 => ?_)
 refine rn [3,0,1,52,3,0,11] ?_
 exact fin1 rfl (.tmp rfl) (fun w' hw' => ⟨b1, (by exact trivial), rfl, zA w' hw'⟩) _ (.inl rfl)
theorem oper1_any (l9 : Nat) (B9 : List Op → Res → Prop) (r : Res) (q : Nat) (A : Option Addr) (n cap : Nat) (bs : List Nat) (w : World) (hw : W0 [Res.blk q 56 [Value.slice A n cap], r] w) (hY : YOK Tryz.prog l9 (fun x : Op => Value.agg x.c.toArray) B9 (decL bs)) (hB0 : B9 [] r) (hrd : Rd w [Res.blk q 56 [Value.slice A n cap], r] A n 1 (bs.map (fun v : Nat => [Value.int .u8 ((v : Nat) : Int)]))) (hcap : n ≤ cap) (hn : n ≤ 1000000) (hby : ∀ b ∈ bs, b < 256) : Ret Tryz.prog 185 [.func (.yield l9) #[] #[], .pointer (some ⟨q, 0, none⟩)] w (fun _ w2 => ∃ r2, B9 (decL bs) r2 ∧ WOK (fps [Res.blk q 56 [Value.slice A n cap], r]) w [Res.blk q 56 [Value.slice A n cap], r2] w2) := by
 refine g_st Tryz.func185 27 hw ?_
 have hm : n = bs.length := by have := hrd.old.len; simpa using this
 refine rn [1,3,0,14] ?_
 refine g_lk [0, 1] (fun (x : Nat × Nat × List Op × Res) => [(3, .int .i64 ((x.1 : Nat) : Int))]) (fun (x : Nat × Nat × List Op × Res) => [Res.blk q 56 [Value.slice A n cap], x.2.2.2]) (fun (x : Nat × Nat × List Op × Res) => B9 x.2.2.1 x.2.2.2 ∧ x.2.2.1 ++ decF bs x.2.1 x.1 = decL bs ∧ bs.length - x.1 ≤ x.2.1 ∧ x.1 ≤ bs.length) (fun (x : Nat × Nat × List Op × Res) => bs.length - x.1) (0, bs.length, [], r) (by (try dsimp only); exact ⟨hB0, rfl, (by omega), (by omega)⟩) ?_
 rintro ⟨p, k, pre, r1⟩ ⟨hB, hd, hk, hp⟩
 replace hB : B9 pre r1 := hB
 replace hd : pre ++ decF bs k p = decL bs := hd
 replace hk : bs.length - p ≤ k := hk
 replace hp : p ≤ bs.length := hp
 refine zX (L' := [Res.blk q 56 [Value.slice A n cap], r1]) rfl ?_
 refine g_val 3 (v' := .int .i64 ((p : Nat) : Int)) rfl rfl ?_
 refine rn [8,1,2,5,47,46,0] ?_
 refine zC rfl (fun h1 => ?_) (fun h1 => ?_)
 ·have hp9 : p < bs.length := by have h9 := of_decide_eq_true h1; omega
  obtain ⟨hin1, hin2, hin3⟩ := decP_in hp9
  obtain ⟨k1, rfl⟩ : ∃ z, k = z + 1 := ⟨k - 1, by omega⟩
  have hd9 : (pre ++ [(decP bs p).1]) ++ decF bs k1 (decP bs p).2.1 = decL bs := by rw [← hd, List.append_assoc, decF_succ hp9]; rfl
  have hpre9 : pre ++ [(decP bs p).1] <+: decL bs := ⟨_, hd9⟩
  refine rn [12,7,14,1,5,2] ?_
  refine g_op (zG rfl (fun w1 hw1 => odec_any A (n) (cap) p bs w1 (Rd.ofRd hw1 hrd (by omega)) hcap (by omega) (by omega) hby) rfl ?_)
  refine rn [2,40,40,40] ?_
  refine g_op (zI rfl fun b4 => ?_)
  refine rn [33,3,3,0,8,1,2,48] ?_
  refine yD 19 (b := false) rfl (by rw [hin1]; rfl) ?_
  refine rn [2,22,2,22,45] ?_
  refine g_gt rfl rfl (g_yield hY hpre9 hB rfl rfl rfl fun r9 hB9 => ?_)
  refine ⟨_, inferInstance, ?_⟩
  refine rn [22,48,42,0,20,12,7,10,2,3,9,15] ?_
  exact g_ag ((decP bs p).2.1, k1, (pre ++ [(decP bs p).1]), r9) (by (try dsimp only); exact ⟨hB9, hd9, (by omega), hin3⟩)
 ·have hp9 : ¬ p < bs.length := by have h9 := of_decide_eq_false h1; omega
  have hall : pre = decL bs := by rw [← hd, decF_end hp9, List.append_nil]
  refine rn [16] ?_
  refine zE (zE (zQ ?_))
  exact fin0 rfl (fun w' hw' => ⟨r1, hall ▸ hB, by have h9 := zB (L' := [Res.blk q 56 [Value.slice A n cap], r1]) w' hw'; exact h9⟩) _ (.inr rfl)
theorem sdec_any (A : Option Addr) (n cap : Nat) (bs : List Nat) (w : World) (hrd : Rd w [] A n 1 (bs.map (fun v : Nat => [Value.int .u8 ((v : Nat) : Int)]))) (hcap : n ≤ cap) (hn : n ≤ 1000000) (hby : ∀ b ∈ bs, b < 256) : Own2 (ι := (Option Addr × Nat)) Tryz.prog 68 [.slice A n cap] w [] (fun x => True) (fun x => .slice x.1 (decL bs).length x.2) (fun x => [Res.row x.1 (decL bs).length x.2 35 4 ((decL bs).map Op.c)]) (fun x => []) := by
 refine g_startM Tryz.func68 rfl 13 rfl (by simp) (fps []) [] (WOK.start _ _) _ rfl ?_
 have hm : n = bs.length := by have := hrd.old.len; simpa using this
 refine rn [1,3,0,1] ?_
 refine g_op (zI rfl fun b3 => ?_)
 refine zJ (b := b3) [Value.slice none ([] : List Op).length 0] rfl ?_
 refine zW none 35 4 (([] : List Op).map Op.c) rfl ?_
 refine rn [0,8,1,2] ?_
 refine g_op (zH [] rfl (fun w1 hw1 ho1 => by have h7 := oprs_any A (n) (cap) w1; exact h7) rfl ?_)
 rintro q6 _
 refine ii ?_
 refine rn [0,14] ?_
 refine g_rangeFunc2 (fst := []) (cap := [Value.pointer (some ⟨q6, 0, none⟩)]) (enc := (fun x : Op => Value.agg x.c.toArray)) (all := (decL bs)) rfl rfl [Res.blk q6 56 [Value.slice A n cap]] [Res.blk q6 56 [Value.slice A n cap]] [] (fun (y9 : Option Addr × Nat × List Op) => [Res.blk b3 25 [Value.slice y9.1 y9.2.2.length y9.2.1], Res.row y9.1 y9.2.2.length y9.2.1 35 4 (y9.2.2.map Op.c)]) (fun pre (y9 : Option Addr × Nat × List Op) => y9.2.2 = pre) (none, 0, []) (rfl) (fun w1 hw1 => by have h9 := zB (L' := [Res.blk q6 56 [Value.slice A n cap], Res.blk b3 25 [Value.slice none ([] : List Op).length 0], Res.row none ([] : List Op).length 0 35 4 (([] : List Op).map Op.c)]) w1 hw1; exact h9) (fun w1 hw1 => by intro l9 B9 r9 hY9 hB9 hc9 ho9; have hc8 : WOK _ _ [Res.blk q6 56 [Value.slice A n cap], r9] w1 := hc9; exact oper1_any l9 B9 r9 q6 A n cap bs w1 ho9 hY9 hB9 (Rd.ofRd hc8 hrd (by omega)) hcap hn hby) (fun x9 (y9 : Option Addr × Nat × List Op) (z9 : Nat) => [(4, Value.pointer (some ⟨z9, 0, none⟩)), (3, Value.pointer (some ⟨b3, 0, none⟩))]) (fun x9 (y9 : Option Addr × Nat × List Op) (z9 : Nat) => [Res.blk z9 35 x9.c, Res.blk b3 25 [Value.slice y9.1 y9.2.2.length y9.2.1], Res.row y9.1 y9.2.2.length y9.2.1 35 4 (y9.2.2.map Op.c)]) ?_ ?_ ?_
 ·rintro l9 pre x9 ⟨A9, c9, o9⟩ w9 hpre9 hp9
  refine zX (L' := [Res.blk b3 25 [Value.slice A9 o9.length c9], Res.row A9 o9.length c9 35 4 (o9.map Op.c)]) rfl ?_
  refine rn [10] ?_
  refine g_op (zI rfl fun b4 => ?_)
  refine rn [33,9] ?_
  exact g_asgx (b4) (by repeat (first | exact trivial | refine ⟨rfl, ?_⟩)) zB
 ·rintro l9 pre x9 ⟨A9, c9, o9⟩ z9 w9 hpre9 hp9
  replace hp9 : o9 = pre := hp9
  have hbl := hpre9.length_le
  have hbl2 := decL_len bs
  simp only [List.length_append, List.length_cons, List.length_nil] at hbl
  have hbl3 : o9.length ≤ 1000000 := by rw [hp9]; omega
  refine zX (L' := [Res.blk z9 35 x9.c, Res.blk b3 25 [Value.slice A9 o9.length c9], Res.row A9 o9.length c9 35 4 (o9.map Op.c)]) rfl ?_
  refine rn [14,10,5,45] ?_
  refine g_op (g_lit rfl rfl rfl rfl rfl fun b10 => ?_)
  refine zJ (b := b10) ((([x9] : List Op).map Op.c).flatten) rfl ?_
  refine g_op (zY (A := A9) (els := (o9).map Op.c) (news := (([x9] : List Op).map Op.c)) rfl rfl (InL.rdb (b := b10) rfl (by simp [Op.c]) rfl) (yG (c := Op.c) (by intro x; simp [Op.c, Value.oneCell']) _) (by first | omega | (simp; omega) | (simp_all; omega)) rfl fun A11 cap11 => ⟨_, inferInstance, ?_⟩)
  refine zF (A := A11) (((o9 ++ [x9])).map Op.c) (by first | rfl | exact List.map_append.symm | (simp; done)) ?_
  refine g_op (zP rfl rfl rfl rfl rfl rfl rfl ?_)
  refine rn [9,15] ?_
  refine yC (A := A11) ((o9 ++ [x9]) : List Op).length (by simp) ?_
  refine zJ (b := b3) [Value.slice A11 ((o9 ++ [x9]) : List Op).length cap11] (by simp [splice]) ?_
  exact g_round (fun w2 hw2 => ⟨(A11, cap11, (o9 ++ [x9] : List Op)), by show o9 ++ [x9] = pre ++ [x9]; rw [hp9], by have h9 := zB (L' := [Res.blk b3 25 [Value.slice A11 (o9 ++ [x9] : List Op).length cap11], Res.row A11 (o9 ++ [x9] : List Op).length cap11 35 4 ((o9 ++ [x9] : List Op).map Op.c)]) w2 hw2; exact h9⟩)
 rintro ⟨A9, c9, o9⟩ hp9 m9
 refine zX (L' := [Res.obj m9 (.deferred (some [])), Res.blk q6 56 [Value.slice A n cap], Res.blk b3 25 [Value.slice A9 o9.length c9], Res.row A9 o9.length c9 35 4 (o9.map Op.c)]) rfl ?_
 replace hp9 : o9 = (decL bs) := hp9
 refine rn [15,7,1,5,3,0,11] ?_
 subst hp9
 exact finM1 rfl (.tmp rfl) (fun w' hw' => ⟨(A9, c9), (by exact trivial), rfl, by have h9 := zB (L' := [Res.row ((A9, c9)).1 (decL bs).length ((A9, c9)).2 35 4 ((decL bs).map Op.c)]) w' hw'; exact h9⟩) _ (.inl rfl)
structure RX where
 r : Rc
 O : Option Addr
 oc : Nat
 pA : Option Addr
 pc : Nat
def RX.c (x : RX) : List Value := [.int .i64 x.r.k, .int .i64 x.r.code, .int .i64 x.r.i, .int .i64 x.r.blk, .int .i64 x.r.ep, .int .i64 x.r.dl, .slice x.O x.r.ag.length x.oc, .slice x.pA x.r.ps.length x.pc, .int .i64 x.r.vis]
def RX.rows (x : RX) : List Res := [.row x.O x.r.ag.length x.oc 55 3 (x.r.ag.map As.cs), .row x.pA x.r.ps.length x.pc 50 3 (x.r.ps.map Y.c)]
def stepA (t : Eg × List Rc) (y : Op) : Eg × List Rc := ((applyE t.1 y).1, t.2 ++ [(applyE t.1 y).2])
def runK (s : Eg) (l : List Op) (k : Nat) : Eg × List Rc := (l.take k).foldl stepA (s, [])
def runE (s : Eg) (l : List Op) : Eg × List Rc := l.foldl stepA (s, [])
theorem runK_succ {s : Eg} {l : List Op} {k : Nat} (h : k < l.length) : runK s l (k + 1) = stepA (runK s l k) l[k] := fold_succ _ _ h
theorem runK_end (s : Eg) (l : List Op) : runK s l l.length = runE s l := by unfold runK runE; rw [List.take_length]
theorem applyE_blk (s : Eg) (y : Op) : (applyE s y).1.blk ≤ s.blk + 1 := by
 unfold applyE
 split
 ·rw [tickE_fr]; exact Nat.le_refl _
 ·unfold actE
  repeat' split
  ·show (depE s y).1.blk ≤ _; rw [depE_fr]; exact Nat.le_succ _
  ·show (leaveE s 1 y.i).1.blk ≤ _; rw [leaveE_fr]; exact Nat.le_succ _
  ·show (leaveE s 0 y.i).1.blk ≤ _; rw [leaveE_fr]; exact Nat.le_succ _
  ·show (slashE s y.i).1.blk ≤ _; rw [slashE_fr]; exact Nat.le_succ _
  ·show (consE s y.i y.t).1.blk ≤ _; rw [consE_fr]; exact Nat.le_succ _
  ·show (partE s y.i y.a).1.blk ≤ _; rw [partE_fr]; exact Nat.le_succ _
  ·exact Nat.le_succ _
theorem runK_inv {s : Eg} {l : List Op} (hi : Inv s) (hl : ∀ y ∈ l, y.ok) (hb : s.blk + l.length < 1000000000) : ∀ k, k ≤ l.length → Inv (runK s l k).1 ∧ (runK s l k).1.blk ≤ s.blk + k ∧ (runK s l k).1.c = s.c ∧ (runK s l k).2.length = k
 | 0, _ => ⟨hi, Nat.le_refl _, rfl, rfl⟩
 | k + 1, h => by
  obtain ⟨h1, h2, h3, h4⟩ := runK_inv hi hl hb k (by omega)
  rw [runK_succ (by omega)]
  have ho := hl _ (List.getElem_mem (show k < l.length by omega))
  exact ⟨applyE_inv h1 (by omega) ⟨ho.a⟩, Nat.le_trans (applyE_blk _ _) (by omega), (applyE_c _ _).trans h3, by show ((runK s l k).2 ++ [_]).length = _; simp [h4]⟩
theorem catch_idle (p q : Value) (w : World) : Own2R (ι := Unit) Tryz.prog 124 [p, q] w [] (fun _ => True) (fun _ => .tuple #[]) (fun _ => []) (fun _ => []) := by
 refine callsDIn_of_wpSIn Tryz.func124 rfl trivial fun c₀ cs hu => ?_
 apply wpSIn_seq
 apply wpSIn_region
 simp [wpOpsSIn, go_sem, recoverD, hu, Exit.thenS]
 refine wpSIn_of_wpIn rfl ?_
 have hst : St ⟨[], w, 13, [], none⟩ [(5, .nilIface)] [] { tmps := #[p, q] ++ (Array.replicate 11 undef).setIfInBounds 3 Value.nilIface, defers := [] } w := by
  refine ⟨rfl, by simp, fun k v hk => ?_, WOK.start _ _⟩
  simp [Eg.look] at hk
  obtain ⟨rfl, rfl⟩ := hk
  simp
 refine (?_ : G ⟨[], w, 13, [], none⟩ [(5, .nilIface)] [] _) _ _ hst
 refine rn [14,1] ?_
 refine s_q (q_eqif ⟨#[], by kernel_rfl⟩ rfl) rfl ?_
 refine rn [0,19,10,3,9,15] ?_
 intro a w' hs
 cases c₀
 simp_all [bodyPostS, results]
 exact ⟨hs.defers, hs.wok⟩
theorem begin_rp (c : C) (w : World) (hc : chk c = 0) (hk : c.ok) : Own2 (ι := (EP × EG)) Tryz.prog 125 [c.v] w [] (fun x => x.2.Rep (newE c)) (fun x => .pointer (some ⟨x.1.eb, 0, none⟩)) (fun x => [Eng x.1 x.2 (newE c)]) (fun x => []) := by
 refine g_st Tryz.func125 15 (WOK.start (fps []) _) ?_
 refine rn [1] ?_
 refine g_op (g_box (c := C.c c) rfl rfl rfl fun b1 => ?_)
 refine rn [3,0,1,45] ?_
 refine g_op (zH [] rfl (fun w1 hw1 ho1 => by have h7 := new_ok c w1 hc hk; exact h7) rfl ?_)
 rintro ⟨p7, a7⟩ r7
 refine ii ?_
 simp only at r7
 refine rn [2,40,40,3,3,0,8,1,2,51] ?_
 refine yD 11 (b := false) rfl (rfl) ?_
 refine rn [0,20,12,7,1,2,3,0,11] ?_
 exact fin1 rfl (.tmp rfl) (fun w' hw' => ⟨(p7, a7), (by exact r7), rfl, zA w' hw'⟩) _ (.inl rfl)
theorem run1_any (ep : Value) (q : Nat) (A : Option Addr) (cap : Nat) (xs : List RX) (y : RX) (w : World) (hw : W0 [Res.blk q 58 [Value.slice A xs.length cap], Res.row A xs.length cap 47 9 (xs.map RX.c)] w) (hn : xs.length ≤ 1000000) : Own2 (ι := (Option Addr × Nat)) Tryz.prog 69 [ep, .agg y.c.toArray, .pointer (some ⟨q, 0, none⟩)] w [Res.blk q 58 [Value.slice A xs.length cap], Res.row A xs.length cap 47 9 (xs.map RX.c)] (fun x => True) (fun x => .bool true) (fun x => []) (fun x => [Res.blk q 58 [Value.slice x.1 (xs ++ [y]).length x.2], Res.row x.1 (xs ++ [y]).length x.2 47 9 ((xs ++ [y]).map RX.c)]) := by
 refine g_st Tryz.func69 10 hw ?_
 refine rn [1] ?_
 refine g_op (g_box (c := RX.c y) rfl rfl rfl fun b4 => ?_)
 refine rn [3,0,1,5,45] ?_
 refine g_op (g_lit rfl rfl rfl rfl rfl fun b8 => ?_)
 refine zJ (b := b8) ((([y] : List RX).map RX.c).flatten) rfl ?_
 refine g_op (zY (A := A) (els := (xs).map RX.c) (news := (([y] : List RX).map RX.c)) rfl rfl (InL.rdb (b := b8) rfl (by simp [RX.c]) rfl) (yG (c := RX.c) (by intro x; simp [RX.c, Value.oneCell']) _) (by first | omega | (simp; omega) | (simp_all; omega)) rfl fun A9 cap9 => ⟨_, inferInstance, ?_⟩)
 refine zF (A := A9) (((xs ++ [y])).map RX.c) (by first | rfl | exact List.map_append.symm | (simp; done)) ?_
 refine g_op (zP rfl rfl rfl rfl rfl rfl rfl ?_)
 refine rn [0,1,3,0,11] ?_
 refine yC (A := A9) (xs ++ [y]).length (by simp) ?_
 refine zJ (b := q) [Value.slice A9 (xs ++ [y]).length cap9] (by simp [splice]) ?_
 exact fin1 rfl (.tmp rfl) (fun w' hw' => ⟨(A9, cap9), (by exact trivial), rfl, zA w' hw'⟩) _ (.inl rfl)
structure PX where
 p : EP
 a : EG
 sn : SN
 A : Option Addr
 c : Nat
 xs : List RX
theorem perf_any (c : C) (lA : Option Addr) (ln lC : Nat) (l : List Op) (q : Nat) (w : World) (hw : W0 [Res.blk q 58 [Value.slice none 0 0]] w) (hc : chk c = 0) (hk : c.ok) (hrd : Rd w [Res.blk q 58 [Value.slice none 0 0]] lA ln 4 (l.map Op.c)) (hl : ∀ y ∈ l, y.ok) (hln : l.length ≤ 1000000) : Own2 (ι := PX) Tryz.prog 67 [c.v, .slice lA ln lC, .func (.func 69) #[] [Value.pointer (some ⟨q, 0, none⟩)].toArray] w [Res.blk q 58 [Value.slice none 0 0]] (fun x => x.a.Rep (runE (newE c) l).1 ∧ x.xs.map RX.r = (runE (newE c) l).2) (fun x => .tuple [.agg ([Value.int .i64 ((((runE (newE c) l).1).blk : Nat) : Int), .int .i64 ((runE (newE c) l).1).ep, .slice x.sn.vA ((runE (newE c) l).1).l.length x.sn.vc, .int .u64 ((runE (newE c) l).1).dep, .int .u64 ((runE (newE c) l).1).paid, .int .u64 ((runE (newE c) l).1).burn, .int .u64 (actS ((runE (newE c) l).1).l), .slice x.sn.pA ((runE (newE c) l).1).pend.length x.sn.pc, .slice x.sn.fA ((runE (newE c) l).1).q.f.length x.sn.fc, .slice x.sn.oA ((runE (newE c) l).1).q.v.length x.sn.oc, .slice x.sn.mA ((runE (newE c) l).1).mg.length x.sn.mc, .slice x.sn.rA ((runE (newE c) l).1).pt.length x.sn.rc, .int .i64 ((((runE (newE c) l).1).cur : Nat) : Int), .int .u64 ((runE (newE c) l).1).m.bal, .int .i64 ((((runE (newE c) l).1).bo.length : Nat) : Int)]).toArray, .int .i64 0].toArray) (fun x => [Eng x.p x.a (runE (newE c) l).1, Res.row x.sn.vA (((runE (newE c) l).1).l).length x.sn.vc 52 7 ((((runE (newE c) l).1).l).map V.c), Res.row x.sn.pA (((runE (newE c) l).1).pend).length x.sn.pc 3 1 ((((runE (newE c) l).1).pend).map (fun v : Int => [Value.int .i64 v])), Res.row x.sn.fA (((runE (newE c) l).1).q.f).length x.sn.fc 3 1 ((((runE (newE c) l).1).q.f).map (fun v : Int => [Value.int .i64 v])), Res.row x.sn.oA (((runE (newE c) l).1).q.v).length x.sn.oc 3 1 ((((runE (newE c) l).1).q.v).map (fun v : Int => [Value.int .i64 v])), Res.row x.sn.mA (((runE (newE c) l).1).mg).length x.sn.mc 106 2 ((((runE (newE c) l).1).mg).map PP.c), Res.row x.sn.rA (((runE (newE c) l).1).pt).length x.sn.rc 110 2 ((((runE (newE c) l).1).pt).map Rq.c), Res.row x.A (x.xs).length x.c 47 9 ((x.xs).map RX.c), Res.star ((x.xs).flatMap RX.rows)]) (fun x => [Res.blk q 58 [Value.slice x.A (x.xs).length x.c]]) := by
 refine g_startM Tryz.func67 rfl 30 rfl (by simp) (fps [Res.blk q 58 [Value.slice none 0 0]]) [Res.blk q 58 [Value.slice none 0 0]] hw _ rfl ?_
 have hm : ln = l.length := by have := hrd.old.len; simpa using this
 have hbl : (newE c).blk + l.length < 1000000000 := by show 0 + l.length < _; omega
 refine rn [1] ?_
 refine g_op (g_box rfl rfl rfl fun b3 => ?_)
 refine g_op (zI rfl fun b6 => ?_)
 refine g_op (zI rfl fun b7 => ?_)
 refine rn [0,1,52] ?_
 refine g_op (g_defer (fst := []) (cap := [Value.pointer (some ⟨b6, 0, none⟩), Value.pointer (some ⟨b7, 0, none⟩)]) rfl rfl ?_)
 refine rn [0,1,45] ?_
 refine g_op (zH [] rfl (fun w1 hw1 ho1 => by have h7 := begin_rp c w1 hc hk; exact h7) rfl ?_)
 rintro ⟨p13, a13⟩ r13
 refine ii ?_
 simp only at r13
 refine rn [3,0,8,1,2,47,2,0,14] ?_
 refine zJ (b := b7) [Value.int .i64 0] (by rfl) ?_
 refine zJ (b := b6) [Value.int .i64 0, .int .i64 0, .slice none 0 0, .int .u64 0, .int .u64 0, .int .u64 0, .int .u64 0, .slice none 0 0, .slice none 0 0, .slice none 0 0, .slice none 0 0, .slice none 0 0, .int .i64 0, .int .u64 0, .int .i64 0] (by rfl) ?_
 refine zJ (b := q) [Value.slice none ([] : List RX).length 0] (by rfl) ?_
 refine zW none 47 9 (([] : List RX).map RX.c) (by rfl) ?_
 refine g_nostar ?_
 refine zX (L' := [Res.star (([] : List RX).flatMap RX.rows), Res.row none ([] : List RX).length 0 47 9 (([] : List RX).map RX.c), Eng p13 a13 (runK (newE c) l 0).1, Res.blk b7 29 [Value.int .i64 0], Res.blk b6 42 [Value.int .i64 0, .int .i64 0, .slice none 0 0, .int .u64 0, .int .u64 0, .int .u64 0, .int .u64 0, .slice none 0 0, .slice none 0 0, .slice none 0 0, .slice none 0 0, .slice none 0 0, .int .i64 0, .int .u64 0, .int .i64 0], Res.blk b3 24 c.c, Res.blk q 58 [Value.slice none ([] : List RX).length 0]]) (by rfl) ?_
 refine g_lk [2, 6, 7, 8, 14, 15] (fun (x : Nat × EG × Option Addr × Nat × List RX) => [(16, .int .i64 ((x.1 : Nat) : Int))]) (fun (x : Nat × EG × Option Addr × Nat × List RX) => [Res.blk b6 42 [Value.int .i64 0, .int .i64 0, .slice none 0 0, .int .u64 0, .int .u64 0, .int .u64 0, .int .u64 0, .slice none 0 0, .slice none 0 0, .slice none 0 0, .slice none 0 0, .slice none 0 0, .int .i64 0, .int .u64 0, .int .i64 0], Res.blk b7 29 [Value.int .i64 0], Eng p13 x.2.1 (runK (newE c) l x.1).1, Res.blk q 58 [Value.slice x.2.2.1 (x.2.2.2.2).length x.2.2.2.1], Res.row x.2.2.1 (x.2.2.2.2).length x.2.2.2.1 47 9 ((x.2.2.2.2).map RX.c), Res.star ((x.2.2.2.2).flatMap RX.rows)]) (fun (x : Nat × EG × Option Addr × Nat × List RX) => x.1 ≤ ln ∧ EG.Rep x.2.1 (runK (newE c) l x.1).1 ∧ (x.2.2.2.2).map RX.r = (runK (newE c) l x.1).2) (fun (x : Nat × EG × Option Addr × Nat × List RX) => ln - x.1) (0, a13, none, 0, []) (by (try dsimp only); exact ⟨Nat.zero_le _, r13, rfl⟩) ?_
 rintro ⟨k, a9, A9, c9, xs⟩ ⟨le_k, hr9, hx9⟩
 replace le_k : k ≤ ln := le_k
 replace hr9 : EG.Rep a9 (runK (newE c) l k).1 := hr9
 replace hx9 : (xs).map RX.r = (runK (newE c) l k).2 := hx9
 refine zX (L' := [Res.blk b6 42 [Value.int .i64 0, .int .i64 0, .slice none 0 0, .int .u64 0, .int .u64 0, .int .u64 0, .int .u64 0, .slice none 0 0, .slice none 0 0, .slice none 0 0, .slice none 0 0, .slice none 0 0, .int .i64 0, .int .u64 0, .int .i64 0], Res.blk b7 29 [Value.int .i64 0], Eng p13 a9 (runK (newE c) l k).1, Res.blk q 58 [Value.slice A9 (xs).length c9], Res.row A9 (xs).length c9 47 9 ((xs).map RX.c), Res.star ((xs).flatMap RX.rows)]) rfl ?_
 refine g_val 16 (v' := .int .i64 ((k : Nat) : Int)) rfl rfl ?_
 obtain ⟨hi9, hb9, hc9, hl9⟩ := runK_inv (newE_inv hc hk) hl hbl k (by omega)
 have hxl : xs.length = k := by rw [← hl9, ← hx9]; simp
 have hb0 : (newE c).blk = 0 := rfl
 refine rn [1,46,0,8] ?_
 refine zC rfl (fun h1 => ?_) (fun h1 => ?_)
 ·have lt_k : k < ln := by have h9 := of_decide_eq_true h1; omega
  have hkl : k < l.length := by omega
  obtain ⟨yk, hyk⟩ : ∃ z, z = l[k] := ⟨_, rfl⟩
  have hyo : yk.ok := hyk ▸ hl _ (List.getElem_mem hkl)
  have hk9 : (runK (newE c) l (k + 1)) = stepA (runK (newE c) l k) yk := by rw [hyk]; exact runK_succ hkl
  refine rn [12,7,8,14,1] ?_
  refine s_q (zR (i := k) rfl rfl rfl hrd.rdb (by first | exact lt_k | omega)) rfl ?_
  refine s_q (zT (i := k) rfl hrd.rdb (zS (by first | exact (by first | exact lt_k | omega) | omega | (simp_all; done) | (simp_all; omega))) rfl) rfl ?_
  refine g_op (zI rfl fun b10 => ?_)
  refine rn [33] ?_
  refine zJ (b := b10) (Op.c yk) (by rw [hyk]) ?_
  refine rn [0,1,2,2,2,45] ?_
  refine g_op (zH _ rfl (fun w1 hw1 ho1 => by have h7 := apply_ok p13 a9 (runK (newE c) l k).1 yk w1 ho1 hi9 hr9 hyo (by omega); exact h7) rfl ?_)
  rintro x24 r24
  refine ii ?_
  refine g_op (g_ownV [Res.blk q 58 [Value.slice A9 xs.length c9], Res.row A9 xs.length c9 47 9 (xs.map RX.c)] rfl rfl (fun w1 hw1 ho1 => by have h7 := run1_any (.pointer (some ⟨p13.eb, 0, none⟩)) q A9 c9 xs (⟨(applyE (runK (newE c) l k).1 yk).2, x24.O, x24.oc, x24.pA, x24.pc⟩ : RX) w1 ho1 (by omega); exact h7) rfl ?_)
  rintro ⟨A25, cap25⟩ _
  refine ii ?_
  refine rn [48,0,20,12,15,7,10,43,2,9] ?_
  refine g_starApp (xs.flatMap RX.rows) [Res.row x24.O (applyE (runK (newE c) l k).1 yk).2.ag.length x24.oc 55 3 ((applyE (runK (newE c) l k).1 yk).2.ag.map As.cs), Res.row x24.pA (applyE (runK (newE c) l k).1 yk).2.ps.length x24.pc 50 3 ((applyE (runK (newE c) l k).1 yk).2.ps.map Y.c)] ?_
  refine zX (L' := [Res.star ((xs ++ [(⟨(applyE (runK (newE c) l k).1 yk).2, x24.O, x24.oc, x24.pA, x24.pc⟩ : RX)]).flatMap RX.rows), Res.blk b10 35 yk.c, Res.blk b6 42 [Value.int .i64 0, .int .i64 0, .slice none 0 0, .int .u64 0, .int .u64 0, .int .u64 0, .int .u64 0, .slice none 0 0, .slice none 0 0, .slice none 0 0, .slice none 0 0, .slice none 0 0, .int .i64 0, .int .u64 0, .int .i64 0], Res.blk b7 29 [Value.int .i64 0], Eng p13 x24.a (runK (newE c) l (k + 1)).1, Res.blk q 58 [Value.slice A25 (xs ++ [(⟨(applyE (runK (newE c) l k).1 yk).2, x24.O, x24.oc, x24.pA, x24.pc⟩ : RX)]).length cap25], Res.row A25 (xs ++ [(⟨(applyE (runK (newE c) l k).1 yk).2, x24.O, x24.oc, x24.pA, x24.pc⟩ : RX)]).length cap25 47 9 ((xs ++ [(⟨(applyE (runK (newE c) l k).1 yk).2, x24.O, x24.oc, x24.pA, x24.pc⟩ : RX)]).map RX.c)]) (by rw [hk9, List.flatMap_append, List.flatMap_cons, List.flatMap_nil, List.append_nil]; rfl) ?_
  exact g_ag ((k + 1), x24.a, A25, cap25, (xs ++ [(⟨(applyE (runK (newE c) l k).1 yk).2, x24.O, x24.oc, x24.pA, x24.pc⟩ : RX)])) (by (try dsimp only); exact ⟨(by first | exact lt_k | omega), (by rw [hk9]; exact r24), (by rw [hk9, List.map_append, hx9]; rfl)⟩)
 ·have eq_k : k = ln := by have h9 := of_decide_eq_false h1; omega
  subst eq_k
  obtain ⟨hiE, _, _, _⟩ := runK_inv (newE_inv hc hk) hl hbl k (by omega)
  have hE : (runK (newE c) l k) = runE (newE c) l := by rw [hm]; exact runK_end _ _
  rw [hE] at hr9 hx9 hiE
  rw [hE]
  refine rn [16] ?_
  refine zE (zE (zQ ?_))
  refine rn [7,1,2] ?_
  refine g_op (zH _ rfl (fun w1 hw1 ho1 => by have h7 := snap_ok p13 a9 (runE (newE c) l).1 w1 ho1 hiE hr9; exact h7) rfl ?_)
  rintro sn29 _
  refine ii ?_
  refine rn [33] ?_
  refine g_op (zP rfl rfl rfl rfl rfl rfl rfl ?_)
  refine rn [0,11] ?_
  refine finR [] (fun w1 hw1 ho1 => catch_idle _ _ w1) ?_ _ (.inl rfl)
  rintro ⟨⟩ _
  refine ⟨_, _, inferInstance, inferInstance, ?_⟩
  exact finM2 rfl (.cellw rfl rfl) (.cell1 rfl rfl) (fun w' hw' => ⟨(⟨p13, a9, sn29, A9, c9, xs⟩ : PX), ⟨hr9, hx9⟩, rfl, by have h9 := zB (L' := [Eng p13 a9 (runE (newE c) l).1, Res.row sn29.vA (((runE (newE c) l).1).l).length sn29.vc 52 7 ((((runE (newE c) l).1).l).map V.c), Res.row sn29.pA (((runE (newE c) l).1).pend).length sn29.pc 3 1 ((((runE (newE c) l).1).pend).map (fun v : Int => [Value.int .i64 v])), Res.row sn29.fA (((runE (newE c) l).1).q.f).length sn29.fc 3 1 ((((runE (newE c) l).1).q.f).map (fun v : Int => [Value.int .i64 v])), Res.row sn29.oA (((runE (newE c) l).1).q.v).length sn29.oc 3 1 ((((runE (newE c) l).1).q.v).map (fun v : Int => [Value.int .i64 v])), Res.row sn29.mA (((runE (newE c) l).1).mg).length sn29.mc 106 2 ((((runE (newE c) l).1).mg).map PP.c), Res.row sn29.rA (((runE (newE c) l).1).pt).length sn29.rc 110 2 ((((runE (newE c) l).1).pt).map Rq.c), Res.row A9 (xs).length c9 47 9 ((xs).map RX.c), Res.star ((xs).flatMap RX.rows), Res.blk q 58 [Value.slice A9 (xs).length c9]]) w' hw'; exact h9⟩)
theorem rdN_lt8 {bs : List Nat} (hb : ∀ b ∈ bs, b < 256) {k : Nat} (hk : k ≤ 8) : rdN (bs.take k) < 18446744073709551616 := by
 rcases Nat.le_total k bs.length with h | h
 ·exact Nat.lt_of_lt_of_le (rdN_lt hb k h) (Nat.pow_le_pow_right (by decide) hk)
 ·have h1 := rdN_lt hb bs.length (Nat.le_refl _)
  rw [List.take_of_length_le h]
  rw [List.take_length] at h1
  exact Nat.lt_of_lt_of_le h1 (Nat.le_trans (Nat.pow_le_pow_right (n := 256) (j := 8) (by decide) (by omega)) (by decide))
theorem wrap_i64_rng (z : Int) : -9223372036854775808 ≤ IntKind.i64.wrap z ∧ IntKind.i64.wrap z ≤ 9223372036854775807 := by rw [IntKind.wrap_i64]; omega
theorem setO_ok {j : Nat} {y : Op} {v : Int} (hy : y.ok) (hv : 0 ≤ v ∧ v ≤ 18446744073709551615) : (setO j y v).ok := by
 unfold setO
 split
 ·exact ⟨hy.k, hy.i, hy.t, hv⟩
 ·exact ⟨hy.k, wrap_i64_rng _, hy.t, hy.a⟩
 ·exact ⟨hy.k, hy.i, wrap_i64_rng _, hy.a⟩
theorem decK_ok : ∀ (js : List Nat) (t : Op × List Nat), t.1.ok → (∀ b ∈ t.2, b < 256) → (js.foldl decS t).1.ok
 | [], _, h, _ => h
 | j :: js, t, h, hb => decK_ok js (decS t j) (setO_ok h ⟨Int.natCast_nonneg _, by have := rdN_lt8 hb (szO_le j).2; omega⟩) fun b hbm => hb b (List.mem_of_mem_drop hbm)
theorem zO_ok : zO.ok := by constructor <;> simp [zO]
theorem decP_ok {bs : List Nat} (hb : ∀ b ∈ bs, b < 256) (p : Nat) : (decP bs p).1.ok := by
 unfold decP
 split
 ·rename_i hp
  split
  ·exact zO_ok
  ·split
   ·exact zO_ok
   ·have h1 := hb _ (List.getElem_mem hp)
    refine decK_ok _ _ ⟨by simp only; omega, by simp, by simp, by simp⟩ fun b hbm => hb b (List.mem_of_mem_drop hbm)
 ·exact zO_ok
theorem decF_ok {bs : List Nat} (hb : ∀ b ∈ bs, b < 256) : ∀ (k p : Nat), ∀ y ∈ decF bs k p, y.ok
 | 0, _, _, h => by simp [decF] at h
 | k + 1, p, y, h => by
  unfold decF at h
  split at h
  ·rcases List.mem_cons.1 h with rfl | h
   ·exact decP_ok hb p
   ·exact decF_ok hb k _ y h
  ·simp at h
theorem run_any9 (c : C) (A : Option Addr) (n cap : Nat) (bs : List Nat) (w : World) (hc : chk c = 0) (hk : c.ok) (hrd : Rd w [] A n 1 (bs.map (fun v : Nat => [Value.int .u8 ((v : Nat) : Int)]))) (hcap : n ≤ cap) (hn : n ≤ 1000000) (hby : ∀ b ∈ bs, b < 256) : Own2 (ι := PX) Tryz.prog 16 [c.v, .slice A n cap] w [] (fun x => x.a.Rep (runE (newE c) (decL bs)).1 ∧ x.xs.map RX.r = (runE (newE c) (decL bs)).2) (fun x => .tuple [.agg (([Value.slice x.A (x.xs).length x.c] ++ [Value.int .i64 ((((runE (newE c) (decL bs)).1).blk : Nat) : Int), .int .i64 ((runE (newE c) (decL bs)).1).ep, .slice x.sn.vA ((runE (newE c) (decL bs)).1).l.length x.sn.vc, .int .u64 ((runE (newE c) (decL bs)).1).dep, .int .u64 ((runE (newE c) (decL bs)).1).paid, .int .u64 ((runE (newE c) (decL bs)).1).burn, .int .u64 (actS ((runE (newE c) (decL bs)).1).l), .slice x.sn.pA ((runE (newE c) (decL bs)).1).pend.length x.sn.pc, .slice x.sn.fA ((runE (newE c) (decL bs)).1).q.f.length x.sn.fc, .slice x.sn.oA ((runE (newE c) (decL bs)).1).q.v.length x.sn.oc, .slice x.sn.mA ((runE (newE c) (decL bs)).1).mg.length x.sn.mc, .slice x.sn.rA ((runE (newE c) (decL bs)).1).pt.length x.sn.rc, .int .i64 ((((runE (newE c) (decL bs)).1).cur : Nat) : Int), .int .u64 ((runE (newE c) (decL bs)).1).m.bal, .int .i64 ((((runE (newE c) (decL bs)).1).bo.length : Nat) : Int)])).toArray, .int .i64 0].toArray) (fun x => [Eng x.p x.a (runE (newE c) (decL bs)).1, Res.row x.sn.vA (((runE (newE c) (decL bs)).1).l).length x.sn.vc 52 7 ((((runE (newE c) (decL bs)).1).l).map V.c), Res.row x.sn.pA (((runE (newE c) (decL bs)).1).pend).length x.sn.pc 3 1 ((((runE (newE c) (decL bs)).1).pend).map (fun v : Int => [Value.int .i64 v])), Res.row x.sn.fA (((runE (newE c) (decL bs)).1).q.f).length x.sn.fc 3 1 ((((runE (newE c) (decL bs)).1).q.f).map (fun v : Int => [Value.int .i64 v])), Res.row x.sn.oA (((runE (newE c) (decL bs)).1).q.v).length x.sn.oc 3 1 ((((runE (newE c) (decL bs)).1).q.v).map (fun v : Int => [Value.int .i64 v])), Res.row x.sn.mA (((runE (newE c) (decL bs)).1).mg).length x.sn.mc 106 2 ((((runE (newE c) (decL bs)).1).mg).map PP.c), Res.row x.sn.rA (((runE (newE c) (decL bs)).1).pt).length x.sn.rc 110 2 ((((runE (newE c) (decL bs)).1).pt).map Rq.c), Res.row x.A (x.xs).length x.c 47 9 ((x.xs).map RX.c), Res.star ((x.xs).flatMap RX.rows)]) (fun x => []) := by
 refine g_st Tryz.func16 21 (WOK.start (fps []) _) ?_
 have hm : n = bs.length := by have := hrd.old.len; simpa using this
 have hdl := decL_len bs
 refine rn [1] ?_
 refine g_op (g_box (c := C.c c) rfl rfl rfl fun b2 => ?_)
 refine g_op (zI rfl fun b4 => ?_)
 refine rn [3,0,1] ?_
 refine g_op (zI rfl fun b6 => ?_)
 refine zJ (b := b6) [Value.slice none 0 0] (by rfl) ?_
 refine rn [0,8] ?_
 refine dregL (L0 := [Res.blk b2 24 c.c]) [9] mixed rfl zB ?_
 refine rn [23,0,45,23,1,2,23,3,52] ?_
 refine yB [2, 8] (by kernel_rfl) (by simp) zB ⟨dpick rfl (zH [] rfl (fun w1 hw1 ho1 => by have h7 := sdec_any A (n) (cap) bs w1 (Rd.ofRd hw1 hrd (by omega)) hcap (by omega) hby; exact h7) rfl ?_), dpick rfl (zI rfl fun b7 => ?_), trivial⟩
 ·rintro ⟨A12, cap12⟩ _
  refine ii ?_
  refine yB [4, 8] (by kernel_rfl) (by simp) zB ⟨dpick rfl (zH _ rfl (fun w1 hw1 ho1 => by have h7 := perf_any c A12 ((decL bs).length) (cap12) (decL bs) b6 w1 ho1 hc hk (Rd.ofRow (A := A12) hw1) (decF_ok hby _ _) (by omega); exact h7) rfl ?_), dpick rfl (zI rfl fun b7 => ?_), trivial⟩
  ·rintro ⟨p9, a9, sn9, A9, c9, xs⟩ ⟨hr9, hx9⟩
   refine ii ?_
   simp only at hr9 hx9
   refine rn [23,5,2,23,6,40,24,7,40] ?_
   refine dop 8 rfl (zI rfl fun b7 => ?_)
   refine dop 9 rfl (zL rfl rfl rfl rfl rfl ?_)
   refine rn [24,10,3,28,7,1,5,45] ?_
   refine s_q (yH (c := ([Value.slice A9 (xs).length c9] ++ [Value.int .i64 ((((runE (newE c) (decL bs)).1).blk : Nat) : Int), .int .i64 ((runE (newE c) (decL bs)).1).ep, .slice sn9.vA ((runE (newE c) (decL bs)).1).l.length sn9.vc, .int .u64 ((runE (newE c) (decL bs)).1).dep, .int .u64 ((runE (newE c) (decL bs)).1).paid, .int .u64 ((runE (newE c) (decL bs)).1).burn, .int .u64 (actS ((runE (newE c) (decL bs)).1).l), .slice sn9.pA ((runE (newE c) (decL bs)).1).pend.length sn9.pc, .slice sn9.fA ((runE (newE c) (decL bs)).1).q.f.length sn9.fc, .slice sn9.oA ((runE (newE c) (decL bs)).1).q.v.length sn9.oc, .slice sn9.mA ((runE (newE c) (decL bs)).1).mg.length sn9.mc, .slice sn9.rA ((runE (newE c) (decL bs)).1).pt.length sn9.rc, .int .i64 ((((runE (newE c) (decL bs)).1).cur : Nat) : Int), .int .u64 ((runE (newE c) (decL bs)).1).m.bal, .int .i64 ((((runE (newE c) (decL bs)).1).bo.length : Nat) : Int)])) rfl (by kernel_rfl)) rfl ?_
   refine rn [2,33,3,0,11] ?_
   exact fin2 rfl (.cellw rfl rfl) (.tmp rfl) (fun w' hw' => ⟨(⟨p9, a9, sn9, A9, c9, xs⟩ : PX), (by first | exact ⟨hr9, hx9⟩ | (dsimp only; exact ⟨hr9, hx9⟩)), rfl, zA w' hw'⟩) _ (.inl rfl)
  ·refine dop 4 rfl (zH _ rfl (fun w1 hw1 ho1 => by have h7 := perf_any c A12 ((decL bs).length) (cap12) (decL bs) b6 w1 ho1 hc hk (Rd.ofRow (A := A12) hw1) (decF_ok hby _ _) (by omega); exact h7) rfl ?_)
   rintro ⟨p9, a9, sn9, A9, c9, xs⟩ ⟨hr9, hx9⟩
   refine ii ?_
   simp only at hr9 hx9
   refine rn [23,5,2,23,6,40,24,7,40] ?_
   refine dop 9 rfl (zL rfl rfl rfl rfl rfl ?_)
   refine rn [24,10,3,28,7,1,5,45] ?_
   refine s_q (yH (c := ([Value.slice A9 (xs).length c9] ++ [Value.int .i64 ((((runE (newE c) (decL bs)).1).blk : Nat) : Int), .int .i64 ((runE (newE c) (decL bs)).1).ep, .slice sn9.vA ((runE (newE c) (decL bs)).1).l.length sn9.vc, .int .u64 ((runE (newE c) (decL bs)).1).dep, .int .u64 ((runE (newE c) (decL bs)).1).paid, .int .u64 ((runE (newE c) (decL bs)).1).burn, .int .u64 (actS ((runE (newE c) (decL bs)).1).l), .slice sn9.pA ((runE (newE c) (decL bs)).1).pend.length sn9.pc, .slice sn9.fA ((runE (newE c) (decL bs)).1).q.f.length sn9.fc, .slice sn9.oA ((runE (newE c) (decL bs)).1).q.v.length sn9.oc, .slice sn9.mA ((runE (newE c) (decL bs)).1).mg.length sn9.mc, .slice sn9.rA ((runE (newE c) (decL bs)).1).pt.length sn9.rc, .int .i64 ((((runE (newE c) (decL bs)).1).cur : Nat) : Int), .int .u64 ((runE (newE c) (decL bs)).1).m.bal, .int .i64 ((((runE (newE c) (decL bs)).1).bo.length : Nat) : Int)])) rfl (by kernel_rfl)) rfl ?_
   refine rn [2,33,3,0,11] ?_
   exact fin2 rfl (.cellw rfl rfl) (.tmp rfl) (fun w' hw' => ⟨(⟨p9, a9, sn9, A9, c9, xs⟩ : PX), (by first | exact ⟨hr9, hx9⟩ | (dsimp only; exact ⟨hr9, hx9⟩)), rfl, zA w' hw'⟩) _ (.inl rfl)
 ·refine dop 2 rfl (zH [] rfl (fun w1 hw1 ho1 => by have h7 := sdec_any A (n) (cap) bs w1 (Rd.ofRd hw1 hrd (by omega)) hcap (by omega) hby; exact h7) rfl ?_)
  rintro ⟨A12, cap12⟩ _
  refine ii ?_
  refine dop 4 rfl (zH _ rfl (fun w1 hw1 ho1 => by have h7 := perf_any c A12 ((decL bs).length) (cap12) (decL bs) b6 w1 ho1 hc hk (Rd.ofRow (A := A12) hw1) (decF_ok hby _ _) (by omega); exact h7) rfl ?_)
  rintro ⟨p9, a9, sn9, A9, c9, xs⟩ ⟨hr9, hx9⟩
  refine ii ?_
  simp only at hr9 hx9
  refine rn [23,5,2,23,6,40,24,7,40] ?_
  refine dop 9 rfl (zL rfl rfl rfl rfl rfl ?_)
  refine rn [24,10,3,28,7,1,5,45] ?_
  refine s_q (yH (c := ([Value.slice A9 (xs).length c9] ++ [Value.int .i64 ((((runE (newE c) (decL bs)).1).blk : Nat) : Int), .int .i64 ((runE (newE c) (decL bs)).1).ep, .slice sn9.vA ((runE (newE c) (decL bs)).1).l.length sn9.vc, .int .u64 ((runE (newE c) (decL bs)).1).dep, .int .u64 ((runE (newE c) (decL bs)).1).paid, .int .u64 ((runE (newE c) (decL bs)).1).burn, .int .u64 (actS ((runE (newE c) (decL bs)).1).l), .slice sn9.pA ((runE (newE c) (decL bs)).1).pend.length sn9.pc, .slice sn9.fA ((runE (newE c) (decL bs)).1).q.f.length sn9.fc, .slice sn9.oA ((runE (newE c) (decL bs)).1).q.v.length sn9.oc, .slice sn9.mA ((runE (newE c) (decL bs)).1).mg.length sn9.mc, .slice sn9.rA ((runE (newE c) (decL bs)).1).pt.length sn9.rc, .int .i64 ((((runE (newE c) (decL bs)).1).cur : Nat) : Int), .int .u64 ((runE (newE c) (decL bs)).1).m.bal, .int .i64 ((((runE (newE c) (decL bs)).1).bo.length : Nat) : Int)])) rfl (by kernel_rfl)) rfl ?_
  refine rn [2,33,3,0,11] ?_
  exact fin2 rfl (.cellw rfl rfl) (.tmp rfl) (fun w' hw' => ⟨(⟨p9, a9, sn9, A9, c9, xs⟩ : PX), (by first | exact ⟨hr9, hx9⟩ | (dsimp only; exact ⟨hr9, hx9⟩)), rfl, zA w' hw'⟩) _ (.inl rfl)
def c1R : C := { dflt with elen := 1 }
def opsR : List Op := ([⟨1, 0, 0, 20⟩, ⟨7, 0, 0, 0⟩, ⟨2, 0, 0, 0⟩] ++ List.replicate 4 ⟨7, 0, 0, 0⟩ : List Op)
def bsR : List Nat := opsR.flatMap wrB
theorem opsR_ok : ∀ y ∈ opsR, y.ok ∧ okE y = true := by
 intro y hy
 have h : y = ⟨1, 0, 0, 20⟩ ∨ y = ⟨7, 0, 0, 0⟩ ∨ y = ⟨2, 0, 0, 0⟩ := by
  simp [opsR] at hy
  rcases hy with h | h | h | h
  ·exact .inl h
  ·exact .inr (.inl h)
  ·exact .inr (.inr h)
  ·exact .inr (.inl h)
 rcases h with rfl | rfl | rfl
 ·exact ⟨by constructor <;> simp, by decide +kernel⟩
 ·exact ⟨by constructor <;> simp, by decide +kernel⟩
 ·exact ⟨by constructor <;> simp, by decide +kernel⟩
theorem bsR_by : ∀ b ∈ bsR, b < 256 := fun b hb => by
 obtain ⟨y, _, hb⟩ := List.mem_flatMap.1 hb
 exact wrB_by b hb
theorem c1R_chk : chk c1R = 0 := by decide +kernel
theorem c1R_ok : c1R.ok := by constructor <;> simp [c1R, dflt]
theorem runR : (runE (newE c1R) (decL bsR)).1.paid = 20 ∧ (runE (newE c1R) (decL bsR)).1.ep = 5 ∧ (runE (newE c1R) (decL bsR)).2.length = 7 := by decide +kernel
theorem runs_any  (w : World)  : Pur Tryz.prog 9 [] w (.bool true) := by
 refine g_st Tryz.func9 47 (WOK.start [] _) ?_
 refine rn [1,3,0,1] ?_
 refine g_op (zG rfl (fun w hw => dflt_any w) rfl ?_)
 refine g_op (zI rfl fun b1 => ?_)
 refine rn [33,0,1,4] ?_
 refine g_op (zP rfl rfl rfl rfl rfl rfl rfl ?_)
 refine zJ (b := b1) (C.c c1R) (by rfl) ?_
 refine rn [0,1,49,49,49] ?_
 refine g_op (g_lit rfl rfl rfl rfl rfl fun b12 => ?_)
 refine zJ (b := b12) ((([(Op.mk 1 0 0 20), (Op.mk 7 0 0 0), (Op.mk 2 0 0 0)] : List Op).map Op.c).flatten) rfl ?_
 refine g_op (zH [] rfl (fun w1 hw1 ho1 => by have h7 := ticks_any 4 w1 (by omega); exact h7) rfl ?_)
 rintro ⟨A13, cap13⟩ _
 refine ii ?_
 refine g_blkRow (b := b12) 4 3 (([(Op.mk 1 0 0 20), (Op.mk 7 0 0 0), (Op.mk 2 0 0 0)] : List Op).map Op.c) (zM (c := Op.c) (fun _ => rfl) _) rfl rfl (by decide) ?_
 refine g_op (zY (A := (some ⟨b12, 0, none⟩)) (els := (([(Op.mk 1 0 0 20), (Op.mk 7 0 0 0), (Op.mk 2 0 0 0)] : List Op)).map Op.c) (news := (((List.replicate 4 (Op.mk 7 0 0 0))).map Op.c)) rfl rfl (InRow.rdb (A := A13) (els := ((List.replicate 4 (Op.mk 7 0 0 0))).map Op.c) (by first | rfl | assumption | (simp; done) | (simp_all; done) | (simp; omega) | (simp_all; omega)) (zM (c := Op.c) (fun _ => rfl) _)) (yG (c := Op.c) (by intro x; simp [Op.c, Value.oneCell']) _) (by first | omega | (simp; done)) rfl fun A14 cap14 => ⟨_, inferInstance, ?_⟩)
 refine zF (A := A14) (((([(Op.mk 1 0 0 20), (Op.mk 7 0 0 0), (Op.mk 2 0 0 0)] : List Op) ++ (List.replicate 4 (Op.mk 7 0 0 0)))).map Op.c) (by first | rfl | exact List.map_append.symm | (simp; done)) ?_
 refine zF (A := A14) (opsR.map Op.c) (by rfl) ?_
 refine yC (A := A14) opsR.length (by rfl) ?_
 refine g_val 14 (v' := .slice A14 opsR.length cap14) rfl (by rfl) ?_
 refine g_op (zH [] rfl (fun w1 hw1 ho1 => by have h7 := senc_any A14 (opsR.length) (cap14) opsR w1 (Rd.ofRow (A := A14) hw1) (by decide) opsR_ok; exact h7) rfl ?_)
 rintro ⟨A15, cap15⟩ _
 refine ii ?_
 refine zF (A := A15) (bsR.map (fun v : Nat => [Value.int .u8 ((v : Nat) : Int)])) (by rfl) ?_
 refine yC (A := A15) bsR.length (by rfl) ?_
 refine g_val 15 (v' := .tuple [.slice A15 bsR.length cap15, .bool true].toArray) rfl (by rfl) ?_
 have hbl : bsR.length ≤ 1000 := by decide +kernel
 refine rn [2,40,40,3,3,0,1,45,2] ?_
 refine g_op (zH [] rfl (fun w1 hw1 ho1 => by have h7 := run_any9 c1R A15 (bsR.length) (cap15) bsR w1 c1R_chk c1R_ok (Rd.ofRow (A := A15) hw1) (row_le (A := A15) hw1) (by omega) bsR_by; exact h7) rfl ?_)
 rintro ⟨p21, a21, sn21, A21, c21, xs⟩ ⟨hr9, hx9⟩
 refine ii ?_
 simp only at hr9 hx9
 have hxl : xs.length = 7 := by rw [← runR.2.2, ← hx9]; simp
 refine rn [2,40,40] ?_
 refine g_op (zI rfl fun b4 => ?_)
 refine rn [33,3,0,1,2,2,22,2,22,44] ?_
 refine yD 27 (b := true) rfl (rfl) ?_
 refine rn [41,2,22,4,22,4,22,5,22,44] ?_
 refine yD 33 (b := true) rfl (by rw [runR.1]; rfl) ?_
 refine rn [41,2,22,4,22,4,22,5,22,44] ?_
 refine yD 39 (b := true) rfl (by rw [runR.2.1]; rfl) ?_
 refine rn [41,2,22,4,22,5,22,47,22,44] ?_
 refine yD 45 (b := true) rfl (by rw [hxl]; rfl) ?_
 refine rn [41,3,0,11] ?_
 exact fin1 rfl (.tmp rfl) (fun w' hw' => ⟨by rfl, hw'.upd⟩) _ (.inl rfl)
def fitB (c : C) (n : Nat) : Bool := decide (chk c = 0 ∧ c.capa ≤ 100 ∧ c.vis ≤ 200 ∧ c.pays ≤ 200 ∧ c.merg ≤ 200 ∧ c.qsize ≤ 200 ∧ n ≤ 400)
theorem fit_no {c : C} {n : Nat} (h : ¬ (chk c = 0 ∧ c.capa ≤ 100 ∧ c.vis ≤ 200 ∧ c.pays ≤ 200 ∧ c.merg ≤ 200 ∧ c.qsize ≤ 200 ∧ n ≤ 400)) : (if fitB c n = true then (1 : Int) else 0) = 0 := by
 unfold fitB; rw [decide_eq_false h]; rfl
theorem fits_any (c : C) (A : Option Addr) (n cap : Nat) (w : World)  : Pur Tryz.prog 8 [c.v, .slice A n cap] w (.int .i64 (if fitB c n = true then 1 else 0)) := by
 refine g_st Tryz.func8 38 (WOK.start [] _) ?_
 refine rn [1] ?_
 refine g_op (g_box rfl rfl rfl fun b2 => ?_)
 refine rn [3,0,8,1,45] ?_
 refine g_op (zG rfl (fun w hw => chk_any _ w) rfl ?_)
 refine rn [51,2] ?_
 refine zV 8 rfl (fun h1 => ?_) (fun h1 => ?_)
 ·have h0 : (if fitB c n = true then (1 : Int) else 0) = 0 := fit_no (fun hc => by have h9 := h1; simp at h9; exact h9 hc.1)
  refine rn [21,21,21,41,2,21,21,21,41,2,21,21,21,41,2,21,21,21,41,2,21,21,21,41,2,21,21,21,41,0,19,1,3,0,11,13] ?_
  exact fin1 rfl (.tmp rfl) (fun w' hw' => ⟨by first | rw [h0] | rw [h1_], hw'.upd⟩) _ (.inl rfl)
 ·have f0 := h1
  refine rn [22,4,22,5,22,55,42,2] ?_
  refine zV 13 rfl (fun h2 => ?_) (fun h2 => ?_)
  ·have h0 : (if fitB c n = true then (1 : Int) else 0) = 0 := fit_no (fun hc => by have h9 := h2; simp at h9; have h8 := hc.2.1; omega)
   refine rn [21,21,21,41,2,21,21,21,41,2,21,21,21,41,2,21,21,21,41,2,21,21,21,41,0,19,1,3,0,11,13] ?_
   exact fin1 rfl (.tmp rfl) (fun w' hw' => ⟨by first | rw [h0] | rw [h1_], hw'.upd⟩) _ (.inl rfl)
  ·have f1 := h2
   refine rn [22,4,22,5,22,55,42,2] ?_
   refine zV 18 rfl (fun h3 => ?_) (fun h3 => ?_)
   ·have h0 : (if fitB c n = true then (1 : Int) else 0) = 0 := fit_no (fun hc => by have h9 := h3; simp at h9; have h8 := hc.2.2.1; omega)
    refine rn [21,21,21,41,2,21,21,21,41,2,21,21,21,41,2,21,21,21,41,0,19,1,3,0,11,13] ?_
    exact fin1 rfl (.tmp rfl) (fun w' hw' => ⟨by first | rw [h0] | rw [h1_], hw'.upd⟩) _ (.inl rfl)
   ·have f2 := h3
    refine rn [22,4,22,5,22,55,42,2] ?_
    refine zV 23 rfl (fun h4 => ?_) (fun h4 => ?_)
    ·have h0 : (if fitB c n = true then (1 : Int) else 0) = 0 := fit_no (fun hc => by have h9 := h4; simp at h9; have h8 := hc.2.2.2.1; omega)
     refine rn [21,21,21,41,2,21,21,21,41,2,21,21,21,41,0,19,1,3,0,11,13] ?_
     exact fin1 rfl (.tmp rfl) (fun w' hw' => ⟨by first | rw [h0] | rw [h1_], hw'.upd⟩) _ (.inl rfl)
    ·have f3 := h4
     refine rn [22,4,22,5,22,55,42,2] ?_
     refine zV 28 rfl (fun h5 => ?_) (fun h5 => ?_)
     ·have h0 : (if fitB c n = true then (1 : Int) else 0) = 0 := fit_no (fun hc => by have h9 := h5; simp at h9; have h8 := hc.2.2.2.2.1; omega)
      refine rn [21,21,21,41,2,21,21,21,41,0,19,1,3,0,11,13] ?_
      exact fin1 rfl (.tmp rfl) (fun w' hw' => ⟨by first | rw [h0] | rw [h1_], hw'.upd⟩) _ (.inl rfl)
     ·have f4 := h5
      refine rn [22,4,22,5,22,55,42,2] ?_
      refine zV 33 rfl (fun h6 => ?_) (fun h6 => ?_)
      ·have h0 : (if fitB c n = true then (1 : Int) else 0) = 0 := fit_no (fun hc => by have h9 := h6; simp at h9; have h8 := hc.2.2.2.2.2.1; omega)
       refine rn [21,21,21,41,0,19,1,3,0,11,13] ?_
       exact fin1 rfl (.tmp rfl) (fun w' hw' => ⟨by first | rw [h0] | rw [h1_], hw'.upd⟩) _ (.inl rfl)
      ·have f5 := h6
       refine rn [22,2,22,47,22,55,42,0] ?_
       refine zC rfl (fun h7 => ?_) (fun h7 => ?_)
       ·have h0 : (if fitB c n = true then (1 : Int) else 0) = 0 := fit_no (fun hc => by have h9 := h7; simp at h9; have h8 := hc.2.2.2.2.2.2; omega)
        refine rn [1,3,0,11,13] ?_
        exact fin1 rfl (.tmp rfl) (fun w' hw' => ⟨by first | rw [h0] | rw [h1_], hw'.upd⟩) _ (.inl rfl)
       ·have h1_ : (if fitB c n = true then (1 : Int) else 0) = 1 := by unfold fitB; rw [decide_eq_true]; rfl; simp at f0 f1 f2 f3 f4 f5; have h9 := h7; simp at h9; exact ⟨f0, by omega, by omega, by omega, by omega, by omega, by omega⟩
        refine rn [12,7,1,3,0,11] ?_
        exact fin1 rfl (.tmp rfl) (fun w' hw' => ⟨by first | rw [h0] | rw [h1_], hw'.upd⟩) _ (.inl rfl)
theorem clone_op (A : Option Addr) (n cap : Nat) (l : List Op) (w : World) (hrd : Rd w [] A n 4 (l.map Op.c)) (hcap : n ≤ 1000000) : Own2 (ι := (Option Addr × Nat)) Tryz.prog 11 [.slice A n cap] w [] (fun x => True) (fun x => .slice x.1 l.length x.2) (fun x => [Res.row x.1 l.length x.2 35 4 (l.map Op.c)]) (fun x => []) := by
 refine g_st Tryz.func11 8 (WOK.start (fps []) _) ?_
 have hn : n = l.length := by have := hrd.old.len; simpa using this
 refine rn [1,3,0,8,1,2] ?_
 refine s_q (q_eqsl rfl rfl) rfl ?_
 refine rn [0] ?_
 refine zC rfl (fun h1 => ?_) (fun h1 => ?_)
 ·refine rn [1,3,0,11,13] ?_
  have h0 : A = none := by simpa using h1
  have hl : l = [] := by
    rcases Nat.eq_zero_or_pos n with h2 | h2
    · exact List.eq_nil_of_length_eq_zero (by have := hrd.old.len; simp at this; omega)
    · have := (hrd.old.at_ h2).1; rw [h0] at this; simp at this
  subst hl
  refine zW none 35 4 (([] : List Op).map Op.c) rfl ?_
  exact fin1 rfl (.tmp rfl) (fun w' hw' => ⟨((none : Option Addr), (0 : Nat)), (by exact trivial), rfl, by have h9 := zB (L' := [Res.row none 0 0 35 4 (([] : List Op).map Op.c)]) w' hw'; exact h9⟩) _ (.inl rfl)
 ·refine rn [12,7,1] ?_
  refine g_op (g_lit rfl rfl rfl rfl rfl fun b5 => ?_)
  refine g_norow (t := 5) (T := 35) (k := 4) rfl fun A5 cap5 hc5 => ?_
  refine zF (A := A5) (([] : List Op).map Op.c) rfl ?_
  refine rn [2] ?_
  refine g_op (zY (A := A5) (els := (([] : List Op)).map Op.c) (news := ((l).map Op.c)) rfl rfl hrd.rdb (yG (c := Op.c) (by intro x; simp [Op.c, Value.oneCell']) _) (by first | omega | (simp; omega) | (simp_all; omega)) rfl fun A7 cap7 => ⟨_, inferInstance, ?_⟩)
  refine zF (A := A7) ((l).map Op.c) (by first | rfl | exact List.map_append.symm | (simp; done)) ?_
  refine yC (A := A7) (n) (by simp) ?_
  refine g_val 7 (v' := .slice A7 (n) cap7) rfl (by simp) ?_
  refine rn [3,0,11] ?_
  exact fin1 rfl (.tmp rfl) (fun w' hw' => ⟨(A7, cap7), (by exact trivial), by rw [← hn], by rw [← hn]; exact zA w' hw'⟩) _ (.inl rfl)
theorem paysE_ep {s : Eg} (h : Inv s) : (paysE s).1.ep = s.ep := (paysE_all h).2.2.1
theorem bdyE_ep (s : Eg) : (bdyE s).1.ep = s.ep := rfl
theorem ag_shape {s : Eg} (h : Inv s) (hb : s.blk < 1000000000) (y : Op) : ∃ a b : Nat, (applyE s y).2.ag = (s.q.f.take a).map (fun i => As.mk i 0 ((applyE s y).2.ep + 1)) ++ (s.q.v.take b).map (fun i => As.mk i 1 ((applyE s y).2.ep + 1)) ∧ a ≤ s.q.f.length ∧ b ≤ s.q.v.length ∧ (0 < b → a = s.q.f.length) := by
 unfold applyE
 split
 ·rw [tickE_eq]
  obtain ⟨hm, hB⟩ := mid_inv h hb
  have hep := paysE_ep hm
  simp only
  rw [hep]
  by_cases hc : (s.blk + 1) % s.c.elen.toNat = 0
  ·obtain ⟨B⟩ := hB hc
   have hmid : midE s = bdyE { s with blk := s.blk + 1 } := if_pos hc
   obtain ⟨a, b, g1, g2, g3, g4⟩ := B.hs
   refine ⟨a, b, ?_, g2, g3, g4⟩
   rw [hmid, B.ha, bdyE_ep]
   exact g1
  ·have hmid : midE s = ({ s with blk := s.blk + 1 }, []) := if_neg hc
   refine ⟨0, 0, ?_, Nat.zero_le _, Nat.zero_le _, by omega⟩
   rw [hmid]; simp
 ·refine ⟨0, 0, ?_, Nat.zero_le _, Nat.zero_le _, by omega⟩
  have : ((actE s y).1, rcp s y (actE s y).2).2.ag = [] := by
   show (rcp s y (actE s y).2).ag = []
   unfold rcp; split <;> rfl
  rw [this]; simp
theorem fit_of {c : C} {n : Nat} (h : decide ((if fitB c n = true then (1 : Int) else 0) = 0) = false) : fitB c n = true := by
 by_cases hf : fitB c n = true
 ·exact hf
 ·rw [if_neg hf] at h; simp at h
theorem sh_get {f v : List Int} {a b : Nat} {e : Int} {ag : List As} (h : ag = (f.take a).map (fun i => As.mk i 0 e) ++ (v.take b).map (fun i => As.mk i 1 e)) (ha : a ≤ f.length) (hb : b ≤ v.length) :
  ag.length = a + b ∧ ∀ (j : Nat) (hj : j < ag.length), ag[j].e = e ∧ ag[j].c = if j < a then 0 else 1 := by
 have hl : ag.length = a + b := by rw [h]; simp; omega
 refine ⟨hl, fun j hj => ?_⟩
 have hm : ((f.take a).map fun i => As.mk i 0 e).length = a := by simp; omega
 subst h
 by_cases hja : j < a
 ·rw [List.getElem_append_left (by omega), if_pos hja]; simp
 ·rw [List.getElem_append_right (by omega), if_neg hja]; simp
theorem rep_ep {s : Eg} (h : Inv s) (hb : s.blk < 1000000000) (y : Op) : 0 ≤ (applyE s y).2.ep ∧ (applyE s y).2.ep ≤ 1000000000 := by
 unfold applyE
 split
 ·have h1 := (tickE_inv h hb).epb
  rw [tickE_eq] at h1 ⊢
  exact h1
 ·have : ((actE s y).1, rcp s y (actE s y).2).2.ep = s.ep := by
   show (rcp s y (actE s y).2).ep = _
   unfold rcp; split <;> rfl
  rw [this]; exact h.epb
end Go.Proofs.YtdddiilocbbkkaaGreat
