/- TopForced: for every configuration and all operations the law returns true. No condition. Part 37 of 42. -/
import Derived.Test.YtdddiilocbbkkaaGreatTF35
set_option linter.unusedVariables false
set_option linter.unusedSimpArgs false
namespace Go.Proofs.YtdddiilocbbkkaaGreat
open Go.RowKit Go.Eg
set_option maxHeartbeats 4000000
set_option synthInstance.maxSize 3000
set_option maxRecDepth 100000
def szO : Nat → Nat
 | 0 => 8
 | _ => 2
def getF : Nat → Nat
 | 0 => 308
 | 1 => 310
 | _ => 312
def setF : Nat → Nat
 | 0 => 309
 | 1 => 311
 | _ => 313
def getV (j : Nat) (y : Op) : Int := match j with
 | 0 => y.a
 | 1 => IntKind.u64.wrap y.i
 | _ => IntKind.u64.wrap y.t
def setO (j : Nat) (y : Op) (v : Int) : Op := match j with
 | 0 => { y with a := v }
 | 1 => { y with i := IntKind.i64.wrap v }
 | _ => { y with t := IntKind.i64.wrap v }
def OD.c (j : Nat) : List Value := [.int .i64 ((szO j : Nat) : Int), .func (.func (getF j)) #[] #[], .func (.func (setF j)) #[] #[]]
def opsL (k : Int) : List Nat := if k = 1 then [0] else if k = 2 then [1] else if k = 3 then [1] else if k = 4 then [1] else if k = 5 then [1, 2] else if k = 6 then [1, 0] else []
def opsB (k : Int) : Bool := decide (1 ≤ k ∧ k ≤ 7)
def szK (k : Int) : Nat := if opsB k = true then 1 + ((opsL k).map szO).sum else 0
theorem opsL_le (k : Int) : ∀ j ∈ opsL k, j ≤ 2 := by
 intro j hj
 unfold opsL at hj
 repeat' split at hj
 all_goals simp at hj
 all_goals omega
theorem opsL_len (k : Int) : (opsL k).length ≤ 2 := by
 unfold opsL; repeat' split
 all_goals simp
theorem szO_le (j : Nat) : 1 ≤ szO j ∧ szO j ≤ 8 := by unfold szO; split <;> omega
theorem od_0  (w : World)  : Pur Tryz.prog 270 [] w (.agg (OD.c 0).toArray) := by
 refine g_st Tryz.func270 2 (WOK.start [] _) ?_
 refine rn [1] ?_
 refine g_op (zI rfl fun b0 => ?_)
 refine rn [0,1] ?_
 refine s_q (yH (c := OD.c 0) rfl rfl) rfl ?_
 refine rn [33,0,11] ?_
 exact fin1 rfl (.cellw rfl rfl) (fun w' hw' => ⟨by rfl, hw'.upd⟩) _ (.inl rfl)
theorem get_0 (y : Op) (w : World)  : Pur Tryz.prog 308 [.agg y.c.toArray] w (.int .u64 (getV 0 y)) := by
 refine g_st Tryz.func308 5 (WOK.start [] _) ?_
 refine rn [1] ?_
 refine g_op (g_box rfl rfl rfl fun b1 => ?_)
 refine rn [3,0,1,4,5,3,0,11] ?_
 exact fin1 rfl (.tmp rfl) (fun w' hw' => ⟨by rfl, hw'.upd⟩) _ (.inl rfl)
theorem set_0 (b : Nat) (y : Op) (v : Int) (w : World) (hw : W0 [Res.blk b 35 y.c] w)  : Own2 (ι := Unit) Tryz.prog 309 [.pointer (some ⟨b, 0, none⟩), .int .u64 v] w [Res.blk b 35 y.c] (fun x => True) (fun x => .tuple #[]) (fun x => []) (fun x => [Res.blk b 35 (Op.c (setO 0 y v))]) := by
 refine g_st Tryz.func309 8 hw ?_
 refine rn [10,2,2,6,4] ?_
 refine g_op (zP rfl rfl rfl rfl rfl rfl rfl ?_)
 refine zJ (b := b) (Op.c (setO 0 y v)) (by rfl) ?_
 refine rn [9] ?_
 exact fin0 rfl (fun w' hw' => ⟨(), (by exact trivial), rfl, zA w' hw'⟩) _ (.inr rfl)
theorem od_1  (w : World)  : Pur Tryz.prog 271 [] w (.agg (OD.c 1).toArray) := by
 refine g_st Tryz.func271 2 (WOK.start [] _) ?_
 refine rn [1] ?_
 refine g_op (zI rfl fun b0 => ?_)
 refine rn [0,1] ?_
 refine s_q (yH (c := OD.c 1) rfl rfl) rfl ?_
 refine rn [33,0,11] ?_
 exact fin1 rfl (.cellw rfl rfl) (fun w' hw' => ⟨by rfl, hw'.upd⟩) _ (.inl rfl)
theorem get_1 (y : Op) (w : World)  : Pur Tryz.prog 310 [.agg y.c.toArray] w (.int .u64 (getV 1 y)) := by
 refine g_st Tryz.func310 6 (WOK.start [] _) ?_
 refine rn [1] ?_
 refine g_op (g_box rfl rfl rfl fun b1 => ?_)
 refine rn [3,0,1,4,5,62,3,0,11] ?_
 exact fin1 rfl (.tmp rfl) (fun w' hw' => ⟨by rfl, hw'.upd⟩) _ (.inl rfl)
theorem set_1 (b : Nat) (y : Op) (v : Int) (w : World) (hw : W0 [Res.blk b 35 y.c] w)  : Own2 (ι := Unit) Tryz.prog 311 [.pointer (some ⟨b, 0, none⟩), .int .u64 v] w [Res.blk b 35 y.c] (fun x => True) (fun x => .tuple #[]) (fun x => []) (fun x => [Res.blk b 35 (Op.c (setO 1 y v))]) := by
 refine g_st Tryz.func311 9 hw ?_
 refine rn [10,2,2,62,6,4] ?_
 refine g_op (zP rfl rfl rfl rfl rfl rfl rfl ?_)
 refine zJ (b := b) (Op.c (setO 1 y v)) (by rfl) ?_
 refine rn [9] ?_
 exact fin0 rfl (fun w' hw' => ⟨(), (by exact trivial), rfl, zA w' hw'⟩) _ (.inr rfl)
theorem od_2  (w : World)  : Pur Tryz.prog 272 [] w (.agg (OD.c 2).toArray) := by
 refine g_st Tryz.func272 2 (WOK.start [] _) ?_
 refine rn [1] ?_
 refine g_op (zI rfl fun b0 => ?_)
 refine rn [0,1] ?_
 refine s_q (yH (c := OD.c 2) rfl rfl) rfl ?_
 refine rn [33,0,11] ?_
 exact fin1 rfl (.cellw rfl rfl) (fun w' hw' => ⟨by rfl, hw'.upd⟩) _ (.inl rfl)
theorem get_2 (y : Op) (w : World)  : Pur Tryz.prog 312 [.agg y.c.toArray] w (.int .u64 (getV 2 y)) := by
 refine g_st Tryz.func312 6 (WOK.start [] _) ?_
 refine rn [1] ?_
 refine g_op (g_box rfl rfl rfl fun b1 => ?_)
 refine rn [3,0,1,4,5,62,3,0,11] ?_
 exact fin1 rfl (.tmp rfl) (fun w' hw' => ⟨by rfl, hw'.upd⟩) _ (.inl rfl)
theorem set_2 (b : Nat) (y : Op) (v : Int) (w : World) (hw : W0 [Res.blk b 35 y.c] w)  : Own2 (ι := Unit) Tryz.prog 313 [.pointer (some ⟨b, 0, none⟩), .int .u64 v] w [Res.blk b 35 y.c] (fun x => True) (fun x => .tuple #[]) (fun x => []) (fun x => [Res.blk b 35 (Op.c (setO 2 y v))]) := by
 refine g_st Tryz.func313 9 hw ?_
 refine rn [10,2,2,62,6,4] ?_
 refine g_op (zP rfl rfl rfl rfl rfl rfl rfl ?_)
 refine zJ (b := b) (Op.c (setO 2 y v)) (by rfl) ?_
 refine rn [9] ?_
 exact fin0 rfl (fun w' hw' => ⟨(), (by exact trivial), rfl, zA w' hw'⟩) _ (.inr rfl)
theorem hasG {j : Nat} (h : j ≤ 2) : HasB Tryz.prog (getF j) := by
 rcases (show j = 0 ∨ j = 1 ∨ j = 2 by omega) with rfl | rfl | rfl
 ·exact (inferInstance : HasB Tryz.prog 308)
 ·exact (inferInstance : HasB Tryz.prog 310)
 ·exact (inferInstance : HasB Tryz.prog 312)
theorem hasS {j : Nat} (h : j ≤ 2) : HasB Tryz.prog (setF j) := by
 rcases (show j = 0 ∨ j = 1 ∨ j = 2 by omega) with rfl | rfl | rfl
 ·exact (inferInstance : HasB Tryz.prog 309)
 ·exact (inferInstance : HasB Tryz.prog 311)
 ·exact (inferInstance : HasB Tryz.prog 313)
theorem get_all {j : Nat} (h : j ≤ 2) (y : Op) (w : World) : Pur Tryz.prog (getF j) [.agg y.c.toArray] w (.int .u64 (getV j y)) := by
 rcases (show j = 0 ∨ j = 1 ∨ j = 2 by omega) with rfl | rfl | rfl
 ·exact get_0 y w
 ·exact get_1 y w
 ·exact get_2 y w
theorem set_all {j : Nat} (h : j ≤ 2) (b : Nat) (y : Op) (v : Int) (w : World) (hw : W0 [Res.blk b 35 y.c] w) : Own2 (ι := Unit) Tryz.prog (setF j) [.pointer (some ⟨b, 0, none⟩), .int .u64 v] w [Res.blk b 35 y.c] (fun _ => True) (fun _ => .tuple #[]) (fun _ => []) (fun _ => [Res.blk b 35 (Op.c (setO j y v))]) := by
 rcases (show j = 0 ∨ j = 1 ∨ j = 2 by omega) with rfl | rfl | rfl
 ·exact set_0 b y v w hw
 ·exact set_1 b y v w hw
 ·exact set_2 b y v w hw
theorem operands_any (k : Int) (w : World) (hk : -9223372036854775808 ≤ k ∧ k ≤ 9223372036854775807) : Own2 (ι := (Option Addr × Nat)) Tryz.prog 204 [.int .i64 k] w [] (fun x => True) (fun x => .tuple [.slice x.1 (opsL k).length x.2, .bool (opsB k)].toArray) (fun x => [Res.row x.1 (opsL k).length x.2 324 3 ((opsL k).map OD.c)]) (fun x => []) := by
 refine g_st Tryz.func204 30 (WOK.start (fps []) _) ?_
 refine rn [1,3,3,0,1] ?_
 refine g_op (g_makeMap rfl fun b7 => ?_)
 refine g_op (zG rfl (fun w1 hw1 => od_0 w1) rfl ?_)
 refine g_op (g_lit rfl rfl rfl rfl rfl fun b9 => ?_)
 refine g_op (xC (b := b7) (D := []) rfl rfl rfl (k3 (by decide)) (fun p hp => by simp at hp) (fun p hp => by simp at hp) ?_)
 refine xZ b7 [(Value.int .i64 1, Value.slice (some ⟨b9, 0, none⟩) 1 1)] rfl ?_
 refine g_op (zG rfl (fun w1 hw1 => od_1 w1) rfl ?_)
 refine g_op (g_lit rfl rfl rfl rfl rfl fun b11 => ?_)
 refine g_op (xC (b := b7) (D := [(Value.int .i64 1, Value.slice (some ⟨b9, 0, none⟩) 1 1)]) rfl rfl rfl (k3 (by decide)) (by intro p hp; simp only [List.mem_cons, List.not_mem_nil, or_false] at hp; rcases hp with rfl <;> exact k3 (by decide)) (by intro p hp; simp only [List.mem_cons, List.not_mem_nil, or_false] at hp; rcases hp with rfl <;> (intro hc; injection hc with _ hc; exact absurd hc (by decide))) ?_)
 refine xZ b7 [(Value.int .i64 1, Value.slice (some ⟨b9, 0, none⟩) 1 1), (Value.int .i64 2, Value.slice (some ⟨b11, 0, none⟩) 1 1)] rfl ?_
 refine g_op (zG rfl (fun w1 hw1 => od_1 w1) rfl ?_)
 refine g_op (g_lit rfl rfl rfl rfl rfl fun b13 => ?_)
 refine g_op (xC (b := b7) (D := [(Value.int .i64 1, Value.slice (some ⟨b9, 0, none⟩) 1 1), (Value.int .i64 2, Value.slice (some ⟨b11, 0, none⟩) 1 1)]) rfl rfl rfl (k3 (by decide)) (by intro p hp; simp only [List.mem_cons, List.not_mem_nil, or_false] at hp; rcases hp with rfl | rfl <;> exact k3 (by decide)) (by intro p hp; simp only [List.mem_cons, List.not_mem_nil, or_false] at hp; rcases hp with rfl | rfl <;> (intro hc; injection hc with _ hc; exact absurd hc (by decide))) ?_)
 refine xZ b7 [(Value.int .i64 1, Value.slice (some ⟨b9, 0, none⟩) 1 1), (Value.int .i64 2, Value.slice (some ⟨b11, 0, none⟩) 1 1), (Value.int .i64 3, Value.slice (some ⟨b13, 0, none⟩) 1 1)] rfl ?_
 refine g_op (zG rfl (fun w1 hw1 => od_1 w1) rfl ?_)
 refine g_op (g_lit rfl rfl rfl rfl rfl fun b15 => ?_)
 refine g_op (xC (b := b7) (D := [(Value.int .i64 1, Value.slice (some ⟨b9, 0, none⟩) 1 1), (Value.int .i64 2, Value.slice (some ⟨b11, 0, none⟩) 1 1), (Value.int .i64 3, Value.slice (some ⟨b13, 0, none⟩) 1 1)]) rfl rfl rfl (k3 (by decide)) (by intro p hp; simp only [List.mem_cons, List.not_mem_nil, or_false] at hp; rcases hp with rfl | rfl | rfl <;> exact k3 (by decide)) (by intro p hp; simp only [List.mem_cons, List.not_mem_nil, or_false] at hp; rcases hp with rfl | rfl | rfl <;> (intro hc; injection hc with _ hc; exact absurd hc (by decide))) ?_)
 refine xZ b7 [(Value.int .i64 1, Value.slice (some ⟨b9, 0, none⟩) 1 1), (Value.int .i64 2, Value.slice (some ⟨b11, 0, none⟩) 1 1), (Value.int .i64 3, Value.slice (some ⟨b13, 0, none⟩) 1 1), (Value.int .i64 4, Value.slice (some ⟨b15, 0, none⟩) 1 1)] rfl ?_
 refine g_op (zG rfl (fun w1 hw1 => od_1 w1) rfl ?_)
 refine g_op (zG rfl (fun w1 hw1 => od_2 w1) rfl ?_)
 refine g_op (g_lit rfl rfl rfl rfl rfl fun b18 => ?_)
 refine g_op (xC (b := b7) (D := [(Value.int .i64 1, Value.slice (some ⟨b9, 0, none⟩) 1 1), (Value.int .i64 2, Value.slice (some ⟨b11, 0, none⟩) 1 1), (Value.int .i64 3, Value.slice (some ⟨b13, 0, none⟩) 1 1), (Value.int .i64 4, Value.slice (some ⟨b15, 0, none⟩) 1 1)]) rfl rfl rfl (k3 (by decide)) (by intro p hp; simp only [List.mem_cons, List.not_mem_nil, or_false] at hp; rcases hp with rfl | rfl | rfl | rfl <;> exact k3 (by decide)) (by intro p hp; simp only [List.mem_cons, List.not_mem_nil, or_false] at hp; rcases hp with rfl | rfl | rfl | rfl <;> (intro hc; injection hc with _ hc; exact absurd hc (by decide))) ?_)
 refine xZ b7 [(Value.int .i64 1, Value.slice (some ⟨b9, 0, none⟩) 1 1), (Value.int .i64 2, Value.slice (some ⟨b11, 0, none⟩) 1 1), (Value.int .i64 3, Value.slice (some ⟨b13, 0, none⟩) 1 1), (Value.int .i64 4, Value.slice (some ⟨b15, 0, none⟩) 1 1), (Value.int .i64 5, Value.slice (some ⟨b18, 0, none⟩) 2 2)] rfl ?_
 refine g_op (zG rfl (fun w1 hw1 => od_1 w1) rfl ?_)
 refine g_op (zG rfl (fun w1 hw1 => od_0 w1) rfl ?_)
 refine g_op (g_lit rfl rfl rfl rfl rfl fun b21 => ?_)
 refine g_op (xC (b := b7) (D := [(Value.int .i64 1, Value.slice (some ⟨b9, 0, none⟩) 1 1), (Value.int .i64 2, Value.slice (some ⟨b11, 0, none⟩) 1 1), (Value.int .i64 3, Value.slice (some ⟨b13, 0, none⟩) 1 1), (Value.int .i64 4, Value.slice (some ⟨b15, 0, none⟩) 1 1), (Value.int .i64 5, Value.slice (some ⟨b18, 0, none⟩) 2 2)]) rfl rfl rfl (k3 (by decide)) (by intro p hp; simp only [List.mem_cons, List.not_mem_nil, or_false] at hp; rcases hp with rfl | rfl | rfl | rfl | rfl <;> exact k3 (by decide)) (by intro p hp; simp only [List.mem_cons, List.not_mem_nil, or_false] at hp; rcases hp with rfl | rfl | rfl | rfl | rfl <;> (intro hc; injection hc with _ hc; exact absurd hc (by decide))) ?_)
 refine xZ b7 [(Value.int .i64 1, Value.slice (some ⟨b9, 0, none⟩) 1 1), (Value.int .i64 2, Value.slice (some ⟨b11, 0, none⟩) 1 1), (Value.int .i64 3, Value.slice (some ⟨b13, 0, none⟩) 1 1), (Value.int .i64 4, Value.slice (some ⟨b15, 0, none⟩) 1 1), (Value.int .i64 5, Value.slice (some ⟨b18, 0, none⟩) 2 2), (Value.int .i64 6, Value.slice (some ⟨b21, 0, none⟩) 2 2)] rfl ?_
 refine g_op (g_lit rfl rfl rfl rfl rfl fun b22 => ?_)
 refine g_op (xC (b := b7) (D := [(Value.int .i64 1, Value.slice (some ⟨b9, 0, none⟩) 1 1), (Value.int .i64 2, Value.slice (some ⟨b11, 0, none⟩) 1 1), (Value.int .i64 3, Value.slice (some ⟨b13, 0, none⟩) 1 1), (Value.int .i64 4, Value.slice (some ⟨b15, 0, none⟩) 1 1), (Value.int .i64 5, Value.slice (some ⟨b18, 0, none⟩) 2 2), (Value.int .i64 6, Value.slice (some ⟨b21, 0, none⟩) 2 2)]) rfl rfl rfl (k3 (by decide)) (by intro p hp; simp only [List.mem_cons, List.not_mem_nil, or_false] at hp; rcases hp with rfl | rfl | rfl | rfl | rfl | rfl <;> exact k3 (by decide)) (by intro p hp; simp only [List.mem_cons, List.not_mem_nil, or_false] at hp; rcases hp with rfl | rfl | rfl | rfl | rfl | rfl <;> (intro hc; injection hc with _ hc; exact absurd hc (by decide))) ?_)
 refine xZ b7 [(Value.int .i64 1, Value.slice (some ⟨b9, 0, none⟩) 1 1), (Value.int .i64 2, Value.slice (some ⟨b11, 0, none⟩) 1 1), (Value.int .i64 3, Value.slice (some ⟨b13, 0, none⟩) 1 1), (Value.int .i64 4, Value.slice (some ⟨b15, 0, none⟩) 1 1), (Value.int .i64 5, Value.slice (some ⟨b18, 0, none⟩) 2 2), (Value.int .i64 6, Value.slice (some ⟨b21, 0, none⟩) 2 2), (Value.int .i64 7, Value.slice (some ⟨b22, 0, none⟩) 0 0)] rfl ?_
 refine rn [2] ?_
 rcases (show k = 1 ∨ k = 2 ∨ k = 3 ∨ k = 4 ∨ k = 5 ∨ k = 6 ∨ k = 7 ∨ ¬ (1 ≤ k ∧ k ≤ 7) by omega) with hk1 | hk2 | hk3 | hk4 | hk5 | hk6 | hk7 | hk0
 ·have hL : opsL k = [0] := by rw [hk1]; rfl
  have hB : opsB k = true := by rw [hk1]; rfl
  refine rn [2] ?_
  refine s_q (xX (b := b7) (v := .slice (some ⟨b9, 0, none⟩) 1 1) (D := [(Value.int .i64 1, Value.slice (some ⟨b9, 0, none⟩) 1 1), (Value.int .i64 2, Value.slice (some ⟨b11, 0, none⟩) 1 1), (Value.int .i64 3, Value.slice (some ⟨b13, 0, none⟩) 1 1), (Value.int .i64 4, Value.slice (some ⟨b15, 0, none⟩) 1 1), (Value.int .i64 5, Value.slice (some ⟨b18, 0, none⟩) 2 2), (Value.int .i64 6, Value.slice (some ⟨b21, 0, none⟩) 2 2), (Value.int .i64 7, Value.slice (some ⟨b22, 0, none⟩) 0 0)]) rfl (by rw [hk1]; rfl) (k3 (by decide)) (by intro p hp; simp only [List.mem_cons, List.not_mem_nil, or_false] at hp; rcases hp with rfl | rfl | rfl | rfl | rfl | rfl | rfl <;> exact k3 (by decide)) (by simp) (by intro p hp hc; simp only [List.mem_cons, List.not_mem_nil, or_false] at hp; rcases hp with rfl | rfl | rfl | rfl | rfl | rfl | rfl <;> first | rfl | (injection hc with _ hc; exact absurd hc (by decide)))) rfl ?_
  refine rn [2,40,40,3,3,0,1,2,2,3,3,0,11] ?_
  refine zJ (b := b9) ((([0] : List Nat).map OD.c).flatten) (by rfl) ?_
  refine xN (b := b9) 3 1 (([0] : List Nat).map OD.c) (zM (c := OD.c) (fun _ => rfl) _) rfl rfl (by decide) ?_
  exact fin2 rfl (.tmp rfl) (.tmp rfl) (fun w' hw' => ⟨((some ⟨b9, 0, none⟩ : Option Addr), (1 : Nat)), (by exact trivial), by rw [hL, hB]; rfl, by rw [hL]; exact zA w' hw'⟩) _ (.inl rfl)
 ·have hL : opsL k = [1] := by rw [hk2]; rfl
  have hB : opsB k = true := by rw [hk2]; rfl
  refine rn [2] ?_
  refine s_q (xX (b := b7) (v := .slice (some ⟨b11, 0, none⟩) 1 1) (D := [(Value.int .i64 1, Value.slice (some ⟨b9, 0, none⟩) 1 1), (Value.int .i64 2, Value.slice (some ⟨b11, 0, none⟩) 1 1), (Value.int .i64 3, Value.slice (some ⟨b13, 0, none⟩) 1 1), (Value.int .i64 4, Value.slice (some ⟨b15, 0, none⟩) 1 1), (Value.int .i64 5, Value.slice (some ⟨b18, 0, none⟩) 2 2), (Value.int .i64 6, Value.slice (some ⟨b21, 0, none⟩) 2 2), (Value.int .i64 7, Value.slice (some ⟨b22, 0, none⟩) 0 0)]) rfl (by rw [hk2]; rfl) (k3 (by decide)) (by intro p hp; simp only [List.mem_cons, List.not_mem_nil, or_false] at hp; rcases hp with rfl | rfl | rfl | rfl | rfl | rfl | rfl <;> exact k3 (by decide)) (by simp) (by intro p hp hc; simp only [List.mem_cons, List.not_mem_nil, or_false] at hp; rcases hp with rfl | rfl | rfl | rfl | rfl | rfl | rfl <;> first | rfl | (injection hc with _ hc; exact absurd hc (by decide)))) rfl ?_
  refine rn [2,40,40,3,3,0,1,2,2,3,3,0,11] ?_
  refine zJ (b := b11) ((([1] : List Nat).map OD.c).flatten) (by rfl) ?_
  refine xN (b := b11) 3 1 (([1] : List Nat).map OD.c) (zM (c := OD.c) (fun _ => rfl) _) rfl rfl (by decide) ?_
  exact fin2 rfl (.tmp rfl) (.tmp rfl) (fun w' hw' => ⟨((some ⟨b11, 0, none⟩ : Option Addr), (1 : Nat)), (by exact trivial), by rw [hL, hB]; rfl, by rw [hL]; exact zA w' hw'⟩) _ (.inl rfl)
 ·have hL : opsL k = [1] := by rw [hk3]; rfl
  have hB : opsB k = true := by rw [hk3]; rfl
  refine rn [2] ?_
  refine s_q (xX (b := b7) (v := .slice (some ⟨b13, 0, none⟩) 1 1) (D := [(Value.int .i64 1, Value.slice (some ⟨b9, 0, none⟩) 1 1), (Value.int .i64 2, Value.slice (some ⟨b11, 0, none⟩) 1 1), (Value.int .i64 3, Value.slice (some ⟨b13, 0, none⟩) 1 1), (Value.int .i64 4, Value.slice (some ⟨b15, 0, none⟩) 1 1), (Value.int .i64 5, Value.slice (some ⟨b18, 0, none⟩) 2 2), (Value.int .i64 6, Value.slice (some ⟨b21, 0, none⟩) 2 2), (Value.int .i64 7, Value.slice (some ⟨b22, 0, none⟩) 0 0)]) rfl (by rw [hk3]; rfl) (k3 (by decide)) (by intro p hp; simp only [List.mem_cons, List.not_mem_nil, or_false] at hp; rcases hp with rfl | rfl | rfl | rfl | rfl | rfl | rfl <;> exact k3 (by decide)) (by simp) (by intro p hp hc; simp only [List.mem_cons, List.not_mem_nil, or_false] at hp; rcases hp with rfl | rfl | rfl | rfl | rfl | rfl | rfl <;> first | rfl | (injection hc with _ hc; exact absurd hc (by decide)))) rfl ?_
  refine rn [2,40,40,3,3,0,1,2,2,3,3,0,11] ?_
  refine zJ (b := b13) ((([1] : List Nat).map OD.c).flatten) (by rfl) ?_
  refine xN (b := b13) 3 1 (([1] : List Nat).map OD.c) (zM (c := OD.c) (fun _ => rfl) _) rfl rfl (by decide) ?_
  exact fin2 rfl (.tmp rfl) (.tmp rfl) (fun w' hw' => ⟨((some ⟨b13, 0, none⟩ : Option Addr), (1 : Nat)), (by exact trivial), by rw [hL, hB]; rfl, by rw [hL]; exact zA w' hw'⟩) _ (.inl rfl)
 ·have hL : opsL k = [1] := by rw [hk4]; rfl
  have hB : opsB k = true := by rw [hk4]; rfl
  refine rn [2] ?_
  refine s_q (xX (b := b7) (v := .slice (some ⟨b15, 0, none⟩) 1 1) (D := [(Value.int .i64 1, Value.slice (some ⟨b9, 0, none⟩) 1 1), (Value.int .i64 2, Value.slice (some ⟨b11, 0, none⟩) 1 1), (Value.int .i64 3, Value.slice (some ⟨b13, 0, none⟩) 1 1), (Value.int .i64 4, Value.slice (some ⟨b15, 0, none⟩) 1 1), (Value.int .i64 5, Value.slice (some ⟨b18, 0, none⟩) 2 2), (Value.int .i64 6, Value.slice (some ⟨b21, 0, none⟩) 2 2), (Value.int .i64 7, Value.slice (some ⟨b22, 0, none⟩) 0 0)]) rfl (by rw [hk4]; rfl) (k3 (by decide)) (by intro p hp; simp only [List.mem_cons, List.not_mem_nil, or_false] at hp; rcases hp with rfl | rfl | rfl | rfl | rfl | rfl | rfl <;> exact k3 (by decide)) (by simp) (by intro p hp hc; simp only [List.mem_cons, List.not_mem_nil, or_false] at hp; rcases hp with rfl | rfl | rfl | rfl | rfl | rfl | rfl <;> first | rfl | (injection hc with _ hc; exact absurd hc (by decide)))) rfl ?_
  refine rn [2,40,40,3,3,0,1,2,2,3,3,0,11] ?_
  refine zJ (b := b15) ((([1] : List Nat).map OD.c).flatten) (by rfl) ?_
  refine xN (b := b15) 3 1 (([1] : List Nat).map OD.c) (zM (c := OD.c) (fun _ => rfl) _) rfl rfl (by decide) ?_
  exact fin2 rfl (.tmp rfl) (.tmp rfl) (fun w' hw' => ⟨((some ⟨b15, 0, none⟩ : Option Addr), (1 : Nat)), (by exact trivial), by rw [hL, hB]; rfl, by rw [hL]; exact zA w' hw'⟩) _ (.inl rfl)
 ·have hL : opsL k = [1, 2] := by rw [hk5]; rfl
  have hB : opsB k = true := by rw [hk5]; rfl
  refine rn [2] ?_
  refine s_q (xX (b := b7) (v := .slice (some ⟨b18, 0, none⟩) 2 2) (D := [(Value.int .i64 1, Value.slice (some ⟨b9, 0, none⟩) 1 1), (Value.int .i64 2, Value.slice (some ⟨b11, 0, none⟩) 1 1), (Value.int .i64 3, Value.slice (some ⟨b13, 0, none⟩) 1 1), (Value.int .i64 4, Value.slice (some ⟨b15, 0, none⟩) 1 1), (Value.int .i64 5, Value.slice (some ⟨b18, 0, none⟩) 2 2), (Value.int .i64 6, Value.slice (some ⟨b21, 0, none⟩) 2 2), (Value.int .i64 7, Value.slice (some ⟨b22, 0, none⟩) 0 0)]) rfl (by rw [hk5]; rfl) (k3 (by decide)) (by intro p hp; simp only [List.mem_cons, List.not_mem_nil, or_false] at hp; rcases hp with rfl | rfl | rfl | rfl | rfl | rfl | rfl <;> exact k3 (by decide)) (by simp) (by intro p hp hc; simp only [List.mem_cons, List.not_mem_nil, or_false] at hp; rcases hp with rfl | rfl | rfl | rfl | rfl | rfl | rfl <;> first | rfl | (injection hc with _ hc; exact absurd hc (by decide)))) rfl ?_
  refine rn [2,40,40,3,3,0,1,2,2,3,3,0,11] ?_
  refine zJ (b := b18) ((([1, 2] : List Nat).map OD.c).flatten) (by rfl) ?_
  refine xN (b := b18) 3 2 (([1, 2] : List Nat).map OD.c) (zM (c := OD.c) (fun _ => rfl) _) rfl rfl (by decide) ?_
  exact fin2 rfl (.tmp rfl) (.tmp rfl) (fun w' hw' => ⟨((some ⟨b18, 0, none⟩ : Option Addr), (2 : Nat)), (by exact trivial), by rw [hL, hB]; rfl, by rw [hL]; exact zA w' hw'⟩) _ (.inl rfl)
 ·have hL : opsL k = [1, 0] := by rw [hk6]; rfl
  have hB : opsB k = true := by rw [hk6]; rfl
  refine rn [2] ?_
  refine s_q (xX (b := b7) (v := .slice (some ⟨b21, 0, none⟩) 2 2) (D := [(Value.int .i64 1, Value.slice (some ⟨b9, 0, none⟩) 1 1), (Value.int .i64 2, Value.slice (some ⟨b11, 0, none⟩) 1 1), (Value.int .i64 3, Value.slice (some ⟨b13, 0, none⟩) 1 1), (Value.int .i64 4, Value.slice (some ⟨b15, 0, none⟩) 1 1), (Value.int .i64 5, Value.slice (some ⟨b18, 0, none⟩) 2 2), (Value.int .i64 6, Value.slice (some ⟨b21, 0, none⟩) 2 2), (Value.int .i64 7, Value.slice (some ⟨b22, 0, none⟩) 0 0)]) rfl (by rw [hk6]; rfl) (k3 (by decide)) (by intro p hp; simp only [List.mem_cons, List.not_mem_nil, or_false] at hp; rcases hp with rfl | rfl | rfl | rfl | rfl | rfl | rfl <;> exact k3 (by decide)) (by simp) (by intro p hp hc; simp only [List.mem_cons, List.not_mem_nil, or_false] at hp; rcases hp with rfl | rfl | rfl | rfl | rfl | rfl | rfl <;> first | rfl | (injection hc with _ hc; exact absurd hc (by decide)))) rfl ?_
  refine rn [2,40,40,3,3,0,1,2,2,3,3,0,11] ?_
  refine zJ (b := b21) ((([1, 0] : List Nat).map OD.c).flatten) (by rfl) ?_
  refine xN (b := b21) 3 2 (([1, 0] : List Nat).map OD.c) (zM (c := OD.c) (fun _ => rfl) _) rfl rfl (by decide) ?_
  exact fin2 rfl (.tmp rfl) (.tmp rfl) (fun w' hw' => ⟨((some ⟨b21, 0, none⟩ : Option Addr), (2 : Nat)), (by exact trivial), by rw [hL, hB]; rfl, by rw [hL]; exact zA w' hw'⟩) _ (.inl rfl)
 ·have hL : opsL k = [] := by rw [hk7]; rfl
  have hB : opsB k = true := by rw [hk7]; rfl
  refine rn [2] ?_
  refine s_q (xX (b := b7) (v := .slice (some ⟨b22, 0, none⟩) 0 0) (D := [(Value.int .i64 1, Value.slice (some ⟨b9, 0, none⟩) 1 1), (Value.int .i64 2, Value.slice (some ⟨b11, 0, none⟩) 1 1), (Value.int .i64 3, Value.slice (some ⟨b13, 0, none⟩) 1 1), (Value.int .i64 4, Value.slice (some ⟨b15, 0, none⟩) 1 1), (Value.int .i64 5, Value.slice (some ⟨b18, 0, none⟩) 2 2), (Value.int .i64 6, Value.slice (some ⟨b21, 0, none⟩) 2 2), (Value.int .i64 7, Value.slice (some ⟨b22, 0, none⟩) 0 0)]) rfl (by rw [hk7]; rfl) (k3 (by decide)) (by intro p hp; simp only [List.mem_cons, List.not_mem_nil, or_false] at hp; rcases hp with rfl | rfl | rfl | rfl | rfl | rfl | rfl <;> exact k3 (by decide)) (by simp) (by intro p hp hc; simp only [List.mem_cons, List.not_mem_nil, or_false] at hp; rcases hp with rfl | rfl | rfl | rfl | rfl | rfl | rfl <;> first | rfl | (injection hc with _ hc; exact absurd hc (by decide)))) rfl ?_
  refine rn [2,40,40,3,3,0,1,2,2,3,3,0,11] ?_
  refine zJ (b := b22) ((([] : List Nat).map OD.c).flatten) (by rfl) ?_
  refine xN (b := b22) 3 0 (([] : List Nat).map OD.c) (zM (c := OD.c) (fun _ => rfl) _) rfl rfl (by decide) ?_
  exact fin2 rfl (.tmp rfl) (.tmp rfl) (fun w' hw' => ⟨((some ⟨b22, 0, none⟩ : Option Addr), (0 : Nat)), (by exact trivial), by rw [hL, hB]; rfl, by rw [hL]; exact zA w' hw'⟩) _ (.inl rfl)
 ·have hL : opsL k = [] := by unfold opsL; repeat rw [if_neg (by omega)]
  have hB : opsB k = false := decide_eq_false hk0
  refine rn [2] ?_
  refine s_q (q_look_f (b := b7) (z := .slice none 0 0) (D := [(Value.int .i64 1, Value.slice (some ⟨b9, 0, none⟩) 1 1), (Value.int .i64 2, Value.slice (some ⟨b11, 0, none⟩) 1 1), (Value.int .i64 3, Value.slice (some ⟨b13, 0, none⟩) 1 1), (Value.int .i64 4, Value.slice (some ⟨b15, 0, none⟩) 1 1), (Value.int .i64 5, Value.slice (some ⟨b18, 0, none⟩) 2 2), (Value.int .i64 6, Value.slice (some ⟨b21, 0, none⟩) 2 2), (Value.int .i64 7, Value.slice (some ⟨b22, 0, none⟩) 0 0)]) rfl rfl (k3 hk) (by intro p hp; simp only [List.mem_cons, List.not_mem_nil, or_false] at hp; rcases hp with rfl | rfl | rfl | rfl | rfl | rfl | rfl <;> exact k3 (by decide)) (by intro p hp hc; simp only [List.mem_cons, List.not_mem_nil, or_false] at hp; rcases hp with rfl | rfl | rfl | rfl | rfl | rfl | rfl <;> (injection hc with _ hc; omega)) (zv (by kernel_rfl))) rfl ?_
  refine rn [2,40,40,3,3,0,1,2,2,3,3,0,11] ?_
  refine zW none 324 3 (([] : List Nat).map OD.c) (by rfl) ?_
  exact fin2 rfl (.tmp rfl) (.tmp rfl) (fun w' hw' => ⟨((none : Option Addr), (0 : Nat)), (by exact trivial), by rw [hL, hB]; rfl, by rw [hL]; exact zA w' hw'⟩) _ (.inl rfl)
end Go.Proofs.YtdddiilocbbkkaaGreat
