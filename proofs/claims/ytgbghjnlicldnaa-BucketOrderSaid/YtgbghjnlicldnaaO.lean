/- the structures of the arguments, as Lean has them -/
import Derived.Test.YtgbghjnlicldnaaX
import Derived.Test.YtgbghjnlicldnaaT
namespace Go.Proofs.Ytgbghjnlicldnaa
open Go.RowKit Go.Eg
structure En where
  e : Int
  i : Int
  deriving DecidableEq
def En.c (x : En) : List Value := [.int .i64 x.e, .int .i64 x.i]
def En.v (x : En) : Value := .agg x.c.toArray
structure En.ok (x : En) : Prop where
  e : -9223372036854775808 ≤ x.e ∧ x.e ≤ 9223372036854775807
  i : -9223372036854775808 ≤ x.i ∧ x.i ≤ 9223372036854775807
theorem En.ext_iff' (x y : En) : x = y ↔ (x.e = y.e ∧ x.i = y.i) := by
  cases x; cases y; simp
theorem openEn {w : World} (f : Nat) (cs : List Value) (h : OKc Try.prog w f 50 cs) : ∃ x : En, cs = x.c ∧ x.ok := by
  obtain ⟨f, hl, h⟩ := OKc.struct Try.underlying50 h
  have hT : Try.prog.cellsOf 50 = 2 := by kernel_rfl
  have hc3 : Try.prog.cellsOf 3 = 1 := by kernel_rfl
  rw [hT] at hl
  obtain ⟨c0, c1, rfl⟩ : ∃ c0 c1 : Value, cs = [c0, c1] := by
    match cs, hl with
    | [c0, c1], _ => exact ⟨_, _, rfl⟩
  simp only [List.mem_cons, List.not_mem_nil, or_false, forall_eq_or_imp, forall_eq, hc3, List.drop_zero, List.drop_succ_cons, List.take_succ_cons, List.take_zero] at h
  obtain ⟨h0, h1⟩ := h
  obtain ⟨x0, e0, r0⟩ := OKc.int Try.underlying3 h0
  obtain rfl : c0 = _ := by simpa using e0
  obtain ⟨x1, e1, r1⟩ := OKc.int Try.underlying3 h1
  obtain rfl : c1 = _ := by simpa using e1
  exact ⟨⟨x0, x1⟩, rfl, ⟨r0, r1⟩⟩
structure Op where
  due : Bool
  e : Int
  i : Int
  deriving DecidableEq
def Op.c (x : Op) : List Value := [.bool x.due, .int .i64 x.e, .int .i64 x.i]
def Op.v (x : Op) : Value := .agg x.c.toArray
structure Op.ok (x : Op) : Prop where
  e : -9223372036854775808 ≤ x.e ∧ x.e ≤ 9223372036854775807
  i : -9223372036854775808 ≤ x.i ∧ x.i ≤ 9223372036854775807
theorem Op.ext_iff' (x y : Op) : x = y ↔ (x.due = y.due ∧ x.e = y.e ∧ x.i = y.i) := by
  cases x; cases y; simp
theorem openOp {w : World} (f : Nat) (cs : List Value) (h : OKc Try.prog w f 31 cs) : ∃ x : Op, cs = x.c ∧ x.ok := by
  obtain ⟨f, hl, h⟩ := OKc.struct Try.underlying31 h
  have hT : Try.prog.cellsOf 31 = 3 := by kernel_rfl
  have hc3 : Try.prog.cellsOf 3 = 1 := by kernel_rfl
  have hc4 : Try.prog.cellsOf 4 = 1 := by kernel_rfl
  rw [hT] at hl
  obtain ⟨c0, c1, c2, rfl⟩ : ∃ c0 c1 c2 : Value, cs = [c0, c1, c2] := by
    match cs, hl with
    | [c0, c1, c2], _ => exact ⟨_, _, _, rfl⟩
  simp only [List.mem_cons, List.not_mem_nil, or_false, forall_eq_or_imp, forall_eq, hc3, hc4, List.drop_zero, List.drop_succ_cons, List.take_succ_cons, List.take_zero] at h
  obtain ⟨h0, h1, h2⟩ := h
  obtain ⟨x0, e0⟩ := OKc.bool Try.underlying4 h0
  obtain rfl : c0 = _ := by simpa using e0
  obtain ⟨x1, e1, r1⟩ := OKc.int Try.underlying3 h1
  obtain rfl : c1 = _ := by simpa using e1
  obtain ⟨x2, e2, r2⟩ := OKc.int Try.underlying3 h2
  obtain rfl : c2 = _ := by simpa using e2
  exact ⟨⟨x0, x1, x2⟩, rfl, ⟨r1, r2⟩⟩
end Go.Proofs.Ytgbghjnlicldnaa
