/- the structures of the arguments, as Lean has them -/
import Derived.Test.YthdkbocfkbnpaaaX
import Derived.Test.YthdkbocfkbnpaaaT
namespace Go.Proofs.Ythdkbocfkbnpaaa
open Go.RowKit Go.Eg
structure C where
  capa : Int
  qsize : Int
  mind : Int
  maxd : Int
  supc : Int
  minb : Int
  maxb : Int
  minch : Int
  quot : Int
  fcap : Int
  unb : Int
  sld : Int
  rlen : Int
  elen : Int
  vis : Int
  pays : Int
  parts : Int
  merg : Int
  pnum : Int
  pden : Int
  deriving DecidableEq
def C.c (x : C) : List Value := [.int .i64 x.capa, .int .i64 x.qsize, .int .u64 x.mind, .int .u64 x.maxd, .int .u64 x.supc, .int .u64 x.minb, .int .u64 x.maxb, .int .u64 x.minch, .int .u64 x.quot, .int .u64 x.fcap, .int .i64 x.unb, .int .i64 x.sld, .int .i64 x.rlen, .int .i64 x.elen, .int .i64 x.vis, .int .i64 x.pays, .int .i64 x.parts, .int .i64 x.merg, .int .u64 x.pnum, .int .u64 x.pden]
def C.v (x : C) : Value := .agg x.c.toArray
structure C.ok (x : C) : Prop where
  capa : -9223372036854775808 ≤ x.capa ∧ x.capa ≤ 9223372036854775807
  qsize : -9223372036854775808 ≤ x.qsize ∧ x.qsize ≤ 9223372036854775807
  mind : 0 ≤ x.mind ∧ x.mind ≤ 18446744073709551615
  maxd : 0 ≤ x.maxd ∧ x.maxd ≤ 18446744073709551615
  supc : 0 ≤ x.supc ∧ x.supc ≤ 18446744073709551615
  minb : 0 ≤ x.minb ∧ x.minb ≤ 18446744073709551615
  maxb : 0 ≤ x.maxb ∧ x.maxb ≤ 18446744073709551615
  minch : 0 ≤ x.minch ∧ x.minch ≤ 18446744073709551615
  quot : 0 ≤ x.quot ∧ x.quot ≤ 18446744073709551615
  fcap : 0 ≤ x.fcap ∧ x.fcap ≤ 18446744073709551615
  unb : -9223372036854775808 ≤ x.unb ∧ x.unb ≤ 9223372036854775807
  sld : -9223372036854775808 ≤ x.sld ∧ x.sld ≤ 9223372036854775807
  rlen : -9223372036854775808 ≤ x.rlen ∧ x.rlen ≤ 9223372036854775807
  elen : -9223372036854775808 ≤ x.elen ∧ x.elen ≤ 9223372036854775807
  vis : -9223372036854775808 ≤ x.vis ∧ x.vis ≤ 9223372036854775807
  pays : -9223372036854775808 ≤ x.pays ∧ x.pays ≤ 9223372036854775807
  parts : -9223372036854775808 ≤ x.parts ∧ x.parts ≤ 9223372036854775807
  merg : -9223372036854775808 ≤ x.merg ∧ x.merg ≤ 9223372036854775807
  pnum : 0 ≤ x.pnum ∧ x.pnum ≤ 18446744073709551615
  pden : 0 ≤ x.pden ∧ x.pden ≤ 18446744073709551615
theorem C.ext_iff' (x y : C) : x = y ↔ (x.capa = y.capa ∧ x.qsize = y.qsize ∧ x.mind = y.mind ∧ x.maxd = y.maxd ∧ x.supc = y.supc ∧ x.minb = y.minb ∧ x.maxb = y.maxb ∧ x.minch = y.minch ∧ x.quot = y.quot ∧ x.fcap = y.fcap ∧ x.unb = y.unb ∧ x.sld = y.sld ∧ x.rlen = y.rlen ∧ x.elen = y.elen ∧ x.vis = y.vis ∧ x.pays = y.pays ∧ x.parts = y.parts ∧ x.merg = y.merg ∧ x.pnum = y.pnum ∧ x.pden = y.pden) := by
  cases x; cases y; simp
theorem openC {w : World} (f : Nat) (cs : List Value) (h : OKc Try.prog w f 26 cs) : ∃ x : C, cs = x.c ∧ x.ok := by
  obtain ⟨f, hl, h⟩ := OKc.struct Try.underlying26 h
  have hT : Try.prog.cellsOf 26 = 20 := by kernel_rfl
  have hc3 : Try.prog.cellsOf 3 = 1 := by kernel_rfl
  have hc22 : Try.prog.cellsOf 22 = 1 := by kernel_rfl
  rw [hT] at hl
  obtain ⟨c0, c1, c2, c3, c4, c5, c6, c7, c8, c9, c10, c11, c12, c13, c14, c15, c16, c17, c18, c19, rfl⟩ : ∃ c0 c1 c2 c3 c4 c5 c6 c7 c8 c9 c10 c11 c12 c13 c14 c15 c16 c17 c18 c19 : Value, cs = [c0, c1, c2, c3, c4, c5, c6, c7, c8, c9, c10, c11, c12, c13, c14, c15, c16, c17, c18, c19] := by
    match cs, hl with
    | [c0, c1, c2, c3, c4, c5, c6, c7, c8, c9, c10, c11, c12, c13, c14, c15, c16, c17, c18, c19], _ => exact ⟨_, _, _, _, _, _, _, _, _, _, _, _, _, _, _, _, _, _, _, _, rfl⟩
  simp only [List.mem_cons, List.not_mem_nil, or_false, forall_eq_or_imp, forall_eq, hc3, hc22, List.drop_zero, List.drop_succ_cons, List.take_succ_cons, List.take_zero] at h
  obtain ⟨h0, h1, h2, h3, h4, h5, h6, h7, h8, h9, h10, h11, h12, h13, h14, h15, h16, h17, h18, h19⟩ := h
  obtain ⟨x0, e0, r0⟩ := OKc.int Try.underlying3 h0
  obtain rfl : c0 = _ := by simpa using e0
  obtain ⟨x1, e1, r1⟩ := OKc.int Try.underlying3 h1
  obtain rfl : c1 = _ := by simpa using e1
  obtain ⟨x2, e2, r2⟩ := OKc.int Try.underlying22 h2
  obtain rfl : c2 = _ := by simpa using e2
  obtain ⟨x3, e3, r3⟩ := OKc.int Try.underlying22 h3
  obtain rfl : c3 = _ := by simpa using e3
  obtain ⟨x4, e4, r4⟩ := OKc.int Try.underlying22 h4
  obtain rfl : c4 = _ := by simpa using e4
  obtain ⟨x5, e5, r5⟩ := OKc.int Try.underlying22 h5
  obtain rfl : c5 = _ := by simpa using e5
  obtain ⟨x6, e6, r6⟩ := OKc.int Try.underlying22 h6
  obtain rfl : c6 = _ := by simpa using e6
  obtain ⟨x7, e7, r7⟩ := OKc.int Try.underlying22 h7
  obtain rfl : c7 = _ := by simpa using e7
  obtain ⟨x8, e8, r8⟩ := OKc.int Try.underlying22 h8
  obtain rfl : c8 = _ := by simpa using e8
  obtain ⟨x9, e9, r9⟩ := OKc.int Try.underlying22 h9
  obtain rfl : c9 = _ := by simpa using e9
  obtain ⟨x10, e10, r10⟩ := OKc.int Try.underlying3 h10
  obtain rfl : c10 = _ := by simpa using e10
  obtain ⟨x11, e11, r11⟩ := OKc.int Try.underlying3 h11
  obtain rfl : c11 = _ := by simpa using e11
  obtain ⟨x12, e12, r12⟩ := OKc.int Try.underlying3 h12
  obtain rfl : c12 = _ := by simpa using e12
  obtain ⟨x13, e13, r13⟩ := OKc.int Try.underlying3 h13
  obtain rfl : c13 = _ := by simpa using e13
  obtain ⟨x14, e14, r14⟩ := OKc.int Try.underlying3 h14
  obtain rfl : c14 = _ := by simpa using e14
  obtain ⟨x15, e15, r15⟩ := OKc.int Try.underlying3 h15
  obtain rfl : c15 = _ := by simpa using e15
  obtain ⟨x16, e16, r16⟩ := OKc.int Try.underlying3 h16
  obtain rfl : c16 = _ := by simpa using e16
  obtain ⟨x17, e17, r17⟩ := OKc.int Try.underlying3 h17
  obtain rfl : c17 = _ := by simpa using e17
  obtain ⟨x18, e18, r18⟩ := OKc.int Try.underlying22 h18
  obtain rfl : c18 = _ := by simpa using e18
  obtain ⟨x19, e19, r19⟩ := OKc.int Try.underlying22 h19
  obtain rfl : c19 = _ := by simpa using e19
  exact ⟨⟨x0, x1, x2, x3, x4, x5, x6, x7, x8, x9, x10, x11, x12, x13, x14, x15, x16, x17, x18, x19⟩, rfl, ⟨r0, r1, r2, r3, r4, r5, r6, r7, r8, r9, r10, r11, r12, r13, r14, r15, r16, r17, r18, r19⟩⟩
structure X where
  e : Int
  a : Int
  w : Int
  deriving DecidableEq
def X.c (x : X) : List Value := [.int .i64 x.e, .int .u64 x.a, .int .u64 x.w]
def X.v (x : X) : Value := .agg x.c.toArray
structure X.ok (x : X) : Prop where
  e : -9223372036854775808 ≤ x.e ∧ x.e ≤ 9223372036854775807
  a : 0 ≤ x.a ∧ x.a ≤ 18446744073709551615
  w : 0 ≤ x.w ∧ x.w ≤ 18446744073709551615
theorem X.ext_iff' (x y : X) : x = y ↔ (x.e = y.e ∧ x.a = y.a ∧ x.w = y.w) := by
  cases x; cases y; simp
theorem openX {w : World} (f : Nat) (cs : List Value) (h : OKc Try.prog w f 24 cs) : ∃ x : X, cs = x.c ∧ x.ok := by
  obtain ⟨f, hl, h⟩ := OKc.struct Try.underlying24 h
  have hT : Try.prog.cellsOf 24 = 3 := by kernel_rfl
  have hc3 : Try.prog.cellsOf 3 = 1 := by kernel_rfl
  have hc22 : Try.prog.cellsOf 22 = 1 := by kernel_rfl
  rw [hT] at hl
  obtain ⟨c0, c1, c2, rfl⟩ : ∃ c0 c1 c2 : Value, cs = [c0, c1, c2] := by
    match cs, hl with
    | [c0, c1, c2], _ => exact ⟨_, _, _, rfl⟩
  simp only [List.mem_cons, List.not_mem_nil, or_false, forall_eq_or_imp, forall_eq, hc3, hc22, List.drop_zero, List.drop_succ_cons, List.take_succ_cons, List.take_zero] at h
  obtain ⟨h0, h1, h2⟩ := h
  obtain ⟨x0, e0, r0⟩ := OKc.int Try.underlying3 h0
  obtain rfl : c0 = _ := by simpa using e0
  obtain ⟨x1, e1, r1⟩ := OKc.int Try.underlying22 h1
  obtain rfl : c1 = _ := by simpa using e1
  obtain ⟨x2, e2, r2⟩ := OKc.int Try.underlying22 h2
  obtain rfl : c2 = _ := by simpa using e2
  exact ⟨⟨x0, x1, x2⟩, rfl, ⟨r0, r1, r2⟩⟩
end Go.Proofs.Ythdkbocfkbnpaaa
