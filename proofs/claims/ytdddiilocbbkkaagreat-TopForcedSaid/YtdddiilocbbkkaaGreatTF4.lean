/- TopForced: for every configuration and all operations the law returns true. No condition. Part 4 of 42. -/
import Derived.Test.YtdddiilocbbkkaaGreatTF3
set_option linter.unusedVariables false
set_option linter.unusedSimpArgs false
namespace Go.Proofs.YtdddiilocbbkkaaGreat
open Go.RowKit Go.Eg
set_option maxHeartbeats 4000000
set_option synthInstance.maxSize 3000
set_option maxRecDepth 100000
structure V where
 bal : Int
 st : Int
 sl : Bool
 rq : Int
 ex : Int
 wd : Int
 dl : Int
 deriving DecidableEq
def V.c (x : V) : List Value := [.int .u64 x.bal, .int .i64 x.st, .bool x.sl, .int .i64 x.rq, .int .i64 x.ex, .int .i64 x.wd, .int .i64 x.dl]
def V.v (x : V) : Value := .agg x.c.toArray
structure V.ok (x : V) : Prop where
 bal : 0 ≤ x.bal ∧ x.bal ≤ 18446744073709551615
 st : -9223372036854775808 ≤ x.st ∧ x.st ≤ 9223372036854775807
 rq : -9223372036854775808 ≤ x.rq ∧ x.rq ≤ 9223372036854775807
 ex : -9223372036854775808 ≤ x.ex ∧ x.ex ≤ 9223372036854775807
 wd : -9223372036854775808 ≤ x.wd ∧ x.wd ≤ 9223372036854775807
 dl : -9223372036854775808 ≤ x.dl ∧ x.dl ≤ 9223372036854775807
theorem V.ext_iff' (x y : V) : x = y ↔ (x.bal = y.bal ∧ x.st = y.st ∧ x.sl = y.sl ∧ x.rq = y.rq ∧ x.ex = y.ex ∧ x.wd = y.wd ∧ x.dl = y.dl) := by
 cases x; cases y; simp
structure C where
 capa : Int
 qsize : Int
 mind : Int
 maxd : Int
 supc : Int
 minb : Int
 maxb : Int
 minch : Int
 quot : Int
 fcap : Int
 unb : Int
 sld : Int
 rlen : Int
 elen : Int
 vis : Int
 pays : Int
 parts : Int
 merg : Int
 pnum : Int
 pden : Int
 deriving DecidableEq
def C.c (x : C) : List Value := [.int .i64 x.capa, .int .i64 x.qsize, .int .u64 x.mind, .int .u64 x.maxd, .int .u64 x.supc, .int .u64 x.minb, .int .u64 x.maxb, .int .u64 x.minch, .int .u64 x.quot, .int .u64 x.fcap, .int .i64 x.unb, .int .i64 x.sld, .int .i64 x.rlen, .int .i64 x.elen, .int .i64 x.vis, .int .i64 x.pays, .int .i64 x.parts, .int .i64 x.merg, .int .u64 x.pnum, .int .u64 x.pden]
def C.v (x : C) : Value := .agg x.c.toArray
structure C.ok (x : C) : Prop where
 capa : -9223372036854775808 ≤ x.capa ∧ x.capa ≤ 9223372036854775807
 qsize : -9223372036854775808 ≤ x.qsize ∧ x.qsize ≤ 9223372036854775807
 mind : 0 ≤ x.mind ∧ x.mind ≤ 18446744073709551615
 maxd : 0 ≤ x.maxd ∧ x.maxd ≤ 18446744073709551615
 supc : 0 ≤ x.supc ∧ x.supc ≤ 18446744073709551615
 minb : 0 ≤ x.minb ∧ x.minb ≤ 18446744073709551615
 maxb : 0 ≤ x.maxb ∧ x.maxb ≤ 18446744073709551615
 minch : 0 ≤ x.minch ∧ x.minch ≤ 18446744073709551615
 quot : 0 ≤ x.quot ∧ x.quot ≤ 18446744073709551615
 fcap : 0 ≤ x.fcap ∧ x.fcap ≤ 18446744073709551615
 unb : -9223372036854775808 ≤ x.unb ∧ x.unb ≤ 9223372036854775807
 sld : -9223372036854775808 ≤ x.sld ∧ x.sld ≤ 9223372036854775807
 rlen : -9223372036854775808 ≤ x.rlen ∧ x.rlen ≤ 9223372036854775807
 elen : -9223372036854775808 ≤ x.elen ∧ x.elen ≤ 9223372036854775807
 vis : -9223372036854775808 ≤ x.vis ∧ x.vis ≤ 9223372036854775807
 pays : -9223372036854775808 ≤ x.pays ∧ x.pays ≤ 9223372036854775807
 parts : -9223372036854775808 ≤ x.parts ∧ x.parts ≤ 9223372036854775807
 merg : -9223372036854775808 ≤ x.merg ∧ x.merg ≤ 9223372036854775807
 pnum : 0 ≤ x.pnum ∧ x.pnum ≤ 18446744073709551615
 pden : 0 ≤ x.pden ∧ x.pden ≤ 18446744073709551615
theorem openC {w : World} (f : Nat) (cs : List Value) (h : OKc Tryz.prog w f 24 cs) : ∃ x : C, cs = x.c ∧ x.ok := by
 obtain ⟨f, hl, h⟩ := OKc.struct Tryz.underlying24 h
 have hT : Tryz.prog.cellsOf 24 = 20 := by kernel_rfl
 have hc3 : Tryz.prog.cellsOf 3 = 1 := by kernel_rfl
 have hc22 : Tryz.prog.cellsOf 22 = 1 := by kernel_rfl
 rw [hT] at hl
 obtain ⟨c0, c1, c2, c3, c4, c5, c6, c7, c8, c9, c10, c11, c12, c13, c14, c15, c16, c17, c18, c19, rfl⟩ : ∃ c0 c1 c2 c3 c4 c5 c6 c7 c8 c9 c10 c11 c12 c13 c14 c15 c16 c17 c18 c19 : Value, cs = [c0, c1, c2, c3, c4, c5, c6, c7, c8, c9, c10, c11, c12, c13, c14, c15, c16, c17, c18, c19] := by
  match cs, hl with
  | [c0, c1, c2, c3, c4, c5, c6, c7, c8, c9, c10, c11, c12, c13, c14, c15, c16, c17, c18, c19], _ => exact ⟨_, _, _, _, _, _, _, _, _, _, _, _, _, _, _, _, _, _, _, _, rfl⟩
 simp only [List.mem_cons, List.not_mem_nil, or_false, forall_eq_or_imp, forall_eq, hc3, hc22, List.drop_zero, List.drop_succ_cons, List.take_succ_cons, List.take_zero] at h
 obtain ⟨h0, h1, h2, h3, h4, h5, h6, h7, h8, h9, h10, h11, h12, h13, h14, h15, h16, h17, h18, h19⟩ := h
 obtain ⟨x0, e0, r0⟩ := OKc.int Tryz.underlying3 h0
 obtain rfl : c0 = _ := by simpa using e0
 obtain ⟨x1, e1, r1⟩ := OKc.int Tryz.underlying3 h1
 obtain rfl : c1 = _ := by simpa using e1
 obtain ⟨x2, e2, r2⟩ := OKc.int Tryz.underlying22 h2
 obtain rfl : c2 = _ := by simpa using e2
 obtain ⟨x3, e3, r3⟩ := OKc.int Tryz.underlying22 h3
 obtain rfl : c3 = _ := by simpa using e3
 obtain ⟨x4, e4, r4⟩ := OKc.int Tryz.underlying22 h4
 obtain rfl : c4 = _ := by simpa using e4
 obtain ⟨x5, e5, r5⟩ := OKc.int Tryz.underlying22 h5
 obtain rfl : c5 = _ := by simpa using e5
 obtain ⟨x6, e6, r6⟩ := OKc.int Tryz.underlying22 h6
 obtain rfl : c6 = _ := by simpa using e6
 obtain ⟨x7, e7, r7⟩ := OKc.int Tryz.underlying22 h7
 obtain rfl : c7 = _ := by simpa using e7
 obtain ⟨x8, e8, r8⟩ := OKc.int Tryz.underlying22 h8
 obtain rfl : c8 = _ := by simpa using e8
 obtain ⟨x9, e9, r9⟩ := OKc.int Tryz.underlying22 h9
 obtain rfl : c9 = _ := by simpa using e9
 obtain ⟨x10, e10, r10⟩ := OKc.int Tryz.underlying3 h10
 obtain rfl : c10 = _ := by simpa using e10
 obtain ⟨x11, e11, r11⟩ := OKc.int Tryz.underlying3 h11
 obtain rfl : c11 = _ := by simpa using e11
 obtain ⟨x12, e12, r12⟩ := OKc.int Tryz.underlying3 h12
 obtain rfl : c12 = _ := by simpa using e12
 obtain ⟨x13, e13, r13⟩ := OKc.int Tryz.underlying3 h13
 obtain rfl : c13 = _ := by simpa using e13
 obtain ⟨x14, e14, r14⟩ := OKc.int Tryz.underlying3 h14
 obtain rfl : c14 = _ := by simpa using e14
 obtain ⟨x15, e15, r15⟩ := OKc.int Tryz.underlying3 h15
 obtain rfl : c15 = _ := by simpa using e15
 obtain ⟨x16, e16, r16⟩ := OKc.int Tryz.underlying3 h16
 obtain rfl : c16 = _ := by simpa using e16
 obtain ⟨x17, e17, r17⟩ := OKc.int Tryz.underlying3 h17
 obtain rfl : c17 = _ := by simpa using e17
 obtain ⟨x18, e18, r18⟩ := OKc.int Tryz.underlying22 h18
 obtain rfl : c18 = _ := by simpa using e18
 obtain ⟨x19, e19, r19⟩ := OKc.int Tryz.underlying22 h19
 obtain rfl : c19 = _ := by simpa using e19
 exact ⟨⟨x0, x1, x2, x3, x4, x5, x6, x7, x8, x9, x10, x11, x12, x13, x14, x15, x16, x17, x18, x19⟩, rfl, ⟨r0, r1, r2, r3, r4, r5, r6, r7, r8, r9, r10, r11, r12, r13, r14, r15, r16, r17, r18, r19⟩⟩
structure Op where
 k : Int
 i : Int
 t : Int
 a : Int
 deriving DecidableEq
def Op.c (x : Op) : List Value := [.int .i64 x.k, .int .i64 x.i, .int .i64 x.t, .int .u64 x.a]
structure Op.ok (x : Op) : Prop where
 k : -9223372036854775808 ≤ x.k ∧ x.k ≤ 9223372036854775807
 i : -9223372036854775808 ≤ x.i ∧ x.i ≤ 9223372036854775807
 t : -9223372036854775808 ≤ x.t ∧ x.t ≤ 9223372036854775807
 a : 0 ≤ x.a ∧ x.a ≤ 18446744073709551615
theorem Op.ext_iff' (x y : Op) : x = y ↔ (x.k = y.k ∧ x.i = y.i ∧ x.t = y.t ∧ x.a = y.a) := by
 cases x; cases y; simp
theorem openOp {w : World} (f : Nat) (cs : List Value) (h : OKc Tryz.prog w f 35 cs) : ∃ x : Op, cs = x.c ∧ x.ok := by
 obtain ⟨f, hl, h⟩ := OKc.struct Tryz.underlying35 h
 have hT : Tryz.prog.cellsOf 35 = 4 := by kernel_rfl
 have hc3 : Tryz.prog.cellsOf 3 = 1 := by kernel_rfl
 have hc22 : Tryz.prog.cellsOf 22 = 1 := by kernel_rfl
 rw [hT] at hl
 obtain ⟨c0, c1, c2, c3, rfl⟩ : ∃ c0 c1 c2 c3 : Value, cs = [c0, c1, c2, c3] := by
  match cs, hl with
  | [c0, c1, c2, c3], _ => exact ⟨_, _, _, _, rfl⟩
 simp only [List.mem_cons, List.not_mem_nil, or_false, forall_eq_or_imp, forall_eq, hc3, hc22, List.drop_zero, List.drop_succ_cons, List.take_succ_cons, List.take_zero] at h
 obtain ⟨h0, h1, h2, h3⟩ := h
 obtain ⟨x0, e0, r0⟩ := OKc.int Tryz.underlying3 h0
 obtain rfl : c0 = _ := by simpa using e0
 obtain ⟨x1, e1, r1⟩ := OKc.int Tryz.underlying3 h1
 obtain rfl : c1 = _ := by simpa using e1
 obtain ⟨x2, e2, r2⟩ := OKc.int Tryz.underlying3 h2
 obtain rfl : c2 = _ := by simpa using e2
 obtain ⟨x3, e3, r3⟩ := OKc.int Tryz.underlying22 h3
 obtain rfl : c3 = _ := by simpa using e3
 exact ⟨⟨x0, x1, x2, x3⟩, rfl, ⟨r0, r1, r2, r3⟩⟩
structure En where
 e : Int
 i : Int
 deriving DecidableEq
def En.c (x : En) : List Value := [.int .i64 x.e, .int .i64 x.i]
structure Rq where
 i : Int
 m : Int
 deriving DecidableEq
def Rq.c (x : Rq) : List Value := [.int .i64 x.i, .int .u64 x.m]
structure PP where
 a : Int
 b : Int
def PP.c (x : PP) : List Value := [.int .i64 x.a, .int .i64 x.b]
def dflt : C := ⟨16, 8, 16, 64, 1024, 8, 128, 32, 4, 64, 2, 5, 4, 4, 6, 4, 2, 2, 1, 4⟩
theorem dflt_any  (w : World) : Pur Tryz.prog 30 [] w (dflt.v) := by
 refine g_st Tryz.func30 2 (WOK.start [] _) ?_
 refine rn [1] ?_
 refine g_op (zI rfl fun b0 => ?_)
 refine rn [0,1] ?_
 refine s_q (yH (c := dflt.c) rfl rfl) rfl ?_
 refine rn [33,0,11] ?_
 exact fin1 rfl (.cellw rfl rfl) (fun w' hw => ⟨by rfl, hw.upd⟩) _ (.inl rfl)
def btw (n lo hi : Int) : Bool := decide (lo ≤ n) && decide (n ≤ hi)
def rightB (c : C) (i : Int) : Bool :=
 if i = 1 then btw c.capa 1 4096 else if i = 2 then btw c.qsize 1 4096 else if i = 3 then decide (1 ≤ c.mind) else if i = 4 then decide (c.mind ≤ c.maxd)
 else if i = 5 then decide (c.maxd ≤ c.supc) && decide (c.supc ≤ 1152921504606846976) else if i = 6 then decide (1 ≤ c.minb) && decide (c.minb ≤ c.mind)
 else if i = 7 then decide (c.maxd ≤ c.maxb) && decide (c.maxb ≤ c.supc) else if i = 8 then decide (1 ≤ c.minch) && decide (c.minch ≤ 1152921504606846976)
 else if i = 9 then decide (1 ≤ c.quot) else if i = 10 then decide (c.fcap ≤ 1152921504606846976) else if i = 11 then btw c.unb 1 1048576
 else if i = 12 then decide (c.unb < c.sld) && decide (c.sld ≤ 1048576) else if i = 13 then btw c.rlen 1 4096 else if i = 14 then btw c.elen 1 4096
 else if i = 15 then btw c.vis 1 4096 else if i = 16 then btw c.pays 1 4096 else if i = 17 then decide (0 ≤ c.parts) && (decide (c.parts < c.vis) && decide (c.parts < c.pays))
 else if i = 18 then btw c.merg 0 4096 else if i = 19 then decide (c.pnum ≤ c.pden) else decide (1 ≤ c.pden) && decide (c.pden ≤ 4294967296)
def chkF (c : C) : Nat → Nat → Int
 | 0, _ => 0
 | f + 1, i => if rightB c i then chkF c f (i + 1) else i
def chk (c : C) : Int := chkF c 20 1
theorem chkF_right {c : C} : ∀ {f i : Nat}, chkF c f i = 0 → 0 < i → ∀ j, i ≤ j → j < i + f → rightB c j = true
 | 0, i, _, _, j, h1, h2 => by omega
 | f + 1, i, h, hi, j, h1, h2 => by
  unfold chkF at h
  split at h
  ·by_cases hj : j = i
   ·subst hj; assumption
   ·exact chkF_right h (by omega) j (by omega) (by omega)
  ·omega
theorem zU {c : C} (h : chk c = 0) (j : Nat) (h1 : 1 ≤ j) (h2 : j ≤ 20) : rightB c j = true := chkF_right h (by omega) j h1 (by omega)
theorem btw_any (n lo hi : Int) (w : World) : Pur Tryz.prog 140 [.int .i64 n, .int .i64 lo, .int .i64 hi] w (.bool (btw n lo hi)) := by
 refine g_st Tryz.func140 15 (WOK.start [] _) ?_
 refine rn [1,3,0,1,2,2,56,2] ?_
 refine zV 10 rfl (fun h1 => ?_) (fun h1 => ?_)
 ·refine rn [22,2,22,2,22,56,41,3,0,11] ?_
  exact fin1 rfl (.tmp rfl) (fun w' hw => ⟨by first | rfl | (simp_all [btw]; done) | (simp_all [btw]; omega) | (simp_all [btw] <;> intros <;> omega), hw.upd⟩) _ (.inl rfl)
 ·refine rn [21,21,21,42,3,0,11] ?_
  exact fin1 rfl (.tmp rfl) (fun w' hw => ⟨by first | rfl | (simp_all [btw]; done) | (simp_all [btw]; omega) | (simp_all [btw] <;> intros <;> omega), hw.upd⟩) _ (.inl rfl)
theorem right_any (c : C) (i : Int) (w : World) : Pur Tryz.prog 85 [c.v, .int .i64 i] w (.bool (rightB c i)) := by
 refine g_st Tryz.func85 166 (WOK.start [] _) ?_
 refine rn [1] ?_
 refine g_op (g_box rfl rfl rfl fun b2 => ?_)
 refine rn [3,0,1,3,0,8,1,2,0,14,1,44,3,0] ?_
 refine zC rfl (fun h1 => ?_) (fun h1 => ?_)
 ·refine rn [1,4,5] ?_
  refine g_op (zG rfl (fun w hw => btw_any _ _ _ w) rfl ?_)
  refine rn [3,0,11] ?_
  refine zN (zD ?_)
  exact fin1 rfl (.tmp rfl) (fun w' hw => ⟨by first | rfl | (simp_all [rightB]; done) | (simp_all [rightB]; omega) | (simp_all [rightB] <;> intros <;> omega), hw.upd⟩) _ (.inl rfl)
 ·refine rn [1,44,3,0] ?_
  refine zC rfl (fun h2 => ?_) (fun h2 => ?_)
  ·refine rn [1,4,5] ?_
   refine g_op (zG rfl (fun w hw => btw_any _ _ _ w) rfl ?_)
   refine rn [3,0,11] ?_
   refine zN (zD ?_)
   exact fin1 rfl (.tmp rfl) (fun w' hw => ⟨by first | rfl | (simp_all [rightB]; done) | (simp_all [rightB]; omega) | (simp_all [rightB] <;> intros <;> omega), hw.upd⟩) _ (.inl rfl)
  ·refine rn [1,44,3,0] ?_
   refine zC rfl (fun h3 => ?_) (fun h3 => ?_)
   ·refine rn [1,4,5,53,3,0,11] ?_
    refine zN (zD ?_)
    exact fin1 rfl (.tmp rfl) (fun w' hw => ⟨by first | rfl | (simp_all [rightB]; done) | (simp_all [rightB]; omega) | (simp_all [rightB] <;> intros <;> omega), hw.upd⟩) _ (.inl rfl)
   ·refine rn [1,44,3,0] ?_
    refine zC rfl (fun h4 => ?_) (fun h4 => ?_)
    ·refine rn [1,4,5,4,5,53,3,0,11] ?_
     refine zN (zD ?_)
     exact fin1 rfl (.tmp rfl) (fun w' hw => ⟨by first | rfl | (simp_all [rightB]; done) | (simp_all [rightB]; omega) | (simp_all [rightB] <;> intros <;> omega), hw.upd⟩) _ (.inl rfl)
    ·refine rn [1,44,3,0] ?_
     refine zC rfl (fun h5 => ?_) (fun h5 => ?_)
     ·refine rn [1,4,5,4,5,53,2] ?_
      refine zV 36 rfl (fun h6 => ?_) (fun h6 => ?_)
      ·refine rn [22,4,22,5,22,2,22,56,41,3,0,11] ?_
       refine zN (zD ?_)
       exact fin1 rfl (.tmp rfl) (fun w' hw => ⟨by first | rfl | (simp_all [rightB]; done) | (simp_all [rightB]; omega) | (simp_all [rightB] <;> intros <;> omega), hw.upd⟩) _ (.inl rfl)
      ·refine rn [21,21,21,21,42,3,0,11] ?_
       refine zN (zD ?_)
       exact fin1 rfl (.tmp rfl) (fun w' hw => ⟨by first | rfl | (simp_all [rightB]; done) | (simp_all [rightB]; omega) | (simp_all [rightB] <;> intros <;> omega), hw.upd⟩) _ (.inl rfl)
     ·refine rn [1,44,3,0] ?_
      refine zC rfl (fun h7 => ?_) (fun h7 => ?_)
      ·refine rn [1,4,5,53,2] ?_
       refine zV 47 rfl (fun h8 => ?_) (fun h8 => ?_)
       ·refine rn [22,4,22,5,22,4,22,5,22,56,41,3,0,11] ?_
        refine zN (zD ?_)
        exact fin1 rfl (.tmp rfl) (fun w' hw => ⟨by first | rfl | (simp_all [rightB]; done) | (simp_all [rightB]; omega) | (simp_all [rightB] <;> intros <;> omega), hw.upd⟩) _ (.inl rfl)
       ·refine rn [21,21,21,21,21,42,3,0,11] ?_
        refine zN (zD ?_)
        exact fin1 rfl (.tmp rfl) (fun w' hw => ⟨by first | rfl | (simp_all [rightB]; done) | (simp_all [rightB]; omega) | (simp_all [rightB] <;> intros <;> omega), hw.upd⟩) _ (.inl rfl)
      ·refine rn [1,44,3,0] ?_
       refine zC rfl (fun h9 => ?_) (fun h9 => ?_)
       ·refine rn [1,4,5,4,5,53,2] ?_
        refine zV 61 rfl (fun h10 => ?_) (fun h10 => ?_)
        ·refine rn [22,4,22,5,22,4,22,5,22,56,41,3,0,11] ?_
         refine zN (zD ?_)
         exact fin1 rfl (.tmp rfl) (fun w' hw => ⟨by first | rfl | (simp_all [rightB]; done) | (simp_all [rightB]; omega) | (simp_all [rightB] <;> intros <;> omega), hw.upd⟩) _ (.inl rfl)
        ·refine rn [21,21,21,21,21,42,3,0,11] ?_
         refine zN (zD ?_)
         exact fin1 rfl (.tmp rfl) (fun w' hw => ⟨by first | rfl | (simp_all [rightB]; done) | (simp_all [rightB]; omega) | (simp_all [rightB] <;> intros <;> omega), hw.upd⟩) _ (.inl rfl)
       ·refine rn [1,44,3,0] ?_
        refine zC rfl (fun h11 => ?_) (fun h11 => ?_)
        ·refine rn [1,4,5,53,2] ?_
         refine zV 73 rfl (fun h12 => ?_) (fun h12 => ?_)
         ·refine rn [22,4,22,5,22,2,22,56,41,3,0,11] ?_
          refine zN (zD ?_)
          exact fin1 rfl (.tmp rfl) (fun w' hw => ⟨by first | rfl | (simp_all [rightB]; done) | (simp_all [rightB]; omega) | (simp_all [rightB] <;> intros <;> omega), hw.upd⟩) _ (.inl rfl)
         ·refine rn [21,21,21,21,42,3,0,11] ?_
          refine zN (zD ?_)
          exact fin1 rfl (.tmp rfl) (fun w' hw => ⟨by first | rfl | (simp_all [rightB]; done) | (simp_all [rightB]; omega) | (simp_all [rightB] <;> intros <;> omega), hw.upd⟩) _ (.inl rfl)
        ·refine rn [1,44,3,0] ?_
         refine zC rfl (fun h13 => ?_) (fun h13 => ?_)
         ·refine rn [1,4,5,53,3,0,11] ?_
          refine zN (zD ?_)
          exact fin1 rfl (.tmp rfl) (fun w' hw => ⟨by first | rfl | (simp_all [rightB]; done) | (simp_all [rightB]; omega) | (simp_all [rightB] <;> intros <;> omega), hw.upd⟩) _ (.inl rfl)
         ·refine rn [1,44,3,0] ?_
          refine zC rfl (fun h14 => ?_) (fun h14 => ?_)
          ·refine rn [1,4,5,2,56,3,0,11] ?_
           refine zN (zD ?_)
           exact fin1 rfl (.tmp rfl) (fun w' hw => ⟨by first | rfl | (simp_all [rightB]; done) | (simp_all [rightB]; omega) | (simp_all [rightB] <;> intros <;> omega), hw.upd⟩) _ (.inl rfl)
          ·refine rn [1,44,3,0] ?_
           refine zC rfl (fun h15 => ?_) (fun h15 => ?_)
           ·refine rn [1,4,5] ?_
            refine g_op (zG rfl (fun w hw => btw_any _ _ _ w) rfl ?_)
            refine rn [3,0,11] ?_
            refine zN (zD ?_)
            exact fin1 rfl (.tmp rfl) (fun w' hw => ⟨by first | rfl | (simp_all [rightB]; done) | (simp_all [rightB]; omega) | (simp_all [rightB] <;> intros <;> omega), hw.upd⟩) _ (.inl rfl)
           ·refine rn [1,44,3,0] ?_
            refine zC rfl (fun h16 => ?_) (fun h16 => ?_)
            ·refine rn [1,4,5,4,5,55,2] ?_
             refine zV 102 rfl (fun h17 => ?_) (fun h17 => ?_)
             ·refine rn [22,4,22,5,22,56,41,3,0,11] ?_
              refine zN (zD ?_)
              exact fin1 rfl (.tmp rfl) (fun w' hw => ⟨by first | rfl | (simp_all [rightB]; done) | (simp_all [rightB]; omega) | (simp_all [rightB] <;> intros <;> omega), hw.upd⟩) _ (.inl rfl)
             ·refine rn [21,21,21,42,3,0,11] ?_
              refine zN (zD ?_)
              exact fin1 rfl (.tmp rfl) (fun w' hw => ⟨by first | rfl | (simp_all [rightB]; done) | (simp_all [rightB]; omega) | (simp_all [rightB] <;> intros <;> omega), hw.upd⟩) _ (.inl rfl)
            ·refine rn [1,44,3,0] ?_
             refine zC rfl (fun h18 => ?_) (fun h18 => ?_)
             ·refine rn [1,4,5] ?_
              refine g_op (zG rfl (fun w hw => btw_any _ _ _ w) rfl ?_)
              refine rn [3,0,11] ?_
              refine zN (zD ?_)
              exact fin1 rfl (.tmp rfl) (fun w' hw => ⟨by first | rfl | (simp_all [rightB]; done) | (simp_all [rightB]; omega) | (simp_all [rightB] <;> intros <;> omega), hw.upd⟩) _ (.inl rfl)
             ·refine rn [1,44,3,0] ?_
              refine zC rfl (fun h19 => ?_) (fun h19 => ?_)
              ·refine rn [1,4,5] ?_
               refine g_op (zG rfl (fun w hw => btw_any _ _ _ w) rfl ?_)
               refine rn [3,0,11] ?_
               refine zN (zD ?_)
               exact fin1 rfl (.tmp rfl) (fun w' hw => ⟨by first | rfl | (simp_all [rightB]; done) | (simp_all [rightB]; omega) | (simp_all [rightB] <;> intros <;> omega), hw.upd⟩) _ (.inl rfl)
              ·refine rn [1,44,3,0] ?_
               refine zC rfl (fun h20 => ?_) (fun h20 => ?_)
               ·refine rn [1,4,5] ?_
                refine g_op (zG rfl (fun w hw => btw_any _ _ _ w) rfl ?_)
                refine rn [3,0,11] ?_
                refine zN (zD ?_)
                exact fin1 rfl (.tmp rfl) (fun w' hw => ⟨by first | rfl | (simp_all [rightB]; done) | (simp_all [rightB]; omega) | (simp_all [rightB] <;> intros <;> omega), hw.upd⟩) _ (.inl rfl)
               ·refine rn [1,44,3,0] ?_
                refine zC rfl (fun h21 => ?_) (fun h21 => ?_)
                ·refine rn [1,4,5] ?_
                 refine g_op (zG rfl (fun w hw => btw_any _ _ _ w) rfl ?_)
                 refine rn [3,0,11] ?_
                 refine zN (zD ?_)
                 exact fin1 rfl (.tmp rfl) (fun w' hw => ⟨by first | rfl | (simp_all [rightB]; done) | (simp_all [rightB]; omega) | (simp_all [rightB] <;> intros <;> omega), hw.upd⟩) _ (.inl rfl)
                ·refine rn [1,44,3,0] ?_
                 refine zC rfl (fun h22 => ?_) (fun h22 => ?_)
                 ·refine rn [1,4,5,53,2] ?_
                  refine zV 132 rfl (fun h23 => ?_) (fun h23 => ?_)
                  ·refine rn [22,4,22,5,22,4,22,5,22,46,41,2] ?_
                   refine zV 139 rfl (fun h24 => ?_) (fun h24 => ?_)
                   ·refine rn [22,4,22,5,22,4,22,5,22,46,41,3,0,11] ?_
                    refine zN (zD ?_)
                    exact fin1 rfl (.tmp rfl) (fun w' hw => ⟨by first | rfl | (simp_all [rightB]; done) | (simp_all [rightB]; omega) | (simp_all [rightB] <;> intros <;> omega), hw.upd⟩) _ (.inl rfl)
                   ·refine rn [21,21,21,21,21,42,3,0,11] ?_
                    refine zN (zD ?_)
                    exact fin1 rfl (.tmp rfl) (fun w' hw => ⟨by first | rfl | (simp_all [rightB]; done) | (simp_all [rightB]; omega) | (simp_all [rightB] <;> intros <;> omega), hw.upd⟩) _ (.inl rfl)
                  ·refine rn [21,21,21,21,21,42,2,21,21,21,21,21,42,3,0,11] ?_
                   refine zN (zD ?_)
                   exact fin1 rfl (.tmp rfl) (fun w' hw => ⟨by first | rfl | (simp_all [rightB]; done) | (simp_all [rightB]; omega) | (simp_all [rightB] <;> intros <;> omega), hw.upd⟩) _ (.inl rfl)
                 ·refine rn [1,44,3,0] ?_
                  refine zC rfl (fun h25 => ?_) (fun h25 => ?_)
                  ·refine rn [1,4,5] ?_
                   refine g_op (zG rfl (fun w hw => btw_any _ _ _ w) rfl ?_)
                   refine rn [3,0,11] ?_
                   refine zN (zD ?_)
                   exact fin1 rfl (.tmp rfl) (fun w' hw => ⟨by first | rfl | (simp_all [rightB]; done) | (simp_all [rightB]; omega) | (simp_all [rightB] <;> intros <;> omega), hw.upd⟩) _ (.inl rfl)
                  ·refine rn [1,44,3,0] ?_
                   refine zC rfl (fun h26 => ?_) (fun h26 => ?_)
                   ·refine rn [1,4,5,4,5,56,3,0,11] ?_
                    refine zN (zD ?_)
                    exact fin1 rfl (.tmp rfl) (fun w' hw => ⟨by first | rfl | (simp_all [rightB]; done) | (simp_all [rightB]; omega) | (simp_all [rightB] <;> intros <;> omega), hw.upd⟩) _ (.inl rfl)
                   ·refine rn [12,15,7,1,4,5,53,2] ?_
                    refine zV 161 rfl (fun h27 => ?_) (fun h27 => ?_)
                    ·refine rn [22,4,22,5,22,56,41,3,0,11] ?_
                     exact fin1 rfl (.tmp rfl) (fun w' hw => ⟨by first | rfl | (simp_all [rightB]; done) | (simp_all [rightB]; omega) | (simp_all [rightB] <;> intros <;> omega), hw.upd⟩) _ (.inl rfl)
                    ·refine rn [21,21,21,42,3,0,11] ?_
                     exact fin1 rfl (.tmp rfl) (fun w' hw => ⟨by first | rfl | (simp_all [rightB]; done) | (simp_all [rightB]; omega) | (simp_all [rightB] <;> intros <;> omega), hw.upd⟩) _ (.inl rfl)
theorem chk_any (c : C) (w : World) : Pur Tryz.prog 29 [c.v] w (.int .i64 (chk c)) := by
 refine g_st Tryz.func29 13 (WOK.start [] _) ?_
 refine rn [1] ?_
 refine g_op (g_box rfl rfl rfl fun b1 => ?_)
 refine rn [3,0,8,1,3,0,14] ?_
 refine g_loopk [1] (fun (i : Nat) => [(3, .int .i64 (i : Int))]) (fun _ => [Res.blk b1 24 c.c]) (fun i => 1 ≤ i ∧ i ≤ 21 ∧ chk c = chkF c (21 - i) i) (fun i => 21 - i) 1 ⟨by omega, by omega, rfl⟩ rfl ⟨rfl, trivial⟩ wok_id ?_
 rintro i ⟨hi1, hi2, hi3⟩
 refine rn [8,1,2,56,0] ?_
 refine zC rfl (fun h1 => ?_) (fun h1 => ?_)
 ·refine rn [12,7,8,14,1,45,2] ?_
  refine g_op (zG rfl (fun w hw => right_any _ _ w) rfl ?_)
  refine rn [48,0] ?_
  refine zC rfl (fun h2 => ?_) (fun h2 => ?_)
  ·refine rn [1,2,3,0,11] ?_
   refine zN (zD (zD (zN (zD ?_))))
   exact fin1 rfl (.tmp rfl) (fun w' hw => ⟨by rw [hi3, show 21 - i = (21 - (i + 1)) + 1 by simp_all; omega, chkF]; simp_all, hw.upd⟩) _ (.inl rfl)
  ·refine rn [12,15,7,10,2,43,3,9] ?_
   exact g_again (i + 1) ⟨by omega, by simp_all; omega, by rw [hi3, show 21 - i = (21 - (i + 1)) + 1 by simp_all; omega, chkF]; simp_all⟩ (by simp_all; omega) ⟨rfl, rfl, trivial⟩ wok_id
 ·refine rn [16] ?_
  refine zE (zE (zQ ?_))
  refine rn [7,1,3,0,11] ?_
  exact fin1 rfl (.tmp rfl) (fun w' hw => ⟨by rw [hi3, show 21 - i = 0 by simp_all; omega]; rfl, hw.upd⟩) _ (.inl rfl)
def addB (l : List Int) : Bool := decide (l.sum ≤ 18446744073709551615)
def addV (l : List Int) : Int := if l.sum ≤ 18446744073709551615 then l.sum else 0
def okU (l : List Int) : Prop := ∀ x ∈ l, 0 ≤ x ∧ x ≤ 18446744073709551615
theorem xK : ∀ {l : List Int}, (∀ x ∈ l, 0 ≤ x) → 0 ≤ l.sum
 | [], _ => by simp
 | x :: l, h => by
  have := xK (l := l) fun y hy => h y (by simp [hy])
  have := h x (by simp)
  simp only [List.sum_cons]; omega
theorem sum_take {l : List Int} (h : okU l) {k : Nat} (hk : k < l.length) : (l.take (k + 1)).sum = (l.take k).sum + l[k] ∧ 0 ≤ (l.take k).sum ∧ 0 ≤ l[k] ∧ l[k] ≤ 18446744073709551615 := by
 have h1 := h l[k] (List.getElem_mem _)
 refine ⟨?_, xK fun x hx => (h x (List.mem_of_mem_take hx)).1, h1.1, h1.2⟩
 rw [← List.take_append_getElem hk, List.sum_append]; simp
theorem sum_le {l : List Int} (h : okU l) (k : Nat) : (l.take k).sum ≤ l.sum := by
 have e : l.sum = (l.take k).sum + (l.drop k).sum := by rw [← List.sum_append, List.take_append_drop]
 have := xK (l := l.drop k) fun x hx => (h x (List.mem_of_mem_drop hx)).1
 omega
theorem add_over {l : List Int} (h : okU l) {k : Nat} (hk : 18446744073709551615 < (l.take k).sum) : addB l = false ∧ addV l = 0 := by
 have := sum_le h k
 refine ⟨decide_eq_false (by omega), if_neg (by omega)⟩
theorem add_fits {l : List Int} (h : l.sum ≤ 18446744073709551615) : addB l = true ∧ addV l = l.sum := ⟨decide_eq_true h, if_pos h⟩
theorem sat_any (A : Option Addr) (n cap : Nat) (l : List Int) (w : World) (ha : Old w A n 1 (l.map (fun v : Int => [Value.int .u64 v]))) (hl : okU l) (hb : n ≤ 1000000) : Pur Tryz.prog 241 [.slice A n cap] w (.tuple [.int .u64 (if l.sum ≤ 18446744073709551615 then l.sum else 18446744073709551615), .bool (!addB l)].toArray) := by
 refine g_st Tryz.func241 23 (WOK.start [] _) ?_
 have hn : n = l.length := by simpa using ha.len
 refine rn [1,3,3,0,1,3,0,8,1,2,47,2,0,14] ?_
 refine g_lk [2, 3, 7, 8] (fun (x : Nat) => [(4, .int .u64 ((l.take x).sum)), (9, .int .i64 ((x : Nat) : Int))]) (fun (x : Nat) => []) (fun (x : Nat) => x ≤ n ∧ (l.take x).sum ≤ 18446744073709551615) (fun (x : Nat) => n - x) 0 (by (try dsimp only); exact ⟨Nat.zero_le _, (by simp)⟩) ?_
 rintro k ⟨le_k, hs⟩
 replace le_k : k ≤ n := le_k
 replace hs : (l.take k).sum ≤ 18446744073709551615 := hs
 refine rn [1,46,0,8] ?_
 refine zC rfl (fun h1 => ?_) (fun h1 => ?_)
 ·have lt_k : k < n := by have h9 := of_decide_eq_true h1; omega
  refine rn [12,7,8,14,1] ?_
  refine s_q (zR (i := k) rfl rfl rfl (ha.rdb rfl) (by first | exact lt_k | omega)) rfl ?_
  refine s_q (yL (i := k) (o := 0) rfl (ha.rdb rfl) (zS (by first | assumption | omega)) rfl rfl) rfl ?_
  refine rn [3,0,8,1,2,2,54,2,46,0] ?_
  refine zC rfl (fun h2 => ?_) (fun h2 => ?_)
  ·refine rn [1,3,3,0,11] ?_
   refine zD (zN (zD (zD (zN (zD ?_)))))
   exact fin2 rfl (.tmp rfl) (.tmp rfl) (fun w' hw' => ⟨by have h9 := sum_take hl (k := k) (by omega); have h8 : 18446744073709551615 < (l.take (k + 1)).sum := (by simp at h2; rw [IntKind.wrap_u64] at h2; omega); have h7 := add_over hl h8; have h6 := sum_le hl (k + 1); rw [h7.1, if_neg (by omega)]; rfl, hw'.upd⟩) _ (.inl rfl)
  ·refine rn [12,7,10,2,2] ?_
   refine s_q (yM (z := (l.take (k + 1)).sum) rfl rfl (by have h9 := sum_take hl (k := k) (by omega); simp at h2; rw [IntKind.wrap_u64] at h2 ⊢; omega)) rfl ?_
   refine rn [3,9,15,7,10,43,2,9] ?_
   exact g_ag (k + 1) (by (try dsimp only); exact ⟨(by first | exact lt_k | omega), (by have := sum_take hl (k := k) (by omega); simp at h2; rw [IntKind.wrap_u64] at h2; omega)⟩)
 ·have eq_k : k = n := by have h9 := of_decide_eq_false h1; omega
  refine rn [16] ?_
  refine zE (zE (zQ ?_))
  refine rn [7,1,2,3,3,0,11] ?_
  exact fin2 rfl (.tmp rfl) (.tmp rfl) (fun w' hw' => ⟨by have e8 : l.take k = l := (by rw [eq_k, hn, List.take_length]); rw [e8] at hs ⊢; have h7 := add_fits hs; rw [h7.1, if_pos hs]; rfl, hw'.upd⟩) _ (.inl rfl)
theorem add_any (A : Option Addr) (n cap : Nat) (l : List Int) (w : World) (ha : Old w A n 1 (l.map (fun v : Int => [Value.int .u64 v]))) (hl : okU l) (hb : n ≤ 1000000) : Pur Tryz.prog 163 [.slice A n cap] w (.tuple [.int .u64 (addV l), .bool (addB l)].toArray) := by
 refine g_st Tryz.func163 13 (WOK.start [] _) ?_
 have hn : n = l.length := by simpa using ha.len
 refine rn [1,3,3,0,1,2] ?_
 refine g_op (zG rfl (fun w1 hw1 => sat_any A (n) (cap) (l) w1 (Rdb.toOld (ha.rdb rfl) hw1) (by first | assumption | (intro x hx; simp at hx; first | (rcases hx with rfl | rfl <;> omega) | (rcases hx with rfl | rfl | rfl <;> omega) | (subst hx; omega))) (by first | omega | (simp; omega) | (simp; done))) rfl ?_)
 refine rn [2,40,40,3,3,0,8,1,2,0] ?_
 refine zC rfl (fun h1 => ?_) (fun h1 => ?_)
 ·refine rn [1,3,3,0,11,13] ?_
  exact fin2 rfl (.tmp rfl) (.tmp rfl) (fun w' hw' => ⟨by simp [addB] at h1; simp [addB, addV]; omega, hw'.upd⟩) _ (.inl rfl)
 ·refine rn [12,7,1,2,3,3,0,11] ?_
  exact fin2 rfl (.tmp rfl) (.tmp rfl) (fun w' hw' => ⟨by simp [addB] at h1; simp [addB, addV, h1], hw'.upd⟩) _ (.inl rfl)
end Go.Proofs.YtdddiilocbbkkaaGreat
