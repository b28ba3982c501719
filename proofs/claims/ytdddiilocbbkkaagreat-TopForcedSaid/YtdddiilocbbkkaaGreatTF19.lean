/- TopForced: for every configuration and all operations the law returns true. No condition. Part 19 of 42. -/
import Derived.Test.YtdddiilocbbkkaaGreatTF3
set_option linter.unusedVariables false
set_option linter.unusedSimpArgs false
namespace Go.Proofs.YtdddiilocbbkkaaGreat
open Go.RowKit Go.Eg
set_option maxHeartbeats 4000000
set_option synthInstance.maxSize 3000
set_option maxRecDepth 100000
theorem mul64_any (x y : Nat) (w : World) (hx : x < 18446744073709551616) (hy : y < 18446744073709551616) : Pur Tryz.prog 145 [.int .u64 ((x : Nat) : Int), .int .u64 ((y : Nat) : Int)] w (.tuple [.int .u64 ((x * y / 18446744073709551616 : Nat) : Int), .int .u64 ((x * y % 18446744073709551616 : Nat) : Int)].toArray) := by
 refine g_st Tryz.func145 51 (WOK.start [] _) ?_
 obtain ⟨bd, bt, bw, hhi⟩ := Lib.mul64_hi x y hx hy
 have ba := Lib.half_mul_le (a := x / 4294967296) (b := y / 4294967296) (by omega) (by omega)
 have bb := Lib.half_mul_le (a := x / 4294967296) (b := y % 4294967296) (by omega) (by omega)
 have bc := Lib.half_mul_le (a := x % 4294967296) (b := y / 4294967296) (by omega) (by omega)
 refine rn [1,3,3,0,1,2] ?_
 refine s_q (q_and32 (a := x) rfl rfl hx) rfl ?_
 refine rn [3,0,1,2] ?_
 refine s_q (q_shr32 (a := x) rfl rfl) rfl ?_
 refine rn [3,0,1,2] ?_
 refine s_q (q_and32 (a := y) rfl rfl hy) rfl ?_
 refine rn [3,0,1,2] ?_
 refine s_q (q_shr32 (a := y) rfl rfl) rfl ?_
 refine rn [3,0,1,2,2] ?_
 refine s_q (q_mulu (a := (x % 4294967296)) (b := (y % 4294967296)) rfl rfl bd) rfl ?_
 refine rn [3,0,1,2,2] ?_
 refine s_q (q_mulu (a := (x / 4294967296)) (b := (y % 4294967296)) rfl rfl (by omega)) rfl ?_
 refine rn [2] ?_
 refine s_q (q_shr32 (a := (x % 4294967296) * (y % 4294967296)) rfl rfl) rfl ?_
 refine s_q (q_addu (a := (x / 4294967296) * (y % 4294967296)) (b := (x % 4294967296) * (y % 4294967296) / 4294967296) rfl rfl bt) rfl ?_
 refine rn [3,0,1,2] ?_
 refine s_q (q_and32 (a := ((x / 4294967296) * (y % 4294967296) + (x % 4294967296) * (y % 4294967296) / 4294967296)) rfl rfl bt) rfl ?_
 refine rn [3,0,1,2] ?_
 refine s_q (q_shr32 (a := ((x / 4294967296) * (y % 4294967296) + (x % 4294967296) * (y % 4294967296) / 4294967296)) rfl rfl) rfl ?_
 refine rn [3,0,1,2,2,2] ?_
 refine s_q (q_mulu (a := (x % 4294967296)) (b := (y / 4294967296)) rfl rfl (by omega)) rfl ?_
 refine s_q (q_addu (a := ((x / 4294967296) * (y % 4294967296) + (x % 4294967296) * (y % 4294967296) / 4294967296) % 4294967296) (b := (x % 4294967296) * (y / 4294967296)) rfl rfl bw) rfl ?_
 refine rn [3,0,1,2,2] ?_
 refine s_q (q_mulu (a := (x / 4294967296)) (b := (y / 4294967296)) rfl rfl (by omega)) rfl ?_
 refine rn [2] ?_
 refine s_q (q_addu (a := (x / 4294967296) * (y / 4294967296)) (b := ((x / 4294967296) * (y % 4294967296) + (x % 4294967296) * (y % 4294967296) / 4294967296) / 4294967296) rfl rfl (by omega)) rfl ?_
 refine rn [2] ?_
 refine s_q (q_shr32 (a := (((x / 4294967296) * (y % 4294967296) + (x % 4294967296) * (y % 4294967296) / 4294967296) % 4294967296 + (x % 4294967296) * (y / 4294967296))) rfl rfl) rfl ?_
 refine s_q (q_addu (a := (x / 4294967296) * (y / 4294967296) + ((x / 4294967296) * (y % 4294967296) + (x % 4294967296) * (y % 4294967296) / 4294967296) / 4294967296) (b := (((x / 4294967296) * (y % 4294967296) + (x % 4294967296) * (y % 4294967296) / 4294967296) % 4294967296 + (x % 4294967296) * (y / 4294967296)) / 4294967296) rfl rfl (by omega)) rfl ?_
 refine rn [3,0,1,2,2] ?_
 refine s_q (q_mullo (a := x) (b := y) rfl rfl) rfl ?_
 refine rn [3,0,11] ?_
 exact fin2 rfl (.tmp rfl) (.tmp rfl) (fun w' hw' => ⟨by rw [← hhi], hw'.upd⟩) _ (.inl rfl)
theorem prod_any (x y : Nat) (w : World) (hx : x < 18446744073709551616) (hy : y < 18446744073709551616) : Pur Tryz.prog 290 [.int .u64 ((x : Nat) : Int), .int .u64 ((y : Nat) : Int)] w (.agg #[.int .u64 ((x * y / 18446744073709551616 : Nat) : Int), .int .u64 ((x * y % 18446744073709551616 : Nat) : Int)]) := by
 refine g_st Tryz.func290 16 (WOK.start [] _) ?_
 refine rn [1] ?_
 refine g_op (zI rfl fun b4 => ?_)
 refine rn [0,1,2,2] ?_
 refine g_op (zG rfl (fun w1 hw1 => mul64_any x y w1 hx hy) rfl ?_)
 refine rn [2,40,40,3,3,0,1,2,2,49,33,0,11] ?_
 exact fin1 rfl (.cellw rfl rfl) (fun w' hw' => ⟨by rfl, hw'.upd⟩) _ (.inl rfl)
theorem len64_any (y : Nat) (w : World) (hx : y < 18446744073709551616) (h0 : 1 ≤ y) : Own2 (ι := Nat) Tryz.prog 324 [.int .u64 ((y : Nat) : Int)] w [] (fun x => LenOK y x ∧ x ≤ 64) (fun x => .int .i64 (x : Int)) (fun x => []) (fun x => []) := by
 refine g_st Tryz.func324 25 (WOK.start (fps []) _) ?_
 refine rn [1,3,0,8,1,2,53,0] ?_
 refine zC rfl (fun h1 => ?_) (fun h1 => ?_)
 ·have hc32 := of_decide_eq_true h1
  refine rn [1,2] ?_
  refine s_q (q_shrn (a := y) (n := 32) rfl rfl (by omega)) rfl ?_
  refine rn [3,0,10,3,0,8,1,2,53,0] ?_
  refine zC rfl (fun h2 => ?_) (fun h2 => ?_)
  ·have hc16 := of_decide_eq_true h2
   refine rn [1,2] ?_
   refine s_q (q_shrn (a := (y / 2 ^ 32)) (n := 16) rfl rfl (by omega)) rfl ?_
   refine rn [3,0,10,2] ?_
   refine s_q (yM (z := 48) rfl rfl rfl) rfl ?_
   refine rn [3,0,8,1,2,53,0] ?_
   refine zC rfl (fun h3 => ?_) (fun h3 => ?_)
   ·have hc8 := of_decide_eq_true h3
    refine rn [1,2] ?_
    refine s_q (q_shrn (a := ((y / 2 ^ 32) / 2 ^ 16)) (n := 8) rfl rfl (by omega)) rfl ?_
    refine rn [3,0,10,2] ?_
    refine s_q (yM (z := 56) rfl rfl rfl) rfl ?_
    refine rn [3,0,1] ?_
    have h00 : 0 < (((y / 2 ^ 32) / 2 ^ 16) / 2 ^ 8) := by simp_all; omega
    have h255 : (((y / 2 ^ 32) / 2 ^ 16) / 2 ^ 8) < 256 := by simp_all; omega
    refine rn [2,2] ?_
    refine s_q (yQ (z := (((((y / 2 ^ 32) / 2 ^ 16) / 2 ^ 8) : Nat) : Int)) rfl (by rw [IntKind.wrap_u8]; omega)) rfl ?_
    refine s_q (q_len8 (a := (((y / 2 ^ 32) / 2 ^ 16) / 2 ^ 8)) (by kernel_rfl) rfl rfl (by decide +kernel) h255) rfl ?_
    refine s_q (yQ (z := ((len8 (((y / 2 ^ 32) / 2 ^ 16) / 2 ^ 8) : Nat) : Int)) rfl (wi64 (by omega) (by have h8 := (LenOK.of8 h255 h00).2; omega))) rfl ?_
    refine s_q (yM (z := 56 + ((len8 (((y / 2 ^ 32) / 2 ^ 16) / 2 ^ 8) : Nat) : Int)) rfl rfl (wi64 (by omega) (by have h8 := (LenOK.of8 h255 h00).2; omega))) rfl ?_
    refine rn [3,0,11] ?_
    exact fin1 rfl (.tmp rfl) (fun w' hw' => ⟨(len8 (((y / 2 ^ 32) / 2 ^ 16) / 2 ^ 8) + 8 + 16 + 32), (by (try dsimp only); exact ⟨((((LenOK.of8 h255 h00).1).up 8).up 16).up 32, by have h8 := (LenOK.of8 h255 h00).2; omega⟩), by congr 1; omega, zA w' hw'⟩) _ (.inl rfl)
   ·have hc8 := of_decide_eq_false h3
    refine rn [12,7,1] ?_
    have h00 : 0 < ((y / 2 ^ 32) / 2 ^ 16) := by simp_all; omega
    have h255 : ((y / 2 ^ 32) / 2 ^ 16) < 256 := by simp_all; omega
    refine rn [2,2] ?_
    refine s_q (yQ (z := ((((y / 2 ^ 32) / 2 ^ 16) : Nat) : Int)) rfl (by rw [IntKind.wrap_u8]; omega)) rfl ?_
    refine s_q (q_len8 (a := ((y / 2 ^ 32) / 2 ^ 16)) (by kernel_rfl) rfl rfl (by decide +kernel) h255) rfl ?_
    refine s_q (yQ (z := ((len8 ((y / 2 ^ 32) / 2 ^ 16) : Nat) : Int)) rfl (wi64 (by omega) (by have h8 := (LenOK.of8 h255 h00).2; omega))) rfl ?_
    refine s_q (yM (z := 48 + ((len8 ((y / 2 ^ 32) / 2 ^ 16) : Nat) : Int)) rfl rfl (wi64 (by omega) (by have h8 := (LenOK.of8 h255 h00).2; omega))) rfl ?_
    refine rn [3,0,11] ?_
    exact fin1 rfl (.tmp rfl) (fun w' hw' => ⟨(len8 ((y / 2 ^ 32) / 2 ^ 16) + 16 + 32), (by (try dsimp only); exact ⟨(((LenOK.of8 h255 h00).1).up 16).up 32, by have h8 := (LenOK.of8 h255 h00).2; omega⟩), by congr 1; omega, zA w' hw'⟩) _ (.inl rfl)
  ·have hc16 := of_decide_eq_false h2
   refine rn [12,7,8,1,2,53,0] ?_
   refine zC rfl (fun h4 => ?_) (fun h4 => ?_)
   ·have hc8 := of_decide_eq_true h4
    refine rn [1,2] ?_
    refine s_q (q_shrn (a := (y / 2 ^ 32)) (n := 8) rfl rfl (by omega)) rfl ?_
    refine rn [3,0,10,2] ?_
    refine s_q (yM (z := 40) rfl rfl rfl) rfl ?_
    refine rn [3,0,1] ?_
    have h00 : 0 < ((y / 2 ^ 32) / 2 ^ 8) := by simp_all; omega
    have h255 : ((y / 2 ^ 32) / 2 ^ 8) < 256 := by simp_all; omega
    refine rn [2,2] ?_
    refine s_q (yQ (z := ((((y / 2 ^ 32) / 2 ^ 8) : Nat) : Int)) rfl (by rw [IntKind.wrap_u8]; omega)) rfl ?_
    refine s_q (q_len8 (a := ((y / 2 ^ 32) / 2 ^ 8)) (by kernel_rfl) rfl rfl (by decide +kernel) h255) rfl ?_
    refine s_q (yQ (z := ((len8 ((y / 2 ^ 32) / 2 ^ 8) : Nat) : Int)) rfl (wi64 (by omega) (by have h8 := (LenOK.of8 h255 h00).2; omega))) rfl ?_
    refine s_q (yM (z := 40 + ((len8 ((y / 2 ^ 32) / 2 ^ 8) : Nat) : Int)) rfl rfl (wi64 (by omega) (by have h8 := (LenOK.of8 h255 h00).2; omega))) rfl ?_
    refine rn [3,0,11] ?_
    exact fin1 rfl (.tmp rfl) (fun w' hw' => ⟨(len8 ((y / 2 ^ 32) / 2 ^ 8) + 8 + 32), (by (try dsimp only); exact ⟨(((LenOK.of8 h255 h00).1).up 8).up 32, by have h8 := (LenOK.of8 h255 h00).2; omega⟩), by congr 1; omega, zA w' hw'⟩) _ (.inl rfl)
   ·have hc8 := of_decide_eq_false h4
    refine rn [12,7,1] ?_
    have h00 : 0 < (y / 2 ^ 32) := by simp_all; omega
    have h255 : (y / 2 ^ 32) < 256 := by simp_all; omega
    refine rn [2,2] ?_
    refine s_q (yQ (z := (((y / 2 ^ 32) : Nat) : Int)) rfl (by rw [IntKind.wrap_u8]; omega)) rfl ?_
    refine s_q (q_len8 (a := (y / 2 ^ 32)) (by kernel_rfl) rfl rfl (by decide +kernel) h255) rfl ?_
    refine s_q (yQ (z := ((len8 (y / 2 ^ 32) : Nat) : Int)) rfl (wi64 (by omega) (by have h8 := (LenOK.of8 h255 h00).2; omega))) rfl ?_
    refine s_q (yM (z := 32 + ((len8 (y / 2 ^ 32) : Nat) : Int)) rfl rfl (wi64 (by omega) (by have h8 := (LenOK.of8 h255 h00).2; omega))) rfl ?_
    refine rn [3,0,11] ?_
    exact fin1 rfl (.tmp rfl) (fun w' hw' => ⟨(len8 (y / 2 ^ 32) + 32), (by (try dsimp only); exact ⟨((LenOK.of8 h255 h00).1).up 32, by have h8 := (LenOK.of8 h255 h00).2; omega⟩), by congr 1; omega, zA w' hw'⟩) _ (.inl rfl)
 ·have hc32 := of_decide_eq_false h1
  refine rn [12,7,8,1,2,53,0] ?_
  refine zC rfl (fun h5 => ?_) (fun h5 => ?_)
  ·have hc16 := of_decide_eq_true h5
   refine rn [1,2] ?_
   refine s_q (q_shrn (a := y) (n := 16) rfl rfl (by omega)) rfl ?_
   refine rn [3,0,10,2] ?_
   refine s_q (yM (z := 16) rfl rfl rfl) rfl ?_
   refine rn [3,0,8,1,2,53,0] ?_
   refine zC rfl (fun h6 => ?_) (fun h6 => ?_)
   ·have hc8 := of_decide_eq_true h6
    refine rn [1,2] ?_
    refine s_q (q_shrn (a := (y / 2 ^ 16)) (n := 8) rfl rfl (by omega)) rfl ?_
    refine rn [3,0,10,2] ?_
    refine s_q (yM (z := 24) rfl rfl rfl) rfl ?_
    refine rn [3,0,1] ?_
    have h00 : 0 < ((y / 2 ^ 16) / 2 ^ 8) := by simp_all; omega
    have h255 : ((y / 2 ^ 16) / 2 ^ 8) < 256 := by simp_all; omega
    refine rn [2,2] ?_
    refine s_q (yQ (z := ((((y / 2 ^ 16) / 2 ^ 8) : Nat) : Int)) rfl (by rw [IntKind.wrap_u8]; omega)) rfl ?_
    refine s_q (q_len8 (a := ((y / 2 ^ 16) / 2 ^ 8)) (by kernel_rfl) rfl rfl (by decide +kernel) h255) rfl ?_
    refine s_q (yQ (z := ((len8 ((y / 2 ^ 16) / 2 ^ 8) : Nat) : Int)) rfl (wi64 (by omega) (by have h8 := (LenOK.of8 h255 h00).2; omega))) rfl ?_
    refine s_q (yM (z := 24 + ((len8 ((y / 2 ^ 16) / 2 ^ 8) : Nat) : Int)) rfl rfl (wi64 (by omega) (by have h8 := (LenOK.of8 h255 h00).2; omega))) rfl ?_
    refine rn [3,0,11] ?_
    exact fin1 rfl (.tmp rfl) (fun w' hw' => ⟨(len8 ((y / 2 ^ 16) / 2 ^ 8) + 8 + 16), (by (try dsimp only); exact ⟨(((LenOK.of8 h255 h00).1).up 8).up 16, by have h8 := (LenOK.of8 h255 h00).2; omega⟩), by congr 1; omega, zA w' hw'⟩) _ (.inl rfl)
   ·have hc8 := of_decide_eq_false h6
    refine rn [12,7,1] ?_
    have h00 : 0 < (y / 2 ^ 16) := by simp_all; omega
    have h255 : (y / 2 ^ 16) < 256 := by simp_all; omega
    refine rn [2,2] ?_
    refine s_q (yQ (z := (((y / 2 ^ 16) : Nat) : Int)) rfl (by rw [IntKind.wrap_u8]; omega)) rfl ?_
    refine s_q (q_len8 (a := (y / 2 ^ 16)) (by kernel_rfl) rfl rfl (by decide +kernel) h255) rfl ?_
    refine s_q (yQ (z := ((len8 (y / 2 ^ 16) : Nat) : Int)) rfl (wi64 (by omega) (by have h8 := (LenOK.of8 h255 h00).2; omega))) rfl ?_
    refine s_q (yM (z := 16 + ((len8 (y / 2 ^ 16) : Nat) : Int)) rfl rfl (wi64 (by omega) (by have h8 := (LenOK.of8 h255 h00).2; omega))) rfl ?_
    refine rn [3,0,11] ?_
    exact fin1 rfl (.tmp rfl) (fun w' hw' => ⟨(len8 (y / 2 ^ 16) + 16), (by (try dsimp only); exact ⟨((LenOK.of8 h255 h00).1).up 16, by have h8 := (LenOK.of8 h255 h00).2; omega⟩), by congr 1; omega, zA w' hw'⟩) _ (.inl rfl)
  ·have hc16 := of_decide_eq_false h5
   refine rn [12,7,8,1,2,53,0] ?_
   refine zC rfl (fun h7 => ?_) (fun h7 => ?_)
   ·have hc8 := of_decide_eq_true h7
    refine rn [1,2] ?_
    refine s_q (q_shrn (a := y) (n := 8) rfl rfl (by omega)) rfl ?_
    refine rn [3,0,10,2] ?_
    refine s_q (yM (z := 8) rfl rfl rfl) rfl ?_
    refine rn [3,0,1] ?_
    have h00 : 0 < (y / 2 ^ 8) := by simp_all; omega
    have h255 : (y / 2 ^ 8) < 256 := by simp_all; omega
    refine rn [2,2] ?_
    refine s_q (yQ (z := (((y / 2 ^ 8) : Nat) : Int)) rfl (by rw [IntKind.wrap_u8]; omega)) rfl ?_
    refine s_q (q_len8 (a := (y / 2 ^ 8)) (by kernel_rfl) rfl rfl (by decide +kernel) h255) rfl ?_
    refine s_q (yQ (z := ((len8 (y / 2 ^ 8) : Nat) : Int)) rfl (wi64 (by omega) (by have h8 := (LenOK.of8 h255 h00).2; omega))) rfl ?_
    refine s_q (yM (z := 8 + ((len8 (y / 2 ^ 8) : Nat) : Int)) rfl rfl (wi64 (by omega) (by have h8 := (LenOK.of8 h255 h00).2; omega))) rfl ?_
    refine rn [3,0,11] ?_
    exact fin1 rfl (.tmp rfl) (fun w' hw' => ⟨(len8 (y / 2 ^ 8) + 8), (by (try dsimp only); exact ⟨((LenOK.of8 h255 h00).1).up 8, by have h8 := (LenOK.of8 h255 h00).2; omega⟩), by congr 1; omega, zA w' hw'⟩) _ (.inl rfl)
   ·have hc8 := of_decide_eq_false h7
    refine rn [12,7,1] ?_
    have h00 : 0 < y := by simp_all; omega
    have h255 : y < 256 := by simp_all; omega
    refine rn [2,2] ?_
    refine s_q (yQ (z := ((y : Nat) : Int)) rfl (by rw [IntKind.wrap_u8]; omega)) rfl ?_
    refine s_q (q_len8 (a := y) (by kernel_rfl) rfl rfl (by decide +kernel) h255) rfl ?_
    refine s_q (yQ (z := ((len8 y : Nat) : Int)) rfl (wi64 (by omega) (by have h8 := (LenOK.of8 h255 h00).2; omega))) rfl ?_
    refine s_q (yM (z := 0 + ((len8 y : Nat) : Int)) rfl rfl (wi64 (by omega) (by have h8 := (LenOK.of8 h255 h00).2; omega))) rfl ?_
    refine rn [3,0,11] ?_
    exact fin1 rfl (.tmp rfl) (fun w' hw' => ⟨(len8 y), (by (try dsimp only); exact ⟨(LenOK.of8 h255 h00).1, by have h8 := (LenOK.of8 h255 h00).2; omega⟩), by congr 1; omega, zA w' hw'⟩) _ (.inl rfl)
theorem lz64_any (y : Nat) (w : World) (hx : y < 18446744073709551616) (hy : 1 ≤ y) : Own2 (ι := Nat) Tryz.prog 320 [.int .u64 ((y : Nat) : Int)] w [] (fun x => NrmOK y x) (fun x => .int .i64 (x : Int)) (fun x => []) (fun x => []) := by
 refine g_st Tryz.func320 6 (WOK.start (fps []) _) ?_
 refine rn [1,3,0,1,2] ?_
 refine g_op (zH [] rfl (fun w1 hw1 ho1 => by have h7 := len64_any y w1 hx hy; exact h7) rfl ?_)
 rintro n4 h4
 refine ii ?_
 have h5 := h4.2
 refine s_q (yY (z := ((64 - n4 : Nat) : Int)) rfl rfl (by rw [wi64 (by omega) (by omega)]; omega)) rfl ?_
 refine rn [3,0,11] ?_
 exact fin1 rfl (.tmp rfl) (fun w' hw' => ⟨(64 - n4), (by exact h4.1.nrm h4.2 hy), rfl, zA w' hw'⟩) _ (.inl rfl)
theorem sub64 {s : Nat} (h : s ≤ 64) : IntKind.u64.wrap (64 - (s : Int)) = ((64 - s : Nat) : Int) := by rw [IntKind.wrap_u64]; omega
theorem div64_any (hi lo y : Nat) (w : World) (hy : 1 ≤ y) (hy2 : y ≤ 4294967296) (hh : hi < y) (hl : lo < 18446744073709551616) : Own2 (ι := Int) Tryz.prog 291 [.int .u64 ((hi : Nat) : Int), .int .u64 ((lo : Nat) : Int), .int .u64 ((y : Nat) : Int)] w [] (fun x => True) (fun x => .tuple [.int .u64 (((hi * 18446744073709551616 + lo) / y : Nat) : Int), .int .u64 x].toArray) (fun x => []) (fun x => []) := by
 refine g_st Tryz.func291 135 (WOK.start (fps []) _) ?_
 refine rn [1,3,3,0,8,1,2,44] ?_
 refine yD 20 (b := false) rfl (eq_no hy) ?_
 refine rn [0,20,12,7,8,1,2,2,56] ?_
 refine yD 24 (b := false) rfl (le_no hh) ?_
 refine rn [0,20,12,7,8,1,2,44,0] ?_
 refine zC rfl (fun h1 => ?_) (fun h1 => ?_)
 ·have hz : hi = 0 := by have h9 := of_decide_eq_true h1; omega
  subst hz
  refine rn [8] ?_
  refine dreg [] mixed rfl ?_
  refine rn [23,0,2,23,1,2] ?_
  refine dq 2 rfl (q_quou (a := lo) (b := y) rfl rfl hl hy) ?_
  refine rn [23,3,2,23,4,2] ?_
  refine dq 5 rfl (q_rem rfl rfl (by omega)) ?_
  refine rn [23,6,3,23,7,3,27,7,11,13] ?_
  exact fin2 rfl (.tmp rfl) (.tmp rfl) (fun w' hw' => ⟨_, (by exact trivial), by first | rfl | (simp; rfl), zA w' hw'⟩) _ (.inl rfl)
 ·have hz : hi ≠ 0 := by have h9 := of_decide_eq_false h1; omega
  refine rn [12,7,1,2] ?_
  refine g_op (zH [] rfl (fun w1 hw1 ho1 => by have h7 := lz64_any y w1 (by omega) hy; exact h7) rfl ?_)
  rintro s hs
  refine ii ?_
  obtain ⟨v, U, R, D⟩ := div_ok hy hy2 hh hl hs
  obtain ⟨m1, m2, m3, m4, m5, m6⟩ := D.more
  obtain ⟨d1, d2, d3, d4, d5, d6, d7, d8, d9, d10, d11⟩ := D
  have hs63 := hs.le
  have hs64 : s ≤ 64 := Nat.le_succ_of_le hs63
  refine s_q (yQ (z := ((s : Nat) : Int)) rfl (wu64 (Int.natCast_nonneg _) (Int.ofNat_lt.2 (Nat.lt_of_le_of_lt hs63 (by decide))))) rfl ?_
  refine rn [3,0,1,2,2] ?_
  refine s_q (q_shln (a := y) (n := s) rfl rfl hs64) rfl ?_
  refine g_val 39 (v' := .int .u64 ((v * 4294967296 : Nat) : Int)) rfl (by rw [d2, Nat.mod_eq_of_lt m1]) ?_
  refine rn [3,0,1,2] ?_
  refine s_q (q_shr32 (a := v * 4294967296) rfl rfl) rfl ?_
  refine g_val 41 (v' := .int .u64 ((v : Nat) : Int)) rfl (by rw [Nat.mul_div_cancel _ (by decide)]) ?_
  refine rn [3,0,1,2] ?_
  refine s_q (q_and32 (a := v * 4294967296) rfl rfl m1) rfl ?_
  refine g_val 43 (v' := .int .u64 ((0 : Nat) : Int)) rfl (by rw [Nat.mul_mod_left]) ?_
  refine rn [3,0,1,2,2] ?_
  refine s_q (q_shln (a := hi) (n := s) rfl rfl hs64) rfl ?_
  refine rn [2,2] ?_
  refine s_q (yY (z := ((64 - s : Nat) : Int)) rfl rfl (sub64 hs64)) rfl ?_
  refine s_q (q_shrn (a := lo) (n := 64 - s) rfl rfl (Nat.sub_le _ _)) rfl ?_
  refine s_q (q_orn (a := hi * 2 ^ s % 18446744073709551616) (b := lo / 2 ^ (64 - s)) rfl rfl (Nat.mod_lt _ (by decide)) (Nat.lt_of_le_of_lt (Nat.div_le_self _ _) hl)) rfl ?_
  refine g_val 51 (v' := .int .u64 ((U : Nat) : Int)) rfl (by rw [d4]) ?_
  refine rn [3,0,1,2,2] ?_
  refine s_q (q_shln (a := lo) (n := s) rfl rfl hs64) rfl ?_
  refine g_val 54 (v' := .int .u64 ((R : Nat) : Int)) rfl (by rw [d5]) ?_
  refine rn [3,0,1,2] ?_
  refine s_q (q_shr32 (a := R) rfl rfl) rfl ?_
  refine rn [3,0,1,2] ?_
  refine s_q (q_and32 (a := R) rfl rfl d7) rfl ?_
  refine rn [3,0,1,2,2] ?_
  refine s_q (q_quou (a := U) (b := v) rfl rfl m2 d1) rfl ?_
  refine rn [3,0,1,2,2,2] ?_
  refine s_q (q_mulu (a := U / v) (b := v) rfl rfl (Nat.lt_of_le_of_lt m3 m2)) rfl ?_
  refine s_q (q_subu (a := U) (b := U / v * v) rfl rfl m3 m2) rfl ?_
  refine g_val 66 (v' := .int .u64 ((U % v : Nat) : Int)) rfl (by rw [m4]) ?_
  refine rn [3,0,8,14] ?_
  refine g_lk [2, 6, 7, 8, 9, 10, 11, 13, 14] (fun (x : Nat) => [(15, .int .u64 ((U / v : Nat) : Int)), (16, .int .u64 ((U % v : Nat) : Int))]) (fun (x : Nat) => []) (fun (x : Nat) => True) (fun (x : Nat) => 0 * x) 0 (trivial) ?_
  rintro u _
  refine rn [8,1,2,53] ?_
  refine yD 68 (b := false) rfl (ge_no d9) ?_
  refine rn [2,22,2,22,2] ?_
  refine s_qg (q_mulz (z := 0) rfl rfl (by simp [IntKind.wrap_u64])) rfl rfl rfl ?_
  refine rn [22,2,22,60,22,2,22,54,22,55] ?_
  refine yD 77 (b := false) rfl (gt_no _) ?_
  refine rn [42,0,20,16] ?_
  refine zE (zE (zQ ?_))
  refine rn [7,1,2,60,2,54,2,2,60] ?_
  refine s_q (yY (z := (((U % v * 4294967296 + R / 4294967296) : Nat) : Int)) rfl rfl (wr1 U v R m5)) rfl ?_
  refine rn [3,0,1,2,2] ?_
  refine s_q (q_quou (a := (U % v * 4294967296 + R / 4294967296)) (b := v) rfl rfl m5 d1) rfl ?_
  refine rn [3,0,1,2,2,2] ?_
  refine s_q (q_mulu (a := (U % v * 4294967296 + R / 4294967296) / v) (b := v) rfl rfl (Nat.lt_of_le_of_lt m6 m5)) rfl ?_
  refine s_q (q_subu (a := (U % v * 4294967296 + R / 4294967296)) (b := (U % v * 4294967296 + R / 4294967296) / v * v) rfl rfl m6 m5) rfl ?_
  refine rn [3,0,8,14] ?_
  refine g_lk [2, 6, 7, 8, 9, 10, 14, 15, 17] (fun (x : Nat) => [(18, .int .u64 (((U % v * 4294967296 + R / 4294967296) / v : Nat) : Int)), (16, .int .u64 (((U % v * 4294967296 + R / 4294967296) - (U % v * 4294967296 + R / 4294967296) / v * v : Nat) : Int))]) (fun (x : Nat) => []) (fun (x : Nat) => True) (fun (x : Nat) => 0 * x) 0 (trivial) ?_
  rintro u _
  refine rn [8,1,2,53] ?_
  refine yD 103 (b := false) rfl (ge_no d10) ?_
  refine rn [2,22,2,22,2] ?_
  refine s_qg (q_mulz (z := 0) rfl rfl (by simp [IntKind.wrap_u64])) rfl rfl rfl ?_
  refine rn [22,2,22,60,22,2,22,54,22,55] ?_
  refine yD 112 (b := false) rfl (gt_no _) ?_
  refine rn [42,0,20,16] ?_
  refine zE (zE (zQ ?_))
  refine rn [7,1,2,60,2] ?_
  refine s_q (yM (z := (((hi * 18446744073709551616 + lo) / y : Nat) : Int)) rfl rfl (by rw [← d8]; exact wr2 _ _ d9 d10)) rfl ?_
  refine rn [2,60,2,54,2,2,60,57,2] ?_
  refine s_q (q_shri (n := s) rfl rfl hs64) rfl ?_
  refine rn [3,3,0,11] ?_
  exact fin2 rfl (.tmp rfl) (.tmp rfl) (fun w' hw' => ⟨_, (by exact trivial), by first | rfl | (simp; rfl), zA w' hw'⟩) _ (.inl rfl)
theorem muldiv_any (x y z : Nat) (w : World) (hx : x < 18446744073709551616) (hz1 : 1 ≤ z) (hz2 : z ≤ 4294967296) (hyz : y ≤ z) : Pur Tryz.prog 247 [.int .u64 ((x : Nat) : Int), .int .u64 ((y : Nat) : Int), .int .u64 ((z : Nat) : Int)] w (.tuple [.int .u64 ((x * y / z : Nat) : Int), .bool true].toArray) := by
 refine g_st Tryz.func247 28 (WOK.start [] _) ?_
 have hlt : x * y / 18446744073709551616 < z := by
   rw [Nat.div_lt_iff_lt_mul (by decide)]
   exact Nat.lt_of_le_of_lt (Nat.mul_le_mul_left x hyz) (by rw [Nat.mul_comm x]; exact Nat.mul_lt_mul_of_pos_left hx (by omega))
 refine rn [1,3,3,0,1,2,2] ?_
 refine g_op (zG rfl (fun w1 hw1 => prod_any x y w1 (by omega) (by omega)) rfl ?_)
 refine g_op (zI rfl fun b8 => ?_)
 refine rn [33,0,8,1] ?_
 refine s_q (yR (i := 0) rfl rfl rfl (by decide)) rfl ?_
 refine rn [5,2,53,0] ?_
 refine zC rfl (fun h1 => ?_) (fun h1 => ?_)
 ·exfalso; have h9 := of_decide_eq_true h1; omega
 ·refine rn [12,7,1] ?_
  refine s_q (yR (i := 0) rfl rfl rfl (by decide)) rfl ?_
  refine rn [5] ?_
  refine s_q (yR (i := 1) rfl rfl rfl (by decide)) rfl ?_
  refine rn [5,2] ?_
  refine g_op (zH [] rfl (fun w1 hw1 ho1 => by have h7 := div64_any (x * y / 18446744073709551616) (x * y % 18446744073709551616) z w1 (by omega) hz2 hlt (Nat.mod_lt _ (by decide)); exact h7) rfl ?_)
  rintro r24 _
  refine ii ?_
  refine rn [2,40,40,3,3,0,1,2,3,3,0,11] ?_
  exact fin2 rfl (.tmp rfl) (.tmp rfl) (fun w' hw' => ⟨by rw [show x * y / 18446744073709551616 * 18446744073709551616 + x * y % 18446744073709551616 = x * y from by have := Nat.div_add_mod (x * y) 18446744073709551616; omega], hw'.upd⟩) _ (.inl rfl)
theorem amount_any (x y z : Int) (w : World) (hx : 0 ≤ x ∧ x ≤ 18446744073709551615) (hy : 0 ≤ y) (hz : 1 ≤ z ∧ z ≤ 4294967296) (hyz : y ≤ z) : Pur Tryz.prog 172 [.int .u64 x, .int .u64 y, .int .u64 z] w (.tuple [.int .u64 (x * y / z), .bool true].toArray) := by
 refine g_st Tryz.func172 17 (WOK.start [] _) ?_
 refine rn [1,3,3,0,8,1,2,2,55,0] ?_
 refine zC rfl (fun h1 => ?_) (fun h1 => ?_)
 ·exfalso; have h9 := of_decide_eq_true h1; omega
 ·refine rn [12,7,1,2,2,2] ?_
  refine g_op (zG rfl (fun w1 hw1 => by have h7 := muldiv_any x.toNat y.toNat z.toNat w1 (by omega) (by omega) (by omega) (by omega); rw [Int.toNat_of_nonneg hx.1, Int.toNat_of_nonneg hy, Int.toNat_of_nonneg (show 0 ≤ z by omega)] at h7; exact h7) rfl ?_)
  refine rn [40,40,3,3,0,11] ?_
  exact fin2 rfl (.tmp rfl) (.tmp rfl) (fun w' hw' => ⟨by rw [Int.natCast_ediv, Int.natCast_mul, Int.toNat_of_nonneg hx.1, Int.toNat_of_nonneg hy, Int.toNat_of_nonneg (show 0 ≤ z by omega)], hw'.upd⟩) _ (.inl rfl)
end Go.Proofs.YtdddiilocbbkkaaGreat
