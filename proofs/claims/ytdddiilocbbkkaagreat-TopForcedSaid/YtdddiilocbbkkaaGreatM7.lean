/- TopForced: for every configuration and all operations the law returns true. No condition. (the texts of the proof, part 7 of 12) -/
import Derived.Test.YtdddiilocbbkkaaGreatM6
set_option linter.unusedVariables false
set_option linter.unusedSimpArgs false
namespace Go.Proofs.YtdddiilocbbkkaaGreat
open Go.RowKit Go.Eg
set_option maxHeartbeats 4000000
set_option synthInstance.maxSize 3000
set_option maxRecDepth 100000
theorem mul64_any (x y : Nat) (w : World) (hx : x < 18446744073709551616) (hy : y < 18446744073709551616) : Pur Tryz.prog 145 [.int .u64 ((x : Nat) : Int), .int .u64 ((y : Nat) : Int)] w (.tuple [.int .u64 ((x * y / 18446744073709551616 : Nat) : Int), .int .u64 ((x * y % 18446744073709551616 : Nat) : Int)].toArray) := by
 refine g_st Tryz.func145 51 (WOK.start [] _) ?_
 obtain ⟨bd, bt, bw, hhi⟩ := Lib.mul64_hi x y hx hy
 have ba := Lib.half_mul_le (a := x / 4294967296) (b := y / 4294967296) (by omega) (by omega)
 have bb := Lib.half_mul_le (a := x / 4294967296) (b := y % 4294967296) (by omega) (by omega)
 have bc := Lib.half_mul_le (a := x % 4294967296) (b := y / 4294967296) (by omega) (by omega)
 refine rn [1,3,3,0,1,2] ?_
 refine s_q (q_and32 (a := x) rfl rfl hx) rfl ?_
 refine rn [3,0,1,2] ?_
 refine s_q (q_shr32 (a := x) rfl rfl) rfl ?_
 refine rn [3,0,1,2] ?_
 refine s_q (q_and32 (a := y) rfl rfl hy) rfl ?_
 refine rn [3,0,1,2] ?_
 refine s_q (q_shr32 (a := y) rfl rfl) rfl ?_
 refine rn [3,0,1,2,2] ?_
 refine s_q (q_mulu (a := (x % 4294967296)) (b := (y % 4294967296)) rfl rfl bd) rfl ?_
 refine rn [3,0,1,2,2] ?_
 refine s_q (q_mulu (a := (x / 4294967296)) (b := (y % 4294967296)) rfl rfl (by omega)) rfl ?_
 refine rn [2] ?_
 refine s_q (q_shr32 (a := (x % 4294967296) * (y % 4294967296)) rfl rfl) rfl ?_
 refine s_q (q_addu (a := (x / 4294967296) * (y % 4294967296)) (b := (x % 4294967296) * (y % 4294967296) / 4294967296) rfl rfl bt) rfl ?_
 refine rn [3,0,1,2] ?_
 refine s_q (q_and32 (a := ((x / 4294967296) * (y % 4294967296) + (x % 4294967296) * (y % 4294967296) / 4294967296)) rfl rfl bt) rfl ?_
 refine rn [3,0,1,2] ?_
 refine s_q (q_shr32 (a := ((x / 4294967296) * (y % 4294967296) + (x % 4294967296) * (y % 4294967296) / 4294967296)) rfl rfl) rfl ?_
 refine rn [3,0,1,2,2,2] ?_
 refine s_q (q_mulu (a := (x % 4294967296)) (b := (y / 4294967296)) rfl rfl (by omega)) rfl ?_
 refine s_q (q_addu (a := ((x / 4294967296) * (y % 4294967296) + (x % 4294967296) * (y % 4294967296) / 4294967296) % 4294967296) (b := (x % 4294967296) * (y / 4294967296)) rfl rfl bw) rfl ?_
 refine rn [3,0,1,2,2] ?_
 refine s_q (q_mulu (a := (x / 4294967296)) (b := (y / 4294967296)) rfl rfl (by omega)) rfl ?_
 refine rn [2] ?_
 refine s_q (q_addu (a := (x / 4294967296) * (y / 4294967296)) (b := ((x / 4294967296) * (y % 4294967296) + (x % 4294967296) * (y % 4294967296) / 4294967296) / 4294967296) rfl rfl (by omega)) rfl ?_
 refine rn [2] ?_
 refine s_q (q_shr32 (a := (((x / 4294967296) * (y % 4294967296) + (x % 4294967296) * (y % 4294967296) / 4294967296) % 4294967296 + (x % 4294967296) * (y / 4294967296))) rfl rfl) rfl ?_
 refine s_q (q_addu (a := (x / 4294967296) * (y / 4294967296) + ((x / 4294967296) * (y % 4294967296) + (x % 4294967296) * (y % 4294967296) / 4294967296) / 4294967296) (b := (((x / 4294967296) * (y % 4294967296) + (x % 4294967296) * (y % 4294967296) / 4294967296) % 4294967296 + (x % 4294967296) * (y / 4294967296)) / 4294967296) rfl rfl (by omega)) rfl ?_
 refine rn [3,0,1,2,2] ?_
 refine s_q (q_mullo (a := x) (b := y) rfl rfl) rfl ?_
 refine rn [3,0,11] ?_
 exact fin2 rfl (.tmp rfl) (.tmp rfl) (fun w' hw' => ⟨by rw [← hhi], hw'.upd⟩) _ (.inl rfl)
theorem prod_any (x y : Nat) (w : World) (hx : x < 18446744073709551616) (hy : y < 18446744073709551616) : Pur Tryz.prog 290 [.int .u64 ((x : Nat) : Int), .int .u64 ((y : Nat) : Int)] w (.agg #[.int .u64 ((x * y / 18446744073709551616 : Nat) : Int), .int .u64 ((x * y % 18446744073709551616 : Nat) : Int)]) := by
 refine g_st Tryz.func290 16 (WOK.start [] _) ?_
 refine rn [1] ?_
 refine g_op (zI rfl fun b4 => ?_)
 refine rn [0,1,2,2] ?_
 refine g_op (zG rfl (fun w1 hw1 => mul64_any x y w1 hx hy) rfl ?_)
 refine rn [2,40,40,3,3,0,1,2,2,49,33,0,11] ?_
 exact fin1 rfl (.cellw rfl rfl) (fun w' hw' => ⟨by rfl, hw'.upd⟩) _ (.inl rfl)
theorem len64_any (y : Nat) (w : World) (hx : y < 18446744073709551616) (h0 : 1 ≤ y) : Own2 (ι := Nat) Tryz.prog 324 [.int .u64 ((y : Nat) : Int)] w [] (fun x => LenOK y x ∧ x ≤ 64) (fun x => .int .i64 (x : Int)) (fun x => []) (fun x => []) := by
 refine g_st Tryz.func324 25 (WOK.start (fps []) _) ?_
 refine rn [1,3,0,8,1,2,53,0] ?_
 refine zC rfl (fun h1 => ?_) (fun h1 => ?_)
 ·have hc32 := of_decide_eq_true h1
  refine rn [1,2] ?_
  refine s_q (q_shrn (a := y) (n := 32) rfl rfl (by omega)) rfl ?_
  refine rn [3,0,10,3,0,8,1,2,53,0] ?_
  refine zC rfl (fun h2 => ?_) (fun h2 => ?_)
  ·have hc16 := of_decide_eq_true h2
   refine rn [1,2] ?_
   refine s_q (q_shrn (a := (y / 2 ^ 32)) (n := 16) rfl rfl (by omega)) rfl ?_
   refine rn [3,0,10,2] ?_
   refine s_q (yM (z := 48) rfl rfl rfl) rfl ?_
   refine rn [3,0,8,1,2,53,0] ?_
   refine zC rfl (fun h3 => ?_) (fun h3 => ?_)
   ·have hc8 := of_decide_eq_true h3
    refine rn [1,2] ?_
    refine s_q (q_shrn (a := ((y / 2 ^ 32) / 2 ^ 16)) (n := 8) rfl rfl (by omega)) rfl ?_
    refine rn [3,0,10,2] ?_
    refine s_q (yM (z := 56) rfl rfl rfl) rfl ?_
    refine rn [3,0,1] ?_
    have h00 : 0 < (((y / 2 ^ 32) / 2 ^ 16) / 2 ^ 8) := by simp_all; omega
    have h255 : (((y / 2 ^ 32) / 2 ^ 16) / 2 ^ 8) < 256 := by simp_all; omega
    refine rn [2,2] ?_
    refine s_q (yQ (z := (((((y / 2 ^ 32) / 2 ^ 16) / 2 ^ 8) : Nat) : Int)) rfl (by rw [IntKind.wrap_u8]; omega)) rfl ?_
    refine s_q (q_len8 (a := (((y / 2 ^ 32) / 2 ^ 16) / 2 ^ 8)) (by kernel_rfl) rfl rfl (by decide +kernel) h255) rfl ?_
    refine s_q (yQ (z := ((len8 (((y / 2 ^ 32) / 2 ^ 16) / 2 ^ 8) : Nat) : Int)) rfl (wi64 (by omega) (by have h8 := (LenOK.of8 h255 h00).2; omega))) rfl ?_
    refine s_q (yM (z := 56 + ((len8 (((y / 2 ^ 32) / 2 ^ 16) / 2 ^ 8) : Nat) : Int)) rfl rfl (wi64 (by omega) (by have h8 := (LenOK.of8 h255 h00).2; omega))) rfl ?_
    refine rn [3,0,11] ?_
    exact fin1 rfl (.tmp rfl) (fun w' hw' => ⟨(len8 (((y / 2 ^ 32) / 2 ^ 16) / 2 ^ 8) + 8 + 16 + 32), (by (try dsimp only); exact ⟨((((LenOK.of8 h255 h00).1).up 8).up 16).up 32, by have h8 := (LenOK.of8 h255 h00).2; omega⟩), by congr 1; omega, zA w' hw'⟩) _ (.inl rfl)
   ·have hc8 := of_decide_eq_false h3
    refine rn [12,7,1] ?_
    have h00 : 0 < ((y / 2 ^ 32) / 2 ^ 16) := by simp_all; omega
    have h255 : ((y / 2 ^ 32) / 2 ^ 16) < 256 := by simp_all; omega
    refine rn [2,2] ?_
    refine s_q (yQ (z := ((((y / 2 ^ 32) / 2 ^ 16) : Nat) : Int)) rfl (by rw [IntKind.wrap_u8]; omega)) rfl ?_
    refine s_q (q_len8 (a := ((y / 2 ^ 32) / 2 ^ 16)) (by kernel_rfl) rfl rfl (by decide +kernel) h255) rfl ?_
    refine s_q (yQ (z := ((len8 ((y / 2 ^ 32) / 2 ^ 16) : Nat) : Int)) rfl (wi64 (by omega) (by have h8 := (LenOK.of8 h255 h00).2; omega))) rfl ?_
    refine s_q (yM (z := 48 + ((len8 ((y / 2 ^ 32) / 2 ^ 16) : Nat) : Int)) rfl rfl (wi64 (by omega) (by have h8 := (LenOK.of8 h255 h00).2; omega))) rfl ?_
    refine rn [3,0,11] ?_
    exact fin1 rfl (.tmp rfl) (fun w' hw' => ⟨(len8 ((y / 2 ^ 32) / 2 ^ 16) + 16 + 32), (by (try dsimp only); exact ⟨(((LenOK.of8 h255 h00).1).up 16).up 32, by have h8 := (LenOK.of8 h255 h00).2; omega⟩), by congr 1; omega, zA w' hw'⟩) _ (.inl rfl)
  ·have hc16 := of_decide_eq_false h2
   refine rn [12,7,8,1,2,53,0] ?_
   refine zC rfl (fun h4 => ?_) (fun h4 => ?_)
   ·have hc8 := of_decide_eq_true h4
    refine rn [1,2] ?_
    refine s_q (q_shrn (a := (y / 2 ^ 32)) (n := 8) rfl rfl (by omega)) rfl ?_
    refine rn [3,0,10,2] ?_
    refine s_q (yM (z := 40) rfl rfl rfl) rfl ?_
    refine rn [3,0,1] ?_
    have h00 : 0 < ((y / 2 ^ 32) / 2 ^ 8) := by simp_all; omega
    have h255 : ((y / 2 ^ 32) / 2 ^ 8) < 256 := by simp_all; omega
    refine rn [2,2] ?_
    refine s_q (yQ (z := ((((y / 2 ^ 32) / 2 ^ 8) : Nat) : Int)) rfl (by rw [IntKind.wrap_u8]; omega)) rfl ?_
    refine s_q (q_len8 (a := ((y / 2 ^ 32) / 2 ^ 8)) (by kernel_rfl) rfl rfl (by decide +kernel) h255) rfl ?_
    refine s_q (yQ (z := ((len8 ((y / 2 ^ 32) / 2 ^ 8) : Nat) : Int)) rfl (wi64 (by omega) (by have h8 := (LenOK.of8 h255 h00).2; omega))) rfl ?_
    refine s_q (yM (z := 40 + ((len8 ((y / 2 ^ 32) / 2 ^ 8) : Nat) : Int)) rfl rfl (wi64 (by omega) (by have h8 := (LenOK.of8 h255 h00).2; omega))) rfl ?_
    refine rn [3,0,11] ?_
    exact fin1 rfl (.tmp rfl) (fun w' hw' => ⟨(len8 ((y / 2 ^ 32) / 2 ^ 8) + 8 + 32), (by (try dsimp only); exact ⟨(((LenOK.of8 h255 h00).1).up 8).up 32, by have h8 := (LenOK.of8 h255 h00).2; omega⟩), by congr 1; omega, zA w' hw'⟩) _ (.inl rfl)
   ·have hc8 := of_decide_eq_false h4
    refine rn [12,7,1] ?_
    have h00 : 0 < (y / 2 ^ 32) := by simp_all; omega
    have h255 : (y / 2 ^ 32) < 256 := by simp_all; omega
    refine rn [2,2] ?_
    refine s_q (yQ (z := (((y / 2 ^ 32) : Nat) : Int)) rfl (by rw [IntKind.wrap_u8]; omega)) rfl ?_
    refine s_q (q_len8 (a := (y / 2 ^ 32)) (by kernel_rfl) rfl rfl (by decide +kernel) h255) rfl ?_
    refine s_q (yQ (z := ((len8 (y / 2 ^ 32) : Nat) : Int)) rfl (wi64 (by omega) (by have h8 := (LenOK.of8 h255 h00).2; omega))) rfl ?_
    refine s_q (yM (z := 32 + ((len8 (y / 2 ^ 32) : Nat) : Int)) rfl rfl (wi64 (by omega) (by have h8 := (LenOK.of8 h255 h00).2; omega))) rfl ?_
    refine rn [3,0,11] ?_
    exact fin1 rfl (.tmp rfl) (fun w' hw' => ⟨(len8 (y / 2 ^ 32) + 32), (by (try dsimp only); exact ⟨((LenOK.of8 h255 h00).1).up 32, by have h8 := (LenOK.of8 h255 h00).2; omega⟩), by congr 1; omega, zA w' hw'⟩) _ (.inl rfl)
 ·have hc32 := of_decide_eq_false h1
  refine rn [12,7,8,1,2,53,0] ?_
  refine zC rfl (fun h5 => ?_) (fun h5 => ?_)
  ·have hc16 := of_decide_eq_true h5
   refine rn [1,2] ?_
   refine s_q (q_shrn (a := y) (n := 16) rfl rfl (by omega)) rfl ?_
   refine rn [3,0,10,2] ?_
   refine s_q (yM (z := 16) rfl rfl rfl) rfl ?_
   refine rn [3,0,8,1,2,53,0] ?_
   refine zC rfl (fun h6 => ?_) (fun h6 => ?_)
   ·have hc8 := of_decide_eq_true h6
    refine rn [1,2] ?_
    refine s_q (q_shrn (a := (y / 2 ^ 16)) (n := 8) rfl rfl (by omega)) rfl ?_
    refine rn [3,0,10,2] ?_
    refine s_q (yM (z := 24) rfl rfl rfl) rfl ?_
    refine rn [3,0,1] ?_
    have h00 : 0 < ((y / 2 ^ 16) / 2 ^ 8) := by simp_all; omega
    have h255 : ((y / 2 ^ 16) / 2 ^ 8) < 256 := by simp_all; omega
    refine rn [2,2] ?_
    refine s_q (yQ (z := ((((y / 2 ^ 16) / 2 ^ 8) : Nat) : Int)) rfl (by rw [IntKind.wrap_u8]; omega)) rfl ?_
    refine s_q (q_len8 (a := ((y / 2 ^ 16) / 2 ^ 8)) (by kernel_rfl) rfl rfl (by decide +kernel) h255) rfl ?_
    refine s_q (yQ (z := ((len8 ((y / 2 ^ 16) / 2 ^ 8) : Nat) : Int)) rfl (wi64 (by omega) (by have h8 := (LenOK.of8 h255 h00).2; omega))) rfl ?_
    refine s_q (yM (z := 24 + ((len8 ((y / 2 ^ 16) / 2 ^ 8) : Nat) : Int)) rfl rfl (wi64 (by omega) (by have h8 := (LenOK.of8 h255 h00).2; omega))) rfl ?_
    refine rn [3,0,11] ?_
    exact fin1 rfl (.tmp rfl) (fun w' hw' => ⟨(len8 ((y / 2 ^ 16) / 2 ^ 8) + 8 + 16), (by (try dsimp only); exact ⟨(((LenOK.of8 h255 h00).1).up 8).up 16, by have h8 := (LenOK.of8 h255 h00).2; omega⟩), by congr 1; omega, zA w' hw'⟩) _ (.inl rfl)
   ·have hc8 := of_decide_eq_false h6
    refine rn [12,7,1] ?_
    have h00 : 0 < (y / 2 ^ 16) := by simp_all; omega
    have h255 : (y / 2 ^ 16) < 256 := by simp_all; omega
    refine rn [2,2] ?_
    refine s_q (yQ (z := (((y / 2 ^ 16) : Nat) : Int)) rfl (by rw [IntKind.wrap_u8]; omega)) rfl ?_
    refine s_q (q_len8 (a := (y / 2 ^ 16)) (by kernel_rfl) rfl rfl (by decide +kernel) h255) rfl ?_
    refine s_q (yQ (z := ((len8 (y / 2 ^ 16) : Nat) : Int)) rfl (wi64 (by omega) (by have h8 := (LenOK.of8 h255 h00).2; omega))) rfl ?_
    refine s_q (yM (z := 16 + ((len8 (y / 2 ^ 16) : Nat) : Int)) rfl rfl (wi64 (by omega) (by have h8 := (LenOK.of8 h255 h00).2; omega))) rfl ?_
    refine rn [3,0,11] ?_
    exact fin1 rfl (.tmp rfl) (fun w' hw' => ⟨(len8 (y / 2 ^ 16) + 16), (by (try dsimp only); exact ⟨((LenOK.of8 h255 h00).1).up 16, by have h8 := (LenOK.of8 h255 h00).2; omega⟩), by congr 1; omega, zA w' hw'⟩) _ (.inl rfl)
  ·have hc16 := of_decide_eq_false h5
   refine rn [12,7,8,1,2,53,0] ?_
   refine zC rfl (fun h7 => ?_) (fun h7 => ?_)
   ·have hc8 := of_decide_eq_true h7
    refine rn [1,2] ?_
    refine s_q (q_shrn (a := y) (n := 8) rfl rfl (by omega)) rfl ?_
    refine rn [3,0,10,2] ?_
    refine s_q (yM (z := 8) rfl rfl rfl) rfl ?_
    refine rn [3,0,1] ?_
    have h00 : 0 < (y / 2 ^ 8) := by simp_all; omega
    have h255 : (y / 2 ^ 8) < 256 := by simp_all; omega
    refine rn [2,2] ?_
    refine s_q (yQ (z := (((y / 2 ^ 8) : Nat) : Int)) rfl (by rw [IntKind.wrap_u8]; omega)) rfl ?_
    refine s_q (q_len8 (a := (y / 2 ^ 8)) (by kernel_rfl) rfl rfl (by decide +kernel) h255) rfl ?_
    refine s_q (yQ (z := ((len8 (y / 2 ^ 8) : Nat) : Int)) rfl (wi64 (by omega) (by have h8 := (LenOK.of8 h255 h00).2; omega))) rfl ?_
    refine s_q (yM (z := 8 + ((len8 (y / 2 ^ 8) : Nat) : Int)) rfl rfl (wi64 (by omega) (by have h8 := (LenOK.of8 h255 h00).2; omega))) rfl ?_
    refine rn [3,0,11] ?_
    exact fin1 rfl (.tmp rfl) (fun w' hw' => ⟨(len8 (y / 2 ^ 8) + 8), (by (try dsimp only); exact ⟨((LenOK.of8 h255 h00).1).up 8, by have h8 := (LenOK.of8 h255 h00).2; omega⟩), by congr 1; omega, zA w' hw'⟩) _ (.inl rfl)
   ·have hc8 := of_decide_eq_false h7
    refine rn [12,7,1] ?_
    have h00 : 0 < y := by simp_all; omega
    have h255 : y < 256 := by simp_all; omega
    refine rn [2,2] ?_
    refine s_q (yQ (z := ((y : Nat) : Int)) rfl (by rw [IntKind.wrap_u8]; omega)) rfl ?_
    refine s_q (q_len8 (a := y) (by kernel_rfl) rfl rfl (by decide +kernel) h255) rfl ?_
    refine s_q (yQ (z := ((len8 y : Nat) : Int)) rfl (wi64 (by omega) (by have h8 := (LenOK.of8 h255 h00).2; omega))) rfl ?_
    refine s_q (yM (z := 0 + ((len8 y : Nat) : Int)) rfl rfl (wi64 (by omega) (by have h8 := (LenOK.of8 h255 h00).2; omega))) rfl ?_
    refine rn [3,0,11] ?_
    exact fin1 rfl (.tmp rfl) (fun w' hw' => ⟨(len8 y), (by (try dsimp only); exact ⟨(LenOK.of8 h255 h00).1, by have h8 := (LenOK.of8 h255 h00).2; omega⟩), by congr 1; omega, zA w' hw'⟩) _ (.inl rfl)
theorem lz64_any (y : Nat) (w : World) (hx : y < 18446744073709551616) (hy : 1 ≤ y) : Own2 (ι := Nat) Tryz.prog 320 [.int .u64 ((y : Nat) : Int)] w [] (fun x => NrmOK y x) (fun x => .int .i64 (x : Int)) (fun x => []) (fun x => []) := by
 refine g_st Tryz.func320 6 (WOK.start (fps []) _) ?_
 refine rn [1,3,0,1,2] ?_
 refine g_op (zH [] rfl (fun w1 hw1 ho1 => by have h7 := len64_any y w1 hx hy; exact h7) rfl ?_)
 rintro n4 h4
 refine ii ?_
 have h5 := h4.2
 refine s_q (yY (z := ((64 - n4 : Nat) : Int)) rfl rfl (by rw [wi64 (by omega) (by omega)]; omega)) rfl ?_
 refine rn [3,0,11] ?_
 exact fin1 rfl (.tmp rfl) (fun w' hw' => ⟨(64 - n4), (by exact h4.1.nrm h4.2 hy), rfl, zA w' hw'⟩) _ (.inl rfl)
theorem sub64 {s : Nat} (h : s ≤ 64) : IntKind.u64.wrap (64 - (s : Int)) = ((64 - s : Nat) : Int) := by rw [IntKind.wrap_u64]; omega
theorem div64_any (hi lo y : Nat) (w : World) (hy : 1 ≤ y) (hy2 : y ≤ 4294967296) (hh : hi < y) (hl : lo < 18446744073709551616) : Own2 (ι := Int) Tryz.prog 291 [.int .u64 ((hi : Nat) : Int), .int .u64 ((lo : Nat) : Int), .int .u64 ((y : Nat) : Int)] w [] (fun x => True) (fun x => .tuple [.int .u64 (((hi * 18446744073709551616 + lo) / y : Nat) : Int), .int .u64 x].toArray) (fun x => []) (fun x => []) := by
 refine g_st Tryz.func291 135 (WOK.start (fps []) _) ?_
 refine rn [1,3,3,0,8,1,2,44] ?_
 refine yD 20 (b := false) rfl (eq_no hy) ?_
 refine rn [0,20,12,7,8,1,2,2,56] ?_
 refine yD 24 (b := false) rfl (le_no hh) ?_
 refine rn [0,20,12,7,8,1,2,44,0] ?_
 refine zC rfl (fun h1 => ?_) (fun h1 => ?_)
 ·have hz : hi = 0 := by have h9 := of_decide_eq_true h1; omega
  subst hz
  refine rn [8] ?_
  refine dreg [] mixed rfl ?_
  refine rn [23,0,2,23,1,2] ?_
  refine dq 2 rfl (q_quou (a := lo) (b := y) rfl rfl hl hy) ?_
  refine rn [23,3,2,23,4,2] ?_
  refine dq 5 rfl (q_rem rfl rfl (by omega)) ?_
  refine rn [23,6,3,23,7,3,27,7,11,13] ?_
  exact fin2 rfl (.tmp rfl) (.tmp rfl) (fun w' hw' => ⟨_, (by exact trivial), by first | rfl | (simp; rfl), zA w' hw'⟩) _ (.inl rfl)
 ·have hz : hi ≠ 0 := by have h9 := of_decide_eq_false h1; omega
  refine rn [12,7,1,2] ?_
  refine g_op (zH [] rfl (fun w1 hw1 ho1 => by have h7 := lz64_any y w1 (by omega) hy; exact h7) rfl ?_)
  rintro s hs
  refine ii ?_
  obtain ⟨v, U, R, D⟩ := div_ok hy hy2 hh hl hs
  obtain ⟨m1, m2, m3, m4, m5, m6⟩ := D.more
  obtain ⟨d1, d2, d3, d4, d5, d6, d7, d8, d9, d10, d11⟩ := D
  have hs63 := hs.le
  have hs64 : s ≤ 64 := Nat.le_succ_of_le hs63
  refine s_q (yQ (z := ((s : Nat) : Int)) rfl (wu64 (Int.natCast_nonneg _) (Int.ofNat_lt.2 (Nat.lt_of_le_of_lt hs63 (by decide))))) rfl ?_
  refine rn [3,0,1,2,2] ?_
  refine s_q (q_shln (a := y) (n := s) rfl rfl hs64) rfl ?_
  refine g_val 39 (v' := .int .u64 ((v * 4294967296 : Nat) : Int)) rfl (by rw [d2, Nat.mod_eq_of_lt m1]) ?_
  refine rn [3,0,1,2] ?_
  refine s_q (q_shr32 (a := v * 4294967296) rfl rfl) rfl ?_
  refine g_val 41 (v' := .int .u64 ((v : Nat) : Int)) rfl (by rw [Nat.mul_div_cancel _ (by decide)]) ?_
  refine rn [3,0,1,2] ?_
  refine s_q (q_and32 (a := v * 4294967296) rfl rfl m1) rfl ?_
  refine g_val 43 (v' := .int .u64 ((0 : Nat) : Int)) rfl (by rw [Nat.mul_mod_left]) ?_
  refine rn [3,0,1,2,2] ?_
  refine s_q (q_shln (a := hi) (n := s) rfl rfl hs64) rfl ?_
  refine rn [2,2] ?_
  refine s_q (yY (z := ((64 - s : Nat) : Int)) rfl rfl (sub64 hs64)) rfl ?_
  refine s_q (q_shrn (a := lo) (n := 64 - s) rfl rfl (Nat.sub_le _ _)) rfl ?_
  refine s_q (q_orn (a := hi * 2 ^ s % 18446744073709551616) (b := lo / 2 ^ (64 - s)) rfl rfl (Nat.mod_lt _ (by decide)) (Nat.lt_of_le_of_lt (Nat.div_le_self _ _) hl)) rfl ?_
  refine g_val 51 (v' := .int .u64 ((U : Nat) : Int)) rfl (by rw [d4]) ?_
  refine rn [3,0,1,2,2] ?_
  refine s_q (q_shln (a := lo) (n := s) rfl rfl hs64) rfl ?_
  refine g_val 54 (v' := .int .u64 ((R : Nat) : Int)) rfl (by rw [d5]) ?_
  refine rn [3,0,1,2] ?_
  refine s_q (q_shr32 (a := R) rfl rfl) rfl ?_
  refine rn [3,0,1,2] ?_
  refine s_q (q_and32 (a := R) rfl rfl d7) rfl ?_
  refine rn [3,0,1,2,2] ?_
  refine s_q (q_quou (a := U) (b := v) rfl rfl m2 d1) rfl ?_
  refine rn [3,0,1,2,2,2] ?_
  refine s_q (q_mulu (a := U / v) (b := v) rfl rfl (Nat.lt_of_le_of_lt m3 m2)) rfl ?_
  refine s_q (q_subu (a := U) (b := U / v * v) rfl rfl m3 m2) rfl ?_
  refine g_val 66 (v' := .int .u64 ((U % v : Nat) : Int)) rfl (by rw [m4]) ?_
  refine rn [3,0,8,14] ?_
  refine g_lk [2, 6, 7, 8, 9, 10, 11, 13, 14] (fun (x : Nat) => [(15, .int .u64 ((U / v : Nat) : Int)), (16, .int .u64 ((U % v : Nat) : Int))]) (fun (x : Nat) => []) (fun (x : Nat) => True) (fun (x : Nat) => 0 * x) 0 (trivial) ?_
  rintro u _
  refine rn [8,1,2,53] ?_
  refine yD 68 (b := false) rfl (ge_no d9) ?_
  refine rn [2,22,2,22,2] ?_
  refine s_qg (q_mulz (z := 0) rfl rfl (by simp [IntKind.wrap_u64])) rfl rfl rfl ?_
  refine rn [22,2,22,60,22,2,22,54,22,55] ?_
  refine yD 77 (b := false) rfl (gt_no _) ?_
  refine rn [42,0,20,16] ?_
  refine zE (zE (zQ ?_))
  refine rn [7,1,2,60,2,54,2,2,60] ?_
  refine s_q (yY (z := (((U % v * 4294967296 + R / 4294967296) : Nat) : Int)) rfl rfl (wr1 U v R m5)) rfl ?_
  refine rn [3,0,1,2,2] ?_
  refine s_q (q_quou (a := (U % v * 4294967296 + R / 4294967296)) (b := v) rfl rfl m5 d1) rfl ?_
  refine rn [3,0,1,2,2,2] ?_
  refine s_q (q_mulu (a := (U % v * 4294967296 + R / 4294967296) / v) (b := v) rfl rfl (Nat.lt_of_le_of_lt m6 m5)) rfl ?_
  refine s_q (q_subu (a := (U % v * 4294967296 + R / 4294967296)) (b := (U % v * 4294967296 + R / 4294967296) / v * v) rfl rfl m6 m5) rfl ?_
  refine rn [3,0,8,14] ?_
  refine g_lk [2, 6, 7, 8, 9, 10, 14, 15, 17] (fun (x : Nat) => [(18, .int .u64 (((U % v * 4294967296 + R / 4294967296) / v : Nat) : Int)), (16, .int .u64 (((U % v * 4294967296 + R / 4294967296) - (U % v * 4294967296 + R / 4294967296) / v * v : Nat) : Int))]) (fun (x : Nat) => []) (fun (x : Nat) => True) (fun (x : Nat) => 0 * x) 0 (trivial) ?_
  rintro u _
  refine rn [8,1,2,53] ?_
  refine yD 103 (b := false) rfl (ge_no d10) ?_
  refine rn [2,22,2,22,2] ?_
  refine s_qg (q_mulz (z := 0) rfl rfl (by simp [IntKind.wrap_u64])) rfl rfl rfl ?_
  refine rn [22,2,22,60,22,2,22,54,22,55] ?_
  refine yD 112 (b := false) rfl (gt_no _) ?_
  refine rn [42,0,20,16] ?_
  refine zE (zE (zQ ?_))
  refine rn [7,1,2,60,2] ?_
  refine s_q (yM (z := (((hi * 18446744073709551616 + lo) / y : Nat) : Int)) rfl rfl (by rw [← d8]; exact wr2 _ _ d9 d10)) rfl ?_
  refine rn [2,60,2,54,2,2,60,57,2] ?_
  refine s_q (q_shri (n := s) rfl rfl hs64) rfl ?_
  refine rn [3,3,0,11] ?_
  exact fin2 rfl (.tmp rfl) (.tmp rfl) (fun w' hw' => ⟨_, (by exact trivial), by first | rfl | (simp; rfl), zA w' hw'⟩) _ (.inl rfl)
theorem muldiv_any (x y z : Nat) (w : World) (hx : x < 18446744073709551616) (hz1 : 1 ≤ z) (hz2 : z ≤ 4294967296) (hyz : y ≤ z) : Pur Tryz.prog 247 [.int .u64 ((x : Nat) : Int), .int .u64 ((y : Nat) : Int), .int .u64 ((z : Nat) : Int)] w (.tuple [.int .u64 ((x * y / z : Nat) : Int), .bool true].toArray) := by
 refine g_st Tryz.func247 28 (WOK.start [] _) ?_
 have hlt : x * y / 18446744073709551616 < z := by
   rw [Nat.div_lt_iff_lt_mul (by decide)]
   exact Nat.lt_of_le_of_lt (Nat.mul_le_mul_left x hyz) (by rw [Nat.mul_comm x]; exact Nat.mul_lt_mul_of_pos_left hx (by omega))
 refine rn [1,3,3,0,1,2,2] ?_
 refine g_op (zG rfl (fun w1 hw1 => prod_any x y w1 (by omega) (by omega)) rfl ?_)
 refine g_op (zI rfl fun b8 => ?_)
 refine rn [33,0,8,1] ?_
 refine s_q (yR (i := 0) rfl rfl rfl (by decide)) rfl ?_
 refine rn [5,2,53,0] ?_
 refine zC rfl (fun h1 => ?_) (fun h1 => ?_)
 ·exfalso; have h9 := of_decide_eq_true h1; omega
 ·refine rn [12,7,1] ?_
  refine s_q (yR (i := 0) rfl rfl rfl (by decide)) rfl ?_
  refine rn [5] ?_
  refine s_q (yR (i := 1) rfl rfl rfl (by decide)) rfl ?_
  refine rn [5,2] ?_
  refine g_op (zH [] rfl (fun w1 hw1 ho1 => by have h7 := div64_any (x * y / 18446744073709551616) (x * y % 18446744073709551616) z w1 (by omega) hz2 hlt (Nat.mod_lt _ (by decide)); exact h7) rfl ?_)
  rintro r24 _
  refine ii ?_
  refine rn [2,40,40,3,3,0,1,2,3,3,0,11] ?_
  exact fin2 rfl (.tmp rfl) (.tmp rfl) (fun w' hw' => ⟨by rw [show x * y / 18446744073709551616 * 18446744073709551616 + x * y % 18446744073709551616 = x * y from by have := Nat.div_add_mod (x * y) 18446744073709551616; omega], hw'.upd⟩) _ (.inl rfl)
theorem amount_any (x y z : Int) (w : World) (hx : 0 ≤ x ∧ x ≤ 18446744073709551615) (hy : 0 ≤ y) (hz : 1 ≤ z ∧ z ≤ 4294967296) (hyz : y ≤ z) : Pur Tryz.prog 172 [.int .u64 x, .int .u64 y, .int .u64 z] w (.tuple [.int .u64 (x * y / z), .bool true].toArray) := by
 refine g_st Tryz.func172 17 (WOK.start [] _) ?_
 refine rn [1,3,3,0,8,1,2,2,55,0] ?_
 refine zC rfl (fun h1 => ?_) (fun h1 => ?_)
 ·exfalso; have h9 := of_decide_eq_true h1; omega
 ·refine rn [12,7,1,2,2,2] ?_
  refine g_op (zG rfl (fun w1 hw1 => by have h7 := muldiv_any x.toNat y.toNat z.toNat w1 (by omega) (by omega) (by omega) (by omega); rw [Int.toNat_of_nonneg hx.1, Int.toNat_of_nonneg hy, Int.toNat_of_nonneg (show 0 ≤ z by omega)] at h7; exact h7) rfl ?_)
  refine rn [40,40,3,3,0,11] ?_
  exact fin2 rfl (.tmp rfl) (.tmp rfl) (fun w' hw' => ⟨by rw [Int.natCast_ediv, Int.natCast_mul, Int.toNat_of_nonneg hx.1, Int.toNat_of_nonneg hy, Int.toNat_of_nonneg (show 0 ≤ z by omega)], hw'.upd⟩) _ (.inl rfl)
theorem Rd.star {w : World} {Ls : List Res} {A : Option Addr} {n k : Nat} {els : List (List Value)} (h : Rd w Ls A n k els) : Rd w [.star Ls] A n k els := ⟨h.old, by rw [fps_star]; exact h.away⟩
def okP {σ : Type} (v : V) (_ : σ) : Prop := (0 ≤ v.st ∧ v.st ≤ 7) ∧ 0 ≤ v.bal ∧ v.bal ≤ 18446744073709551615
theorem nxt_rng (s e : Int) : 0 ≤ nxt s e ∧ nxt s e ≤ 7 := by
 unfold nxt
 repeat' split
 all_goals omega
theorem okP_ev {e : Nat} {v : V} (h : okP v ()) : okP (evR e v).1 () := by
 unfold evR; split
 ·exact h
 ·exact ⟨nxt_rng _ _, h.2⟩
theorem burnV_eq {b : Int} {c : C} (h : c.pnum ≤ c.pden) : burnV b c = b * c.pnum / c.pden := by unfold burnV; rw [if_neg (by omega)]
theorem sla2_any (b q q2 : Nat) (v : V) (c : C) (z : Int) (w : World) (hw : W0 [Res.blk b 52 (V.c v), Res.blk q 24 c.c, Res.blk q2 22 [Value.int .u64 (z)]] w) (hvb : 0 ≤ v.bal ∧ v.bal ≤ 18446744073709551615) (hpn : 0 ≤ c.pnum) (hpd : 1 ≤ c.pden ∧ c.pden ≤ 4294967296) (hnd : c.pnum ≤ c.pden) : Own2 (ι := Unit) Tryz.prog 171 [.pointer (some ⟨b, 0, none⟩), .pointer (some ⟨q, 0, none⟩), .pointer (some ⟨q2, 0, none⟩)] w [Res.blk b 52 (V.c v), Res.blk q 24 c.c, Res.blk q2 22 [Value.int .u64 (z)]] (fun x => True) (fun x => .int .i64 0) (fun x => []) (fun x => [Res.blk b 52 (V.c { v with bal := IntKind.u64.wrap (v.bal - burnV v.bal c) }), Res.blk q 24 c.c, Res.blk q2 22 [Value.int .u64 (burnV v.bal c)]]) := by
 refine g_st Tryz.func171 25 hw ?_
 refine rn [1,3,0,8] ?_
 refine dreg [12] mixed rfl ?_
 refine rn [23,0,2,23,1,6,23,2,4,23,3,5,23,4,4,23,5,5,23,6,4,23,7,5] ?_
 refine dop 8 rfl (zG rfl (fun w1 hw1 => amount_any v.bal c.pnum c.pden w1 hvb hpn hpd hnd) rfl ?_)
 refine rn [23,9,2,23,10,40,24,11,40] ?_
 refine dop 12 rfl (zP rfl rfl rfl rfl rfl rfl rfl ?_)
 refine zJ (b := q2) [Value.int .u64 (burnV v.bal c)] (by rw [burnV_eq hnd]; rfl) ?_
 refine rn [28,7,8] ?_
 refine dreg [8] mixed rfl ?_
 refine rn [23,0,2,23,1,6,23,2,4,23,3,5,23,4,5,23,5,57,24,6,6,23,7,4] ?_
 refine dop 8 rfl (zP rfl rfl rfl rfl rfl rfl rfl ?_)
 refine zJ (b := b) (V.c { v with bal := IntKind.u64.wrap (v.bal - burnV v.bal c) }) (by simp [splice, V.c]) ?_
 refine rn [28,7,1,3,0,11] ?_
 exact fin1 rfl (.tmp rfl) (fun w' hw' => ⟨(), (by exact trivial), rfl, zA w' hw'⟩) _ (.inl rfl)
theorem acc_ap (v : V) (e : Int) (a b : List Value) : applyC ([⟨243, a, fun v _ => ((acR e v).1, (acR e v).2, ())⟩, ⟨248, b, fun v _ => ((evR 2 v).1, (evR 2 v).2, ())⟩] : List (Chg Unit)) v () = ((accV v e).1, (accV v e).2, ()) := by
 unfold accV
 by_cases h1 : latB [e] = false
 ·rw [if_pos h1]; simp [applyC, acR, h1]
 ·rw [if_neg h1]
  by_cases h2 : nxt v.st 2 = 0
  ·rw [if_pos h2]; simp [applyC, acR, evR, h1, h2]
  ·rw [if_neg h2]; simp [applyC, acR, evR, h1, h2]
theorem accept_any (v : V) (e : Int) (w : World) (he : I64 e) (hok : okP v ()) : Pur Tryz.prog 166 [v.v, .int .i64 e] w (.tuple [V.v (accV v e).1, .int .i64 (accV v e).2].toArray) := by
 refine g_st Tryz.func166 15 (WOK.start [] _) ?_
 refine rn [1] ?_
 refine g_op (g_box (c := V.c v) rfl rfl rfl fun b2 => ?_)
 refine g_op (g_box rfl rfl rfl fun b3 => ?_)
 refine g_op (zI rfl fun b4 => ?_)
 refine rn [3,0,1,52,3,0,8] ?_
 refine dreg [7] mixed rfl ?_
 refine rn [23,0,45,23,1,2] ?_
 refine dop 2 rfl (zH [] rfl (fun w1 hw1 ho1 => by have h7 := event_any (2) w1; exact h7) rfl ?_)
 rintro b10 _
 refine ii ?_
 refine dop 3 rfl (g_lit rfl rfl rfl rfl rfl fun b11 => ?_)
 refine zJ (b := b11) [Value.func (.func 243) #[] [Value.pointer (some ⟨b3, 0, none⟩)].toArray, Value.func (.func 248) #[] [Value.pointer (some ⟨b10, 0, none⟩)].toArray] rfl ?_
 refine dop 4 rfl (zH _ rfl (fun w1 hw1 ho1 => by
  have h7 := Own2.unstar (Ls := [Res.blk b3 3 [Value.int .i64 (e)], Res.blk b10 3 [Value.int .i64 (2)]]) (Ls1 := fun _ => [Res.blk b3 3 [Value.int .i64 (e)], Res.blk b10 3 [Value.int .i64 (2)]]) (fun hw2 => xG (fun z9 : Unit => Res.star [Res.blk b3 3 [Value.int .i64 (e)], Res.blk b10 3 [Value.int .i64 (2)]]) okP ([(⟨243, [Value.pointer (some ⟨b3, 0, none⟩)], fun v _ => ((acR e v).1, (acR e v).2, ())⟩ : Chg Unit), (⟨248, [Value.pointer (some ⟨b10, 0, none⟩)], fun v _ => ((evR 2 v).1, (evR 2 v).2, ())⟩ : Chg Unit)] : List (Chg Unit)) v () b11 w1 hw2 (by
   intro c9 hc9
   simp only [List.mem_cons, List.not_mem_nil, or_false] at hc9
   rcases hc9 with rfl | rfl
   · exact ⟨by kernel_rfl, fun v9 s9 h9 h0 => (by show okP (acR e v9).1 (); unfold acR; split <;> exact h9), fun b9 v9 s9 w9 hw9 h9 => Chg.go_of hw9 inferInstance inferInstance (fun w8 hw8 => acc1_any b9 b3 v9 e w8 hw8 he)⟩
   · exact ⟨by kernel_rfl, fun v9 s9 h9 h0 => okP_ev h9, fun b9 v9 s9 w9 hw9 h9 => Chg.go_of hw9 inferInstance inferInstance (fun w8 hw8 => ev1_any b9 b10 v9 2 w8 hw8 (by decide) h9.1)⟩) hok (Rd.star (Rd.ofBlk (b := b11) (T := 285) (c := [Value.func (.func 243) #[] [Value.pointer (some ⟨b3, 0, none⟩)].toArray, Value.func (.func 248) #[] [Value.pointer (some ⟨b10, 0, none⟩)].toArray]) hw1 rfl (by simp) rfl)) (by simp)) ho1
  exact h7) rfl ?_)
 rintro ⟨⟩ _
 refine ii ?_
 refine rn [23,5,40,23,6,40] ?_
 refine dop 7 rfl (zL rfl rfl rfl rfl rfl ?_)
 refine rn [24,8,3,28,7,11] ?_
 exact fin2 rfl (.cellw rfl rfl) (.tmp rfl) (fun w' hw' => ⟨by rw [← show (applyC _ v ()).1 = (accV v e).1 from by rw [acc_ap v e [Value.pointer (some ⟨b3, 0, none⟩)] [Value.pointer (some ⟨b10, 0, none⟩)]], ← show (applyC _ v ()).2.1 = (accV v e).2 from by rw [acc_ap v e [Value.pointer (some ⟨b3, 0, none⟩)] [Value.pointer (some ⟨b10, 0, none⟩)]]]; rfl, hw'.upd⟩) _ (.inl rfl)
theorem asn_ap (v : V) (e : Int) (c : C) (a b : List Value) : applyC ([⟨281, a, fun v _ => ((asR e v).1, (asR e v).2, ())⟩, ⟨249, b, fun v _ => ((dlR e c.unb v).1, (dlR e c.unb v).2, ())⟩] : List (Chg Unit)) v () = ((asnV v e c).1, (asnV v e c).2, ()) := by
 unfold asnV
 by_cases h1 : v.st ≠ 3 ∨ v.ex ≠ -1
 ·rw [if_pos h1]
  have hr : asR e v = (v, 8) := if_pos h1
  simp [applyC, hr]
 ·rw [if_neg h1]
  have hr : asR e v = ({ v with ex := e }, 0) := if_neg h1
  by_cases h2 : latB [e, c.unb] = false
  ·rw [if_pos h2]; simp [applyC, hr, dlR, h2]
  ·rw [if_neg h2]; simp [applyC, hr, dlR, h2]
theorem assign_any (v : V) (e : Int) (c : C) (w : World) (he : I64 e) (hd : I64 c.unb) (hok : okP v ()) : Pur Tryz.prog 230 [v.v, .int .i64 e, c.v] w (.tuple [V.v (asnV v e c).1, .int .i64 (asnV v e c).2].toArray) := by
 refine g_st Tryz.func230 20 (WOK.start [] _) ?_
 refine rn [1] ?_
 refine g_op (g_box (c := V.c v) rfl rfl rfl fun b3 => ?_)
 refine g_op (g_box rfl rfl rfl fun b4 => ?_)
 refine g_op (g_box (c := C.c c) rfl rfl rfl fun b5 => ?_)
 refine g_op (zI rfl fun b6 => ?_)
 refine rn [3,0,1,52,3,0,8] ?_
 refine dreg [10] mixed rfl ?_
 refine rn [23,0,45,23,1,2,23,2,5,23,3,4,23,4,5] ?_
 refine dop 5 rfl (zH [] rfl (fun w1 hw1 ho1 => by have h7 := delay_any (e) (c.unb) w1; exact h7) rfl ?_)
 rintro ⟨b15, p15⟩ _
 refine ii ?_
 refine dop 6 rfl (g_lit rfl rfl rfl rfl rfl fun b16 => ?_)
 refine zJ (b := b16) [Value.func (.func 281) #[] [Value.pointer (some ⟨b4, 0, none⟩)].toArray, Value.func (.func 249) #[] [Value.pointer (some ⟨b15, 0, none⟩), Value.pointer (some ⟨p15, 0, none⟩)].toArray] rfl ?_
 refine dop 7 rfl (zH _ rfl (fun w1 hw1 ho1 => by
  have h7 := Own2.unstar (Ls := [Res.blk b4 3 [Value.int .i64 (e)], Res.blk b15 3 [Value.int .i64 (e)], Res.blk p15 3 [Value.int .i64 (c.unb)]]) (Ls1 := fun _ => [Res.blk b4 3 [Value.int .i64 (e)], Res.blk b15 3 [Value.int .i64 (e)], Res.blk p15 3 [Value.int .i64 (c.unb)]]) (fun hw2 => xG (fun z9 : Unit => Res.star [Res.blk b4 3 [Value.int .i64 (e)], Res.blk b15 3 [Value.int .i64 (e)], Res.blk p15 3 [Value.int .i64 (c.unb)]]) okP ([(⟨281, [Value.pointer (some ⟨b4, 0, none⟩)], fun v _ => ((asR e v).1, (asR e v).2, ())⟩ : Chg Unit), (⟨249, [Value.pointer (some ⟨b15, 0, none⟩), Value.pointer (some ⟨p15, 0, none⟩)], fun v _ => ((dlR e c.unb v).1, (dlR e c.unb v).2, ())⟩ : Chg Unit)] : List (Chg Unit)) v () b16 w1 hw2 (by
   intro c9 hc9
   simp only [List.mem_cons, List.not_mem_nil, or_false] at hc9
   rcases hc9 with rfl | rfl
   · exact ⟨by kernel_rfl, fun v9 s9 h9 h0 => (by show okP (asR e v9).1 (); unfold asR; split <;> exact h9), fun b9 v9 s9 w9 hw9 h9 => Chg.go_of hw9 inferInstance inferInstance (fun w8 hw8 => asn1_any b9 b4 v9 e w8 hw8)⟩
   · exact ⟨by kernel_rfl, fun v9 s9 h9 h0 => (by show okP (dlR e c.unb v9).1 (); unfold dlR; split <;> exact h9), fun b9 v9 s9 w9 hw9 h9 => Chg.go_of hw9 inferInstance inferInstance (fun w8 hw8 => del1_any b9 b15 p15 v9 e c.unb w8 hw8 he hd)⟩) hok (Rd.star (Rd.ofBlk (b := b16) (T := 285) (c := [Value.func (.func 281) #[] [Value.pointer (some ⟨b4, 0, none⟩)].toArray, Value.func (.func 249) #[] [Value.pointer (some ⟨b15, 0, none⟩), Value.pointer (some ⟨p15, 0, none⟩)].toArray]) hw1 rfl (by simp) rfl)) (by simp)) ho1
  exact h7) rfl ?_)
 rintro ⟨⟩ _
 refine ii ?_
 refine rn [23,8,40,23,9,40] ?_
 refine dop 10 rfl (zL rfl rfl rfl rfl rfl ?_)
 refine rn [24,11,3,28,7,11] ?_
 exact fin2 rfl (.cellw rfl rfl) (.tmp rfl) (fun w' hw' => ⟨by rw [← show (applyC _ v ()).1 = (asnV v e c).1 from by rw [asn_ap v e c [Value.pointer (some ⟨b4, 0, none⟩)] [Value.pointer (some ⟨b15, 0, none⟩), Value.pointer (some ⟨p15, 0, none⟩)]], ← show (applyC _ v ()).2.1 = (asnV v e c).2 from by rw [asn_ap v e c [Value.pointer (some ⟨b4, 0, none⟩)] [Value.pointer (some ⟨b15, 0, none⟩), Value.pointer (some ⟨p15, 0, none⟩)]]]; rfl, hw'.upd⟩) _ (.inl rfl)
theorem pay_ap (v : V) (e : Int) (a b : List Value) : applyC ([⟨248, a, fun v _ => ((evR 5 v).1, (evR 5 v).2, ())⟩, ⟨240, b, fun v _ => ((duR e v).1, (duR e v).2, ())⟩] : List (Chg Unit)) v () = ((payV v e).1, (payV v e).2.2, ()) := by
 unfold payV
 by_cases h1 : nxt v.st 5 = 0
 ·rw [if_pos h1]; simp [applyC, evR, h1]
 ·rw [if_neg h1]
  by_cases h2 : e < v.wd
  ·rw [if_pos h2]; simp [applyC, evR, duR, h1, h2]
  ·rw [if_neg h2]; simp [applyC, evR, duR, h1, h2]
theorem xE (v : V) (e : Int) : (payV v e).2.1 = if (payV v e).2.2 = 0 then v.bal else 0 := by
 unfold payV
 repeat' split
 all_goals simp_all
theorem pay_any9 (v : V) (e : Int) (w : World) (hok : okP v ()) : Pur Tryz.prog 160 [v.v, .int .i64 e] w (.tuple [V.v (payV v e).1, .int .u64 (payV v e).2.1, .int .i64 (payV v e).2.2].toArray) := by
 refine g_st Tryz.func160 26 (WOK.start [] _) ?_
 refine rn [1] ?_
 refine g_op (g_box (c := V.c v) rfl rfl rfl fun b2 => ?_)
 refine g_op (g_box rfl rfl rfl fun b3 => ?_)
 refine g_op (zI rfl fun b4 => ?_)
 refine rn [3,3,0,1,52,3,0,8] ?_
 refine dreg [9] mixed rfl ?_
 refine rn [23,0,45,23,2,2] ?_
 refine yB [1, 8] (by kernel_rfl) (by simp) zB ⟨dpick rfl (zH [] rfl (fun w1 hw1 ho1 => by have h7 := event_any (5) w1; exact h7) rfl ?_), dpick rfl (zI rfl fun b8 => ?_), trivial⟩
 ·rintro b13 _
  refine ii ?_
  refine yB [3, 8] (by kernel_rfl) (by simp) zB ⟨dpick rfl (g_lit rfl rfl rfl rfl rfl fun b15 => ?_), dpick rfl (zI rfl fun b8 => ?_), trivial⟩
  ·refine zJ (b := b15) [Value.func (.func 248) #[] [Value.pointer (some ⟨b13, 0, none⟩)].toArray, Value.func (.func 240) #[] [Value.pointer (some ⟨b3, 0, none⟩)].toArray] rfl ?_
   refine yB [4, 8] (by kernel_rfl) (by simp) zB ⟨dpick rfl (zH _ rfl (fun w1 hw1 ho1 => by
    have h7 := Own2.unstar (Ls := [Res.blk b13 3 [Value.int .i64 (5)], Res.blk b3 3 [Value.int .i64 (e)]]) (Ls1 := fun _ => [Res.blk b13 3 [Value.int .i64 (5)], Res.blk b3 3 [Value.int .i64 (e)]]) (fun hw2 => xG (fun z9 : Unit => Res.star [Res.blk b13 3 [Value.int .i64 (5)], Res.blk b3 3 [Value.int .i64 (e)]]) okP ([(⟨248, [Value.pointer (some ⟨b13, 0, none⟩)], fun v _ => ((evR 5 v).1, (evR 5 v).2, ())⟩ : Chg Unit), (⟨240, [Value.pointer (some ⟨b3, 0, none⟩)], fun v _ => ((duR e v).1, (duR e v).2, ())⟩ : Chg Unit)] : List (Chg Unit)) v () b15 w1 hw2 (by
     intro c9 hc9
     simp only [List.mem_cons, List.not_mem_nil, or_false] at hc9
     rcases hc9 with rfl | rfl
     · exact ⟨by kernel_rfl, fun v9 s9 h9 h0 => okP_ev h9, fun b9 v9 s9 w9 hw9 h9 => Chg.go_of hw9 inferInstance inferInstance (fun w8 hw8 => ev1_any b9 b13 v9 5 w8 hw8 (by decide) h9.1)⟩
     · exact ⟨by kernel_rfl, fun v9 s9 h9 h0 => (by show okP (duR e v9).1 (); unfold duR; split; exact h9; exact ⟨h9.1, by simp⟩), fun b9 v9 s9 w9 hw9 h9 => Chg.go_of hw9 inferInstance inferInstance (fun w8 hw8 => pay1_any b9 b3 v9 e w8 hw8)⟩) hok (Rd.star (Rd.ofBlk (b := b15) (T := 285) (c := [Value.func (.func 248) #[] [Value.pointer (some ⟨b13, 0, none⟩)].toArray, Value.func (.func 240) #[] [Value.pointer (some ⟨b3, 0, none⟩)].toArray]) hw1 rfl (by simp) rfl)) (by simp)) ho1
    exact h7) rfl ?_), dpick rfl (zI rfl fun b8 => ?_), trivial⟩
   ·rintro ⟨⟩ _
    refine ii ?_
    refine rn [23,5,2,23,6,40] ?_
    refine g_val 17 (v' := V.v (payV v e).1) rfl (by rw [pay_ap v e [Value.pointer (some ⟨b13, 0, none⟩)] [Value.pointer (some ⟨b3, 0, none⟩)]]) ?_
    refine rn [24,7,40] ?_
    refine g_val 18 (v' := .int .i64 (payV v e).2.2) rfl (by rw [pay_ap v e [Value.pointer (some ⟨b13, 0, none⟩)] [Value.pointer (some ⟨b3, 0, none⟩)]]) ?_
    refine dop 8 rfl (zI rfl fun b8 => ?_)
    refine dop 9 rfl (zL rfl rfl rfl rfl rfl ?_)
    refine rn [24,10,3,28,7,8,1,2,51,0] ?_
    refine zC rfl (fun h1 => ?_) (fun h1 => ?_)
    ·have hc : ¬ (payV v e).2.2 = 0 := by simpa using h1
     refine rn [1,45,2,33,3,3,0,11,13] ?_
     exact fin3 rfl (.cellw rfl rfl) (.tmp rfl) (.tmp rfl) (fun w' hw' => ⟨by rw [xE, if_neg hc]; rfl, hw'.upd⟩) _ (.inl rfl)
    ·have hc : (payV v e).2.2 = 0 := by simpa using h1
     refine rn [12,7,8] ?_
     refine dreg [0, 2, 3] mixed rfl ?_
     refine rn [24,1,4] ?_
     refine yB [0, 2] (by kernel_rfl) (by simp) zB ⟨dpick rfl (G.quiet (yK rfl rfl) rfl ?_), dpick rfl (G.quiet (yO rfl rfl) rfl ?_), trivial⟩
     ·refine yB [2, 3] (by kernel_rfl) (by simp) zB ⟨dpick rfl (G.quiet (yO rfl rfl) rfl ?_), dpick rfl (zL rfl rfl rfl rfl rfl ?_), trivial⟩
      ·refine dtail 3 rfl (zL rfl rfl rfl rfl rfl ?_)
       refine rn [24,4,3,24,5,3,28,7,11] ?_
       exact fin3 rfl (.cellw rfl rfl) (.tmp rfl) (.tmp rfl) (fun w' hw' => ⟨by rw [xE, if_pos hc, hc]; rfl, hw'.upd⟩) _ (.inl rfl)
      ·refine dtail 2 rfl (G.quiet (yO rfl rfl) rfl ?_)
       refine rn [24,4,3,24,5,3,28,7,11] ?_
       exact fin3 rfl (.cellw rfl rfl) (.tmp rfl) (.tmp rfl) (fun w' hw' => ⟨by rw [xE, if_pos hc, hc]; rfl, hw'.upd⟩) _ (.inl rfl)
     ·refine dtail 0 rfl (G.quiet (yK rfl rfl) rfl ?_)
      refine dtail 3 rfl (zL rfl rfl rfl rfl rfl ?_)
      refine rn [24,4,3,24,5,3,28,7,11] ?_
      exact fin3 rfl (.cellw rfl rfl) (.tmp rfl) (.tmp rfl) (fun w' hw' => ⟨by rw [xE, if_pos hc, hc]; rfl, hw'.upd⟩) _ (.inl rfl)
   ·refine dop 4 rfl (zH _ rfl (fun w1 hw1 ho1 => by
     have h7 := Own2.unstar (Ls := [Res.blk b13 3 [Value.int .i64 (5)], Res.blk b3 3 [Value.int .i64 (e)]]) (Ls1 := fun _ => [Res.blk b13 3 [Value.int .i64 (5)], Res.blk b3 3 [Value.int .i64 (e)]]) (fun hw2 => xG (fun z9 : Unit => Res.star [Res.blk b13 3 [Value.int .i64 (5)], Res.blk b3 3 [Value.int .i64 (e)]]) okP ([(⟨248, [Value.pointer (some ⟨b13, 0, none⟩)], fun v _ => ((evR 5 v).1, (evR 5 v).2, ())⟩ : Chg Unit), (⟨240, [Value.pointer (some ⟨b3, 0, none⟩)], fun v _ => ((duR e v).1, (duR e v).2, ())⟩ : Chg Unit)] : List (Chg Unit)) v () b15 w1 hw2 (by
      intro c9 hc9
      simp only [List.mem_cons, List.not_mem_nil, or_false] at hc9
      rcases hc9 with rfl | rfl
      · exact ⟨by kernel_rfl, fun v9 s9 h9 h0 => okP_ev h9, fun b9 v9 s9 w9 hw9 h9 => Chg.go_of hw9 inferInstance inferInstance (fun w8 hw8 => ev1_any b9 b13 v9 5 w8 hw8 (by decide) h9.1)⟩
      · exact ⟨by kernel_rfl, fun v9 s9 h9 h0 => (by show okP (duR e v9).1 (); unfold duR; split; exact h9; exact ⟨h9.1, by simp⟩), fun b9 v9 s9 w9 hw9 h9 => Chg.go_of hw9 inferInstance inferInstance (fun w8 hw8 => pay1_any b9 b3 v9 e w8 hw8)⟩) hok (Rd.star (Rd.ofBlk (b := b15) (T := 285) (c := [Value.func (.func 248) #[] [Value.pointer (some ⟨b13, 0, none⟩)].toArray, Value.func (.func 240) #[] [Value.pointer (some ⟨b3, 0, none⟩)].toArray]) hw1 rfl (by simp) rfl)) (by simp)) ho1
     exact h7) rfl ?_)
    rintro ⟨⟩ _
    refine ii ?_
    refine rn [23,5,2,23,6,40] ?_
    refine g_val 17 (v' := V.v (payV v e).1) rfl (by rw [pay_ap v e [Value.pointer (some ⟨b13, 0, none⟩)] [Value.pointer (some ⟨b3, 0, none⟩)]]) ?_
    refine rn [24,7,40] ?_
    refine g_val 18 (v' := .int .i64 (payV v e).2.2) rfl (by rw [pay_ap v e [Value.pointer (some ⟨b13, 0, none⟩)] [Value.pointer (some ⟨b3, 0, none⟩)]]) ?_
    refine dop 9 rfl (zL rfl rfl rfl rfl rfl ?_)
    refine rn [24,10,3,28,7,8,1,2,51,0] ?_
    refine zC rfl (fun h2 => ?_) (fun h2 => ?_)
    ·have hc : ¬ (payV v e).2.2 = 0 := by simpa using h2
     refine rn [1,45,2,33,3,3,0,11,13] ?_
     exact fin3 rfl (.cellw rfl rfl) (.tmp rfl) (.tmp rfl) (fun w' hw' => ⟨by rw [xE, if_neg hc]; rfl, hw'.upd⟩) _ (.inl rfl)
    ·have hc : (payV v e).2.2 = 0 := by simpa using h2
     refine rn [12,7,8] ?_
     refine dreg [0, 2, 3] mixed rfl ?_
     refine rn [24,1,4] ?_
     refine yB [0, 2] (by kernel_rfl) (by simp) zB ⟨dpick rfl (G.quiet (yK rfl rfl) rfl ?_), dpick rfl (G.quiet (yO rfl rfl) rfl ?_), trivial⟩
     ·refine yB [2, 3] (by kernel_rfl) (by simp) zB ⟨dpick rfl (G.quiet (yO rfl rfl) rfl ?_), dpick rfl (zL rfl rfl rfl rfl rfl ?_), trivial⟩
      ·refine dtail 3 rfl (zL rfl rfl rfl rfl rfl ?_)
       refine rn [24,4,3,24,5,3,28,7,11] ?_
       exact fin3 rfl (.cellw rfl rfl) (.tmp rfl) (.tmp rfl) (fun w' hw' => ⟨by rw [xE, if_pos hc, hc]; rfl, hw'.upd⟩) _ (.inl rfl)
      ·refine dtail 2 rfl (G.quiet (yO rfl rfl) rfl ?_)
       refine rn [24,4,3,24,5,3,28,7,11] ?_
       exact fin3 rfl (.cellw rfl rfl) (.tmp rfl) (.tmp rfl) (fun w' hw' => ⟨by rw [xE, if_pos hc, hc]; rfl, hw'.upd⟩) _ (.inl rfl)
     ·refine dtail 0 rfl (G.quiet (yK rfl rfl) rfl ?_)
      refine dtail 3 rfl (zL rfl rfl rfl rfl rfl ?_)
      refine rn [24,4,3,24,5,3,28,7,11] ?_
      exact fin3 rfl (.cellw rfl rfl) (.tmp rfl) (.tmp rfl) (fun w' hw' => ⟨by rw [xE, if_pos hc, hc]; rfl, hw'.upd⟩) _ (.inl rfl)
  ·refine dop 3 rfl (g_lit rfl rfl rfl rfl rfl fun b15 => ?_)
   refine zJ (b := b15) [Value.func (.func 248) #[] [Value.pointer (some ⟨b13, 0, none⟩)].toArray, Value.func (.func 240) #[] [Value.pointer (some ⟨b3, 0, none⟩)].toArray] rfl ?_
   refine dop 4 rfl (zH _ rfl (fun w1 hw1 ho1 => by
    have h7 := Own2.unstar (Ls := [Res.blk b13 3 [Value.int .i64 (5)], Res.blk b3 3 [Value.int .i64 (e)]]) (Ls1 := fun _ => [Res.blk b13 3 [Value.int .i64 (5)], Res.blk b3 3 [Value.int .i64 (e)]]) (fun hw2 => xG (fun z9 : Unit => Res.star [Res.blk b13 3 [Value.int .i64 (5)], Res.blk b3 3 [Value.int .i64 (e)]]) okP ([(⟨248, [Value.pointer (some ⟨b13, 0, none⟩)], fun v _ => ((evR 5 v).1, (evR 5 v).2, ())⟩ : Chg Unit), (⟨240, [Value.pointer (some ⟨b3, 0, none⟩)], fun v _ => ((duR e v).1, (duR e v).2, ())⟩ : Chg Unit)] : List (Chg Unit)) v () b15 w1 hw2 (by
     intro c9 hc9
     simp only [List.mem_cons, List.not_mem_nil, or_false] at hc9
     rcases hc9 with rfl | rfl
     · exact ⟨by kernel_rfl, fun v9 s9 h9 h0 => okP_ev h9, fun b9 v9 s9 w9 hw9 h9 => Chg.go_of hw9 inferInstance inferInstance (fun w8 hw8 => ev1_any b9 b13 v9 5 w8 hw8 (by decide) h9.1)⟩
     · exact ⟨by kernel_rfl, fun v9 s9 h9 h0 => (by show okP (duR e v9).1 (); unfold duR; split; exact h9; exact ⟨h9.1, by simp⟩), fun b9 v9 s9 w9 hw9 h9 => Chg.go_of hw9 inferInstance inferInstance (fun w8 hw8 => pay1_any b9 b3 v9 e w8 hw8)⟩) hok (Rd.star (Rd.ofBlk (b := b15) (T := 285) (c := [Value.func (.func 248) #[] [Value.pointer (some ⟨b13, 0, none⟩)].toArray, Value.func (.func 240) #[] [Value.pointer (some ⟨b3, 0, none⟩)].toArray]) hw1 rfl (by simp) rfl)) (by simp)) ho1
    exact h7) rfl ?_)
   rintro ⟨⟩ _
   refine ii ?_
   refine rn [23,5,2,23,6,40] ?_
   refine g_val 17 (v' := V.v (payV v e).1) rfl (by rw [pay_ap v e [Value.pointer (some ⟨b13, 0, none⟩)] [Value.pointer (some ⟨b3, 0, none⟩)]]) ?_
   refine rn [24,7,40] ?_
   refine g_val 18 (v' := .int .i64 (payV v e).2.2) rfl (by rw [pay_ap v e [Value.pointer (some ⟨b13, 0, none⟩)] [Value.pointer (some ⟨b3, 0, none⟩)]]) ?_
   refine dop 9 rfl (zL rfl rfl rfl rfl rfl ?_)
   refine rn [24,10,3,28,7,8,1,2,51,0] ?_
   refine zC rfl (fun h3 => ?_) (fun h3 => ?_)
   ·have hc : ¬ (payV v e).2.2 = 0 := by simpa using h3
    refine rn [1,45,2,33,3,3,0,11,13] ?_
    exact fin3 rfl (.cellw rfl rfl) (.tmp rfl) (.tmp rfl) (fun w' hw' => ⟨by rw [xE, if_neg hc]; rfl, hw'.upd⟩) _ (.inl rfl)
   ·have hc : (payV v e).2.2 = 0 := by simpa using h3
    refine rn [12,7,8] ?_
    refine dreg [0, 2, 3] mixed rfl ?_
    refine rn [24,1,4] ?_
    refine yB [0, 2] (by kernel_rfl) (by simp) zB ⟨dpick rfl (G.quiet (yK rfl rfl) rfl ?_), dpick rfl (G.quiet (yO rfl rfl) rfl ?_), trivial⟩
    ·refine yB [2, 3] (by kernel_rfl) (by simp) zB ⟨dpick rfl (G.quiet (yO rfl rfl) rfl ?_), dpick rfl (zL rfl rfl rfl rfl rfl ?_), trivial⟩
     ·refine dtail 3 rfl (zL rfl rfl rfl rfl rfl ?_)
      refine rn [24,4,3,24,5,3,28,7,11] ?_
      exact fin3 rfl (.cellw rfl rfl) (.tmp rfl) (.tmp rfl) (fun w' hw' => ⟨by rw [xE, if_pos hc, hc]; rfl, hw'.upd⟩) _ (.inl rfl)
     ·refine dtail 2 rfl (G.quiet (yO rfl rfl) rfl ?_)
      refine rn [24,4,3,24,5,3,28,7,11] ?_
      exact fin3 rfl (.cellw rfl rfl) (.tmp rfl) (.tmp rfl) (fun w' hw' => ⟨by rw [xE, if_pos hc, hc]; rfl, hw'.upd⟩) _ (.inl rfl)
    ·refine dtail 0 rfl (G.quiet (yK rfl rfl) rfl ?_)
     refine dtail 3 rfl (zL rfl rfl rfl rfl rfl ?_)
     refine rn [24,4,3,24,5,3,28,7,11] ?_
     exact fin3 rfl (.cellw rfl rfl) (.tmp rfl) (.tmp rfl) (fun w' hw' => ⟨by rw [xE, if_pos hc, hc]; rfl, hw'.upd⟩) _ (.inl rfl)
 ·refine dop 1 rfl (zH [] rfl (fun w1 hw1 ho1 => by have h7 := event_any (5) w1; exact h7) rfl ?_)
  rintro b13 _
  refine ii ?_
  refine dop 3 rfl (g_lit rfl rfl rfl rfl rfl fun b15 => ?_)
  refine zJ (b := b15) [Value.func (.func 248) #[] [Value.pointer (some ⟨b13, 0, none⟩)].toArray, Value.func (.func 240) #[] [Value.pointer (some ⟨b3, 0, none⟩)].toArray] rfl ?_
  refine dop 4 rfl (zH _ rfl (fun w1 hw1 ho1 => by
   have h7 := Own2.unstar (Ls := [Res.blk b13 3 [Value.int .i64 (5)], Res.blk b3 3 [Value.int .i64 (e)]]) (Ls1 := fun _ => [Res.blk b13 3 [Value.int .i64 (5)], Res.blk b3 3 [Value.int .i64 (e)]]) (fun hw2 => xG (fun z9 : Unit => Res.star [Res.blk b13 3 [Value.int .i64 (5)], Res.blk b3 3 [Value.int .i64 (e)]]) okP ([(⟨248, [Value.pointer (some ⟨b13, 0, none⟩)], fun v _ => ((evR 5 v).1, (evR 5 v).2, ())⟩ : Chg Unit), (⟨240, [Value.pointer (some ⟨b3, 0, none⟩)], fun v _ => ((duR e v).1, (duR e v).2, ())⟩ : Chg Unit)] : List (Chg Unit)) v () b15 w1 hw2 (by
    intro c9 hc9
    simp only [List.mem_cons, List.not_mem_nil, or_false] at hc9
    rcases hc9 with rfl | rfl
    · exact ⟨by kernel_rfl, fun v9 s9 h9 h0 => okP_ev h9, fun b9 v9 s9 w9 hw9 h9 => Chg.go_of hw9 inferInstance inferInstance (fun w8 hw8 => ev1_any b9 b13 v9 5 w8 hw8 (by decide) h9.1)⟩
    · exact ⟨by kernel_rfl, fun v9 s9 h9 h0 => (by show okP (duR e v9).1 (); unfold duR; split; exact h9; exact ⟨h9.1, by simp⟩), fun b9 v9 s9 w9 hw9 h9 => Chg.go_of hw9 inferInstance inferInstance (fun w8 hw8 => pay1_any b9 b3 v9 e w8 hw8)⟩) hok (Rd.star (Rd.ofBlk (b := b15) (T := 285) (c := [Value.func (.func 248) #[] [Value.pointer (some ⟨b13, 0, none⟩)].toArray, Value.func (.func 240) #[] [Value.pointer (some ⟨b3, 0, none⟩)].toArray]) hw1 rfl (by simp) rfl)) (by simp)) ho1
   exact h7) rfl ?_)
  rintro ⟨⟩ _
  refine ii ?_
  refine rn [23,5,2,23,6,40] ?_
  refine g_val 17 (v' := V.v (payV v e).1) rfl (by rw [pay_ap v e [Value.pointer (some ⟨b13, 0, none⟩)] [Value.pointer (some ⟨b3, 0, none⟩)]]) ?_
  refine rn [24,7,40] ?_
  refine g_val 18 (v' := .int .i64 (payV v e).2.2) rfl (by rw [pay_ap v e [Value.pointer (some ⟨b13, 0, none⟩)] [Value.pointer (some ⟨b3, 0, none⟩)]]) ?_
  refine dop 9 rfl (zL rfl rfl rfl rfl rfl ?_)
  refine rn [24,10,3,28,7,8,1,2,51,0] ?_
  refine zC rfl (fun h4 => ?_) (fun h4 => ?_)
  ·have hc : ¬ (payV v e).2.2 = 0 := by simpa using h4
   refine rn [1,45,2,33,3,3,0,11,13] ?_
   exact fin3 rfl (.cellw rfl rfl) (.tmp rfl) (.tmp rfl) (fun w' hw' => ⟨by rw [xE, if_neg hc]; rfl, hw'.upd⟩) _ (.inl rfl)
  ·have hc : (payV v e).2.2 = 0 := by simpa using h4
   refine rn [12,7,8] ?_
   refine dreg [0, 2, 3] mixed rfl ?_
   refine rn [24,1,4] ?_
   refine yB [0, 2] (by kernel_rfl) (by simp) zB ⟨dpick rfl (G.quiet (yK rfl rfl) rfl ?_), dpick rfl (G.quiet (yO rfl rfl) rfl ?_), trivial⟩
   ·refine yB [2, 3] (by kernel_rfl) (by simp) zB ⟨dpick rfl (G.quiet (yO rfl rfl) rfl ?_), dpick rfl (zL rfl rfl rfl rfl rfl ?_), trivial⟩
    ·refine dtail 3 rfl (zL rfl rfl rfl rfl rfl ?_)
     refine rn [24,4,3,24,5,3,28,7,11] ?_
     exact fin3 rfl (.cellw rfl rfl) (.tmp rfl) (.tmp rfl) (fun w' hw' => ⟨by rw [xE, if_pos hc, hc]; rfl, hw'.upd⟩) _ (.inl rfl)
    ·refine dtail 2 rfl (G.quiet (yO rfl rfl) rfl ?_)
     refine rn [24,4,3,24,5,3,28,7,11] ?_
     exact fin3 rfl (.cellw rfl rfl) (.tmp rfl) (.tmp rfl) (fun w' hw' => ⟨by rw [xE, if_pos hc, hc]; rfl, hw'.upd⟩) _ (.inl rfl)
   ·refine dtail 0 rfl (G.quiet (yK rfl rfl) rfl ?_)
    refine dtail 3 rfl (zL rfl rfl rfl rfl rfl ?_)
    refine rn [24,4,3,24,5,3,28,7,11] ?_
    exact fin3 rfl (.cellw rfl rfl) (.tmp rfl) (.tmp rfl) (fun w' hw' => ⟨by rw [xE, if_pos hc, hc]; rfl, hw'.upd⟩) _ (.inl rfl)
theorem sla_ap (v : V) (e : Int) (c : C) (a1 a2 a3 a4 : List Value) : applyC ([⟨170, a1, fun v s => ((mkR e v).1, (mkR e v).2, s)⟩, ⟨248, a2, fun v s => ((evR 7 v).1, (evR 7 v).2, s)⟩, ⟨249, a3, fun v s => ((dlR e c.sld v).1, (dlR e c.sld v).2, s)⟩, ⟨171, a4, fun v _ => ((buR c v).1, 0, (buR c v).2)⟩] : List (Chg Int)) v 0 = ((slaV v e c).1, (slaV v e c).2.2, (slaV v e c).2.1) := by
 unfold slaV
 by_cases h1 : v.sl = true
 ·rw [if_pos h1]; simp [applyC, mkR, h1]
 ·rw [if_neg h1]
  by_cases h2 : nxt v.st 7 = 0
  ·rw [if_pos h2]; simp [applyC, mkR, evR, h1, h2]
  ·rw [if_neg h2]
   by_cases h3 : latB [e, c.sld] = false
   ·rw [if_pos h3]; simp [applyC, mkR, evR, dlR, h1, h2, h3]
   ·rw [if_neg h3]; simp [applyC, mkR, evR, dlR, buR, h1, h2, h3]
theorem slash_any (v : V) (e : Int) (c : C) (w : World) (he : I64 e) (hd : I64 c.sld) (hok : okP v ()) (hpn : 0 ≤ c.pnum) (hpd : 1 ≤ c.pden ∧ c.pden ≤ 4294967296) (hnd : c.pnum ≤ c.pden) : Pur Tryz.prog 111 [v.v, .int .i64 e, c.v] w (.tuple [V.v (slaV v e c).1, .int .u64 (slaV v e c).2.1, .int .i64 (slaV v e c).2.2].toArray) := by
 refine g_st Tryz.func111 32 (WOK.start [] _) ?_
 refine rn [1] ?_
 refine g_op (g_box (c := V.c v) rfl rfl rfl fun b3 => ?_)
 refine g_op (g_box rfl rfl rfl fun b4 => ?_)
 refine g_op (g_box (c := C.c c) rfl rfl rfl fun b5 => ?_)
 refine g_op (zI rfl fun b6 => ?_)
 refine rn [3,3,0,1] ?_
 refine g_op (zI rfl fun bz => ?_)
 refine rn [0,1,52,3,0,1,52,3,0,8] ?_
 refine dregL (L0 := [Res.blk b3 52 (V.c v), Res.blk b4 3 [Value.int .i64 (e)], Res.blk b5 24 c.c]) [14] mixed rfl zB ?_
 refine rn [23,0,45,23,1,2,23,3,5,23,4,4,23,5,5,23,7,2] ?_
 refine yB [2, 13] (by kernel_rfl) (by simp) zB ⟨dpick rfl (zH [] rfl (fun w1 hw1 ho1 => by have h7 := event_any (7) w1; exact h7) rfl ?_), dpick rfl (zI rfl fun b12 => ?_), trivial⟩
 ·rintro b19 _
  refine ii ?_
  refine yB [6, 13] (by kernel_rfl) (by simp) zB ⟨dpick rfl (zH [] rfl (fun w1 hw1 ho1 => by have h7 := delay_any (e) (c.sld) w1; exact h7) rfl ?_), dpick rfl (zI rfl fun b12 => ?_), trivial⟩
  ·rintro ⟨b23, p23⟩ _
   refine ii ?_
   refine yB [8, 13] (by kernel_rfl) (by simp) zB ⟨dpick rfl (g_lit rfl rfl rfl rfl rfl fun b25 => ?_), dpick rfl (zI rfl fun b12 => ?_), trivial⟩
   ·refine zJ (b := b25) [Value.func (.func 170) #[] [Value.pointer (some ⟨b4, 0, none⟩)].toArray, Value.func (.func 248) #[] [Value.pointer (some ⟨b19, 0, none⟩)].toArray, Value.func (.func 249) #[] [Value.pointer (some ⟨b23, 0, none⟩), Value.pointer (some ⟨p23, 0, none⟩)].toArray, Value.func (.func 171) #[] [Value.pointer (some ⟨b5, 0, none⟩), Value.pointer (some ⟨bz, 0, none⟩)].toArray] rfl ?_
    refine yB [9, 13] (by kernel_rfl) (by simp) zB ⟨dpick rfl (zH _ rfl (fun w1 hw1 ho1 => by
     have h7 := Own2.unstar (Ls := [Res.blk b4 3 [Value.int .i64 (e)], Res.blk b19 3 [Value.int .i64 (7)], Res.blk b23 3 [Value.int .i64 (e)], Res.blk p23 3 [Value.int .i64 (c.sld)], Res.blk b5 24 c.c, Res.blk bz 22 [Value.int .u64 (0)]]) (Ls1 := fun _ => [Res.blk b4 3 [Value.int .i64 (e)], Res.blk b19 3 [Value.int .i64 (7)], Res.blk b23 3 [Value.int .i64 (e)], Res.blk p23 3 [Value.int .i64 (c.sld)], Res.blk b5 24 c.c, Res.blk bz 22 [Value.int .u64 ((applyC ([(⟨170, [Value.pointer (some ⟨b4, 0, none⟩)], fun v s => ((mkR e v).1, (mkR e v).2, s)⟩ : Chg Int), (⟨248, [Value.pointer (some ⟨b19, 0, none⟩)], fun v s => ((evR 7 v).1, (evR 7 v).2, s)⟩ : Chg Int), (⟨249, [Value.pointer (some ⟨b23, 0, none⟩), Value.pointer (some ⟨p23, 0, none⟩)], fun v s => ((dlR e c.sld v).1, (dlR e c.sld v).2, s)⟩ : Chg Int), (⟨171, [Value.pointer (some ⟨b5, 0, none⟩), Value.pointer (some ⟨bz, 0, none⟩)], fun v _ => ((buR c v).1, 0, (buR c v).2)⟩ : Chg Int)] : List (Chg Int)) v 0).2.2)]]) (fun hw2 => xG (fun z9 : Int => Res.star [Res.blk b4 3 [Value.int .i64 (e)], Res.blk b19 3 [Value.int .i64 (7)], Res.blk b23 3 [Value.int .i64 (e)], Res.blk p23 3 [Value.int .i64 (c.sld)], Res.blk b5 24 c.c, Res.blk bz 22 [Value.int .u64 (z9)]]) okP ([(⟨170, [Value.pointer (some ⟨b4, 0, none⟩)], fun v s => ((mkR e v).1, (mkR e v).2, s)⟩ : Chg Int), (⟨248, [Value.pointer (some ⟨b19, 0, none⟩)], fun v s => ((evR 7 v).1, (evR 7 v).2, s)⟩ : Chg Int), (⟨249, [Value.pointer (some ⟨b23, 0, none⟩), Value.pointer (some ⟨p23, 0, none⟩)], fun v s => ((dlR e c.sld v).1, (dlR e c.sld v).2, s)⟩ : Chg Int), (⟨171, [Value.pointer (some ⟨b5, 0, none⟩), Value.pointer (some ⟨bz, 0, none⟩)], fun v _ => ((buR c v).1, 0, (buR c v).2)⟩ : Chg Int)] : List (Chg Int)) v 0 b25 w1 hw2 (by
      intro c9 hc9
      simp only [List.mem_cons, List.not_mem_nil, or_false] at hc9
      rcases hc9 with rfl | rfl | rfl | rfl
      · exact ⟨by kernel_rfl, fun v9 s9 h9 h0 => (by show okP (mkR e v9).1 s9; unfold mkR; split <;> exact h9), fun b9 v9 s9 w9 hw9 h9 => Chg.go_of hw9 inferInstance inferInstance (fun w8 hw8 => sla1_any b9 b4 v9 e w8 hw8)⟩
      · exact ⟨by kernel_rfl, fun v9 s9 h9 h0 => okP_ev (v := v9) h9, fun b9 v9 s9 w9 hw9 h9 => Chg.go_of hw9 inferInstance inferInstance (fun w8 hw8 => ev1_any b9 b19 v9 7 w8 hw8 (by decide) h9.1)⟩
      · exact ⟨by kernel_rfl, fun v9 s9 h9 h0 => (by show okP (dlR e c.sld v9).1 s9; unfold dlR; split <;> exact h9), fun b9 v9 s9 w9 hw9 h9 => Chg.go_of hw9 inferInstance inferInstance (fun w8 hw8 => del1_any b9 b23 p23 v9 e c.sld w8 hw8 he hd)⟩
      · exact ⟨by kernel_rfl, fun v9 s9 h9 h0 => ⟨h9.1, by unfold buR; simp only [IntKind.wrap_u64]; omega⟩, fun b9 v9 s9 w9 hw9 h9 => Chg.go_of hw9 inferInstance inferInstance (fun w8 hw8 => sla2_any b9 b5 bz v9 c s9 w8 hw8 h9.2 hpn hpd hnd)⟩) hok (Rd.star (Rd.ofBlk (b := b25) (T := 285) (c := [Value.func (.func 170) #[] [Value.pointer (some ⟨b4, 0, none⟩)].toArray, Value.func (.func 248) #[] [Value.pointer (some ⟨b19, 0, none⟩)].toArray, Value.func (.func 249) #[] [Value.pointer (some ⟨b23, 0, none⟩), Value.pointer (some ⟨p23, 0, none⟩)].toArray, Value.func (.func 171) #[] [Value.pointer (some ⟨b5, 0, none⟩), Value.pointer (some ⟨bz, 0, none⟩)].toArray]) hw1 rfl (by simp) rfl)) (by simp)) ho1
     exact h7) rfl ?_), dpick rfl (zI rfl fun b12 => ?_), trivial⟩
    ·rintro ⟨⟩ _
     refine ii ?_
     refine zJ (b := bz) [Value.int .u64 (slaV v e c).2.1] (by rw [sla_ap v e c [Value.pointer (some ⟨b4, 0, none⟩)] [Value.pointer (some ⟨b19, 0, none⟩)] [Value.pointer (some ⟨b23, 0, none⟩), Value.pointer (some ⟨p23, 0, none⟩)] [Value.pointer (some ⟨b5, 0, none⟩), Value.pointer (some ⟨bz, 0, none⟩)]]) ?_
     refine rn [23,10,2,23,11,40] ?_
     refine g_val 27 (v' := V.v (slaV v e c).1) rfl (by rw [sla_ap v e c [Value.pointer (some ⟨b4, 0, none⟩)] [Value.pointer (some ⟨b19, 0, none⟩)] [Value.pointer (some ⟨b23, 0, none⟩), Value.pointer (some ⟨p23, 0, none⟩)] [Value.pointer (some ⟨b5, 0, none⟩), Value.pointer (some ⟨bz, 0, none⟩)]]) ?_
     refine rn [24,12,40] ?_
     refine g_val 28 (v' := .int .i64 (slaV v e c).2.2) rfl (by rw [sla_ap v e c [Value.pointer (some ⟨b4, 0, none⟩)] [Value.pointer (some ⟨b19, 0, none⟩)] [Value.pointer (some ⟨b23, 0, none⟩), Value.pointer (some ⟨p23, 0, none⟩)] [Value.pointer (some ⟨b5, 0, none⟩), Value.pointer (some ⟨bz, 0, none⟩)]]) ?_
     refine dop 13 rfl (zI rfl fun b12 => ?_)
     refine dop 14 rfl (zL rfl rfl rfl rfl rfl ?_)
     refine rn [24,15,3,28,7,8] ?_
     refine dreg [0, 1, 3] mixed rfl ?_
     refine rn [24,2,2] ?_
     refine yB [0, 1] (by kernel_rfl) (by simp) zB ⟨dpick rfl (G.quiet (yK rfl rfl) rfl ?_), dpick rfl (G.quiet (yO rfl rfl) rfl ?_), trivial⟩
     ·refine yB [1, 3] (by kernel_rfl) (by simp) zB ⟨dpick rfl (G.quiet (yO rfl rfl) rfl ?_), dpick rfl (zL rfl rfl rfl rfl rfl ?_), trivial⟩
      ·refine dtail 3 rfl (zL rfl rfl rfl rfl rfl ?_)
       refine rn [24,4,3,24,5,3,28,7,11] ?_
       exact fin3 rfl (.cellw rfl rfl) (.tmp rfl) (.tmp rfl) (fun w' hw' => ⟨by rfl, hw'.upd⟩) _ (.inl rfl)
      ·refine dtail 1 rfl (G.quiet (yO rfl rfl) rfl ?_)
       refine rn [24,4,3,24,5,3,28,7,11] ?_
       exact fin3 rfl (.cellw rfl rfl) (.tmp rfl) (.tmp rfl) (fun w' hw' => ⟨by rfl, hw'.upd⟩) _ (.inl rfl)
     ·refine dtail 0 rfl (G.quiet (yK rfl rfl) rfl ?_)
      refine dtail 3 rfl (zL rfl rfl rfl rfl rfl ?_)
      refine rn [24,4,3,24,5,3,28,7,11] ?_
      exact fin3 rfl (.cellw rfl rfl) (.tmp rfl) (.tmp rfl) (fun w' hw' => ⟨by rfl, hw'.upd⟩) _ (.inl rfl)
    ·refine dop 9 rfl (zH _ rfl (fun w1 hw1 ho1 => by
      have h7 := Own2.unstar (Ls := [Res.blk b4 3 [Value.int .i64 (e)], Res.blk b19 3 [Value.int .i64 (7)], Res.blk b23 3 [Value.int .i64 (e)], Res.blk p23 3 [Value.int .i64 (c.sld)], Res.blk b5 24 c.c, Res.blk bz 22 [Value.int .u64 (0)]]) (Ls1 := fun _ => [Res.blk b4 3 [Value.int .i64 (e)], Res.blk b19 3 [Value.int .i64 (7)], Res.blk b23 3 [Value.int .i64 (e)], Res.blk p23 3 [Value.int .i64 (c.sld)], Res.blk b5 24 c.c, Res.blk bz 22 [Value.int .u64 ((applyC ([(⟨170, [Value.pointer (some ⟨b4, 0, none⟩)], fun v s => ((mkR e v).1, (mkR e v).2, s)⟩ : Chg Int), (⟨248, [Value.pointer (some ⟨b19, 0, none⟩)], fun v s => ((evR 7 v).1, (evR 7 v).2, s)⟩ : Chg Int), (⟨249, [Value.pointer (some ⟨b23, 0, none⟩), Value.pointer (some ⟨p23, 0, none⟩)], fun v s => ((dlR e c.sld v).1, (dlR e c.sld v).2, s)⟩ : Chg Int), (⟨171, [Value.pointer (some ⟨b5, 0, none⟩), Value.pointer (some ⟨bz, 0, none⟩)], fun v _ => ((buR c v).1, 0, (buR c v).2)⟩ : Chg Int)] : List (Chg Int)) v 0).2.2)]]) (fun hw2 => xG (fun z9 : Int => Res.star [Res.blk b4 3 [Value.int .i64 (e)], Res.blk b19 3 [Value.int .i64 (7)], Res.blk b23 3 [Value.int .i64 (e)], Res.blk p23 3 [Value.int .i64 (c.sld)], Res.blk b5 24 c.c, Res.blk bz 22 [Value.int .u64 (z9)]]) okP ([(⟨170, [Value.pointer (some ⟨b4, 0, none⟩)], fun v s => ((mkR e v).1, (mkR e v).2, s)⟩ : Chg Int), (⟨248, [Value.pointer (some ⟨b19, 0, none⟩)], fun v s => ((evR 7 v).1, (evR 7 v).2, s)⟩ : Chg Int), (⟨249, [Value.pointer (some ⟨b23, 0, none⟩), Value.pointer (some ⟨p23, 0, none⟩)], fun v s => ((dlR e c.sld v).1, (dlR e c.sld v).2, s)⟩ : Chg Int), (⟨171, [Value.pointer (some ⟨b5, 0, none⟩), Value.pointer (some ⟨bz, 0, none⟩)], fun v _ => ((buR c v).1, 0, (buR c v).2)⟩ : Chg Int)] : List (Chg Int)) v 0 b25 w1 hw2 (by
       intro c9 hc9
       simp only [List.mem_cons, List.not_mem_nil, or_false] at hc9
       rcases hc9 with rfl | rfl | rfl | rfl
       · exact ⟨by kernel_rfl, fun v9 s9 h9 h0 => (by show okP (mkR e v9).1 s9; unfold mkR; split <;> exact h9), fun b9 v9 s9 w9 hw9 h9 => Chg.go_of hw9 inferInstance inferInstance (fun w8 hw8 => sla1_any b9 b4 v9 e w8 hw8)⟩
       · exact ⟨by kernel_rfl, fun v9 s9 h9 h0 => okP_ev (v := v9) h9, fun b9 v9 s9 w9 hw9 h9 => Chg.go_of hw9 inferInstance inferInstance (fun w8 hw8 => ev1_any b9 b19 v9 7 w8 hw8 (by decide) h9.1)⟩
       · exact ⟨by kernel_rfl, fun v9 s9 h9 h0 => (by show okP (dlR e c.sld v9).1 s9; unfold dlR; split <;> exact h9), fun b9 v9 s9 w9 hw9 h9 => Chg.go_of hw9 inferInstance inferInstance (fun w8 hw8 => del1_any b9 b23 p23 v9 e c.sld w8 hw8 he hd)⟩
       · exact ⟨by kernel_rfl, fun v9 s9 h9 h0 => ⟨h9.1, by unfold buR; simp only [IntKind.wrap_u64]; omega⟩, fun b9 v9 s9 w9 hw9 h9 => Chg.go_of hw9 inferInstance inferInstance (fun w8 hw8 => sla2_any b9 b5 bz v9 c s9 w8 hw8 h9.2 hpn hpd hnd)⟩) hok (Rd.star (Rd.ofBlk (b := b25) (T := 285) (c := [Value.func (.func 170) #[] [Value.pointer (some ⟨b4, 0, none⟩)].toArray, Value.func (.func 248) #[] [Value.pointer (some ⟨b19, 0, none⟩)].toArray, Value.func (.func 249) #[] [Value.pointer (some ⟨b23, 0, none⟩), Value.pointer (some ⟨p23, 0, none⟩)].toArray, Value.func (.func 171) #[] [Value.pointer (some ⟨b5, 0, none⟩), Value.pointer (some ⟨bz, 0, none⟩)].toArray]) hw1 rfl (by simp) rfl)) (by simp)) ho1
      exact h7) rfl ?_)
     rintro ⟨⟩ _
     refine ii ?_
     refine zJ (b := bz) [Value.int .u64 (slaV v e c).2.1] (by rw [sla_ap v e c [Value.pointer (some ⟨b4, 0, none⟩)] [Value.pointer (some ⟨b19, 0, none⟩)] [Value.pointer (some ⟨b23, 0, none⟩), Value.pointer (some ⟨p23, 0, none⟩)] [Value.pointer (some ⟨b5, 0, none⟩), Value.pointer (some ⟨bz, 0, none⟩)]]) ?_
     refine rn [23,10,2,23,11,40] ?_
     refine g_val 27 (v' := V.v (slaV v e c).1) rfl (by rw [sla_ap v e c [Value.pointer (some ⟨b4, 0, none⟩)] [Value.pointer (some ⟨b19, 0, none⟩)] [Value.pointer (some ⟨b23, 0, none⟩), Value.pointer (some ⟨p23, 0, none⟩)] [Value.pointer (some ⟨b5, 0, none⟩), Value.pointer (some ⟨bz, 0, none⟩)]]) ?_
     refine rn [24,12,40] ?_
     refine g_val 28 (v' := .int .i64 (slaV v e c).2.2) rfl (by rw [sla_ap v e c [Value.pointer (some ⟨b4, 0, none⟩)] [Value.pointer (some ⟨b19, 0, none⟩)] [Value.pointer (some ⟨b23, 0, none⟩), Value.pointer (some ⟨p23, 0, none⟩)] [Value.pointer (some ⟨b5, 0, none⟩), Value.pointer (some ⟨bz, 0, none⟩)]]) ?_
     refine dop 14 rfl (zL rfl rfl rfl rfl rfl ?_)
     refine rn [24,15,3,28,7,8] ?_
     refine dreg [0, 1, 3] mixed rfl ?_
     refine rn [24,2,2] ?_
     refine yB [0, 1] (by kernel_rfl) (by simp) zB ⟨dpick rfl (G.quiet (yK rfl rfl) rfl ?_), dpick rfl (G.quiet (yO rfl rfl) rfl ?_), trivial⟩
     ·refine yB [1, 3] (by kernel_rfl) (by simp) zB ⟨dpick rfl (G.quiet (yO rfl rfl) rfl ?_), dpick rfl (zL rfl rfl rfl rfl rfl ?_), trivial⟩
      ·refine dtail 3 rfl (zL rfl rfl rfl rfl rfl ?_)
       refine rn [24,4,3,24,5,3,28,7,11] ?_
       exact fin3 rfl (.cellw rfl rfl) (.tmp rfl) (.tmp rfl) (fun w' hw' => ⟨by rfl, hw'.upd⟩) _ (.inl rfl)
      ·refine dtail 1 rfl (G.quiet (yO rfl rfl) rfl ?_)
       refine rn [24,4,3,24,5,3,28,7,11] ?_
       exact fin3 rfl (.cellw rfl rfl) (.tmp rfl) (.tmp rfl) (fun w' hw' => ⟨by rfl, hw'.upd⟩) _ (.inl rfl)
     ·refine dtail 0 rfl (G.quiet (yK rfl rfl) rfl ?_)
      refine dtail 3 rfl (zL rfl rfl rfl rfl rfl ?_)
      refine rn [24,4,3,24,5,3,28,7,11] ?_
      exact fin3 rfl (.cellw rfl rfl) (.tmp rfl) (.tmp rfl) (fun w' hw' => ⟨by rfl, hw'.upd⟩) _ (.inl rfl)
   ·refine dop 8 rfl (g_lit rfl rfl rfl rfl rfl fun b25 => ?_)
    refine zJ (b := b25) [Value.func (.func 170) #[] [Value.pointer (some ⟨b4, 0, none⟩)].toArray, Value.func (.func 248) #[] [Value.pointer (some ⟨b19, 0, none⟩)].toArray, Value.func (.func 249) #[] [Value.pointer (some ⟨b23, 0, none⟩), Value.pointer (some ⟨p23, 0, none⟩)].toArray, Value.func (.func 171) #[] [Value.pointer (some ⟨b5, 0, none⟩), Value.pointer (some ⟨bz, 0, none⟩)].toArray] rfl ?_
    refine dop 9 rfl (zH _ rfl (fun w1 hw1 ho1 => by
     have h7 := Own2.unstar (Ls := [Res.blk b4 3 [Value.int .i64 (e)], Res.blk b19 3 [Value.int .i64 (7)], Res.blk b23 3 [Value.int .i64 (e)], Res.blk p23 3 [Value.int .i64 (c.sld)], Res.blk b5 24 c.c, Res.blk bz 22 [Value.int .u64 (0)]]) (Ls1 := fun _ => [Res.blk b4 3 [Value.int .i64 (e)], Res.blk b19 3 [Value.int .i64 (7)], Res.blk b23 3 [Value.int .i64 (e)], Res.blk p23 3 [Value.int .i64 (c.sld)], Res.blk b5 24 c.c, Res.blk bz 22 [Value.int .u64 ((applyC ([(⟨170, [Value.pointer (some ⟨b4, 0, none⟩)], fun v s => ((mkR e v).1, (mkR e v).2, s)⟩ : Chg Int), (⟨248, [Value.pointer (some ⟨b19, 0, none⟩)], fun v s => ((evR 7 v).1, (evR 7 v).2, s)⟩ : Chg Int), (⟨249, [Value.pointer (some ⟨b23, 0, none⟩), Value.pointer (some ⟨p23, 0, none⟩)], fun v s => ((dlR e c.sld v).1, (dlR e c.sld v).2, s)⟩ : Chg Int), (⟨171, [Value.pointer (some ⟨b5, 0, none⟩), Value.pointer (some ⟨bz, 0, none⟩)], fun v _ => ((buR c v).1, 0, (buR c v).2)⟩ : Chg Int)] : List (Chg Int)) v 0).2.2)]]) (fun hw2 => xG (fun z9 : Int => Res.star [Res.blk b4 3 [Value.int .i64 (e)], Res.blk b19 3 [Value.int .i64 (7)], Res.blk b23 3 [Value.int .i64 (e)], Res.blk p23 3 [Value.int .i64 (c.sld)], Res.blk b5 24 c.c, Res.blk bz 22 [Value.int .u64 (z9)]]) okP ([(⟨170, [Value.pointer (some ⟨b4, 0, none⟩)], fun v s => ((mkR e v).1, (mkR e v).2, s)⟩ : Chg Int), (⟨248, [Value.pointer (some ⟨b19, 0, none⟩)], fun v s => ((evR 7 v).1, (evR 7 v).2, s)⟩ : Chg Int), (⟨249, [Value.pointer (some ⟨b23, 0, none⟩), Value.pointer (some ⟨p23, 0, none⟩)], fun v s => ((dlR e c.sld v).1, (dlR e c.sld v).2, s)⟩ : Chg Int), (⟨171, [Value.pointer (some ⟨b5, 0, none⟩), Value.pointer (some ⟨bz, 0, none⟩)], fun v _ => ((buR c v).1, 0, (buR c v).2)⟩ : Chg Int)] : List (Chg Int)) v 0 b25 w1 hw2 (by
      intro c9 hc9
      simp only [List.mem_cons, List.not_mem_nil, or_false] at hc9
      rcases hc9 with rfl | rfl | rfl | rfl
      · exact ⟨by kernel_rfl, fun v9 s9 h9 h0 => (by show okP (mkR e v9).1 s9; unfold mkR; split <;> exact h9), fun b9 v9 s9 w9 hw9 h9 => Chg.go_of hw9 inferInstance inferInstance (fun w8 hw8 => sla1_any b9 b4 v9 e w8 hw8)⟩
      · exact ⟨by kernel_rfl, fun v9 s9 h9 h0 => okP_ev (v := v9) h9, fun b9 v9 s9 w9 hw9 h9 => Chg.go_of hw9 inferInstance inferInstance (fun w8 hw8 => ev1_any b9 b19 v9 7 w8 hw8 (by decide) h9.1)⟩
      · exact ⟨by kernel_rfl, fun v9 s9 h9 h0 => (by show okP (dlR e c.sld v9).1 s9; unfold dlR; split <;> exact h9), fun b9 v9 s9 w9 hw9 h9 => Chg.go_of hw9 inferInstance inferInstance (fun w8 hw8 => del1_any b9 b23 p23 v9 e c.sld w8 hw8 he hd)⟩
      · exact ⟨by kernel_rfl, fun v9 s9 h9 h0 => ⟨h9.1, by unfold buR; simp only [IntKind.wrap_u64]; omega⟩, fun b9 v9 s9 w9 hw9 h9 => Chg.go_of hw9 inferInstance inferInstance (fun w8 hw8 => sla2_any b9 b5 bz v9 c s9 w8 hw8 h9.2 hpn hpd hnd)⟩) hok (Rd.star (Rd.ofBlk (b := b25) (T := 285) (c := [Value.func (.func 170) #[] [Value.pointer (some ⟨b4, 0, none⟩)].toArray, Value.func (.func 248) #[] [Value.pointer (some ⟨b19, 0, none⟩)].toArray, Value.func (.func 249) #[] [Value.pointer (some ⟨b23, 0, none⟩), Value.pointer (some ⟨p23, 0, none⟩)].toArray, Value.func (.func 171) #[] [Value.pointer (some ⟨b5, 0, none⟩), Value.pointer (some ⟨bz, 0, none⟩)].toArray]) hw1 rfl (by simp) rfl)) (by simp)) ho1
     exact h7) rfl ?_)
    rintro ⟨⟩ _
    refine ii ?_
    refine zJ (b := bz) [Value.int .u64 (slaV v e c).2.1] (by rw [sla_ap v e c [Value.pointer (some ⟨b4, 0, none⟩)] [Value.pointer (some ⟨b19, 0, none⟩)] [Value.pointer (some ⟨b23, 0, none⟩), Value.pointer (some ⟨p23, 0, none⟩)] [Value.pointer (some ⟨b5, 0, none⟩), Value.pointer (some ⟨bz, 0, none⟩)]]) ?_
    refine rn [23,10,2,23,11,40] ?_
    refine g_val 27 (v' := V.v (slaV v e c).1) rfl (by rw [sla_ap v e c [Value.pointer (some ⟨b4, 0, none⟩)] [Value.pointer (some ⟨b19, 0, none⟩)] [Value.pointer (some ⟨b23, 0, none⟩), Value.pointer (some ⟨p23, 0, none⟩)] [Value.pointer (some ⟨b5, 0, none⟩), Value.pointer (some ⟨bz, 0, none⟩)]]) ?_
    refine rn [24,12,40] ?_
    refine g_val 28 (v' := .int .i64 (slaV v e c).2.2) rfl (by rw [sla_ap v e c [Value.pointer (some ⟨b4, 0, none⟩)] [Value.pointer (some ⟨b19, 0, none⟩)] [Value.pointer (some ⟨b23, 0, none⟩), Value.pointer (some ⟨p23, 0, none⟩)] [Value.pointer (some ⟨b5, 0, none⟩), Value.pointer (some ⟨bz, 0, none⟩)]]) ?_
    refine dop 14 rfl (zL rfl rfl rfl rfl rfl ?_)
    refine rn [24,15,3,28,7,8] ?_
    refine dreg [0, 1, 3] mixed rfl ?_
    refine rn [24,2,2] ?_
    refine yB [0, 1] (by kernel_rfl) (by simp) zB ⟨dpick rfl (G.quiet (yK rfl rfl) rfl ?_), dpick rfl (G.quiet (yO rfl rfl) rfl ?_), trivial⟩
    ·refine yB [1, 3] (by kernel_rfl) (by simp) zB ⟨dpick rfl (G.quiet (yO rfl rfl) rfl ?_), dpick rfl (zL rfl rfl rfl rfl rfl ?_), trivial⟩
     ·refine dtail 3 rfl (zL rfl rfl rfl rfl rfl ?_)
      refine rn [24,4,3,24,5,3,28,7,11] ?_
      exact fin3 rfl (.cellw rfl rfl) (.tmp rfl) (.tmp rfl) (fun w' hw' => ⟨by rfl, hw'.upd⟩) _ (.inl rfl)
     ·refine dtail 1 rfl (G.quiet (yO rfl rfl) rfl ?_)
      refine rn [24,4,3,24,5,3,28,7,11] ?_
      exact fin3 rfl (.cellw rfl rfl) (.tmp rfl) (.tmp rfl) (fun w' hw' => ⟨by rfl, hw'.upd⟩) _ (.inl rfl)
    ·refine dtail 0 rfl (G.quiet (yK rfl rfl) rfl ?_)
     refine dtail 3 rfl (zL rfl rfl rfl rfl rfl ?_)
     refine rn [24,4,3,24,5,3,28,7,11] ?_
     exact fin3 rfl (.cellw rfl rfl) (.tmp rfl) (.tmp rfl) (fun w' hw' => ⟨by rfl, hw'.upd⟩) _ (.inl rfl)
  ·refine dop 6 rfl (zH [] rfl (fun w1 hw1 ho1 => by have h7 := delay_any (e) (c.sld) w1; exact h7) rfl ?_)
   rintro ⟨b23, p23⟩ _
   refine ii ?_
   refine dop 8 rfl (g_lit rfl rfl rfl rfl rfl fun b25 => ?_)
   refine zJ (b := b25) [Value.func (.func 170) #[] [Value.pointer (some ⟨b4, 0, none⟩)].toArray, Value.func (.func 248) #[] [Value.pointer (some ⟨b19, 0, none⟩)].toArray, Value.func (.func 249) #[] [Value.pointer (some ⟨b23, 0, none⟩), Value.pointer (some ⟨p23, 0, none⟩)].toArray, Value.func (.func 171) #[] [Value.pointer (some ⟨b5, 0, none⟩), Value.pointer (some ⟨bz, 0, none⟩)].toArray] rfl ?_
   refine dop 9 rfl (zH _ rfl (fun w1 hw1 ho1 => by
    have h7 := Own2.unstar (Ls := [Res.blk b4 3 [Value.int .i64 (e)], Res.blk b19 3 [Value.int .i64 (7)], Res.blk b23 3 [Value.int .i64 (e)], Res.blk p23 3 [Value.int .i64 (c.sld)], Res.blk b5 24 c.c, Res.blk bz 22 [Value.int .u64 (0)]]) (Ls1 := fun _ => [Res.blk b4 3 [Value.int .i64 (e)], Res.blk b19 3 [Value.int .i64 (7)], Res.blk b23 3 [Value.int .i64 (e)], Res.blk p23 3 [Value.int .i64 (c.sld)], Res.blk b5 24 c.c, Res.blk bz 22 [Value.int .u64 ((applyC ([(⟨170, [Value.pointer (some ⟨b4, 0, none⟩)], fun v s => ((mkR e v).1, (mkR e v).2, s)⟩ : Chg Int), (⟨248, [Value.pointer (some ⟨b19, 0, none⟩)], fun v s => ((evR 7 v).1, (evR 7 v).2, s)⟩ : Chg Int), (⟨249, [Value.pointer (some ⟨b23, 0, none⟩), Value.pointer (some ⟨p23, 0, none⟩)], fun v s => ((dlR e c.sld v).1, (dlR e c.sld v).2, s)⟩ : Chg Int), (⟨171, [Value.pointer (some ⟨b5, 0, none⟩), Value.pointer (some ⟨bz, 0, none⟩)], fun v _ => ((buR c v).1, 0, (buR c v).2)⟩ : Chg Int)] : List (Chg Int)) v 0).2.2)]]) (fun hw2 => xG (fun z9 : Int => Res.star [Res.blk b4 3 [Value.int .i64 (e)], Res.blk b19 3 [Value.int .i64 (7)], Res.blk b23 3 [Value.int .i64 (e)], Res.blk p23 3 [Value.int .i64 (c.sld)], Res.blk b5 24 c.c, Res.blk bz 22 [Value.int .u64 (z9)]]) okP ([(⟨170, [Value.pointer (some ⟨b4, 0, none⟩)], fun v s => ((mkR e v).1, (mkR e v).2, s)⟩ : Chg Int), (⟨248, [Value.pointer (some ⟨b19, 0, none⟩)], fun v s => ((evR 7 v).1, (evR 7 v).2, s)⟩ : Chg Int), (⟨249, [Value.pointer (some ⟨b23, 0, none⟩), Value.pointer (some ⟨p23, 0, none⟩)], fun v s => ((dlR e c.sld v).1, (dlR e c.sld v).2, s)⟩ : Chg Int), (⟨171, [Value.pointer (some ⟨b5, 0, none⟩), Value.pointer (some ⟨bz, 0, none⟩)], fun v _ => ((buR c v).1, 0, (buR c v).2)⟩ : Chg Int)] : List (Chg Int)) v 0 b25 w1 hw2 (by
     intro c9 hc9
     simp only [List.mem_cons, List.not_mem_nil, or_false] at hc9
     rcases hc9 with rfl | rfl | rfl | rfl
     · exact ⟨by kernel_rfl, fun v9 s9 h9 h0 => (by show okP (mkR e v9).1 s9; unfold mkR; split <;> exact h9), fun b9 v9 s9 w9 hw9 h9 => Chg.go_of hw9 inferInstance inferInstance (fun w8 hw8 => sla1_any b9 b4 v9 e w8 hw8)⟩
     · exact ⟨by kernel_rfl, fun v9 s9 h9 h0 => okP_ev (v := v9) h9, fun b9 v9 s9 w9 hw9 h9 => Chg.go_of hw9 inferInstance inferInstance (fun w8 hw8 => ev1_any b9 b19 v9 7 w8 hw8 (by decide) h9.1)⟩
     · exact ⟨by kernel_rfl, fun v9 s9 h9 h0 => (by show okP (dlR e c.sld v9).1 s9; unfold dlR; split <;> exact h9), fun b9 v9 s9 w9 hw9 h9 => Chg.go_of hw9 inferInstance inferInstance (fun w8 hw8 => del1_any b9 b23 p23 v9 e c.sld w8 hw8 he hd)⟩
     · exact ⟨by kernel_rfl, fun v9 s9 h9 h0 => ⟨h9.1, by unfold buR; simp only [IntKind.wrap_u64]; omega⟩, fun b9 v9 s9 w9 hw9 h9 => Chg.go_of hw9 inferInstance inferInstance (fun w8 hw8 => sla2_any b9 b5 bz v9 c s9 w8 hw8 h9.2 hpn hpd hnd)⟩) hok (Rd.star (Rd.ofBlk (b := b25) (T := 285) (c := [Value.func (.func 170) #[] [Value.pointer (some ⟨b4, 0, none⟩)].toArray, Value.func (.func 248) #[] [Value.pointer (some ⟨b19, 0, none⟩)].toArray, Value.func (.func 249) #[] [Value.pointer (some ⟨b23, 0, none⟩), Value.pointer (some ⟨p23, 0, none⟩)].toArray, Value.func (.func 171) #[] [Value.pointer (some ⟨b5, 0, none⟩), Value.pointer (some ⟨bz, 0, none⟩)].toArray]) hw1 rfl (by simp) rfl)) (by simp)) ho1
    exact h7) rfl ?_)
   rintro ⟨⟩ _
   refine ii ?_
   refine zJ (b := bz) [Value.int .u64 (slaV v e c).2.1] (by rw [sla_ap v e c [Value.pointer (some ⟨b4, 0, none⟩)] [Value.pointer (some ⟨b19, 0, none⟩)] [Value.pointer (some ⟨b23, 0, none⟩), Value.pointer (some ⟨p23, 0, none⟩)] [Value.pointer (some ⟨b5, 0, none⟩), Value.pointer (some ⟨bz, 0, none⟩)]]) ?_
   refine rn [23,10,2,23,11,40] ?_
   refine g_val 27 (v' := V.v (slaV v e c).1) rfl (by rw [sla_ap v e c [Value.pointer (some ⟨b4, 0, none⟩)] [Value.pointer (some ⟨b19, 0, none⟩)] [Value.pointer (some ⟨b23, 0, none⟩), Value.pointer (some ⟨p23, 0, none⟩)] [Value.pointer (some ⟨b5, 0, none⟩), Value.pointer (some ⟨bz, 0, none⟩)]]) ?_
   refine rn [24,12,40] ?_
   refine g_val 28 (v' := .int .i64 (slaV v e c).2.2) rfl (by rw [sla_ap v e c [Value.pointer (some ⟨b4, 0, none⟩)] [Value.pointer (some ⟨b19, 0, none⟩)] [Value.pointer (some ⟨b23, 0, none⟩), Value.pointer (some ⟨p23, 0, none⟩)] [Value.pointer (some ⟨b5, 0, none⟩), Value.pointer (some ⟨bz, 0, none⟩)]]) ?_
   refine dop 14 rfl (zL rfl rfl rfl rfl rfl ?_)
   refine rn [24,15,3,28,7,8] ?_
   refine dreg [0, 1, 3] mixed rfl ?_
   refine rn [24,2,2] ?_
   refine yB [0, 1] (by kernel_rfl) (by simp) zB ⟨dpick rfl (G.quiet (yK rfl rfl) rfl ?_), dpick rfl (G.quiet (yO rfl rfl) rfl ?_), trivial⟩
   ·refine yB [1, 3] (by kernel_rfl) (by simp) zB ⟨dpick rfl (G.quiet (yO rfl rfl) rfl ?_), dpick rfl (zL rfl rfl rfl rfl rfl ?_), trivial⟩
    ·refine dtail 3 rfl (zL rfl rfl rfl rfl rfl ?_)
     refine rn [24,4,3,24,5,3,28,7,11] ?_
     exact fin3 rfl (.cellw rfl rfl) (.tmp rfl) (.tmp rfl) (fun w' hw' => ⟨by rfl, hw'.upd⟩) _ (.inl rfl)
    ·refine dtail 1 rfl (G.quiet (yO rfl rfl) rfl ?_)
     refine rn [24,4,3,24,5,3,28,7,11] ?_
     exact fin3 rfl (.cellw rfl rfl) (.tmp rfl) (.tmp rfl) (fun w' hw' => ⟨by rfl, hw'.upd⟩) _ (.inl rfl)
   ·refine dtail 0 rfl (G.quiet (yK rfl rfl) rfl ?_)
    refine dtail 3 rfl (zL rfl rfl rfl rfl rfl ?_)
    refine rn [24,4,3,24,5,3,28,7,11] ?_
    exact fin3 rfl (.cellw rfl rfl) (.tmp rfl) (.tmp rfl) (fun w' hw' => ⟨by rfl, hw'.upd⟩) _ (.inl rfl)
 ·refine dop 2 rfl (zH [] rfl (fun w1 hw1 ho1 => by have h7 := event_any (7) w1; exact h7) rfl ?_)
  rintro b19 _
  refine ii ?_
  refine dop 6 rfl (zH [] rfl (fun w1 hw1 ho1 => by have h7 := delay_any (e) (c.sld) w1; exact h7) rfl ?_)
  rintro ⟨b23, p23⟩ _
  refine ii ?_
  refine dop 8 rfl (g_lit rfl rfl rfl rfl rfl fun b25 => ?_)
  refine zJ (b := b25) [Value.func (.func 170) #[] [Value.pointer (some ⟨b4, 0, none⟩)].toArray, Value.func (.func 248) #[] [Value.pointer (some ⟨b19, 0, none⟩)].toArray, Value.func (.func 249) #[] [Value.pointer (some ⟨b23, 0, none⟩), Value.pointer (some ⟨p23, 0, none⟩)].toArray, Value.func (.func 171) #[] [Value.pointer (some ⟨b5, 0, none⟩), Value.pointer (some ⟨bz, 0, none⟩)].toArray] rfl ?_
  refine dop 9 rfl (zH _ rfl (fun w1 hw1 ho1 => by
   have h7 := Own2.unstar (Ls := [Res.blk b4 3 [Value.int .i64 (e)], Res.blk b19 3 [Value.int .i64 (7)], Res.blk b23 3 [Value.int .i64 (e)], Res.blk p23 3 [Value.int .i64 (c.sld)], Res.blk b5 24 c.c, Res.blk bz 22 [Value.int .u64 (0)]]) (Ls1 := fun _ => [Res.blk b4 3 [Value.int .i64 (e)], Res.blk b19 3 [Value.int .i64 (7)], Res.blk b23 3 [Value.int .i64 (e)], Res.blk p23 3 [Value.int .i64 (c.sld)], Res.blk b5 24 c.c, Res.blk bz 22 [Value.int .u64 ((applyC ([(⟨170, [Value.pointer (some ⟨b4, 0, none⟩)], fun v s => ((mkR e v).1, (mkR e v).2, s)⟩ : Chg Int), (⟨248, [Value.pointer (some ⟨b19, 0, none⟩)], fun v s => ((evR 7 v).1, (evR 7 v).2, s)⟩ : Chg Int), (⟨249, [Value.pointer (some ⟨b23, 0, none⟩), Value.pointer (some ⟨p23, 0, none⟩)], fun v s => ((dlR e c.sld v).1, (dlR e c.sld v).2, s)⟩ : Chg Int), (⟨171, [Value.pointer (some ⟨b5, 0, none⟩), Value.pointer (some ⟨bz, 0, none⟩)], fun v _ => ((buR c v).1, 0, (buR c v).2)⟩ : Chg Int)] : List (Chg Int)) v 0).2.2)]]) (fun hw2 => xG (fun z9 : Int => Res.star [Res.blk b4 3 [Value.int .i64 (e)], Res.blk b19 3 [Value.int .i64 (7)], Res.blk b23 3 [Value.int .i64 (e)], Res.blk p23 3 [Value.int .i64 (c.sld)], Res.blk b5 24 c.c, Res.blk bz 22 [Value.int .u64 (z9)]]) okP ([(⟨170, [Value.pointer (some ⟨b4, 0, none⟩)], fun v s => ((mkR e v).1, (mkR e v).2, s)⟩ : Chg Int), (⟨248, [Value.pointer (some ⟨b19, 0, none⟩)], fun v s => ((evR 7 v).1, (evR 7 v).2, s)⟩ : Chg Int), (⟨249, [Value.pointer (some ⟨b23, 0, none⟩), Value.pointer (some ⟨p23, 0, none⟩)], fun v s => ((dlR e c.sld v).1, (dlR e c.sld v).2, s)⟩ : Chg Int), (⟨171, [Value.pointer (some ⟨b5, 0, none⟩), Value.pointer (some ⟨bz, 0, none⟩)], fun v _ => ((buR c v).1, 0, (buR c v).2)⟩ : Chg Int)] : List (Chg Int)) v 0 b25 w1 hw2 (by
    intro c9 hc9
    simp only [List.mem_cons, List.not_mem_nil, or_false] at hc9
    rcases hc9 with rfl | rfl | rfl | rfl
    · exact ⟨by kernel_rfl, fun v9 s9 h9 h0 => (by show okP (mkR e v9).1 s9; unfold mkR; split <;> exact h9), fun b9 v9 s9 w9 hw9 h9 => Chg.go_of hw9 inferInstance inferInstance (fun w8 hw8 => sla1_any b9 b4 v9 e w8 hw8)⟩
    · exact ⟨by kernel_rfl, fun v9 s9 h9 h0 => okP_ev (v := v9) h9, fun b9 v9 s9 w9 hw9 h9 => Chg.go_of hw9 inferInstance inferInstance (fun w8 hw8 => ev1_any b9 b19 v9 7 w8 hw8 (by decide) h9.1)⟩
    · exact ⟨by kernel_rfl, fun v9 s9 h9 h0 => (by show okP (dlR e c.sld v9).1 s9; unfold dlR; split <;> exact h9), fun b9 v9 s9 w9 hw9 h9 => Chg.go_of hw9 inferInstance inferInstance (fun w8 hw8 => del1_any b9 b23 p23 v9 e c.sld w8 hw8 he hd)⟩
    · exact ⟨by kernel_rfl, fun v9 s9 h9 h0 => ⟨h9.1, by unfold buR; simp only [IntKind.wrap_u64]; omega⟩, fun b9 v9 s9 w9 hw9 h9 => Chg.go_of hw9 inferInstance inferInstance (fun w8 hw8 => sla2_any b9 b5 bz v9 c s9 w8 hw8 h9.2 hpn hpd hnd)⟩) hok (Rd.star (Rd.ofBlk (b := b25) (T := 285) (c := [Value.func (.func 170) #[] [Value.pointer (some ⟨b4, 0, none⟩)].toArray, Value.func (.func 248) #[] [Value.pointer (some ⟨b19, 0, none⟩)].toArray, Value.func (.func 249) #[] [Value.pointer (some ⟨b23, 0, none⟩), Value.pointer (some ⟨p23, 0, none⟩)].toArray, Value.func (.func 171) #[] [Value.pointer (some ⟨b5, 0, none⟩), Value.pointer (some ⟨bz, 0, none⟩)].toArray]) hw1 rfl (by simp) rfl)) (by simp)) ho1
   exact h7) rfl ?_)
  rintro ⟨⟩ _
  refine ii ?_
  refine zJ (b := bz) [Value.int .u64 (slaV v e c).2.1] (by rw [sla_ap v e c [Value.pointer (some ⟨b4, 0, none⟩)] [Value.pointer (some ⟨b19, 0, none⟩)] [Value.pointer (some ⟨b23, 0, none⟩), Value.pointer (some ⟨p23, 0, none⟩)] [Value.pointer (some ⟨b5, 0, none⟩), Value.pointer (some ⟨bz, 0, none⟩)]]) ?_
  refine rn [23,10,2,23,11,40] ?_
  refine g_val 27 (v' := V.v (slaV v e c).1) rfl (by rw [sla_ap v e c [Value.pointer (some ⟨b4, 0, none⟩)] [Value.pointer (some ⟨b19, 0, none⟩)] [Value.pointer (some ⟨b23, 0, none⟩), Value.pointer (some ⟨p23, 0, none⟩)] [Value.pointer (some ⟨b5, 0, none⟩), Value.pointer (some ⟨bz, 0, none⟩)]]) ?_
  refine rn [24,12,40] ?_
  refine g_val 28 (v' := .int .i64 (slaV v e c).2.2) rfl (by rw [sla_ap v e c [Value.pointer (some ⟨b4, 0, none⟩)] [Value.pointer (some ⟨b19, 0, none⟩)] [Value.pointer (some ⟨b23, 0, none⟩), Value.pointer (some ⟨p23, 0, none⟩)] [Value.pointer (some ⟨b5, 0, none⟩), Value.pointer (some ⟨bz, 0, none⟩)]]) ?_
  refine dop 14 rfl (zL rfl rfl rfl rfl rfl ?_)
  refine rn [24,15,3,28,7,8] ?_
  refine dreg [0, 1, 3] mixed rfl ?_
  refine rn [24,2,2] ?_
  refine yB [0, 1] (by kernel_rfl) (by simp) zB ⟨dpick rfl (G.quiet (yK rfl rfl) rfl ?_), dpick rfl (G.quiet (yO rfl rfl) rfl ?_), trivial⟩
  ·refine yB [1, 3] (by kernel_rfl) (by simp) zB ⟨dpick rfl (G.quiet (yO rfl rfl) rfl ?_), dpick rfl (zL rfl rfl rfl rfl rfl ?_), trivial⟩
   ·refine dtail 3 rfl (zL rfl rfl rfl rfl rfl ?_)
    refine rn [24,4,3,24,5,3,28,7,11] ?_
    exact fin3 rfl (.cellw rfl rfl) (.tmp rfl) (.tmp rfl) (fun w' hw' => ⟨by rfl, hw'.upd⟩) _ (.inl rfl)
   ·refine dtail 1 rfl (G.quiet (yO rfl rfl) rfl ?_)
    refine rn [24,4,3,24,5,3,28,7,11] ?_
    exact fin3 rfl (.cellw rfl rfl) (.tmp rfl) (.tmp rfl) (fun w' hw' => ⟨by rfl, hw'.upd⟩) _ (.inl rfl)
  ·refine dtail 0 rfl (G.quiet (yK rfl rfl) rfl ?_)
   refine dtail 3 rfl (zL rfl rfl rfl rfl rfl ?_)
   refine rn [24,4,3,24,5,3,28,7,11] ?_
   exact fin3 rfl (.cellw rfl rfl) (.tmp rfl) (.tmp rfl) (fun w' hw' => ⟨by rfl, hw'.upd⟩) _ (.inl rfl)
theorem inI_any (y lo hi : Int) (w : World)  : Pur Tryz.prog 206 [.int .i64 y, .int .i64 lo, .int .i64 hi] w (.bool (decide (lo ≤ y) && decide (y ≤ hi))) := by
 refine g_st Tryz.func206 15 (WOK.start [] _) ?_
 refine rn [1,3,0,1,2,2,56,2] ?_
 refine zV 10 rfl (fun h1 => ?_) (fun h1 => ?_)
 ·refine rn [22,2,22,2,22,56,41,3,0,11] ?_
  exact fin1 rfl (.tmp rfl) (fun w' hw' => ⟨by first | (simp_all; done) | (simp_all; omega), hw'.upd⟩) _ (.inl rfl)
 ·refine rn [21,21,21,42,3,0,11] ?_
  exact fin1 rfl (.tmp rfl) (fun w' hw' => ⟨by first | (simp_all; done) | (simp_all; omega), hw'.upd⟩) _ (.inl rfl)
theorem inU_any (y lo hi : Int) (w : World)  : Pur Tryz.prog 211 [.int .u64 y, .int .u64 lo, .int .u64 hi] w (.bool (decide (lo ≤ y) && decide (y ≤ hi))) := by
 refine g_st Tryz.func211 15 (WOK.start [] _) ?_
 refine rn [1,3,0,1,2,2,56,2] ?_
 refine zV 10 rfl (fun h1 => ?_) (fun h1 => ?_)
 ·refine rn [22,2,22,2,22,56,41,3,0,11] ?_
  exact fin1 rfl (.tmp rfl) (fun w' hw' => ⟨by first | (simp_all; done) | (simp_all; omega), hw'.upd⟩) _ (.inl rfl)
 ·refine rn [21,21,21,42,3,0,11] ?_
  exact fin1 rfl (.tmp rfl) (fun w' hw' => ⟨by first | (simp_all; done) | (simp_all; omega), hw'.upd⟩) _ (.inl rfl)
theorem cnd1 (c : C) (w : World) (hc : chk c = 0) (hk : Cok c) : Pur Tryz.prog 205 [c.v] w (.bool true) := by
 refine g_st Tryz.func205 6 (WOK.start [] _) ?_
 refine rn [1] ?_
 refine g_op (g_box (c := C.c c) rfl rfl rfl fun b1 => ?_)
 refine rn [3,0,1,4,5] ?_
 refine g_op (zG rfl (fun w1 hw1 => inI_any _ _ _ w1) rfl ?_)
 refine rn [3,0,11] ?_
 exact fin1 rfl (.tmp rfl) (fun w' hw' => ⟨by have h9 := zU hc 1 (by omega) (by omega); simp [rightB, btw] at h9; simp <;> omega, hw'.upd⟩) _ (.inl rfl)
theorem cnd2 (c : C) (w : World) (hc : chk c = 0) (hk : Cok c) : Pur Tryz.prog 207 [c.v] w (.bool true) := by
 refine g_st Tryz.func207 6 (WOK.start [] _) ?_
 refine rn [1] ?_
 refine g_op (g_box (c := C.c c) rfl rfl rfl fun b1 => ?_)
 refine rn [3,0,1,4,5] ?_
 refine g_op (zG rfl (fun w1 hw1 => inI_any _ _ _ w1) rfl ?_)
 refine rn [3,0,11] ?_
 exact fin1 rfl (.tmp rfl) (fun w' hw' => ⟨by have h9 := zU hc 2 (by omega) (by omega); simp [rightB, btw] at h9; simp <;> omega, hw'.upd⟩) _ (.inl rfl)
theorem cnd3 (c : C) (w : World) (hc : chk c = 0) (hk : Cok c) : Pur Tryz.prog 208 [c.v] w (.bool true) := by
 refine g_st Tryz.func208 6 (WOK.start [] _) ?_
 refine rn [1] ?_
 refine g_op (g_box (c := C.c c) rfl rfl rfl fun b1 => ?_)
 refine rn [3,0,1,4,5,55,3,0,11] ?_
 exact fin1 rfl (.tmp rfl) (fun w' hw' => ⟨by have h9 := zU hc 3 (by omega) (by omega); simp [rightB, btw] at h9; simp <;> omega, hw'.upd⟩) _ (.inl rfl)
theorem cnd4 (c : C) (w : World) (hc : chk c = 0) (hk : Cok c) : Pur Tryz.prog 209 [c.v] w (.bool true) := by
 refine g_st Tryz.func209 8 (WOK.start [] _) ?_
 refine rn [1] ?_
 refine g_op (g_box (c := C.c c) rfl rfl rfl fun b1 => ?_)
 refine rn [3,0,1,4,5,4,5,53,3,0,11] ?_
 exact fin1 rfl (.tmp rfl) (fun w' hw' => ⟨by have h9 := zU hc 4 (by omega) (by omega); simp [rightB, btw] at h9; simp <;> omega, hw'.upd⟩) _ (.inl rfl)
theorem cnd5 (c : C) (w : World) (hc : chk c = 0) (hk : Cok c) : Pur Tryz.prog 210 [c.v] w (.bool true) := by
 refine g_st Tryz.func210 8 (WOK.start [] _) ?_
 refine rn [1] ?_
 refine g_op (g_box (c := C.c c) rfl rfl rfl fun b1 => ?_)
 refine rn [3,0,1,4,5,4,5] ?_
 refine g_op (zG rfl (fun w1 hw1 => inU_any _ _ _ w1) rfl ?_)
 refine rn [3,0,11] ?_
 exact fin1 rfl (.tmp rfl) (fun w' hw' => ⟨by have h9 := zU hc 5 (by omega) (by omega); simp [rightB, btw] at h9; simp <;> omega, hw'.upd⟩) _ (.inl rfl)
theorem cnd6 (c : C) (w : World) (hc : chk c = 0) (hk : Cok c) : Pur Tryz.prog 212 [c.v] w (.bool true) := by
 refine g_st Tryz.func212 8 (WOK.start [] _) ?_
 refine rn [1] ?_
 refine g_op (g_box (c := C.c c) rfl rfl rfl fun b1 => ?_)
 refine rn [3,0,1,4,5,4,5] ?_
 refine g_op (zG rfl (fun w1 hw1 => inU_any _ _ _ w1) rfl ?_)
 refine rn [3,0,11] ?_
 exact fin1 rfl (.tmp rfl) (fun w' hw' => ⟨by have h9 := zU hc 6 (by omega) (by omega); simp [rightB, btw] at h9; simp <;> omega, hw'.upd⟩) _ (.inl rfl)
theorem cnd7 (c : C) (w : World) (hc : chk c = 0) (hk : Cok c) : Pur Tryz.prog 213 [c.v] w (.bool true) := by
 refine g_st Tryz.func213 10 (WOK.start [] _) ?_
 refine rn [1] ?_
 refine g_op (g_box (c := C.c c) rfl rfl rfl fun b1 => ?_)
 refine rn [3,0,1,4,5,4,5,4,5] ?_
 refine g_op (zG rfl (fun w1 hw1 => inU_any _ _ _ w1) rfl ?_)
 refine rn [3,0,11] ?_
 exact fin1 rfl (.tmp rfl) (fun w' hw' => ⟨by have h9 := zU hc 7 (by omega) (by omega); simp [rightB, btw] at h9; simp <;> omega, hw'.upd⟩) _ (.inl rfl)
theorem cnd8 (c : C) (w : World) (hc : chk c = 0) (hk : Cok c) : Pur Tryz.prog 214 [c.v] w (.bool true) := by
 refine g_st Tryz.func214 6 (WOK.start [] _) ?_
 refine rn [1] ?_
 refine g_op (g_box (c := C.c c) rfl rfl rfl fun b1 => ?_)
 refine rn [3,0,1,4,5] ?_
 refine g_op (zG rfl (fun w1 hw1 => inU_any _ _ _ w1) rfl ?_)
 refine rn [3,0,11] ?_
 exact fin1 rfl (.tmp rfl) (fun w' hw' => ⟨by have h9 := zU hc 8 (by omega) (by omega); simp [rightB, btw] at h9; simp <;> omega, hw'.upd⟩) _ (.inl rfl)
theorem cnd9 (c : C) (w : World) (hc : chk c = 0) (hk : Cok c) : Pur Tryz.prog 215 [c.v] w (.bool true) := by
 refine g_st Tryz.func215 6 (WOK.start [] _) ?_
 refine rn [1] ?_
 refine g_op (g_box (c := C.c c) rfl rfl rfl fun b1 => ?_)
 refine rn [3,0,1,4,5,55,3,0,11] ?_
 exact fin1 rfl (.tmp rfl) (fun w' hw' => ⟨by have h9 := zU hc 9 (by omega) (by omega); simp [rightB, btw] at h9; simp <;> omega, hw'.upd⟩) _ (.inl rfl)
theorem cnd10 (c : C) (w : World) (hc : chk c = 0) (hk : Cok c) : Pur Tryz.prog 216 [c.v] w (.bool true) := by
 refine g_st Tryz.func216 6 (WOK.start [] _) ?_
 refine rn [1] ?_
 refine g_op (g_box (c := C.c c) rfl rfl rfl fun b1 => ?_)
 refine rn [3,0,1,4,5,56,3,0,11] ?_
 exact fin1 rfl (.tmp rfl) (fun w' hw' => ⟨by have h9 := zU hc 10 (by omega) (by omega); simp [rightB, btw] at h9; simp <;> omega, hw'.upd⟩) _ (.inl rfl)
theorem cnd11 (c : C) (w : World) (hc : chk c = 0) (hk : Cok c) : Pur Tryz.prog 217 [c.v] w (.bool true) := by
 refine g_st Tryz.func217 6 (WOK.start [] _) ?_
 refine rn [1] ?_
 refine g_op (g_box (c := C.c c) rfl rfl rfl fun b1 => ?_)
 refine rn [3,0,1,4,5] ?_
 refine g_op (zG rfl (fun w1 hw1 => inI_any _ _ _ w1) rfl ?_)
 refine rn [3,0,11] ?_
 exact fin1 rfl (.tmp rfl) (fun w' hw' => ⟨by have h9 := zU hc 11 (by omega) (by omega); simp [rightB, btw] at h9; simp <;> omega, hw'.upd⟩) _ (.inl rfl)
theorem cnd12 (c : C) (w : World) (hc : chk c = 0) (hk : Cok c) : Pur Tryz.prog 218 [c.v] w (.bool true) := by
 refine g_st Tryz.func218 9 (WOK.start [] _) ?_
 have g1 := hk.vis; have g2 := hk.pays; have g3 := hk.unb
 refine rn [1] ?_
 refine g_op (g_box (c := C.c c) rfl rfl rfl fun b1 => ?_)
 refine rn [3,0,1,4,5,4,5] ?_
 refine s_q (yM (z := c.unb + 1) rfl rfl (wi64 (by omega) (by omega))) rfl ?_
 refine g_op (zG rfl (fun w1 hw1 => inI_any _ _ _ w1) rfl ?_)
 refine rn [3,0,11] ?_
 exact fin1 rfl (.tmp rfl) (fun w' hw' => ⟨by have h9 := zU hc 12 (by omega) (by omega); simp [rightB, btw] at h9; simp <;> omega, hw'.upd⟩) _ (.inl rfl)
theorem cnd13 (c : C) (w : World) (hc : chk c = 0) (hk : Cok c) : Pur Tryz.prog 219 [c.v] w (.bool true) := by
 refine g_st Tryz.func219 6 (WOK.start [] _) ?_
 refine rn [1] ?_
 refine g_op (g_box (c := C.c c) rfl rfl rfl fun b1 => ?_)
 refine rn [3,0,1,4,5] ?_
 refine g_op (zG rfl (fun w1 hw1 => inI_any _ _ _ w1) rfl ?_)
 refine rn [3,0,11] ?_
 exact fin1 rfl (.tmp rfl) (fun w' hw' => ⟨by have h9 := zU hc 13 (by omega) (by omega); simp [rightB, btw] at h9; simp <;> omega, hw'.upd⟩) _ (.inl rfl)
theorem cnd14 (c : C) (w : World) (hc : chk c = 0) (hk : Cok c) : Pur Tryz.prog 220 [c.v] w (.bool true) := by
 refine g_st Tryz.func220 6 (WOK.start [] _) ?_
 refine rn [1] ?_
 refine g_op (g_box (c := C.c c) rfl rfl rfl fun b1 => ?_)
 refine rn [3,0,1,4,5] ?_
 refine g_op (zG rfl (fun w1 hw1 => inI_any _ _ _ w1) rfl ?_)
 refine rn [3,0,11] ?_
 exact fin1 rfl (.tmp rfl) (fun w' hw' => ⟨by have h9 := zU hc 14 (by omega) (by omega); simp [rightB, btw] at h9; simp <;> omega, hw'.upd⟩) _ (.inl rfl)
theorem cnd15 (c : C) (w : World) (hc : chk c = 0) (hk : Cok c) : Pur Tryz.prog 221 [c.v] w (.bool true) := by
 refine g_st Tryz.func221 6 (WOK.start [] _) ?_
 refine rn [1] ?_
 refine g_op (g_box (c := C.c c) rfl rfl rfl fun b1 => ?_)
 refine rn [3,0,1,4,5] ?_
 refine g_op (zG rfl (fun w1 hw1 => inI_any _ _ _ w1) rfl ?_)
 refine rn [3,0,11] ?_
 exact fin1 rfl (.tmp rfl) (fun w' hw' => ⟨by have h9 := zU hc 15 (by omega) (by omega); simp [rightB, btw] at h9; simp <;> omega, hw'.upd⟩) _ (.inl rfl)
theorem cnd16 (c : C) (w : World) (hc : chk c = 0) (hk : Cok c) : Pur Tryz.prog 222 [c.v] w (.bool true) := by
 refine g_st Tryz.func222 6 (WOK.start [] _) ?_
 refine rn [1] ?_
 refine g_op (g_box (c := C.c c) rfl rfl rfl fun b1 => ?_)
 refine rn [3,0,1,4,5] ?_
 refine g_op (zG rfl (fun w1 hw1 => inI_any _ _ _ w1) rfl ?_)
 refine rn [3,0,11] ?_
 exact fin1 rfl (.tmp rfl) (fun w' hw' => ⟨by have h9 := zU hc 16 (by omega) (by omega); simp [rightB, btw] at h9; simp <;> omega, hw'.upd⟩) _ (.inl rfl)
theorem cnd17 (c : C) (w : World) (hc : chk c = 0) (hk : Cok c) : Pur Tryz.prog 223 [c.v] w (.bool true) := by
 refine g_st Tryz.func223 12 (WOK.start [] _) ?_
 have g1 := hk.vis; have g2 := hk.pays; have g3 := hk.unb
 refine rn [1] ?_
 refine g_op (g_box (c := C.c c) rfl rfl rfl fun b1 => ?_)
 refine rn [3,0,1,4,5,4,5,4,5,58] ?_
 refine s_q (yY (z := min c.vis c.pays - 1) rfl rfl (wi64 (by omega) (by omega))) rfl ?_
 refine g_op (zG rfl (fun w1 hw1 => inI_any _ _ _ w1) rfl ?_)
 refine rn [3,0,11] ?_
 exact fin1 rfl (.tmp rfl) (fun w' hw' => ⟨by have h9 := zU hc 17 (by omega) (by omega); simp [rightB, btw] at h9; simp <;> omega, hw'.upd⟩) _ (.inl rfl)
theorem cnd18 (c : C) (w : World) (hc : chk c = 0) (hk : Cok c) : Pur Tryz.prog 224 [c.v] w (.bool true) := by
 refine g_st Tryz.func224 6 (WOK.start [] _) ?_
 refine rn [1] ?_
 refine g_op (g_box (c := C.c c) rfl rfl rfl fun b1 => ?_)
 refine rn [3,0,1,4,5] ?_
 refine g_op (zG rfl (fun w1 hw1 => inI_any _ _ _ w1) rfl ?_)
 refine rn [3,0,11] ?_
 exact fin1 rfl (.tmp rfl) (fun w' hw' => ⟨by have h9 := zU hc 18 (by omega) (by omega); simp [rightB, btw] at h9; simp <;> omega, hw'.upd⟩) _ (.inl rfl)
theorem cnd19 (c : C) (w : World) (hc : chk c = 0) (hk : Cok c) : Pur Tryz.prog 225 [c.v] w (.bool true) := by
 refine g_st Tryz.func225 8 (WOK.start [] _) ?_
 refine rn [1] ?_
 refine g_op (g_box (c := C.c c) rfl rfl rfl fun b1 => ?_)
 refine rn [3,0,1,4,5,4,5,56,3,0,11] ?_
 exact fin1 rfl (.tmp rfl) (fun w' hw' => ⟨by have h9 := zU hc 19 (by omega) (by omega); simp [rightB, btw] at h9; simp <;> omega, hw'.upd⟩) _ (.inl rfl)
theorem cnd20 (c : C) (w : World) (hc : chk c = 0) (hk : Cok c) : Pur Tryz.prog 226 [c.v] w (.bool true) := by
 refine g_st Tryz.func226 6 (WOK.start [] _) ?_
 refine rn [1] ?_
 refine g_op (g_box (c := C.c c) rfl rfl rfl fun b1 => ?_)
 refine rn [3,0,1,4,5] ?_
 refine g_op (zG rfl (fun w1 hw1 => inU_any _ _ _ w1) rfl ?_)
 refine rn [3,0,11] ?_
 exact fin1 rfl (.tmp rfl) (fun w' hw' => ⟨by have h9 := zU hc 20 (by omega) (by omega); simp [rightB, btw] at h9; simp <;> omega, hw'.upd⟩) _ (.inl rfl)
def cndF : List Nat := [205, 207, 208, 209, 210, 212, 213, 214, 215, 216, 217, 218, 219, 220, 221, 222, 223, 224, 225, 226]
def cndV : List Value := cndF.map fun f => .func (.func f) #[] #[]
theorem cnd_all {c : C} (hc : chk c = 0) (hk : Cok c) : ∀ f ∈ cndF, hasBody Tryz.prog f = true ∧ ∀ w, Pur Tryz.prog f [c.v] w (.bool true) := by
 intro f hf
 simp only [cndF, List.mem_cons, List.not_mem_nil, or_false] at hf
 rcases hf with rfl | rfl | rfl | rfl | rfl | rfl | rfl | rfl | rfl | rfl | rfl | rfl | rfl | rfl | rfl | rfl | rfl | rfl | rfl | rfl
 ·exact ⟨by kernel_rfl, fun w => cnd1 c w hc hk⟩
 ·exact ⟨by kernel_rfl, fun w => cnd2 c w hc hk⟩
 ·exact ⟨by kernel_rfl, fun w => cnd3 c w hc hk⟩
 ·exact ⟨by kernel_rfl, fun w => cnd4 c w hc hk⟩
 ·exact ⟨by kernel_rfl, fun w => cnd5 c w hc hk⟩
 ·exact ⟨by kernel_rfl, fun w => cnd6 c w hc hk⟩
 ·exact ⟨by kernel_rfl, fun w => cnd7 c w hc hk⟩
 ·exact ⟨by kernel_rfl, fun w => cnd8 c w hc hk⟩
 ·exact ⟨by kernel_rfl, fun w => cnd9 c w hc hk⟩
 ·exact ⟨by kernel_rfl, fun w => cnd10 c w hc hk⟩
 ·exact ⟨by kernel_rfl, fun w => cnd11 c w hc hk⟩
 ·exact ⟨by kernel_rfl, fun w => cnd12 c w hc hk⟩
 ·exact ⟨by kernel_rfl, fun w => cnd13 c w hc hk⟩
 ·exact ⟨by kernel_rfl, fun w => cnd14 c w hc hk⟩
 ·exact ⟨by kernel_rfl, fun w => cnd15 c w hc hk⟩
 ·exact ⟨by kernel_rfl, fun w => cnd16 c w hc hk⟩
 ·exact ⟨by kernel_rfl, fun w => cnd17 c w hc hk⟩
 ·exact ⟨by kernel_rfl, fun w => cnd18 c w hc hk⟩
 ·exact ⟨by kernel_rfl, fun w => cnd19 c w hc hk⟩
 ·exact ⟨by kernel_rfl, fun w => cnd20 c w hc hk⟩
theorem cnd_get {i : Nat} (h : i < 20) : ∃ f ∈ cndF, cndV[i]? = some (.func (.func f) #[] #[]) := ⟨cndF[i]'h, List.getElem_mem _, by unfold cndV; rw [List.getElem?_map, List.getElem?_eq_getElem (show i < cndF.length from h)]; rfl⟩
theorem conds_any  (w : World)  : Pur Tryz.prog 143 [] w (.agg cndV.toArray) := by
 refine g_st Tryz.func143 22 (WOK.start [] _) ?_
 refine rn [1] ?_
 refine g_op (zI rfl fun b0 => ?_)
 refine rn [0,1,49,49,49,49,49,49,49,49,49,49,49,49,49,49,49,49,49,49,49,49,49,33,0,11] ?_
 exact fin1 rfl (.cellw rfl rfl) (fun w' hw' => ⟨by rfl, hw'.upd⟩) _ (.inl rfl)
theorem cchk_any (c : C) (w : World) (hc : chk c = 0) (hk : Cok c) : Pur Tryz.prog 87 [c.v] w (.int .i64 0) := by
 refine g_st Tryz.func87 18 (WOK.start [] _) ?_
 refine rn [1] ?_
 refine g_op (g_box (c := C.c c) rfl rfl rfl fun b1 => ?_)
 refine rn [3,0,8,1] ?_
 refine g_op (zG rfl (fun w1 hw1 => conds_any w1) rfl ?_)
 refine rn [2,0,14] ?_
 refine g_lk [1, 2, 5] (fun (x : Nat) => [(6, .int .i64 ((x : Nat) : Int))]) (fun (x : Nat) => [Res.blk b1 24 c.c]) (fun (x : Nat) => x ≤ 20) (fun (x : Nat) => 20 - x) 0 (by (try dsimp only); exact Nat.zero_le _) ?_
 rintro k le_k
 replace le_k : k ≤ 20 := le_k
 refine rn [1,46,0,8] ?_
 refine zC rfl (fun h1 => ?_) (fun h1 => ?_)
 ·have lt_k : k < 20 := by have h9 := of_decide_eq_true h1; omega
  obtain ⟨f, hf, hfv⟩ := cnd_get lt_k
  refine rn [12,7,8,14,1,2] ?_
  refine s_q (q_idxagg1 (i := k) rfl rfl rfl lt_k hfv) rfl ?_
  refine g_op (zI rfl fun b4 => ?_)
  refine rn [3,33,0,1,4,5,45] ?_
  refine g_op (g_purevE (hb := ⟨(cnd_all hc hk f hf).1⟩) (f := f) rfl rfl (fun w1 hw1 => (cnd_all hc hk f hf).2 w1) rfl ?_)
  refine rn [48] ?_
  refine yD 14 (b := false) rfl (rfl) ?_
  refine rn [0,20,12,15,7,10,43,2,9] ?_
  exact g_ag (k + 1) (by (try dsimp only); exact (by first | exact lt_k | omega))
 ·have eq_k : k = 20 := by have h9 := of_decide_eq_false h1; omega
  refine rn [16] ?_
  refine zE (zE (zQ ?_))
  refine rn [7,1,3,0,11] ?_
  exact fin1 rfl (.tmp rfl) (fun w' hw' => ⟨by rfl, hw'.upd⟩) _ (.inl rfl)
theorem cvalid_any (c : C) (w : World) (hc : chk c = 0) (hk : Cok c) : Pur Tryz.prog 32 [c.v] w (.bool true) := by
 refine g_st Tryz.func32 6 (WOK.start [] _) ?_
 refine rn [1] ?_
 refine g_op (g_box (c := C.c c) rfl rfl rfl fun b1 => ?_)
 refine rn [3,0,1,45] ?_
 refine g_op (zG rfl (fun w1 hw1 => cchk_any c w1 hc hk) rfl ?_)
 refine rn [44,3,0,11] ?_
 exact fin1 rfl (.tmp rfl) (fun w' hw' => ⟨by rfl, hw'.upd⟩) _ (.inl rfl)
theorem cyc1_any (ub b2 b3 n k : Nat) (w : World) (hw : W0 [Res.blk b2 96 [Value.pointer (some ⟨ub, 0, none⟩)], Res.blk b3 3 [Value.int .i64 ((n : Nat) : Int)], Res.blk ub 180 [Value.int .i64 ((k : Nat) : Int)]] w) (hk : k < 1000000) (hn : 0 < n ∧ n ≤ 1000000) : Own2 (ι := Unit) Tryz.prog 287 [.pointer (some ⟨b2, 0, none⟩), .pointer (some ⟨b3, 0, none⟩)] w [Res.blk b2 96 [Value.pointer (some ⟨ub, 0, none⟩)], Res.blk b3 3 [Value.int .i64 ((n : Nat) : Int)], Res.blk ub 180 [Value.int .i64 ((k : Nat) : Int)]] (fun x => True) (fun x => .int .i64 ((k % n : Nat) : Int)) (fun x => []) (fun x => [Res.blk b2 96 [Value.pointer (some ⟨ub, 0, none⟩)], Res.blk b3 3 [Value.int .i64 ((n : Nat) : Int)], Res.blk ub 180 [Value.int .i64 ((((k % n + 1) % n) : Nat) : Int)]]) := by
 refine g_st Tryz.func287 18 hw ?_
 have hm := Nat.mod_lt k hn.1
 refine rn [1,3,0,8] ?_
 refine dreg [] mixed rfl ?_
 refine rn [23,0,5,23,1,6,23,2,4,23,3,5,23,4,5] ?_
 refine dq 5 rfl (q_remn (a := k) (b := n) rfl rfl (by first | omega | (simp; omega) | (simp_all; omega))) ?_
 refine rn [23,6,3,27,7,8] ?_
 refine dreg [7] mixed rfl ?_
 refine rn [23,0,5,23,1,2,23,2,43,23,3,5] ?_
 refine dq 4 rfl (q_remn (a := ((k % n) + 1)) (b := n) rfl rfl (by first | omega | (simp; omega) | (simp_all; omega))) ?_
 refine rn [24,5,6,23,6,4] ?_
 refine dop 7 rfl (zP rfl rfl rfl rfl rfl rfl rfl ?_)
 refine zJ (b := ub) [Value.int .i64 (((k % n + 1) % n : Nat) : Int)] (by simp [splice]) ?_
 refine rn [28,7,1,2,3,0,11] ?_
 exact fin1 rfl (.tmp rfl) (fun w' hw' => ⟨(), (by exact trivial), rfl, zA w' hw'⟩) _ (.inl rfl)
theorem cycle_any (ub n : Nat) (w : World)  : Own2 (ι := (Nat × Nat)) Tryz.prog 239 [.pointer (some ⟨ub, 0, none⟩), .int .i64 ((n : Nat) : Int)] w [] (fun x => True) (fun x => .func (.func 287) #[] [Value.pointer (some ⟨x.1, 0, none⟩), Value.pointer (some ⟨x.2, 0, none⟩)].toArray) (fun x => [Res.blk x.1 96 [Value.pointer (some ⟨ub, 0, none⟩)], Res.blk x.2 3 [Value.int .i64 ((n : Nat) : Int)]]) (fun x => []) := by
 refine g_st Tryz.func239 6 (WOK.start (fps []) _) ?_
 refine rn [1] ?_
 refine g_op (g_box rfl rfl rfl fun b2 => ?_)
 refine g_op (g_box rfl rfl rfl fun b3 => ?_)
 refine rn [3,0,1,52,3,0,11] ?_
 exact fin1 rfl (.tmp rfl) (fun w' hw' => ⟨(b2, b3), (by exact trivial), rfl, zA w' hw'⟩) _ (.inl rfl)
theorem swp_stop {rd : List Bool} {n pays k at_ made : Nat} {paid : List Int} (h : paid.length = pays) : swp rd n pays k at_ paid made = (at_, paid, made) := by
 cases k with
 | zero => rfl
 | succ k => rw [swp, if_pos h]
theorem swp_go {rd : List Bool} {n pays K at_ made : Nat} {paid : List Int} (h : ¬ paid.length = pays) (hk : made < K) : swp rd n pays (K - made) at_ paid made = swp rd n pays (K - (made + 1)) ((at_ % n + 1) % n) (if rd[at_ % n]? = some true then paid ++ [((at_ % n : Nat) : Int)] else paid) (made + 1) := by
 obtain ⟨k, hk⟩ : ∃ k, K - made = k + 1 := ⟨K - made - 1, by omega⟩
 rw [hk, swp, if_neg h, show K - (made + 1) = k by omega]
theorem sweep_any (ub k : Nat) (A : Option Addr) (n cap : Nat) (rd : List Bool) (vis pays : Int) (w : World) (hw : W0 [Res.blk ub 180 [Value.int .i64 ((k : Nat) : Int)]] w) (hk : k ≤ 4096) (hrd : Rd w [Res.blk ub 180 [Value.int .i64 ((k : Nat) : Int)]] A n 1 (rd.map (fun v : Bool => [Value.bool v]))) (hb : n ≤ 4096) : Own2 (ι := (Option Addr × Nat)) Tryz.prog 159 [.pointer (some ⟨ub, 0, none⟩), .slice A n cap, .int .i64 vis, .int .i64 pays] w [Res.blk ub 180 [Value.int .i64 ((k : Nat) : Int)]] (fun x => True) (fun x => .tuple [.slice x.1 (sweepS k rd vis pays).2.1.length x.2, .int .i64 (((sweepS k rd vis pays).2.2 : Nat) : Int)].toArray) (fun x => [Res.row x.1 ((sweepS k rd vis pays).2.1).length x.2 3 1 (((sweepS k rd vis pays).2.1).map (fun v : Int => [Value.int .i64 v]))]) (fun x => [Res.blk ub 180 [Value.int .i64 (((sweepS k rd vis pays).1 : Nat) : Int)]]) := by
 refine g_st Tryz.func159 53 hw ?_
 have hn : n = rd.length := by have := hrd.old.len; simpa using this
 refine rn [1,3,3,0] ?_
 refine g_scope ?_
 refine rn [1,2,47,3,0,8,1,2,50,2,22,2,22,44,42,2] ?_
 refine zV 23 rfl (fun h1 => ?_) (fun h1 => ?_)
 ·have hn1 : n = 0 := by have h9 := of_decide_eq_true h1; omega
  have hR : (sweepS k rd vis pays) = (k, [], 0) := by unfold sweepS; rw [if_pos (.inl (by omega))]
  refine rn [21,21,41,0,19,1,3,3,0,11] ?_
  refine zD (g_ng_ret ?_)
  refine zW none 3 1 (([] : List Int).map (fun v : Int => [Value.int .i64 v])) rfl ?_
  exact fin2 rfl (.tmp rfl) (.tmp rfl) (fun w' hw' => ⟨((none : Option Addr), 0), (by exact trivial), by rw [hR]; rfl, by rw [hR]; exact zA w' hw'⟩) _ (.inl rfl)
 ·have hn0 : 0 < n := by have h9 := of_decide_eq_false h1; omega
  refine rn [22,2,22,46,42,0] ?_
  refine zC rfl (fun h2 => ?_) (fun h2 => ?_)
  ·have hR : (sweepS k rd vis pays) = (k, [], 0) := by unfold sweepS; rw [if_pos (.inr (of_decide_eq_true h2))]
   refine rn [1,3,3,0,11] ?_
   refine zD (g_ng_ret ?_)
   refine zW none 3 1 (([] : List Int).map (fun v : Int => [Value.int .i64 v])) rfl ?_
   exact fin2 rfl (.tmp rfl) (.tmp rfl) (fun w' hw' => ⟨((none : Option Addr), 0), (by exact trivial), by rw [hR]; rfl, by rw [hR]; exact zA w' hw'⟩) _ (.inl rfl)
  ·have hp0 : 1 ≤ pays := by have h9 := of_decide_eq_false h2; omega
   obtain ⟨P, hP⟩ : ∃ q : Nat, pays = q := ⟨pays.toNat, by omega⟩
   refine g_val 3 (v' := .int .i64 ((P : Nat) : Int)) rfl (by rw [hP]) ?_
   obtain ⟨K, hK⟩ : ∃ q : Nat, (min vis (rd.length : Int)).toNat = q := ⟨_, rfl⟩
   have hR0 : (sweepS k rd vis pays) = swp rd n P (K - 0) k [] 0 := by unfold sweepS; rw [if_neg (by omega), hK, hn, show pays.toNat = P by omega]; rfl
   have hKn : K ≤ n := by omega
   have hm0 := Nat.mod_lt k hn0
   refine rn [12,7,1,2,2] ?_
   refine g_op (zH [] rfl (fun w1 hw1 ho1 => by have h7 := cycle_any ub n w1; exact h7) rfl ?_)
   rintro ⟨b2, b3⟩ _
   refine ii ?_
   refine rn [3,0,1,3] ?_
   refine g_nilrow 12 3 1 rfl fun Az1 capz1 hcz1 => ?_
   refine zF (A := Az1) (([] : List Int).map (fun v : Int => [Value.int .i64 v])) rfl ?_
   refine rn [0,1,3,0,8] ?_
   refine g_label ?_
   refine rn [7,8,14] ?_
   refine g_lk [1, 2, 3, 8, 9, 10, 11] (fun (x : Nat × List Int × Nat × Option Addr × Nat) => [(12, .slice x.2.2.2.1 (x.2.1).length x.2.2.2.2), (13, .int .i64 ((x.2.2.1 : Nat) : Int))]) (fun (x : Nat × List Int × Nat × Option Addr × Nat) => [Res.row x.2.2.2.1 (x.2.1).length x.2.2.2.2 3 1 ((x.2.1).map (fun v : Int => [Value.int .i64 v])), Res.blk b2 96 [Value.pointer (some ⟨ub, 0, none⟩)], Res.blk b3 3 [Value.int .i64 ((n : Nat) : Int)], Res.blk ub 180 [Value.int .i64 ((x.1 : Nat) : Int)]]) (fun (x : Nat × List Int × Nat × Option Addr × Nat) => x.1 ≤ 4096 ∧ (x.2.1).length ≤ x.2.2.1 ∧ x.2.2.1 ≤ K ∧ (sweepS k rd vis pays) = swp rd n P (K - x.2.2.1) x.1 x.2.1 x.2.2.1) (fun (x : Nat × List Int × Nat × Option Addr × Nat) => K - x.2.2.1) (k, ([] : List Int), 0, Az1, capz1) (by (try dsimp only); exact ⟨hk, (by simp), (by omega), hR0⟩) ?_
   rintro ⟨k1, p1, m1, A1, cap1⟩ ⟨hk1, hpl, hmK, hs⟩
   replace hk1 : k1 ≤ 4096 := hk1
   replace hpl : (p1).length ≤ m1 := hpl
   replace hmK : m1 ≤ K := hmK
   replace hs : (sweepS k rd vis pays) = swp rd n P (K - m1) k1 p1 m1 := hs
   refine zX (L' := [Res.row A1 (p1).length cap1 3 1 ((p1).map (fun v : Int => [Value.int .i64 v])), Res.blk b2 96 [Value.pointer (some ⟨ub, 0, none⟩)], Res.blk b3 3 [Value.int .i64 ((n : Nat) : Int)], Res.blk ub 180 [Value.int .i64 ((k1 : Nat) : Int)]]) rfl ?_
   refine g_val 12 (v' := .slice A1 (p1).length cap1) rfl rfl ?_
   refine g_val 13 (v' := .int .i64 ((m1 : Nat) : Int)) rfl rfl ?_
   refine rn [8,1,2,2,2,58,46,0] ?_
   refine zC rfl (fun h3 => ?_) (fun h3 => ?_)
   ·have lt_m : m1 < K := by have h9 := of_decide_eq_true h3; omega
    have hm1 := Nat.mod_lt k1 hn0
    have hm2 := Nat.mod_lt (k1 % n + 1) hn0
    refine rn [12,7,8,14,8,1,2,47,2,44,0] ?_
    refine zC rfl (fun h4 => ?_) (fun h4 => ?_)
    ·have hR : (sweepS k rd vis pays) = (k1, p1, m1) := by rw [hs]; exact swp_stop (by have h9 := of_decide_eq_true h4; omega)
     refine rn [16] ?_
     refine zE (g_blk_miss rfl (zE (zE (zQ ?_))))
     refine rn [7,1,2,2,3,3,0,11] ?_
     refine g_ng_ret ?_
     exact fin2 rfl (.tmp rfl) (.tmp rfl) (fun w' hw' => ⟨(A1, cap1), (by exact trivial), by rw [hR], by rw [hR]; exact zA w' hw'⟩) _ (.inl rfl)
    ·have hne : ¬ p1.length = P := by have h9 := of_decide_eq_false h4; omega
     refine rn [12,7,1,2] ?_
     refine g_op (g_ownV [Res.blk b2 96 [Value.pointer (some ⟨ub, 0, none⟩)], Res.blk b3 3 [Value.int .i64 ((n : Nat) : Int)], Res.blk ub 180 [Value.int .i64 ((k1 : Nat) : Int)]] rfl rfl (fun w1 hw1 ho1 => by have h7 := cyc1_any ub b2 b3 n k1 w1 ho1 (by omega) ⟨hn0, by omega⟩; exact h7) rfl ?_)
     rintro ⟨⟩ _
     refine ii ?_
     refine rn [3,0,1,2,2] ?_
     refine s_q (zR (i := (k1 % n)) rfl rfl rfl hrd.rdb (by first | omega | (simp; done) | (simp; omega))) rfl ?_
     refine s_q (yL (i := (k1 % n)) (o := 0) rfl hrd.rdb (zS (by omega)) rfl rfl) rfl ?_
     refine rn [0] ?_
     refine zC rfl (fun h5 => ?_) (fun h5 => ?_)
     ·have hrx : rd[k1 % n]? = some true := by rw [List.getElem?_eq_getElem (by omega)]; simpa using h5
      refine rn [10,2,2] ?_
      refine g_op (g_lit rfl rfl rfl rfl rfl fun b49 => ?_)
      refine zJ (b := b49) ((([(((k1 % n) : Nat) : Int)] : List Int).map (fun v : Int => [Value.int .i64 v])).flatten) rfl ?_
      refine g_op (zY (A := A1) (els := (p1).map (fun v : Int => [Value.int .i64 v])) (news := (([(((k1 % n) : Nat) : Int)] : List Int).map (fun v : Int => [Value.int .i64 v]))) rfl rfl (InL.rdb (b := b49) rfl (by simp) rfl) (yG (c := (fun v : Int => [Value.int .i64 v])) (by intro x; simp [Value.oneCell']) _) (by omega) rfl fun A50 cap50 => ⟨_, inferInstance, ?_⟩)
      refine zF (A := A50) (((p1 ++ [(((k1 % n) : Nat) : Int)])).map (fun v : Int => [Value.int .i64 v])) (by first | rfl | exact List.map_append.symm | (simp; done)) ?_
      refine yC (A := A50) (p1 ++ [((k1 % n : Nat) : Int)]).length (by simp) ?_
      refine g_val 50 (v' := .slice A50 (p1 ++ [((k1 % n : Nat) : Int)]).length cap50) rfl (by simp) ?_
      refine rn [3,9,15,7,10,2,43,3,9] ?_
      exact g_ag (((k1 % n + 1) % n), (p1 ++ [((k1 % n : Nat) : Int)]), (m1 + 1), A50, cap50) (by (try dsimp only); exact ⟨(by omega), (by simp; omega), (by omega), (by rw [swp_go hne lt_m, if_pos hrx] at hs; exact hs)⟩)
     ·have hrx : ¬ rd[k1 % n]? = some true := by rw [List.getElem?_eq_getElem (by omega)]; simpa using h5
      refine rn [12,15,7,10,2,43,3,9] ?_
      exact g_ag (((k1 % n + 1) % n), p1, (m1 + 1), A1, cap1) (by (try dsimp only); exact ⟨(by omega), (by omega), (by omega), (by rw [swp_go hne lt_m, if_neg hrx] at hs; exact hs)⟩)
   ·have eq_m : m1 = K := by have h9 := of_decide_eq_false h3; omega
    have hR : (sweepS k rd vis pays) = (k1, p1, m1) := by rw [hs, eq_m, Nat.sub_self]; rfl
    refine rn [16] ?_
    refine zE (zE (zQ ?_))
    refine rn [7,1,2,2,3,3,0,11] ?_
    refine g_ng_ret ?_
    exact fin2 rfl (.tmp rfl) (.tmp rfl) (fun w' hw' => ⟨(A1, cap1), (by exact trivial), by rw [hR], by rw [hR]; exact zA w' hw'⟩) _ (.inl rfl)
theorem radd_reg (rb : Nat) (g : RG) (v : V) (w : World) (hw : W0 [RgB rb g, RgW g, Res.im (RG.m g)] w) (hg : g.Rep) (hv : v.ok) (hlt : g.l.length < g.cp) (hb : (g.l.map V.bal).sum + v.bal ≤ 18446744073709551615) : Own2 (ι := RG) Tryz.prog 106 [.pointer (some ⟨rb, 0, none⟩), .agg v.c.toArray] w [RgB rb g, RgW g, Res.im (RG.m g)] (fun x => x.Rep ∧ x.l = g.l ++ [v] ∧ x.cp = g.cp) (fun x => .tuple [.int .i64 (((RG.l g).length : Nat) : Int), .int .i64 0].toArray) (fun x => []) (fun x => [RgB rb x, RgW x, Res.im (RG.m x)]) := by
 refine g_startM Tryz.func106 rfl 51 rfl (by simp) (fps [RgB rb g, RgW g, Res.im (RG.m g)]) [RgB rb g, RgW g, Res.im (RG.m g)] hw _ rfl ?_
 have hcp := hg.cp
 have hvb := hv.bal
 have ht0 : 0 ≤ RG.t g := by rw [hg.t]; exact sum_nn fun x hx => by obtain ⟨y, hy, rfl⟩ := List.mem_map.1 hx; exact (hg.ok y hy).bal.1
 refine rn [1] ?_
 refine g_op (g_box rfl rfl rfl fun b3 => ?_)
 refine rn [3,3,0,8,1,2,50,0,20,12,7,8,8] ?_
 refine dreg [] mixed rfl ?_
 refine rn [23,0,2,23,1,6,23,2,4,23,3,5,23,4,47,23,5,2,23,6,6,23,7,4,23,8,5,23,9,44] ?_
 refine yD 19 (b := false) rfl (by simp; omega) ?_
 refine rn [27,7,20,12,7,8,8] ?_
 refine dreg [] mixed rfl ?_
 refine rn [23,0,2,23,1,6,23,2,4,23,3,5,23,4,4,23,5,5] ?_
 refine dop 6 rfl (g_lit rfl rfl rfl rfl rfl fun b27 => ?_)
 refine zJ (b := b27) ((([(RG.t g), v.bal] : List Int).map (fun v : Int => [Value.int .u64 v])).flatten) rfl ?_
 refine dop 7 rfl (zG rfl (fun w1 hw1 => add_any (some ⟨b27, 0, none⟩) (2) (2) (([(RG.t g), v.bal] : List Int)) w1 (Rdb.toOld (InL.rdb (b := b27) (els := (([(RG.t g), v.bal] : List Int)).map (fun v : Int => [Value.int .u64 v])) rfl (by simp) rfl) hw1) (by intro x hx; simp at hx; have := hg.t; have := hg.mx; rcases hx with rfl | rfl <;> omega) (by first | omega | (simp; omega) | (simp; done))) rfl ?_)
 refine rn [23,8,2,23,9,40,23,10,40,23,11,3,23,12,3,27,7,1,2,48,0] ?_
 refine zC rfl (fun h1 => ?_) (fun h1 => ?_)
 ·exfalso; have h9 := h1; have h8 : addB [RG.t g, v.bal] = true := (add_fits (by have h7 := hg.t; simp; omega)).1; rw [h8] at h9; simp at h9
 ·refine rn [12,7,1,2,45] ?_
  refine g_op (g_defer (fst := []) (cap := []) rfl rfl ?_)
  refine rn [0,8] ?_
  refine dregL (L0 := [Res.blk rb 167 [Value.int .i64 ((RG.cp g : Nat) : Int), .slice (RG.A g) (RG.l g).length (RG.k g), .int .u64 (RG.a g), .int .u64 (RG.t g), .map (some (RG.m g))], Res.blk b3 52 v.c]) [10] mixed rfl zB ?_
  refine rn [23,0,2,23,1,2,23,2,6,23,3,4,23,4,5,23,5,45] ?_
  refine dop 6 rfl (g_lit rfl rfl rfl rfl rfl fun b41 => ?_)
  refine zJ (b := b41) ((([v] : List V).map V.c).flatten) rfl ?_
  refine dop 7 rfl (zY (A := (RG.A g)) (els := ((RG.l g)).map V.c) (news := (([v] : List V).map V.c)) rfl rfl (InL.rdb (b := b41) rfl (by simp [V.c]) rfl) (yG (c := V.c) (by intro x; simp [V.c, Value.oneCell']) _) (by have := hg.cp; omega) rfl fun A42 cap42 => ⟨_, inferInstance, ?_⟩)
  refine zF (A := A42) ((((RG.l g) ++ [v])).map V.c) (by first | rfl | exact List.map_append.symm | (simp; done)) ?_
  refine yC (A := A42) (g.l ++ [v]).length (by simp) ?_
  refine g_val 42 (v' := .slice A42 (g.l ++ [v]).length cap42) rfl (by simp) ?_
  refine rn [24,8,6,23,9,4] ?_
  refine dop 10 rfl (zP rfl rfl rfl rfl rfl rfl rfl ?_)
  refine zJ (b := rb) [Value.int .i64 ((RG.cp g : Nat) : Int), .slice A42 (g.l ++ [v]).length cap42, .int .u64 (RG.a g), .int .u64 (RG.t g), .map (some (RG.m g))] (by simp [splice]) ?_
  refine rn [28,7,1,2,6,4,5,47] ?_
  refine s_q (yY (z := (((RG.l g).length : Nat) : Int)) rfl rfl (by simp; rw [wi64 (by omega) (by omega)])) rfl ?_
  refine rn [3,3,0,11] ?_
  refine finD [RgB rb (RG.mk g.cp A42 cap42 (g.l ++ [v]) g.a g.t g.m), RgW (RG.mk g.cp A42 cap42 (g.l ++ [v]) g.a g.t g.m), Res.im (RG.m (RG.mk g.cp A42 cap42 (g.l ++ [v]) g.a g.t g.m))] (fun w1 hw1 ho1 => by have h7 := countD_any rb (RG.mk g.cp A42 cap42 (g.l ++ [v]) g.a g.t g.m) v true w1 ho1 hv; exact h7) ?_ _ (.inl rfl)
  rintro ⟨⟩ _
  refine ⟨_, _, inferInstance, inferInstance, ?_⟩
  exact finM2 rfl (.tmp rfl) (.tmp rfl) (fun w' hw' => ⟨(RG.cnt (RG.mk g.cp A42 cap42 (g.l ++ [v]) g.a g.t g.m) (sgn v true) v), ⟨RG.add_rep hg hlt hv hb, rfl, rfl⟩, rfl, by have h9 := zB (L' := [RgB rb (RG.cnt (RG.mk g.cp A42 cap42 (g.l ++ [v]) g.a g.t g.m) (sgn v true) v), RgW (RG.cnt (RG.mk g.cp A42 cap42 (g.l ++ [v]) g.a g.t g.m) (sgn v true) v), Res.im (RG.m (RG.cnt (RG.mk g.cp A42 cap42 (g.l ++ [v]) g.a g.t g.m) (sgn v true) v))]) w' hw'; exact h9⟩)
theorem xB (rb : Nat) (g : RG) (i : Int) (v : V) (w : World) (hw : W0 [RgB rb g, RgW g, Res.im (RG.m g)] w) (hg : g.Rep) (hv : v.ok) (hb : ∀ n : Nat, i = n → (h : n < g.l.length) → (g.l.map V.bal).sum - (g.l[n]).bal + v.bal ≤ 18446744073709551615) : Own2 (ι := RG) Tryz.prog 113 [.agg #[.pointer (some ⟨rb, 0, none⟩)], .int .i64 i, .agg v.c.toArray] w [RgB rb g, RgW g, Res.im (RG.m g)] (fun x => x.Rep ∧ x.l = setV g.l i v ∧ x.cp = g.cp) (fun x => .tuple #[]) (fun x => []) (fun x => [RgB rb x, RgW x, Res.im (RG.m x)]) := by
 refine g_st Tryz.func113 11 hw ?_
 refine rn [1] ?_
 refine g_op (g_box (c := [Value.pointer (some ⟨rb, 0, none⟩)]) rfl rfl rfl fun b3 => ?_)
 refine g_op (g_box rfl rfl rfl fun b5 => ?_)
 refine rn [0,10,4,5,2,45] ?_
 refine g_op (zH _ rfl (fun w1 hw1 ho1 => by have h7 := rset_any rb g (i) (v) w1 ho1 hg hv hb; exact h7) rfl ?_)
 rintro g10 ⟨r10, l10, c10⟩
 refine ii ?_
 refine rn [9] ?_
 exact fin0 rfl (fun w' hw' => ⟨g10, (by exact ⟨r10, by rw [l10]; rfl, c10⟩), rfl, zA w' hw'⟩) _ (.inr rfl)
theorem ok_st {v : V} {z : Int} (h : v.ok) (hz : 0 ≤ z ∧ z ≤ 7) : ({ v with st := z } : V).ok := ⟨h.bal, by simp only; omega, h.rq, h.ex, h.wd, h.dl⟩
theorem sum_same {l : List V} {n : Nat} (h : n < l.length) (hm : (l.map V.bal).sum ≤ 18446744073709551615) {v : V} (hv : v.bal = (l[n]).bal) : (l.map V.bal).sum - (l[n]).bal + v.bal ≤ 18446744073709551615 := by rw [hv]; omega
theorem event_tab (rb : Nat) (g : RG) (i : Int) (e : Nat) (w : World) (hw : W0 [RgB rb g, RgW g, Res.im (RG.m g)] w) (hg : g.Rep) (he : e < 8) (hst : ∀ v ∈ RG.l g, 0 ≤ v.st ∧ v.st ≤ 7) : Own2 (ι := RG) Tryz.prog 148 [.agg #[.pointer (some ⟨rb, 0, none⟩)], .int .i64 i, .int .i64 (e : Int)] w [RgB rb g, RgW g, Res.im (RG.m g)] (fun x => x.Rep ∧ x.l = evV g.l i (e : Int) ∧ x.cp = g.cp) (fun x => .bool (hasV g.l i && decide ((nxt (gotV g.l i).st (e : Int)) ≠ 0))) (fun x => []) (fun x => [RgB rb x, RgW x, Res.im (RG.m x)]) := by
 refine g_st Tryz.func148 37 hw ?_
 refine rn [1] ?_
 refine g_op (g_box (c := [Value.pointer (some ⟨rb, 0, none⟩)]) rfl rfl rfl fun b3 => ?_)
 refine rn [3,0,1,4,5,2] ?_
 refine g_op (zK _ rfl (fun w1 hw1 ho1 => by exact rget_any rb g (i) w1 ho1) rfl ?_)
 refine rn [2,40,40] ?_
 refine g_op (zI rfl fun b7 => ?_)
 refine rn [33,3,0,1] ?_
 have hst1 : 0 ≤ (gotV g.l i).st ∧ (gotV g.l i).st ≤ 7 := by
   rcases Bool.eq_false_or_eq_true (hasV g.l i) with h | h
   · exact hst _ (by have h9 := of_decide_eq_true h; obtain ⟨q, rfl⟩ : ∃ q : Nat, i = q := ⟨i.toNat, by omega⟩; rw [yT (by omega)]; exact List.getElem_mem _)
   · rw [got_out h]; decide
 refine rn [4,5,2] ?_
 refine g_op (zG rfl (fun w1 hw1 => by have h7 := next_any ((gotV g.l i).st).toNat ((e : Int)).toNat w1 (by omega) (by omega); rw [Int.toNat_of_nonneg (show 0 ≤ (gotV g.l i).st by omega), Int.toNat_of_nonneg (show 0 ≤ (e : Int) by omega)] at h7; exact h7) rfl ?_)
 refine rn [2,40,40,3,3,0,8,1,2,48,2] ?_
 refine zV 27 rfl (fun h1 => ?_) (fun h1 => ?_)
 ·have hh : hasV g.l i = false := by simpa using h1
  refine rn [21,21,41,0,19,1,3,0,11,13] ?_
  exact fin1 rfl (.tmp rfl) (fun w' hw' => ⟨g, (by (try dsimp only); exact ⟨hg, by unfold evV; rw [if_neg (by first | (rw [hh]; simp; done) | (rw [hn]; simp; done) | simp_all)], rfl⟩), by first | (rw [hh]; rfl) | (rw [hn]; simp), zA w' hw'⟩) _ (.inl rfl)
 ·have hh : hasV g.l i = true := by simpa using h1
  refine rn [22,2,22,48,42,0] ?_
  refine zC rfl (fun h2 => ?_) (fun h2 => ?_)
  ·have hn : (nxt (gotV g.l i).st (e : Int)) = 0 := by simpa using h2
   refine rn [1,3,0,11,13] ?_
   exact fin1 rfl (.tmp rfl) (fun w' hw' => ⟨g, (by (try dsimp only); exact ⟨hg, by unfold evV; rw [if_neg (by first | (rw [hh]; simp; done) | (rw [hn]; simp; done) | simp_all)], rfl⟩), by first | (rw [hh]; rfl) | (rw [hn]; simp), zA w' hw'⟩) _ (.inl rfl)
  ·have hn : ¬ (nxt (gotV g.l i).st (e : Int)) = 0 := by simpa using h2
   refine rn [12,7,1,2,4] ?_
   refine g_op (zP rfl rfl rfl rfl rfl rfl rfl ?_)
   refine zJ (b := b7) (V.c { gotV g.l i with st := nxt (gotV g.l i).st (e : Int) }) (by simp [splice, V.c]) ?_
   obtain ⟨q9, hqi⟩ : ∃ q : Nat, i = q := ⟨i.toNat, by have h9 := of_decide_eq_true hh; omega⟩
   have hq9 : q9 < g.l.length := by have h9 := of_decide_eq_true hh; omega
   have hgo : gotV g.l i = g.l[q9] := by rw [hqi]; exact yT hq9
   refine rn [0,1,45,2,45] ?_
   refine g_op (zH _ rfl (fun w1 hw1 ho1 => by have h7 := xB rb g (i) ({ gotV g.l i with st := nxt (gotV g.l i).st (e : Int) }) w1 ho1 hg (by rw [hgo]; exact ok_st (hg.ok _ (List.getElem_mem hq9)) (nxt_rng _ _)) (fun n hn2 h => sum_same h hg.mx (by obtain rfl : q9 = n := (by omega); simp only [hgo])); exact h7) rfl ?_)
   rintro g36 ⟨r36, l36, c36⟩
   refine ii ?_
   refine rn [0,1,3,0,11] ?_
   exact fin1 rfl (.tmp rfl) (fun w' hw' => ⟨g36, (by exact ⟨r36, by rw [l36]; unfold evV setV; rw [if_pos hh, if_pos ⟨hh, hn⟩], c36⟩), by rw [hh, decide_eq_true hn]; rfl, zA w' hw'⟩) _ (.inl rfl)
theorem balances_tab (rb : Nat) (g : RG) (w : World) (hw : W0 [RgB rb g, RgW g, Res.im (RG.m g)] w) (hg : g.Rep) : Own2 (ι := (Option Addr × Nat)) Tryz.prog 153 [.agg #[.pointer (some ⟨rb, 0, none⟩)]] w [RgB rb g, RgW g, Res.im (RG.m g)] (fun x => True) (fun x => .slice x.1 ((RG.l g).map V.bal).length x.2) (fun x => [Res.row x.1 ((RG.l g).map V.bal).length x.2 22 1 (((RG.l g).map V.bal).map (fun v : Int => [Value.int .u64 v]))]) (fun x => [RgB rb g, RgW g, Res.im (RG.m g)]) := by
 refine g_st Tryz.func153 21 hw ?_
 have q1 := hg.le; have q2 := hg.cp
 refine rn [1] ?_
 refine g_op (g_box (c := [Value.pointer (some ⟨rb, 0, none⟩)]) rfl rfl rfl fun b1 => ?_)
 refine rn [3,0,1,3] ?_
 refine g_nilrow 3 22 1 rfl fun Az1 capz1 hcz1 => ?_
 refine zF (A := Az1) (([] : List Int).map (fun v : Int => [Value.int .u64 v])) rfl ?_
 refine rn [0,8,1,4,5] ?_
 refine g_op (zH _ rfl (fun w1 hw1 ho1 => by have h7 := rall_any rb g w1 ho1 hg; exact h7) rfl ?_)
 rintro ⟨A8, cap8⟩ _
 refine ii ?_
 refine rn [47,2,0,14] ?_
 refine zF (A := Az1) ((((RG.l g).map V.bal).take 0).map (fun v : Int => [Value.int .u64 v])) (by simp) ?_
 refine g_lk [2, 8, 9] (fun (x : Nat × Option Addr × Nat) => [(3, .slice x.2.1 x.1 x.2.2), (10, .int .i64 ((x.1 : Nat) : Int))]) (fun (x : Nat × Option Addr × Nat) => [Res.row x.2.1 x.1 x.2.2 22 1 ((((RG.l g).map V.bal).take x.1).map (fun v : Int => [Value.int .u64 v])), Res.row A8 (RG.l g).length cap8 52 7 ((RG.l g).map V.c), RgB rb g, RgW g, Res.im (RG.m g)]) (fun (x : Nat × Option Addr × Nat) => x.1 ≤ (RG.l g).length) (fun (x : Nat × Option Addr × Nat) => (RG.l g).length - x.1) (0, Az1, capz1) (by (try dsimp only); exact Nat.zero_le _) ?_
 rintro ⟨k, A1, cap1⟩ le_k
 replace le_k : k ≤ (RG.l g).length := le_k
 refine zX (L' := [Res.row A1 k cap1 22 1 ((((RG.l g).map V.bal).take k).map (fun v : Int => [Value.int .u64 v])), Res.row A8 (RG.l g).length cap8 52 7 ((RG.l g).map V.c), RgB rb g, RgW g, Res.im (RG.m g)]) rfl ?_
 refine g_val 3 (v' := .slice A1 k cap1) rfl rfl ?_
 refine g_val 10 (v' := .int .i64 ((k : Nat) : Int)) rfl rfl ?_
 refine rn [1,46,0,8] ?_
 refine zC rfl (fun h1 => ?_) (fun h1 => ?_)
 ·have lt_k : k < (RG.l g).length := by have h9 := of_decide_eq_true h1; omega
  refine rn [12,7,8,14,1] ?_
  refine s_q (zR (i := k) rfl rfl rfl (InRow.rdb (A := A8) (els := ((RG.l g)).map V.c) (by first | rfl | assumption | (simp; done) | (simp_all; done) | (simp; omega) | (simp_all; omega)) (zM (c := V.c) (fun _ => rfl) _)) (by first | exact lt_k | omega)) rfl ?_
  refine s_q (zT (i := k) rfl (InRow.rdb (A := A8) (els := ((RG.l g)).map V.c) (by first | rfl | assumption | (simp; done) | (simp_all; done) | (simp; omega) | (simp_all; omega)) (zM (c := V.c) (fun _ => rfl) _)) (zS (by first | assumption | omega | (simp_all; done) | (simp_all; omega))) rfl) rfl ?_
  refine g_op (zI rfl fun b5 => ?_)
  refine rn [33,0,10,2,4,5] ?_
  refine g_op (g_lit rfl rfl rfl rfl rfl fun b17 => ?_)
  refine zJ (b := b17) ((([(RG.l g)[k].bal] : List Int).map (fun v : Int => [Value.int .u64 v])).flatten) rfl ?_
  refine g_op (zY (A := A1) (els := ((((RG.l g).map V.bal).take k)).map (fun v : Int => [Value.int .u64 v])) (news := (([(RG.l g)[k].bal] : List Int).map (fun v : Int => [Value.int .u64 v]))) rfl rfl (InL.rdb (b := b17) rfl (by simp) rfl) (yG (c := (fun v : Int => [Value.int .u64 v])) (by intro x; simp [Value.oneCell']) _) (by omega) rfl fun A18 cap18 => ⟨_, inferInstance, ?_⟩)
  refine zF (A := A18) ((((((RG.l g).map V.bal).take k) ++ [(RG.l g)[k].bal])).map (fun v : Int => [Value.int .u64 v])) (by first | rfl | exact List.map_append.symm | (simp; done)) ?_
  refine zF (A := A18) ((((RG.l g).map V.bal).take (k + 1)).map (fun v : Int => [Value.int .u64 v])) (by rw [← List.take_append_getElem (show k < ((RG.l g).map V.bal).length by simpa using lt_k)]; simp) ?_
  refine rn [3,9,15,7,10,43,2,9] ?_
  exact g_ag ((k + 1), A18, cap18) (by (try dsimp only); exact (by first | exact lt_k | omega))
 ·have eq_k : k = (RG.l g).length := by have h9 := of_decide_eq_false h1; omega
  subst eq_k
  refine rn [16] ?_
  refine zE (zE (zQ ?_))
  refine rn [7,1,2,3,0,11] ?_
  refine zF (A := A1) (((RG.l g).map V.bal).map (fun v : Int => [Value.int .u64 v])) (by rw [List.take_of_length_le (by simp)]) ?_
  refine yC (A := A1) ((RG.l g).map V.bal).length (by simp) ?_
  exact fin1 rfl (.tmp rfl) (fun w' hw' => ⟨(A1, cap1), (by exact trivial), by simp, zA w' hw'⟩) _ (.inl rfl)
theorem pcheck_any (A : Option Addr) (n cap : Nat) (l : List V) (r : Rq) (w : World) (hl : Old w A n 7 (l.map V.c)) (hb : n ≤ 1000000) : Pur Tryz.prog 119 [.slice A n cap, .agg r.c.toArray] w (.int .i64 (prtC l r.i r.m)) := by
 refine g_st Tryz.func119 30 (WOK.start [] _) ?_
 have hn : n = l.length := by simpa using hl.len
 refine rn [1] ?_
 refine g_op (g_box (c := Rq.c r) rfl rfl rfl fun b3 => ?_)
 refine rn [3,0,8,14,1,4,5,46,2] ?_
 refine zV 9 rfl (fun h1 => ?_) (fun h1 => ?_)
 ·have hh : hasV l r.i = false := decide_eq_false (by have h9 := of_decide_eq_true h1; omega)
  refine rn [21,21,21,21,21,41,3,0,19,1,3,0,11] ?_
  refine zN (zD ?_)
  exact fin1 rfl (.tmp rfl) (fun w' hw' => ⟨by unfold prtC; first | (rw [if_pos hh]; done) | (rw [if_neg (by rw [hh]; simp), if_pos h0]; done) | (rw [if_neg (by rw [hh]; simp), if_neg h0, hni, yT hil]; simp_all), hw'.upd⟩) _ (.inl rfl)
 ·refine rn [22,4,22,5,22,2,22,47,22,53,42,3,0] ?_
  refine zC rfl (fun h2 => ?_) (fun h2 => ?_)
  ·have hh : hasV l r.i = false := decide_eq_false (by have h9 := of_decide_eq_true h2; omega)
   refine rn [1,3,0,11] ?_
   refine zN (zD ?_)
   exact fin1 rfl (.tmp rfl) (fun w' hw' => ⟨by unfold prtC; first | (rw [if_pos hh]; done) | (rw [if_neg (by rw [hh]; simp), if_pos h0]; done) | (rw [if_neg (by rw [hh]; simp), if_neg h0, hni, yT hil]; simp_all), hw'.upd⟩) _ (.inl rfl)
  ·have hh : hasV l r.i = true := decide_eq_true (by have h8 := of_decide_eq_false h1; have h9 := of_decide_eq_false h2; omega)
   obtain ⟨ni, hni⟩ : ∃ q : Nat, r.i = q := ⟨r.i.toNat, by have h9 := of_decide_eq_true hh; omega⟩
   have hil : ni < l.length := by have h9 := of_decide_eq_true hh; omega
   refine rn [1,45,4,5,49] ?_
   refine s_q (q_eqs rfl rfl rfl) rfl ?_
   refine rn [3,0] ?_
   refine zC rfl (fun h3 => ?_) (fun h3 => ?_)
   ·have h0 : r.m = 0 := by simpa using h3
    refine rn [1,3,0,11] ?_
    refine zN (zD ?_)
    exact fin1 rfl (.tmp rfl) (fun w' hw' => ⟨by unfold prtC; first | (rw [if_pos hh]; done) | (rw [if_neg (by rw [hh]; simp), if_pos h0]; done) | (rw [if_neg (by rw [hh]; simp), if_neg h0, hni, yT hil]; simp_all), hw'.upd⟩) _ (.inl rfl)
   ·have h0 : ¬ r.m = 0 := by simpa using h3
    refine rn [1,2,4,5] ?_
    refine s_q (zR (i := ni) rfl rfl hni (hl.rdb rfl) (by omega)) rfl ?_
    refine rn [4] ?_
    refine s_q (yL (i := ni) (o := 1) rfl (hl.rdb rfl) (zS hil) rfl rfl) rfl ?_
    refine rn [51,3,0] ?_
    refine zC rfl (fun h4 => ?_) (fun h4 => ?_)
    ·refine rn [1,3,0,11] ?_
     refine zN (zD ?_)
     exact fin1 rfl (.tmp rfl) (fun w' hw' => ⟨by unfold prtC; first | (rw [if_pos hh]; done) | (rw [if_neg (by rw [hh]; simp), if_pos h0]; done) | (rw [if_neg (by rw [hh]; simp), if_neg h0, hni, yT hil]; simp_all), hw'.upd⟩) _ (.inl rfl)
    ·refine rn [12,15,7,1,3,0,11] ?_
     exact fin1 rfl (.tmp rfl) (fun w' hw' => ⟨by unfold prtC; first | (rw [if_pos hh]; done) | (rw [if_neg (by rw [hh]; simp), if_pos h0]; done) | (rw [if_neg (by rw [hh]; simp), if_neg h0, hni, yT hil]; simp_all), hw'.upd⟩) _ (.inl rfl)
end Go.Proofs.YtdddiilocbbkkaaGreat
