/- BucketOrder: for every length and list of operations the law returns true. No condition. -/
import Derived.Test.YtgbghjnlicldnaaWB
namespace Go.Proofs.Ytgbghjnlicldnaa
open Go.RowKit Go.Eg
set_option synthInstance.maxSize 3000
set_option linter.unusedSimpArgs false
set_option linter.unusedVariables false
set_option maxRecDepth 100000
set_option maxHeartbeats 400000 in
theorem law_bucketOrder (len : Nat) (A_ops : Option Addr) (c_ops : Nat) (ops : List Op) (w : World) (h_len : len < 256) (o_ops : Old w A_ops ops.length 3 (ops.map Op.c)) (h_ops : ops.length ≤ c_ops ∧ c_ops ≤ 9223372036854775807) (k_ops : ∀ x ∈ ops, (fun x : Op => x.ok) x) : Pur Try.prog 6 [.int .u8 ((len : Nat) : Int), .slice A_ops ops.length c_ops] w (.bool true) := by
  refine g_start Try.func6 rfl 90 rfl (by simp) ([]) [] (WOK.start _ _) _ rfl ?_
  refine g_seq ?_
  refine g_region ?_
  refine s_q (q_assign rfl) rfl ?_
  refine g_nil ?_
  refine g_then ?_
  refine g_seq ?_
  refine g_region ?_
  refine s_q (q_move rfl) rfl ?_
  refine s_q (q_convz (z := ((len : Nat) : Int)) rfl (wi64 (by omega) (by omega))) rfl ?_
  refine s_q (q_remn (a := len) (b := 12) rfl rfl (by first | omega | (simp; omega) | (simp_all; omega))) rfl ?_
  refine s_q (q_inc rfl rfl (by omega)) rfl ?_
  refine s_q (q_assign rfl) rfl ?_
  refine g_nil ?_
  refine g_then ?_
  refine g_seq ?_
  refine g_region ?_
  refine s_q (q_move rfl) rfl ?_
  refine g_op (g_ownS [] rfl (fun w1 hw1 ho1 => by have h7 := bnew_any (((len % 12) + 1)) w1 (by omega); exact h7) rfl ?_)
  rintro ⟨b21, g21⟩ ⟨r21, s21⟩
  refine ⟨_, _, inferInstance, inferInstance, ?_⟩
  simp only at r21 s21
  refine s_q (q_build (c := [Value.slice none 0 0, Value.slice none 0 0]) rfl rfl) rfl ?_
  refine g_op (g_box (c := [Value.slice none 0 0, Value.slice none 0 0]) rfl rfl rfl fun b23 => ?_)
  refine g_blkc (b := b23) [Value.slice none ((esF (ops.take 0)).map En.e).length 0, Value.slice none ((esF (ops.take 0)).map En.i).length 0] rfl ?_
  refine g_noresN none 3 1 ((esF (ops.take 0)).map En.e).length (((esF (ops.take 0)).map En.e).map (fun v : Int => [Value.int .i64 v])) rfl rfl ?_
  refine g_noresN none 3 1 ((esF (ops.take 0)).map En.i).length (((esF (ops.take 0)).map En.i).map (fun v : Int => [Value.int .i64 v])) rfl rfl ?_
  refine s_q (q_assign rfl) rfl ?_
  refine s_q (q_assign rfl) rfl ?_
  refine g_nil ?_
  refine g_then ?_
  refine g_seq ?_
  refine g_seq ?_
  refine g_region ?_
  refine s_q (q_move rfl) rfl ?_
  refine s_q (q_eqp (b := false) rfl rfl rfl) rfl ?_
  refine g_nil ?_
  refine g_then ?_
  refine g_false rfl ?_
  refine g_skip ?_
  refine g_then ?_
  refine g_seq ?_
  refine g_seq ?_
  refine g_region ?_
  refine s_q (q_move rfl) rfl ?_
  refine s_q (q_len rfl) rfl ?_
  refine s_q (q_gtr rfl rfl) rfl ?_
  refine g_nil ?_
  refine g_then ?_
  refine g_cond rfl (fun h1 => ?_) (fun h1 => ?_)
  · refine g_seq ?_
    refine g_region ?_
    refine g_op (g_pure rfl (fun w1 hw1 => alive_any w1) rfl ?_)
    refine s_q (q_assign rfl) rfl ?_
    refine g_nil ?_
    refine g_then ?_
    refine g_ret ?_
    refine g_then_ret ?_
    exact fin1 rfl (.tmp rfl) (fun w' hw' => ⟨by first | rfl | (simp_all; done) | (simp_all; omega), hw'.upd⟩) _ (.inl rfl)
  · have hn100 : ops.length ≤ 100 := by have h9 := of_decide_eq_false h1; omega
    refine g_skip ?_
    refine g_then ?_
    refine g_seq ?_
    refine g_seq ?_
    refine g_region ?_
    refine s_q (q_move rfl) rfl ?_
    refine s_q (q_len rfl) rfl ?_
    refine s_q (q_move rfl) rfl ?_
    refine g_nil ?_
    refine g_then ?_
    refine g_block ?_
    refine g_loopk [4, 6, 7, 30, 31] (fun (x : Nat × BR × Option Addr × Nat × Option Addr × Nat) => [(32, .int .i64 ((x.1 : Nat) : Int))]) (fun (x : Nat × BR × Option Addr × Nat × Option Addr × Nat) => [Res.blk b21 57 [Value.slice (BR.A x.2.1) (BR.bs x.2.1).length (BR.cap x.2.1), Value.int .i64 (BR.n x.2.1)], Res.row (BR.A x.2.1) (BR.bs x.2.1).length (BR.cap x.2.1) 47 1 ((BR.bs x.2.1).map (fun k : Bk En => [k.v])), bks 50 2 En.c (BR.bs x.2.1), Res.blk b23 29 [Value.slice x.2.2.1 ((esF (ops.take x.1)).map En.e).length x.2.2.2.1, Value.slice x.2.2.2.2.1 ((esF (ops.take x.1)).map En.i).length x.2.2.2.2.2], Res.row x.2.2.1 ((esF (ops.take x.1)).map En.e).length x.2.2.2.1 3 1 (((esF (ops.take x.1)).map En.e).map (fun v : Int => [Value.int .i64 v])), Res.row x.2.2.2.2.1 ((esF (ops.take x.1)).map En.i).length x.2.2.2.2.2 3 1 (((esF (ops.take x.1)).map En.i).map (fun v : Int => [Value.int .i64 v]))]) (fun (x : Nat × BR × Option Addr × Nat × Option Addr × Nat) => x.1 ≤ ops.length ∧ (x.2.1).Rep (esF (ops.take x.1)) ∧ (x.2.1).bs.length = g21.bs.length) (fun (x : Nat × BR × Option Addr × Nat × Option Addr × Nat) => ops.length - x.1) (0, g21, none, 0, none, 0) (by (try dsimp only); exact ⟨Nat.zero_le _, r21, rfl⟩) rfl (by repeat (first | exact trivial | refine ⟨rfl, ?_⟩)) wok_sub ?_
    rintro ⟨k, g1, A0, c0, A1, c1⟩ ⟨le_k, hr, hs⟩
    replace le_k : k ≤ ops.length := le_k
    replace hr : (g1).Rep (esF (ops.take k)) := hr
    replace hs : (g1).bs.length = g21.bs.length := hs
    refine g_setL (L' := [Res.blk b21 57 [Value.slice (BR.A g1) (BR.bs g1).length (BR.cap g1), Value.int .i64 (BR.n g1)], Res.row (BR.A g1) (BR.bs g1).length (BR.cap g1) 47 1 ((BR.bs g1).map (fun k : Bk En => [k.v])), bks 50 2 En.c (BR.bs g1), Res.blk b23 29 [Value.slice A0 ((esF (ops.take k)).map En.e).length c0, Value.slice A1 ((esF (ops.take k)).map En.i).length c1], Res.row A0 ((esF (ops.take k)).map En.e).length c0 3 1 (((esF (ops.take k)).map En.e).map (fun v : Int => [Value.int .i64 v])), Res.row A1 ((esF (ops.take k)).map En.i).length c1 3 1 (((esF (ops.take k)).map En.i).map (fun v : Int => [Value.int .i64 v]))]) rfl ?_
    refine g_val 32 (v' := .int .i64 ((k : Nat) : Int)) rfl rfl ?_
    have hel := esF_len ops k
    refine g_seq ?_
    refine g_region ?_
    refine s_q (q_lss rfl rfl) rfl ?_
    refine g_nil ?_
    refine g_then ?_
    refine g_seq ?_
    refine g_cond rfl (fun h2 => ?_) (fun h2 => ?_)
    · have lt_k : k < ops.length := by have h9 := of_decide_eq_true h2; omega
      have hsl := stepE_len (esF (ops.take k)) ops[k]
      refine g_skip ?_
      refine g_then ?_
      refine g_seq ?_
      refine g_block ?_
      refine g_seq ?_
      refine g_region ?_
      refine s_q (q_index (i := k) rfl rfl rfl (o_ops.rdb rfl) (by first | exact lt_k | omega)) rfl ?_
      refine s_q (q_load_ew (i := k) rfl (o_ops.rdb rfl) (map_get (by first | assumption | omega)) rfl) rfl ?_
      refine g_op (g_alloc rfl fun b9 => ?_)
      refine g_op (g_storew rfl rfl rfl rfl rfl ?_)
      refine g_nil ?_
      refine g_then ?_
      refine g_region ?_
      refine s_q (q_move rfl) rfl ?_
      refine s_q (q_move rfl) rfl ?_
      refine s_q (q_loadw rfl rfl) rfl ?_
      refine g_op (g_ownS [Res.blk b21 57 [Value.slice (BR.A g1) (BR.bs g1).length (BR.cap g1), Value.int .i64 (BR.n g1)], Res.row (BR.A g1) (BR.bs g1).length (BR.cap g1) 47 1 ((BR.bs g1).map (fun k : Bk En => [k.v])), bks 50 2 En.c (BR.bs g1), Res.blk b23 29 [Value.slice A0 ((esF (ops.take k)).map En.e).length c0, Value.slice A1 ((esF (ops.take k)).map En.i).length c1], Res.row A0 ((esF (ops.take k)).map En.e).length c0 3 1 (((esF (ops.take k)).map En.e).map (fun v : Int => [Value.int .i64 v])), Res.row A1 ((esF (ops.take k)).map En.i).length c1 3 1 (((esF (ops.take k)).map En.i).map (fun v : Int => [Value.int .i64 v]))] rfl (fun w1 hw1 ho1 => by have h7 := do_any b21 g1 b23 A0 c0 A1 c1 (esF (ops.take k)) (ops[k]) w1 ho1 hr (by first | omega | (simp; omega)); exact h7) rfl ?_)
      rintro ⟨g39, A39, c39, B39, d39⟩ ⟨r39, s39⟩
      refine ⟨_, _, inferInstance, inferInstance, ?_⟩
      simp only at r39 s39
      refine g_nil ?_
      refine g_blk_n ?_
      refine g_then ?_
      refine g_region ?_
      refine s_q (q_inc rfl rfl (by omega)) rfl ?_
      refine s_q (q_move rfl) rfl ?_
      refine g_nil ?_
      rw [← esF_succ lt_k]
      exact g_again ((k + 1), g39, A39, c39, B39, d39) (by (try dsimp only); exact ⟨(by first | exact lt_k | omega), (by rw [esF_succ lt_k]; exact r39), (by rw [s39]; exact hs)⟩) (by first | omega | (simp only; omega)) (by repeat (first | exact trivial | refine ⟨rfl, ?_⟩)) wok_sub
    · have eq_k : k = ops.length := by have h9 := of_decide_eq_false h2; omega
      rw [eq_k, List.take_length] at hr
      rw [eq_k, List.take_length]
      have hel2 : (esF ops).length ≤ 100 := by have h9 := esF_len ops ops.length; rw [List.take_length] at h9; omega
      refine g_exit ?_
      refine g_then_x (g_then_x (g_blk_hit ?_))
      refine g_then ?_
      refine g_seq ?_
      refine g_region ?_
      refine s_q (q_move rfl) rfl ?_
      refine g_op (g_ownS [Res.blk b23 29 [Value.slice A0 ((esF ops).map En.e).length c0, Value.slice A1 ((esF ops).map En.i).length c1], Res.row A0 ((esF ops).map En.e).length c0 3 1 (((esF ops).map En.e).map (fun v : Int => [Value.int .i64 v])), Res.row A1 ((esF ops).map En.i).length c1 3 1 (((esF ops).map En.i).map (fun v : Int => [Value.int .i64 v]))] rfl (fun w1 hw1 ho1 => by have h7 := rall_any b23 A0 c0 A1 c1 (esF ops) w1 ho1 (by first | omega | (simp; omega)); exact h7) rfl ?_)
      rintro ⟨E43, ec43, I43, ic43, l43⟩ ⟨sr43, er43, lr43⟩
      refine ⟨_, _, inferInstance, inferInstance, ?_⟩
      simp only at sr43 er43 lr43
      refine s_q (q_move rfl) rfl ?_
      refine s_q (q_extract rfl rfl) rfl ?_
      refine s_q (q_extract rfl rfl) rfl ?_
      refine s_q (q_assign rfl) rfl ?_
      refine s_q (q_assign rfl) rfl ?_
      refine g_val 10 (v' := .slice E43 (l43.map En.e).length ec43) rfl rfl ?_
      refine g_val 11 (v' := .slice I43 (l43.map En.i).length ic43) rfl rfl ?_
      have hle43 : (l43.map En.e).length = l43.length := by simp
      have hli43 : (l43.map En.i).length = l43.length := by simp
      refine g_nil ?_
      refine g_then ?_
      refine g_seq ?_
      refine g_seq ?_
      refine g_region ?_
      refine s_q (q_move rfl) rfl ?_
      refine g_nil ?_
      refine g_then ?_
      refine g_block ?_
      refine g_loopk [4, 6, 10, 11] (fun (x : Nat) => [(46, .int .i64 ((x : Nat) : Int))]) (fun (x : Nat) => [Res.blk b21 57 [Value.slice (BR.A g1) (BR.bs g1).length (BR.cap g1), Value.int .i64 (BR.n g1)], Res.row (BR.A g1) (BR.bs g1).length (BR.cap g1) 47 1 ((BR.bs g1).map (fun k : Bk En => [k.v])), bks 50 2 En.c (BR.bs g1), Res.blk b23 29 [Value.slice A0 ((esF ops).map En.e).length c0, Value.slice A1 ((esF ops).map En.i).length c1], Res.row A0 ((esF ops).map En.e).length c0 3 1 (((esF ops).map En.e).map (fun v : Int => [Value.int .i64 v])), Res.row A1 ((esF ops).map En.i).length c1 3 1 (((esF ops).map En.i).map (fun v : Int => [Value.int .i64 v])), Res.row E43 (l43.map En.e).length ec43 3 1 ((l43.map En.e).map (fun v : Int => [Value.int .i64 v])), Res.row I43 (l43.map En.i).length ic43 3 1 ((l43.map En.i).map (fun v : Int => [Value.int .i64 v]))]) (fun (x : Nat) => x ≤ 2 ∧ True) (fun (x : Nat) => 2 - x) 0 (by (try dsimp only); exact ⟨Nat.zero_le _, trivial⟩) rfl (by repeat (first | exact trivial | refine ⟨rfl, ?_⟩)) wok_sub ?_
      rintro z9 ⟨le_z9, htr⟩
      replace le_z9 : z9 ≤ 2 := le_z9
      replace htr : True := htr
      refine g_seq ?_
      refine g_region ?_
      refine s_q (q_lss rfl rfl) rfl ?_
      refine g_nil ?_
      refine g_then ?_
      refine g_seq ?_
      refine g_cond rfl (fun h3 => ?_) (fun h3 => ?_)
      · have lt_z9 : z9 < 2 := by have h9 := of_decide_eq_true h3; omega
        refine g_skip ?_
        refine g_then ?_
        refine g_seq ?_
        refine g_block ?_
        refine g_seq ?_
        refine g_region ?_
        refine s_q (q_move rfl) rfl ?_
        refine g_op (g_ownS [Res.blk b21 57 [Value.slice (BR.A g1) (BR.bs g1).length (BR.cap g1), Value.int .i64 (BR.n g1)], Res.row (BR.A g1) (BR.bs g1).length (BR.cap g1) 47 1 ((BR.bs g1).map (fun k : Bk En => [k.v])), bks 50 2 En.c (BR.bs g1)] rfl (fun w1 hw1 ho1 => by have h7 := ball_any b21 g1 (esF ops) w1 ho1 hr (by first | omega | (simp; omega)); exact h7) rfl ?_)
        rintro ⟨A49, cap49, l49⟩ ⟨sl49, el49, ll49⟩
        refine ⟨_, _, inferInstance, inferInstance, ?_⟩
        simp only at sl49 el49 ll49
        have hEq : l49 = l43 := Srt.eq sl49 sr43 (el49.trans er43.symm)
        subst l49
        refine g_val 49 (v' := .slice A49 l43.length cap49) rfl rfl ?_
        refine s_q (q_assign rfl) rfl ?_
        refine g_nil ?_
        refine g_then ?_
        refine g_seq ?_
        refine g_seq ?_
        refine g_region ?_
        refine s_q (q_move rfl) rfl ?_
        refine s_q (q_len rfl) rfl ?_
        refine s_q (q_move rfl) rfl ?_
        refine s_q (q_len rfl) rfl ?_
        refine s_q (q_neq rfl rfl) rfl ?_
        refine g_litb 54 (b := false) rfl (by simp) ?_
        refine g_nil ?_
        refine g_then ?_
        refine g_false rfl ?_
        refine g_skip ?_
        refine g_then ?_
        refine g_seq ?_
        refine g_seq ?_
        refine g_region ?_
        refine s_q (q_move rfl) rfl ?_
        refine s_q (q_len rfl) rfl ?_
        refine s_q (q_move rfl) rfl ?_
        refine g_nil ?_
        refine g_then ?_
        refine g_block ?_
        refine g_loopk [4, 6, 10, 11, 12, 46, 55, 56] (fun (x : Nat) => [(57, .int .i64 ((x : Nat) : Int))]) (fun (x : Nat) => [Res.row A49 l43.length cap49 50 2 (l43.map En.c), Res.blk b21 57 [Value.slice (BR.A g1) (BR.bs g1).length (BR.cap g1), Value.int .i64 (BR.n g1)], Res.row (BR.A g1) (BR.bs g1).length (BR.cap g1) 47 1 ((BR.bs g1).map (fun k : Bk En => [k.v])), bks 50 2 En.c (BR.bs g1), Res.blk b23 29 [Value.slice A0 ((esF ops).map En.e).length c0, Value.slice A1 ((esF ops).map En.i).length c1], Res.row A0 ((esF ops).map En.e).length c0 3 1 (((esF ops).map En.e).map (fun v : Int => [Value.int .i64 v])), Res.row A1 ((esF ops).map En.i).length c1 3 1 (((esF ops).map En.i).map (fun v : Int => [Value.int .i64 v])), Res.row E43 (l43.map En.e).length ec43 3 1 ((l43.map En.e).map (fun v : Int => [Value.int .i64 v])), Res.row I43 (l43.map En.i).length ic43 3 1 ((l43.map En.i).map (fun v : Int => [Value.int .i64 v]))]) (fun (x : Nat) => x ≤ l43.length ∧ True) (fun (x : Nat) => l43.length - x) 0 (by (try dsimp only); exact ⟨Nat.zero_le _, trivial⟩) rfl (by repeat (first | exact trivial | refine ⟨rfl, ?_⟩)) wok_sub ?_
        rintro j ⟨le_j, htr2⟩
        replace le_j : j ≤ l43.length := le_j
        replace htr2 : True := htr2
        refine g_seq ?_
        refine g_region ?_
        refine s_q (q_lss rfl rfl) rfl ?_
        refine g_nil ?_
        refine g_then ?_
        refine g_seq ?_
        refine g_cond rfl (fun h4 => ?_) (fun h4 => ?_)
        · have lt_j : j < l43.length := by have h9 := of_decide_eq_true h4; omega
          refine g_skip ?_
          refine g_then ?_
          refine g_seq ?_
          refine g_block ?_
          refine g_seq ?_
          refine g_region ?_
          refine s_q (q_move rfl) rfl ?_
          refine s_q (q_index (i := j) rfl rfl rfl (InRow.rdb (A := A49) (els := (l43).map En.c) (by first | rfl | assumption | (simp; done) | (simp_all; done) | (simp; omega) | (simp_all; omega)) (map_cat (c := En.c) (fun _ => rfl) _)) (by first | exact lt_j | omega)) rfl ?_
          refine s_q (q_load_ew (i := j) rfl (InRow.rdb (A := A49) (els := (l43).map En.c) (by first | rfl | assumption | (simp; done) | (simp_all; done) | (simp; omega) | (simp_all; omega)) (map_cat (c := En.c) (fun _ => rfl) _)) (map_get (by first | assumption | omega | (simp_all; done) | (simp_all; omega))) rfl) rfl ?_
          refine g_op (g_alloc rfl fun b14 => ?_)
          refine s_q (q_assign rfl) rfl ?_
          refine g_op (g_storew rfl rfl rfl rfl rfl ?_)
          refine g_nil ?_
          refine g_then ?_
          refine g_seq ?_
          refine d_region [] mixed rfl rfl ?_
          refine d_q 0 rfl (by kernel_rfl) (q_loadw rfl rfl) wok_sub rfl (ls' := #[true, false, false, false, false, false, false, false, false, false, false]) rfl ?_
          refine d_q 1 rfl (by kernel_rfl) (q_move rfl) wok_sub rfl (ls' := #[true, true, false, false, false, false, false, false, false, false, false]) rfl ?_
          refine d_q 2 rfl (by kernel_rfl) (q_move rfl) wok_sub rfl (ls' := #[true, true, true, false, false, false, false, false, false, false, false]) rfl ?_
          refine d_q 3 rfl (by kernel_rfl) (q_index (i := j) rfl rfl rfl (InRow.rdb (A := E43) (els := ((l43.map En.e)).map (fun v : Int => [Value.int .i64 v])) (by first | rfl | assumption | (simp; done) | (simp_all; done) | (simp; omega) | (simp_all; omega)) (map_cat (c := (fun v : Int => [Value.int .i64 v])) (fun _ => rfl) _)) (by first | exact lt_j | omega)) wok_sub rfl (ls' := #[true, true, true, true, false, false, false, false, false, false, false]) rfl ?_
          refine d_q 4 rfl (by kernel_rfl) (q_load_el (i := j) (o := 0) rfl (InRow.rdb (A := E43) (els := ((l43.map En.e)).map (fun v : Int => [Value.int .i64 v])) (by first | rfl | assumption | (simp; done) | (simp_all; done) | (simp; omega) | (simp_all; omega)) (map_cat (c := (fun v : Int => [Value.int .i64 v])) (fun _ => rfl) _)) (en_get_e (by first | assumption | omega)) rfl rfl) wok_sub rfl (ls' := #[true, true, true, true, true, false, false, false, false, false, false]) rfl ?_
          refine d_q 5 rfl (by kernel_rfl) (q_move rfl) wok_sub rfl (ls' := #[true, true, true, true, true, true, false, false, false, false, false]) rfl ?_
          refine d_q 6 rfl (by kernel_rfl) (q_move rfl) wok_sub rfl (ls' := #[true, true, true, true, true, true, true, false, false, false, false]) rfl ?_
          refine d_q 7 rfl (by kernel_rfl) (q_index (i := j) rfl rfl rfl (InRow.rdb (A := I43) (els := ((l43.map En.i)).map (fun v : Int => [Value.int .i64 v])) (by first | rfl | assumption | (simp; done) | (simp_all; done) | (simp; omega) | (simp_all; omega)) (map_cat (c := (fun v : Int => [Value.int .i64 v])) (fun _ => rfl) _)) (by first | exact lt_j | omega)) wok_sub rfl (ls' := #[true, true, true, true, true, true, true, true, false, false, false]) rfl ?_
          refine d_q 8 rfl (by kernel_rfl) (q_load_el (i := j) (o := 0) rfl (InRow.rdb (A := I43) (els := ((l43.map En.i)).map (fun v : Int => [Value.int .i64 v])) (by first | rfl | assumption | (simp; done) | (simp_all; done) | (simp; omega) | (simp_all; omega)) (map_cat (c := (fun v : Int => [Value.int .i64 v])) (fun _ => rfl) _)) (en_get_i (by first | assumption | omega)) rfl rfl) wok_sub rfl (ls' := #[true, true, true, true, true, true, true, true, true, false, false]) rfl ?_
          refine d_q 9 rfl (by kernel_rfl) (q_build (c := En.c (l43[j])) rfl rfl) wok_sub rfl (ls' := #[true, true, true, true, true, true, true, true, true, true, false]) rfl ?_
          refine d_q 10 rfl (by kernel_rfl) (q_nes rfl rfl rfl) wok_sub rfl (ls' := #[true, true, true, true, true, true, true, true, true, true, true]) rfl ?_
          refine g_litb 72 (b := false) rfl (by simp) ?_
          refine d_end (by kernel_rfl) (.inr wok_sub) ?_
          refine g_then ?_
          refine g_false rfl ?_
          refine g_skip ?_
          refine g_blk_n ?_
          refine g_then ?_
          refine g_region ?_
          refine s_q (q_inc rfl rfl (by omega)) rfl ?_
          refine s_q (q_move rfl) rfl ?_
          refine g_nil ?_
          exact g_again (j + 1) (by (try dsimp only); exact ⟨(by first | exact lt_j | omega), trivial⟩) (by first | omega | (simp only; omega)) (by repeat (first | exact trivial | refine ⟨rfl, ?_⟩)) wok_sub
        · have eq_j : j = l43.length := by have h9 := of_decide_eq_false h4; omega
          refine g_exit ?_
          refine g_then_x (g_then_x (g_blk_hit ?_))
          refine g_then ?_
          refine g_seq ?_
          refine g_region ?_
          refine s_q (q_move rfl) rfl ?_
          refine s_q (q_len rfl) rfl ?_
          refine s_q (q_move rfl) rfl ?_
          refine g_nil ?_
          refine g_then ?_
          refine g_block ?_
          refine g_loopk [4, 6, 10, 11, 12, 46, 75] (fun (x : Nat × List En) => [(76, .int .i64 ((x.1 : Nat) : Int))]) (fun (x : Nat × List En) => [Res.row A49 l43.length cap49 50 2 ((x.2).map En.c), Res.blk b21 57 [Value.slice (BR.A g1) (BR.bs g1).length (BR.cap g1), Value.int .i64 (BR.n g1)], Res.row (BR.A g1) (BR.bs g1).length (BR.cap g1) 47 1 ((BR.bs g1).map (fun k : Bk En => [k.v])), bks 50 2 En.c (BR.bs g1), Res.blk b23 29 [Value.slice A0 ((esF ops).map En.e).length c0, Value.slice A1 ((esF ops).map En.i).length c1], Res.row A0 ((esF ops).map En.e).length c0 3 1 (((esF ops).map En.e).map (fun v : Int => [Value.int .i64 v])), Res.row A1 ((esF ops).map En.i).length c1 3 1 (((esF ops).map En.i).map (fun v : Int => [Value.int .i64 v])), Res.row E43 (l43.map En.e).length ec43 3 1 ((l43.map En.e).map (fun v : Int => [Value.int .i64 v])), Res.row I43 (l43.map En.i).length ic43 3 1 ((l43.map En.i).map (fun v : Int => [Value.int .i64 v]))]) (fun (x : Nat × List En) => x.1 ≤ l43.length ∧ (x.2).length = l43.length) (fun (x : Nat × List En) => l43.length - x.1) (0, l43) (by (try dsimp only); exact ⟨Nat.zero_le _, rfl⟩) rfl (by repeat (first | exact trivial | refine ⟨rfl, ?_⟩)) wok_sub ?_
          rintro ⟨q, ml⟩ ⟨le_q, hml⟩
          replace le_q : q ≤ l43.length := le_q
          replace hml : (ml).length = l43.length := hml
          refine g_setL (L' := [Res.row A49 l43.length cap49 50 2 ((ml).map En.c), Res.blk b21 57 [Value.slice (BR.A g1) (BR.bs g1).length (BR.cap g1), Value.int .i64 (BR.n g1)], Res.row (BR.A g1) (BR.bs g1).length (BR.cap g1) 47 1 ((BR.bs g1).map (fun k : Bk En => [k.v])), bks 50 2 En.c (BR.bs g1), Res.blk b23 29 [Value.slice A0 ((esF ops).map En.e).length c0, Value.slice A1 ((esF ops).map En.i).length c1], Res.row A0 ((esF ops).map En.e).length c0 3 1 (((esF ops).map En.e).map (fun v : Int => [Value.int .i64 v])), Res.row A1 ((esF ops).map En.i).length c1 3 1 (((esF ops).map En.i).map (fun v : Int => [Value.int .i64 v])), Res.row E43 (l43.map En.e).length ec43 3 1 ((l43.map En.e).map (fun v : Int => [Value.int .i64 v])), Res.row I43 (l43.map En.i).length ic43 3 1 ((l43.map En.i).map (fun v : Int => [Value.int .i64 v]))]) rfl ?_
          refine g_val 76 (v' := .int .i64 ((q : Nat) : Int)) rfl rfl ?_
          refine g_seq ?_
          refine g_region ?_
          refine s_q (q_lss rfl rfl) rfl ?_
          refine g_nil ?_
          refine g_then ?_
          refine g_seq ?_
          refine g_cond rfl (fun h5 => ?_) (fun h5 => ?_)
          · have lt_q : q < l43.length := by have h9 := of_decide_eq_true h5; omega
            refine g_skip ?_
            refine g_then ?_
            refine g_seq ?_
            refine g_block ?_
            refine g_seq ?_
            refine g_region ?_
            refine s_q (q_move rfl) rfl ?_
            refine s_q (q_assign rfl) rfl ?_
            refine g_nil ?_
            refine g_then ?_
            refine g_region ?_
            refine s_q (q_move rfl) rfl ?_
            refine s_q (q_move rfl) rfl ?_
            refine s_q (q_index (i := q) rfl rfl rfl (InRow.rdb (A := A49) (els := (ml).map En.c) (by first | rfl | assumption | (simp; done) | (simp_all; done) | (simp; omega) | (simp_all; omega)) (map_cat (c := En.c) (fun _ => rfl) _)) (by first | exact lt_q | omega)) rfl ?_
            refine s_q (q_field rfl) rfl ?_
            refine s_q (q_load_el (i := q) (o := 0) rfl (InRow.rdb (A := A49) (els := (ml).map En.c) (by first | rfl | assumption | (simp; done) | (simp_all; done) | (simp; omega) | (simp_all; omega)) (map_cat (c := En.c) (fun _ => rfl) _)) (map_get (by first | assumption | omega | (simp_all; done) | (simp_all; omega))) rfl rfl) rfl ?_
            refine s_q (q_add rfl rfl) rfl ?_
            refine s_q (q_index (i := q) rfl rfl rfl (InRow.rdb (A := A49) (els := (ml).map En.c) (by first | rfl | assumption | (simp; done) | (simp_all; done) | (simp; omega) | (simp_all; omega)) (map_cat (c := En.c) (fun _ => rfl) _)) (by first | exact lt_q | omega)) rfl ?_
            refine s_q (q_field rfl) rfl ?_
            refine g_op (g_store_el (A := A49) (i := q) (o := 0) (cs' := En.c ((En.mk (IntKind.i64.wrap ((ml[q]).e + 1)) (ml[q]).i))) rfl rfl rfl rfl rfl (map_get (by first | assumption | omega | (simp_all; done) | (simp_all; omega))) (by first | (simp; done) | exact Nat.le_refl _) rfl rfl ?_)
            refine g_rowels (A := A49) ((ml.set q (En.mk (IntKind.i64.wrap ((ml[q]).e + 1)) (ml[q]).i)).map En.c) (by simp only [List.map_set]) ?_
            refine g_nil ?_
            refine g_blk_n ?_
            refine g_then ?_
            refine g_region ?_
            refine s_q (q_inc rfl rfl (by omega)) rfl ?_
            refine s_q (q_move rfl) rfl ?_
            refine g_nil ?_
            exact g_again ((q + 1), (ml.set q (En.mk (IntKind.i64.wrap ((ml[q]).e + 1)) (ml[q]).i))) (by (try dsimp only); exact ⟨(by first | exact lt_q | omega), (by simpa using hml)⟩) (by first | omega | (simp only; omega)) (by repeat (first | exact trivial | refine ⟨rfl, ?_⟩)) wok_sub
          · have eq_q : q = l43.length := by have h9 := of_decide_eq_false h5; omega
            refine g_exit ?_
            refine g_then_x (g_then_x (g_blk_hit ?_))
            refine g_blk_n ?_
            refine g_then ?_
            refine g_region ?_
            refine s_q (q_inc rfl rfl (by omega)) rfl ?_
            refine s_q (q_move rfl) rfl ?_
            refine g_nil ?_
            exact g_again (z9 + 1) (by (try dsimp only); exact ⟨(by first | exact lt_z9 | omega), trivial⟩) (by first | omega | (simp only; omega)) (by repeat (first | exact trivial | refine ⟨rfl, ?_⟩)) wok_sub
      · have eq_z9 : z9 = 2 := by have h9 := of_decide_eq_false h3; omega
        refine g_exit ?_
        refine g_then_x (g_then_x (g_blk_hit ?_))
        refine g_then ?_
        refine g_seq ?_
        refine g_region ?_
        refine g_op (g_pure rfl (fun w1 hw1 => alive_any w1) rfl ?_)
        refine s_q (q_assign rfl) rfl ?_
        refine g_nil ?_
        refine g_then ?_
        refine g_ret ?_
        exact fin1 rfl (.tmp rfl) (fun w' hw' => ⟨by first | rfl | (simp_all; done) | (simp_all; omega), hw'.upd⟩) _ (.inl rfl)

theorem main_bucketOrder (v0 : Value) (v1 : Value) (W : World) (a0 : Arg Try.prog W 5 v0) (a1 : Arg Try.prog W 22 v1) : Pur Try.prog 6 [v0, v1] W (.bool true) := by
  obtain ⟨z0, rfl, hz0⟩ := Arg.int Try.underlying5 a0
  obtain ⟨len, rfl⟩ : ∃ q : Nat, z0 = q := ⟨z0.toNat, by have h0 : 0 ≤ z0 ∧ z0 ≤ 255 := hz0; omega⟩
  have h_len : len < 256 := by have h0 : 0 ≤ ((len : Nat) : Int) ∧ ((len : Nat) : Int) ≤ 255 := hz0; omega
  obtain ⟨A_ops, c_ops, ops, rfl, hle1, hm1, o_ops, k_ops⟩ := Arg.slice Op.c (fun x : Op => x.ok) Try.underlying22 (show Try.prog.cellsOf 31 = 3 by kernel_rfl) (by omega) (openOp) a1
  have h_ops : ops.length ≤ c_ops ∧ c_ops ≤ 9223372036854775807 := ⟨hle1, by unfold maxLen at hm1; omega⟩
  exact law_bucketOrder len A_ops c_ops ops W h_len o_ops h_ops k_ops

namespace LawBucketOrder
open Go.ChangeShapes Go.WideShapes Go.ChangeAt Go.RowKit Go.Eg
set_option linter.unusedVariables false
theorem own : ownKnob Try.prog.godebug = none := by kernel_rfl
theorem laidOut : laidOutB Try.prog = true := by kernel_rfl
set_option maxRecDepth 100000 in
theorem lifted (os : Os) (started : os.Started) (H : Type) (enc : TypeId × Value → H) :
    ReturnsInHanded {} Try.checked os 6 .any (Rows.bucketOrderSpec.pre6 enc Try.prog Try.f6 Rows.bucketOrderRow.domain false) (Rows.bucketOrderSpec.post enc Try.prog Try.f6 false true false false) := by
  refine returnsInHanded_of_change (C := Try.checked) own started (by kernel_rfl) Try.func6
    (ChangeSpec.witness6 (enc := enc) (C := Try.checked) false ⟨#[], #[.int .u8 0, .slice none 0 0], []⟩ 8 (by kernel_rfl) (by kernel_rfl) (by kernel_rfl) (by kernel_rfl)) ?_
  intro W base args ds gs before hval0 hW hcnd _
  have hval : ∀ (j : Nat) t v, Try.f6.params[j]? = some t → args[j]? = some v → Value.okWide Try.prog W .any base t v := hval0
  have hW' := hW
  obtain ⟨p, q, hA0, hV, rfl, hfz, hnd⟩ := hW
  have hA : DataW.TrodAll enc Try.prog W 0 (fun _ => true) true Try.f6.params.toList args.toList ds p := hA0
  rw [Try.params6] at hA hval
  obtain ⟨v0, vs0, d0, ds0, p0, q0, hargs, rfl, rfl, h0, r0⟩ := trodAll_cons hA
  obtain ⟨v1, vs1, d1, ds1, p1, q1, rfl, rfl, rfl, h1, r1⟩ := trodAll_cons r0
  obtain ⟨rfl, rfl, rfl⟩ := trodAll_nil r1
  obtain rfl : args = #[v0, v1] := by cases args; simp_all
  obtain ⟨rfl, rfl⟩ := trodVars_none hV
  have a0 := Arg.of h0 (hval 0 5 v0 rfl rfl)
  have lt0 : ∀ x ∈ p0, x.block < W.heap.size := by obtain ⟨m, hm⟩ := h0; exact DataW.trod_lt m _ _ _ hm
  have a1 := Arg.of h1 (hval 1 22 v1 rfl rfl)
  have lt1 : ∀ x ∈ p1, x.block < W.heap.size := by obtain ⟨m, hm⟩ := h1; exact DataW.trod_lt m _ _ _ hm
  clear hA0 hval0
  simp only [List.append_nil] at hW'
  refine Calls.mono (main_bucketOrder v0 v1 W a0 a1) ?_
  rintro e W' ⟨v, rfl, rfl, hu⟩
  have bel := hu.below
  have targ := (trodAll_cons_mk (Below.trod laidOut (by kernel_rfl) (of_decide_eq_true (by kernel_rfl)) h0 bel lt0) (trodAll_cons_mk (Below.trod laidOut (by kernel_rfl) (of_decide_eq_true (by kernel_rfl)) h1 bel lt1) trodAll_mk0))
  simp only [List.append_nil] at targ
  exact ⟨_, rfl, _, _, _, [], _, [], hW', trodAll_mk1 (shut_bool Try.underlying4 _), targ, rfl, bel.frame _, fun h => by cases h⟩
theorem over : Rows.bucketOrderRow.holds Try.pinned (OpenSpec.ofChange Rows.bucketOrderSpec) :=
  OpenClaim.holds_of_wide 6 Try.f6 rfl rfl rfl rfl rfl rfl rfl ⟨rfl, rfl, rfl, rfl, rfl⟩ rfl rfl rfl rfl rfl (by kernel_rfl) Try.func6 (by kernel_rfl)
    (of_decide_eq_true (by kernel_rfl)) (by unfold Func.isWrapper; first | (rw [if_pos (by decide +kernel)]; kernel_rfl) | (rw [if_neg (by decide +kernel)]; exact ⟨rfl, rfl⟩))
    (fun os started H enc _ => lifted os started H enc)
theorem proved : Rows.BucketOrderSaid := over
end LawBucketOrder
end Go.Proofs.Ytgbghjnlicldnaa
