/- walks of the reference ring -/
import Derived.Test.YtjhamghjnilgfaaW2
namespace Go.Proofs.Ytjhamghjnilgfaa
open Go.RowKit Go.Eg
set_option linter.unusedSimpArgs false
set_option linter.unusedVariables false
set_option maxHeartbeats 400000 in
theorem rpush_any (wb : Nat) (A : Option Addr) (cap : Nat) (l : List Int) (sz : Nat) (els : List Int) (B : Option Addr) (bc : Nat) (w : World) (hw : WOK (fps [Res.blk wb 53 [Value.slice A (l).length cap, Value.int .i64 ((sz : Nat) : Int)], Res.ro A (l).length 1 ((l).map (fun v : Int => [Value.int .i64 v]))]) w [Res.blk wb 53 [Value.slice A (l).length cap, Value.int .i64 ((sz : Nat) : Int)], Res.ro A (l).length 1 ((l).map (fun v : Int => [Value.int .i64 v]))] w) (hl : l.length ≤ cap) (hsz : sz ≤ 1048576) (hls : l.length ≤ sz) (hrd : Rd w [Res.blk wb 53 [Value.slice A (l).length cap, Value.int .i64 ((sz : Nat) : Int)], Res.ro A (l).length 1 ((l).map (fun v : Int => [Value.int .i64 v]))] B els.length 1 (els.map (fun v : Int => [Value.int .i64 v]))) : Own2 (ι := (Option Addr × Nat)) Try.prog 35 [.pointer (some ⟨wb, 0, none⟩), .slice B els.length bc] w [Res.blk wb 53 [Value.slice A (l).length cap, Value.int .i64 ((sz : Nat) : Int)], Res.ro A (l).length 1 ((l).map (fun v : Int => [Value.int .i64 v]))] (fun x => (l ++ els.take (min els.length (sz - l.length))).length ≤ x.2) (fun x => .int .i64 ((min els.length (sz - l.length)) : Nat)) (fun x => []) (fun x => [Res.blk wb 53 [Value.slice x.1 ((l ++ els.take (min els.length (sz - l.length)))).length x.2, Value.int .i64 ((sz : Nat) : Int)], Res.ro x.1 ((l ++ els.take (min els.length (sz - l.length)))).length 1 (((l ++ els.take (min els.length (sz - l.length)))).map (fun v : Int => [Value.int .i64 v]))]) := by
  refine g_start Try.func35 rfl 43 rfl (by simp) (fps [Res.blk wb 53 [Value.slice A (l).length cap, Value.int .i64 ((sz : Nat) : Int)], Res.ro A (l).length 1 ((l).map (fun v : Int => [Value.int .i64 v]))]) [Res.blk wb 53 [Value.slice A (l).length cap, Value.int .i64 ((sz : Nat) : Int)], Res.ro A (l).length 1 ((l).map (fun v : Int => [Value.int .i64 v]))] hw _ rfl ?_
  refine g_seq ?_
  refine g_region ?_
  refine s_q (q_assign rfl) rfl ?_
  refine g_nil ?_
  refine g_then ?_
  refine g_seq ?_
  refine g_region ?_
  refine s_q (q_assign rfl) rfl ?_
  refine g_nil ?_
  refine g_then ?_
  refine g_seq ?_
  refine g_seq ?_
  refine g_region ?_
  refine s_q (q_assign rfl) rfl ?_
  refine g_nil ?_
  refine g_then ?_
  refine g_block ?_
  refine g_blkc (b := wb) [Value.slice A (l ++ els.take 0).length cap, Value.int .i64 ((sz : Nat) : Int)] (by simp) ?_
  refine g_roEq (A := A) (l ++ els.take 0).length ((l ++ els.take 0).map (fun v : Int => [Value.int .i64 v])) (by simp) (by simp) ?_
  refine g_loopk [0, 1, 4] (fun (x : Nat × Option Addr × Nat) => [(5, .int .i64 ((x.1 : Nat) : Int)), (6, .int .i64 ((x.1 : Nat) : Int))]) (fun (x : Nat × Option Addr × Nat) => [Res.blk wb 53 [Value.slice x.2.1 ((l ++ els.take x.1)).length x.2.2, Value.int .i64 ((sz : Nat) : Int)], Res.ro x.2.1 ((l ++ els.take x.1)).length 1 (((l ++ els.take x.1)).map (fun v : Int => [Value.int .i64 v]))]) (fun (x : Nat × Option Addr × Nat) => x.1 ≤ (min els.length (sz - l.length)) ∧ (l ++ els.take x.1).length ≤ x.2.2) (fun (x : Nat × Option Addr × Nat) => (min els.length (sz - l.length)) - x.1) (0, A, cap) (by (try dsimp only); exact ⟨(by omega), (by simpa using hl)⟩) rfl (by repeat (first | exact trivial | refine ⟨rfl, ?_⟩)) wok_sub ?_
  rintro ⟨k, A1, c1⟩ ⟨hk, hc⟩
  replace hk : k ≤ (min els.length (sz - l.length)) := hk
  replace hc : (l ++ els.take k).length ≤ c1 := hc
  refine g_setL (L' := [Res.blk wb 53 [Value.slice A1 ((l ++ els.take k)).length c1, Value.int .i64 ((sz : Nat) : Int)], Res.ro A1 ((l ++ els.take k)).length 1 (((l ++ els.take k)).map (fun v : Int => [Value.int .i64 v]))]) rfl ?_
  refine g_val 5 (v' := .int .i64 ((k : Nat) : Int)) rfl rfl ?_
  refine g_val 6 (v' := .int .i64 ((k : Nat) : Int)) rfl rfl ?_
  refine g_seq ?_
  refine g_seq ?_
  refine d_region [] mixed rfl rfl ?_
  refine d_q 0 rfl (by kernel_rfl) (q_move rfl) wok_sub rfl (ls' := #[true, false, false, false, false, false, false, false, false, false, false, false, false, false, false, false]) rfl ?_
  refine d_q 1 rfl (by kernel_rfl) (q_move rfl) wok_sub rfl (ls' := #[true, true, false, false, false, false, false, false, false, false, false, false, false, false, false, false]) rfl ?_
  refine d_q 2 rfl (by kernel_rfl) (q_len rfl) wok_sub rfl (ls' := #[true, true, true, false, false, false, false, false, false, false, false, false, false, false, false, false]) rfl ?_
  refine d_q 3 rfl (by kernel_rfl) (q_lss rfl rfl) wok_sub rfl (ls' := #[true, true, true, true, false, false, false, false, false, false, false, false, false, false, false, false]) rfl ?_
  refine d_q 4 rfl (by kernel_rfl) (q_move rfl) wok_sub rfl (ls' := #[true, true, true, true, true, false, false, false, false, false, false, false, false, false, false, false]) rfl ?_
  refine g_split 11 rfl (fun h1 => ?_) (fun h1 => ?_)
  · have lt1 : k < els.length := by simp at h1; omega
    refine d_qg 5 rfl (by kernel_rfl) (q_move rfl) rfl rfl wok_sub rfl (ls' := #[true, true, true, true, true, true, false, false, false, false, false, false, false, false, false, false]) rfl ?_
    refine d_qg 6 rfl (by kernel_rfl) (q_nilck rfl) rfl rfl wok_sub rfl (ls' := #[true, true, true, true, true, true, true, false, false, false, false, false, false, false, false, false]) rfl ?_
    refine d_qg 7 rfl (by kernel_rfl) (q_field rfl) rfl rfl wok_sub rfl (ls' := #[true, true, true, true, true, true, true, true, false, false, false, false, false, false, false, false]) rfl ?_
    refine d_qg 8 rfl (by kernel_rfl) (q_load rfl rfl) rfl rfl wok_sub rfl (ls' := #[true, true, true, true, true, true, true, true, true, false, false, false, false, false, false, false]) rfl ?_
    refine d_qg 9 rfl (by kernel_rfl) (q_len rfl) rfl rfl wok_sub rfl (ls' := #[true, true, true, true, true, true, true, true, true, true, false, false, false, false, false, false]) rfl ?_
    refine d_qg 10 rfl (by kernel_rfl) (q_move rfl) rfl rfl wok_sub rfl (ls' := #[true, true, true, true, true, true, true, true, true, true, true, false, false, false, false, false]) rfl ?_
    refine d_qg 11 rfl (by kernel_rfl) (q_nilck rfl) rfl rfl wok_sub rfl (ls' := #[true, true, true, true, true, true, true, true, true, true, true, true, false, false, false, false]) rfl ?_
    refine d_qg 12 rfl (by kernel_rfl) (q_field rfl) rfl rfl wok_sub rfl (ls' := #[true, true, true, true, true, true, true, true, true, true, true, true, true, false, false, false]) rfl ?_
    refine d_qg 13 rfl (by kernel_rfl) (q_load rfl rfl) rfl rfl wok_sub rfl (ls' := #[true, true, true, true, true, true, true, true, true, true, true, true, true, true, false, false]) rfl ?_
    refine d_qg 14 rfl (by kernel_rfl) (q_lss rfl rfl) rfl rfl wok_sub rfl (ls' := #[true, true, true, true, true, true, true, true, true, true, true, true, true, true, true, false]) rfl ?_
    refine d_q 15 rfl (by kernel_rfl) (q_pick_t rfl rfl) wok_sub rfl (ls' := #[true, true, true, true, true, true, true, true, true, true, true, true, true, true, true, true]) rfl ?_
    refine d_end (by kernel_rfl) (.inr wok_sub) ?_
    refine g_then ?_
    refine g_cond rfl (fun h2 => ?_) (fun h2 => ?_)
    · have lt2 : k < sz - l.length := by simp at h2; omega
      refine g_skip ?_
      refine g_then ?_
      refine g_seq ?_
      refine g_block ?_
      refine g_seq ?_
      refine d_region [13, 14, 15] mixed rfl rfl ?_
      refine d_q 0 rfl (by kernel_rfl) (q_move rfl) wok_sub rfl (ls' := #[true, false, false, false, false, false, false, false, false, false, false, false, false, false, false, false]) rfl ?_
      refine d_q 2 rfl (by kernel_rfl) (q_move rfl) wok_sub rfl (ls' := #[true, false, true, false, false, false, false, false, false, false, false, false, false, false, false, false]) rfl ?_
      refine d_q 3 rfl (by kernel_rfl) (q_nilck rfl) wok_sub rfl (ls' := #[true, false, true, true, false, false, false, false, false, false, false, false, false, false, false, false]) rfl ?_
      refine d_q 4 rfl (by kernel_rfl) (q_field rfl) wok_sub rfl (ls' := #[true, false, true, true, true, false, false, false, false, false, false, false, false, false, false, false]) rfl ?_
      refine d_q 5 rfl (by kernel_rfl) (q_load rfl rfl) wok_sub rfl (ls' := #[true, false, true, true, true, true, false, false, false, false, false, false, false, false, false, false]) rfl ?_
      refine d_q 7 rfl (by kernel_rfl) (q_move rfl) wok_sub rfl (ls' := #[true, false, true, true, true, true, false, true, false, false, false, false, false, false, false, false]) rfl ?_
      refine d_q 8 rfl (by kernel_rfl) (q_move rfl) wok_sub rfl (ls' := #[true, false, true, true, true, true, false, true, true, false, false, false, false, false, false, false]) rfl ?_
      refine d_q 9 rfl (by kernel_rfl) (q_index (i := k) rfl rfl rfl hrd.rdb (by omega)) wok_sub rfl (ls' := #[true, false, true, true, true, true, false, true, true, true, false, false, false, false, false, false]) rfl ?_
      refine d_q 10 rfl (by kernel_rfl) (q_load_el (i := k) (o := 0) rfl hrd.rdb (map_get lt1) rfl rfl) wok_sub rfl (ls' := #[true, false, true, true, true, true, false, true, true, true, true, false, false, false, false, false]) rfl ?_
      refine d_many [1, 11] (by kernel_rfl) (by simp) wok_sub ⟨d_pick rfl (ls' := #[true, true, true, true, true, true, false, true, true, true, true, false, false, false, false, false]) rfl (g_lit rfl rfl rfl rfl rfl fun b26 => ?_), d_pick rfl (ls' := #[true, false, true, true, true, true, false, true, true, true, true, true, false, false, false, false]) rfl (g_lit rfl rfl rfl rfl rfl fun b36 => ?_), trivial⟩
      · refine g_norow (t := 26) (T := 3) (k := 1) rfl fun A26 cap26 hc26 => ?_
        refine g_rowels (A := A26) (([] : List Int).map (fun v : Int => [Value.int .i64 v])) rfl ?_
        refine d_many [6, 11] (by kernel_rfl) (by simp) wok_sub ⟨d_pick rfl (ls' := #[true, true, true, true, true, true, true, true, true, true, true, false, false, false, false, false]) rfl (g_append (A := A26) (els := (([] : List Int)).map (fun v : Int => [Value.int .i64 v])) (news := (((l ++ els.take k)).map (fun v : Int => [Value.int .i64 v]))) rfl rfl (Rdb.ro (A := A1) (els := ((l ++ els.take k)).map (fun v : Int => [Value.int .i64 v])) (by first | rfl | (simp; done)) (map_cat (c := (fun v : Int => [Value.int .i64 v])) (fun _ => rfl) _)) (map_one (c := (fun v : Int => [Value.int .i64 v])) (by intro x; simp [Value.oneCell']) _) (by first | omega | (simp; omega) | (simp_all; omega)) rfl fun A31 cap31 => ⟨_, inferInstance, ?_⟩), d_pick rfl (ls' := #[true, true, true, true, true, true, false, true, true, true, true, true, false, false, false, false]) rfl (g_lit rfl rfl rfl rfl rfl fun b36 => ?_), trivial⟩
        · refine g_rowels (A := A31) (((l ++ els.take k)).map (fun v : Int => [Value.int .i64 v])) (by first | rfl | exact List.map_append.symm | (simp; done)) ?_
          refine g_rown (A := A31) (((l ++ els.take k)).length) (by simp) ?_
          refine g_val 31 (v' := .slice A31 (((l ++ els.take k)).length) cap31) rfl (by simp) ?_
          refine d_op 11 rfl (by kernel_rfl) (ls' := #[true, true, true, true, true, true, true, true, true, true, true, true, false, false, false, false]) rfl wok_sub (g_lit rfl rfl rfl rfl rfl fun b36 => ?_)
          refine g_blkc (b := b36) ((([els[k]] : List Int).map (fun v : Int => [Value.int .i64 v])).flatten) rfl ?_
          refine d_op 12 rfl (by kernel_rfl) (ls' := #[true, true, true, true, true, true, true, true, true, true, true, true, true, false, false, false]) rfl wok_sub (g_append (A := A31) (els := ((l ++ els.take k)).map (fun v : Int => [Value.int .i64 v])) (news := (([els[k]] : List Int).map (fun v : Int => [Value.int .i64 v]))) rfl rfl (InL.rdb (b := b36) rfl (by simp) rfl) (map_one (c := (fun v : Int => [Value.int .i64 v])) (by intro x; simp [Value.oneCell']) _) (by first | omega | (simp; omega) | (simp_all; omega)) rfl fun A37 cap37 => ⟨_, inferInstance, ?_⟩)
          refine g_rowels (A := A37) ((((l ++ els.take k) ++ [els[k]])).map (fun v : Int => [Value.int .i64 v])) (by first | rfl | exact List.map_append.symm | (simp; done)) ?_
          refine g_rowfact A37 fun h37 _ _ => ?_
          refine d_op 13 rfl (by kernel_rfl) (ls' := #[true, true, true, true, true, true, true, true, true, true, true, true, true, true, false, false]) rfl wok_sub (G.quiet (q_nilck rfl) rfl ?_)
          refine d_tail 14 rfl (by kernel_rfl) (ls' := #[true, true, true, true, true, true, true, true, true, true, true, true, true, true, true, false]) rfl rfl (G.quiet (q_field rfl) rfl ?_)
          refine d_tail 15 rfl (by kernel_rfl) (ls' := #[true, true, true, true, true, true, true, true, true, true, true, true, true, true, true, true]) rfl rfl (g_store rfl rfl rfl rfl rfl rfl rfl ?_)
          refine g_blkc (b := wb) [Value.slice A37 (l ++ els.take (k + 1)).length cap37, Value.int .i64 ((sz : Nat) : Int)] (by simp [splice]; omega) ?_
          refine g_toRo (A := A37) (l ++ els.take (k + 1)).length ((l ++ els.take (k + 1)).map (fun v : Int => [Value.int .i64 v])) (by simp; omega) (by rw [← app_take_succ lt1, List.map_append]; rfl) ?_
          refine d_end (by kernel_rfl) (.inl rfl) ?_
          refine g_then ?_
          refine g_region ?_
          refine s_q (q_move rfl) rfl ?_
          refine s_q (q_inc rfl rfl (by omega)) rfl ?_
          refine s_q (q_assign rfl) rfl ?_
          refine g_nil ?_
          refine g_blk_n ?_
          refine g_then ?_
          refine g_region ?_
          refine s_q (q_move rfl) rfl ?_
          refine s_q (q_inc rfl rfl (by omega)) rfl ?_
          refine s_q (q_assign rfl) rfl ?_
          refine g_nil ?_
          exact g_again ((k + 1), A37, cap37) (by (try dsimp only); exact ⟨(by omega), (by simp at h37 ⊢; omega)⟩) (by first | omega | (simp only; omega)) (by repeat (first | exact trivial | refine ⟨rfl, ?_⟩)) wok_sub
        · refine g_blkc (b := b36) ((([els[k]] : List Int).map (fun v : Int => [Value.int .i64 v])).flatten) rfl ?_
          refine d_op 6 rfl (by kernel_rfl) (ls' := #[true, true, true, true, true, true, true, true, true, true, true, true, false, false, false, false]) rfl wok_sub (g_append (A := A26) (els := (([] : List Int)).map (fun v : Int => [Value.int .i64 v])) (news := (((l ++ els.take k)).map (fun v : Int => [Value.int .i64 v]))) rfl rfl (Rdb.ro (A := A1) (els := ((l ++ els.take k)).map (fun v : Int => [Value.int .i64 v])) (by first | rfl | (simp; done)) (map_cat (c := (fun v : Int => [Value.int .i64 v])) (fun _ => rfl) _)) (map_one (c := (fun v : Int => [Value.int .i64 v])) (by intro x; simp [Value.oneCell']) _) (by first | omega | (simp; omega) | (simp_all; omega)) rfl fun A31 cap31 => ⟨_, inferInstance, ?_⟩)
          refine g_rowels (A := A31) (((l ++ els.take k)).map (fun v : Int => [Value.int .i64 v])) (by first | rfl | exact List.map_append.symm | (simp; done)) ?_
          refine g_rown (A := A31) (((l ++ els.take k)).length) (by simp) ?_
          refine g_val 31 (v' := .slice A31 (((l ++ els.take k)).length) cap31) rfl (by simp) ?_
          refine d_op 12 rfl (by kernel_rfl) (ls' := #[true, true, true, true, true, true, true, true, true, true, true, true, true, false, false, false]) rfl wok_sub (g_append (A := A31) (els := ((l ++ els.take k)).map (fun v : Int => [Value.int .i64 v])) (news := (([els[k]] : List Int).map (fun v : Int => [Value.int .i64 v]))) rfl rfl (InL.rdb (b := b36) rfl (by simp) rfl) (map_one (c := (fun v : Int => [Value.int .i64 v])) (by intro x; simp [Value.oneCell']) _) (by first | omega | (simp; omega) | (simp_all; omega)) rfl fun A37 cap37 => ⟨_, inferInstance, ?_⟩)
          refine g_rowels (A := A37) ((((l ++ els.take k) ++ [els[k]])).map (fun v : Int => [Value.int .i64 v])) (by first | rfl | exact List.map_append.symm | (simp; done)) ?_
          refine g_rowfact A37 fun h37 _ _ => ?_
          refine d_op 13 rfl (by kernel_rfl) (ls' := #[true, true, true, true, true, true, true, true, true, true, true, true, true, true, false, false]) rfl wok_sub (G.quiet (q_nilck rfl) rfl ?_)
          refine d_tail 14 rfl (by kernel_rfl) (ls' := #[true, true, true, true, true, true, true, true, true, true, true, true, true, true, true, false]) rfl rfl (G.quiet (q_field rfl) rfl ?_)
          refine d_tail 15 rfl (by kernel_rfl) (ls' := #[true, true, true, true, true, true, true, true, true, true, true, true, true, true, true, true]) rfl rfl (g_store rfl rfl rfl rfl rfl rfl rfl ?_)
          refine g_blkc (b := wb) [Value.slice A37 (l ++ els.take (k + 1)).length cap37, Value.int .i64 ((sz : Nat) : Int)] (by simp [splice]; omega) ?_
          refine g_toRo (A := A37) (l ++ els.take (k + 1)).length ((l ++ els.take (k + 1)).map (fun v : Int => [Value.int .i64 v])) (by simp; omega) (by rw [← app_take_succ lt1, List.map_append]; rfl) ?_
          refine d_end (by kernel_rfl) (.inl rfl) ?_
          refine g_then ?_
          refine g_region ?_
          refine s_q (q_move rfl) rfl ?_
          refine s_q (q_inc rfl rfl (by omega)) rfl ?_
          refine s_q (q_assign rfl) rfl ?_
          refine g_nil ?_
          refine g_blk_n ?_
          refine g_then ?_
          refine g_region ?_
          refine s_q (q_move rfl) rfl ?_
          refine s_q (q_inc rfl rfl (by omega)) rfl ?_
          refine s_q (q_assign rfl) rfl ?_
          refine g_nil ?_
          exact g_again ((k + 1), A37, cap37) (by (try dsimp only); exact ⟨(by omega), (by simp at h37 ⊢; omega)⟩) (by first | omega | (simp only; omega)) (by repeat (first | exact trivial | refine ⟨rfl, ?_⟩)) wok_sub
      · refine g_blkc (b := b36) ((([els[k]] : List Int).map (fun v : Int => [Value.int .i64 v])).flatten) rfl ?_
        refine d_op 1 rfl (by kernel_rfl) (ls' := #[true, true, true, true, true, true, false, true, true, true, true, true, false, false, false, false]) rfl wok_sub (g_lit rfl rfl rfl rfl rfl fun b26 => ?_)
        refine g_norow (t := 26) (T := 3) (k := 1) rfl fun A26 cap26 hc26 => ?_
        refine g_rowels (A := A26) (([] : List Int).map (fun v : Int => [Value.int .i64 v])) rfl ?_
        refine d_op 6 rfl (by kernel_rfl) (ls' := #[true, true, true, true, true, true, true, true, true, true, true, true, false, false, false, false]) rfl wok_sub (g_append (A := A26) (els := (([] : List Int)).map (fun v : Int => [Value.int .i64 v])) (news := (((l ++ els.take k)).map (fun v : Int => [Value.int .i64 v]))) rfl rfl (Rdb.ro (A := A1) (els := ((l ++ els.take k)).map (fun v : Int => [Value.int .i64 v])) (by first | rfl | (simp; done)) (map_cat (c := (fun v : Int => [Value.int .i64 v])) (fun _ => rfl) _)) (map_one (c := (fun v : Int => [Value.int .i64 v])) (by intro x; simp [Value.oneCell']) _) (by first | omega | (simp; omega) | (simp_all; omega)) rfl fun A31 cap31 => ⟨_, inferInstance, ?_⟩)
        refine g_rowels (A := A31) (((l ++ els.take k)).map (fun v : Int => [Value.int .i64 v])) (by first | rfl | exact List.map_append.symm | (simp; done)) ?_
        refine g_rown (A := A31) (((l ++ els.take k)).length) (by simp) ?_
        refine g_val 31 (v' := .slice A31 (((l ++ els.take k)).length) cap31) rfl (by simp) ?_
        refine d_op 12 rfl (by kernel_rfl) (ls' := #[true, true, true, true, true, true, true, true, true, true, true, true, true, false, false, false]) rfl wok_sub (g_append (A := A31) (els := ((l ++ els.take k)).map (fun v : Int => [Value.int .i64 v])) (news := (([els[k]] : List Int).map (fun v : Int => [Value.int .i64 v]))) rfl rfl (InL.rdb (b := b36) rfl (by simp) rfl) (map_one (c := (fun v : Int => [Value.int .i64 v])) (by intro x; simp [Value.oneCell']) _) (by first | omega | (simp; omega) | (simp_all; omega)) rfl fun A37 cap37 => ⟨_, inferInstance, ?_⟩)
        refine g_rowels (A := A37) ((((l ++ els.take k) ++ [els[k]])).map (fun v : Int => [Value.int .i64 v])) (by first | rfl | exact List.map_append.symm | (simp; done)) ?_
        refine g_rowfact A37 fun h37 _ _ => ?_
        refine d_op 13 rfl (by kernel_rfl) (ls' := #[true, true, true, true, true, true, true, true, true, true, true, true, true, true, false, false]) rfl wok_sub (G.quiet (q_nilck rfl) rfl ?_)
        refine d_tail 14 rfl (by kernel_rfl) (ls' := #[true, true, true, true, true, true, true, true, true, true, true, true, true, true, true, false]) rfl rfl (G.quiet (q_field rfl) rfl ?_)
        refine d_tail 15 rfl (by kernel_rfl) (ls' := #[true, true, true, true, true, true, true, true, true, true, true, true, true, true, true, true]) rfl rfl (g_store rfl rfl rfl rfl rfl rfl rfl ?_)
        refine g_blkc (b := wb) [Value.slice A37 (l ++ els.take (k + 1)).length cap37, Value.int .i64 ((sz : Nat) : Int)] (by simp [splice]; omega) ?_
        refine g_toRo (A := A37) (l ++ els.take (k + 1)).length ((l ++ els.take (k + 1)).map (fun v : Int => [Value.int .i64 v])) (by simp; omega) (by rw [← app_take_succ lt1, List.map_append]; rfl) ?_
        refine d_end (by kernel_rfl) (.inl rfl) ?_
        refine g_then ?_
        refine g_region ?_
        refine s_q (q_move rfl) rfl ?_
        refine s_q (q_inc rfl rfl (by omega)) rfl ?_
        refine s_q (q_assign rfl) rfl ?_
        refine g_nil ?_
        refine g_blk_n ?_
        refine g_then ?_
        refine g_region ?_
        refine s_q (q_move rfl) rfl ?_
        refine s_q (q_inc rfl rfl (by omega)) rfl ?_
        refine s_q (q_assign rfl) rfl ?_
        refine g_nil ?_
        exact g_again ((k + 1), A37, cap37) (by (try dsimp only); exact ⟨(by omega), (by simp at h37 ⊢; omega)⟩) (by first | omega | (simp only; omega)) (by repeat (first | exact trivial | refine ⟨rfl, ?_⟩)) wok_sub
    · have lt2 : k = min els.length (sz - l.length) := by simp at h2; omega
      subst lt2
      refine g_exit ?_
      refine g_then_x (g_then_x (g_blk_hit ?_))
      refine g_then ?_
      refine g_seq ?_
      refine g_region ?_
      refine s_q (q_move rfl) rfl ?_
      refine s_q (q_assign rfl) rfl ?_
      refine g_nil ?_
      refine g_then ?_
      refine g_ret ?_
      exact fin1 rfl (.tmp rfl) (fun w' hw' => ⟨(A1, c1), (by first | exact hc | (dsimp only; exact hc)), by first | rfl | (simp_all; done), by have h9 := wok_sub (L' := [Res.blk wb 53 [Value.slice ((A1, c1)).1 ((l ++ els.take (min els.length (sz - l.length)))).length ((A1, c1)).2, Value.int .i64 ((sz : Nat) : Int)], Res.ro ((A1, c1)).1 ((l ++ els.take (min els.length (sz - l.length)))).length 1 (((l ++ els.take (min els.length (sz - l.length)))).map (fun v : Int => [Value.int .i64 v]))]) w' hw'; exact h9⟩) _ (.inl rfl)
  · have lt2 : k = min els.length (sz - l.length) := by simp at h1; omega
    subst lt2
    refine d_gf 5 rfl (by kernel_rfl) rfl rfl rfl wok_sub rfl (ls' := #[true, true, true, true, true, true, false, false, false, false, false, false, false, false, false, false]) rfl ?_
    refine d_gf 6 rfl (by kernel_rfl) rfl rfl rfl wok_sub rfl (ls' := #[true, true, true, true, true, true, true, false, false, false, false, false, false, false, false, false]) rfl ?_
    refine d_gf 7 rfl (by kernel_rfl) rfl rfl rfl wok_sub rfl (ls' := #[true, true, true, true, true, true, true, true, false, false, false, false, false, false, false, false]) rfl ?_
    refine d_gf 8 rfl (by kernel_rfl) rfl rfl rfl wok_sub rfl (ls' := #[true, true, true, true, true, true, true, true, true, false, false, false, false, false, false, false]) rfl ?_
    refine d_gf 9 rfl (by kernel_rfl) rfl rfl rfl wok_sub rfl (ls' := #[true, true, true, true, true, true, true, true, true, true, false, false, false, false, false, false]) rfl ?_
    refine d_gf 10 rfl (by kernel_rfl) rfl rfl rfl wok_sub rfl (ls' := #[true, true, true, true, true, true, true, true, true, true, true, false, false, false, false, false]) rfl ?_
    refine d_gf 11 rfl (by kernel_rfl) rfl rfl rfl wok_sub rfl (ls' := #[true, true, true, true, true, true, true, true, true, true, true, true, false, false, false, false]) rfl ?_
    refine d_gf 12 rfl (by kernel_rfl) rfl rfl rfl wok_sub rfl (ls' := #[true, true, true, true, true, true, true, true, true, true, true, true, true, false, false, false]) rfl ?_
    refine d_gf 13 rfl (by kernel_rfl) rfl rfl rfl wok_sub rfl (ls' := #[true, true, true, true, true, true, true, true, true, true, true, true, true, true, false, false]) rfl ?_
    refine d_gf 14 rfl (by kernel_rfl) rfl rfl rfl wok_sub rfl (ls' := #[true, true, true, true, true, true, true, true, true, true, true, true, true, true, true, false]) rfl ?_
    refine d_q 15 rfl (by kernel_rfl) (q_pick_f rfl rfl) wok_sub rfl (ls' := #[true, true, true, true, true, true, true, true, true, true, true, true, true, true, true, true]) rfl ?_
    refine d_end (by kernel_rfl) (.inr wok_sub) ?_
    refine g_then ?_
    refine g_false rfl ?_
    refine g_exit ?_
    refine g_then_x (g_then_x (g_blk_hit ?_))
    refine g_then ?_
    refine g_seq ?_
    refine g_region ?_
    refine s_q (q_move rfl) rfl ?_
    refine s_q (q_assign rfl) rfl ?_
    refine g_nil ?_
    refine g_then ?_
    refine g_ret ?_
    exact fin1 rfl (.tmp rfl) (fun w' hw' => ⟨(A1, c1), (by first | exact hc | (dsimp only; exact hc)), by first | rfl | (simp_all; done), by have h9 := wok_sub (L' := [Res.blk wb 53 [Value.slice ((A1, c1)).1 ((l ++ els.take (min els.length (sz - l.length)))).length ((A1, c1)).2, Value.int .i64 ((sz : Nat) : Int)], Res.ro ((A1, c1)).1 ((l ++ els.take (min els.length (sz - l.length)))).length 1 (((l ++ els.take (min els.length (sz - l.length)))).map (fun v : Int => [Value.int .i64 v]))]) w' hw'; exact h9⟩) _ (.inl rfl)

set_option maxHeartbeats 400000 in
theorem rpop_any (wb : Nat) (A : Option Addr) (cap : Nat) (l : List Int) (sz : Nat) (w : World) (hw : WOK (fps [Res.blk wb 53 [Value.slice A (l).length cap, Value.int .i64 ((sz : Nat) : Int)], Res.ro A (l).length 1 ((l).map (fun v : Int => [Value.int .i64 v]))]) w [Res.blk wb 53 [Value.slice A (l).length cap, Value.int .i64 ((sz : Nat) : Int)], Res.ro A (l).length 1 ((l).map (fun v : Int => [Value.int .i64 v]))] w)  (hl : l.length ≤ cap) (hsz : sz ≤ 1048576) : Own2 (ι := (Option Addr × Nat)) Try.prog 36 [.pointer (some ⟨wb, 0, none⟩)] w [Res.blk wb 53 [Value.slice A (l).length cap, Value.int .i64 ((sz : Nat) : Int)], Res.ro A (l).length 1 ((l).map (fun v : Int => [Value.int .i64 v]))] (fun x => l.tail.length ≤ x.2) (fun x => .tuple [.int .i64 (l.head?.getD 0), .bool l.head?.isSome].toArray) (fun x => []) (fun x => [Res.blk wb 53 [Value.slice x.1 (l.tail).length x.2, Value.int .i64 ((sz : Nat) : Int)], Res.ro x.1 (l.tail).length 1 ((l.tail).map (fun v : Int => [Value.int .i64 v]))]) := by
  refine g_start Try.func36 rfl 26 rfl (by simp) (fps [Res.blk wb 53 [Value.slice A (l).length cap, Value.int .i64 ((sz : Nat) : Int)], Res.ro A (l).length 1 ((l).map (fun v : Int => [Value.int .i64 v]))]) [Res.blk wb 53 [Value.slice A (l).length cap, Value.int .i64 ((sz : Nat) : Int)], Res.ro A (l).length 1 ((l).map (fun v : Int => [Value.int .i64 v]))] hw _ rfl ?_
  refine g_seq ?_
  refine g_region ?_
  refine s_q (q_assign rfl) rfl ?_
  refine s_q (q_assign rfl) rfl ?_
  refine g_nil ?_
  refine g_then ?_
  refine g_seq ?_
  refine g_seq ?_
  refine g_region ?_
  refine s_q (q_move rfl) rfl ?_
  refine s_q (q_nilck rfl) rfl ?_
  refine s_q (q_field rfl) rfl ?_
  refine s_q (q_load rfl rfl) rfl ?_
  refine s_q (q_len rfl) rfl ?_
  refine s_q (q_eql rfl rfl) rfl ?_
  refine g_nil ?_
  refine g_then ?_
  refine g_cond rfl (fun h1 => ?_) (fun h1 => ?_)
  · have hnil : l = [] := List.eq_nil_of_length_eq_zero (by simp at h1; simp [h1])
    refine g_seq ?_
    refine g_region ?_
    refine s_q (q_assign rfl) rfl ?_
    refine s_q (q_assign rfl) rfl ?_
    refine g_nil ?_
    refine g_then ?_
    refine g_ret ?_
    refine g_then_ret ?_
    refine g_blkc (b := wb) [Value.slice A (l.tail).length cap, Value.int .i64 ((sz : Nat) : Int)] (by simp [hnil]) ?_
    refine g_roEq (A := A) (l.tail).length ((l.tail).map (fun v : Int => [Value.int .i64 v])) (by simp [hnil]) (by simp [hnil]) ?_
    exact fin2 rfl (.tmp rfl) (.tmp rfl) (fun w' hw' => ⟨(A, cap), (by first | (simp [hnil]) | (dsimp only; (simp [hnil]))), by simp [hnil], by have h9 := wok_sub (L' := [Res.blk wb 53 [Value.slice ((A, cap)).1 (l.tail).length ((A, cap)).2, Value.int .i64 ((sz : Nat) : Int)], Res.ro ((A, cap)).1 (l.tail).length 1 ((l.tail).map (fun v : Int => [Value.int .i64 v]))]) w' hw'; exact h9⟩) _ (.inl rfl)
  · have hpos : 0 < l.length := by simp at h1; cases l <;> simp_all
    refine g_skip ?_
    refine g_then ?_
    refine g_seq ?_
    refine g_region ?_
    refine s_q (q_move rfl) rfl ?_
    refine s_q (q_nilck rfl) rfl ?_
    refine s_q (q_field rfl) rfl ?_
    refine s_q (q_load rfl rfl) rfl ?_
    refine s_q (q_index (i := 0) rfl rfl rfl (Rdb.ro (A := A) (els := (l).map (fun v : Int => [Value.int .i64 v])) (by first | rfl | (simp; done)) (map_cat (c := (fun v : Int => [Value.int .i64 v])) (fun _ => rfl) _)) (by omega)) rfl ?_
    refine s_q (q_load_el (i := 0) (o := 0) rfl (Rdb.ro (A := A) (els := (l).map (fun v : Int => [Value.int .i64 v])) (by first | rfl | (simp; done)) (map_cat (c := (fun v : Int => [Value.int .i64 v])) (fun _ => rfl) _)) (map_get (by first | exact (by omega) | omega)) rfl rfl) rfl ?_
    refine s_q (q_assign rfl) rfl ?_
    refine g_val 4 (v' := .int .i64 (l.head?.getD 0)) rfl (by cases l with | nil => simp at hpos | cons a r => rfl) ?_
    refine g_nil ?_
    refine g_then ?_
    refine g_seq ?_
    refine g_region ?_
    refine s_q (q_move rfl) rfl ?_
    refine s_q (q_move rfl) rfl ?_
    refine s_q (q_nilck rfl) rfl ?_
    refine s_q (q_field rfl) rfl ?_
    refine s_q (q_load rfl rfl) rfl ?_
    refine s_q (q_slice_l (l := 1) rfl rfl rfl (by omega)) rfl ?_
    refine s_q (q_nilck rfl) rfl ?_
    refine s_q (q_field rfl) rfl ?_
    refine g_op (g_store rfl rfl rfl rfl rfl rfl rfl ?_)
    refine g_blkc (b := wb) [Value.slice (subA A cap 1 1) (l.tail).length (cap - 1), Value.int .i64 ((sz : Nat) : Int)] (by simp [splice]) ?_
    refine g_roSub (A := A) cap 1 l.length (l.tail).length ((l.tail).map (fun v : Int => [Value.int .i64 v])) (by omega) (Nat.le_refl _) hl (by simp) (by rw [List.take_of_length_le (by simp)]; simp) ?_
    refine g_nil ?_
    refine g_then ?_
    refine g_seq ?_
    refine g_region ?_
    refine s_q (q_move rfl) rfl ?_
    refine s_q (q_assign rfl) rfl ?_
    refine s_q (q_assign rfl) rfl ?_
    refine g_nil ?_
    refine g_then ?_
    refine g_ret ?_
    exact fin2 rfl (.tmp rfl) (.tmp rfl) (fun w' hw' => ⟨(subA A cap 1 1, cap - 1), (by first | (simp; omega) | (dsimp only; (simp; omega))), by cases l with | nil => simp at hpos | cons a r => rfl, by have h9 := wok_sub (L' := [Res.blk wb 53 [Value.slice ((subA A cap 1 1, cap - 1)).1 (l.tail).length ((subA A cap 1 1, cap - 1)).2, Value.int .i64 ((sz : Nat) : Int)], Res.ro ((subA A cap 1 1, cap - 1)).1 (l.tail).length 1 ((l.tail).map (fun v : Int => [Value.int .i64 v]))]) w' hw'; exact h9⟩) _ (.inl rfl)

set_option maxHeartbeats 400000 in
theorem rpeek_any (wb : Nat) (A : Option Addr) (cap : Nat) (l : List Int) (sz : Nat) (i : Int) (w : World) (hw : WOK (fps [Res.blk wb 53 [Value.slice A (l).length cap, Value.int .i64 ((sz : Nat) : Int)], Res.ro A (l).length 1 ((l).map (fun v : Int => [Value.int .i64 v]))]) w [Res.blk wb 53 [Value.slice A (l).length cap, Value.int .i64 ((sz : Nat) : Int)], Res.ro A (l).length 1 ((l).map (fun v : Int => [Value.int .i64 v]))] w)  (hl : l.length ≤ cap) (hsz : sz ≤ 1048576) : Keep Try.prog 27 [.pointer (some ⟨wb, 0, none⟩), .int .i64 i] w [Res.blk wb 53 [Value.slice A (l).length cap, Value.int .i64 ((sz : Nat) : Int)], Res.ro A (l).length 1 ((l).map (fun v : Int => [Value.int .i64 v]))] (.tuple [.int .i64 ((pk l i).getD 0), .bool (pk l i).isSome].toArray) := by
  refine g_start Try.func27 rfl 24 rfl (by simp) (fps [Res.blk wb 53 [Value.slice A (l).length cap, Value.int .i64 ((sz : Nat) : Int)], Res.ro A (l).length 1 ((l).map (fun v : Int => [Value.int .i64 v]))]) [Res.blk wb 53 [Value.slice A (l).length cap, Value.int .i64 ((sz : Nat) : Int)], Res.ro A (l).length 1 ((l).map (fun v : Int => [Value.int .i64 v]))] hw _ rfl ?_
  refine g_seq ?_
  refine g_region ?_
  refine s_q (q_assign rfl) rfl ?_
  refine s_q (q_assign rfl) rfl ?_
  refine g_nil ?_
  refine g_then ?_
  refine g_seq ?_
  refine g_seq ?_
  refine g_region ?_
  refine s_q (q_move rfl) rfl ?_
  refine s_q (q_lss rfl rfl) rfl ?_
  refine s_q (q_move rfl) rfl ?_
  refine g_split 8 rfl (fun h1 => ?_) (fun h1 => ?_)
  · refine g_gf rfl rfl rfl rfl ?_
    refine g_gf rfl rfl rfl rfl ?_
    refine g_gf rfl rfl rfl rfl ?_
    refine g_gf rfl rfl rfl rfl ?_
    refine g_gf rfl rfl rfl rfl ?_
    refine g_gf rfl rfl rfl rfl ?_
    refine g_gf rfl rfl rfl rfl ?_
    refine s_q (q_pick_t rfl rfl) rfl ?_
    refine g_nil ?_
    refine g_then ?_
    refine g_true rfl ?_
    refine g_seq ?_
    refine g_region ?_
    refine s_q (q_assign rfl) rfl ?_
    refine s_q (q_assign rfl) rfl ?_
    refine g_nil ?_
    refine g_then ?_
    refine g_ret ?_
    refine g_then_ret ?_
    exact fin2 rfl (.tmp rfl) (.tmp rfl) (fun w' hw' => ⟨(), trivial, by have e : pk l i = none := (by unfold pk; rw [if_neg (by simp at h1; omega)]); rw [e]; rfl, by have h9 := wok_sub (L' := [Res.blk wb 53 [Value.slice A (l).length cap, Value.int .i64 ((sz : Nat) : Int)], Res.ro A (l).length 1 ((l).map (fun v : Int => [Value.int .i64 v]))]) w' hw'; exact h9⟩) _ (.inl rfl)
  · refine s_qg (q_move rfl) rfl rfl rfl ?_
    refine s_qg (q_move rfl) rfl rfl rfl ?_
    refine s_qg (q_nilck rfl) rfl rfl rfl ?_
    refine s_qg (q_field rfl) rfl rfl rfl ?_
    refine s_qg (q_load rfl rfl) rfl rfl rfl ?_
    refine s_qg (q_len rfl) rfl rfl rfl ?_
    refine s_qg (q_geq rfl rfl) rfl rfl rfl ?_
    refine s_q (q_pick_f rfl rfl) rfl ?_
    refine g_nil ?_
    refine g_then ?_
    refine g_cond rfl (fun h2 => ?_) (fun h2 => ?_)
    · refine g_seq ?_
      refine g_region ?_
      refine s_q (q_assign rfl) rfl ?_
      refine s_q (q_assign rfl) rfl ?_
      refine g_nil ?_
      refine g_then ?_
      refine g_ret ?_
      refine g_then_ret ?_
      exact fin2 rfl (.tmp rfl) (.tmp rfl) (fun w' hw' => ⟨(), trivial, by have e : pk l i = none := (by unfold pk; rw [if_pos (by simp at h1; omega), List.getElem?_eq_none (by simp at h1 h2; omega)]); rw [e]; rfl, by have h9 := wok_sub (L' := [Res.blk wb 53 [Value.slice A (l).length cap, Value.int .i64 ((sz : Nat) : Int)], Res.ro A (l).length 1 ((l).map (fun v : Int => [Value.int .i64 v]))]) w' hw'; exact h9⟩) _ (.inl rfl)
    · obtain ⟨i, rfl⟩ : ∃ i' : Nat, i = i' := ⟨i.toNat, by simp at h1; omega⟩
      have hi : i < l.length := by simp at h2; omega
      refine g_skip ?_
      refine g_then ?_
      refine g_seq ?_
      refine g_region ?_
      refine s_q (q_move rfl) rfl ?_
      refine s_q (q_nilck rfl) rfl ?_
      refine s_q (q_field rfl) rfl ?_
      refine s_q (q_load rfl rfl) rfl ?_
      refine s_q (q_move rfl) rfl ?_
      refine s_q (q_index (i := i) rfl rfl rfl (Rdb.ro (A := A) (els := (l).map (fun v : Int => [Value.int .i64 v])) (by first | rfl | (simp; done)) (map_cat (c := (fun v : Int => [Value.int .i64 v])) (fun _ => rfl) _)) hi) rfl ?_
      refine s_q (q_load_el (i := i) (o := 0) rfl (Rdb.ro (A := A) (els := (l).map (fun v : Int => [Value.int .i64 v])) (by first | rfl | (simp; done)) (map_cat (c := (fun v : Int => [Value.int .i64 v])) (fun _ => rfl) _)) (map_get hi) rfl rfl) rfl ?_
      refine s_q (q_assign rfl) rfl ?_
      refine s_q (q_assign rfl) rfl ?_
      refine g_nil ?_
      refine g_then ?_
      refine g_ret ?_
      exact fin2 rfl (.tmp rfl) (.tmp rfl) (fun w' hw' => ⟨(), trivial, by rw [pk_nat, List.getElem?_eq_getElem hi]; rfl, by have h9 := wok_sub (L' := [Res.blk wb 53 [Value.slice A (l).length cap, Value.int .i64 ((sz : Nat) : Int)], Res.ro A (l).length 1 ((l).map (fun v : Int => [Value.int .i64 v]))]) w' hw'; exact h9⟩) _ (.inl rfl)

structure O where
  kd : Int
  B : Option Addr
  bc : Nat
  l : List Int
def O.c (x : O) : List Value := [.int .i64 x.kd, .slice x.B x.l.length x.bc]
def O.ok (w : World) (x : O) : Prop := Old w x.B x.l.length 1 (x.l.map (fun v : Int => [Value.int .i64 v])) ∧ x.l.length ≤ x.bc
theorem openO {w : World} (f : Nat) (cs : List Value) (h : OKc Try.prog w f 55 cs) : ∃ x : O, cs = x.c ∧ x.ok w := by
  obtain ⟨f, hl, h⟩ := OKc.struct Try.underlying55 h
  have hT : Try.prog.cellsOf 55 = 2 := by kernel_rfl
  have hc3 : Try.prog.cellsOf 3 = 1 := by kernel_rfl
  have hc22 : Try.prog.cellsOf 22 = 1 := by kernel_rfl
  rw [hT] at hl
  obtain ⟨c0, c1, rfl⟩ : ∃ c0 c1 : Value, cs = [c0, c1] := by
    match cs, hl with
    | [c0, c1], _ => exact ⟨_, _, rfl⟩
  simp only [List.mem_cons, List.not_mem_nil, or_false, forall_eq_or_imp, forall_eq, hc3, hc22, List.drop_zero, List.drop_succ_cons, List.take_succ_cons, List.take_zero] at h
  obtain ⟨h0, h1⟩ := h
  obtain ⟨x0, e0, r0⟩ := OKc.int Try.underlying3 h0
  obtain ⟨B, bc, l, e1, hle, hm, hold, _⟩ := OKc.slice (fun v : Int => [Value.int .i64 v]) (fun _ => True) Try.underlying22 (show Try.prog.cellsOf 3 = 1 by kernel_rfl) (by omega) (fun f cs h => by obtain ⟨x, hx, _⟩ := OKc.int Try.underlying3 h; exact ⟨x, hx, trivial⟩) h1
  obtain rfl : c0 = _ := by simpa using e0
  obtain rfl : c1 = _ := by simpa using e1
  exact ⟨⟨x0, B, bc, l⟩, rfl, hold, hle⟩

set_option maxHeartbeats 400000 in
theorem few_any (A : Option Addr) (cap : Nat) (l : List O) (w : World) (hold : Old w A l.length 2 (l.map O.c)) (hn : l.length ≤ cap ∧ cap ≤ 9223372036854775807) : Own2 (ι := Bool) Try.prog 25 [.slice A l.length cap] w [] (fun x => True) (fun x => .bool x) (fun x => []) (fun x => []) := by
  refine g_start Try.func25 rfl 19 rfl (by simp) (fps []) [] (WOK.start _ _) _ rfl ?_
  refine g_seq ?_
  refine g_region ?_
  refine s_q (q_assign rfl) rfl ?_
  refine g_nil ?_
  refine g_then ?_
  refine g_seq ?_
  refine g_seq ?_
  refine g_region ?_
  refine s_q (q_move rfl) rfl ?_
  refine s_q (q_len rfl) rfl ?_
  refine s_q (q_gtr rfl rfl) rfl ?_
  refine g_nil ?_
  refine g_then ?_
  refine g_cond rfl (fun h1 => ?_) (fun h1 => ?_)
  · refine g_seq ?_
    refine g_region ?_
    refine s_q (q_assign rfl) rfl ?_
    refine g_nil ?_
    refine g_then ?_
    refine g_ret ?_
    refine g_then_ret ?_
    exact fin1 rfl (.tmp rfl) (fun w' hw' => ⟨false, (by first | exact trivial | (dsimp only; exact trivial)), by first | rfl | (simp_all; done), by have h9 := wok_sub (L' := []) w' hw'; exact h9⟩) _ (.inl rfl)
  · refine g_skip ?_
    refine g_then ?_
    refine g_seq ?_
    refine g_seq ?_
    refine g_region ?_
    refine s_q (q_move rfl) rfl ?_
    refine s_q (q_len rfl) rfl ?_
    refine s_q (q_move rfl) rfl ?_
    refine g_nil ?_
    refine g_then ?_
    refine g_block ?_
    refine g_loopk [2, 8, 9] (fun (x : Nat) => [(10, .int .i64 ((x : Nat) : Int))]) (fun (x : Nat) => []) (fun (x : Nat) => x ≤ l.length) (fun (x : Nat) => l.length - x) 0 (by (try dsimp only); exact Nat.zero_le _) rfl (by repeat (first | exact trivial | refine ⟨rfl, ?_⟩)) wok_sub ?_
    rintro k le_k
    replace le_k : k ≤ l.length := le_k
    refine g_seq ?_
    refine g_region ?_
    refine s_q (q_lss rfl rfl) rfl ?_
    refine g_nil ?_
    refine g_then ?_
    refine g_seq ?_
    refine g_cond rfl (fun h2 => ?_) (fun h2 => ?_)
    · have lt_k : k < l.length := by have h9 := of_decide_eq_true h2; omega
      refine g_skip ?_
      refine g_then ?_
      refine g_seq ?_
      refine g_block ?_
      refine g_seq ?_
      refine g_region ?_
      refine s_q (q_index (i := k) rfl rfl rfl (hold.rdb rfl) (by first | exact lt_k | omega)) rfl ?_
      refine s_q (q_load_ew (i := k) rfl (hold.rdb rfl) (map_get (c := O.c) (by omega)) rfl) rfl ?_
      refine g_op (g_alloc rfl fun b4 => ?_)
      refine g_op (g_storew rfl rfl rfl rfl rfl ?_)
      refine g_nil ?_
      refine g_then ?_
      refine g_seq ?_
      refine g_region ?_
      refine s_q (q_field rfl) rfl ?_
      refine s_q (q_load rfl rfl) rfl ?_
      refine s_q (q_len rfl) rfl ?_
      refine s_q (q_gtr rfl rfl) rfl ?_
      refine g_nil ?_
      refine g_then ?_
      refine g_cond rfl (fun h3 => ?_) (fun h3 => ?_)
      · refine g_seq ?_
        refine g_region ?_
        refine s_q (q_assign rfl) rfl ?_
        refine g_nil ?_
        refine g_then ?_
        refine g_ret ?_
        refine g_blk_ret (g_then_ret (g_then_ret (g_blk_ret (g_then_ret ?_))))
        exact fin1 rfl (.tmp rfl) (fun w' hw' => ⟨false, (by first | exact trivial | (dsimp only; exact trivial)), by first | rfl | (simp_all; done), by have h9 := wok_sub (L' := []) w' hw'; exact h9⟩) _ (.inl rfl)
      · refine g_skip ?_
        refine g_blk_n ?_
        refine g_then ?_
        refine g_region ?_
        refine s_q (q_inc rfl rfl (by omega)) rfl ?_
        refine s_q (q_move rfl) rfl ?_
        refine g_nil ?_
        exact g_again (k + 1) (by (try dsimp only); exact (by first | exact lt_k | omega)) (by first | omega | (simp only; omega)) (by repeat (first | exact trivial | refine ⟨rfl, ?_⟩)) wok_sub
    · have eq_k : k = l.length := by have h9 := of_decide_eq_false h2; omega
      refine g_exit ?_
      refine g_then_x (g_then_x (g_blk_hit ?_))
      refine g_then ?_
      refine g_seq ?_
      refine g_region ?_
      refine s_q (q_assign rfl) rfl ?_
      refine g_nil ?_
      refine g_then ?_
      refine g_ret ?_
      exact fin1 rfl (.tmp rfl) (fun w' hw' => ⟨true, (by first | exact trivial | (dsimp only; exact trivial)), by first | rfl | (simp_all; done), by have h9 := wok_sub (L' := []) w' hw'; exact h9⟩) _ (.inl rfl)

set_option maxHeartbeats 400000 in
theorem do_any (b : Nat) (g : Rg) (wb : Nat) (A : Option Addr) (cap : Nat) (l : List Int) (sz : Nat) (kd : Int) (els : List Int) (B : Option Addr) (bc : Nat) (w : World) (hw : WOK (fps [Res.blk b 61 (Rg.c g), Res.row (Rg.A g) (Rg.s g).length (Rg.cap g) 3 1 (Rg.s g), Res.blk wb 53 [Value.slice A (l).length cap, Value.int .i64 ((sz : Nat) : Int)], Res.ro A (l).length 1 ((l).map (fun v : Int => [Value.int .i64 v]))]) w [Res.blk b 61 (Rg.c g), Res.row (Rg.A g) (Rg.s g).length (Rg.cap g) 3 1 (Rg.s g), Res.blk wb 53 [Value.slice A (l).length cap, Value.int .i64 ((sz : Nat) : Int)], Res.ro A (l).length 1 ((l).map (fun v : Int => [Value.int .i64 v]))] w) (h : g.Rep 1 (l.map (fun v : Int => [Value.int .i64 v]))) (hs : Rg.size g = sz) (hl : l.length ≤ cap) (hsz : sz ≤ 1048576) (hrd : Rd w [Res.blk b 61 (Rg.c g), Res.row (Rg.A g) (Rg.s g).length (Rg.cap g) 3 1 (Rg.s g), Res.blk wb 53 [Value.slice A (l).length cap, Value.int .i64 ((sz : Nat) : Int)], Res.ro A (l).length 1 ((l).map (fun v : Int => [Value.int .i64 v]))] B els.length 1 (els.map (fun v : Int => [Value.int .i64 v]))) (hbc : els.length ≤ bc) : Own2 (ι := (Rg × Option Addr × Nat × List Int)) Try.prog 26 [.pointer (some ⟨b, 0, none⟩), .pointer (some ⟨wb, 0, none⟩), .agg [.int .i64 kd, .slice B els.length bc].toArray] w [Res.blk b 61 (Rg.c g), Res.row (Rg.A g) (Rg.s g).length (Rg.cap g) 3 1 (Rg.s g), Res.blk wb 53 [Value.slice A (l).length cap, Value.int .i64 ((sz : Nat) : Int)], Res.ro A (l).length 1 ((l).map (fun v : Int => [Value.int .i64 v]))] (fun x => Rg.Rep x.1 1 (x.2.2.2.map (fun v : Int => [Value.int .i64 v])) ∧ Rg.size x.1 = sz ∧ x.2.2.2.length ≤ x.2.2.1) (fun x => .bool true) (fun x => []) (fun x => [Res.blk b 61 (Rg.c x.1), Res.row (Rg.A x.1) (Rg.s x.1).length (Rg.cap x.1) 3 1 (Rg.s x.1), Res.blk wb 53 [Value.slice x.2.1 (x.2.2.2).length x.2.2.1, Value.int .i64 ((sz : Nat) : Int)], Res.ro x.2.1 (x.2.2.2).length 1 ((x.2.2.2).map (fun v : Int => [Value.int .i64 v]))]) := by
  refine g_start Try.func26 rfl 49 rfl (by simp) (fps [Res.blk b 61 (Rg.c g), Res.row (Rg.A g) (Rg.s g).length (Rg.cap g) 3 1 (Rg.s g), Res.blk wb 53 [Value.slice A (l).length cap, Value.int .i64 ((sz : Nat) : Int)], Res.ro A (l).length 1 ((l).map (fun v : Int => [Value.int .i64 v]))]) [Res.blk b 61 (Rg.c g), Res.row (Rg.A g) (Rg.s g).length (Rg.cap g) 3 1 (Rg.s g), Res.blk wb 53 [Value.slice A (l).length cap, Value.int .i64 ((sz : Nat) : Int)], Res.ro A (l).length 1 ((l).map (fun v : Int => [Value.int .i64 v]))] hw _ rfl ?_
  have q1 := h.sz; have q2 := h.hi; have q3 := h.le; have q4 := h.num; have hls : l.length ≤ sz := by omega
  refine g_seq ?_
  refine g_region ?_
  refine g_op (g_box (c := [Value.int .i64 kd, Value.slice B els.length bc]) rfl rfl rfl fun b5 => ?_)
  refine s_q (q_assign rfl) rfl ?_
  refine g_nil ?_
  refine g_then ?_
  refine g_seq ?_
  refine g_seq ?_
  refine g_region ?_
  refine s_q (q_field rfl) rfl ?_
  refine s_q (q_load rfl rfl) rfl ?_
  refine g_nil ?_
  refine g_then ?_
  refine g_block ?_
  refine g_seq ?_
  refine g_region ?_
  refine s_q (q_eql rfl rfl) rfl ?_
  refine s_q (q_assign rfl) rfl ?_
  refine g_nil ?_
  refine g_then ?_
  refine g_cond rfl (fun h1 => ?_) (fun h1 => ?_)
  · refine g_seq ?_
    refine d_regionL (L0 := [Res.blk b5 55 [Value.int .i64 kd, Value.slice B els.length bc]]) [] mixed rfl rfl wok_sub ?_
    refine d_q 0 rfl (by kernel_rfl) (q_move rfl) wok_sub rfl (ls' := #[true, false, false, false, false, false, false, false, false, false]) rfl ?_
    refine d_q 1 rfl (by kernel_rfl) (q_field rfl) wok_sub rfl (ls' := #[true, true, false, false, false, false, false, false, false, false]) rfl ?_
    refine d_q 2 rfl (by kernel_rfl) (q_load rfl rfl) wok_sub rfl (ls' := #[true, true, true, false, false, false, false, false, false, false]) rfl ?_
    refine d_q 4 rfl (by kernel_rfl) (q_move rfl) wok_sub rfl (ls' := #[true, true, true, false, true, false, false, false, false, false]) rfl ?_
    refine d_q 5 rfl (by kernel_rfl) (q_field rfl) wok_sub rfl (ls' := #[true, true, true, false, true, true, false, false, false, false]) rfl ?_
    refine d_q 6 rfl (by kernel_rfl) (q_load rfl rfl) wok_sub rfl (ls' := #[true, true, true, false, true, true, true, false, false, false]) rfl ?_
    refine d_op 3 rfl (by kernel_rfl) (ls' := #[true, true, true, true, true, true, true, false, false, false]) rfl wok_sub (g_ownS [Res.blk b 61 (Rg.c g), Res.row (Rg.A g) (Rg.s g).length (Rg.cap g) 3 1 (Rg.s g)] rfl (fun w1 hw1 ho1 => by have h7 := push_i b g l els B bc w1 ho1 h (Rd.ofRd hw1 hrd (by omega)) hbc; exact h7) rfl ?_)
    rintro g18 ⟨r18, s18⟩
    refine ⟨_, _, inferInstance, inferInstance, ?_⟩
    have q : min els.length (Rg.size g - l.length) = min els.length (sz - l.length) := by rw [hs]
    rw [q] at r18
    refine d_op 7 rfl (by kernel_rfl) (ls' := #[true, true, true, true, true, true, true, true, false, false]) rfl wok_sub (g_ownS [Res.blk wb 53 [Value.slice A (l).length cap, Value.int .i64 ((sz : Nat) : Int)], Res.ro A (l).length 1 ((l).map (fun v : Int => [Value.int .i64 v]))] rfl (fun w1 hw1 ho1 => by have h7 := rpush_any wb A cap l sz els B bc w1 ho1 hl (by omega) (by omega) (Rd.ofRd hw1 hrd (by omega)); exact h7) rfl ?_)
    rintro ⟨A22, c22⟩ hc22
    refine ⟨_, _, inferInstance, inferInstance, ?_⟩
    refine d_q 8 rfl (by kernel_rfl) (q_eql rfl rfl) wok_sub rfl (ls' := #[true, true, true, true, true, true, true, true, true, false]) rfl ?_
    refine g_litb 23 (b := true) rfl (by simp; omega) ?_
    refine d_q 9 rfl (by kernel_rfl) (q_assign rfl) wok_sub rfl (ls' := #[true, true, true, true, true, true, true, true, true, true]) rfl ?_
    refine d_end (by kernel_rfl) (.inr wok_sub) ?_
    refine g_then ?_
    refine g_ret ?_
    refine g_blk_ret (g_then_ret ?_)
    exact fin1 rfl (.tmp rfl) (fun w' hw' => ⟨(g18, A22, c22, (l ++ els.take (min els.length (sz - l.length)))), (by first | exact ⟨r18, by omega, hc22⟩ | (dsimp only; exact ⟨r18, by omega, hc22⟩)), by first | rfl | (simp_all; done), by have h9 := wok_sub (L' := [Res.blk b 61 (Rg.c ((g18, A22, c22, (l ++ els.take (min els.length (sz - l.length))))).1), Res.row (Rg.A ((g18, A22, c22, (l ++ els.take (min els.length (sz - l.length))))).1) (Rg.s ((g18, A22, c22, (l ++ els.take (min els.length (sz - l.length))))).1).length (Rg.cap ((g18, A22, c22, (l ++ els.take (min els.length (sz - l.length))))).1) 3 1 (Rg.s ((g18, A22, c22, (l ++ els.take (min els.length (sz - l.length))))).1), Res.blk wb 53 [Value.slice ((g18, A22, c22, (l ++ els.take (min els.length (sz - l.length))))).2.1 (((g18, A22, c22, (l ++ els.take (min els.length (sz - l.length))))).2.2.2).length ((g18, A22, c22, (l ++ els.take (min els.length (sz - l.length))))).2.2.1, Value.int .i64 ((sz : Nat) : Int)], Res.ro ((g18, A22, c22, (l ++ els.take (min els.length (sz - l.length))))).2.1 (((g18, A22, c22, (l ++ els.take (min els.length (sz - l.length))))).2.2.2).length 1 ((((g18, A22, c22, (l ++ els.take (min els.length (sz - l.length))))).2.2.2).map (fun v : Int => [Value.int .i64 v]))]) w' hw'; exact h9⟩) _ (.inl rfl)
  · refine g_seq ?_
    refine g_region ?_
    refine s_q (q_eql rfl rfl) rfl ?_
    refine s_q (q_assign rfl) rfl ?_
    refine g_nil ?_
    refine g_then ?_
    refine g_cond rfl (fun h2 => ?_) (fun h2 => ?_)
    · refine g_seq ?_
      refine g_region ?_
      refine s_q (q_move rfl) rfl ?_
      refine g_op (g_ownS [Res.blk b 61 (Rg.c g), Res.row (Rg.A g) (Rg.s g).length (Rg.cap g) 3 1 (Rg.s g)] rfl (fun w1 hw1 ho1 => by have h7 := pop_i b g l w1 ho1 h; exact h7) rfl ?_)
      rintro g28 ⟨r28, s28⟩
      refine ⟨_, _, inferInstance, inferInstance, ?_⟩
      refine s_q (q_move rfl) rfl ?_
      refine s_q (q_extract rfl rfl) rfl ?_
      refine s_q (q_extract rfl rfl) rfl ?_
      refine s_q (q_assign rfl) rfl ?_
      refine s_q (q_assign rfl) rfl ?_
      refine g_nil ?_
      refine g_then ?_
      refine g_seq ?_
      refine g_region ?_
      refine s_q (q_move rfl) rfl ?_
      refine g_op (g_ownS [Res.blk wb 53 [Value.slice A (l).length cap, Value.int .i64 ((sz : Nat) : Int)], Res.ro A (l).length 1 ((l).map (fun v : Int => [Value.int .i64 v]))] rfl (fun w1 hw1 ho1 => by have h7 := rpop_any wb A cap l sz w1 ho1 hl (by omega); exact h7) rfl ?_)
      rintro ⟨A33, c33⟩ hc33
      refine ⟨_, _, inferInstance, inferInstance, ?_⟩
      refine s_q (q_move rfl) rfl ?_
      refine s_q (q_extract rfl rfl) rfl ?_
      refine s_q (q_extract rfl rfl) rfl ?_
      refine s_q (q_assign rfl) rfl ?_
      refine s_q (q_assign rfl) rfl ?_
      refine g_nil ?_
      refine g_then ?_
      refine g_seq ?_
      refine g_region ?_
      refine s_q (q_move rfl) rfl ?_
      refine s_q (q_move rfl) rfl ?_
      refine s_q (q_eql rfl rfl) rfl ?_
      refine g_litb 38 (b := true) rfl (by simp) ?_
      refine s_q (q_move rfl) rfl ?_
      refine s_qg (q_move rfl) rfl rfl rfl ?_
      refine s_qg (q_move rfl) rfl rfl rfl ?_
      refine s_qg (q_eql_bool (by kernel_rfl) rfl rfl) rfl rfl rfl ?_
      refine g_litb 42 (b := true) rfl (by simp) ?_
      refine s_q (q_pick_t rfl rfl) rfl ?_
      refine s_q (q_assign rfl) rfl ?_
      refine g_nil ?_
      refine g_then ?_
      refine g_ret ?_
      refine g_blk_ret (g_then_ret ?_)
      exact fin1 rfl (.tmp rfl) (fun w' hw' => ⟨(g28, A33, c33, l.tail), (by first | exact ⟨r28, by omega, hc33⟩ | (dsimp only; exact ⟨r28, by omega, hc33⟩)), by first | rfl | (simp_all; done), by have h9 := wok_sub (L' := [Res.blk b 61 (Rg.c ((g28, A33, c33, l.tail)).1), Res.row (Rg.A ((g28, A33, c33, l.tail)).1) (Rg.s ((g28, A33, c33, l.tail)).1).length (Rg.cap ((g28, A33, c33, l.tail)).1) 3 1 (Rg.s ((g28, A33, c33, l.tail)).1), Res.blk wb 53 [Value.slice ((g28, A33, c33, l.tail)).2.1 (((g28, A33, c33, l.tail)).2.2.2).length ((g28, A33, c33, l.tail)).2.2.1, Value.int .i64 ((sz : Nat) : Int)], Res.ro ((g28, A33, c33, l.tail)).2.1 (((g28, A33, c33, l.tail)).2.2.2).length 1 ((((g28, A33, c33, l.tail)).2.2.2).map (fun v : Int => [Value.int .i64 v]))]) w' hw'; exact h9⟩) _ (.inl rfl)
    · refine g_skip ?_
      refine g_blk_n ?_
      refine g_then ?_
      refine g_seq ?_
      refine g_region ?_
      refine s_q (q_move rfl) rfl ?_
      refine g_op (g_ownS [Res.blk b 61 (Rg.c g), Res.row (Rg.A g) (Rg.s g).length (Rg.cap g) 3 1 (Rg.s g)] rfl (fun w1 hw1 ho1 => by have h7 := clear_i b g l w1 ho1 h; exact h7) rfl ?_)
      rintro g45 ⟨r45, s45⟩
      refine ⟨_, _, inferInstance, inferInstance, ?_⟩
      refine g_nil ?_
      refine g_then ?_
      refine g_seq ?_
      refine g_region ?_
      refine s_q (q_move rfl) rfl ?_
      refine s_q (q_nilck rfl) rfl ?_
      refine s_q (q_field rfl) rfl ?_
      refine g_op (g_store rfl rfl rfl rfl rfl rfl rfl ?_)
      refine g_blkc (b := wb) [Value.slice none ([] : List Int).length 0, Value.int .i64 ((sz : Nat) : Int)] rfl ?_
      refine g_roNil none 1 ?_
      refine g_roEq (A := none) (n := 0) (els := []) ([] : List Int).length (([] : List Int).map (fun v : Int => [Value.int .i64 v])) rfl rfl ?_
      refine g_nil ?_
      refine g_then ?_
      refine g_seq ?_
      refine g_region ?_
      refine s_q (q_assign rfl) rfl ?_
      refine g_nil ?_
      refine g_then ?_
      refine g_ret ?_
      exact fin1 rfl (.tmp rfl) (fun w' hw' => ⟨(g45, none, 0, []), (by first | exact ⟨r45, by omega, by simp⟩ | (dsimp only; exact ⟨r45, by omega, by simp⟩)), rfl, by have h9 := wok_sub (L' := [Res.blk b 61 (Rg.c g45), Res.row (Rg.A g45) (Rg.s g45).length (Rg.cap g45) 3 1 (Rg.s g45), Res.blk wb 53 [Value.slice none (([] : List Int)).length 0, Value.int .i64 ((sz : Nat) : Int)], Res.ro none (([] : List Int)).length 1 ((([] : List Int)).map (fun v : Int => [Value.int .i64 v]))]) w' hw'; exact h9⟩) _ (.inl rfl)
end Go.Proofs.Ytjhamghjnilgfaa
