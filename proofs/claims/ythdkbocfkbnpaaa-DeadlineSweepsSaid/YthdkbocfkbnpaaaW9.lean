/- walk of the reference sweep -/
import Derived.Test.YthdkbocfkbnpaaaW5
namespace Go.Proofs.Ythdkbocfkbnpaaa
open Go.RowKit Go.Eg
set_option synthInstance.maxSize 3000
set_option linter.unusedSimpArgs false
set_option linter.unusedVariables false
set_option maxHeartbeats 12000000 in
theorem sweep_any (a0 V P : Nat) (B : Option Addr) (bc : Nat) (rl : List Bool) (w : World) (ha : Old w B rl.length 1 (rl.map (fun v : Bool => [Value.bool v]))) (h0 : a0 < rl.length) (hV : 1 ≤ V ∧ V ≤ 1000000) (hP : 1 ≤ P ∧ P ≤ 1000000) (hn : rl.length ≤ 1000000) : Own2 (ι := (Option Addr × Nat × List Int × Nat × Nat)) Try.prog 22 [.int .i64 ((a0 : Nat) : Int), .slice B rl.length bc, .int .i64 ((V : Nat) : Int), .int .i64 ((P : Nat) : Int)] w [] (fun x => (min rl.length (min V P) ≤ x.2.2.2.1) ∧ x.2.2.2.1 ≤ rl.length ∧ x.2.2.2.2 < rl.length) (fun x => .tuple [.slice x.1 x.2.2.1.length x.2.1, .int .i64 ((x.2.2.2.1 : Nat) : Int), .int .i64 ((x.2.2.2.2 : Nat) : Int)].toArray) (fun x => [Res.row x.1 (x.2.2.1).length x.2.1 3 1 ((x.2.2.1).map (fun v : Int => [Value.int .i64 v]))]) (fun x => []) := by
  refine g_start Try.func22 rfl 61 rfl (by simp) (fps []) [] (WOK.start _ _) _ rfl ?_
  refine g_seq ?_
  refine g_region ?_
  refine s_q (q_assign rfl) rfl ?_
  refine s_q (q_assign rfl) rfl ?_
  refine s_q (q_assign rfl) rfl ?_
  refine g_nil ?_
  refine g_then ?_
  refine g_seq ?_
  refine g_region ?_
  refine s_q (q_move rfl) rfl ?_
  refine s_q (q_len rfl) rfl ?_
  refine s_q (q_assign rfl) rfl ?_
  refine g_nil ?_
  refine g_then ?_
  refine g_seq ?_
  refine g_seq ?_
  refine g_region ?_
  refine s_q (q_move rfl) rfl ?_
  refine s_q (q_eql rfl rfl) rfl ?_
  refine s_q (q_move rfl) rfl ?_
  refine g_split 18 rfl (fun h1 => ?_) (fun h1 => ?_)
  · exfalso; have h9 := of_decide_eq_true h1; omega
  · refine s_qg (q_move rfl) rfl rfl rfl ?_
    refine s_qg (q_lss rfl rfl) rfl rfl rfl ?_
    refine s_q (q_pick_f rfl rfl) rfl ?_
    refine s_q (q_move rfl) rfl ?_
    refine g_split 22 rfl (fun h2 => ?_) (fun h2 => ?_)
    · exfalso; simp at h2; omega
    · refine s_qg (q_move rfl) rfl rfl rfl ?_
      refine s_qg (q_lss rfl rfl) rfl rfl rfl ?_
      refine s_q (q_pick_f rfl rfl) rfl ?_
      refine g_nil ?_
      refine g_then ?_
      refine g_cond rfl (fun h3 => ?_) (fun h3 => ?_)
      · exfalso; simp at h3; omega
      · refine g_skip ?_
        refine g_then ?_
        refine g_seq ?_
        refine g_region ?_
        refine s_q (q_move rfl) rfl ?_
        refine s_q (q_move rfl) rfl ?_
        refine s_q (q_remn (a := a0) (b := rl.length) rfl rfl (by omega)) rfl ?_
        refine s_q (q_assign rfl) rfl ?_
        refine g_nil ?_
        refine g_then ?_
        refine g_seq ?_
        refine g_region ?_
        refine s_q (q_assign rfl) rfl ?_
        refine g_nilrow 12 3 1 rfl fun Az1 capz1 hcz1 => ?_
        refine g_rowels (A := Az1) (([] : List Int).map (fun v : Int => [Value.int .i64 v])) rfl ?_
        refine g_nil ?_
        refine g_then ?_
        refine g_seq ?_
        refine g_region ?_
        refine s_q (q_assign rfl) rfl ?_
        refine g_nil ?_
        refine g_then ?_
        refine g_seq ?_
        refine g_block ?_
        refine g_loopk [1, 2, 3, 8, 9, 10, 11] (fun (x : Nat × Option Addr × Nat × List Int × Nat) => [(13, .int .i64 ((x.1 : Nat) : Int)), (12, .slice x.2.1 x.2.2.2.1.length x.2.2.1), (0, .int .i64 ((x.2.2.2.2 : Nat) : Int))]) (fun (x : Nat × Option Addr × Nat × List Int × Nat) => [Res.row x.2.1 (x.2.2.2.1).length x.2.2.1 3 1 ((x.2.2.2.1).map (fun v : Int => [Value.int .i64 v]))]) (fun (x : Nat × Option Addr × Nat × List Int × Nat) => (x.2.2.2.1).length ≤ x.1 ∧ x.2.2.2.2 < rl.length ∧ x.1 ≤ rl.length ∧ x.1 ≤ V) (fun (x : Nat × Option Addr × Nat × List Int × Nat) => rl.length - x.1) (0, Az1, capz1, [], (a0 % rl.length)) (by (try dsimp only); exact ⟨(by simp), (Nat.mod_lt _ (by omega)), (by omega), (by omega)⟩) rfl (by repeat (first | exact trivial | refine ⟨rfl, ?_⟩)) wok_sub ?_
        rintro ⟨k, A, cap, pd, a⟩ ⟨hpk, ha0, hkn, hkV⟩
        replace hpk : (pd).length ≤ k := hpk
        replace ha0 : a < rl.length := ha0
        replace hkn : k ≤ rl.length := hkn
        replace hkV : k ≤ V := hkV
        refine g_setL (L' := [Res.row A (pd).length cap 3 1 ((pd).map (fun v : Int => [Value.int .i64 v]))]) rfl ?_
        refine g_val 13 (v' := .int .i64 ((k : Nat) : Int)) rfl rfl ?_
        refine g_val 12 (v' := .slice A pd.length cap) rfl rfl ?_
        refine g_val 0 (v' := .int .i64 ((a : Nat) : Int)) rfl rfl ?_
        refine g_seq ?_
        refine g_seq ?_
        refine g_region ?_
        refine s_q (q_move rfl) rfl ?_
        refine s_q (q_move rfl) rfl ?_
        refine s_q (q_lss rfl rfl) rfl ?_
        refine s_q (q_move rfl) rfl ?_
        refine g_split 33 rfl (fun h4 => ?_) (fun h4 => ?_)
        · have hy1 := of_decide_eq_true h4
          refine s_qg (q_move rfl) rfl rfl rfl ?_
          refine s_qg (q_move rfl) rfl rfl rfl ?_
          refine s_qg (q_lss rfl rfl) rfl rfl rfl ?_
          refine s_q (q_pick_t rfl rfl) rfl ?_
          refine s_q (q_move rfl) rfl ?_
          refine g_split 38 rfl (fun h5 => ?_) (fun h5 => ?_)
          · have hy2 := of_decide_eq_true h5
            refine s_qg (q_move rfl) rfl rfl rfl ?_
            refine s_qg (q_len rfl) rfl rfl rfl ?_
            refine s_qg (q_move rfl) rfl rfl rfl ?_
            refine s_qg (q_lss rfl rfl) rfl rfl rfl ?_
            refine s_q (q_pick_t rfl rfl) rfl ?_
            refine g_nil ?_
            refine g_then ?_
            refine g_cond rfl (fun h6 => ?_) (fun h6 => ?_)
            · have hy3 := of_decide_eq_true h6
              refine g_skip ?_
              refine g_then ?_
              refine g_block ?_
              refine g_seq ?_
              refine g_seq ?_
              refine g_region ?_
              refine s_q (q_move rfl) rfl ?_
              refine s_q (q_move rfl) rfl ?_
              refine s_q (q_index (i := a) rfl rfl rfl (ha.rdb rfl) (by first | omega | (simp; done) | (simp; omega))) rfl ?_
              refine s_q (q_load_el (i := a) (o := 0) rfl (ha.rdb rfl) (map_get (by first | exact (by first | omega | (simp; done) | (simp; omega)) | omega | (simp_all; done) | (simp_all; omega))) rfl rfl) rfl ?_
              refine g_nil ?_
              refine g_then ?_
              refine g_cond rfl (fun h7 => ?_) (fun h7 => ?_)
              · refine g_region ?_
                refine s_q (q_move rfl) rfl ?_
                refine s_q (q_move rfl) rfl ?_
                refine g_op (g_lit rfl rfl rfl rfl rfl fun b50 => ?_)
                refine g_blkc (b := b50) ((([((a : Nat) : Int)] : List Int).map (fun v : Int => [Value.int .i64 v])).flatten) rfl ?_
                refine g_op (g_append (A := A) (els := (pd).map (fun v : Int => [Value.int .i64 v])) (news := (([((a : Nat) : Int)] : List Int).map (fun v : Int => [Value.int .i64 v]))) rfl rfl (InL.rdb (b := b50) rfl (by simp) rfl) (map_one (c := (fun v : Int => [Value.int .i64 v])) (by intro x; simp [Value.oneCell']) _) (by first | omega | (simp; omega) | (simp_all; omega)) rfl fun A51 cap51 => ⟨_, inferInstance, ?_⟩)
                refine g_rowels (A := A51) (((pd ++ [((a : Nat) : Int)])).map (fun v : Int => [Value.int .i64 v])) (by first | rfl | exact List.map_append.symm | (simp; done)) ?_
                refine s_q (q_assign rfl) rfl ?_
                refine g_nil ?_
                refine g_then ?_
                refine g_seq ?_
                refine g_region ?_
                refine s_q (q_move rfl) rfl ?_
                refine s_q (q_inc rfl rfl (by omega)) rfl ?_
                refine s_q (q_move rfl) rfl ?_
                refine s_q (q_remn (a := (a + 1)) (b := rl.length) rfl rfl (by first | omega | (simp; omega) | (simp_all; omega))) rfl ?_
                refine s_q (q_assign rfl) rfl ?_
                refine g_nil ?_
                refine g_then ?_
                refine g_region ?_
                refine s_q (q_move rfl) rfl ?_
                refine s_q (q_inc rfl rfl (by omega)) rfl ?_
                refine s_q (q_assign rfl) rfl ?_
                refine g_nil ?_
                refine g_blk_n ?_
                refine g_rown (A := A51) ((pd ++ [((a : Nat) : Int)])).length (by simp) ?_
                refine g_val 12 (v' := .slice A51 ((pd ++ [((a : Nat) : Int)])).length cap51) rfl (by simp) ?_
                exact g_again ((k + 1), A51, cap51, (pd ++ [((a : Nat) : Int)]), ((a + 1) % rl.length)) (by (try dsimp only); exact ⟨(by first | omega | (simp; omega)), (Nat.mod_lt _ (by omega)), (by omega), (by first | omega | (simp; omega))⟩) (by dsimp only; omega) (by repeat (first | exact trivial | refine ⟨rfl, ?_⟩)) wok_sub
              · refine g_skip ?_
                refine g_then ?_
                refine g_seq ?_
                refine g_region ?_
                refine s_q (q_move rfl) rfl ?_
                refine s_q (q_inc rfl rfl (by omega)) rfl ?_
                refine s_q (q_move rfl) rfl ?_
                refine s_q (q_remn (a := (a + 1)) (b := rl.length) rfl rfl (by first | omega | (simp; omega) | (simp_all; omega))) rfl ?_
                refine s_q (q_assign rfl) rfl ?_
                refine g_nil ?_
                refine g_then ?_
                refine g_region ?_
                refine s_q (q_move rfl) rfl ?_
                refine s_q (q_inc rfl rfl (by omega)) rfl ?_
                refine s_q (q_assign rfl) rfl ?_
                refine g_nil ?_
                refine g_blk_n ?_
                skip
                exact g_again ((k + 1), A, cap, pd, ((a + 1) % rl.length)) (by (try dsimp only); exact ⟨(by first | omega | (simp; omega)), (Nat.mod_lt _ (by omega)), (by omega), (by first | omega | (simp; omega))⟩) (by dsimp only; omega) (by repeat (first | exact trivial | refine ⟨rfl, ?_⟩)) wok_sub
            · have hz1 := of_decide_eq_false h6
              refine g_exit ?_
              refine g_then_x (g_then_x (g_blk_hit ?_))
              refine g_then ?_
              refine g_seq ?_
              refine g_region ?_
              refine s_q (q_move rfl) rfl ?_
              refine s_q (q_move rfl) rfl ?_
              refine s_q (q_move rfl) rfl ?_
              refine s_q (q_assign rfl) rfl ?_
              refine s_q (q_assign rfl) rfl ?_
              refine s_q (q_assign rfl) rfl ?_
              refine g_nil ?_
              refine g_then ?_
              refine g_ret ?_
              exact fin3 rfl (.tmp rfl) (.tmp rfl) (.tmp rfl) (fun w' hw' => ⟨(A, cap, pd, k, a), (by first | exact ⟨by omega, by omega, ha0⟩ | (dsimp only; exact ⟨by omega, by omega, ha0⟩)), rfl, by have h9 := wok_sub (L' := [Res.row ((A, cap, pd, k, a)).1 (((A, cap, pd, k, a)).2.2.1).length ((A, cap, pd, k, a)).2.1 3 1 ((((A, cap, pd, k, a)).2.2.1).map (fun v : Int => [Value.int .i64 v]))]) w' hw'; exact h9⟩) _ (.inl rfl)
          · have hz1 := of_decide_eq_false h5
            refine g_gf rfl rfl rfl rfl ?_
            refine g_gf rfl rfl rfl rfl ?_
            refine g_gf rfl rfl rfl rfl ?_
            refine g_gf rfl rfl rfl rfl ?_
            refine s_q (q_pick_f rfl rfl) rfl ?_
            refine g_nil ?_
            refine g_then ?_
            refine g_false rfl ?_
            refine g_exit ?_
            refine g_then_x (g_then_x (g_blk_hit ?_))
            refine g_then ?_
            refine g_seq ?_
            refine g_region ?_
            refine s_q (q_move rfl) rfl ?_
            refine s_q (q_move rfl) rfl ?_
            refine s_q (q_move rfl) rfl ?_
            refine s_q (q_assign rfl) rfl ?_
            refine s_q (q_assign rfl) rfl ?_
            refine s_q (q_assign rfl) rfl ?_
            refine g_nil ?_
            refine g_then ?_
            refine g_ret ?_
            exact fin3 rfl (.tmp rfl) (.tmp rfl) (.tmp rfl) (fun w' hw' => ⟨(A, cap, pd, k, a), (by first | exact ⟨by omega, by omega, ha0⟩ | (dsimp only; exact ⟨by omega, by omega, ha0⟩)), rfl, by have h9 := wok_sub (L' := [Res.row ((A, cap, pd, k, a)).1 (((A, cap, pd, k, a)).2.2.1).length ((A, cap, pd, k, a)).2.1 3 1 ((((A, cap, pd, k, a)).2.2.1).map (fun v : Int => [Value.int .i64 v]))]) w' hw'; exact h9⟩) _ (.inl rfl)
        · have hz1 := of_decide_eq_false h4
          refine g_gf rfl rfl rfl rfl ?_
          refine g_gf rfl rfl rfl rfl ?_
          refine g_gf rfl rfl rfl rfl ?_
          refine s_q (q_pick_f rfl rfl) rfl ?_
          refine s_q (q_move rfl) rfl ?_
          refine g_gf rfl rfl rfl rfl ?_
          refine g_gf rfl rfl rfl rfl ?_
          refine g_gf rfl rfl rfl rfl ?_
          refine g_gf rfl rfl rfl rfl ?_
          refine s_q (q_pick_f rfl rfl) rfl ?_
          refine g_nil ?_
          refine g_then ?_
          refine g_false rfl ?_
          refine g_exit ?_
          refine g_then_x (g_then_x (g_blk_hit ?_))
          refine g_then ?_
          refine g_seq ?_
          refine g_region ?_
          refine s_q (q_move rfl) rfl ?_
          refine s_q (q_move rfl) rfl ?_
          refine s_q (q_move rfl) rfl ?_
          refine s_q (q_assign rfl) rfl ?_
          refine s_q (q_assign rfl) rfl ?_
          refine s_q (q_assign rfl) rfl ?_
          refine g_nil ?_
          refine g_then ?_
          refine g_ret ?_
          exact fin3 rfl (.tmp rfl) (.tmp rfl) (.tmp rfl) (fun w' hw' => ⟨(A, cap, pd, k, a), (by first | exact ⟨by omega, by omega, ha0⟩ | (dsimp only; exact ⟨by omega, by omega, ha0⟩)), rfl, by have h9 := wok_sub (L' := [Res.row ((A, cap, pd, k, a)).1 (((A, cap, pd, k, a)).2.2.1).length ((A, cap, pd, k, a)).2.1 3 1 ((((A, cap, pd, k, a)).2.2.1).map (fun v : Int => [Value.int .i64 v]))]) w' hw'; exact h9⟩) _ (.inl rfl)
end Go.Proofs.Ythdkbocfkbnpaaa
