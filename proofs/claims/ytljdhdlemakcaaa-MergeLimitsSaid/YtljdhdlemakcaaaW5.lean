/- walks of Request -/
import Derived.Test.YtljdhdlemakcaaaW4
namespace Go.Proofs.Ytljdhdlemakcaaa
open Go.RowKit Go.Eg
set_option synthInstance.maxSize 3000
set_option linter.unusedSimpArgs false
set_option linter.unusedVariables false
set_option maxHeartbeats 400000 in
theorem vb_any (b : Int) (w : World)  : Pur Try.prog 26 [.int .u64 b] w (V.v ⟨b, 2, false, 0, 0, 0, 0⟩) := by
  refine g_start Try.func26 rfl 5 rfl (by simp) ([]) [] (WOK.start _ _) _ rfl ?_
  refine g_seq ?_
  refine g_region ?_
  refine g_op (g_alloc rfl fun b2 => ?_)
  refine g_nil ?_
  refine g_then ?_
  refine g_seq ?_
  refine g_region ?_
  refine s_q (q_move rfl) rfl ?_
  refine s_q (q_build (c := V.c ⟨b, 2, false, 0, 0, 0, 0⟩) rfl rfl) rfl ?_
  refine g_op (g_storew rfl rfl rfl rfl rfl ?_)
  refine g_nil ?_
  refine g_then ?_
  refine g_ret ?_
  exact fin1 rfl (.cellw rfl rfl) (fun w' hw' => ⟨by rfl, hw'.upd⟩) _ (.inl rfl)

set_option maxHeartbeats 400000 in
theorem alive_any  (w : World)  : Pur Try.prog 10 [] w (.bool true) := by
  refine g_start Try.func10 rfl 37 rfl (by simp) ([]) [] (WOK.start _ _) _ rfl ?_
  refine g_seq ?_
  refine g_region ?_
  refine s_q (q_assign rfl) rfl ?_
  refine g_nil ?_
  refine g_then ?_
  refine g_seq ?_
  refine g_region ?_
  refine s_q (q_assign rfl) rfl ?_
  refine g_nil ?_
  refine g_then ?_
  refine g_seq ?_
  refine g_region ?_
  refine s_q (q_move rfl) rfl ?_
  refine g_op (g_purev rfl rfl (fun w1 hw1 => vb_any 50 w1) rfl ?_)
  refine s_q (q_move rfl) rfl ?_
  refine g_op (g_purev rfl rfl (fun w1 hw1 => vb_any 60 w1) rfl ?_)
  refine g_op (g_pure rfl (fun w1 hw1 => dflt_any w1) rfl ?_)
  refine g_op (g_pure rfl (fun w1 hw1 => apply_any _ _ dflt w1 (by simp) (by simp)) rfl ?_)
  refine s_q (q_move rfl) rfl ?_
  refine s_q (q_extract rfl rfl) rfl ?_
  refine s_q (q_extract rfl rfl) rfl ?_
  refine s_q (q_extract rfl rfl) rfl ?_
  refine g_op (g_alloc rfl fun b2 => ?_)
  refine g_op (g_alloc rfl fun b3 => ?_)
  refine g_op (g_storew rfl rfl rfl rfl rfl ?_)
  refine g_op (g_storew rfl rfl rfl rfl rfl ?_)
  refine s_q (q_assign rfl) rfl ?_
  refine g_nil ?_
  refine g_then ?_
  refine g_seq ?_
  refine d_region [] mixed rfl rfl ?_
  refine d_q 0 rfl (by kernel_rfl) (q_move rfl) wok_sub rfl (ls' := #[true, false, false, false, false, false, false, false, false, false, false, false, false, false, false, false, false, false, false, false, false, false, false]) rfl ?_
  refine d_q 1 rfl (by kernel_rfl) (q_eql rfl rfl) wok_sub rfl (ls' := #[true, true, false, false, false, false, false, false, false, false, false, false, false, false, false, false, false, false, false, false, false, false, false]) rfl ?_
  refine g_litb 16 (b := true) rfl (by decide) ?_
  refine d_q 2 rfl (by kernel_rfl) (q_move rfl) wok_sub rfl (ls' := #[true, true, true, false, false, false, false, false, false, false, false, false, false, false, false, false, false, false, false, false, false, false, false]) rfl ?_
  refine d_qg 3 rfl (by kernel_rfl) (q_loadw rfl rfl) rfl rfl wok_sub rfl (ls' := #[true, true, true, true, false, false, false, false, false, false, false, false, false, false, false, false, false, false, false, false, false, false, false]) rfl ?_
  refine d_qg 4 rfl (by kernel_rfl) (q_build (c := V.c ⟨0, 7, false, 0, 0, 0, 0⟩) rfl rfl) rfl rfl wok_sub rfl (ls' := #[true, true, true, true, true, false, false, false, false, false, false, false, false, false, false, false, false, false, false, false, false, false, false]) rfl ?_
  refine d_qg 5 rfl (by kernel_rfl) (q_eqs rfl rfl rfl) rfl rfl wok_sub rfl (ls' := #[true, true, true, true, true, true, false, false, false, false, false, false, false, false, false, false, false, false, false, false, false, false, false]) rfl ?_
  refine g_litb 20 (b := true) rfl (by decide) ?_
  refine d_q 6 rfl (by kernel_rfl) (q_pick_t rfl rfl) wok_sub rfl (ls' := #[true, true, true, true, true, true, true, false, false, false, false, false, false, false, false, false, false, false, false, false, false, false, false]) rfl ?_
  refine d_q 7 rfl (by kernel_rfl) (q_move rfl) wok_sub rfl (ls' := #[true, true, true, true, true, true, true, true, false, false, false, false, false, false, false, false, false, false, false, false, false, false, false]) rfl ?_
  refine d_qg 8 rfl (by kernel_rfl) (q_loadw rfl rfl) rfl rfl wok_sub rfl (ls' := #[true, true, true, true, true, true, true, true, true, false, false, false, false, false, false, false, false, false, false, false, false, false, false]) rfl ?_
  refine d_qg 9 rfl (by kernel_rfl) (q_move rfl) rfl rfl wok_sub rfl (ls' := #[true, true, true, true, true, true, true, true, true, true, false, false, false, false, false, false, false, false, false, false, false, false, false]) rfl ?_
  refine d_opg 10 rfl (by kernel_rfl) (ls' := #[true, true, true, true, true, true, true, true, true, true, true, false, false, false, false, false, false, false, false, false, false, false, false]) rfl rfl rfl wok_sub (g_purev rfl rfl (fun w1 hw1 => vb_any 110 w1) rfl ?_)
  refine d_qg 11 rfl (by kernel_rfl) (q_eqs rfl rfl rfl) rfl rfl wok_sub rfl (ls' := #[true, true, true, true, true, true, true, true, true, true, true, true, false, false, false, false, false, false, false, false, false, false, false]) rfl ?_
  refine g_litb 26 (b := true) rfl (by decide) ?_
  refine d_q 12 rfl (by kernel_rfl) (q_pick_t rfl rfl) wok_sub rfl (ls' := #[true, true, true, true, true, true, true, true, true, true, true, true, true, false, false, false, false, false, false, false, false, false, false]) rfl ?_
  refine d_q 13 rfl (by kernel_rfl) (q_move rfl) wok_sub rfl (ls' := #[true, true, true, true, true, true, true, true, true, true, true, true, true, true, false, false, false, false, false, false, false, false, false]) rfl ?_
  refine d_qg 14 rfl (by kernel_rfl) (q_move rfl) rfl rfl wok_sub rfl (ls' := #[true, true, true, true, true, true, true, true, true, true, true, true, true, true, true, false, false, false, false, false, false, false, false]) rfl ?_
  refine d_qg 16 rfl (by kernel_rfl) (q_move rfl) rfl rfl wok_sub rfl (ls' := #[true, true, true, true, true, true, true, true, true, true, true, true, true, true, true, false, true, false, false, false, false, false, false]) rfl ?_
  refine d_opg 15 rfl (by kernel_rfl) (ls' := #[true, true, true, true, true, true, true, true, true, true, true, true, true, true, true, true, true, false, false, false, false, false, false]) rfl rfl rfl wok_sub (g_purev rfl rfl (fun w1 hw1 => vb_any 70 w1) rfl ?_)
  refine d_opg 17 rfl (by kernel_rfl) (ls' := #[true, true, true, true, true, true, true, true, true, true, true, true, true, true, true, true, true, true, false, false, false, false, false]) rfl rfl rfl wok_sub (g_purev rfl rfl (fun w1 hw1 => vb_any 60 w1) rfl ?_)
  refine d_opg 18 rfl (by kernel_rfl) (ls' := #[true, true, true, true, true, true, true, true, true, true, true, true, true, true, true, true, true, true, true, false, false, false, false]) rfl rfl rfl wok_sub (g_pure rfl (fun w1 hw1 => dflt_any w1) rfl ?_)
  refine d_opg 19 rfl (by kernel_rfl) (ls' := #[true, true, true, true, true, true, true, true, true, true, true, true, true, true, true, true, true, true, true, true, false, false, false]) rfl rfl rfl wok_sub (g_pure rfl (fun w1 hw1 => check_any _ _ dflt w1 (by simp) (by simp)) rfl ?_)
  refine d_qg 20 rfl (by kernel_rfl) (q_eql rfl rfl) rfl rfl wok_sub rfl (ls' := #[true, true, true, true, true, true, true, true, true, true, true, true, true, true, true, true, true, true, true, true, true, false, false]) rfl ?_
  refine g_litb 35 (b := true) rfl (by decide) ?_
  refine d_q 21 rfl (by kernel_rfl) (q_pick_t rfl rfl) wok_sub rfl (ls' := #[true, true, true, true, true, true, true, true, true, true, true, true, true, true, true, true, true, true, true, true, true, true, false]) rfl ?_
  refine d_q 22 rfl (by kernel_rfl) (q_assign rfl) wok_sub rfl (ls' := #[true, true, true, true, true, true, true, true, true, true, true, true, true, true, true, true, true, true, true, true, true, true, true]) rfl ?_
  refine d_end (by kernel_rfl) (.inr wok_sub) ?_
  refine g_then ?_
  refine g_ret ?_
  exact fin1 rfl (.tmp rfl) (fun w' hw' => ⟨by rfl, hw'.upd⟩) _ (.inl rfl)

def atV (l : List V) (i : Int) : V := (l[i.toNat]?).getD V0
theorem atV_get {l : List V} {k : Nat} {i : Int} (hi : i = (k : Int)) (h : k < l.length) : atV l i = l[k] := by
  subst hi; unfold atV; rw [Int.toNat_natCast, List.getElem?_eq_getElem h]; rfl
def reqV (l : List V) (i j : Int) (c : C) : Int := if i < 0 ∨ (l.length : Int) ≤ i ∨ j < 0 ∨ (l.length : Int) ≤ j then 7 else if i = j then 12 else checkV (atV l i) (atV l j) c
def okV (l : List V) : Prop := ∀ x ∈ l, 0 ≤ x.bal ∧ x.bal ≤ 18446744073709551615

set_option maxHeartbeats 400000 in
theorem req_any (A : Option Addr) (n cap : Nat) (l : List V) (i j : Int) (c : C) (w : World) (hl : Old w A n 7 (l.map V.c)) (hok : okV l) (hb : n ≤ 1000000) : Pur Try.prog 15 [.slice A n cap, .int .i64 i, .int .i64 j, c.v] w (.int .i64 (reqV l i j c)) := by
  refine g_start Try.func15 rfl 39 rfl (by simp) ([]) [] (WOK.start _ _) _ rfl ?_
  have hn : n = l.length := by simpa using hl.len
  refine g_seq ?_
  refine g_region ?_
  refine g_op (g_box rfl rfl rfl fun b7 => ?_)
  refine s_q (q_assign rfl) rfl ?_
  refine g_nil ?_
  refine g_then ?_
  refine g_seq ?_
  refine g_seq ?_
  refine g_region ?_
  refine s_q (q_move rfl) rfl ?_
  refine s_q (q_move rfl) rfl ?_
  refine s_q (q_build rfl rfl) rfl ?_
  refine s_q (q_move rfl) rfl ?_
  refine g_nil ?_
  refine g_then ?_
  refine g_block ?_
  refine g_loopk [0, 1, 2, 7, 8, 13] (fun (x : Nat) => [(14, .int .i64 ((x : Nat) : Int))]) (fun (x : Nat) => [Res.blk b7 26 c.c]) (fun (x : Nat) => x ≤ 2 ∧ (0 < x → 0 ≤ i ∧ i < (l.length : Int)) ∧ (1 < x → 0 ≤ j ∧ j < (l.length : Int))) (fun (x : Nat) => 2 - x) 0 (by (try dsimp only); exact ⟨(by omega), (by omega), (by omega)⟩) rfl (by repeat (first | exact trivial | refine ⟨rfl, ?_⟩)) wok_sub ?_
  rintro k ⟨le_k, p0, p1⟩
  replace le_k : k ≤ 2 := le_k
  replace p0 : 0 < k → 0 ≤ i ∧ i < (l.length : Int) := p0
  replace p1 : 1 < k → 0 ≤ j ∧ j < (l.length : Int) := p1
  refine g_seq ?_
  refine g_region ?_
  refine s_q (q_lss rfl rfl) rfl ?_
  refine g_nil ?_
  refine g_then ?_
  refine g_seq ?_
  refine g_cond rfl (fun hx1 => ?_) (fun hx1 => ?_)
  · have lt_k : k < 2 := by have h9 := of_decide_eq_true hx1; omega
    refine g_skip ?_
    refine g_then ?_
    refine g_seq ?_
    refine g_block ?_
    refine g_seq ?_
    rcases (show k = 0 ∨ k = 1 by omega) with rfl | rfl
    · refine g_region ?_
      refine s_q (q_idxval (i := 0) (v := .int .i64 i) rfl rfl rfl (by decide) rfl) rfl ?_
      refine s_q (q_assign rfl) rfl ?_
      refine g_nil ?_
      refine g_then ?_
      refine g_seq ?_
      refine g_region ?_
      refine s_q (q_move rfl) rfl ?_
      refine s_q (q_lss rfl rfl) rfl ?_
      refine s_q (q_move rfl) rfl ?_
      refine g_split 19 rfl (fun hx2 => ?_) (fun hx2 => ?_)
      · refine g_gf rfl rfl rfl rfl ?_
        refine g_gf rfl rfl rfl rfl ?_
        refine g_gf rfl rfl rfl rfl ?_
        refine g_gf rfl rfl rfl rfl ?_
        refine s_q (q_pick_t rfl rfl) rfl ?_
        refine g_nil ?_
        refine g_then ?_
        refine g_true rfl ?_
        refine g_seq ?_
        refine g_region ?_
        refine s_q (q_assign rfl) rfl ?_
        refine g_nil ?_
        refine g_then ?_
        refine g_ret ?_
        refine g_blk_ret (g_then_ret (g_then_ret (g_blk_ret (g_then_ret ?_))))
        exact fin1 rfl (.tmp rfl) (fun w' hw' => ⟨by first | (simp_all [reqV]; done) | (simp_all [reqV]; omega) | (unfold reqV; rw [if_pos (by simp_all; omega)]) | (unfold reqV; rw [if_neg (by omega), if_pos (by simp_all; done)]) | (unfold reqV; rw [if_neg (by omega), if_neg (by simp_all), ei, ej]), hw'.upd⟩) _ (.inl rfl)
      · refine s_qg (q_move rfl) rfl rfl rfl ?_
        refine s_qg (q_move rfl) rfl rfl rfl ?_
        refine s_qg (q_len rfl) rfl rfl rfl ?_
        refine s_qg (q_geq rfl rfl) rfl rfl rfl ?_
        refine s_q (q_pick_f rfl rfl) rfl ?_
        refine g_nil ?_
        refine g_then ?_
        refine g_cond rfl (fun hx3 => ?_) (fun hx3 => ?_)
        · refine g_seq ?_
          refine g_region ?_
          refine s_q (q_assign rfl) rfl ?_
          refine g_nil ?_
          refine g_then ?_
          refine g_ret ?_
          refine g_blk_ret (g_then_ret (g_then_ret (g_blk_ret (g_then_ret ?_))))
          exact fin1 rfl (.tmp rfl) (fun w' hw' => ⟨by first | (simp_all [reqV]; done) | (simp_all [reqV]; omega) | (unfold reqV; rw [if_pos (by simp_all; omega)]) | (unfold reqV; rw [if_neg (by omega), if_pos (by simp_all; done)]) | (unfold reqV; rw [if_neg (by omega), if_neg (by simp_all), ei, ej]), hw'.upd⟩) _ (.inl rfl)
        · refine g_skip ?_
          refine g_blk_n ?_
          refine g_then ?_
          refine g_region ?_
          refine s_q (q_inc rfl rfl (by omega)) rfl ?_
          refine s_q (q_move rfl) rfl ?_
          refine g_nil ?_
          exact g_again (0 + 1) (by (try dsimp only); exact ⟨(by omega), (by simp at hx2 hx3; omega), (by simp at hx2 hx3; omega)⟩) (by first | omega | (simp only; omega)) (by repeat (first | exact trivial | refine ⟨rfl, ?_⟩)) wok_sub
    · have q0 := p0 (by omega)
      refine g_region ?_
      refine s_q (q_idxval (i := 1) (v := .int .i64 j) rfl rfl rfl (by decide) rfl) rfl ?_
      refine s_q (q_assign rfl) rfl ?_
      refine g_nil ?_
      refine g_then ?_
      refine g_seq ?_
      refine g_region ?_
      refine s_q (q_move rfl) rfl ?_
      refine s_q (q_lss rfl rfl) rfl ?_
      refine s_q (q_move rfl) rfl ?_
      refine g_split 19 rfl (fun hx4 => ?_) (fun hx4 => ?_)
      · refine g_gf rfl rfl rfl rfl ?_
        refine g_gf rfl rfl rfl rfl ?_
        refine g_gf rfl rfl rfl rfl ?_
        refine g_gf rfl rfl rfl rfl ?_
        refine s_q (q_pick_t rfl rfl) rfl ?_
        refine g_nil ?_
        refine g_then ?_
        refine g_true rfl ?_
        refine g_seq ?_
        refine g_region ?_
        refine s_q (q_assign rfl) rfl ?_
        refine g_nil ?_
        refine g_then ?_
        refine g_ret ?_
        refine g_blk_ret (g_then_ret (g_then_ret (g_blk_ret (g_then_ret ?_))))
        exact fin1 rfl (.tmp rfl) (fun w' hw' => ⟨by first | (simp_all [reqV]; done) | (simp_all [reqV]; omega) | (unfold reqV; rw [if_pos (by simp_all; omega)]) | (unfold reqV; rw [if_neg (by omega), if_pos (by simp_all; done)]) | (unfold reqV; rw [if_neg (by omega), if_neg (by simp_all), ei, ej]), hw'.upd⟩) _ (.inl rfl)
      · refine s_qg (q_move rfl) rfl rfl rfl ?_
        refine s_qg (q_move rfl) rfl rfl rfl ?_
        refine s_qg (q_len rfl) rfl rfl rfl ?_
        refine s_qg (q_geq rfl rfl) rfl rfl rfl ?_
        refine s_q (q_pick_f rfl rfl) rfl ?_
        refine g_nil ?_
        refine g_then ?_
        refine g_cond rfl (fun hx5 => ?_) (fun hx5 => ?_)
        · refine g_seq ?_
          refine g_region ?_
          refine s_q (q_assign rfl) rfl ?_
          refine g_nil ?_
          refine g_then ?_
          refine g_ret ?_
          refine g_blk_ret (g_then_ret (g_then_ret (g_blk_ret (g_then_ret ?_))))
          exact fin1 rfl (.tmp rfl) (fun w' hw' => ⟨by first | (simp_all [reqV]; done) | (simp_all [reqV]; omega) | (unfold reqV; rw [if_pos (by simp_all; omega)]) | (unfold reqV; rw [if_neg (by omega), if_pos (by simp_all; done)]) | (unfold reqV; rw [if_neg (by omega), if_neg (by simp_all), ei, ej]), hw'.upd⟩) _ (.inl rfl)
        · refine g_skip ?_
          refine g_blk_n ?_
          refine g_then ?_
          refine g_region ?_
          refine s_q (q_inc rfl rfl (by omega)) rfl ?_
          refine s_q (q_move rfl) rfl ?_
          refine g_nil ?_
          exact g_again (1 + 1) (by (try dsimp only); exact ⟨(by omega), (by simp at hx4 hx5; omega), (by simp at hx4 hx5; omega)⟩) (by first | omega | (simp only; omega)) (by repeat (first | exact trivial | refine ⟨rfl, ?_⟩)) wok_sub
  · obtain rfl : k = 2 := by have h9 := of_decide_eq_false hx1; omega
    have q0 := p0 (by omega)
    have q1 := p1 (by omega)
    obtain ⟨ni, hni⟩ : ∃ k : Nat, i = k := ⟨i.toNat, by omega⟩
    obtain ⟨nj, hnj⟩ : ∃ k : Nat, j = k := ⟨j.toNat, by omega⟩
    have hi : ni < l.length := by omega
    have hj : nj < l.length := by omega
    have ei := atV_get hni hi
    have ej := atV_get hnj hj
    have bi := hok _ (List.getElem_mem hi)
    have bj := hok _ (List.getElem_mem hj)
    refine g_exit ?_
    refine g_then_x (g_then_x (g_blk_hit ?_))
    refine g_then ?_
    refine g_seq ?_
    refine g_seq ?_
    refine g_region ?_
    refine s_q (q_move rfl) rfl ?_
    refine s_q (q_move rfl) rfl ?_
    refine s_q (q_eql rfl rfl) rfl ?_
    refine g_nil ?_
    refine g_then ?_
    refine g_cond rfl (fun hx6 => ?_) (fun hx6 => ?_)
    · refine g_seq ?_
      refine g_region ?_
      refine s_q (q_assign rfl) rfl ?_
      refine g_nil ?_
      refine g_then ?_
      refine g_ret ?_
      refine g_then_ret ?_
      exact fin1 rfl (.tmp rfl) (fun w' hw' => ⟨by first | (simp_all [reqV]; done) | (simp_all [reqV]; omega) | (unfold reqV; rw [if_pos (by simp_all; omega)]) | (unfold reqV; rw [if_neg (by omega), if_pos (by simp_all; done)]) | (unfold reqV; rw [if_neg (by omega), if_neg (by simp_all), ei, ej]), hw'.upd⟩) _ (.inl rfl)
    · refine g_skip ?_
      refine g_then ?_
      refine g_seq ?_
      refine d_region [] mixed rfl rfl ?_
      refine d_q 0 rfl (by kernel_rfl) (q_move rfl) wok_sub rfl (ls' := #[true, false, false, false, false, false, false, false, false, false, false]) rfl ?_
      refine d_q 1 rfl (by kernel_rfl) (q_move rfl) wok_sub rfl (ls' := #[true, true, false, false, false, false, false, false, false, false, false]) rfl ?_
      refine g_val 30 (v' := .int .i64 ((ni : Nat) : Int)) rfl (by rw [hni]) ?_
      refine d_q 2 rfl (by kernel_rfl) (q_index (i := ni) rfl rfl rfl (hl.rdb rfl) (by first | omega | (simp; done) | (simp; omega))) wok_sub rfl (ls' := #[true, true, true, false, false, false, false, false, false, false, false]) rfl ?_
      refine d_q 3 rfl (by kernel_rfl) (q_load_ew (i := ni) rfl (hl.rdb rfl) (map_get (by first | exact (by first | omega | (simp; done) | (simp; omega)) | omega | (simp_all; done) | (simp_all; omega))) rfl) wok_sub rfl (ls' := #[true, true, true, true, false, false, false, false, false, false, false]) rfl ?_
      refine d_q 4 rfl (by kernel_rfl) (q_move rfl) wok_sub rfl (ls' := #[true, true, true, true, true, false, false, false, false, false, false]) rfl ?_
      refine d_q 5 rfl (by kernel_rfl) (q_move rfl) wok_sub rfl (ls' := #[true, true, true, true, true, true, false, false, false, false, false]) rfl ?_
      refine g_val 34 (v' := .int .i64 ((nj : Nat) : Int)) rfl (by rw [hnj]) ?_
      refine d_q 6 rfl (by kernel_rfl) (q_index (i := nj) rfl rfl rfl (hl.rdb rfl) (by first | omega | (simp; done) | (simp; omega))) wok_sub rfl (ls' := #[true, true, true, true, true, true, true, false, false, false, false]) rfl ?_
      refine d_q 7 rfl (by kernel_rfl) (q_load_ew (i := nj) rfl (hl.rdb rfl) (map_get (by first | exact (by first | omega | (simp; done) | (simp; omega)) | omega | (simp_all; done) | (simp_all; omega))) rfl) wok_sub rfl (ls' := #[true, true, true, true, true, true, true, true, false, false, false]) rfl ?_
      refine d_q 8 rfl (by kernel_rfl) (q_loadw rfl rfl) wok_sub rfl (ls' := #[true, true, true, true, true, true, true, true, true, false, false]) rfl ?_
      refine d_op 9 rfl (by kernel_rfl) (ls' := #[true, true, true, true, true, true, true, true, true, true, false]) rfl wok_sub (g_pure rfl (fun w1 hw1 => check_any _ _ c w1 bi bj) rfl ?_)
      refine d_q 10 rfl (by kernel_rfl) (q_assign rfl) wok_sub rfl (ls' := #[true, true, true, true, true, true, true, true, true, true, true]) rfl ?_
      refine d_end (by kernel_rfl) (.inr wok_sub) ?_
      refine g_then ?_
      refine g_ret ?_
      exact fin1 rfl (.tmp rfl) (fun w' hw' => ⟨by first | (simp_all [reqV]; done) | (simp_all [reqV]; omega) | (unfold reqV; rw [if_pos (by simp_all; omega)]) | (unfold reqV; rw [if_neg (by omega), if_pos (by simp_all; done)]) | (unfold reqV; rw [if_neg (by omega), if_neg (by simp_all), ei, ej]), hw'.upd⟩) _ (.inl rfl)

set_option maxHeartbeats 400000 in
theorem rreq_any (A : Option Addr) (n cap : Nat) (l : List V) (i j : Int) (c : C) (w : World) (hl : Old w A n 7 (l.map V.c)) (hok : okV l) (hb : n ≤ 1000000) : Pur Try.prog 16 [.slice A n cap, .int .i64 i, .int .i64 j, c.v] w (.int .i64 (reqV l i j c)) := by
  refine g_start Try.func16 rfl 40 rfl (by simp) ([]) [] (WOK.start _ _) _ rfl ?_
  have hn : n = l.length := by simpa using hl.len
  refine g_seq ?_
  refine g_region ?_
  refine g_op (g_box rfl rfl rfl fun b7 => ?_)
  refine s_q (q_assign rfl) rfl ?_
  refine g_nil ?_
  refine g_then ?_
  refine g_seq ?_
  refine g_seq ?_
  refine g_region ?_
  refine s_q (q_move rfl) rfl ?_
  refine s_q (q_lss rfl rfl) rfl ?_
  refine s_q (q_move rfl) rfl ?_
  refine g_split 11 rfl (fun h1 => ?_) (fun h1 => ?_)
  · refine g_gf rfl rfl rfl rfl ?_
    refine g_gf rfl rfl rfl rfl ?_
    refine s_q (q_pick_t rfl rfl) rfl ?_
    refine s_q (q_move rfl) rfl ?_
    refine g_gf rfl rfl rfl rfl ?_
    refine g_gf rfl rfl rfl rfl ?_
    refine g_gf rfl rfl rfl rfl ?_
    refine g_gf rfl rfl rfl rfl ?_
    refine s_q (q_pick_t rfl rfl) rfl ?_
    refine s_q (q_move rfl) rfl ?_
    refine g_gf rfl rfl rfl rfl ?_
    refine g_gf rfl rfl rfl rfl ?_
    refine g_gf rfl rfl rfl rfl ?_
    refine g_gf rfl rfl rfl rfl ?_
    refine s_q (q_pick_t rfl rfl) rfl ?_
    refine g_nil ?_
    refine g_then ?_
    refine g_true rfl ?_
    refine g_seq ?_
    refine g_region ?_
    refine s_q (q_assign rfl) rfl ?_
    refine g_nil ?_
    refine g_then ?_
    refine g_ret ?_
    refine g_then_ret ?_
    exact fin1 rfl (.tmp rfl) (fun w' hw' => ⟨by first | (simp_all [reqV]; done) | (unfold reqV; rw [if_pos (by simp_all; omega)]) | (unfold reqV; rw [if_neg (by omega), if_neg (of_decide_eq_false h5), ei, ej]) | (unfold reqV; rw [if_neg (by omega), if_pos (of_decide_eq_true h5)]), hw'.upd⟩) _ (.inl rfl)
  · refine s_qg (q_move rfl) rfl rfl rfl ?_
    refine s_qg (q_lss rfl rfl) rfl rfl rfl ?_
    refine s_q (q_pick_f rfl rfl) rfl ?_
    refine s_q (q_move rfl) rfl ?_
    refine g_split 15 rfl (fun h2 => ?_) (fun h2 => ?_)
    · refine g_gf rfl rfl rfl rfl ?_
      refine g_gf rfl rfl rfl rfl ?_
      refine g_gf rfl rfl rfl rfl ?_
      refine g_gf rfl rfl rfl rfl ?_
      refine s_q (q_pick_t rfl rfl) rfl ?_
      refine s_q (q_move rfl) rfl ?_
      refine g_gf rfl rfl rfl rfl ?_
      refine g_gf rfl rfl rfl rfl ?_
      refine g_gf rfl rfl rfl rfl ?_
      refine g_gf rfl rfl rfl rfl ?_
      refine s_q (q_pick_t rfl rfl) rfl ?_
      refine g_nil ?_
      refine g_then ?_
      refine g_true rfl ?_
      refine g_seq ?_
      refine g_region ?_
      refine s_q (q_assign rfl) rfl ?_
      refine g_nil ?_
      refine g_then ?_
      refine g_ret ?_
      refine g_then_ret ?_
      exact fin1 rfl (.tmp rfl) (fun w' hw' => ⟨by first | (simp_all [reqV]; done) | (unfold reqV; rw [if_pos (by simp_all; omega)]) | (unfold reqV; rw [if_neg (by omega), if_neg (of_decide_eq_false h5), ei, ej]) | (unfold reqV; rw [if_neg (by omega), if_pos (of_decide_eq_true h5)]), hw'.upd⟩) _ (.inl rfl)
    · refine s_qg (q_move rfl) rfl rfl rfl ?_
      refine s_qg (q_move rfl) rfl rfl rfl ?_
      refine s_qg (q_len rfl) rfl rfl rfl ?_
      refine s_qg (q_geq rfl rfl) rfl rfl rfl ?_
      refine s_q (q_pick_f rfl rfl) rfl ?_
      refine s_q (q_move rfl) rfl ?_
      refine g_split 21 rfl (fun h3 => ?_) (fun h3 => ?_)
      · refine g_gf rfl rfl rfl rfl ?_
        refine g_gf rfl rfl rfl rfl ?_
        refine g_gf rfl rfl rfl rfl ?_
        refine g_gf rfl rfl rfl rfl ?_
        refine s_q (q_pick_t rfl rfl) rfl ?_
        refine g_nil ?_
        refine g_then ?_
        refine g_true rfl ?_
        refine g_seq ?_
        refine g_region ?_
        refine s_q (q_assign rfl) rfl ?_
        refine g_nil ?_
        refine g_then ?_
        refine g_ret ?_
        refine g_then_ret ?_
        exact fin1 rfl (.tmp rfl) (fun w' hw' => ⟨by first | (simp_all [reqV]; done) | (unfold reqV; rw [if_pos (by simp_all; omega)]) | (unfold reqV; rw [if_neg (by omega), if_neg (of_decide_eq_false h5), ei, ej]) | (unfold reqV; rw [if_neg (by omega), if_pos (of_decide_eq_true h5)]), hw'.upd⟩) _ (.inl rfl)
      · refine s_qg (q_move rfl) rfl rfl rfl ?_
        refine s_qg (q_move rfl) rfl rfl rfl ?_
        refine s_qg (q_len rfl) rfl rfl rfl ?_
        refine s_qg (q_geq rfl rfl) rfl rfl rfl ?_
        refine s_q (q_pick_f rfl rfl) rfl ?_
        refine g_nil ?_
        refine g_then ?_
        refine g_cond rfl (fun h4 => ?_) (fun h4 => ?_)
        · refine g_seq ?_
          refine g_region ?_
          refine s_q (q_assign rfl) rfl ?_
          refine g_nil ?_
          refine g_then ?_
          refine g_ret ?_
          refine g_then_ret ?_
          exact fin1 rfl (.tmp rfl) (fun w' hw' => ⟨by first | (simp_all [reqV]; done) | (unfold reqV; rw [if_pos (by simp_all; omega)]) | (unfold reqV; rw [if_neg (by omega), if_neg (of_decide_eq_false h5), ei, ej]) | (unfold reqV; rw [if_neg (by omega), if_pos (of_decide_eq_true h5)]), hw'.upd⟩) _ (.inl rfl)
        · refine g_skip ?_
          refine g_then ?_
          refine g_seq ?_
          refine g_seq ?_
          refine g_region ?_
          refine s_q (q_move rfl) rfl ?_
          refine s_q (q_move rfl) rfl ?_
          refine s_q (q_eql rfl rfl) rfl ?_
          refine g_nil ?_
          refine g_then ?_
          refine g_cond rfl (fun h5 => ?_) (fun h5 => ?_)
          · refine g_seq ?_
            refine g_region ?_
            refine s_q (q_assign rfl) rfl ?_
            refine g_nil ?_
            refine g_then ?_
            refine g_ret ?_
            refine g_then_ret ?_
            exact fin1 rfl (.tmp rfl) (fun w' hw' => ⟨by first | (simp_all [reqV]; done) | (unfold reqV; rw [if_pos (by simp_all; omega)]) | (unfold reqV; rw [if_neg (by omega), if_neg (of_decide_eq_false h5), ei, ej]) | (unfold reqV; rw [if_neg (by omega), if_pos (of_decide_eq_true h5)]), hw'.upd⟩) _ (.inl rfl)
          · simp at h1 h2 h3 h4
            obtain ⟨ni, hni⟩ : ∃ k : Nat, i = k := ⟨i.toNat, by omega⟩
            obtain ⟨nj, hnj⟩ : ∃ k : Nat, j = k := ⟨j.toNat, by omega⟩
            have hi : ni < l.length := by omega
            have hj : nj < l.length := by omega
            have ei := atV_get hni hi
            have ej := atV_get hnj hj
            have bi := hok _ (List.getElem_mem hi)
            have bj := hok _ (List.getElem_mem hj)
            refine g_skip ?_
            refine g_then ?_
            refine g_seq ?_
            refine d_region [] mixed rfl rfl ?_
            refine d_q 0 rfl (by kernel_rfl) (q_move rfl) wok_sub rfl (ls' := #[true, false, false, false, false, false, false, false, false, false, false]) rfl ?_
            refine d_q 1 rfl (by kernel_rfl) (q_move rfl) wok_sub rfl (ls' := #[true, true, false, false, false, false, false, false, false, false, false]) rfl ?_
            refine g_val 31 (v' := .int .i64 ((ni : Nat) : Int)) rfl (by rw [hni]) ?_
            refine d_q 2 rfl (by kernel_rfl) (q_index (i := ni) rfl rfl rfl (hl.rdb rfl) (by first | omega | (simp; done) | (simp; omega))) wok_sub rfl (ls' := #[true, true, true, false, false, false, false, false, false, false, false]) rfl ?_
            refine d_q 3 rfl (by kernel_rfl) (q_load_ew (i := ni) rfl (hl.rdb rfl) (map_get (by first | exact (by first | omega | (simp; done) | (simp; omega)) | omega | (simp_all; done) | (simp_all; omega))) rfl) wok_sub rfl (ls' := #[true, true, true, true, false, false, false, false, false, false, false]) rfl ?_
            refine d_q 4 rfl (by kernel_rfl) (q_move rfl) wok_sub rfl (ls' := #[true, true, true, true, true, false, false, false, false, false, false]) rfl ?_
            refine d_q 5 rfl (by kernel_rfl) (q_move rfl) wok_sub rfl (ls' := #[true, true, true, true, true, true, false, false, false, false, false]) rfl ?_
            refine g_val 35 (v' := .int .i64 ((nj : Nat) : Int)) rfl (by rw [hnj]) ?_
            refine d_q 6 rfl (by kernel_rfl) (q_index (i := nj) rfl rfl rfl (hl.rdb rfl) (by first | omega | (simp; done) | (simp; omega))) wok_sub rfl (ls' := #[true, true, true, true, true, true, true, false, false, false, false]) rfl ?_
            refine d_q 7 rfl (by kernel_rfl) (q_load_ew (i := nj) rfl (hl.rdb rfl) (map_get (by first | exact (by first | omega | (simp; done) | (simp; omega)) | omega | (simp_all; done) | (simp_all; omega))) rfl) wok_sub rfl (ls' := #[true, true, true, true, true, true, true, true, false, false, false]) rfl ?_
            refine d_q 8 rfl (by kernel_rfl) (q_loadw rfl rfl) wok_sub rfl (ls' := #[true, true, true, true, true, true, true, true, true, false, false]) rfl ?_
            refine d_op 9 rfl (by kernel_rfl) (ls' := #[true, true, true, true, true, true, true, true, true, true, false]) rfl wok_sub (g_pure rfl (fun w1 hw1 => rcheck_any _ _ c w1 bi bj) rfl ?_)
            refine d_q 10 rfl (by kernel_rfl) (q_assign rfl) wok_sub rfl (ls' := #[true, true, true, true, true, true, true, true, true, true, true]) rfl ?_
            refine d_end (by kernel_rfl) (.inr wok_sub) ?_
            refine g_then ?_
            refine g_ret ?_
            exact fin1 rfl (.tmp rfl) (fun w' hw' => ⟨by first | (simp_all [reqV]; done) | (unfold reqV; rw [if_pos (by simp_all; omega)]) | (unfold reqV; rw [if_neg (by omega), if_neg (of_decide_eq_false h5), ei, ej]) | (unfold reqV; rw [if_neg (by omega), if_pos (of_decide_eq_true h5)]), hw'.upd⟩) _ (.inl rfl)
end Go.Proofs.Ytljdhdlemakcaaa
