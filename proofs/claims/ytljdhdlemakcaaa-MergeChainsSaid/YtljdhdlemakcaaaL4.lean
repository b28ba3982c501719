/- MergeChains: for every list of validators, every pair of indices and every configuration the law returns true. No condition. -/
import Derived.Test.YtljdhdlemakcaaaW7
namespace Go.Proofs.Ytljdhdlemakcaaa
open Go.RowKit Go.Eg
set_option synthInstance.maxSize 3000
set_option linter.unusedSimpArgs false
set_option linter.unusedVariables false
theorem chain8 {l : List V} {c : C} {ni nj : Nat} (hi : ni < l.length) (hj : nj < l.length) (hne : ni ≠ nj) : reqV (mvN l ni nj) (ni : Int) (nj : Int) c = 8 ∧ reqV (mvN l ni nj) (nj : Int) (ni : Int) c = 8 := by
  have e1 : (atV (mvN l ni nj) (ni : Int)).st = 7 := by
    have h2 : ¬ nj = ni := fun h => hne h.symm
    simp [atV, mvN, List.getElem?_set, h2, hi]
  have hlen := mvN_len l ni nj
  refine ⟨?_, ?_⟩ <;> unfold reqV <;> rw [if_neg (by rw [hlen]; omega), if_neg (by omega)] <;> unfold checkV <;> rw [if_pos (by simp [tst, e1])]

set_option maxHeartbeats 400000 in
theorem law_mergeChains (A_l : Option Addr) (c_l : Nat) (l : List V) (p : PP) (c : C) (w : World) (o_l : Old w A_l l.length 7 (l.map V.c)) (h_l : l.length ≤ c_l ∧ c_l ≤ 9223372036854775807) (k_l : ∀ x ∈ l, (fun x : V => x.ok) x) (k_p : (p).ok) (k_c : (c).ok) : Pur Try.prog 5 [.slice A_l l.length c_l, p.v, c.v] w (.bool true) := by
  refine g_start Try.func5 rfl 78 rfl (by simp) ([]) [] (WOK.start _ _) _ rfl ?_
  refine g_seq ?_
  refine g_region ?_
  refine g_op (g_box rfl rfl rfl fun b4 => ?_)
  refine g_op (g_box rfl rfl rfl fun b5 => ?_)
  refine s_q (q_assign rfl) rfl ?_
  refine g_nil ?_
  refine g_then ?_
  refine g_seq ?_
  refine g_seq ?_
  refine g_region ?_
  refine s_q (q_loadw rfl rfl) rfl ?_
  refine g_op (g_pure rfl (fun w hw => chk_any _ w) rfl ?_)
  refine s_q (q_neq rfl rfl) rfl ?_
  refine s_q (q_move rfl) rfl ?_
  refine g_split 14 rfl (fun h1 => ?_) (fun h1 => ?_)
  · refine g_gf rfl rfl rfl rfl ?_
    refine g_gf rfl rfl rfl rfl ?_
    refine g_gf rfl rfl rfl rfl ?_
    refine s_q (q_pick_t rfl rfl) rfl ?_
    refine s_q (q_move rfl) rfl ?_
    refine g_gf rfl rfl rfl rfl ?_
    refine g_gf rfl rfl rfl rfl ?_
    refine g_gf rfl rfl rfl rfl ?_
    refine g_gf rfl rfl rfl rfl ?_
    refine g_gf rfl rfl rfl rfl ?_
    refine g_gf rfl rfl rfl rfl ?_
    refine g_gf rfl rfl rfl rfl ?_
    refine g_gf rfl rfl rfl rfl ?_
    refine s_q (q_pick_t rfl rfl) rfl ?_
    refine g_nil ?_
    refine g_then ?_
    refine g_true rfl ?_
    refine g_seq ?_
    refine g_region ?_
    refine g_op (g_pure rfl (fun w1 hw1 => alive_any w1) rfl ?_)
    refine s_q (q_assign rfl) rfl ?_
    refine g_nil ?_
    refine g_then ?_
    refine g_ret ?_
    refine g_then_ret ?_
    exact fin1 rfl (.tmp rfl) (fun w' hw' => ⟨by first | rfl | (simp_all; done) | (simp_all; omega), hw'.upd⟩) _ (.inl rfl)
  · refine s_qg (q_move rfl) rfl rfl rfl ?_
    refine s_qg (q_len rfl) rfl rfl rfl ?_
    refine s_qg (q_gtr rfl rfl) rfl rfl rfl ?_
    refine s_q (q_pick_f rfl rfl) rfl ?_
    refine s_q (q_move rfl) rfl ?_
    refine g_split 19 rfl (fun h2 => ?_) (fun h2 => ?_)
    · refine g_gf rfl rfl rfl rfl ?_
      refine g_gf rfl rfl rfl rfl ?_
      refine g_gf rfl rfl rfl rfl ?_
      refine g_gf rfl rfl rfl rfl ?_
      refine g_gf rfl rfl rfl rfl ?_
      refine g_gf rfl rfl rfl rfl ?_
      refine g_gf rfl rfl rfl rfl ?_
      refine g_gf rfl rfl rfl rfl ?_
      refine s_q (q_pick_t rfl rfl) rfl ?_
      refine g_nil ?_
      refine g_then ?_
      refine g_true rfl ?_
      refine g_seq ?_
      refine g_region ?_
      refine g_op (g_pure rfl (fun w1 hw1 => alive_any w1) rfl ?_)
      refine s_q (q_assign rfl) rfl ?_
      refine g_nil ?_
      refine g_then ?_
      refine g_ret ?_
      refine g_then_ret ?_
      exact fin1 rfl (.tmp rfl) (fun w' hw' => ⟨by first | rfl | (simp_all; done) | (simp_all; omega), hw'.upd⟩) _ (.inl rfl)
    · have hl60 : l.length ≤ 60 := by simp at h2; omega
      refine s_qg (q_move rfl) rfl rfl rfl ?_
      refine s_qg (q_index_arr (i := 0) rfl rfl rfl (by decide)) rfl rfl rfl ?_
      refine s_qg (q_load rfl rfl) rfl rfl rfl ?_
      refine s_qg (q_index_arr (i := 1) rfl rfl rfl (by decide)) rfl rfl rfl ?_
      refine s_qg (q_load rfl rfl) rfl rfl rfl ?_
      refine s_qg (q_loadw rfl rfl) rfl rfl rfl ?_
      refine g_gt rfl rfl (g_pure rfl (fun w1 hw1 => rreq_any A_l (l.length) (c_l) (l) (_) (_) _ w1 (Rdb.toOld (o_l.rdb rfl) hw1) (fun x hx => (k_l x hx).bal) (by first | omega | (simp; omega))) rfl ?_)
      refine s_qg (q_neq rfl rfl) rfl rfl rfl ?_
      refine s_q (q_pick_f rfl rfl) rfl ?_
      refine g_nil ?_
      refine g_then ?_
      refine g_cond rfl (fun h3 => ?_) (fun h3 => ?_)
      · refine g_seq ?_
        refine g_region ?_
        refine g_op (g_pure rfl (fun w1 hw1 => alive_any w1) rfl ?_)
        refine s_q (q_assign rfl) rfl ?_
        refine g_nil ?_
        refine g_then ?_
        refine g_ret ?_
        refine g_then_ret ?_
        exact fin1 rfl (.tmp rfl) (fun w' hw' => ⟨by first | rfl | (simp_all; done) | (simp_all; omega), hw'.upd⟩) _ (.inl rfl)
      · have hR3 : reqV l p.a p.b c = 0 := by simpa using h3
        obtain ⟨g1, g2, g3, g4, g5, g6⟩ := req_ok hR3
        obtain ⟨ni, hni⟩ : ∃ t : Nat, p.a = t := ⟨p.a.toNat, by omega⟩
        obtain ⟨nj, hnj⟩ : ∃ t : Nat, p.b = t := ⟨p.b.toNat, by omega⟩
        have hi : ni < l.length := by omega
        have hj : nj < l.length := by omega
        rw [atV_get hni hi, atV_get hnj hj] at g6
        have bi := (k_l _ (List.getElem_mem hi)).bal
        have bj := (k_l _ (List.getElem_mem hj)).bal
        refine g_skip ?_
        refine g_then ?_
        refine g_seq ?_
        refine d_region [18, 19] mixed rfl rfl ?_
        refine d_q 0 rfl (by kernel_rfl) (q_move rfl) wok_sub rfl (ls' := #[true, false, false, false, false, false, false, false, false, false, false, false, false, false, false, false, false, false, false, false, false]) rfl ?_
        refine d_q 1 rfl (by kernel_rfl) (q_index_arr (i := 0) rfl rfl rfl (by decide)) wok_sub rfl (ls' := #[true, true, false, false, false, false, false, false, false, false, false, false, false, false, false, false, false, false, false, false, false]) rfl ?_
        refine d_q 2 rfl (by kernel_rfl) (q_load rfl rfl) wok_sub rfl (ls' := #[true, true, true, false, false, false, false, false, false, false, false, false, false, false, false, false, false, false, false, false, false]) rfl ?_
        refine g_val 33 (v' := .int .i64 ((ni : Nat) : Int)) rfl (by rw [hni]) ?_
        refine d_q 3 rfl (by kernel_rfl) (q_index (i := ni) rfl rfl rfl (o_l.rdb rfl) (by first | omega | (simp; done) | (simp; omega))) wok_sub rfl (ls' := #[true, true, true, true, false, false, false, false, false, false, false, false, false, false, false, false, false, false, false, false, false]) rfl ?_
        refine d_q 4 rfl (by kernel_rfl) (q_load_ew (i := ni) rfl (o_l.rdb rfl) (map_get (by first | assumption | omega)) rfl) wok_sub rfl (ls' := #[true, true, true, true, true, false, false, false, false, false, false, false, false, false, false, false, false, false, false, false, false]) rfl ?_
        refine d_q 5 rfl (by kernel_rfl) (q_move rfl) wok_sub rfl (ls' := #[true, true, true, true, true, true, false, false, false, false, false, false, false, false, false, false, false, false, false, false, false]) rfl ?_
        refine d_q 6 rfl (by kernel_rfl) (q_index_arr (i := 1) rfl rfl rfl (by decide)) wok_sub rfl (ls' := #[true, true, true, true, true, true, true, false, false, false, false, false, false, false, false, false, false, false, false, false, false]) rfl ?_
        refine d_q 7 rfl (by kernel_rfl) (q_load rfl rfl) wok_sub rfl (ls' := #[true, true, true, true, true, true, true, true, false, false, false, false, false, false, false, false, false, false, false, false, false]) rfl ?_
        refine g_val 38 (v' := .int .i64 ((nj : Nat) : Int)) rfl (by rw [hnj]) ?_
        refine d_q 8 rfl (by kernel_rfl) (q_index (i := nj) rfl rfl rfl (o_l.rdb rfl) (by first | omega | (simp; done) | (simp; omega))) wok_sub rfl (ls' := #[true, true, true, true, true, true, true, true, true, false, false, false, false, false, false, false, false, false, false, false, false]) rfl ?_
        refine d_q 9 rfl (by kernel_rfl) (q_load_ew (i := nj) rfl (o_l.rdb rfl) (map_get (by first | assumption | omega)) rfl) wok_sub rfl (ls' := #[true, true, true, true, true, true, true, true, true, true, false, false, false, false, false, false, false, false, false, false, false]) rfl ?_
        refine d_q 10 rfl (by kernel_rfl) (q_loadw rfl rfl) wok_sub rfl (ls' := #[true, true, true, true, true, true, true, true, true, true, true, false, false, false, false, false, false, false, false, false, false]) rfl ?_
        refine d_many [11, 16, 17] (by kernel_rfl) (by simp) wok_sub ⟨d_pick rfl (ls' := #[true, true, true, true, true, true, true, true, true, true, true, true, false, false, false, false, false, false, false, false, false]) rfl (g_pure rfl (fun w1 hw1 => apply_any _ _ c w1 bi bj) rfl ?_), d_pick rfl (ls' := #[true, true, true, true, true, true, true, true, true, true, true, false, false, false, false, false, true, false, false, false, false]) rfl (g_alloc rfl fun b7 => ?_), d_pick rfl (ls' := #[true, true, true, true, true, true, true, true, true, true, true, false, false, false, false, false, false, true, false, false, false]) rfl (g_alloc rfl fun b8 => ?_), trivial⟩
        · refine d_q 12 rfl (by kernel_rfl) (q_move rfl) wok_sub rfl (ls' := #[true, true, true, true, true, true, true, true, true, true, true, true, true, false, false, false, false, false, false, false, false]) rfl ?_
          refine d_q 13 rfl (by kernel_rfl) (q_extract rfl rfl) wok_sub rfl (ls' := #[true, true, true, true, true, true, true, true, true, true, true, true, true, true, false, false, false, false, false, false, false]) rfl ?_
          refine d_p 14 rfl (by kernel_rfl) (fun _ => q_extract rfl rfl) rfl (ls' := #[true, true, true, true, true, true, true, true, true, true, true, true, true, true, true, false, false, false, false, false, false]) rfl ?_
          refine d_p 15 rfl (by kernel_rfl) (fun _ => q_extract rfl rfl) rfl (ls' := #[true, true, true, true, true, true, true, true, true, true, true, true, true, true, true, true, false, false, false, false, false]) rfl ?_
          refine d_many [16, 17] (by kernel_rfl) (by simp) wok_sub ⟨d_pick rfl (ls' := #[true, true, true, true, true, true, true, true, true, true, true, true, true, true, true, true, true, false, false, false, false]) rfl (g_alloc rfl fun b7 => ?_), d_pick rfl (ls' := #[true, true, true, true, true, true, true, true, true, true, true, true, true, true, true, true, false, true, false, false, false]) rfl (g_alloc rfl fun b8 => ?_), trivial⟩
          · refine d_op 17 rfl (by kernel_rfl) (ls' := #[true, true, true, true, true, true, true, true, true, true, true, true, true, true, true, true, true, true, false, false, false]) rfl wok_sub (g_alloc rfl fun b8 => ?_)
            refine d_op 18 rfl (by kernel_rfl) (ls' := #[true, true, true, true, true, true, true, true, true, true, true, true, true, true, true, true, true, true, true, false, false]) rfl wok_sub (g_storew rfl rfl rfl rfl rfl ?_)
            refine d_tail 19 rfl (by kernel_rfl) (ls' := #[true, true, true, true, true, true, true, true, true, true, true, true, true, true, true, true, true, true, true, true, false]) rfl rfl (g_storew rfl rfl rfl rfl rfl ?_)
            refine d_p 20 rfl (by kernel_rfl) (fun _ => q_assign rfl) rfl (ls' := #[true, true, true, true, true, true, true, true, true, true, true, true, true, true, true, true, true, true, true, true, true]) rfl ?_
            refine d_end (by kernel_rfl) (.inl rfl) ?_
            refine g_then ?_
            refine g_seq ?_
            refine g_seq ?_
            refine g_region ?_
            refine s_q (q_move rfl) rfl ?_
            refine s_q (q_neq rfl rfl) rfl ?_
            refine g_litb 47 (b := false) rfl (by simp [g6]) ?_
            refine g_nil ?_
            refine g_then ?_
            refine g_false rfl ?_
            refine g_skip ?_
            refine g_then ?_
            refine g_seq ?_
            refine d_region [] mixed rfl rfl ?_
            refine d_q 0 rfl (by kernel_rfl) (q_move rfl) wok_sub rfl (ls' := #[true, false, false, false, false, false, false, false, false, false]) rfl ?_
            refine d_q 1 rfl (by kernel_rfl) (q_index_arr (i := 0) rfl rfl rfl (by decide)) wok_sub rfl (ls' := #[true, true, false, false, false, false, false, false, false, false]) rfl ?_
            refine d_q 2 rfl (by kernel_rfl) (q_load rfl rfl) wok_sub rfl (ls' := #[true, true, true, false, false, false, false, false, false, false]) rfl ?_
            refine g_val 50 (v' := .int .i64 ((ni : Nat) : Int)) rfl (by rw [hni]) ?_
            refine d_q 3 rfl (by kernel_rfl) (q_loadw rfl rfl) wok_sub rfl (ls' := #[true, true, true, true, false, false, false, false, false, false]) rfl ?_
            refine d_q 5 rfl (by kernel_rfl) (q_index_arr (i := 1) rfl rfl rfl (by decide)) wok_sub rfl (ls' := #[true, true, true, true, false, true, false, false, false, false]) rfl ?_
            refine d_q 6 rfl (by kernel_rfl) (q_load rfl rfl) wok_sub rfl (ls' := #[true, true, true, true, false, true, true, false, false, false]) rfl ?_
            refine g_val 54 (v' := .int .i64 ((nj : Nat) : Int)) rfl (by rw [hnj]) ?_
            refine d_q 7 rfl (by kernel_rfl) (q_loadw rfl rfl) wok_sub rfl (ls' := #[true, true, true, true, false, true, true, true, false, false]) rfl ?_
            refine d_op 4 rfl (by kernel_rfl) (ls' := #[true, true, true, true, true, true, true, true, false, false]) rfl wok_sub (g_ownS [] rfl (fun w1 hw1 ho1 => by have h7 := put7 A_l (l.length) (c_l) (l) (ni) ((apS (l[ni]) (l[nj]) c)) w1 (Rd.ofOld hw1 o_l (by omega) (by simp)) (by first | omega | (simp; omega)) (by first | assumption | omega | (simp; omega)); exact h7) rfl ?_)
            rintro ⟨A52, cap52⟩ _
            refine ⟨_, _, inferInstance, inferInstance, ?_⟩
            refine d_op 8 rfl (by kernel_rfl) (ls' := #[true, true, true, true, true, true, true, true, true, false]) rfl wok_sub (g_ownS [] rfl (fun w1 hw1 ho1 => by have h7 := put7 A52 (((l).set ni ((apS (l[ni]) (l[nj]) c))).length) (cap52) (((l).set ni ((apS (l[ni]) (l[nj]) c)))) (nj) ((apD (l[ni]) (l[nj]) c)) w1 (Rd.ofRow (A := A52) hw1) (by first | omega | (simp; omega)) (by first | assumption | omega | (simp; omega)); exact h7) rfl ?_)
            rintro ⟨A56, cap56⟩ _
            refine ⟨_, _, inferInstance, inferInstance, ?_⟩
            obtain ⟨mm, hm⟩ : ∃ m, m = ((l.set ni (apS (l[ni]) (l[nj]) c)).set nj (apD (l[ni]) (l[nj]) c)) := ⟨_, rfl⟩
            rw [← hm]
            rw [step_in hni hnj hi hj g6, hni, hnj] at hm
            simp only [Int.toNat_natCast] at hm
            have hml : mm.length = l.length := by rw [hm, mvN_len]
            have hmo : okV mm := by rw [hm]; exact okV_mv (fun x hx => (k_l x hx).bal)
            have hch := chain8 (c := c) hi hj (by omega)
            rw [← hm, ← hni, ← hnj] at hch
            refine d_q 9 rfl (by kernel_rfl) (q_assign rfl) wok_sub rfl (ls' := #[true, true, true, true, true, true, true, true, true, true]) rfl ?_
            refine d_end (by kernel_rfl) (.inr wok_sub) ?_
            refine g_then ?_
            refine g_seq ?_
            refine g_region ?_
            refine g_op (g_pure rfl (fun w1 hw1 => alive_any w1) rfl ?_)
            refine s_q (q_move rfl) rfl ?_
            refine s_qg (q_move rfl) rfl rfl rfl ?_
            refine s_qg (q_index_arr (i := 0) rfl rfl rfl (by decide)) rfl rfl rfl ?_
            refine s_qg (q_load rfl rfl) rfl rfl rfl ?_
            refine s_qg (q_index_arr (i := 1) rfl rfl rfl (by decide)) rfl rfl rfl ?_
            refine s_qg (q_load rfl rfl) rfl rfl rfl ?_
            refine s_qg (q_loadw rfl rfl) rfl rfl rfl ?_
            refine g_gt rfl rfl (g_pure rfl (fun w1 hw1 => req_any A56 (mm.length) (cap56) (mm) (_) (_) _ w1 (Rdb.toOld (InRow.rdb (A := A56) (els := (mm).map V.c) (by first | rfl | assumption | (simp; done) | (simp_all; done) | (simp; omega) | (simp_all; omega)) (map_cat (c := V.c) (fun _ => rfl) _)) hw1) hmo (by first | omega | (simp; omega))) rfl ?_)
            refine s_qg (q_eql rfl rfl) rfl rfl rfl ?_
            refine g_litb 66 (b := true) rfl (by simp [hch.1]) ?_
            refine s_q (q_pick_t rfl rfl) rfl ?_
            refine s_q (q_move rfl) rfl ?_
            refine s_qg (q_move rfl) rfl rfl rfl ?_
            refine s_qg (q_index_arr (i := 1) rfl rfl rfl (by decide)) rfl rfl rfl ?_
            refine s_qg (q_load rfl rfl) rfl rfl rfl ?_
            refine s_qg (q_index_arr (i := 0) rfl rfl rfl (by decide)) rfl rfl rfl ?_
            refine s_qg (q_load rfl rfl) rfl rfl rfl ?_
            refine s_qg (q_loadw rfl rfl) rfl rfl rfl ?_
            refine g_gt rfl rfl (g_pure rfl (fun w1 hw1 => req_any A56 (mm.length) (cap56) (mm) (_) (_) _ w1 (Rdb.toOld (InRow.rdb (A := A56) (els := (mm).map V.c) (by first | rfl | assumption | (simp; done) | (simp_all; done) | (simp; omega) | (simp_all; omega)) (map_cat (c := V.c) (fun _ => rfl) _)) hw1) hmo (by first | omega | (simp; omega))) rfl ?_)
            refine s_qg (q_eql rfl rfl) rfl rfl rfl ?_
            refine g_litb 76 (b := true) rfl (by simp [hch.2]) ?_
            refine s_q (q_pick_t rfl rfl) rfl ?_
            refine s_q (q_assign rfl) rfl ?_
            refine g_nil ?_
            refine g_then ?_
            refine g_ret ?_
            exact fin1 rfl (.tmp rfl) (fun w' hw' => ⟨by first | rfl | (simp_all; done) | (simp_all; omega), hw'.upd⟩) _ (.inl rfl)
          · refine d_op 16 rfl (by kernel_rfl) (ls' := #[true, true, true, true, true, true, true, true, true, true, true, true, true, true, true, true, true, true, false, false, false]) rfl wok_sub (g_alloc rfl fun b7 => ?_)
            refine d_op 18 rfl (by kernel_rfl) (ls' := #[true, true, true, true, true, true, true, true, true, true, true, true, true, true, true, true, true, true, true, false, false]) rfl wok_sub (g_storew rfl rfl rfl rfl rfl ?_)
            refine d_tail 19 rfl (by kernel_rfl) (ls' := #[true, true, true, true, true, true, true, true, true, true, true, true, true, true, true, true, true, true, true, true, false]) rfl rfl (g_storew rfl rfl rfl rfl rfl ?_)
            refine d_p 20 rfl (by kernel_rfl) (fun _ => q_assign rfl) rfl (ls' := #[true, true, true, true, true, true, true, true, true, true, true, true, true, true, true, true, true, true, true, true, true]) rfl ?_
            refine d_end (by kernel_rfl) (.inl rfl) ?_
            refine g_then ?_
            refine g_seq ?_
            refine g_seq ?_
            refine g_region ?_
            refine s_q (q_move rfl) rfl ?_
            refine s_q (q_neq rfl rfl) rfl ?_
            refine g_litb 47 (b := false) rfl (by simp [g6]) ?_
            refine g_nil ?_
            refine g_then ?_
            refine g_false rfl ?_
            refine g_skip ?_
            refine g_then ?_
            refine g_seq ?_
            refine d_region [] mixed rfl rfl ?_
            refine d_q 0 rfl (by kernel_rfl) (q_move rfl) wok_sub rfl (ls' := #[true, false, false, false, false, false, false, false, false, false]) rfl ?_
            refine d_q 1 rfl (by kernel_rfl) (q_index_arr (i := 0) rfl rfl rfl (by decide)) wok_sub rfl (ls' := #[true, true, false, false, false, false, false, false, false, false]) rfl ?_
            refine d_q 2 rfl (by kernel_rfl) (q_load rfl rfl) wok_sub rfl (ls' := #[true, true, true, false, false, false, false, false, false, false]) rfl ?_
            refine g_val 50 (v' := .int .i64 ((ni : Nat) : Int)) rfl (by rw [hni]) ?_
            refine d_q 3 rfl (by kernel_rfl) (q_loadw rfl rfl) wok_sub rfl (ls' := #[true, true, true, true, false, false, false, false, false, false]) rfl ?_
            refine d_q 5 rfl (by kernel_rfl) (q_index_arr (i := 1) rfl rfl rfl (by decide)) wok_sub rfl (ls' := #[true, true, true, true, false, true, false, false, false, false]) rfl ?_
            refine d_q 6 rfl (by kernel_rfl) (q_load rfl rfl) wok_sub rfl (ls' := #[true, true, true, true, false, true, true, false, false, false]) rfl ?_
            refine g_val 54 (v' := .int .i64 ((nj : Nat) : Int)) rfl (by rw [hnj]) ?_
            refine d_q 7 rfl (by kernel_rfl) (q_loadw rfl rfl) wok_sub rfl (ls' := #[true, true, true, true, false, true, true, true, false, false]) rfl ?_
            refine d_op 4 rfl (by kernel_rfl) (ls' := #[true, true, true, true, true, true, true, true, false, false]) rfl wok_sub (g_ownS [] rfl (fun w1 hw1 ho1 => by have h7 := put7 A_l (l.length) (c_l) (l) (ni) ((apS (l[ni]) (l[nj]) c)) w1 (Rd.ofOld hw1 o_l (by omega) (by simp)) (by first | omega | (simp; omega)) (by first | assumption | omega | (simp; omega)); exact h7) rfl ?_)
            rintro ⟨A52, cap52⟩ _
            refine ⟨_, _, inferInstance, inferInstance, ?_⟩
            refine d_op 8 rfl (by kernel_rfl) (ls' := #[true, true, true, true, true, true, true, true, true, false]) rfl wok_sub (g_ownS [] rfl (fun w1 hw1 ho1 => by have h7 := put7 A52 (((l).set ni ((apS (l[ni]) (l[nj]) c))).length) (cap52) (((l).set ni ((apS (l[ni]) (l[nj]) c)))) (nj) ((apD (l[ni]) (l[nj]) c)) w1 (Rd.ofRow (A := A52) hw1) (by first | omega | (simp; omega)) (by first | assumption | omega | (simp; omega)); exact h7) rfl ?_)
            rintro ⟨A56, cap56⟩ _
            refine ⟨_, _, inferInstance, inferInstance, ?_⟩
            obtain ⟨mm, hm⟩ : ∃ m, m = ((l.set ni (apS (l[ni]) (l[nj]) c)).set nj (apD (l[ni]) (l[nj]) c)) := ⟨_, rfl⟩
            rw [← hm]
            rw [step_in hni hnj hi hj g6, hni, hnj] at hm
            simp only [Int.toNat_natCast] at hm
            have hml : mm.length = l.length := by rw [hm, mvN_len]
            have hmo : okV mm := by rw [hm]; exact okV_mv (fun x hx => (k_l x hx).bal)
            have hch := chain8 (c := c) hi hj (by omega)
            rw [← hm, ← hni, ← hnj] at hch
            refine d_q 9 rfl (by kernel_rfl) (q_assign rfl) wok_sub rfl (ls' := #[true, true, true, true, true, true, true, true, true, true]) rfl ?_
            refine d_end (by kernel_rfl) (.inr wok_sub) ?_
            refine g_then ?_
            refine g_seq ?_
            refine g_region ?_
            refine g_op (g_pure rfl (fun w1 hw1 => alive_any w1) rfl ?_)
            refine s_q (q_move rfl) rfl ?_
            refine s_qg (q_move rfl) rfl rfl rfl ?_
            refine s_qg (q_index_arr (i := 0) rfl rfl rfl (by decide)) rfl rfl rfl ?_
            refine s_qg (q_load rfl rfl) rfl rfl rfl ?_
            refine s_qg (q_index_arr (i := 1) rfl rfl rfl (by decide)) rfl rfl rfl ?_
            refine s_qg (q_load rfl rfl) rfl rfl rfl ?_
            refine s_qg (q_loadw rfl rfl) rfl rfl rfl ?_
            refine g_gt rfl rfl (g_pure rfl (fun w1 hw1 => req_any A56 (mm.length) (cap56) (mm) (_) (_) _ w1 (Rdb.toOld (InRow.rdb (A := A56) (els := (mm).map V.c) (by first | rfl | assumption | (simp; done) | (simp_all; done) | (simp; omega) | (simp_all; omega)) (map_cat (c := V.c) (fun _ => rfl) _)) hw1) hmo (by first | omega | (simp; omega))) rfl ?_)
            refine s_qg (q_eql rfl rfl) rfl rfl rfl ?_
            refine g_litb 66 (b := true) rfl (by simp [hch.1]) ?_
            refine s_q (q_pick_t rfl rfl) rfl ?_
            refine s_q (q_move rfl) rfl ?_
            refine s_qg (q_move rfl) rfl rfl rfl ?_
            refine s_qg (q_index_arr (i := 1) rfl rfl rfl (by decide)) rfl rfl rfl ?_
            refine s_qg (q_load rfl rfl) rfl rfl rfl ?_
            refine s_qg (q_index_arr (i := 0) rfl rfl rfl (by decide)) rfl rfl rfl ?_
            refine s_qg (q_load rfl rfl) rfl rfl rfl ?_
            refine s_qg (q_loadw rfl rfl) rfl rfl rfl ?_
            refine g_gt rfl rfl (g_pure rfl (fun w1 hw1 => req_any A56 (mm.length) (cap56) (mm) (_) (_) _ w1 (Rdb.toOld (InRow.rdb (A := A56) (els := (mm).map V.c) (by first | rfl | assumption | (simp; done) | (simp_all; done) | (simp; omega) | (simp_all; omega)) (map_cat (c := V.c) (fun _ => rfl) _)) hw1) hmo (by first | omega | (simp; omega))) rfl ?_)
            refine s_qg (q_eql rfl rfl) rfl rfl rfl ?_
            refine g_litb 76 (b := true) rfl (by simp [hch.2]) ?_
            refine s_q (q_pick_t rfl rfl) rfl ?_
            refine s_q (q_assign rfl) rfl ?_
            refine g_nil ?_
            refine g_then ?_
            refine g_ret ?_
            exact fin1 rfl (.tmp rfl) (fun w' hw' => ⟨by first | rfl | (simp_all; done) | (simp_all; omega), hw'.upd⟩) _ (.inl rfl)
        · refine d_many [11, 17] (by kernel_rfl) (by simp) wok_sub ⟨d_pick rfl (ls' := #[true, true, true, true, true, true, true, true, true, true, true, true, false, false, false, false, true, false, false, false, false]) rfl (g_pure rfl (fun w1 hw1 => apply_any _ _ c w1 bi bj) rfl ?_), d_pick rfl (ls' := #[true, true, true, true, true, true, true, true, true, true, true, false, false, false, false, false, true, true, false, false, false]) rfl (g_alloc rfl fun b8 => ?_), trivial⟩
          · refine d_q 12 rfl (by kernel_rfl) (q_move rfl) wok_sub rfl (ls' := #[true, true, true, true, true, true, true, true, true, true, true, true, true, false, false, false, true, false, false, false, false]) rfl ?_
            refine d_q 13 rfl (by kernel_rfl) (q_extract rfl rfl) wok_sub rfl (ls' := #[true, true, true, true, true, true, true, true, true, true, true, true, true, true, false, false, true, false, false, false, false]) rfl ?_
            refine d_p 14 rfl (by kernel_rfl) (fun _ => q_extract rfl rfl) rfl (ls' := #[true, true, true, true, true, true, true, true, true, true, true, true, true, true, true, false, true, false, false, false, false]) rfl ?_
            refine d_p 15 rfl (by kernel_rfl) (fun _ => q_extract rfl rfl) rfl (ls' := #[true, true, true, true, true, true, true, true, true, true, true, true, true, true, true, true, true, false, false, false, false]) rfl ?_
            refine d_op 17 rfl (by kernel_rfl) (ls' := #[true, true, true, true, true, true, true, true, true, true, true, true, true, true, true, true, true, true, false, false, false]) rfl wok_sub (g_alloc rfl fun b8 => ?_)
            refine d_op 18 rfl (by kernel_rfl) (ls' := #[true, true, true, true, true, true, true, true, true, true, true, true, true, true, true, true, true, true, true, false, false]) rfl wok_sub (g_storew rfl rfl rfl rfl rfl ?_)
            refine d_tail 19 rfl (by kernel_rfl) (ls' := #[true, true, true, true, true, true, true, true, true, true, true, true, true, true, true, true, true, true, true, true, false]) rfl rfl (g_storew rfl rfl rfl rfl rfl ?_)
            refine d_p 20 rfl (by kernel_rfl) (fun _ => q_assign rfl) rfl (ls' := #[true, true, true, true, true, true, true, true, true, true, true, true, true, true, true, true, true, true, true, true, true]) rfl ?_
            refine d_end (by kernel_rfl) (.inl rfl) ?_
            refine g_then ?_
            refine g_seq ?_
            refine g_seq ?_
            refine g_region ?_
            refine s_q (q_move rfl) rfl ?_
            refine s_q (q_neq rfl rfl) rfl ?_
            refine g_litb 47 (b := false) rfl (by simp [g6]) ?_
            refine g_nil ?_
            refine g_then ?_
            refine g_false rfl ?_
            refine g_skip ?_
            refine g_then ?_
            refine g_seq ?_
            refine d_region [] mixed rfl rfl ?_
            refine d_q 0 rfl (by kernel_rfl) (q_move rfl) wok_sub rfl (ls' := #[true, false, false, false, false, false, false, false, false, false]) rfl ?_
            refine d_q 1 rfl (by kernel_rfl) (q_index_arr (i := 0) rfl rfl rfl (by decide)) wok_sub rfl (ls' := #[true, true, false, false, false, false, false, false, false, false]) rfl ?_
            refine d_q 2 rfl (by kernel_rfl) (q_load rfl rfl) wok_sub rfl (ls' := #[true, true, true, false, false, false, false, false, false, false]) rfl ?_
            refine g_val 50 (v' := .int .i64 ((ni : Nat) : Int)) rfl (by rw [hni]) ?_
            refine d_q 3 rfl (by kernel_rfl) (q_loadw rfl rfl) wok_sub rfl (ls' := #[true, true, true, true, false, false, false, false, false, false]) rfl ?_
            refine d_q 5 rfl (by kernel_rfl) (q_index_arr (i := 1) rfl rfl rfl (by decide)) wok_sub rfl (ls' := #[true, true, true, true, false, true, false, false, false, false]) rfl ?_
            refine d_q 6 rfl (by kernel_rfl) (q_load rfl rfl) wok_sub rfl (ls' := #[true, true, true, true, false, true, true, false, false, false]) rfl ?_
            refine g_val 54 (v' := .int .i64 ((nj : Nat) : Int)) rfl (by rw [hnj]) ?_
            refine d_q 7 rfl (by kernel_rfl) (q_loadw rfl rfl) wok_sub rfl (ls' := #[true, true, true, true, false, true, true, true, false, false]) rfl ?_
            refine d_op 4 rfl (by kernel_rfl) (ls' := #[true, true, true, true, true, true, true, true, false, false]) rfl wok_sub (g_ownS [] rfl (fun w1 hw1 ho1 => by have h7 := put7 A_l (l.length) (c_l) (l) (ni) ((apS (l[ni]) (l[nj]) c)) w1 (Rd.ofOld hw1 o_l (by omega) (by simp)) (by first | omega | (simp; omega)) (by first | assumption | omega | (simp; omega)); exact h7) rfl ?_)
            rintro ⟨A52, cap52⟩ _
            refine ⟨_, _, inferInstance, inferInstance, ?_⟩
            refine d_op 8 rfl (by kernel_rfl) (ls' := #[true, true, true, true, true, true, true, true, true, false]) rfl wok_sub (g_ownS [] rfl (fun w1 hw1 ho1 => by have h7 := put7 A52 (((l).set ni ((apS (l[ni]) (l[nj]) c))).length) (cap52) (((l).set ni ((apS (l[ni]) (l[nj]) c)))) (nj) ((apD (l[ni]) (l[nj]) c)) w1 (Rd.ofRow (A := A52) hw1) (by first | omega | (simp; omega)) (by first | assumption | omega | (simp; omega)); exact h7) rfl ?_)
            rintro ⟨A56, cap56⟩ _
            refine ⟨_, _, inferInstance, inferInstance, ?_⟩
            obtain ⟨mm, hm⟩ : ∃ m, m = ((l.set ni (apS (l[ni]) (l[nj]) c)).set nj (apD (l[ni]) (l[nj]) c)) := ⟨_, rfl⟩
            rw [← hm]
            rw [step_in hni hnj hi hj g6, hni, hnj] at hm
            simp only [Int.toNat_natCast] at hm
            have hml : mm.length = l.length := by rw [hm, mvN_len]
            have hmo : okV mm := by rw [hm]; exact okV_mv (fun x hx => (k_l x hx).bal)
            have hch := chain8 (c := c) hi hj (by omega)
            rw [← hm, ← hni, ← hnj] at hch
            refine d_q 9 rfl (by kernel_rfl) (q_assign rfl) wok_sub rfl (ls' := #[true, true, true, true, true, true, true, true, true, true]) rfl ?_
            refine d_end (by kernel_rfl) (.inr wok_sub) ?_
            refine g_then ?_
            refine g_seq ?_
            refine g_region ?_
            refine g_op (g_pure rfl (fun w1 hw1 => alive_any w1) rfl ?_)
            refine s_q (q_move rfl) rfl ?_
            refine s_qg (q_move rfl) rfl rfl rfl ?_
            refine s_qg (q_index_arr (i := 0) rfl rfl rfl (by decide)) rfl rfl rfl ?_
            refine s_qg (q_load rfl rfl) rfl rfl rfl ?_
            refine s_qg (q_index_arr (i := 1) rfl rfl rfl (by decide)) rfl rfl rfl ?_
            refine s_qg (q_load rfl rfl) rfl rfl rfl ?_
            refine s_qg (q_loadw rfl rfl) rfl rfl rfl ?_
            refine g_gt rfl rfl (g_pure rfl (fun w1 hw1 => req_any A56 (mm.length) (cap56) (mm) (_) (_) _ w1 (Rdb.toOld (InRow.rdb (A := A56) (els := (mm).map V.c) (by first | rfl | assumption | (simp; done) | (simp_all; done) | (simp; omega) | (simp_all; omega)) (map_cat (c := V.c) (fun _ => rfl) _)) hw1) hmo (by first | omega | (simp; omega))) rfl ?_)
            refine s_qg (q_eql rfl rfl) rfl rfl rfl ?_
            refine g_litb 66 (b := true) rfl (by simp [hch.1]) ?_
            refine s_q (q_pick_t rfl rfl) rfl ?_
            refine s_q (q_move rfl) rfl ?_
            refine s_qg (q_move rfl) rfl rfl rfl ?_
            refine s_qg (q_index_arr (i := 1) rfl rfl rfl (by decide)) rfl rfl rfl ?_
            refine s_qg (q_load rfl rfl) rfl rfl rfl ?_
            refine s_qg (q_index_arr (i := 0) rfl rfl rfl (by decide)) rfl rfl rfl ?_
            refine s_qg (q_load rfl rfl) rfl rfl rfl ?_
            refine s_qg (q_loadw rfl rfl) rfl rfl rfl ?_
            refine g_gt rfl rfl (g_pure rfl (fun w1 hw1 => req_any A56 (mm.length) (cap56) (mm) (_) (_) _ w1 (Rdb.toOld (InRow.rdb (A := A56) (els := (mm).map V.c) (by first | rfl | assumption | (simp; done) | (simp_all; done) | (simp; omega) | (simp_all; omega)) (map_cat (c := V.c) (fun _ => rfl) _)) hw1) hmo (by first | omega | (simp; omega))) rfl ?_)
            refine s_qg (q_eql rfl rfl) rfl rfl rfl ?_
            refine g_litb 76 (b := true) rfl (by simp [hch.2]) ?_
            refine s_q (q_pick_t rfl rfl) rfl ?_
            refine s_q (q_assign rfl) rfl ?_
            refine g_nil ?_
            refine g_then ?_
            refine g_ret ?_
            exact fin1 rfl (.tmp rfl) (fun w' hw' => ⟨by first | rfl | (simp_all; done) | (simp_all; omega), hw'.upd⟩) _ (.inl rfl)
          · refine d_op 11 rfl (by kernel_rfl) (ls' := #[true, true, true, true, true, true, true, true, true, true, true, true, false, false, false, false, true, true, false, false, false]) rfl wok_sub (g_pure rfl (fun w1 hw1 => apply_any _ _ c w1 bi bj) rfl ?_)
            refine d_q 12 rfl (by kernel_rfl) (q_move rfl) wok_sub rfl (ls' := #[true, true, true, true, true, true, true, true, true, true, true, true, true, false, false, false, true, true, false, false, false]) rfl ?_
            refine d_q 13 rfl (by kernel_rfl) (q_extract rfl rfl) wok_sub rfl (ls' := #[true, true, true, true, true, true, true, true, true, true, true, true, true, true, false, false, true, true, false, false, false]) rfl ?_
            refine d_p 14 rfl (by kernel_rfl) (fun _ => q_extract rfl rfl) rfl (ls' := #[true, true, true, true, true, true, true, true, true, true, true, true, true, true, true, false, true, true, false, false, false]) rfl ?_
            refine d_p 15 rfl (by kernel_rfl) (fun _ => q_extract rfl rfl) rfl (ls' := #[true, true, true, true, true, true, true, true, true, true, true, true, true, true, true, true, true, true, false, false, false]) rfl ?_
            refine d_op 18 rfl (by kernel_rfl) (ls' := #[true, true, true, true, true, true, true, true, true, true, true, true, true, true, true, true, true, true, true, false, false]) rfl wok_sub (g_storew rfl rfl rfl rfl rfl ?_)
            refine d_tail 19 rfl (by kernel_rfl) (ls' := #[true, true, true, true, true, true, true, true, true, true, true, true, true, true, true, true, true, true, true, true, false]) rfl rfl (g_storew rfl rfl rfl rfl rfl ?_)
            refine d_p 20 rfl (by kernel_rfl) (fun _ => q_assign rfl) rfl (ls' := #[true, true, true, true, true, true, true, true, true, true, true, true, true, true, true, true, true, true, true, true, true]) rfl ?_
            refine d_end (by kernel_rfl) (.inl rfl) ?_
            refine g_then ?_
            refine g_seq ?_
            refine g_seq ?_
            refine g_region ?_
            refine s_q (q_move rfl) rfl ?_
            refine s_q (q_neq rfl rfl) rfl ?_
            refine g_litb 47 (b := false) rfl (by simp [g6]) ?_
            refine g_nil ?_
            refine g_then ?_
            refine g_false rfl ?_
            refine g_skip ?_
            refine g_then ?_
            refine g_seq ?_
            refine d_region [] mixed rfl rfl ?_
            refine d_q 0 rfl (by kernel_rfl) (q_move rfl) wok_sub rfl (ls' := #[true, false, false, false, false, false, false, false, false, false]) rfl ?_
            refine d_q 1 rfl (by kernel_rfl) (q_index_arr (i := 0) rfl rfl rfl (by decide)) wok_sub rfl (ls' := #[true, true, false, false, false, false, false, false, false, false]) rfl ?_
            refine d_q 2 rfl (by kernel_rfl) (q_load rfl rfl) wok_sub rfl (ls' := #[true, true, true, false, false, false, false, false, false, false]) rfl ?_
            refine g_val 50 (v' := .int .i64 ((ni : Nat) : Int)) rfl (by rw [hni]) ?_
            refine d_q 3 rfl (by kernel_rfl) (q_loadw rfl rfl) wok_sub rfl (ls' := #[true, true, true, true, false, false, false, false, false, false]) rfl ?_
            refine d_q 5 rfl (by kernel_rfl) (q_index_arr (i := 1) rfl rfl rfl (by decide)) wok_sub rfl (ls' := #[true, true, true, true, false, true, false, false, false, false]) rfl ?_
            refine d_q 6 rfl (by kernel_rfl) (q_load rfl rfl) wok_sub rfl (ls' := #[true, true, true, true, false, true, true, false, false, false]) rfl ?_
            refine g_val 54 (v' := .int .i64 ((nj : Nat) : Int)) rfl (by rw [hnj]) ?_
            refine d_q 7 rfl (by kernel_rfl) (q_loadw rfl rfl) wok_sub rfl (ls' := #[true, true, true, true, false, true, true, true, false, false]) rfl ?_
            refine d_op 4 rfl (by kernel_rfl) (ls' := #[true, true, true, true, true, true, true, true, false, false]) rfl wok_sub (g_ownS [] rfl (fun w1 hw1 ho1 => by have h7 := put7 A_l (l.length) (c_l) (l) (ni) ((apS (l[ni]) (l[nj]) c)) w1 (Rd.ofOld hw1 o_l (by omega) (by simp)) (by first | omega | (simp; omega)) (by first | assumption | omega | (simp; omega)); exact h7) rfl ?_)
            rintro ⟨A52, cap52⟩ _
            refine ⟨_, _, inferInstance, inferInstance, ?_⟩
            refine d_op 8 rfl (by kernel_rfl) (ls' := #[true, true, true, true, true, true, true, true, true, false]) rfl wok_sub (g_ownS [] rfl (fun w1 hw1 ho1 => by have h7 := put7 A52 (((l).set ni ((apS (l[ni]) (l[nj]) c))).length) (cap52) (((l).set ni ((apS (l[ni]) (l[nj]) c)))) (nj) ((apD (l[ni]) (l[nj]) c)) w1 (Rd.ofRow (A := A52) hw1) (by first | omega | (simp; omega)) (by first | assumption | omega | (simp; omega)); exact h7) rfl ?_)
            rintro ⟨A56, cap56⟩ _
            refine ⟨_, _, inferInstance, inferInstance, ?_⟩
            obtain ⟨mm, hm⟩ : ∃ m, m = ((l.set ni (apS (l[ni]) (l[nj]) c)).set nj (apD (l[ni]) (l[nj]) c)) := ⟨_, rfl⟩
            rw [← hm]
            rw [step_in hni hnj hi hj g6, hni, hnj] at hm
            simp only [Int.toNat_natCast] at hm
            have hml : mm.length = l.length := by rw [hm, mvN_len]
            have hmo : okV mm := by rw [hm]; exact okV_mv (fun x hx => (k_l x hx).bal)
            have hch := chain8 (c := c) hi hj (by omega)
            rw [← hm, ← hni, ← hnj] at hch
            refine d_q 9 rfl (by kernel_rfl) (q_assign rfl) wok_sub rfl (ls' := #[true, true, true, true, true, true, true, true, true, true]) rfl ?_
            refine d_end (by kernel_rfl) (.inr wok_sub) ?_
            refine g_then ?_
            refine g_seq ?_
            refine g_region ?_
            refine g_op (g_pure rfl (fun w1 hw1 => alive_any w1) rfl ?_)
            refine s_q (q_move rfl) rfl ?_
            refine s_qg (q_move rfl) rfl rfl rfl ?_
            refine s_qg (q_index_arr (i := 0) rfl rfl rfl (by decide)) rfl rfl rfl ?_
            refine s_qg (q_load rfl rfl) rfl rfl rfl ?_
            refine s_qg (q_index_arr (i := 1) rfl rfl rfl (by decide)) rfl rfl rfl ?_
            refine s_qg (q_load rfl rfl) rfl rfl rfl ?_
            refine s_qg (q_loadw rfl rfl) rfl rfl rfl ?_
            refine g_gt rfl rfl (g_pure rfl (fun w1 hw1 => req_any A56 (mm.length) (cap56) (mm) (_) (_) _ w1 (Rdb.toOld (InRow.rdb (A := A56) (els := (mm).map V.c) (by first | rfl | assumption | (simp; done) | (simp_all; done) | (simp; omega) | (simp_all; omega)) (map_cat (c := V.c) (fun _ => rfl) _)) hw1) hmo (by first | omega | (simp; omega))) rfl ?_)
            refine s_qg (q_eql rfl rfl) rfl rfl rfl ?_
            refine g_litb 66 (b := true) rfl (by simp [hch.1]) ?_
            refine s_q (q_pick_t rfl rfl) rfl ?_
            refine s_q (q_move rfl) rfl ?_
            refine s_qg (q_move rfl) rfl rfl rfl ?_
            refine s_qg (q_index_arr (i := 1) rfl rfl rfl (by decide)) rfl rfl rfl ?_
            refine s_qg (q_load rfl rfl) rfl rfl rfl ?_
            refine s_qg (q_index_arr (i := 0) rfl rfl rfl (by decide)) rfl rfl rfl ?_
            refine s_qg (q_load rfl rfl) rfl rfl rfl ?_
            refine s_qg (q_loadw rfl rfl) rfl rfl rfl ?_
            refine g_gt rfl rfl (g_pure rfl (fun w1 hw1 => req_any A56 (mm.length) (cap56) (mm) (_) (_) _ w1 (Rdb.toOld (InRow.rdb (A := A56) (els := (mm).map V.c) (by first | rfl | assumption | (simp; done) | (simp_all; done) | (simp; omega) | (simp_all; omega)) (map_cat (c := V.c) (fun _ => rfl) _)) hw1) hmo (by first | omega | (simp; omega))) rfl ?_)
            refine s_qg (q_eql rfl rfl) rfl rfl rfl ?_
            refine g_litb 76 (b := true) rfl (by simp [hch.2]) ?_
            refine s_q (q_pick_t rfl rfl) rfl ?_
            refine s_q (q_assign rfl) rfl ?_
            refine g_nil ?_
            refine g_then ?_
            refine g_ret ?_
            exact fin1 rfl (.tmp rfl) (fun w' hw' => ⟨by first | rfl | (simp_all; done) | (simp_all; omega), hw'.upd⟩) _ (.inl rfl)
        · refine d_many [11, 16] (by kernel_rfl) (by simp) wok_sub ⟨d_pick rfl (ls' := #[true, true, true, true, true, true, true, true, true, true, true, true, false, false, false, false, false, true, false, false, false]) rfl (g_pure rfl (fun w1 hw1 => apply_any _ _ c w1 bi bj) rfl ?_), d_pick rfl (ls' := #[true, true, true, true, true, true, true, true, true, true, true, false, false, false, false, false, true, true, false, false, false]) rfl (g_alloc rfl fun b7 => ?_), trivial⟩
          · refine d_q 12 rfl (by kernel_rfl) (q_move rfl) wok_sub rfl (ls' := #[true, true, true, true, true, true, true, true, true, true, true, true, true, false, false, false, false, true, false, false, false]) rfl ?_
            refine d_q 13 rfl (by kernel_rfl) (q_extract rfl rfl) wok_sub rfl (ls' := #[true, true, true, true, true, true, true, true, true, true, true, true, true, true, false, false, false, true, false, false, false]) rfl ?_
            refine d_p 14 rfl (by kernel_rfl) (fun _ => q_extract rfl rfl) rfl (ls' := #[true, true, true, true, true, true, true, true, true, true, true, true, true, true, true, false, false, true, false, false, false]) rfl ?_
            refine d_p 15 rfl (by kernel_rfl) (fun _ => q_extract rfl rfl) rfl (ls' := #[true, true, true, true, true, true, true, true, true, true, true, true, true, true, true, true, false, true, false, false, false]) rfl ?_
            refine d_op 16 rfl (by kernel_rfl) (ls' := #[true, true, true, true, true, true, true, true, true, true, true, true, true, true, true, true, true, true, false, false, false]) rfl wok_sub (g_alloc rfl fun b7 => ?_)
            refine d_op 18 rfl (by kernel_rfl) (ls' := #[true, true, true, true, true, true, true, true, true, true, true, true, true, true, true, true, true, true, true, false, false]) rfl wok_sub (g_storew rfl rfl rfl rfl rfl ?_)
            refine d_tail 19 rfl (by kernel_rfl) (ls' := #[true, true, true, true, true, true, true, true, true, true, true, true, true, true, true, true, true, true, true, true, false]) rfl rfl (g_storew rfl rfl rfl rfl rfl ?_)
            refine d_p 20 rfl (by kernel_rfl) (fun _ => q_assign rfl) rfl (ls' := #[true, true, true, true, true, true, true, true, true, true, true, true, true, true, true, true, true, true, true, true, true]) rfl ?_
            refine d_end (by kernel_rfl) (.inl rfl) ?_
            refine g_then ?_
            refine g_seq ?_
            refine g_seq ?_
            refine g_region ?_
            refine s_q (q_move rfl) rfl ?_
            refine s_q (q_neq rfl rfl) rfl ?_
            refine g_litb 47 (b := false) rfl (by simp [g6]) ?_
            refine g_nil ?_
            refine g_then ?_
            refine g_false rfl ?_
            refine g_skip ?_
            refine g_then ?_
            refine g_seq ?_
            refine d_region [] mixed rfl rfl ?_
            refine d_q 0 rfl (by kernel_rfl) (q_move rfl) wok_sub rfl (ls' := #[true, false, false, false, false, false, false, false, false, false]) rfl ?_
            refine d_q 1 rfl (by kernel_rfl) (q_index_arr (i := 0) rfl rfl rfl (by decide)) wok_sub rfl (ls' := #[true, true, false, false, false, false, false, false, false, false]) rfl ?_
            refine d_q 2 rfl (by kernel_rfl) (q_load rfl rfl) wok_sub rfl (ls' := #[true, true, true, false, false, false, false, false, false, false]) rfl ?_
            refine g_val 50 (v' := .int .i64 ((ni : Nat) : Int)) rfl (by rw [hni]) ?_
            refine d_q 3 rfl (by kernel_rfl) (q_loadw rfl rfl) wok_sub rfl (ls' := #[true, true, true, true, false, false, false, false, false, false]) rfl ?_
            refine d_q 5 rfl (by kernel_rfl) (q_index_arr (i := 1) rfl rfl rfl (by decide)) wok_sub rfl (ls' := #[true, true, true, true, false, true, false, false, false, false]) rfl ?_
            refine d_q 6 rfl (by kernel_rfl) (q_load rfl rfl) wok_sub rfl (ls' := #[true, true, true, true, false, true, true, false, false, false]) rfl ?_
            refine g_val 54 (v' := .int .i64 ((nj : Nat) : Int)) rfl (by rw [hnj]) ?_
            refine d_q 7 rfl (by kernel_rfl) (q_loadw rfl rfl) wok_sub rfl (ls' := #[true, true, true, true, false, true, true, true, false, false]) rfl ?_
            refine d_op 4 rfl (by kernel_rfl) (ls' := #[true, true, true, true, true, true, true, true, false, false]) rfl wok_sub (g_ownS [] rfl (fun w1 hw1 ho1 => by have h7 := put7 A_l (l.length) (c_l) (l) (ni) ((apS (l[ni]) (l[nj]) c)) w1 (Rd.ofOld hw1 o_l (by omega) (by simp)) (by first | omega | (simp; omega)) (by first | assumption | omega | (simp; omega)); exact h7) rfl ?_)
            rintro ⟨A52, cap52⟩ _
            refine ⟨_, _, inferInstance, inferInstance, ?_⟩
            refine d_op 8 rfl (by kernel_rfl) (ls' := #[true, true, true, true, true, true, true, true, true, false]) rfl wok_sub (g_ownS [] rfl (fun w1 hw1 ho1 => by have h7 := put7 A52 (((l).set ni ((apS (l[ni]) (l[nj]) c))).length) (cap52) (((l).set ni ((apS (l[ni]) (l[nj]) c)))) (nj) ((apD (l[ni]) (l[nj]) c)) w1 (Rd.ofRow (A := A52) hw1) (by first | omega | (simp; omega)) (by first | assumption | omega | (simp; omega)); exact h7) rfl ?_)
            rintro ⟨A56, cap56⟩ _
            refine ⟨_, _, inferInstance, inferInstance, ?_⟩
            obtain ⟨mm, hm⟩ : ∃ m, m = ((l.set ni (apS (l[ni]) (l[nj]) c)).set nj (apD (l[ni]) (l[nj]) c)) := ⟨_, rfl⟩
            rw [← hm]
            rw [step_in hni hnj hi hj g6, hni, hnj] at hm
            simp only [Int.toNat_natCast] at hm
            have hml : mm.length = l.length := by rw [hm, mvN_len]
            have hmo : okV mm := by rw [hm]; exact okV_mv (fun x hx => (k_l x hx).bal)
            have hch := chain8 (c := c) hi hj (by omega)
            rw [← hm, ← hni, ← hnj] at hch
            refine d_q 9 rfl (by kernel_rfl) (q_assign rfl) wok_sub rfl (ls' := #[true, true, true, true, true, true, true, true, true, true]) rfl ?_
            refine d_end (by kernel_rfl) (.inr wok_sub) ?_
            refine g_then ?_
            refine g_seq ?_
            refine g_region ?_
            refine g_op (g_pure rfl (fun w1 hw1 => alive_any w1) rfl ?_)
            refine s_q (q_move rfl) rfl ?_
            refine s_qg (q_move rfl) rfl rfl rfl ?_
            refine s_qg (q_index_arr (i := 0) rfl rfl rfl (by decide)) rfl rfl rfl ?_
            refine s_qg (q_load rfl rfl) rfl rfl rfl ?_
            refine s_qg (q_index_arr (i := 1) rfl rfl rfl (by decide)) rfl rfl rfl ?_
            refine s_qg (q_load rfl rfl) rfl rfl rfl ?_
            refine s_qg (q_loadw rfl rfl) rfl rfl rfl ?_
            refine g_gt rfl rfl (g_pure rfl (fun w1 hw1 => req_any A56 (mm.length) (cap56) (mm) (_) (_) _ w1 (Rdb.toOld (InRow.rdb (A := A56) (els := (mm).map V.c) (by first | rfl | assumption | (simp; done) | (simp_all; done) | (simp; omega) | (simp_all; omega)) (map_cat (c := V.c) (fun _ => rfl) _)) hw1) hmo (by first | omega | (simp; omega))) rfl ?_)
            refine s_qg (q_eql rfl rfl) rfl rfl rfl ?_
            refine g_litb 66 (b := true) rfl (by simp [hch.1]) ?_
            refine s_q (q_pick_t rfl rfl) rfl ?_
            refine s_q (q_move rfl) rfl ?_
            refine s_qg (q_move rfl) rfl rfl rfl ?_
            refine s_qg (q_index_arr (i := 1) rfl rfl rfl (by decide)) rfl rfl rfl ?_
            refine s_qg (q_load rfl rfl) rfl rfl rfl ?_
            refine s_qg (q_index_arr (i := 0) rfl rfl rfl (by decide)) rfl rfl rfl ?_
            refine s_qg (q_load rfl rfl) rfl rfl rfl ?_
            refine s_qg (q_loadw rfl rfl) rfl rfl rfl ?_
            refine g_gt rfl rfl (g_pure rfl (fun w1 hw1 => req_any A56 (mm.length) (cap56) (mm) (_) (_) _ w1 (Rdb.toOld (InRow.rdb (A := A56) (els := (mm).map V.c) (by first | rfl | assumption | (simp; done) | (simp_all; done) | (simp; omega) | (simp_all; omega)) (map_cat (c := V.c) (fun _ => rfl) _)) hw1) hmo (by first | omega | (simp; omega))) rfl ?_)
            refine s_qg (q_eql rfl rfl) rfl rfl rfl ?_
            refine g_litb 76 (b := true) rfl (by simp [hch.2]) ?_
            refine s_q (q_pick_t rfl rfl) rfl ?_
            refine s_q (q_assign rfl) rfl ?_
            refine g_nil ?_
            refine g_then ?_
            refine g_ret ?_
            exact fin1 rfl (.tmp rfl) (fun w' hw' => ⟨by first | rfl | (simp_all; done) | (simp_all; omega), hw'.upd⟩) _ (.inl rfl)
          · refine d_op 11 rfl (by kernel_rfl) (ls' := #[true, true, true, true, true, true, true, true, true, true, true, true, false, false, false, false, true, true, false, false, false]) rfl wok_sub (g_pure rfl (fun w1 hw1 => apply_any _ _ c w1 bi bj) rfl ?_)
            refine d_q 12 rfl (by kernel_rfl) (q_move rfl) wok_sub rfl (ls' := #[true, true, true, true, true, true, true, true, true, true, true, true, true, false, false, false, true, true, false, false, false]) rfl ?_
            refine d_q 13 rfl (by kernel_rfl) (q_extract rfl rfl) wok_sub rfl (ls' := #[true, true, true, true, true, true, true, true, true, true, true, true, true, true, false, false, true, true, false, false, false]) rfl ?_
            refine d_p 14 rfl (by kernel_rfl) (fun _ => q_extract rfl rfl) rfl (ls' := #[true, true, true, true, true, true, true, true, true, true, true, true, true, true, true, false, true, true, false, false, false]) rfl ?_
            refine d_p 15 rfl (by kernel_rfl) (fun _ => q_extract rfl rfl) rfl (ls' := #[true, true, true, true, true, true, true, true, true, true, true, true, true, true, true, true, true, true, false, false, false]) rfl ?_
            refine d_op 18 rfl (by kernel_rfl) (ls' := #[true, true, true, true, true, true, true, true, true, true, true, true, true, true, true, true, true, true, true, false, false]) rfl wok_sub (g_storew rfl rfl rfl rfl rfl ?_)
            refine d_tail 19 rfl (by kernel_rfl) (ls' := #[true, true, true, true, true, true, true, true, true, true, true, true, true, true, true, true, true, true, true, true, false]) rfl rfl (g_storew rfl rfl rfl rfl rfl ?_)
            refine d_p 20 rfl (by kernel_rfl) (fun _ => q_assign rfl) rfl (ls' := #[true, true, true, true, true, true, true, true, true, true, true, true, true, true, true, true, true, true, true, true, true]) rfl ?_
            refine d_end (by kernel_rfl) (.inl rfl) ?_
            refine g_then ?_
            refine g_seq ?_
            refine g_seq ?_
            refine g_region ?_
            refine s_q (q_move rfl) rfl ?_
            refine s_q (q_neq rfl rfl) rfl ?_
            refine g_litb 47 (b := false) rfl (by simp [g6]) ?_
            refine g_nil ?_
            refine g_then ?_
            refine g_false rfl ?_
            refine g_skip ?_
            refine g_then ?_
            refine g_seq ?_
            refine d_region [] mixed rfl rfl ?_
            refine d_q 0 rfl (by kernel_rfl) (q_move rfl) wok_sub rfl (ls' := #[true, false, false, false, false, false, false, false, false, false]) rfl ?_
            refine d_q 1 rfl (by kernel_rfl) (q_index_arr (i := 0) rfl rfl rfl (by decide)) wok_sub rfl (ls' := #[true, true, false, false, false, false, false, false, false, false]) rfl ?_
            refine d_q 2 rfl (by kernel_rfl) (q_load rfl rfl) wok_sub rfl (ls' := #[true, true, true, false, false, false, false, false, false, false]) rfl ?_
            refine g_val 50 (v' := .int .i64 ((ni : Nat) : Int)) rfl (by rw [hni]) ?_
            refine d_q 3 rfl (by kernel_rfl) (q_loadw rfl rfl) wok_sub rfl (ls' := #[true, true, true, true, false, false, false, false, false, false]) rfl ?_
            refine d_q 5 rfl (by kernel_rfl) (q_index_arr (i := 1) rfl rfl rfl (by decide)) wok_sub rfl (ls' := #[true, true, true, true, false, true, false, false, false, false]) rfl ?_
            refine d_q 6 rfl (by kernel_rfl) (q_load rfl rfl) wok_sub rfl (ls' := #[true, true, true, true, false, true, true, false, false, false]) rfl ?_
            refine g_val 54 (v' := .int .i64 ((nj : Nat) : Int)) rfl (by rw [hnj]) ?_
            refine d_q 7 rfl (by kernel_rfl) (q_loadw rfl rfl) wok_sub rfl (ls' := #[true, true, true, true, false, true, true, true, false, false]) rfl ?_
            refine d_op 4 rfl (by kernel_rfl) (ls' := #[true, true, true, true, true, true, true, true, false, false]) rfl wok_sub (g_ownS [] rfl (fun w1 hw1 ho1 => by have h7 := put7 A_l (l.length) (c_l) (l) (ni) ((apS (l[ni]) (l[nj]) c)) w1 (Rd.ofOld hw1 o_l (by omega) (by simp)) (by first | omega | (simp; omega)) (by first | assumption | omega | (simp; omega)); exact h7) rfl ?_)
            rintro ⟨A52, cap52⟩ _
            refine ⟨_, _, inferInstance, inferInstance, ?_⟩
            refine d_op 8 rfl (by kernel_rfl) (ls' := #[true, true, true, true, true, true, true, true, true, false]) rfl wok_sub (g_ownS [] rfl (fun w1 hw1 ho1 => by have h7 := put7 A52 (((l).set ni ((apS (l[ni]) (l[nj]) c))).length) (cap52) (((l).set ni ((apS (l[ni]) (l[nj]) c)))) (nj) ((apD (l[ni]) (l[nj]) c)) w1 (Rd.ofRow (A := A52) hw1) (by first | omega | (simp; omega)) (by first | assumption | omega | (simp; omega)); exact h7) rfl ?_)
            rintro ⟨A56, cap56⟩ _
            refine ⟨_, _, inferInstance, inferInstance, ?_⟩
            obtain ⟨mm, hm⟩ : ∃ m, m = ((l.set ni (apS (l[ni]) (l[nj]) c)).set nj (apD (l[ni]) (l[nj]) c)) := ⟨_, rfl⟩
            rw [← hm]
            rw [step_in hni hnj hi hj g6, hni, hnj] at hm
            simp only [Int.toNat_natCast] at hm
            have hml : mm.length = l.length := by rw [hm, mvN_len]
            have hmo : okV mm := by rw [hm]; exact okV_mv (fun x hx => (k_l x hx).bal)
            have hch := chain8 (c := c) hi hj (by omega)
            rw [← hm, ← hni, ← hnj] at hch
            refine d_q 9 rfl (by kernel_rfl) (q_assign rfl) wok_sub rfl (ls' := #[true, true, true, true, true, true, true, true, true, true]) rfl ?_
            refine d_end (by kernel_rfl) (.inr wok_sub) ?_
            refine g_then ?_
            refine g_seq ?_
            refine g_region ?_
            refine g_op (g_pure rfl (fun w1 hw1 => alive_any w1) rfl ?_)
            refine s_q (q_move rfl) rfl ?_
            refine s_qg (q_move rfl) rfl rfl rfl ?_
            refine s_qg (q_index_arr (i := 0) rfl rfl rfl (by decide)) rfl rfl rfl ?_
            refine s_qg (q_load rfl rfl) rfl rfl rfl ?_
            refine s_qg (q_index_arr (i := 1) rfl rfl rfl (by decide)) rfl rfl rfl ?_
            refine s_qg (q_load rfl rfl) rfl rfl rfl ?_
            refine s_qg (q_loadw rfl rfl) rfl rfl rfl ?_
            refine g_gt rfl rfl (g_pure rfl (fun w1 hw1 => req_any A56 (mm.length) (cap56) (mm) (_) (_) _ w1 (Rdb.toOld (InRow.rdb (A := A56) (els := (mm).map V.c) (by first | rfl | assumption | (simp; done) | (simp_all; done) | (simp; omega) | (simp_all; omega)) (map_cat (c := V.c) (fun _ => rfl) _)) hw1) hmo (by first | omega | (simp; omega))) rfl ?_)
            refine s_qg (q_eql rfl rfl) rfl rfl rfl ?_
            refine g_litb 66 (b := true) rfl (by simp [hch.1]) ?_
            refine s_q (q_pick_t rfl rfl) rfl ?_
            refine s_q (q_move rfl) rfl ?_
            refine s_qg (q_move rfl) rfl rfl rfl ?_
            refine s_qg (q_index_arr (i := 1) rfl rfl rfl (by decide)) rfl rfl rfl ?_
            refine s_qg (q_load rfl rfl) rfl rfl rfl ?_
            refine s_qg (q_index_arr (i := 0) rfl rfl rfl (by decide)) rfl rfl rfl ?_
            refine s_qg (q_load rfl rfl) rfl rfl rfl ?_
            refine s_qg (q_loadw rfl rfl) rfl rfl rfl ?_
            refine g_gt rfl rfl (g_pure rfl (fun w1 hw1 => req_any A56 (mm.length) (cap56) (mm) (_) (_) _ w1 (Rdb.toOld (InRow.rdb (A := A56) (els := (mm).map V.c) (by first | rfl | assumption | (simp; done) | (simp_all; done) | (simp; omega) | (simp_all; omega)) (map_cat (c := V.c) (fun _ => rfl) _)) hw1) hmo (by first | omega | (simp; omega))) rfl ?_)
            refine s_qg (q_eql rfl rfl) rfl rfl rfl ?_
            refine g_litb 76 (b := true) rfl (by simp [hch.2]) ?_
            refine s_q (q_pick_t rfl rfl) rfl ?_
            refine s_q (q_assign rfl) rfl ?_
            refine g_nil ?_
            refine g_then ?_
            refine g_ret ?_
            exact fin1 rfl (.tmp rfl) (fun w' hw' => ⟨by first | rfl | (simp_all; done) | (simp_all; omega), hw'.upd⟩) _ (.inl rfl)

theorem main_mergeChains (v0 : Value) (v1 : Value) (v2 : Value) (W : World) (a0 : Arg Try.prog W 34 v0) (a1 : Arg Try.prog W 37 v1) (a2 : Arg Try.prog W 26 v2) : Pur Try.prog 5 [v0, v1, v2] W (.bool true) := by
  obtain ⟨A_l, c_l, l, rfl, hle0, hm0, o_l, k_l⟩ := Arg.slice V.c (fun x : V => x.ok) Try.underlying34 (show Try.prog.cellsOf 24 = 7 by kernel_rfl) (by omega) (openV) a0
  have h_l : l.length ≤ c_l ∧ c_l ≤ 9223372036854775807 := ⟨hle0, by unfold maxLen at hm0; omega⟩
  obtain ⟨cs, rfl, f, h⟩ := Arg.arr Try.underlying37 a1
  obtain ⟨p, rfl, k_p⟩ := openPP f cs h
  obtain ⟨cs, rfl, f, h⟩ := Arg.agg Try.underlying26 a2
  obtain ⟨c, rfl, k_c⟩ := openC f cs h
  exact law_mergeChains A_l c_l l p c W o_l h_l k_l k_p k_c

namespace LawMergeChains
open Go.ChangeShapes Go.WideShapes Go.ChangeAt Go.RowKit Go.Eg
set_option linter.unusedVariables false
theorem own : ownKnob Try.prog.godebug = none := by kernel_rfl
theorem laidOut : laidOutB Try.prog = true := by kernel_rfl
set_option maxRecDepth 100000 in
theorem lifted (os : Os) (started : os.Started) (H : Type) (enc : TypeId × Value → H) :
    ReturnsInHanded {} Try.checked os 5 .any (Rows.mergeChainsSpec.pre6 enc Try.prog Try.f5 Rows.mergeChainsRow.domain false) (Rows.mergeChainsSpec.post enc Try.prog Try.f5 false true false false) := by
  refine returnsInHanded_of_change (C := Try.checked) own started (by kernel_rfl) Try.func5
    (ChangeSpec.witness6 (enc := enc) (C := Try.checked) false ⟨#[], #[.slice none 0 0, .agg #[.int .i64 0, .int .i64 0], .agg #[.int .i64 0, .int .i64 0, .int .u64 0, .int .u64 0, .int .u64 0, .int .u64 0, .int .u64 0, .int .u64 0, .int .u64 0, .int .u64 0, .int .i64 0, .int .i64 0, .int .i64 0, .int .i64 0, .int .i64 0, .int .i64 0, .int .i64 0, .int .i64 0, .int .u64 0, .int .u64 0]], []⟩ 8 (by kernel_rfl) (by kernel_rfl) (by kernel_rfl) (by kernel_rfl)) ?_
  intro W base args ds gs before hval0 hW hcnd _
  have hval : ∀ (j : Nat) t v, Try.f5.params[j]? = some t → args[j]? = some v → Value.okWide Try.prog W .any base t v := hval0
  have hW' := hW
  obtain ⟨p, q, hA0, hV, rfl, hfz, hnd⟩ := hW
  have hA : DataW.TrodAll enc Try.prog W 0 (fun _ => true) true Try.f5.params.toList args.toList ds p := hA0
  rw [Try.params5] at hA hval
  obtain ⟨v0, vs0, d0, ds0, p0, q0, hargs, rfl, rfl, h0, r0⟩ := trodAll_cons hA
  obtain ⟨v1, vs1, d1, ds1, p1, q1, rfl, rfl, rfl, h1, r1⟩ := trodAll_cons r0
  obtain ⟨v2, vs2, d2, ds2, p2, q2, rfl, rfl, rfl, h2, r2⟩ := trodAll_cons r1
  obtain ⟨rfl, rfl, rfl⟩ := trodAll_nil r2
  obtain rfl : args = #[v0, v1, v2] := by cases args; simp_all
  obtain ⟨rfl, rfl⟩ := trodVars_none hV
  have a0 := Arg.of h0 (hval 0 34 v0 rfl rfl)
  have lt0 : ∀ x ∈ p0, x.block < W.heap.size := by obtain ⟨m, hm⟩ := h0; exact DataW.trod_lt m _ _ _ hm
  have a1 := Arg.of h1 (hval 1 37 v1 rfl rfl)
  have lt1 : ∀ x ∈ p1, x.block < W.heap.size := by obtain ⟨m, hm⟩ := h1; exact DataW.trod_lt m _ _ _ hm
  have a2 := Arg.of h2 (hval 2 26 v2 rfl rfl)
  have lt2 : ∀ x ∈ p2, x.block < W.heap.size := by obtain ⟨m, hm⟩ := h2; exact DataW.trod_lt m _ _ _ hm
  clear hA0 hval0
  simp only [List.append_nil] at hW'
  refine Calls.mono (main_mergeChains v0 v1 v2 W a0 a1 a2) ?_
  rintro e W' ⟨v, rfl, rfl, hu⟩
  have bel := hu.below
  have targ := (trodAll_cons_mk (Below.trod laidOut (by kernel_rfl) (of_decide_eq_true (by kernel_rfl)) h0 bel lt0) (trodAll_cons_mk (Below.trod laidOut (by kernel_rfl) (of_decide_eq_true (by kernel_rfl)) h1 bel lt1) (trodAll_cons_mk (Below.trod laidOut (by kernel_rfl) (of_decide_eq_true (by kernel_rfl)) h2 bel lt2) trodAll_mk0)))
  simp only [List.append_nil] at targ
  exact ⟨_, rfl, _, _, _, [], _, [], hW', trodAll_mk1 (shut_bool Try.underlying4 _), targ, rfl, bel.frame _, fun h => by cases h⟩
theorem over : Rows.mergeChainsRow.holds Try.pinned (OpenSpec.ofChange Rows.mergeChainsSpec) :=
  OpenClaim.holds_of_wide 5 Try.f5 rfl rfl rfl rfl rfl rfl rfl ⟨rfl, rfl, rfl, rfl, rfl⟩ rfl rfl rfl rfl rfl (by kernel_rfl) Try.func5 (by kernel_rfl)
    (of_decide_eq_true (by kernel_rfl)) (by unfold Func.isWrapper; first | (rw [if_pos (by decide +kernel)]; kernel_rfl) | (rw [if_neg (by decide +kernel)]; exact ⟨rfl, rfl⟩))
    (fun os started H enc _ => lifted os started H enc)
theorem proved : Rows.MergeChainsSaid := over
end LawMergeChains
end Go.Proofs.Ytljdhdlemakcaaa
