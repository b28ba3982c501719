/- walk of the reference forecast -/
import Derived.Test.YtmolaicpbaiioaaWQ
import Derived.Test.YtmolaicpbaiioaaP
namespace Go.Proofs.Ytmolaicpbaiioaa
open Go.RowKit Go.Eg
set_option synthInstance.maxSize 3000
set_option linter.unusedSimpArgs false
set_option linter.unusedVariables false
set_option maxRecDepth 100000
theorem fc_skip {lim : Int} (hl : 0 ≤ lim) {ws : List Int} {k b : Int} (hk : 0 < k ∧ k < 2147483648) (hw : ∀ w, ws.head? = some w → b < w) : fcF lim ws k b = fcF lim ws (k + 1) (b + lim) := by
  match ws with
  | [] => rfl
  | w :: ws =>
    have h0 := hw w rfl
    unfold fcF
    rw [if_pos hk.1, if_pos (show 0 < k + 1 by omega), if_neg (by omega)]
    by_cases hz : lim = 0
    · subst hz
      rw [if_pos (.inl rfl), if_neg (by omega), if_pos (.inl rfl), Int.add_zero]
    · have hp : 0 < lim := by omega
      have e1 : ceilV (w - b) lim = (w - b - 1) / lim + 1 := by unfold ceilV; rw [if_neg hz, if_neg (by omega)]
      by_cases hc : w ≤ b + lim
      · have e2 : (w - b - 1) / lim = 0 := Int.ediv_eq_zero_of_lt (by omega) (by omega)
        have e3 : ceilV (w - b) lim = 1 := by omega
        rw [if_pos hc, e3, if_neg (by omega), Int.mul_one]
      · have e2 : ceilV (w - (b + lim)) lim = (w - (b + lim) - 1) / lim + 1 := by unfold ceilV; rw [if_neg hz, if_neg (by omega)]
        have e3 : (w - b - 1) / lim = (w - (b + lim) - 1) / lim + 1 := by
          have : w - b - 1 = (w - (b + lim) - 1) + lim * 1 := by omega
          rw [this, Int.add_mul_ediv_left _ _ (by omega)]
        have e4 : ceilV (w - b) lim = ceilV (w - (b + lim)) lim + 1 := by omega
        have e5 : 0 ≤ (w - (b + lim) - 1) / lim := Int.ediv_nonneg (by omega) (by omega)
        rw [if_neg hc, e4]
        generalize ceilV (w - (b + lim)) lim = nd at *
        by_cases hm : lim = 0 ∨ 2147483648 < nd + 1 ∨ 2147483648 < k + (nd + 1)
        · rw [if_pos hm, if_pos (by omega)]
          congr 1
          have q : ∀ {ws : List Int} {b c : Int}, fcF lim ws (-1) b = fcF lim ws (-1) c := by
            intro ws
            induction ws with
            | nil => intros; rfl
            | cons w ws ih => intro b c; unfold fcF; rw [if_neg (by omega), if_neg (by omega), ih]
          exact q
        · rw [if_neg hm, if_neg (by omega)]
          have q1 : k + (nd + 1) = k + 1 + nd := by omega
          have q2 : b + lim * (nd + 1) - w = b + lim + lim * nd - w := by rw [Int.mul_add, Int.mul_one]; omega
          rw [q1, q2]
theorem fc_neg {lim : Int} : ∀ {ws : List Int} {b : Int}, ∀ x ∈ fcF lim ws (-1) b, x = -1
  | [], _, x, h => by simp [fcF] at h
  | w :: ws, b, x, h => by
    unfold fcF at h
    rw [if_neg (by omega)] at h
    rcases List.mem_cons.1 h with h | h
    · exact h
    · exact fc_neg x h
theorem fc_late {lim : Int} (hl : 0 ≤ lim) : ∀ {ws : List Int} {k b : Int}, 0 < k → ∀ x ∈ fcF lim ws k b, x = -1 ∨ k ≤ x
  | [], _, _, _, x, h => by simp [fcF] at h
  | w :: ws, k, b, hk, x, h => by
    unfold fcF at h
    rw [if_pos hk] at h
    by_cases hc : w ≤ b
    · rw [if_pos hc] at h
      rcases List.mem_cons.1 h with h | h
      · omega
      · exact fc_late hl hk x h
    · rw [if_neg hc] at h
      by_cases hm : lim = 0 ∨ 2147483648 < ceilV (w - b) lim ∨ 2147483648 < k + ceilV (w - b) lim
      · rw [if_pos hm] at h
        rcases List.mem_cons.1 h with h | h
        · exact .inl h
        · exact .inl (fc_neg x h)
      · rw [if_neg hm] at h
        have hn2 : 0 ≤ ceilV (w - b) lim := by
          unfold ceilV
          split
          · omega
          · split
            · omega
            · have := Int.ediv_nonneg (show 0 ≤ w - b - 1 by omega) hl
              omega
        rcases List.mem_cons.1 h with h | h
        · omega
        · rcases fc_late hl (by omega) x h with h | h
          · exact .inl h
          · omega
theorem fcF_no {lim : Int} (hl : 0 < lim) : ∀ {ws : List Int} {k b : Int}, (∀ w ∈ ws, 0 ≤ w) → 0 < k → ws.sum + k * lim - b ≤ lim * 2147483648 → ∀ x ∈ fcF lim ws k b, x ≠ -1
  | [], _, _, _, _, _, x, h => by simp [fcF] at h
  | w :: ws, k, b, hw, hk, hs, x, h => by
    have hw0 := hw w (by simp)
    have hws := sum_nn (l := ws) fun y hy => hw y (by simp [hy])
    simp only [List.sum_cons] at hs
    unfold fcF at h
    rw [if_pos hk] at h
    by_cases hc : w ≤ b
    · rw [if_pos hc] at h
      rcases List.mem_cons.1 h with h | h
      · omega
      · exact fcF_no hl (fun y hy => hw y (by simp [hy])) hk (by omega) x h
    · have e1 : ceilV (w - b) lim = (w - b - 1) / lim + 1 := by unfold ceilV; rw [if_neg (by omega), if_neg (by omega)]
      have e2 : (w - b - 1) / lim < 2147483648 - k := by
        apply Int.ediv_lt_of_lt_mul hl
        rw [Int.sub_mul]; omega
      have e3 : 0 ≤ (w - b - 1) / lim := Int.ediv_nonneg (by omega) (by omega)
      rw [if_neg hc] at h
      generalize ceilV (w - b) lim = nd at *
      rw [if_neg (by omega)] at h
      rcases List.mem_cons.1 h with h | h
      · omega
      · refine fcF_no hl (fun y hy => hw y (by simp [hy])) (by omega) ?_ x h
        rw [Int.add_mul, Int.mul_comm lim nd]; omega
theorem sum_bd : ∀ {l : List Int}, (∀ x ∈ l, x ≤ 4294967295) → l.sum ≤ 4294967295 * (l.length : Int)
  | [], _ => by simp
  | a :: l, h => by
    have := sum_bd (l := l) fun y hy => h y (by simp [hy])
    have := h a (by simp)
    simp only [List.sum_cons, List.length_cons]; omega
theorem rdb_drop {κ : Cx} {L : List Res} {A : Option Addr} {cap : Nat} {l out rst : List Int} (hr : Rdb κ L A l.length 1 (l.map fun v : Int => [Value.int .i64 v])) (e : l = out ++ rst) (hc : l.length ≤ cap) : Rdb κ L (subA A cap out.length 1) rst.length 1 (rst.map fun v : Int => [Value.int .i64 v]) := by
  have hle : out.length ≤ l.length := by rw [e]; simp
  have h8 := Rdb.sub hr (cap := cap) (l := out.length) (h := l.length) hle (Nat.le_refl _) hc
  have e1 : l.length - out.length = rst.length := by rw [e]; simp
  rw [e1] at h8
  have e2 : ((l.map fun v : Int => [Value.int .i64 v]).drop out.length).take rst.length = rst.map fun v : Int => [Value.int .i64 v] := by
    rw [e, List.map_append, List.drop_left' (by simp), List.take_of_length_le (by simp)]
  rw [e2] at h8
  exact h8
theorem rdb_take' {κ : Cx} {L : List Res} {A : Option Addr} {cap : Nat} {l : List Int} {h : Nat} (hr : Rdb κ L A l.length 1 (l.map fun v : Int => [Value.int .i64 v])) (hh : h ≤ l.length) (hc : l.length ≤ cap) : Rdb κ L (subA A cap 0 1) h 1 ((l.take h).map fun v : Int => [Value.int .i64 v]) := by
  have h8 := Rdb.sub hr (cap := cap) (l := 0) (h := h) (Nat.zero_le _) hh hc
  rw [Nat.sub_zero, List.drop_zero, ← List.map_take] at h8
  exact h8

set_option maxHeartbeats 400000 in
theorem rforecast_any (bal lim : Nat) (B : Option Addr) (bc : Nat) (l : List Int) (w : World) (ha : Old w B l.length 1 (l.map (fun v : Int => [Value.int .u64 v]))) (hl : okU l) (hb9 : bal < 4294967296) (hl2 : lim < 4294967296) (hn9 : l.length ≤ 100000) : Own2 (ι := (Option Addr × Nat × List Int)) Try.prog 17 [.int .u64 ((bal : Nat) : Int), .int .u64 ((lim : Nat) : Int), .slice B l.length bc, .int .i64 300] w [] (fun x => (∃ b, (fcV ((bal : Nat) : Int) ((lim : Nat) : Int) l) = x.2.2 ++ fcF ((lim : Nat) : Int) (l.drop x.2.2.length) 301 b) ∧ x.2.2.length ≤ l.length) (fun x => .slice x.1 x.2.2.length x.2.1) (fun x => [Res.row x.1 (x.2.2).length x.2.1 3 1 ((x.2.2).map (fun v : Int => [Value.int .i64 v]))]) (fun x => []) := by
  refine g_start Try.func17 rfl 52 rfl (by simp) (fps []) [] (WOK.start _ _) _ rfl ?_
  refine g_seq ?_
  refine g_region ?_
  refine s_q (q_assign rfl) rfl ?_
  refine g_nil ?_
  refine g_then ?_
  refine g_seq ?_
  refine g_region ?_
  refine s_q (q_assign rfl) rfl ?_
  refine g_nilrow 9 3 1 rfl fun Az1 capz1 hcz1 => ?_
  refine g_rowels (A := Az1) (([] : List Int).map (fun v : Int => [Value.int .i64 v])) rfl ?_
  refine g_nil ?_
  refine g_then ?_
  refine g_seq ?_
  refine g_seq ?_
  refine g_region ?_
  refine s_q (q_assign rfl) rfl ?_
  refine g_nil ?_
  refine g_then ?_
  refine g_block ?_
  refine g_loopk [1, 2, 3, 8] (fun (x : Nat × Int × List Int × Option Addr × Nat) => [(10, .int .i64 ((x.1 : Nat) : Int)), (9, .slice x.2.2.2.1 x.2.2.1.length x.2.2.2.2), (0, .int .u64 x.2.1)]) (fun (x : Nat × Int × List Int × Option Addr × Nat) => [Res.row x.2.2.2.1 (x.2.2.1).length x.2.2.2.2 3 1 ((x.2.2.1).map (fun v : Int => [Value.int .i64 v]))]) (fun (x : Nat × Int × List Int × Option Addr × Nat) => 1 ≤ x.1 ∧ x.1 ≤ 301 ∧ 0 ≤ x.2.1 ∧ x.2.1 ≤ 4294967296 * (x.1 : Int) ∧ x.2.2.1.length ≤ l.length ∧ (fcV ((bal : Nat) : Int) ((lim : Nat) : Int) l) = x.2.2.1 ++ fcF ((lim : Nat) : Int) (l.drop x.2.2.1.length) ((x.1 : Nat) : Int) (x.2.1 + ((lim : Nat) : Int))) (fun (x : Nat × Int × List Int × Option Addr × Nat) => 302 - x.1) (1, ((bal : Nat) : Int), [], Az1, capz1) (by (try dsimp only); exact ⟨(by omega), (by omega), (by omega), (by omega), (by simp), rfl⟩) rfl (by repeat (first | exact trivial | refine ⟨rfl, ?_⟩)) wok_sub ?_
  rintro ⟨k, b, out, A, cap⟩ ⟨hk1, hk2, hb0, hb1, ho, hs⟩
  replace hk1 : 1 ≤ k := hk1
  replace hk2 : k ≤ 301 := hk2
  replace hb0 : 0 ≤ b := hb0
  replace hb1 : b ≤ 4294967296 * (k : Int) := hb1
  replace ho : out.length ≤ l.length := ho
  replace hs : (fcV ((bal : Nat) : Int) ((lim : Nat) : Int) l) = out ++ fcF ((lim : Nat) : Int) (l.drop out.length) ((k : Nat) : Int) (b + ((lim : Nat) : Int)) := hs
  refine g_setL (L' := [Res.row A (out).length cap 3 1 ((out).map (fun v : Int => [Value.int .i64 v]))]) rfl ?_
  refine g_val 10 (v' := .int .i64 ((k : Nat) : Int)) rfl rfl ?_
  refine g_val 9 (v' := .slice A out.length cap) rfl rfl ?_
  refine g_val 0 (v' := .int .u64 b) rfl rfl ?_
  refine g_seq ?_
  refine g_seq ?_
  refine g_region ?_
  refine s_q (q_move rfl) rfl ?_
  refine s_q (q_move rfl) rfl ?_
  refine s_q (q_leq rfl rfl) rfl ?_
  refine s_q (q_move rfl) rfl ?_
  refine g_split 14 rfl (fun h1 => ?_) (fun h1 => ?_)
  · have hk9 : k ≤ 300 := by have h9 := of_decide_eq_true h1; omega
    refine s_qg (q_move rfl) rfl rfl rfl ?_
    refine s_qg (q_len rfl) rfl rfl rfl ?_
    refine s_qg (q_move rfl) rfl rfl rfl ?_
    refine s_qg (q_len rfl) rfl rfl rfl ?_
    refine s_qg (q_lss rfl rfl) rfl rfl rfl ?_
    refine s_q (q_pick_t rfl rfl) rfl ?_
    refine g_nil ?_
    refine g_then ?_
    refine g_cond rfl (fun h2 => ?_) (fun h2 => ?_)
    · refine g_skip ?_
      refine g_then ?_
      refine g_seq ?_
      refine g_block ?_
      refine g_seq ?_
      refine g_region ?_
      refine s_q (q_move rfl) rfl ?_
      refine s_q (q_move rfl) rfl ?_
      refine s_q (q_addz (z := b + ((lim : Nat) : Int)) rfl rfl (wu64 (by omega) (by omega))) rfl ?_
      refine s_q (q_assign rfl) rfl ?_
      refine g_nil ?_
      refine g_then ?_
      refine g_block ?_
      refine g_loopk [1, 2, 3, 8, 10] (fun (x : Int × List Int × Option Addr × Nat) => [(9, .slice x.2.2.1 x.2.1.length x.2.2.2), (0, .int .u64 x.1)]) (fun (x : Int × List Int × Option Addr × Nat) => [Res.row x.2.2.1 (x.2.1).length x.2.2.2 3 1 ((x.2.1).map (fun v : Int => [Value.int .i64 v]))]) (fun (x : Int × List Int × Option Addr × Nat) => 0 ≤ x.1 ∧ x.1 ≤ 4294967296 * ((k : Int) + 1) ∧ x.2.1.length ≤ l.length ∧ (fcV ((bal : Nat) : Int) ((lim : Nat) : Int) l) = x.2.1 ++ fcF ((lim : Nat) : Int) (l.drop x.2.1.length) ((k : Nat) : Int) x.1) (fun (x : Int × List Int × Option Addr × Nat) => l.length - x.2.1.length) ((b + ((lim : Nat) : Int)), out, A, cap) (by (try dsimp only); exact ⟨(by omega), (by omega), ho, hs⟩) rfl (by repeat (first | exact trivial | refine ⟨rfl, ?_⟩)) wok_sub ?_
      rintro ⟨b2, ou, A2, cap2⟩ ⟨hb20, hb21, ho2, hs2⟩
      replace hb20 : 0 ≤ b2 := hb20
      replace hb21 : b2 ≤ 4294967296 * ((k : Int) + 1) := hb21
      replace ho2 : ou.length ≤ l.length := ho2
      replace hs2 : (fcV ((bal : Nat) : Int) ((lim : Nat) : Int) l) = ou ++ fcF ((lim : Nat) : Int) (l.drop ou.length) ((k : Nat) : Int) b2 := hs2
      refine g_setL (L' := [Res.row A2 (ou).length cap2 3 1 ((ou).map (fun v : Int => [Value.int .i64 v]))]) rfl ?_
      refine g_val 9 (v' := .slice A2 ou.length cap2) rfl rfl ?_
      refine g_val 0 (v' := .int .u64 b2) rfl rfl ?_
      refine g_seq ?_
      refine g_seq ?_
      refine g_region ?_
      refine s_q (q_move rfl) rfl ?_
      refine s_q (q_len rfl) rfl ?_
      refine s_q (q_move rfl) rfl ?_
      refine s_q (q_len rfl) rfl ?_
      refine s_q (q_lss rfl rfl) rfl ?_
      refine s_q (q_move rfl) rfl ?_
      refine g_split 31 rfl (fun h3 => ?_) (fun h3 => ?_)
      · have lo : ou.length < l.length := by have h9 := of_decide_eq_true h3; omega
        have hwU := hl l[ou.length] (List.getElem_mem lo)
        refine s_qg (q_move rfl) rfl rfl rfl ?_
        refine s_qg (q_move rfl) rfl rfl rfl ?_
        refine s_qg (q_len rfl) rfl rfl rfl ?_
        refine s_qg (q_index (i := ou.length) rfl rfl rfl (ha.rdb rfl) (by first | omega | (simp; done) | (simp; omega))) rfl rfl rfl ?_
        refine s_qg (q_load_el (i := ou.length) (o := 0) rfl (ha.rdb rfl) (map_get (by first | assumption | omega)) rfl rfl) rfl rfl rfl ?_
        refine s_qg (q_move rfl) rfl rfl rfl ?_
        refine s_qg (q_leq rfl rfl) rfl rfl rfl ?_
        refine s_q (q_pick_t rfl rfl) rfl ?_
        refine g_nil ?_
        refine g_then ?_
        refine g_cond rfl (fun h4 => ?_) (fun h4 => ?_)
        · have hc9 : l[ou.length] ≤ b2 := of_decide_eq_true h4
          refine g_skip ?_
          refine g_then ?_
          refine g_block ?_
          refine g_seq ?_
          refine g_region ?_
          refine s_q (q_move rfl) rfl ?_
          refine s_q (q_move rfl) rfl ?_
          refine s_q (q_move rfl) rfl ?_
          refine s_q (q_len rfl) rfl ?_
          refine s_q (q_index (i := ou.length) rfl rfl rfl (ha.rdb rfl) (by first | omega | (simp; done) | (simp; omega))) rfl ?_
          refine s_q (q_load_el (i := ou.length) (o := 0) rfl (ha.rdb rfl) (map_get (by first | assumption | omega)) rfl rfl) rfl ?_
          refine s_q (q_subz (z := b2 - l[ou.length]) rfl rfl (wu64 (by omega) (by omega))) rfl ?_
          refine s_q (q_assign rfl) rfl ?_
          refine g_nil ?_
          refine g_then ?_
          refine g_region ?_
          refine s_q (q_move rfl) rfl ?_
          refine s_q (q_move rfl) rfl ?_
          refine g_op (g_lit rfl rfl rfl rfl rfl fun b49 => ?_)
          refine g_blkc (b := b49) ((([((k : Nat) : Int)] : List Int).map (fun v : Int => [Value.int .i64 v])).flatten) rfl ?_
          refine g_op (g_append (A := A2) (els := (ou).map (fun v : Int => [Value.int .i64 v])) (news := (([((k : Nat) : Int)] : List Int).map (fun v : Int => [Value.int .i64 v]))) rfl rfl (InL.rdb (b := b49) rfl (by simp) rfl) (map_one (c := (fun v : Int => [Value.int .i64 v])) (by intro x; simp [Value.oneCell']) _) (by first | omega | (simp; omega) | (simp_all; omega)) rfl fun A50 cap50 => ⟨_, inferInstance, ?_⟩)
          refine g_rowels (A := A50) (((ou ++ [((k : Nat) : Int)])).map (fun v : Int => [Value.int .i64 v])) (by first | rfl | exact List.map_append.symm | (simp; done)) ?_
          refine s_q (q_assign rfl) rfl ?_
          refine g_nil ?_
          refine g_blk_n ?_
          refine g_rown (A := A50) ((ou ++ [((k : Nat) : Int)])).length (by simp) ?_
          refine g_val 9 (v' := .slice A50 ((ou ++ [((k : Nat) : Int)])).length cap50) rfl (by simp) ?_
          exact g_again ((b2 - l[ou.length]), (ou ++ [((k : Nat) : Int)]), A50, cap50) (by (try dsimp only); exact ⟨(by omega), (by omega), (by simp; omega), (by rw [hs2, fc_c lo (by omega) hc9]; simp)⟩) (by simp only [List.length_append, List.length_cons, List.length_nil]; omega) (by repeat (first | exact trivial | refine ⟨rfl, ?_⟩)) wok_sub
        · have hc9 : ¬ l[ou.length] ≤ b2 := of_decide_eq_false h4
          refine g_exit ?_
          refine g_then_x (g_then_x (g_blk_hit ?_))
          refine g_blk_n ?_
          refine g_then ?_
          refine g_region ?_
          refine s_q (q_move rfl) rfl ?_
          refine s_q (q_inc rfl rfl (by omega)) rfl ?_
          refine s_q (q_assign rfl) rfl ?_
          refine g_nil ?_
          exact g_again ((k + 1), b2, ou, A2, cap2) (by (try dsimp only); exact ⟨(by omega), (by omega), hb20, (by omega), ho2, (by rw [hs2, fc_skip (by omega) (by omega) (fun w hw => by rw [List.drop_eq_getElem_cons lo] at hw; have h9 := Option.some.inj hw; omega)]; rfl)⟩) (by dsimp only; omega) (by repeat (first | exact trivial | refine ⟨rfl, ?_⟩)) wok_sub
      · have lo9 : l.length ≤ ou.length := by have h9 := of_decide_eq_false h3; omega
        refine g_gf rfl rfl rfl rfl ?_
        refine g_gf rfl rfl rfl rfl ?_
        refine g_gf rfl rfl rfl rfl ?_
        refine g_gf rfl rfl rfl rfl ?_
        refine g_gf rfl rfl rfl rfl ?_
        refine g_gf rfl rfl rfl rfl ?_
        refine g_gf rfl rfl rfl rfl ?_
        refine s_q (q_pick_f rfl rfl) rfl ?_
        refine g_nil ?_
        refine g_then ?_
        refine g_false rfl ?_
        refine g_exit ?_
        refine g_then_x (g_then_x (g_blk_hit ?_))
        refine g_blk_n ?_
        refine g_then ?_
        refine g_region ?_
        refine s_q (q_move rfl) rfl ?_
        refine s_q (q_inc rfl rfl (by omega)) rfl ?_
        refine s_q (q_assign rfl) rfl ?_
        refine g_nil ?_
        exact g_again ((k + 1), b2, ou, A2, cap2) (by (try dsimp only); exact ⟨(by omega), (by omega), hb20, (by omega), ho2, (by rw [hs2, fc_skip (by omega) (by omega) (fun w hw => by rw [List.drop_eq_nil_of_le (by omega)] at hw; simp at hw)]; rfl)⟩) (by dsimp only; omega) (by repeat (first | exact trivial | refine ⟨rfl, ?_⟩)) wok_sub
    · have ho9 : out.length = l.length := by have h9 := of_decide_eq_false h2; omega
      refine g_exit ?_
      refine g_then_x (g_then_x (g_blk_hit ?_))
      refine g_then ?_
      refine g_seq ?_
      refine g_region ?_
      refine s_q (q_move rfl) rfl ?_
      refine s_q (q_assign rfl) rfl ?_
      refine g_nil ?_
      refine g_then ?_
      refine g_ret ?_
      exact fin1 rfl (.tmp rfl) (fun w' hw' => ⟨(A, cap, out), (by first | exact ⟨⟨0, by rw [hs, List.drop_eq_nil_of_le (by omega)]; rfl⟩, ho⟩ | (dsimp only; exact ⟨⟨0, by rw [hs, List.drop_eq_nil_of_le (by omega)]; rfl⟩, ho⟩)), by first | rfl | (simp_all; done), by have h9 := wok_sub (L' := [Res.row ((A, cap, out)).1 (((A, cap, out)).2.2).length ((A, cap, out)).2.1 3 1 ((((A, cap, out)).2.2).map (fun v : Int => [Value.int .i64 v]))]) w' hw'; exact h9⟩) _ (.inl rfl)
  · have hk9 : k = 301 := by have h9 := of_decide_eq_false h1; omega
    refine g_gf rfl rfl rfl rfl ?_
    refine g_gf rfl rfl rfl rfl ?_
    refine g_gf rfl rfl rfl rfl ?_
    refine g_gf rfl rfl rfl rfl ?_
    refine g_gf rfl rfl rfl rfl ?_
    refine s_q (q_pick_f rfl rfl) rfl ?_
    refine g_nil ?_
    refine g_then ?_
    refine g_false rfl ?_
    refine g_exit ?_
    refine g_then_x (g_then_x (g_blk_hit ?_))
    refine g_then ?_
    refine g_seq ?_
    refine g_region ?_
    refine s_q (q_move rfl) rfl ?_
    refine s_q (q_assign rfl) rfl ?_
    refine g_nil ?_
    refine g_then ?_
    refine g_ret ?_
    exact fin1 rfl (.tmp rfl) (fun w' hw' => ⟨(A, cap, out), (by first | exact ⟨⟨b + ((lim : Nat) : Int), by rw [hs, hk9]; rfl⟩, ho⟩ | (dsimp only; exact ⟨⟨b + ((lim : Nat) : Int), by rw [hs, hk9]; rfl⟩, ho⟩)), by first | rfl | (simp_all; done), by have h9 := wok_sub (L' := [Res.row ((A, cap, out)).1 (((A, cap, out)).2.2).length ((A, cap, out)).2.1 3 1 ((((A, cap, out)).2.2).map (fun v : Int => [Value.int .i64 v]))]) w' hw'; exact h9⟩) _ (.inl rfl)
end Go.Proofs.Ytmolaicpbaiioaa
