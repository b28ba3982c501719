/- walk of the stable sort -/
import Derived.Test.YtgbghjnlicldnaaW8
namespace Go.Proofs.Ytgbghjnlicldnaa
open Go.RowKit Go.Eg
set_option synthInstance.maxSize 3000
set_option linter.unusedSimpArgs false
set_option linter.unusedVariables false
set_option maxRecDepth 100000
set_option maxHeartbeats 400000 in
theorem stable_any (A : Option Addr) (n cap : Nat) (d : List En) (w : World) (hw : WOK (fps [Res.row A n cap 50 2 ((d).map En.c)]) w [Res.row A n cap 50 2 ((d).map En.c)] w) (hn : n = d.length) (hn6 : n ≤ 1000000) : Own2 (ι := (List En)) Try.prog 37 [.slice A n cap, .int .i64 ((n : Nat) : Int), .func (.func 32) #[] #[]] w [Res.row A n cap 50 2 ((d).map En.c)] (fun x => Srt x ∧ Same x d ∧ x.length = d.length) (fun x => .tuple #[]) (fun x => []) (fun x => [Res.row A n cap 50 2 ((x).map En.c)]) := by
  refine g_start Try.func37 rfl 63 rfl (by simp) (fps [Res.row A n cap 50 2 ((d).map En.c)]) [Res.row A n cap 50 2 ((d).map En.c)] hw _ rfl ?_
  refine g_seq ?_
  refine g_region ?_
  refine s_q (q_assign rfl) rfl ?_
  refine g_nil ?_
  refine g_then ?_
  refine g_seq ?_
  refine g_region ?_
  refine s_q (q_move rfl) rfl ?_
  refine s_q (q_assign rfl) rfl ?_
  refine s_q (q_assign rfl) rfl ?_
  refine g_nil ?_
  refine g_then ?_
  refine g_seq ?_
  refine g_block ?_
  refine g_loopk [0, 1, 2, 6] (fun (x : Nat × List En × List En) => [(7, .int .i64 (((20 * x.1) : Nat) : Int)), (8, .int .i64 (((20 * x.1 + 20) : Nat) : Int))]) (fun (x : Nat × List En × List En) => [Res.row A n cap 50 2 ((x.2.1).map En.c)]) (fun (x : Nat × List En × List En) => x.2.1 = x.2.2 ++ d.drop (20 * x.1) ∧ (x.2.2).length = x.1 * 20 ∧ Sb 20 x.2.2 ∧ Same x.2.2 (d.take (20 * x.1)) ∧ 20 * x.1 ≤ n ∧ (x.2.1).length = n) (fun (x : Nat × List En × List En) => n - 20 * x.1) (0, d, []) (by (try dsimp only); exact ⟨(by rw [Nat.mul_zero]; rfl), (by simp), (Sb.nil 20), (by rw [Nat.mul_zero]; exact Same.rfl'), (by omega), (by omega)⟩) rfl (by repeat (first | exact trivial | refine ⟨rfl, ?_⟩)) wok_sub ?_
  rintro ⟨q, d1, D⟩ ⟨hd1, lD, sD, eD, hq20, hl1⟩
  replace hd1 : d1 = D ++ d.drop (20 * q) := hd1
  replace lD : (D).length = q * 20 := lD
  replace sD : Sb 20 D := sD
  replace eD : Same D (d.take (20 * q)) := eD
  replace hq20 : 20 * q ≤ n := hq20
  replace hl1 : (d1).length = n := hl1
  refine g_setL (L' := [Res.row A n cap 50 2 ((d1).map En.c)]) rfl ?_
  refine g_val 7 (v' := .int .i64 (((20 * q) : Nat) : Int)) rfl rfl ?_
  refine g_val 8 (v' := .int .i64 (((20 * q + 20) : Nat) : Int)) rfl rfl ?_
  refine g_seq ?_
  refine g_seq ?_
  refine g_region ?_
  refine s_q (q_move rfl) rfl ?_
  refine s_q (q_move rfl) rfl ?_
  refine s_q (q_leq rfl rfl) rfl ?_
  refine g_nil ?_
  refine g_then ?_
  refine g_cond rfl (fun h1 => ?_) (fun h1 => ?_)
  · have hq1 : 20 * q + 20 ≤ n := by have h9 := of_decide_eq_true h1; omega
    refine g_skip ?_
    refine g_then ?_
    refine g_block ?_
    refine g_seq ?_
    refine g_region ?_
    refine s_q (q_move rfl) rfl ?_
    refine s_q (q_move rfl) rfl ?_
    refine s_q (q_move rfl) rfl ?_
    refine s_q (q_move rfl) rfl ?_
    refine g_op (g_ownS [Res.row A n cap 50 2 ((d1).map En.c)] rfl (fun w1 hw1 ho1 => by have h7 := insert_any A n cap d1 D ((d.drop (20 * q)).take 20) (d.drop (20 * q + 20)) ((20 * q)) ((20 * q + 20)) w1 ho1 (by first | omega | (simp only [List.length_append]; omega) | (simp; omega)) hn6 (by rw [hd1, ← List.drop_drop, List.take_append_drop]) (by first | omega | (simp only [List.length_append]; omega) | (simp; omega)) (by first | omega | (simp only [List.length_append]; omega) | (simp; omega)); exact h7) rfl ?_)
    rintro M18 ⟨sm18, em18, lm18⟩
    refine ⟨_, _, inferInstance, inferInstance, ?_⟩
    refine g_nil ?_
    refine g_then ?_
    refine g_seq ?_
    refine g_region ?_
    refine s_q (q_move rfl) rfl ?_
    refine s_q (q_assign rfl) rfl ?_
    refine g_nil ?_
    refine g_then ?_
    refine g_region ?_
    refine s_q (q_move rfl) rfl ?_
    refine s_q (q_move rfl) rfl ?_
    refine s_q (q_addn (a := (20 * q + 20)) (b := 20) rfl rfl (by first | omega | (simp; omega) | (simp_all; omega))) rfl ?_
    refine s_q (q_assign rfl) rfl ?_
    refine g_nil ?_
    refine g_blk_n ?_
    refine g_val 7 (v' := .int .i64 (((20 * (q + 1)) : Nat) : Int)) rfl (by rw [show 20 * (q + 1) = 20 * q + 20 from by omega]) ?_
    refine g_val 8 (v' := .int .i64 (((20 * (q + 1) + 20) : Nat) : Int)) rfl (by rw [show 20 * (q + 1) + 20 = 20 * q + 20 + 20 from by omega]) ?_
    exact g_again ((q + 1), (D ++ (M18 ++ d.drop (20 * q + 20))), (D ++ M18)) (by (try dsimp only); exact ⟨(by rw [List.append_assoc, show 20 * (q + 1) = 20 * q + 20 from by omega]), (by rw [List.length_append, lm18]; simp; omega), (sD.snoc lD (by rw [lm18]; simp; omega) sm18), (by rw [show 20 * (q + 1) = 20 * q + 20 from by omega, List.take_add]; exact Same.app eD em18), (by omega), (by simp only [List.length_append, lm18, List.length_take, List.length_drop]; omega)⟩) (by dsimp only; omega) (by repeat (first | exact trivial | refine ⟨rfl, ?_⟩)) wok_sub
  · have hq1 : n < 20 * q + 20 := by have h9 := of_decide_eq_false h1; omega
    refine g_exit ?_
    refine g_then_x (g_then_x (g_blk_hit ?_))
    refine g_then ?_
    refine g_seq ?_
    refine g_region ?_
    refine s_q (q_move rfl) rfl ?_
    refine s_q (q_move rfl) rfl ?_
    refine s_q (q_move rfl) rfl ?_
    refine s_q (q_move rfl) rfl ?_
    refine g_op (g_ownS [Res.row A n cap 50 2 ((d1).map En.c)] rfl (fun w1 hw1 ho1 => by have h7 := insert_any A n cap d1 D (d.drop (20 * q)) [] ((20 * q)) (n) w1 ho1 (by first | omega | (simp only [List.length_append]; omega) | (simp; omega)) hn6 (by rw [hd1, List.append_nil]) (by first | omega | (simp only [List.length_append]; omega) | (simp; omega)) (by first | omega | (simp only [List.length_append]; omega) | (simp; omega)); exact h7) rfl ?_)
    rintro M27 ⟨sm27, em27, lm27⟩
    refine ⟨_, _, inferInstance, inferInstance, ?_⟩
    refine g_rowels (A := A) ((D ++ M27).map En.c) (by rw [List.append_nil]) ?_
    have hS0 : Sb 20 (D ++ M27) := sD.snoc lD (by rw [lm27]; simp; omega) sm27
    have hE0 : Same (D ++ M27) d := by have h9 := Same.app eD em27; rw [List.take_append_drop] at h9; exact h9
    have hl0 : (D ++ M27).length = n := by rw [List.length_append, lm27]; simp; omega
    refine g_nil ?_
    refine g_then ?_
    refine g_block ?_
    -- MISSING E for slot 7 (carried [6, 7, 8])
    -- MISSING E for slot 8 (carried [6, 7, 8])
    refine g_loopk [0, 1, 2] (fun (x : Nat × List En) => [(6, .int .i64 ((x.1 : Nat) : Int))]) (fun (x : Nat × List En) => [Res.row A n cap 50 2 ((x.2).map En.c)]) (fun (x : Nat × List En) => 1 ≤ x.1 ∧ x.1 ≤ 2 * n + 20 ∧ Sb x.1 x.2 ∧ Same x.2 d ∧ (x.2).length = n) (fun (x : Nat × List En) => n - x.1) (20, (D ++ M27)) (by (try dsimp only); exact ⟨(by omega), (by omega), hS0, hE0, hl0⟩) rfl (by repeat (first | exact trivial | refine ⟨rfl, ?_⟩)) wok_sub ?_
    rintro ⟨bs, d2⟩ ⟨hbs0, hbs, hS, hE, hl2⟩
    replace hbs0 : 1 ≤ bs := hbs0
    replace hbs : bs ≤ 2 * n + 20 := hbs
    replace hS : Sb bs d2 := hS
    replace hE : Same d2 d := hE
    replace hl2 : (d2).length = n := hl2
    refine g_setL (L' := [Res.row A n cap 50 2 ((d2).map En.c)]) rfl ?_
    refine g_val 6 (v' := .int .i64 ((bs : Nat) : Int)) rfl rfl ?_
    refine g_seq ?_
    refine g_seq ?_
    refine g_region ?_
    refine s_q (q_move rfl) rfl ?_
    refine s_q (q_move rfl) rfl ?_
    refine s_q (q_lss rfl rfl) rfl ?_
    refine g_nil ?_
    refine g_then ?_
    refine g_cond rfl (fun h2 => ?_) (fun h2 => ?_)
    · have hbn : bs < n := by have h9 := of_decide_eq_true h2; omega
      refine g_skip ?_
      refine g_then ?_
      refine g_block ?_
      refine g_seq ?_
      refine g_region ?_
      refine s_q (q_move rfl) rfl ?_
      refine s_q (q_mulz (z := ((2 * bs : Nat) : Int)) rfl rfl (by rw [wi64 (by omega) (by omega)]; omega)) rfl ?_
      refine s_q (q_assign rfl) rfl ?_
      refine s_q (q_assign rfl) rfl ?_
      refine g_nil ?_
      refine g_then ?_
      refine g_seq ?_
      refine g_block ?_
      refine g_val 8 (v' := .int .i64 (((0 + 2 * bs) : Nat) : Int)) rfl (by rw [Nat.zero_add]) ?_
      refine g_loopk [0, 1, 2, 6] (fun (x : Nat × List En × List En) => [(7, .int .i64 ((x.1 : Nat) : Int)), (8, .int .i64 (((x.1 + 2 * bs) : Nat) : Int))]) (fun (x : Nat × List En × List En) => [Res.row A n cap 50 2 ((x.2.1).map En.c)]) (fun (x : Nat × List En × List En) => (∃ q, x.1 = q * (2 * bs)) ∧ (x.2.2).length = x.1 ∧ x.2.1 = x.2.2 ++ d2.drop x.1 ∧ Sb (2 * bs) x.2.2 ∧ Same x.2.2 (d2.take x.1) ∧ Sb bs (d2.drop x.1) ∧ x.1 ≤ n ∧ (x.2.1).length = n) (fun (x : Nat × List En × List En) => n - x.1) (0, d2, []) (by (try dsimp only); exact ⟨⟨0, by simp⟩, rfl, (by simp), (Sb.nil _), (by rw [List.take_zero]; exact Same.rfl'), (by simpa using hS), (by omega), hl2⟩) rfl (by repeat (first | exact trivial | refine ⟨rfl, ?_⟩)) wok_sub ?_
      rintro ⟨a, d3, D2⟩ ⟨hq, lD2, hd3, sD2, eD2, sR2, han, hl3⟩
      replace hq : ∃ q, a = q * (2 * bs) := hq
      replace lD2 : (D2).length = a := lD2
      replace hd3 : d3 = D2 ++ d2.drop a := hd3
      replace sD2 : Sb (2 * bs) D2 := sD2
      replace eD2 : Same D2 (d2.take a) := eD2
      replace sR2 : Sb bs (d2.drop a) := sR2
      replace han : a ≤ n := han
      replace hl3 : (d3).length = n := hl3
      refine g_setL (L' := [Res.row A n cap 50 2 ((d3).map En.c)]) rfl ?_
      refine g_val 7 (v' := .int .i64 ((a : Nat) : Int)) rfl rfl ?_
      refine g_val 8 (v' := .int .i64 (((a + 2 * bs) : Nat) : Int)) rfl rfl ?_
      refine g_seq ?_
      refine g_seq ?_
      refine g_region ?_
      refine s_q (q_move rfl) rfl ?_
      refine s_q (q_move rfl) rfl ?_
      refine s_q (q_leq rfl rfl) rfl ?_
      refine g_nil ?_
      refine g_then ?_
      refine g_cond rfl (fun h3 => ?_) (fun h3 => ?_)
      · have hab : a + 2 * bs ≤ n := by have h9 := of_decide_eq_true h3; omega
        refine g_skip ?_
        refine g_then ?_
        refine g_block ?_
        refine g_seq ?_
        refine g_region ?_
        refine s_q (q_move rfl) rfl ?_
        refine s_q (q_move rfl) rfl ?_
        refine s_q (q_move rfl) rfl ?_
        refine s_q (q_move rfl) rfl ?_
        refine s_q (q_addn (a := a) (b := bs) rfl rfl (by first | omega | (simp; omega) | (simp_all; omega))) rfl ?_
        refine s_q (q_move rfl) rfl ?_
        refine s_q (q_move rfl) rfl ?_
        refine g_op (g_ownS [Res.row A n cap 50 2 ((d3).map En.c)] rfl (fun w1 hw1 ho1 => by have h7 := sym_any _ A n cap d3 D2 ((d2.drop a).take bs) (((d2.drop a).drop bs).take bs) (d2.drop (a + 2 * bs)) (a) ((a + bs)) ((a + 2 * bs)) w1 ho1 (by first | omega | (simp only [List.length_append]; omega) | (simp; omega)) hn6 (by rw [hd3, show a + 2 * bs = a + bs + bs from by omega, ← List.drop_drop, ← List.drop_drop, List.take_append_drop, List.take_append_drop]) (by first | omega | (simp only [List.length_append]; omega) | (simp; omega)) (by first | omega | (simp only [List.length_append]; omega) | (simp; omega)) (by first | omega | (simp only [List.length_append]; omega) | (simp; omega)) (by first | omega | (simp only [List.length_append]; omega) | (simp; omega)) (by first | omega | (simp only [List.length_append]; omega) | (simp; omega)) sR2.head sR2.drop.head (Nat.le_refl _); exact h7) rfl ?_)
        rintro M43 ⟨sm43, em43, lm43⟩
        refine ⟨_, _, inferInstance, inferInstance, ?_⟩
        refine g_nil ?_
        refine g_then ?_
        refine g_seq ?_
        refine g_region ?_
        refine s_q (q_move rfl) rfl ?_
        refine s_q (q_assign rfl) rfl ?_
        refine g_nil ?_
        refine g_then ?_
        refine g_region ?_
        refine s_q (q_move rfl) rfl ?_
        refine s_q (q_move rfl) rfl ?_
        refine s_q (q_mulz (z := ((2 * bs : Nat) : Int)) rfl rfl (by rw [wi64 (by omega) (by omega)]; omega)) rfl ?_
        refine s_q (q_addn (a := (a + 2 * bs)) (b := (2 * bs)) rfl rfl (by first | omega | (simp; omega) | (simp_all; omega))) rfl ?_
        refine s_q (q_assign rfl) rfl ?_
        refine g_nil ?_
        refine g_blk_n ?_
        exact g_again ((a + 2 * bs), (D2 ++ (M43 ++ d2.drop (a + 2 * bs))), (D2 ++ M43)) (by (try dsimp only); exact ⟨(by obtain ⟨q2, hq2⟩ := hq; exact ⟨q2 + 1, by rw [hq2]; exact (Nat.succ_mul q2 (2 * bs)).symm⟩), (by rw [List.length_append, lm43]; simp; omega), (by rw [List.append_assoc]), (by obtain ⟨q2, hq2⟩ := hq; exact sD2.snoc (by rw [lD2, hq2]) (by rw [lm43]; simp; omega) sm43), (by rw [show a + 2 * bs = a + (bs + bs) from by omega, List.take_add, List.take_add]; exact Same.app eD2 em43), (by have h9 := sR2.drop.drop; rw [List.drop_drop, List.drop_drop] at h9; rw [show a + 2 * bs = a + (bs + bs) from by omega]; exact h9), (by omega), (by simp only [List.length_append, lm43, List.length_take, List.length_drop]; omega)⟩) (by dsimp only; omega) (by repeat (first | exact trivial | refine ⟨rfl, ?_⟩)) wok_sub
      · have hab : n < a + 2 * bs := by have h9 := of_decide_eq_false h3; omega
        refine g_exit ?_
        refine g_then_x (g_then_x (g_blk_hit ?_))
        refine g_then ?_
        refine g_seq ?_
        refine g_seq ?_
        refine g_region ?_
        refine s_q (q_move rfl) rfl ?_
        refine s_q (q_move rfl) rfl ?_
        refine s_q (q_addn (a := a) (b := bs) rfl rfl (by first | omega | (simp; omega) | (simp_all; omega))) rfl ?_
        refine s_q (q_assign rfl) rfl ?_
        refine g_nil ?_
        refine g_then ?_
        refine g_seq ?_
        refine g_region ?_
        refine s_q (q_move rfl) rfl ?_
        refine s_q (q_move rfl) rfl ?_
        refine s_q (q_lss rfl rfl) rfl ?_
        refine g_nil ?_
        refine g_then ?_
        refine g_cond rfl (fun h4 => ?_) (fun h4 => ?_)
        · have hmn : a + bs < n := by have h9 := of_decide_eq_true h4; omega
          refine g_region ?_
          refine s_q (q_move rfl) rfl ?_
          refine s_q (q_move rfl) rfl ?_
          refine s_q (q_move rfl) rfl ?_
          refine s_q (q_move rfl) rfl ?_
          refine s_q (q_move rfl) rfl ?_
          refine g_op (g_ownS [Res.row A n cap 50 2 ((d3).map En.c)] rfl (fun w1 hw1 ho1 => by have h7 := sym_any _ A n cap d3 D2 ((d2.drop a).take bs) ((d2.drop a).drop bs) [] (a) ((a + bs)) (n) w1 ho1 (by first | omega | (simp only [List.length_append]; omega) | (simp; omega)) hn6 (by rw [hd3, List.append_nil, List.take_append_drop]) (by first | omega | (simp only [List.length_append]; omega) | (simp; omega)) (by first | omega | (simp only [List.length_append]; omega) | (simp; omega)) (by first | omega | (simp only [List.length_append]; omega) | (simp; omega)) (by first | omega | (simp only [List.length_append]; omega) | (simp; omega)) (by first | omega | (simp only [List.length_append]; omega) | (simp; omega)) sR2.head (by have h9 := sR2.drop.head; rw [List.take_of_length_le (by simp; omega)] at h9; exact h9) (Nat.le_refl _); exact h7) rfl ?_)
          rintro M60 ⟨sm60, em60, lm60⟩
          refine ⟨_, _, inferInstance, inferInstance, ?_⟩
          refine g_nil ?_
          refine g_then ?_
          refine g_region ?_
          refine s_q (q_move rfl) rfl ?_
          refine s_q (q_mulz (z := ((2 * bs : Nat) : Int)) rfl rfl (by rw [wi64 (by omega) (by omega)]; omega)) rfl ?_
          refine s_q (q_assign rfl) rfl ?_
          refine g_nil ?_
          refine g_blk_n ?_
          refine g_rowels (A := A) ((D2 ++ M60).map En.c) (by rw [List.append_nil]) ?_
          exact g_again ((2 * bs), (D2 ++ M60)) (by (try dsimp only); exact ⟨(by omega), (by omega), (by obtain ⟨q2, hq2⟩ := hq; exact sD2.snoc (by rw [lD2, hq2]) (by rw [lm60]; simp; omega) sm60), (by have h9 := Same.app eD2 em60; rw [List.take_append_drop, List.take_append_drop] at h9; exact h9.trans hE), (by rw [List.length_append, lm60]; simp; omega)⟩) (by dsimp only; omega) (by repeat (first | exact trivial | refine ⟨rfl, ?_⟩)) wok_sub
        · have hmn : n ≤ a + bs := by have h9 := of_decide_eq_false h4; omega
          refine g_skip ?_
          refine g_then ?_
          refine g_region ?_
          refine s_q (q_move rfl) rfl ?_
          refine s_q (q_mulz (z := ((2 * bs : Nat) : Int)) rfl rfl (by rw [wi64 (by omega) (by omega)]; omega)) rfl ?_
          refine s_q (q_assign rfl) rfl ?_
          refine g_nil ?_
          refine g_blk_n ?_
          skip
          exact g_again ((2 * bs), d3) (by (try dsimp only); exact ⟨(by omega), (by omega), (by obtain ⟨q2, hq2⟩ := hq; rw [hd3]; exact sD2.snoc (by rw [lD2, hq2]) (by simp; omega) (by have h9 := sR2.head; rw [List.take_of_length_le (by simp; omega)] at h9; exact h9)), (by rw [hd3]; have h9 := Same.app eD2 (Same.rfl' (a := d2.drop a)); rw [List.take_append_drop] at h9; exact h9.trans hE), hl3⟩) (by dsimp only; omega) (by repeat (first | exact trivial | refine ⟨rfl, ?_⟩)) wok_sub
    · have hbn : n ≤ bs := by have h9 := of_decide_eq_false h2; omega
      have hsd : Srt d2 := by have h9 := hS.head; rw [List.take_of_length_le (by omega)] at h9; exact h9
      refine g_exit ?_
      refine g_then_x (g_then_x (g_blk_hit ?_))
      exact fin0 rfl (fun w' hw' => ⟨d2, (by first | exact ⟨hsd, hE, by omega⟩ | (dsimp only; exact ⟨hsd, hE, by omega⟩)), rfl, by have h9 := wok_sub (L' := [Res.row A n cap 50 2 ((d2).map En.c)]) w' hw'; exact h9⟩) _ (.inr rfl)
end Go.Proofs.Ytgbghjnlicldnaa
