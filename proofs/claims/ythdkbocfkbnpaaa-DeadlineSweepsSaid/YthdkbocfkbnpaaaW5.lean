/- walks of the reference and the example -/
import Derived.Test.YthdkbocfkbnpaaaW4
namespace Go.Proofs.Ythdkbocfkbnpaaa
open Go.RowKit Go.Eg
set_option synthInstance.maxSize 3000
set_option linter.unusedSimpArgs false
set_option linter.unusedVariables false
theorem ceil_alt {a d : Int} (ha : 0 ≤ a) (hd : 0 < d) : (0 < a % d → ceilV a d = a / d + 1) ∧ (¬ 0 < a % d → ceilV a d = a / d) := by
  have h1 := Int.emod_nonneg a (show d ≠ 0 by omega)
  have h2 := Int.emod_lt_of_pos a hd
  have h3 := Int.emod_add_mul_ediv a d
  have n1 : ¬ d = 0 := by omega
  unfold ceilV
  rw [if_neg n1]
  constructor
  · intro hr
    have ha0 : ¬ a = 0 := by intro h; subst h; simp at hr
    rw [if_neg ha0]
    have := ((Int.ediv_emod_unique (a := a - 1) (b := d) (q := a / d) (r := a % d - 1) hd).2 ⟨by omega, by omega, by omega⟩).1
    rw [this]
  · intro hr
    by_cases ha0 : a = 0
    · subst ha0; simp
    · rw [if_neg ha0]
      have e : d * (a / d - 1) = d * (a / d) - d := by rw [Int.mul_sub, Int.mul_one]
      have := ((Int.ediv_emod_unique (a := a - 1) (b := d) (q := a / d - 1) (r := d - 1) hd).2 ⟨by rw [e]; omega, by omega, by omega⟩).1
      rw [this]; omega
theorem lat_cons {e : Int} {l : List Int} {k : Nat} (hk : k < l.length) (he : 0 ≤ e) (h1 : ∀ x ∈ l.take k, 0 ≤ x) (h : l[k] < 0 ∨ 1099511627776 - (e + (l.take k).sum) < l[k]) : latB (e :: l) = false := by
  refine lat_not (k := k + 1) (by simpa using hk) (fun x hx => ?_) ?_
  · simp only [List.take_succ_cons, List.mem_cons] at hx
    rcases hx with rfl | hx
    · exact he
    · exact h1 x hx
  · simpa using h
theorem bds_zero (e a b : Int) (c : C) : bdsB e a b c [0] = bdsB e a b c [] ∧ bdsV e a b c [0] = bdsV e a b c [] := by
  have h : latB (e :: ([bndV a b c, 1] ++ [0])) = latB (e :: ([bndV a b c, 1] ++ [])) := by simp [latB]
  unfold bdsB bdsV
  refine ⟨by rw [h], ?_⟩
  unfold latV
  rw [h]; simp
theorem bds_two {e a b : Int} {c : C} {x y : Int} (hx : 0 ≤ x) (hy : 0 ≤ y) : bdsB e a b c [x + y] = bdsB e a b c [x, y] ∧ bdsV e a b c [x + y] = bdsV e a b c [x, y] := by
  have h : latB (e :: ([bndV a b c, 1] ++ [x + y])) = latB (e :: ([bndV a b c, 1] ++ [x, y])) := by
    simp only [latB, List.cons_append, List.nil_append, List.mem_cons, List.not_mem_nil, or_false, forall_eq_or_imp, forall_eq, List.sum_cons, List.sum_nil]
    congr 1
    apply propext
    constructor <;> (rintro ⟨⟨h1, h2, h3, h4⟩, h5⟩; refine ⟨⟨h1, h2, h3, ?_⟩, ?_⟩ <;> first | omega | exact ⟨hx, hy⟩)
  unfold bdsB bdsV
  refine ⟨by rw [h], ?_⟩
  unfold latV
  rw [h]; simp

set_option maxHeartbeats 400000 in
theorem rceil_any (a d : Int) (w : World) (ha : U64 a) (hd : U64 d) : Pur Try.prog 44 [.int .u64 a, .int .u64 d] w (.tuple [.int .u64 (ceilV a d), .bool (ceilB d)].toArray) := by
  refine g_start Try.func44 rfl 19 rfl (by simp) ([]) [] (WOK.start _ _) _ rfl ?_
  refine g_seq ?_
  refine g_region ?_
  refine s_q (q_assign rfl) rfl ?_
  refine s_q (q_assign rfl) rfl ?_
  refine g_nil ?_
  refine g_then ?_
  refine g_seq ?_
  refine g_seq ?_
  refine g_region ?_
  refine s_q (q_move rfl) rfl ?_
  refine s_q (q_eql rfl rfl) rfl ?_
  refine g_nil ?_
  refine g_then ?_
  refine g_cond rfl (fun h1 => ?_) (fun h1 => ?_)
  · refine g_seq ?_
    refine g_region ?_
    refine s_q (q_assign rfl) rfl ?_
    refine s_q (q_assign rfl) rfl ?_
    refine g_nil ?_
    refine g_then ?_
    refine g_ret ?_
    refine g_then_ret ?_
    exact fin2 rfl (.tmp rfl) (.tmp rfl) (fun w' hw' => ⟨by simp at h1; simp [ceilV, ceilB, h1], hw'.upd⟩) _ (.inl rfl)
  · refine g_skip ?_
    refine g_then ?_
    refine g_seq ?_
    refine g_region ?_
    refine s_q (q_move rfl) rfl ?_
    refine s_q (q_move rfl) rfl ?_
    refine s_q (q_quo rfl rfl (by simpa using h1)) rfl ?_
    refine g_val 11 (v' := .int .u64 (a / d)) rfl (by unfold U64 at *; simp at h1; have e1 : a.tdiv d = a / d := Int.tdiv_eq_ediv_of_nonneg (by omega); have e2 : 0 ≤ a / d := Int.ediv_nonneg (by omega) (by omega); have e3 : a / d ≤ a := Int.ediv_le_self _ (by omega); rw [e1, wu64 e2 (by omega)]) ?_
    refine s_q (q_assign rfl) rfl ?_
    refine g_nil ?_
    refine g_then ?_
    refine g_seq ?_
    refine g_seq ?_
    refine g_region ?_
    refine s_q (q_move rfl) rfl ?_
    refine s_q (q_move rfl) rfl ?_
    refine s_q (q_rem rfl rfl (by simpa using h1)) rfl ?_
    refine g_val 14 (v' := .int .u64 (a % d)) rfl (by unfold U64 at *; rw [Int.tmod_eq_emod_of_nonneg (by omega)]) ?_
    refine s_q (q_gtr rfl rfl) rfl ?_
    refine g_nil ?_
    refine g_then ?_
    refine g_cond rfl (fun h2 => ?_) (fun h2 => ?_)
    · refine g_region ?_
      refine s_q (q_move rfl) rfl ?_
      refine s_q (q_addz (z := a / d + 1) rfl rfl (by unfold U64 at *; simp at h1; simp at h2; have e2 : 0 ≤ a / d := Int.ediv_nonneg (by omega) (by omega); have hq := (ceil_alt (a := a) (d := d) (by omega) (by omega)).1 h2; have hb := ceil_bd (a := a) (d := d) ha hd; rw [wu64 (by omega) (by omega)])) rfl ?_
      refine s_q (q_assign rfl) rfl ?_
      refine g_nil ?_
      refine g_then ?_
      refine g_seq ?_
      refine g_region ?_
      refine s_q (q_move rfl) rfl ?_
      refine s_q (q_assign rfl) rfl ?_
      refine s_q (q_assign rfl) rfl ?_
      refine g_nil ?_
      refine g_then ?_
      refine g_ret ?_
      exact fin2 rfl (.tmp rfl) (.tmp rfl) (fun w' hw' => ⟨by simp at h1 h2; have hq := ceil_alt (a := a) (d := d) (by unfold U64 at ha; omega) (by unfold U64 at hd; omega); simp [ceilB, h1]; first | exact (hq.1 h2).symm | exact (hq.2 (by omega)).symm, hw'.upd⟩) _ (.inl rfl)
    · refine g_skip ?_
      refine g_then ?_
      refine g_seq ?_
      refine g_region ?_
      refine s_q (q_move rfl) rfl ?_
      refine s_q (q_assign rfl) rfl ?_
      refine s_q (q_assign rfl) rfl ?_
      refine g_nil ?_
      refine g_then ?_
      refine g_ret ?_
      exact fin2 rfl (.tmp rfl) (.tmp rfl) (fun w' hw' => ⟨by simp at h1 h2; have hq := ceil_alt (a := a) (d := d) (by unfold U64 at ha; omega) (by unfold U64 at hd; omega); simp [ceilB, h1]; first | exact (hq.1 h2).symm | exact (hq.2 (by omega)).symm, hw'.upd⟩) _ (.inl rfl)

set_option maxHeartbeats 400000 in
theorem repo_any (a d : Int) (w : World) (ha : U64 a) (hd : U64 d) : Pur Try.prog 28 [.int .u64 a, .int .u64 d] w (.tuple [.int .i64 (epoV a d), .bool (epoB a d)].toArray) := by
  refine g_start Try.func28 rfl 22 rfl (by simp) ([]) [] (WOK.start _ _) _ rfl ?_
  refine g_seq ?_
  refine g_region ?_
  refine s_q (q_assign rfl) rfl ?_
  refine s_q (q_assign rfl) rfl ?_
  refine g_nil ?_
  refine g_then ?_
  refine g_seq ?_
  refine g_region ?_
  refine s_q (q_move rfl) rfl ?_
  refine s_q (q_move rfl) rfl ?_
  refine g_op (g_pure rfl (fun w1 hw1 => rceil_any _ _ w1 ha hd) rfl ?_)
  refine s_q (q_move rfl) rfl ?_
  refine s_q (q_extract rfl rfl) rfl ?_
  refine s_q (q_extract rfl rfl) rfl ?_
  refine s_q (q_assign rfl) rfl ?_
  refine s_q (q_assign rfl) rfl ?_
  refine g_nil ?_
  refine g_then ?_
  refine g_seq ?_
  refine g_seq ?_
  refine g_region ?_
  refine s_q (q_move rfl) rfl ?_
  refine s_q (q_not rfl) rfl ?_
  refine s_q (q_move rfl) rfl ?_
  refine g_split 16 rfl (fun h1 => ?_) (fun h1 => ?_)
  · refine g_gf rfl rfl rfl rfl ?_
    refine g_gf rfl rfl rfl rfl ?_
    refine s_q (q_pick_t rfl rfl) rfl ?_
    refine g_nil ?_
    refine g_then ?_
    refine g_true rfl ?_
    refine g_seq ?_
    refine g_region ?_
    refine s_q (q_assign rfl) rfl ?_
    refine s_q (q_assign rfl) rfl ?_
    refine g_nil ?_
    refine g_then ?_
    refine g_ret ?_
    refine g_then_ret ?_
    exact fin2 rfl (.tmp rfl) (.tmp rfl) (fun w' hw' => ⟨by first | (simp_all [epoV, epoB, ceilB]; done) | (simp_all [epoV, epoB, ceilB]; omega), hw'.upd⟩) _ (.inl rfl)
  · refine s_qg (q_move rfl) rfl rfl rfl ?_
    refine s_qg (q_gtr rfl rfl) rfl rfl rfl ?_
    refine s_q (q_pick_f rfl rfl) rfl ?_
    refine g_nil ?_
    refine g_then ?_
    refine g_cond rfl (fun h2 => ?_) (fun h2 => ?_)
    · refine g_seq ?_
      refine g_region ?_
      refine s_q (q_assign rfl) rfl ?_
      refine s_q (q_assign rfl) rfl ?_
      refine g_nil ?_
      refine g_then ?_
      refine g_ret ?_
      refine g_then_ret ?_
      exact fin2 rfl (.tmp rfl) (.tmp rfl) (fun w' hw' => ⟨by first | (simp_all [epoV, epoB, ceilB]; done) | (simp_all [epoV, epoB, ceilB]; omega), hw'.upd⟩) _ (.inl rfl)
    · refine g_skip ?_
      refine g_then ?_
      refine g_seq ?_
      refine g_region ?_
      refine s_q (q_move rfl) rfl ?_
      refine s_q (q_convz (z := ceilV a d) rfl (by have h0 := ceil_bd ha hd; simp [ceilB] at h1; simp at h2; rw [wi64 (by omega) (by omega)])) rfl ?_
      refine s_q (q_assign rfl) rfl ?_
      refine s_q (q_assign rfl) rfl ?_
      refine g_nil ?_
      refine g_then ?_
      refine g_ret ?_
      exact fin2 rfl (.tmp rfl) (.tmp rfl) (fun w' hw' => ⟨by first | (simp_all [epoV, epoB, ceilB]; done) | (simp_all [epoV, epoB, ceilB]; omega), hw'.upd⟩) _ (.inl rfl)

set_option maxHeartbeats 400000 in
theorem maxe_any  (w : World)  : Pur Try.prog 47 [] w (.int .i64 1099511627776) := by
  refine g_start Try.func47 rfl 1 rfl (by simp) ([]) [] (WOK.start _ _) _ rfl ?_
  refine g_seq ?_
  refine g_region ?_
  refine s_q (q_assign rfl) rfl ?_
  refine g_nil ?_
  refine g_then ?_
  refine g_seq ?_
  refine g_region ?_
  refine s_q (q_assign rfl) rfl ?_
  refine g_nil ?_
  refine g_then ?_
  refine g_ret ?_
  exact fin1 rfl (.tmp rfl) (fun w' hw' => ⟨by rfl, hw'.upd⟩) _ (.inl rfl)

set_option maxHeartbeats 400000 in
theorem rlater_any (e : Int) (A : Option Addr) (n cap : Nat) (l : List Int) (w : World) (he : I64 e) (hl : Old w A n 1 (l.map (fun v : Int => [Value.int .i64 v]))) (hok : ∀ x ∈ l, I64 x) (hb : n ≤ 1000) : Pur Try.prog 30 [.int .i64 e, .slice A n cap] w (.tuple [.int .i64 (latV (e :: l)), .bool (latB (e :: l))].toArray) := by
  refine g_start Try.func30 rfl 42 rfl (by simp) ([]) [] (WOK.start _ _) _ rfl ?_
  have hn : n = l.length := by simpa using hl.len
  refine g_seq ?_
  refine g_region ?_
  refine s_q (q_assign rfl) rfl ?_
  refine s_q (q_assign rfl) rfl ?_
  refine g_nil ?_
  refine g_then ?_
  refine g_seq ?_
  refine g_seq ?_
  refine g_region ?_
  refine s_q (q_move rfl) rfl ?_
  refine s_q (q_lss rfl rfl) rfl ?_
  refine s_q (q_move rfl) rfl ?_
  refine g_split 9 rfl (fun h1 => ?_) (fun h1 => ?_)
  · have hno : latB (e :: l) = false := decide_eq_false (fun hc => by have := hc.1 e (by simp); simp at h1; omega)
    refine g_gf rfl rfl rfl rfl ?_
    refine g_gf rfl rfl rfl rfl ?_
    refine g_gf rfl rfl rfl rfl ?_
    refine s_q (q_pick_t rfl rfl) rfl ?_
    refine g_nil ?_
    refine g_then ?_
    refine g_true rfl ?_
    refine g_seq ?_
    refine g_region ?_
    refine s_q (q_assign rfl) rfl ?_
    refine s_q (q_assign rfl) rfl ?_
    refine g_nil ?_
    refine g_then ?_
    refine g_ret ?_
    refine g_then_ret ?_
    exact fin2 rfl (.tmp rfl) (.tmp rfl) (fun w' hw' => ⟨by rw [latV, hno]; rfl, hw'.upd⟩) _ (.inl rfl)
  · refine s_qg (q_move rfl) rfl rfl rfl ?_
    refine g_gt rfl rfl (g_pure rfl (fun w1 hw1 => maxe_any w1) rfl ?_)
    refine s_qg (q_gtr rfl rfl) rfl rfl rfl ?_
    refine s_q (q_pick_f rfl rfl) rfl ?_
    refine g_nil ?_
    refine g_then ?_
    refine g_cond rfl (fun h2 => ?_) (fun h2 => ?_)
    · have hno : latB (e :: l) = false := decide_eq_false (fun hc => by have h9 := sum_nn (l := l) (fun x hx => hc.1 x (by simp [hx])); have h8 := hc.2; simp at h2 h8; omega)
      refine g_seq ?_
      refine g_region ?_
      refine s_q (q_assign rfl) rfl ?_
      refine s_q (q_assign rfl) rfl ?_
      refine g_nil ?_
      refine g_then ?_
      refine g_ret ?_
      refine g_then_ret ?_
      exact fin2 rfl (.tmp rfl) (.tmp rfl) (fun w' hw' => ⟨by rw [latV, hno]; rfl, hw'.upd⟩) _ (.inl rfl)
    · have he0 : 0 ≤ e := by simpa using h1
      have he1 : e ≤ 1099511627776 := by simpa using h2
      refine g_skip ?_
      refine g_then ?_
      refine g_seq ?_
      refine g_seq ?_
      refine g_region ?_
      refine s_q (q_assign rfl) rfl ?_
      refine g_nil ?_
      refine g_then ?_
      refine g_block ?_
      refine g_val 0 (v' := .int .i64 (e + (l.take 0).sum)) rfl (by simp) ?_
      refine g_loopk [1, 4, 5] (fun (x : Nat) => [(0, .int .i64 (e + (l.take x).sum)), (6, .int .i64 ((x : Nat) : Int))]) (fun (x : Nat) => []) (fun (x : Nat) => x ≤ n ∧ (∀ y ∈ l.take x, 0 ≤ y) ∧ e + (l.take x).sum ≤ 1099511627776) (fun (x : Nat) => n - x) 0 (by (try dsimp only); exact ⟨(by omega), (by simp), (by simp; omega)⟩) rfl (by repeat (first | exact trivial | refine ⟨rfl, ?_⟩)) wok_sub ?_
      rintro k ⟨le_k, hs, ht⟩
      replace le_k : k ≤ n := le_k
      replace hs : ∀ y ∈ l.take k, 0 ≤ y := hs
      replace ht : e + (l.take k).sum ≤ 1099511627776 := ht
      refine g_seq ?_
      refine g_seq ?_
      refine g_region ?_
      refine s_q (q_move rfl) rfl ?_
      refine s_q (q_move rfl) rfl ?_
      refine s_q (q_len rfl) rfl ?_
      refine s_q (q_lss rfl rfl) rfl ?_
      refine g_nil ?_
      refine g_then ?_
      refine g_cond rfl (fun h3 => ?_) (fun h3 => ?_)
      · have lt_k : k < n := by have h9 := of_decide_eq_true h3; omega
        have lt_l : k < l.length := by omega
        have hx : I64 (l[k]) := hok _ (List.getElem_mem _)
        unfold I64 at hx
        have hs9 := sum_nn hs
        refine g_skip ?_
        refine g_then ?_
        refine g_seq ?_
        refine g_block ?_
        refine g_seq ?_
        refine g_seq ?_
        refine d_region [] mixed rfl rfl ?_
        refine d_q 0 rfl (by kernel_rfl) (q_move rfl) wok_sub rfl (ls' := #[true, false, false, false, false, false, false, false, false, false, false, false, false, false, false]) rfl ?_
        refine d_q 1 rfl (by kernel_rfl) (q_move rfl) wok_sub rfl (ls' := #[true, true, false, false, false, false, false, false, false, false, false, false, false, false, false]) rfl ?_
        refine d_q 2 rfl (by kernel_rfl) (q_index (i := k) rfl rfl rfl (hl.rdb rfl) (by first | omega | (simp; done) | (simp; omega))) wok_sub rfl (ls' := #[true, true, true, false, false, false, false, false, false, false, false, false, false, false, false]) rfl ?_
        refine d_q 3 rfl (by kernel_rfl) (q_load_el (i := k) (o := 0) rfl (hl.rdb rfl) (map_get (by first | assumption | omega)) rfl rfl) wok_sub rfl (ls' := #[true, true, true, true, false, false, false, false, false, false, false, false, false, false, false]) rfl ?_
        refine d_q 4 rfl (by kernel_rfl) (q_lss rfl rfl) wok_sub rfl (ls' := #[true, true, true, true, true, false, false, false, false, false, false, false, false, false, false]) rfl ?_
        refine d_q 5 rfl (by kernel_rfl) (q_move rfl) wok_sub rfl (ls' := #[true, true, true, true, true, true, false, false, false, false, false, false, false, false, false]) rfl ?_
        refine g_split 25 rfl (fun h4 => ?_) (fun h4 => ?_)
        · refine d_gf 6 rfl (by kernel_rfl) rfl rfl rfl wok_sub rfl (ls' := #[true, true, true, true, true, true, true, false, false, false, false, false, false, false, false]) rfl ?_
          refine d_gf 7 rfl (by kernel_rfl) rfl rfl rfl wok_sub rfl (ls' := #[true, true, true, true, true, true, true, true, false, false, false, false, false, false, false]) rfl ?_
          refine d_gf 8 rfl (by kernel_rfl) rfl rfl rfl wok_sub rfl (ls' := #[true, true, true, true, true, true, true, true, true, false, false, false, false, false, false]) rfl ?_
          refine d_gf 9 rfl (by kernel_rfl) rfl rfl rfl wok_sub rfl (ls' := #[true, true, true, true, true, true, true, true, true, true, false, false, false, false, false]) rfl ?_
          refine d_gf 10 rfl (by kernel_rfl) rfl rfl rfl wok_sub rfl (ls' := #[true, true, true, true, true, true, true, true, true, true, true, false, false, false, false]) rfl ?_
          refine d_gf 11 rfl (by kernel_rfl) rfl rfl rfl wok_sub rfl (ls' := #[true, true, true, true, true, true, true, true, true, true, true, true, false, false, false]) rfl ?_
          refine d_gf 12 rfl (by kernel_rfl) rfl rfl rfl wok_sub rfl (ls' := #[true, true, true, true, true, true, true, true, true, true, true, true, true, false, false]) rfl ?_
          refine d_gf 13 rfl (by kernel_rfl) rfl rfl rfl wok_sub rfl (ls' := #[true, true, true, true, true, true, true, true, true, true, true, true, true, true, false]) rfl ?_
          refine d_q 14 rfl (by kernel_rfl) (q_pick_t rfl rfl) wok_sub rfl (ls' := #[true, true, true, true, true, true, true, true, true, true, true, true, true, true, true]) rfl ?_
          refine d_end (by kernel_rfl) (.inr wok_sub) ?_
          refine g_then ?_
          refine g_true rfl ?_
          refine g_seq ?_
          refine g_region ?_
          refine s_q (q_assign rfl) rfl ?_
          refine s_q (q_assign rfl) rfl ?_
          refine g_nil ?_
          refine g_then ?_
          refine g_ret ?_
          refine g_then_ret (g_blk_ret (g_then_ret (g_then_ret (g_blk_ret (g_then_ret ?_)))))
          exact fin2 rfl (.tmp rfl) (.tmp rfl) (fun w' hw' => ⟨by rw [latV, lat_cons lt_l he0 hs (.inl (by simpa using h4))]; rfl, hw'.upd⟩) _ (.inl rfl)
        · refine d_qg 6 rfl (by kernel_rfl) (q_move rfl) rfl rfl wok_sub rfl (ls' := #[true, true, true, true, true, true, true, false, false, false, false, false, false, false, false]) rfl ?_
          refine d_qg 7 rfl (by kernel_rfl) (q_move rfl) rfl rfl wok_sub rfl (ls' := #[true, true, true, true, true, true, true, true, false, false, false, false, false, false, false]) rfl ?_
          refine d_qg 8 rfl (by kernel_rfl) (q_index (i := k) rfl rfl rfl (hl.rdb rfl) (by first | omega | (simp; done) | (simp; omega))) rfl rfl wok_sub rfl (ls' := #[true, true, true, true, true, true, true, true, true, false, false, false, false, false, false]) rfl ?_
          refine d_qg 9 rfl (by kernel_rfl) (q_load_el (i := k) (o := 0) rfl (hl.rdb rfl) (map_get (by first | assumption | omega)) rfl rfl) rfl rfl wok_sub rfl (ls' := #[true, true, true, true, true, true, true, true, true, true, false, false, false, false, false]) rfl ?_
          refine d_qg 11 rfl (by kernel_rfl) (q_move rfl) rfl rfl wok_sub rfl (ls' := #[true, true, true, true, true, true, true, true, true, true, false, true, false, false, false]) rfl ?_
          refine d_opg 10 rfl (by kernel_rfl) (ls' := #[true, true, true, true, true, true, true, true, true, true, true, true, false, false, false]) rfl rfl rfl wok_sub (g_pure rfl (fun w1 hw1 => maxe_any w1) rfl ?_)
          refine d_qg 12 rfl (by kernel_rfl) (q_subz (z := 1099511627776 - (e + (l.take k).sum)) rfl rfl (by rw [wi64 (by omega) (by omega)])) rfl rfl wok_sub rfl (ls' := #[true, true, true, true, true, true, true, true, true, true, true, true, true, false, false]) rfl ?_
          refine d_qg 13 rfl (by kernel_rfl) (q_gtr rfl rfl) rfl rfl wok_sub rfl (ls' := #[true, true, true, true, true, true, true, true, true, true, true, true, true, true, false]) rfl ?_
          refine d_q 14 rfl (by kernel_rfl) (q_pick_f rfl rfl) wok_sub rfl (ls' := #[true, true, true, true, true, true, true, true, true, true, true, true, true, true, true]) rfl ?_
          refine d_end (by kernel_rfl) (.inr wok_sub) ?_
          refine g_then ?_
          refine g_cond rfl (fun h5 => ?_) (fun h5 => ?_)
          · refine g_seq ?_
            refine g_region ?_
            refine s_q (q_assign rfl) rfl ?_
            refine s_q (q_assign rfl) rfl ?_
            refine g_nil ?_
            refine g_then ?_
            refine g_ret ?_
            refine g_then_ret (g_blk_ret (g_then_ret (g_then_ret (g_blk_ret (g_then_ret ?_)))))
            exact fin2 rfl (.tmp rfl) (.tmp rfl) (fun w' hw' => ⟨by rw [latV, lat_cons lt_l he0 hs (.inr (by simp at h5; omega))]; rfl, hw'.upd⟩) _ (.inl rfl)
          · refine g_skip ?_
            refine g_then ?_
            refine g_region ?_
            refine s_q (q_move rfl) rfl ?_
            refine s_q (q_move rfl) rfl ?_
            refine s_q (q_move rfl) rfl ?_
            refine s_q (q_index (i := k) rfl rfl rfl (hl.rdb rfl) (by first | omega | (simp; done) | (simp; omega))) rfl ?_
            refine s_q (q_load_el (i := k) (o := 0) rfl (hl.rdb rfl) (map_get (by first | assumption | omega)) rfl rfl) rfl ?_
            refine s_q (q_addz (z := e + (l.take (k + 1)).sum) rfl rfl (by have h9 := lat_succ lt_l hs (by simpa using h4); simp at h5; rw [wi64 (by omega) (by omega)]; omega)) rfl ?_
            refine s_q (q_assign rfl) rfl ?_
            refine g_nil ?_
            refine g_blk_n ?_
            refine g_then ?_
            refine g_region ?_
            refine s_q (q_move rfl) rfl ?_
            refine s_q (q_inc rfl rfl (by omega)) rfl ?_
            refine s_q (q_assign rfl) rfl ?_
            refine g_nil ?_
            exact g_again (k + 1) (by (try dsimp only); exact ⟨(by omega), (lat_succ lt_l hs (by simpa using h4)).1, (by have h9 := lat_succ lt_l hs (by simpa using h4); simp at h5; omega)⟩) (by first | omega | (simp only; omega)) (by repeat (first | exact trivial | refine ⟨rfl, ?_⟩)) wok_sub
      · have eq_k : l.take k = l := by have h9 := of_decide_eq_false h3; rw [List.take_of_length_le (by omega)]
        rw [eq_k] at hs ht
        refine g_exit ?_
        refine g_then_x (g_then_x (g_blk_hit ?_))
        refine g_then ?_
        refine g_seq ?_
        refine g_region ?_
        refine s_q (q_move rfl) rfl ?_
        refine s_q (q_assign rfl) rfl ?_
        refine s_q (q_assign rfl) rfl ?_
        refine g_nil ?_
        refine g_then ?_
        refine g_ret ?_
        exact fin2 rfl (.tmp rfl) (.tmp rfl) (fun w' hw' => ⟨by have h7 : latB (e :: l) = true := decide_eq_true ⟨by intro x hx; rcases List.mem_cons.1 hx with rfl | hx; exact he0; exact hs x hx, by simpa using ht⟩; rw [eq_k, latV, h7]; simp, hw'.upd⟩) _ (.inl rfl)

set_option maxHeartbeats 400000 in
theorem rbnd_any (a b : Int) (c : C) (w : World) (ha : U64 a) (hb : U64 b) (hc : Cok c) : Pur Try.prog 12 [.int .u64 a, .int .u64 b, c.v] w (.tuple [.int .i64 (bndV a b c), .bool (bndB a b c)].toArray) := by
  refine g_start Try.func12 rfl 34 rfl (by simp) ([]) [] (WOK.start _ _) _ rfl ?_
  refine g_seq ?_
  refine g_region ?_
  refine g_op (g_box rfl rfl rfl fun b5 => ?_)
  refine s_q (q_assign rfl) rfl ?_
  refine s_q (q_assign rfl) rfl ?_
  refine g_nil ?_
  refine g_then ?_
  refine g_seq ?_
  refine g_region ?_
  refine s_q (q_move rfl) rfl ?_
  refine s_q (q_move rfl) rfl ?_
  refine s_q (q_field rfl) rfl ?_
  refine s_q (q_load rfl rfl) rfl ?_
  refine g_op (g_lit rfl rfl rfl rfl rfl fun b17 => ?_)
  refine g_blkc (b := b17) ((([a, b, (c).fcap] : List Int).map (fun v : Int => [Value.int .u64 v])).flatten) rfl ?_
  refine g_op (g_pure rfl (fun w1 hw1 => radd_any (some ⟨b17, 0, none⟩) (3) (3) (([a, b, (c).fcap] : List Int)) w1 (Rdb.toOld (InL.rdb (b := b17) (els := (([a, b, (c).fcap] : List Int)).map (fun v : Int => [Value.int .u64 v])) rfl (by simp) rfl) hw1) (okU3 ha hb hc.U.1) (by first | omega | (simp; omega) | (simp; done))) rfl ?_)
  refine s_q (q_move rfl) rfl ?_
  refine s_q (q_extract rfl rfl) rfl ?_
  refine s_q (q_extract rfl rfl) rfl ?_
  refine s_q (q_assign rfl) rfl ?_
  refine s_q (q_assign rfl) rfl ?_
  refine g_nil ?_
  refine g_then ?_
  refine g_seq ?_
  refine g_seq ?_
  refine g_region ?_
  refine s_q (q_move rfl) rfl ?_
  refine s_q (q_not rfl) rfl ?_
  refine g_nil ?_
  refine g_then ?_
  refine g_cond rfl (fun h1 => ?_) (fun h1 => ?_)
  · refine g_seq ?_
    refine g_region ?_
    refine s_q (q_assign rfl) rfl ?_
    refine s_q (q_assign rfl) rfl ?_
    refine g_nil ?_
    refine g_then ?_
    refine g_ret ?_
    refine g_then_ret ?_
    exact fin2 rfl (.tmp rfl) (.tmp rfl) (fun w' hw' => ⟨by first | (simp_all [bndV, bndB]; done), hw'.upd⟩) _ (.inl rfl)
  · refine g_skip ?_
    refine g_then ?_
    refine g_seq ?_
    refine g_region ?_
    refine s_q (q_move rfl) rfl ?_
    refine s_q (q_field rfl) rfl ?_
    refine s_q (q_load rfl rfl) rfl ?_
    refine g_op (g_pure rfl (fun w1 hw1 => repo_any _ _ w1 (addV_U (okU3 ha hb hc.U.1)) hc.U.2) rfl ?_)
    refine s_q (q_move rfl) rfl ?_
    refine s_q (q_extract rfl rfl) rfl ?_
    refine s_q (q_extract rfl rfl) rfl ?_
    refine s_q (q_assign rfl) rfl ?_
    refine s_q (q_assign rfl) rfl ?_
    refine g_nil ?_
    refine g_then ?_
    refine g_seq ?_
    refine g_seq ?_
    refine g_region ?_
    refine s_q (q_move rfl) rfl ?_
    refine s_q (q_not rfl) rfl ?_
    refine g_nil ?_
    refine g_then ?_
    refine g_cond rfl (fun h2 => ?_) (fun h2 => ?_)
    · refine g_seq ?_
      refine g_region ?_
      refine s_q (q_assign rfl) rfl ?_
      refine s_q (q_assign rfl) rfl ?_
      refine g_nil ?_
      refine g_then ?_
      refine g_ret ?_
      refine g_then_ret ?_
      exact fin2 rfl (.tmp rfl) (.tmp rfl) (fun w' hw' => ⟨by first | (simp_all [bndV, bndB]; done), hw'.upd⟩) _ (.inl rfl)
    · refine g_skip ?_
      refine g_then ?_
      refine g_seq ?_
      refine g_region ?_
      refine s_q (q_move rfl) rfl ?_
      refine s_q (q_max rfl rfl) rfl ?_
      refine s_q (q_assign rfl) rfl ?_
      refine s_q (q_assign rfl) rfl ?_
      refine g_nil ?_
      refine g_then ?_
      refine g_ret ?_
      exact fin2 rfl (.tmp rfl) (.tmp rfl) (fun w' hw' => ⟨by first | (simp_all [bndV, bndB]; done), hw'.upd⟩) _ (.inl rfl)

set_option maxHeartbeats 400000 in
theorem rblocks_any (c : C) (w : World) (hc : Cok c) : Pur Try.prog 32 [c.v] w (.int .i64 (blocksV c)) := by
  refine g_start Try.func32 rfl 19 rfl (by simp) ([]) [] (WOK.start _ _) _ rfl ?_
  refine g_seq ?_
  refine g_region ?_
  refine g_op (g_box rfl rfl rfl fun b1 => ?_)
  refine s_q (q_assign rfl) rfl ?_
  refine g_nil ?_
  refine g_then ?_
  refine g_seq ?_
  refine g_region ?_
  refine s_q (q_field rfl) rfl ?_
  refine s_q (q_load rfl rfl) rfl ?_
  refine s_q (q_field rfl) rfl ?_
  refine s_q (q_load rfl rfl) rfl ?_
  refine s_q (q_min rfl rfl) rfl ?_
  refine s_q (q_field rfl) rfl ?_
  refine s_q (q_load rfl rfl) rfl ?_
  refine s_q (q_subz (z := blN c) rfl rfl (by have h1 := hc.parts; have h2 := hc.vis; have h3 := hc.pays; have h4 := hc.capa; have h5 := bl_pos hc; have h6 := blocks_bd hc; have h7 := hc.elen; rw [wi64 (by omega) (by omega)]; unfold blN; omega)) rfl ?_
  refine s_q (q_assign rfl) rfl ?_
  refine g_nil ?_
  refine g_then ?_
  refine g_seq ?_
  refine g_region ?_
  refine s_q (q_field rfl) rfl ?_
  refine s_q (q_load rfl rfl) rfl ?_
  refine s_q (q_move rfl) rfl ?_
  refine s_q (q_addz (z := c.capa + blN c) rfl rfl (by have h1 := hc.parts; have h2 := hc.vis; have h3 := hc.pays; have h4 := hc.capa; have h5 := bl_pos hc; have h6 := blocks_bd hc; have h7 := hc.elen; rw [wi64 (by omega) (by omega)])) rfl ?_
  refine s_q (q_subz (z := c.capa + blN c - 1) rfl rfl (by have h1 := hc.parts; have h2 := hc.vis; have h3 := hc.pays; have h4 := hc.capa; have h5 := bl_pos hc; have h6 := blocks_bd hc; have h7 := hc.elen; rw [wi64 (by omega) (by omega)])) rfl ?_
  refine s_q (q_move rfl) rfl ?_
  refine s_q (q_quo rfl rfl (by have h1 := hc.parts; have h2 := hc.vis; have h3 := hc.pays; have h4 := hc.capa; have h5 := bl_pos hc; have h6 := blocks_bd hc; have h7 := hc.elen; omega)) rfl ?_
  refine g_val 18 (v' := .int .i64 (blocksV c)) rfl (by have h1 := hc.parts; have h2 := hc.vis; have h3 := hc.pays; have h4 := hc.capa; have h5 := bl_pos hc; have h6 := blocks_bd hc; have h7 := hc.elen; rw [Int.tdiv_eq_ediv_of_nonneg (by omega), ref_blocks hc, wi64 (by omega) (by omega)]) ?_
  refine s_q (q_assign rfl) rfl ?_
  refine g_nil ?_
  refine g_then ?_
  refine g_ret ?_
  exact fin1 rfl (.tmp rfl) (fun w' hw' => ⟨by rfl, hw'.upd⟩) _ (.inl rfl)

set_option maxHeartbeats 400000 in
theorem rsw_any (c : C) (w : World) (hc : Cok c) : Pur Try.prog 19 [c.v] w (.int .i64 (sweepV c)) := by
  refine g_start Try.func19 rfl 9 rfl (by simp) ([]) [] (WOK.start _ _) _ rfl ?_
  refine g_seq ?_
  refine g_region ?_
  refine g_op (g_box rfl rfl rfl fun b1 => ?_)
  refine s_q (q_assign rfl) rfl ?_
  refine g_nil ?_
  refine g_then ?_
  refine g_seq ?_
  refine d_region [] mixed rfl rfl ?_
  refine d_q 0 rfl (by kernel_rfl) (q_loadw rfl rfl) wok_sub rfl (ls' := #[true, false, false, false, false, false, false]) rfl ?_
  refine d_q 3 rfl (by kernel_rfl) (q_field rfl) wok_sub rfl (ls' := #[true, false, false, true, false, false, false]) rfl ?_
  refine d_q 4 rfl (by kernel_rfl) (q_load rfl rfl) wok_sub rfl (ls' := #[true, false, false, true, true, false, false]) rfl ?_
  refine d_op 1 rfl (by kernel_rfl) (ls' := #[true, true, false, true, true, false, false]) rfl wok_sub (g_pure rfl (fun w1 hw1 => rblocks_any c w1 hc) rfl ?_)
  refine d_q 2 rfl (by kernel_rfl) (q_subz (z := blocksV c - 1) rfl rfl (by have h1 := hc.parts; have h2 := hc.vis; have h3 := hc.pays; have h4 := hc.capa; have h5 := bl_pos hc; have h6 := blocks_bd hc; have h7 := hc.elen; rw [wi64 (by omega) (by omega)])) wok_sub rfl (ls' := #[true, true, true, true, true, false, false]) rfl ?_
  refine d_q 5 rfl (by kernel_rfl) (q_quo rfl rfl (by have h1 := hc.parts; have h2 := hc.vis; have h3 := hc.pays; have h4 := hc.capa; have h5 := bl_pos hc; have h6 := blocks_bd hc; have h7 := hc.elen; omega)) wok_sub rfl (ls' := #[true, true, true, true, true, true, false]) rfl ?_
  refine g_val 8 (v' := .int .i64 (sweepV c)) rfl (by have h1 := hc.parts; have h2 := hc.vis; have h3 := hc.pays; have h4 := hc.capa; have h5 := bl_pos hc; have h6 := blocks_bd hc; have h7 := hc.elen; have e3 : 0 ≤ (blocksV c - 1) / c.elen := Int.ediv_nonneg (by omega) (by omega); have e4 : (blocksV c - 1) / c.elen ≤ blocksV c - 1 := Int.ediv_le_self _ (by omega); rw [Int.tdiv_eq_ediv_of_nonneg (by omega), wi64 (by omega) (by omega)]; rfl) ?_
  refine d_q 6 rfl (by kernel_rfl) (q_assign rfl) wok_sub rfl (ls' := #[true, true, true, true, true, true, true]) rfl ?_
  refine d_end (by kernel_rfl) (.inr wok_sub) ?_
  refine g_then ?_
  refine g_ret ?_
  exact fin1 rfl (.tmp rfl) (fun w' hw' => ⟨by rfl, hw'.upd⟩) _ (.inl rfl)

set_option maxHeartbeats 400000 in
theorem rbound_any (e a b : Int) (c : C) (m : Int) (w : World) (ha : U64 a) (hb : U64 b) (hc : Cok c) (he : I64 e) (hm : I64 m) : Pur Try.prog 14 [.int .i64 e, .int .u64 a, .int .u64 b, c.v, .int .i64 m] w (.tuple [.int .i64 (bdsV e a b c [m]), .bool (bdsB e a b c [m])].toArray) := by
  refine g_start Try.func14 rfl 30 rfl (by simp) ([]) [] (WOK.start _ _) _ rfl ?_
  refine g_seq ?_
  refine g_region ?_
  refine g_op (g_box rfl rfl rfl fun b8 => ?_)
  refine s_q (q_assign rfl) rfl ?_
  refine s_q (q_assign rfl) rfl ?_
  refine g_nil ?_
  refine g_then ?_
  refine g_seq ?_
  refine g_region ?_
  refine s_q (q_move rfl) rfl ?_
  refine s_q (q_move rfl) rfl ?_
  refine s_q (q_loadw rfl rfl) rfl ?_
  refine g_op (g_pure rfl (fun w1 hw1 => rbnd_any _ _ _ w1 ha hb hc) rfl ?_)
  refine s_q (q_move rfl) rfl ?_
  refine s_q (q_extract rfl rfl) rfl ?_
  refine s_q (q_extract rfl rfl) rfl ?_
  refine s_q (q_assign rfl) rfl ?_
  refine s_q (q_assign rfl) rfl ?_
  refine g_nil ?_
  refine g_then ?_
  refine g_seq ?_
  refine g_seq ?_
  refine g_region ?_
  refine s_q (q_move rfl) rfl ?_
  refine s_q (q_not rfl) rfl ?_
  refine g_nil ?_
  refine g_then ?_
  refine g_cond rfl (fun h1 => ?_) (fun h1 => ?_)
  · refine g_seq ?_
    refine g_region ?_
    refine s_q (q_assign rfl) rfl ?_
    refine s_q (q_assign rfl) rfl ?_
    refine g_nil ?_
    refine g_then ?_
    refine g_ret ?_
    refine g_then_ret ?_
    exact fin2 rfl (.tmp rfl) (.tmp rfl) (fun w' hw' => ⟨by first | (simp_all [bdsV, bdsB]; done), hw'.upd⟩) _ (.inl rfl)
  · refine g_skip ?_
    refine g_then ?_
    refine g_seq ?_
    refine g_region ?_
    refine s_q (q_move rfl) rfl ?_
    refine s_q (q_move rfl) rfl ?_
    refine s_q (q_move rfl) rfl ?_
    refine g_op (g_lit rfl rfl rfl rfl rfl fun b26 => ?_)
    refine g_blkc (b := b26) ((([(bndV a b c), 1, m] : List Int).map (fun v : Int => [Value.int .i64 v])).flatten) rfl ?_
    refine g_op (g_pure rfl (fun w1 hw1 => rlater_any _ (some ⟨b26, 0, none⟩) (3) (3) (([(bndV a b c), 1, m] : List Int)) w1 he (Rdb.toOld (InL.rdb (b := b26) (els := (([(bndV a b c), 1, m] : List Int)).map (fun v : Int => [Value.int .i64 v])) rfl (by simp) rfl) hw1) (okI2 ha hb hc (l := [m]) (by simpa using hm)) (by first | omega | (simp; done))) rfl ?_)
    refine s_q (q_extract rfl rfl) rfl ?_
    refine s_q (q_extract rfl rfl) rfl ?_
    refine s_q (q_assign rfl) rfl ?_
    refine s_q (q_assign rfl) rfl ?_
    refine g_nil ?_
    refine g_then ?_
    refine g_ret ?_
    exact fin2 rfl (.tmp rfl) (.tmp rfl) (fun w' hw' => ⟨by first | (simp_all [bdsV, bdsB]; done), hw'.upd⟩) _ (.inl rfl)

set_option maxHeartbeats 400000 in
theorem rpay_any (e a b : Int) (c : C) (w : World) (ha : U64 a) (hb : U64 b) (hc : Cok c) (he : I64 e) : Pur Try.prog 17 [.int .i64 e, .int .u64 a, .int .u64 b, c.v] w (.tuple [.int .i64 (bdsV e a b c [c.unb, sweepV c]), .bool (bdsB e a b c [c.unb, sweepV c])].toArray) := by
  refine g_start Try.func17 rfl 22 rfl (by simp) ([]) [] (WOK.start _ _) _ rfl ?_
  refine g_seq ?_
  refine g_region ?_
  refine g_op (g_box rfl rfl rfl fun b7 => ?_)
  refine s_q (q_assign rfl) rfl ?_
  refine s_q (q_assign rfl) rfl ?_
  refine g_nil ?_
  refine g_then ?_
  refine g_seq ?_
  refine d_region [] mixed rfl rfl ?_
  refine d_q 0 rfl (by kernel_rfl) (q_move rfl) wok_sub rfl (ls' := #[true, false, false, false, false, false, false, false, false, false, false, false, false, false]) rfl ?_
  refine d_q 1 rfl (by kernel_rfl) (q_move rfl) wok_sub rfl (ls' := #[true, true, false, false, false, false, false, false, false, false, false, false, false, false]) rfl ?_
  refine d_q 2 rfl (by kernel_rfl) (q_move rfl) wok_sub rfl (ls' := #[true, true, true, false, false, false, false, false, false, false, false, false, false, false]) rfl ?_
  refine d_q 3 rfl (by kernel_rfl) (q_loadw rfl rfl) wok_sub rfl (ls' := #[true, true, true, true, false, false, false, false, false, false, false, false, false, false]) rfl ?_
  refine d_q 4 rfl (by kernel_rfl) (q_field rfl) wok_sub rfl (ls' := #[true, true, true, true, true, false, false, false, false, false, false, false, false, false]) rfl ?_
  refine d_q 5 rfl (by kernel_rfl) (q_load rfl rfl) wok_sub rfl (ls' := #[true, true, true, true, true, true, false, false, false, false, false, false, false, false]) rfl ?_
  refine d_q 6 rfl (by kernel_rfl) (q_loadw rfl rfl) wok_sub rfl (ls' := #[true, true, true, true, true, true, true, false, false, false, false, false, false, false]) rfl ?_
  refine d_op 7 rfl (by kernel_rfl) (ls' := #[true, true, true, true, true, true, true, true, false, false, false, false, false, false]) rfl wok_sub (g_pure rfl (fun w1 hw1 => rsw_any c w1 hc) rfl ?_)
  refine d_q 8 rfl (by kernel_rfl) (q_addz (z := c.unb + sweepV c) rfl rfl (by have h1 := hc.unb; have h2 := sweep_bd hc; rw [wi64 (by omega) (by omega)])) wok_sub rfl (ls' := #[true, true, true, true, true, true, true, true, true, false, false, false, false, false]) rfl ?_
  refine d_op 9 rfl (by kernel_rfl) (ls' := #[true, true, true, true, true, true, true, true, true, true, false, false, false, false]) rfl wok_sub (g_pure rfl (fun w1 hw1 => rbound_any _ _ _ _ _ w1 ha hb hc he (by have h1 := hc.unb; have h2 := sweep_bd hc; exact ⟨by omega, by omega⟩)) rfl ?_)
  refine d_q 10 rfl (by kernel_rfl) (q_extract rfl rfl) wok_sub rfl (ls' := #[true, true, true, true, true, true, true, true, true, true, true, false, false, false]) rfl ?_
  refine d_q 11 rfl (by kernel_rfl) (q_extract rfl rfl) wok_sub rfl (ls' := #[true, true, true, true, true, true, true, true, true, true, true, true, false, false]) rfl ?_
  refine d_q 12 rfl (by kernel_rfl) (q_assign rfl) wok_sub rfl (ls' := #[true, true, true, true, true, true, true, true, true, true, true, true, true, false]) rfl ?_
  refine d_q 13 rfl (by kernel_rfl) (q_assign rfl) wok_sub rfl (ls' := #[true, true, true, true, true, true, true, true, true, true, true, true, true, true]) rfl ?_
  refine d_end (by kernel_rfl) (.inr wok_sub) ?_
  refine g_then ?_
  refine g_ret ?_
  exact fin2 rfl (.tmp rfl) (.tmp rfl) (fun w' hw' => ⟨by have h9 := bds_two (e := e) (a := a) (b := b) (c := c) (x := c.unb) (y := sweepV c) (by have := hc.unb; omega) (sweep_bd hc).1; rw [h9.1, h9.2], hw'.upd⟩) _ (.inl rfl)

set_option maxHeartbeats 400000 in
theorem alive_any  (w : World)  : Pur Try.prog 10 [] w (.bool true) := by
  refine g_start Try.func10 rfl 62 rfl (by simp) ([]) [] (WOK.start _ _) _ rfl ?_
  refine g_seq ?_
  refine g_region ?_
  refine s_q (q_assign rfl) rfl ?_
  refine g_nil ?_
  refine g_then ?_
  refine g_seq ?_
  refine g_region ?_
  refine g_op (g_pure rfl (fun w1 hw1 => dflt_any w1) rfl ?_)
  refine g_op (g_alloc rfl fun b1 => ?_)
  refine g_op (g_storew rfl rfl rfl rfl rfl ?_)
  refine g_nil ?_
  refine g_then ?_
  refine g_seq ?_
  refine g_region ?_
  refine s_q (q_loadw rfl rfl) rfl ?_
  refine g_op (g_pure rfl (fun w1 hw1 => bnd_any _ _ _ w1 (by unfold U64; omega) (by unfold U64; omega) dflt_ok) rfl ?_)
  refine s_q (q_move rfl) rfl ?_
  refine s_q (q_extract rfl rfl) rfl ?_
  refine s_q (q_extract rfl rfl) rfl ?_
  refine s_q (q_assign rfl) rfl ?_
  refine s_q (q_assign rfl) rfl ?_
  refine g_nil ?_
  refine g_then ?_
  refine g_seq ?_
  refine g_region ?_
  refine s_q (q_loadw rfl rfl) rfl ?_
  refine g_op (g_pure rfl (fun w1 hw1 => exit_any _ _ _ _ w1 (by unfold U64; omega) (by unfold U64; omega) dflt_ok (by unfold I64; omega)) rfl ?_)
  refine s_q (q_move rfl) rfl ?_
  refine s_q (q_extract rfl rfl) rfl ?_
  refine s_q (q_extract rfl rfl) rfl ?_
  refine s_q (q_assign rfl) rfl ?_
  refine s_q (q_assign rfl) rfl ?_
  refine g_nil ?_
  refine g_then ?_
  refine g_seq ?_
  refine g_region ?_
  refine s_q (q_loadw rfl rfl) rfl ?_
  refine g_op (g_pure rfl (fun w1 hw1 => with_any _ _ _ _ w1 (by unfold U64; omega) (by unfold U64; omega) dflt_ok (by unfold I64; omega)) rfl ?_)
  refine s_q (q_move rfl) rfl ?_
  refine s_q (q_extract rfl rfl) rfl ?_
  refine s_q (q_extract rfl rfl) rfl ?_
  refine s_q (q_assign rfl) rfl ?_
  refine s_q (q_assign rfl) rfl ?_
  refine g_nil ?_
  refine g_then ?_
  refine g_seq ?_
  refine g_region ?_
  refine s_q (q_loadw rfl rfl) rfl ?_
  refine g_op (g_pure rfl (fun w1 hw1 => pay_any _ _ _ _ w1 (by unfold U64; omega) (by unfold U64; omega) dflt_ok (by unfold I64; omega)) rfl ?_)
  refine s_q (q_move rfl) rfl ?_
  refine s_q (q_extract rfl rfl) rfl ?_
  refine s_q (q_extract rfl rfl) rfl ?_
  refine s_q (q_assign rfl) rfl ?_
  refine s_q (q_assign rfl) rfl ?_
  refine g_nil ?_
  refine g_then ?_
  refine g_seq ?_
  refine g_region ?_
  refine s_q (q_move rfl) rfl ?_
  refine s_q (q_eql rfl rfl) rfl ?_
  refine g_litb 32 (b := true) rfl (by decide) ?_
  refine s_q (q_move rfl) rfl ?_
  refine s_qg (q_move rfl) rfl rfl rfl ?_
  refine g_litb 34 (b := true) rfl (by decide) ?_
  refine s_q (q_pick_t rfl rfl) rfl ?_
  refine s_q (q_move rfl) rfl ?_
  refine s_qg (q_move rfl) rfl rfl rfl ?_
  refine s_qg (q_eql rfl rfl) rfl rfl rfl ?_
  refine g_litb 38 (b := true) rfl (by decide) ?_
  refine s_q (q_pick_t rfl rfl) rfl ?_
  refine s_q (q_move rfl) rfl ?_
  refine s_qg (q_move rfl) rfl rfl rfl ?_
  refine g_litb 41 (b := true) rfl (by decide) ?_
  refine s_q (q_pick_t rfl rfl) rfl ?_
  refine s_q (q_move rfl) rfl ?_
  refine s_qg (q_move rfl) rfl rfl rfl ?_
  refine s_qg (q_eql rfl rfl) rfl rfl rfl ?_
  refine g_litb 45 (b := true) rfl (by decide) ?_
  refine s_q (q_pick_t rfl rfl) rfl ?_
  refine s_q (q_move rfl) rfl ?_
  refine s_qg (q_move rfl) rfl rfl rfl ?_
  refine g_litb 48 (b := true) rfl (by decide) ?_
  refine s_q (q_pick_t rfl rfl) rfl ?_
  refine s_q (q_move rfl) rfl ?_
  refine s_qg (q_move rfl) rfl rfl rfl ?_
  refine s_qg (q_eql rfl rfl) rfl rfl rfl ?_
  refine g_litb 52 (b := true) rfl (by decide) ?_
  refine s_q (q_pick_t rfl rfl) rfl ?_
  refine s_q (q_move rfl) rfl ?_
  refine s_qg (q_move rfl) rfl rfl rfl ?_
  refine g_litb 55 (b := true) rfl (by decide) ?_
  refine s_q (q_pick_t rfl rfl) rfl ?_
  refine s_q (q_move rfl) rfl ?_
  refine s_qg (q_loadw rfl rfl) rfl rfl rfl ?_
  refine g_gt rfl rfl (g_pure rfl (fun w1 hw1 => sw_any dflt w1 dflt_ok) rfl ?_)
  refine s_qg (q_eql rfl rfl) rfl rfl rfl ?_
  refine g_litb 60 (b := true) rfl (by decide) ?_
  refine s_q (q_pick_t rfl rfl) rfl ?_
  refine s_q (q_assign rfl) rfl ?_
  refine g_nil ?_
  refine g_then ?_
  refine g_ret ?_
  exact fin1 rfl (.tmp rfl) (fun w' hw' => ⟨by rfl, hw'.upd⟩) _ (.inl rfl)
end Go.Proofs.Ythdkbocfkbnpaaa
