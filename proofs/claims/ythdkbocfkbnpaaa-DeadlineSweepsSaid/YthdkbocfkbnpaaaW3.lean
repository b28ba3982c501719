/- walks of Ceil, Epochs, Later -/
import Derived.Test.YthdkbocfkbnpaaaW2
namespace Go.Proofs.Ythdkbocfkbnpaaa
open Go.RowKit Go.Eg
set_option synthInstance.maxSize 3000
set_option linter.unusedSimpArgs false
set_option linter.unusedVariables false
def ceilB (d : Int) : Bool := !decide (d = 0)
def ceilV (a d : Int) : Int := if d = 0 then 0 else if a = 0 then 0 else (a - 1) / d + 1
def epoB (a d : Int) : Bool := !decide (d = 0) && decide (ceilV a d ≤ 1099511627776)
def epoV (a d : Int) : Int := if epoB a d then ceilV a d else 0
def U64 (x : Int) : Prop := 0 ≤ x ∧ x ≤ 18446744073709551615
theorem ceil_bd {a d : Int} (ha : U64 a) (hd : U64 d) : 0 ≤ ceilV a d ∧ ceilV a d ≤ 18446744073709551615 := by
  unfold U64 at *
  unfold ceilV
  split
  · omega
  · split
    · omega
    · have h1 : 0 < d := by omega
      have h2 : 0 ≤ (a - 1) / d := Int.ediv_nonneg (by omega) (by omega)
      have h3 : (a - 1) / d ≤ a - 1 := Int.ediv_le_self _ (by omega)
      omega
theorem ceil_le {a b d d' : Int} (h : 0 ≤ a) (hab : a ≤ b) (hd : 0 < d') (hdd : d' ≤ d) : ceilV a d ≤ ceilV b d' := by
  have n1 : ¬ d = 0 := by omega
  have n2 : ¬ d' = 0 := by omega
  unfold ceilV
  rw [if_neg n1, if_neg n2]
  by_cases ha : a = 0
  · rw [if_pos ha]
    by_cases hb : b = 0
    · rw [if_pos hb]; omega
    · rw [if_neg hb]
      have : 0 ≤ (b - 1) / d' := Int.ediv_nonneg (by omega) (by omega)
      omega
  · have hb : ¬ b = 0 := by omega
    rw [if_neg ha, if_neg hb]
    have h1 : (a - 1) / d ≤ (b - 1) / d := Int.ediv_le_ediv (by omega) (by omega)
    have h2 : (b - 1) / d ≤ (b - 1) / d' := by
      rw [Int.le_ediv_iff_mul_le hd]
      have h3 : (b - 1) / d * d ≤ b - 1 := Int.ediv_mul_le _ (by omega)
      have h4 : 0 ≤ (b - 1) / d := Int.ediv_nonneg (by omega) (by omega)
      have h5 : (b - 1) / d * d' ≤ (b - 1) / d * d := Int.mul_le_mul_of_nonneg_left hdd h4
      omega
    omega
theorem ceil_mul {a d : Int} (ha : 0 ≤ a) (hd : 0 < d) : a ≤ ceilV a d * d := by
  unfold ceilV
  rw [if_neg (by omega)]
  split
  · omega
  · have h1 := Int.lt_ediv_add_one_mul_self (a - 1) hd
    omega
/-- all are not negative, and their sum is an epoch -/
def latB (l : List Int) : Bool := decide ((∀ x ∈ l, 0 ≤ x) ∧ l.sum ≤ 1099511627776)
def latV (l : List Int) : Int := if latB l then l.sum else 0
theorem lat_not {l : List Int} {k : Nat} (hk : k < l.length) (hs : ∀ x ∈ l.take k, 0 ≤ x) (h : l[k] < 0 ∨ 1099511627776 - (l.take k).sum < l[k]) : latB l = false := by
  unfold latB
  refine decide_eq_false fun hc => ?_
  have hk0 := hc.1 l[k] (List.getElem_mem _)
  have e : l.sum = (l.take (k + 1)).sum + (l.drop (k + 1)).sum := by rw [← List.sum_append, List.take_append_drop]
  have e2 : (l.take (k + 1)).sum = (l.take k).sum + l[k] := by rw [← List.take_append_getElem hk, List.sum_append]; simp
  have := sum_nn (l := l.drop (k + 1)) fun x hx => hc.1 x (List.mem_of_mem_drop hx)
  omega
theorem lat_succ {l : List Int} {k : Nat} (hk : k < l.length) (h1 : ∀ x ∈ l.take k, 0 ≤ x) (h2 : 0 ≤ l[k]) : (∀ x ∈ l.take (k + 1), 0 ≤ x) ∧ (l.take (k + 1)).sum = (l.take k).sum + l[k] ∧ 0 ≤ (l.take k).sum := by
  refine ⟨?_, ?_, sum_nn h1⟩
  · rw [← List.take_append_getElem hk]
    intro x hx
    rcases List.mem_append.1 hx with hx | hx
    · exact h1 x hx
    · simp at hx; omega
  · rw [← List.take_append_getElem hk, List.sum_append]; simp
def I64 (x : Int) : Prop := -9223372036854775808 ≤ x ∧ x ≤ 9223372036854775807

set_option maxHeartbeats 400000 in
theorem ceil_any (a d : Int) (w : World) (ha : U64 a) (hd : U64 d) : Pur Try.prog 42 [.int .u64 a, .int .u64 d] w (.tuple [.int .u64 (ceilV a d), .bool (ceilB d)].toArray) := by
  refine g_start Try.func42 rfl 17 rfl (by simp) ([]) [] (WOK.start _ _) _ rfl ?_
  refine g_seq ?_
  refine g_region ?_
  refine s_q (q_assign rfl) rfl ?_
  refine s_q (q_assign rfl) rfl ?_
  refine g_nil ?_
  refine g_then ?_
  refine g_seq ?_
  refine g_block ?_
  refine g_seq ?_
  refine g_region ?_
  refine s_q (q_move rfl) rfl ?_
  refine s_q (q_eql rfl rfl) rfl ?_
  refine s_q (q_assign rfl) rfl ?_
  refine g_nil ?_
  refine g_then ?_
  refine g_cond rfl (fun h1 => ?_) (fun h1 => ?_)
  · refine g_seq ?_
    refine g_region ?_
    refine s_q (q_assign rfl) rfl ?_
    refine s_q (q_assign rfl) rfl ?_
    refine g_nil ?_
    refine g_then ?_
    refine g_ret ?_
    refine g_blk_ret (g_then_ret ?_)
    exact fin2 rfl (.tmp rfl) (.tmp rfl) (fun w' hw' => ⟨by simp at h1; simp [ceilV, ceilB, h1], hw'.upd⟩) _ (.inl rfl)
  · refine g_seq ?_
    refine g_region ?_
    refine s_q (q_move rfl) rfl ?_
    refine s_q (q_eql rfl rfl) rfl ?_
    refine s_q (q_assign rfl) rfl ?_
    refine g_nil ?_
    refine g_then ?_
    refine g_cond rfl (fun h2 => ?_) (fun h2 => ?_)
    · refine g_seq ?_
      refine g_region ?_
      refine s_q (q_assign rfl) rfl ?_
      refine s_q (q_assign rfl) rfl ?_
      refine g_nil ?_
      refine g_then ?_
      refine g_ret ?_
      refine g_blk_ret (g_then_ret ?_)
      exact fin2 rfl (.tmp rfl) (.tmp rfl) (fun w' hw' => ⟨by simp at h1 h2; simp [ceilV, ceilB, h1, h2], hw'.upd⟩) _ (.inl rfl)
    · refine g_skip ?_
      refine g_blk_n ?_
      refine g_then ?_
      refine g_seq ?_
      refine g_region ?_
      refine s_q (q_move rfl) rfl ?_
      refine s_q (q_subz (z := a - 1) rfl rfl (by unfold U64 at *; simp at h1 h2; rw [IntKind.wrap_u64]; omega)) rfl ?_
      refine s_q (q_move rfl) rfl ?_
      refine s_q (q_quo rfl rfl (by simpa using h1)) rfl ?_
      refine g_val 15 (v' := .int .u64 ((a - 1) / d)) rfl (by unfold U64 at *; simp at h1 h2; have e1 : (a - 1).tdiv d = (a - 1) / d := Int.tdiv_eq_ediv_of_nonneg (by omega); have e2 : 0 ≤ (a - 1) / d := Int.ediv_nonneg (by omega) (by omega); have e3 : (a - 1) / d ≤ a - 1 := Int.ediv_le_self _ (by omega); rw [e1, wu64 e2 (by omega)]) ?_
      refine s_q (q_addz (z := (a - 1) / d + 1) rfl rfl (by unfold U64 at *; simp at h1 h2; have e2 : 0 ≤ (a - 1) / d := Int.ediv_nonneg (by omega) (by omega); have e3 : (a - 1) / d ≤ a - 1 := Int.ediv_le_self _ (by omega); rw [wu64 (by omega) (by omega)])) rfl ?_
      refine s_q (q_assign rfl) rfl ?_
      refine s_q (q_assign rfl) rfl ?_
      refine g_nil ?_
      refine g_then ?_
      refine g_ret ?_
      exact fin2 rfl (.tmp rfl) (.tmp rfl) (fun w' hw' => ⟨by simp at h1 h2; simp [ceilV, ceilB, h1, h2], hw'.upd⟩) _ (.inl rfl)

set_option maxHeartbeats 400000 in
theorem epo_any (a d : Int) (w : World) (ha : U64 a) (hd : U64 d) : Pur Try.prog 26 [.int .u64 a, .int .u64 d] w (.tuple [.int .i64 (epoV a d), .bool (epoB a d)].toArray) := by
  refine g_start Try.func26 rfl 22 rfl (by simp) ([]) [] (WOK.start _ _) _ rfl ?_
  refine g_seq ?_
  refine g_region ?_
  refine s_q (q_assign rfl) rfl ?_
  refine s_q (q_assign rfl) rfl ?_
  refine g_nil ?_
  refine g_then ?_
  refine g_seq ?_
  refine g_region ?_
  refine s_q (q_move rfl) rfl ?_
  refine s_q (q_move rfl) rfl ?_
  refine g_op (g_pure rfl (fun w1 hw1 => ceil_any _ _ w1 ha hd) rfl ?_)
  refine s_q (q_move rfl) rfl ?_
  refine s_q (q_extract rfl rfl) rfl ?_
  refine s_q (q_extract rfl rfl) rfl ?_
  refine s_q (q_assign rfl) rfl ?_
  refine s_q (q_assign rfl) rfl ?_
  refine g_nil ?_
  refine g_then ?_
  refine g_seq ?_
  refine g_seq ?_
  refine g_region ?_
  refine s_q (q_move rfl) rfl ?_
  refine s_q (q_not rfl) rfl ?_
  refine s_q (q_move rfl) rfl ?_
  refine g_split 16 rfl (fun h1 => ?_) (fun h1 => ?_)
  · refine g_gf rfl rfl rfl rfl ?_
    refine g_gf rfl rfl rfl rfl ?_
    refine s_q (q_pick_t rfl rfl) rfl ?_
    refine g_nil ?_
    refine g_then ?_
    refine g_true rfl ?_
    refine g_seq ?_
    refine g_region ?_
    refine s_q (q_assign rfl) rfl ?_
    refine s_q (q_assign rfl) rfl ?_
    refine g_nil ?_
    refine g_then ?_
    refine g_ret ?_
    refine g_then_ret ?_
    exact fin2 rfl (.tmp rfl) (.tmp rfl) (fun w' hw' => ⟨by first | (simp_all [epoV, epoB, ceilB]; done) | (simp_all [epoV, epoB, ceilB]; omega), hw'.upd⟩) _ (.inl rfl)
  · refine s_qg (q_move rfl) rfl rfl rfl ?_
    refine s_qg (q_gtr rfl rfl) rfl rfl rfl ?_
    refine s_q (q_pick_f rfl rfl) rfl ?_
    refine g_nil ?_
    refine g_then ?_
    refine g_cond rfl (fun h2 => ?_) (fun h2 => ?_)
    · refine g_seq ?_
      refine g_region ?_
      refine s_q (q_assign rfl) rfl ?_
      refine s_q (q_assign rfl) rfl ?_
      refine g_nil ?_
      refine g_then ?_
      refine g_ret ?_
      refine g_then_ret ?_
      exact fin2 rfl (.tmp rfl) (.tmp rfl) (fun w' hw' => ⟨by first | (simp_all [epoV, epoB, ceilB]; done) | (simp_all [epoV, epoB, ceilB]; omega), hw'.upd⟩) _ (.inl rfl)
    · refine g_skip ?_
      refine g_then ?_
      refine g_seq ?_
      refine g_region ?_
      refine s_q (q_move rfl) rfl ?_
      refine s_q (q_convz (z := ceilV a d) rfl (by have h0 := ceil_bd ha hd; simp [ceilB] at h1; simp at h2; rw [wi64 (by omega) (by omega)])) rfl ?_
      refine s_q (q_assign rfl) rfl ?_
      refine s_q (q_assign rfl) rfl ?_
      refine g_nil ?_
      refine g_then ?_
      refine g_ret ?_
      exact fin2 rfl (.tmp rfl) (.tmp rfl) (fun w' hw' => ⟨by first | (simp_all [epoV, epoB, ceilB]; done) | (simp_all [epoV, epoB, ceilB]; omega), hw'.upd⟩) _ (.inl rfl)

set_option maxHeartbeats 400000 in
theorem later_any (e : Int) (A : Option Addr) (n cap : Nat) (l : List Int) (w : World) (he : I64 e) (hl : Rd w [] A n 1 (l.map (fun v : Int => [Value.int .i64 v]))) (hok : ∀ x ∈ l, I64 x) (hb : n ≤ 1000) : Keep Try.prog 46 [.int .i64 e, .slice A n cap] w [] (.tuple [.int .i64 (latV (e :: l)), .bool (latB (e :: l))].toArray) := by
  refine g_start Try.func46 rfl 31 rfl (by simp) (fps []) [] (WOK.start _ _) _ rfl ?_
  have hn : n = l.length := by simpa using hl.old.len
  refine g_seq ?_
  refine g_region ?_
  refine s_q (q_assign rfl) rfl ?_
  refine s_q (q_assign rfl) rfl ?_
  refine g_nil ?_
  refine g_then ?_
  refine g_seq ?_
  refine g_region ?_
  refine s_q (q_assign rfl) rfl ?_
  refine g_nil ?_
  refine g_then ?_
  refine g_seq ?_
  refine g_seq ?_
  refine g_region ?_
  refine s_q (q_move rfl) rfl ?_
  refine g_op (g_lit rfl rfl rfl rfl rfl fun b10 => ?_)
  refine g_blkc (b := b10) ((([e] : List Int).map (fun v : Int => [Value.int .i64 v])).flatten) rfl ?_
  refine s_q (q_move rfl) rfl ?_
  refine g_blkRow (b := b10) 1 1 (([e] : List Int).map (fun v : Int => [Value.int .i64 v])) (map_cat (c := (fun v : Int => [Value.int .i64 v])) (fun _ => rfl) _) rfl rfl (by decide) ?_
  refine g_op (g_append (A := (some ⟨b10, 0, none⟩)) (els := (([e] : List Int)).map (fun v : Int => [Value.int .i64 v])) (news := ((l).map (fun v : Int => [Value.int .i64 v]))) rfl rfl hl.rdb (map_one (c := (fun v : Int => [Value.int .i64 v])) (by intro x; simp [Value.oneCell']) _) (by first | omega | (simp; omega) | (simp_all; omega)) rfl fun A12 cap12 => ⟨_, inferInstance, ?_⟩)
  refine g_rowels (A := A12) (((([e] : List Int) ++ l)).map (fun v : Int => [Value.int .i64 v])) (by first | rfl | exact List.map_append.symm | (simp; done)) ?_
  refine g_rowels (A := A12) ((e :: l).map (fun v : Int => [Value.int .i64 v])) (by simp) ?_
  refine g_rown (A := A12) (e :: l).length (by simp; omega) ?_
  refine g_val 12 (v' := .slice A12 (e :: l).length cap12) rfl (by first | rfl | (simp [hn]; omega) | (simp; omega)) ?_
  refine s_q (q_len rfl) rfl ?_
  refine s_q (q_move rfl) rfl ?_
  refine g_nil ?_
  refine g_then ?_
  refine g_block ?_
  refine g_loopk [4, 5, 12, 13] (fun (x : Nat) => [(6, .int .i64 (((e :: l).take x).sum)), (14, .int .i64 ((x : Nat) : Int))]) (fun (x : Nat) => [Res.row A12 (e :: l).length cap12 3 1 ((e :: l).map (fun v : Int => [Value.int .i64 v]))]) (fun (x : Nat) => x ≤ (e :: l).length ∧ (∀ y ∈ (e :: l).take x, 0 ≤ y) ∧ ((e :: l).take x).sum ≤ 1099511627776) (fun (x : Nat) => (e :: l).length - x) 0 (by (try dsimp only); exact ⟨Nat.zero_le _, (by simp), (by simp)⟩) rfl (by repeat (first | exact trivial | refine ⟨rfl, ?_⟩)) wok_sub ?_
  rintro k ⟨le_k, hs, ht⟩
  replace le_k : k ≤ (e :: l).length := le_k
  replace hs : ∀ y ∈ (e :: l).take k, 0 ≤ y := hs
  replace ht : ((e :: l).take k).sum ≤ 1099511627776 := ht
  refine g_seq ?_
  refine g_region ?_
  refine s_q (q_lss rfl rfl) rfl ?_
  refine g_nil ?_
  refine g_then ?_
  refine g_seq ?_
  refine g_cond rfl (fun h1 => ?_) (fun h1 => ?_)
  · have lt_k : k < (e :: l).length := by have h9 := of_decide_eq_true h1; omega
    have hx : I64 ((e :: l)[k]) := by
      have hm : (e :: l)[k] ∈ (e :: l) := List.getElem_mem _
      rcases List.mem_cons.1 hm with h | h
      · rw [h]; exact he
      · exact hok _ h
    unfold I64 at hx
    have h8 : (e :: l).length ≤ 1001 := by simp; omega
    have hs9 := sum_nn hs
    refine g_skip ?_
    refine g_then ?_
    refine g_seq ?_
    refine g_block ?_
    refine g_seq ?_
    refine g_region ?_
    refine s_q (q_index (i := k) rfl rfl rfl (InRow.rdb (A := A12) (els := ((e :: l)).map (fun v : Int => [Value.int .i64 v])) (by first | rfl | assumption | (simp; done) | (simp_all; done) | (simp; omega) | (simp_all; omega)) (map_cat (c := (fun v : Int => [Value.int .i64 v])) (fun _ => rfl) _)) (by first | exact lt_k | omega)) rfl ?_
    refine s_q (q_load_el (i := k) (o := 0) rfl (InRow.rdb (A := A12) (els := ((e :: l)).map (fun v : Int => [Value.int .i64 v])) (by first | rfl | assumption | (simp; done) | (simp_all; done) | (simp; omega) | (simp_all; omega)) (map_cat (c := (fun v : Int => [Value.int .i64 v])) (fun _ => rfl) _)) (map_get (by first | assumption | omega | (simp_all; done) | (simp_all; omega))) rfl rfl) rfl ?_
    refine s_q (q_assign rfl) rfl ?_
    refine g_nil ?_
    refine g_then ?_
    refine g_seq ?_
    refine g_seq ?_
    refine g_region ?_
    refine s_q (q_move rfl) rfl ?_
    refine s_q (q_lss rfl rfl) rfl ?_
    refine s_q (q_move rfl) rfl ?_
    refine g_split 20 rfl (fun h2 => ?_) (fun h2 => ?_)
    · refine g_gf rfl rfl rfl rfl ?_
      refine g_gf rfl rfl rfl rfl ?_
      refine g_gf rfl rfl rfl rfl ?_
      refine g_gf rfl rfl rfl rfl ?_
      refine s_q (q_pick_t rfl rfl) rfl ?_
      refine g_nil ?_
      refine g_then ?_
      refine g_true rfl ?_
      refine g_seq ?_
      refine g_region ?_
      refine s_q (q_assign rfl) rfl ?_
      refine s_q (q_assign rfl) rfl ?_
      refine g_nil ?_
      refine g_then ?_
      refine g_ret ?_
      refine g_then_ret (g_blk_ret (g_then_ret (g_then_ret (g_blk_ret (g_then_ret ?_)))))
      exact fin2 rfl (.tmp rfl) (.tmp rfl) (fun w' hw' => ⟨(), trivial, by have h7 := lat_not lt_k hs (.inl (by simpa using h2)); rw [latV, h7]; rfl, by have h9 := wok_sub (L' := []) w' hw'; exact h9⟩) _ (.inl rfl)
    · refine s_qg (q_move rfl) rfl rfl rfl ?_
      refine s_qg (q_move rfl) rfl rfl rfl ?_
      refine s_qg (q_subz (z := 1099511627776 - ((e :: l).take k).sum) rfl rfl (by rw [wi64 (by omega) (by omega)])) rfl rfl rfl ?_
      refine s_qg (q_gtr rfl rfl) rfl rfl rfl ?_
      refine s_q (q_pick_f rfl rfl) rfl ?_
      refine g_nil ?_
      refine g_then ?_
      refine g_cond rfl (fun h3 => ?_) (fun h3 => ?_)
      · refine g_seq ?_
        refine g_region ?_
        refine s_q (q_assign rfl) rfl ?_
        refine s_q (q_assign rfl) rfl ?_
        refine g_nil ?_
        refine g_then ?_
        refine g_ret ?_
        refine g_then_ret (g_blk_ret (g_then_ret (g_then_ret (g_blk_ret (g_then_ret ?_)))))
        exact fin2 rfl (.tmp rfl) (.tmp rfl) (fun w' hw' => ⟨(), trivial, by have h7 := lat_not lt_k hs (.inr (by simp at h3; omega)); rw [latV, h7]; rfl, by have h9 := wok_sub (L' := []) w' hw'; exact h9⟩) _ (.inl rfl)
      · refine g_skip ?_
        refine g_then ?_
        refine g_region ?_
        refine s_q (q_move rfl) rfl ?_
        refine s_q (q_move rfl) rfl ?_
        refine s_q (q_addz (z := ((e :: l).take (k + 1)).sum) rfl rfl (by have h9 := lat_succ lt_k hs (by simpa using h2); simp at h3; rw [wi64 (by omega) (by omega)]; omega)) rfl ?_
        refine s_q (q_assign rfl) rfl ?_
        refine g_nil ?_
        refine g_blk_n ?_
        refine g_then ?_
        refine g_region ?_
        refine s_q (q_inc rfl rfl (by omega)) rfl ?_
        refine s_q (q_move rfl) rfl ?_
        refine g_nil ?_
        exact g_again (k + 1) (by (try dsimp only); exact ⟨(by first | exact lt_k | omega), (lat_succ lt_k hs (by simpa using h2)).1, (by have h9 := lat_succ lt_k hs (by simpa using h2); simp at h3; omega)⟩) (by first | omega | (simp only; omega)) (by repeat (first | exact trivial | refine ⟨rfl, ?_⟩)) wok_sub
  · have eq_k : k = (e :: l).length := by have h9 := of_decide_eq_false h1; omega
    refine g_exit ?_
    refine g_then_x (g_then_x (g_blk_hit ?_))
    refine g_then ?_
    refine g_seq ?_
    refine g_region ?_
    refine s_q (q_move rfl) rfl ?_
    refine s_q (q_assign rfl) rfl ?_
    refine s_q (q_assign rfl) rfl ?_
    refine g_nil ?_
    refine g_then ?_
    refine g_ret ?_
    exact fin2 rfl (.tmp rfl) (.tmp rfl) (fun w' hw' => ⟨(), trivial, by rw [eq_k, List.take_length] at hs ht ⊢; have h7 : latB (e :: l) = true := decide_eq_true ⟨hs, ht⟩; rw [latV, h7]; rfl, by have h9 := wok_sub (L' := []) w' hw'; exact h9⟩) _ (.inl rfl)
end Go.Proofs.Ythdkbocfkbnpaaa
