/- wide numbers -/
import Derived.Test.YtmolaicpbaiioaaW7
import Derived.Test.YtmolaicpbaiioaaQ
namespace Go.Proofs.Ytmolaicpbaiioaa
open Go.RowKit Go.Eg
set_option synthInstance.maxSize 3000
set_option linter.unusedSimpArgs false
set_option linter.unusedVariables false
set_option maxRecDepth 100000
def addB (l : List Int) : Bool := decide (l.sum ≤ 18446744073709551615)
def addV (l : List Int) : Int := if l.sum ≤ 18446744073709551615 then l.sum else 0
def okU (l : List Int) : Prop := ∀ x ∈ l, 0 ≤ x ∧ x ≤ 18446744073709551615
theorem sum_nn : ∀ {l : List Int}, (∀ x ∈ l, 0 ≤ x) → 0 ≤ l.sum
  | [], _ => by simp
  | x :: l, h => by
    have := sum_nn (l := l) fun y hy => h y (by simp [hy])
    have := h x (by simp)
    simp only [List.sum_cons]; omega
theorem sum_take {l : List Int} (h : okU l) {k : Nat} (hk : k < l.length) : (l.take (k + 1)).sum = (l.take k).sum + l[k] ∧ 0 ≤ (l.take k).sum ∧ 0 ≤ l[k] ∧ l[k] ≤ 18446744073709551615 := by
  have h1 := h l[k] (List.getElem_mem _)
  refine ⟨?_, sum_nn fun x hx => (h x (List.mem_of_mem_take hx)).1, h1.1, h1.2⟩
  rw [← List.take_append_getElem hk, List.sum_append]; simp
theorem sum_le {l : List Int} (h : okU l) (k : Nat) : (l.take k).sum ≤ l.sum := by
  have e : l.sum = (l.take k).sum + (l.drop k).sum := by rw [← List.sum_append, List.take_append_drop]
  have := sum_nn (l := l.drop k) fun x hx => (h x (List.mem_of_mem_drop hx)).1
  omega
theorem add_over {l : List Int} (h : okU l) {k : Nat} (hk : 18446744073709551615 < (l.take k).sum) : addB l = false ∧ addV l = 0 := by
  have := sum_le h k
  refine ⟨decide_eq_false (by omega), if_neg (by omega)⟩
theorem add_fits {l : List Int} (h : l.sum ≤ 18446744073709551615) : addB l = true ∧ addV l = l.sum := ⟨decide_eq_true h, if_pos h⟩

def ceilB (d : Int) : Bool := !decide (d = 0)
def ceilV (a d : Int) : Int := if d = 0 then 0 else if a = 0 then 0 else (a - 1) / d + 1
def epoB (a d : Int) : Bool := !decide (d = 0) && decide (ceilV a d ≤ 1099511627776)
def epoV (a d : Int) : Int := if epoB a d then ceilV a d else 0
def U64 (x : Int) : Prop := 0 ≤ x ∧ x ≤ 18446744073709551615
theorem ceil_bd {a d : Int} (ha : U64 a) (hd : U64 d) : 0 ≤ ceilV a d ∧ ceilV a d ≤ 18446744073709551615 := by
  unfold U64 at *
  unfold ceilV
  split
  · omega
  · split
    · omega
    · have h1 : 0 < d := by omega
      have h2 : 0 ≤ (a - 1) / d := Int.ediv_nonneg (by omega) (by omega)
      have h3 : (a - 1) / d ≤ a - 1 := Int.ediv_le_self _ (by omega)
      omega
theorem ceil_le {a b d d' : Int} (h : 0 ≤ a) (hab : a ≤ b) (hd : 0 < d') (hdd : d' ≤ d) : ceilV a d ≤ ceilV b d' := by
  have n1 : ¬ d = 0 := by omega
  have n2 : ¬ d' = 0 := by omega
  unfold ceilV
  rw [if_neg n1, if_neg n2]
  by_cases ha : a = 0
  · rw [if_pos ha]
    by_cases hb : b = 0
    · rw [if_pos hb]; omega
    · rw [if_neg hb]
      have : 0 ≤ (b - 1) / d' := Int.ediv_nonneg (by omega) (by omega)
      omega
  · have hb : ¬ b = 0 := by omega
    rw [if_neg ha, if_neg hb]
    have h1 : (a - 1) / d ≤ (b - 1) / d := Int.ediv_le_ediv (by omega) (by omega)
    have h2 : (b - 1) / d ≤ (b - 1) / d' := by
      rw [Int.le_ediv_iff_mul_le hd]
      have h3 : (b - 1) / d * d ≤ b - 1 := Int.ediv_mul_le _ (by omega)
      have h4 : 0 ≤ (b - 1) / d := Int.ediv_nonneg (by omega) (by omega)
      have h5 : (b - 1) / d * d' ≤ (b - 1) / d * d := Int.mul_le_mul_of_nonneg_left hdd h4
      omega
    omega
theorem ceil_mul {a d : Int} (ha : 0 ≤ a) (hd : 0 < d) : a ≤ ceilV a d * d := by
  unfold ceilV
  rw [if_neg (by omega)]
  split
  · omega
  · have h1 := Int.lt_ediv_add_one_mul_self (a - 1) hd
    omega
/-- all are not negative, and their sum is an epoch -/
def latB (l : List Int) : Bool := decide ((∀ x ∈ l, 0 ≤ x) ∧ l.sum ≤ 1099511627776)
def latV (l : List Int) : Int := if latB l then l.sum else 0
theorem lat_not {l : List Int} {k : Nat} (hk : k < l.length) (hs : ∀ x ∈ l.take k, 0 ≤ x) (h : l[k] < 0 ∨ 1099511627776 - (l.take k).sum < l[k]) : latB l = false := by
  unfold latB
  refine decide_eq_false fun hc => ?_
  have hk0 := hc.1 l[k] (List.getElem_mem _)
  have e : l.sum = (l.take (k + 1)).sum + (l.drop (k + 1)).sum := by rw [← List.sum_append, List.take_append_drop]
  have e2 : (l.take (k + 1)).sum = (l.take k).sum + l[k] := by rw [← List.take_append_getElem hk, List.sum_append]; simp
  have := sum_nn (l := l.drop (k + 1)) fun x hx => hc.1 x (List.mem_of_mem_drop hx)
  omega
theorem lat_succ {l : List Int} {k : Nat} (hk : k < l.length) (h1 : ∀ x ∈ l.take k, 0 ≤ x) (h2 : 0 ≤ l[k]) : (∀ x ∈ l.take (k + 1), 0 ≤ x) ∧ (l.take (k + 1)).sum = (l.take k).sum + l[k] ∧ 0 ≤ (l.take k).sum := by
  refine ⟨?_, ?_, sum_nn h1⟩
  · rw [← List.take_append_getElem hk]
    intro x hx
    rcases List.mem_append.1 hx with hx | hx
    · exact h1 x hx
    · simp at hx; omega
  · rw [← List.take_append_getElem hk, List.sum_append]; simp
def I64 (x : Int) : Prop := -9223372036854775808 ≤ x ∧ x ≤ 9223372036854775807

set_option maxHeartbeats 400000 in
theorem ceil_any (a d : Int) (w : World) (ha : U64 a) (hd : U64 d) : Pur Try.prog 38 [.int .u64 a, .int .u64 d] w (.tuple [.int .u64 (ceilV a d), .bool (ceilB d)].toArray) := by
  refine g_start Try.func38 rfl 17 rfl (by simp) ([]) [] (WOK.start _ _) _ rfl ?_
  refine g_seq ?_
  refine g_region ?_
  refine s_q (q_assign rfl) rfl ?_
  refine s_q (q_assign rfl) rfl ?_
  refine g_nil ?_
  refine g_then ?_
  refine g_seq ?_
  refine g_block ?_
  refine g_seq ?_
  refine g_region ?_
  refine s_q (q_move rfl) rfl ?_
  refine s_q (q_eql rfl rfl) rfl ?_
  refine s_q (q_assign rfl) rfl ?_
  refine g_nil ?_
  refine g_then ?_
  refine g_cond rfl (fun h1 => ?_) (fun h1 => ?_)
  · refine g_seq ?_
    refine g_region ?_
    refine s_q (q_assign rfl) rfl ?_
    refine s_q (q_assign rfl) rfl ?_
    refine g_nil ?_
    refine g_then ?_
    refine g_ret ?_
    refine g_blk_ret (g_then_ret ?_)
    exact fin2 rfl (.tmp rfl) (.tmp rfl) (fun w' hw' => ⟨by simp at h1; simp [ceilV, ceilB, h1], hw'.upd⟩) _ (.inl rfl)
  · refine g_seq ?_
    refine g_region ?_
    refine s_q (q_move rfl) rfl ?_
    refine s_q (q_eql rfl rfl) rfl ?_
    refine s_q (q_assign rfl) rfl ?_
    refine g_nil ?_
    refine g_then ?_
    refine g_cond rfl (fun h2 => ?_) (fun h2 => ?_)
    · refine g_seq ?_
      refine g_region ?_
      refine s_q (q_assign rfl) rfl ?_
      refine s_q (q_assign rfl) rfl ?_
      refine g_nil ?_
      refine g_then ?_
      refine g_ret ?_
      refine g_blk_ret (g_then_ret ?_)
      exact fin2 rfl (.tmp rfl) (.tmp rfl) (fun w' hw' => ⟨by simp at h1 h2; simp [ceilV, ceilB, h1, h2], hw'.upd⟩) _ (.inl rfl)
    · refine g_skip ?_
      refine g_blk_n ?_
      refine g_then ?_
      refine g_seq ?_
      refine g_region ?_
      refine s_q (q_move rfl) rfl ?_
      refine s_q (q_subz (z := a - 1) rfl rfl (by unfold U64 at *; simp at h1 h2; rw [IntKind.wrap_u64]; omega)) rfl ?_
      refine s_q (q_move rfl) rfl ?_
      refine s_q (q_quo rfl rfl (by simpa using h1)) rfl ?_
      refine g_val 15 (v' := .int .u64 ((a - 1) / d)) rfl (by unfold U64 at *; simp at h1 h2; have e1 : (a - 1).tdiv d = (a - 1) / d := Int.tdiv_eq_ediv_of_nonneg (by omega); have e2 : 0 ≤ (a - 1) / d := Int.ediv_nonneg (by omega) (by omega); have e3 : (a - 1) / d ≤ a - 1 := Int.ediv_le_self _ (by omega); rw [e1, wu64 e2 (by omega)]) ?_
      refine s_q (q_addz (z := (a - 1) / d + 1) rfl rfl (by unfold U64 at *; simp at h1 h2; have e2 : 0 ≤ (a - 1) / d := Int.ediv_nonneg (by omega) (by omega); have e3 : (a - 1) / d ≤ a - 1 := Int.ediv_le_self _ (by omega); rw [wu64 (by omega) (by omega)])) rfl ?_
      refine s_q (q_assign rfl) rfl ?_
      refine s_q (q_assign rfl) rfl ?_
      refine g_nil ?_
      refine g_then ?_
      refine g_ret ?_
      exact fin2 rfl (.tmp rfl) (.tmp rfl) (fun w' hw' => ⟨by simp at h1 h2; simp [ceilV, ceilB, h1, h2], hw'.upd⟩) _ (.inl rfl)

/-- a number of two words -/
def Wd (b : Int) : List Value := [.int .u64 (b / 18446744073709551616), .int .u64 (b % 18446744073709551616)]
def mhi (x y : Nat) : Nat := x * y / 18446744073709551616
def mlo (x y : Nat) : Nat := x * y % 18446744073709551616
def fcF (lim : Int) : List Int → Int → Int → List Int
  | [], _, _ => []
  | w :: ws, k, b =>
    if 0 < k then
      if w ≤ b then k :: fcF lim ws k (b - w)
      else if lim = 0 ∨ 2147483648 < ceilV (w - b) lim ∨ 2147483648 < k + ceilV (w - b) lim then -1 :: fcF lim ws (-1) b
      else (k + ceilV (w - b) lim) :: fcF lim ws (k + ceilV (w - b) lim) (b + lim * ceilV (w - b) lim - w)
    else k :: fcF lim ws k b
def fcV (bal lim : Int) (ws : List Int) : List Int := fcF lim ws 1 (bal + lim)
theorem fcF_len {lim : Int} : ∀ {ws : List Int} {k b : Int}, (fcF lim ws k b).length = ws.length
  | [], _, _ => rfl
  | w :: ws, k, b => by
    unfold fcF
    split
    · split
      · simp [fcF_len]
      · split <;> simp [fcF_len]
    · simp [fcF_len]

set_option maxHeartbeats 400000 in
theorem mul64_any (x y : Nat) (w : World) (hx : x < 18446744073709551616) (hy : y < 18446744073709551616) : Pur Try.prog 60 [.int .u64 ((x : Nat) : Int), .int .u64 ((y : Nat) : Int)] w (.tuple [.int .u64 ((mhi x y : Nat) : Int), .int .u64 ((mlo x y : Nat) : Int)].toArray) := by
  refine g_start Try.func60 rfl 51 rfl (by simp) ([]) [] (WOK.start _ _) _ rfl ?_
  obtain ⟨bd, bt, bw, hhi⟩ := Lib.mul64_hi x y hx hy
  have ba := Lib.half_mul_le (a := x / 4294967296) (b := y / 4294967296) (by omega) (by omega)
  have bb := Lib.half_mul_le (a := x / 4294967296) (b := y % 4294967296) (by omega) (by omega)
  have bc := Lib.half_mul_le (a := x % 4294967296) (b := y / 4294967296) (by omega) (by omega)
  refine g_seq ?_
  refine g_region ?_
  refine s_q (q_assign rfl) rfl ?_
  refine s_q (q_assign rfl) rfl ?_
  refine g_nil ?_
  refine g_then ?_
  refine g_seq ?_
  refine g_region ?_
  refine s_q (q_move rfl) rfl ?_
  refine s_q (q_and32 (a := x) rfl rfl hx) rfl ?_
  refine s_q (q_assign rfl) rfl ?_
  refine g_nil ?_
  refine g_then ?_
  refine g_seq ?_
  refine g_region ?_
  refine s_q (q_move rfl) rfl ?_
  refine s_q (q_shr32 (a := x) rfl rfl) rfl ?_
  refine s_q (q_assign rfl) rfl ?_
  refine g_nil ?_
  refine g_then ?_
  refine g_seq ?_
  refine g_region ?_
  refine s_q (q_move rfl) rfl ?_
  refine s_q (q_and32 (a := y) rfl rfl hy) rfl ?_
  refine s_q (q_assign rfl) rfl ?_
  refine g_nil ?_
  refine g_then ?_
  refine g_seq ?_
  refine g_region ?_
  refine s_q (q_move rfl) rfl ?_
  refine s_q (q_shr32 (a := y) rfl rfl) rfl ?_
  refine s_q (q_assign rfl) rfl ?_
  refine g_nil ?_
  refine g_then ?_
  refine g_seq ?_
  refine g_region ?_
  refine s_q (q_move rfl) rfl ?_
  refine s_q (q_move rfl) rfl ?_
  refine s_q (q_mulu (a := (x % 4294967296)) (b := (y % 4294967296)) rfl rfl bd) rfl ?_
  refine s_q (q_assign rfl) rfl ?_
  refine g_nil ?_
  refine g_then ?_
  refine g_seq ?_
  refine g_region ?_
  refine s_q (q_move rfl) rfl ?_
  refine s_q (q_move rfl) rfl ?_
  refine s_q (q_mulu (a := (x / 4294967296)) (b := (y % 4294967296)) rfl rfl (by omega)) rfl ?_
  refine s_q (q_move rfl) rfl ?_
  refine s_q (q_shr32 (a := (x % 4294967296) * (y % 4294967296)) rfl rfl) rfl ?_
  refine s_q (q_addu (a := (x / 4294967296) * (y % 4294967296)) (b := (x % 4294967296) * (y % 4294967296) / 4294967296) rfl rfl bt) rfl ?_
  refine s_q (q_assign rfl) rfl ?_
  refine g_nil ?_
  refine g_then ?_
  refine g_seq ?_
  refine g_region ?_
  refine s_q (q_move rfl) rfl ?_
  refine s_q (q_and32 (a := ((x / 4294967296) * (y % 4294967296) + (x % 4294967296) * (y % 4294967296) / 4294967296)) rfl rfl bt) rfl ?_
  refine s_q (q_assign rfl) rfl ?_
  refine g_nil ?_
  refine g_then ?_
  refine g_seq ?_
  refine g_region ?_
  refine s_q (q_move rfl) rfl ?_
  refine s_q (q_shr32 (a := ((x / 4294967296) * (y % 4294967296) + (x % 4294967296) * (y % 4294967296) / 4294967296)) rfl rfl) rfl ?_
  refine s_q (q_assign rfl) rfl ?_
  refine g_nil ?_
  refine g_then ?_
  refine g_seq ?_
  refine g_region ?_
  refine s_q (q_move rfl) rfl ?_
  refine s_q (q_move rfl) rfl ?_
  refine s_q (q_move rfl) rfl ?_
  refine s_q (q_mulu (a := (x % 4294967296)) (b := (y / 4294967296)) rfl rfl (by omega)) rfl ?_
  refine s_q (q_addu (a := ((x / 4294967296) * (y % 4294967296) + (x % 4294967296) * (y % 4294967296) / 4294967296) % 4294967296) (b := (x % 4294967296) * (y / 4294967296)) rfl rfl bw) rfl ?_
  refine s_q (q_assign rfl) rfl ?_
  refine g_nil ?_
  refine g_then ?_
  refine g_seq ?_
  refine g_region ?_
  refine s_q (q_move rfl) rfl ?_
  refine s_q (q_move rfl) rfl ?_
  refine s_q (q_mulu (a := (x / 4294967296)) (b := (y / 4294967296)) rfl rfl (by omega)) rfl ?_
  refine s_q (q_move rfl) rfl ?_
  refine s_q (q_addu (a := (x / 4294967296) * (y / 4294967296)) (b := ((x / 4294967296) * (y % 4294967296) + (x % 4294967296) * (y % 4294967296) / 4294967296) / 4294967296) rfl rfl (by omega)) rfl ?_
  refine s_q (q_move rfl) rfl ?_
  refine s_q (q_shr32 (a := (((x / 4294967296) * (y % 4294967296) + (x % 4294967296) * (y % 4294967296) / 4294967296) % 4294967296 + (x % 4294967296) * (y / 4294967296))) rfl rfl) rfl ?_
  refine s_q (q_addu (a := (x / 4294967296) * (y / 4294967296) + ((x / 4294967296) * (y % 4294967296) + (x % 4294967296) * (y % 4294967296) / 4294967296) / 4294967296) (b := (((x / 4294967296) * (y % 4294967296) + (x % 4294967296) * (y % 4294967296) / 4294967296) % 4294967296 + (x % 4294967296) * (y / 4294967296)) / 4294967296) rfl rfl (by omega)) rfl ?_
  refine s_q (q_assign rfl) rfl ?_
  refine g_nil ?_
  refine g_then ?_
  refine g_seq ?_
  refine g_region ?_
  refine s_q (q_move rfl) rfl ?_
  refine s_q (q_move rfl) rfl ?_
  refine s_q (q_mullo (a := x) (b := y) rfl rfl) rfl ?_
  refine s_q (q_assign rfl) rfl ?_
  refine g_nil ?_
  refine g_then ?_
  refine g_ret ?_
  exact fin2 rfl (.tmp rfl) (.tmp rfl) (fun w' hw' => ⟨by unfold mhi mlo; rw [← hhi], hw'.upd⟩) _ (.inl rfl)

set_option maxHeartbeats 400000 in
theorem covers_any (wb : Nat) (b x : Int) (w : World) (hw : WOK (fps [Res.blk wb 89 (Wd b)]) w [Res.blk wb 89 (Wd b)] w) (hb : 0 ≤ b ∧ b ≤ 340282366920938463463374607431768211455) (hx : 0 ≤ x ∧ x ≤ 18446744073709551615) : Keep Try.prog 37 [.pointer (some ⟨wb, 0, none⟩), .int .u64 x] w [Res.blk wb 89 (Wd b)] (.bool (decide (x ≤ b))) := by
  refine g_start Try.func37 rfl 18 rfl (by simp) (fps [Res.blk wb 89 (Wd b)]) [Res.blk wb 89 (Wd b)] hw _ rfl ?_
  refine g_seq ?_
  refine g_region ?_
  refine s_q (q_assign rfl) rfl ?_
  refine g_nil ?_
  refine g_then ?_
  refine g_seq ?_
  refine g_region ?_
  refine s_q (q_move rfl) rfl ?_
  refine s_q (q_nilck rfl) rfl ?_
  refine s_q (q_field rfl) rfl ?_
  refine s_q (q_load rfl rfl) rfl ?_
  refine s_q (q_gtr rfl rfl) rfl ?_
  refine s_q (q_move rfl) rfl ?_
  refine g_split 10 rfl (fun h1 => ?_) (fun h1 => ?_)
  · refine g_gf rfl rfl rfl rfl ?_
    refine g_gf rfl rfl rfl rfl ?_
    refine g_gf rfl rfl rfl rfl ?_
    refine g_gf rfl rfl rfl rfl ?_
    refine g_gf rfl rfl rfl rfl ?_
    refine g_gf rfl rfl rfl rfl ?_
    refine s_q (q_pick_t rfl rfl) rfl ?_
    refine s_q (q_assign rfl) rfl ?_
    refine g_nil ?_
    refine g_then ?_
    refine g_ret ?_
    exact fin1 rfl (.tmp rfl) (fun w' hw' => ⟨(), trivial, by simp only [Value.bool.injEq]; have h9 := of_decide_eq_true h1; first | (rw [decide_eq_true (show x ≤ b by omega)]; done) | (rw [decide_eq_true (show x ≤ b by omega)]; rfl), by have h9 := wok_sub (L' := [Res.blk wb 89 (Wd b)]) w' hw'; exact h9⟩) _ (.inl rfl)
  · refine s_qg (q_move rfl) rfl rfl rfl ?_
    refine s_qg (q_nilck rfl) rfl rfl rfl ?_
    refine s_qg (q_field rfl) rfl rfl rfl ?_
    refine s_qg (q_load rfl rfl) rfl rfl rfl ?_
    refine s_qg (q_move rfl) rfl rfl rfl ?_
    refine s_qg (q_geq rfl rfl) rfl rfl rfl ?_
    refine s_q (q_pick_f rfl rfl) rfl ?_
    refine s_q (q_assign rfl) rfl ?_
    refine g_nil ?_
    refine g_then ?_
    refine g_ret ?_
    exact fin1 rfl (.tmp rfl) (fun w' hw' => ⟨(), trivial, by simp only [Value.bool.injEq]; have h9 := of_decide_eq_false h1; exact decide_eq_decide.2 (by omega), by have h9 := wok_sub (L' := [Res.blk wb 89 (Wd b)]) w' hw'; exact h9⟩) _ (.inl rfl)

set_option maxHeartbeats 400000 in
theorem wadd_any (wb : Nat) (b : Int) (u : Int) (w : World) (hw : WOK (fps [Res.blk wb 89 (Wd b)]) w [Res.blk wb 89 (Wd b)] w) (hb : 0 ≤ b) (hx : 0 ≤ u ∧ u ≤ 18446744073709551615) (hs : b + u ≤ 340282366920938463463374607431768211455) : Own2 (ι := Unit) Try.prog 36 [.pointer (some ⟨wb, 0, none⟩), .int .u64 u] w [Res.blk wb 89 (Wd b)] (fun x => True) (fun x => .tuple #[]) (fun x => []) (fun x => [Res.blk wb 89 (Wd (b + u))]) := by
  refine g_start Try.func36 rfl 26 rfl (by simp) (fps [Res.blk wb 89 (Wd b)]) [Res.blk wb 89 (Wd b)] hw _ rfl ?_
  refine g_seq ?_
  refine g_seq ?_
  refine g_region ?_
  refine s_q (q_move rfl) rfl ?_
  refine s_q (q_move rfl) rfl ?_
  refine s_q (q_nilck rfl) rfl ?_
  refine s_q (q_field rfl) rfl ?_
  refine s_q (q_load rfl rfl) rfl ?_
  refine s_q (q_sub rfl rfl) rfl ?_
  refine s_q (q_gtr rfl rfl) rfl ?_
  refine g_nil ?_
  refine g_then ?_
  refine g_cond rfl (fun h1 => ?_) (fun h1 => ?_)
  · have h9 := of_decide_eq_true h1; try rw [IntKind.wrap_u64] at h9
    refine g_region ?_
    refine s_q (q_move rfl) rfl ?_
    refine s_q (q_nilck rfl) rfl ?_
    refine s_q (q_field rfl) rfl ?_
    refine s_q (q_load rfl rfl) rfl ?_
    refine s_q (q_add rfl rfl) rfl ?_
    refine s_q (q_nilck rfl) rfl ?_
    refine s_q (q_field rfl) rfl ?_
    refine g_op (g_store rfl rfl rfl rfl rfl rfl rfl ?_)
    refine g_nil ?_
    refine g_then ?_
    refine g_region ?_
    refine s_q (q_move rfl) rfl ?_
    refine s_q (q_nilck rfl) rfl ?_
    refine s_q (q_field rfl) rfl ?_
    refine s_q (q_load rfl rfl) rfl ?_
    refine s_q (q_move rfl) rfl ?_
    refine s_q (q_add rfl rfl) rfl ?_
    refine s_q (q_nilck rfl) rfl ?_
    refine s_q (q_field rfl) rfl ?_
    refine g_op (g_store rfl rfl rfl rfl rfl rfl rfl ?_)
    refine g_blkc (b := wb) (Wd (b + u)) (by simp [Wd, splice, IntKind.wrap_u64]; omega) ?_
    refine g_nil ?_
    exact fin0 rfl (fun w' hw' => ⟨(), (by first | exact trivial | (dsimp only; exact trivial)), rfl, by have h9 := wok_sub (L' := [Res.blk wb 89 (Wd (b + u))]) w' hw'; exact h9⟩) _ (.inr rfl)
  · have h9 := of_decide_eq_false h1; try rw [IntKind.wrap_u64] at h9
    refine g_skip ?_
    refine g_then ?_
    refine g_region ?_
    refine s_q (q_move rfl) rfl ?_
    refine s_q (q_nilck rfl) rfl ?_
    refine s_q (q_field rfl) rfl ?_
    refine s_q (q_load rfl rfl) rfl ?_
    refine s_q (q_move rfl) rfl ?_
    refine s_q (q_add rfl rfl) rfl ?_
    refine s_q (q_nilck rfl) rfl ?_
    refine s_q (q_field rfl) rfl ?_
    refine g_op (g_store rfl rfl rfl rfl rfl rfl rfl ?_)
    refine g_blkc (b := wb) (Wd (b + u)) (by simp [Wd, splice, IntKind.wrap_u64]; omega) ?_
    refine g_nil ?_
    exact fin0 rfl (fun w' hw' => ⟨(), (by first | exact trivial | (dsimp only; exact trivial)), rfl, by have h9 := wok_sub (L' := [Res.blk wb 89 (Wd (b + u))]) w' hw'; exact h9⟩) _ (.inr rfl)

set_option maxHeartbeats 400000 in
theorem wsub_any (wb : Nat) (b : Int) (u : Int) (w : World) (hw : WOK (fps [Res.blk wb 89 (Wd b)]) w [Res.blk wb 89 (Wd b)] w) (hb : u ≤ b) (hx : 0 ≤ u ∧ u ≤ 18446744073709551615) (hs : b ≤ 340282366920938463463374607431768211455) : Own2 (ι := Unit) Try.prog 40 [.pointer (some ⟨wb, 0, none⟩), .int .u64 u] w [Res.blk wb 89 (Wd b)] (fun x => True) (fun x => .tuple #[]) (fun x => []) (fun x => [Res.blk wb 89 (Wd (b - u))]) := by
  refine g_start Try.func40 rfl 25 rfl (by simp) (fps [Res.blk wb 89 (Wd b)]) [Res.blk wb 89 (Wd b)] hw _ rfl ?_
  refine g_seq ?_
  refine g_seq ?_
  refine g_region ?_
  refine s_q (q_move rfl) rfl ?_
  refine s_q (q_move rfl) rfl ?_
  refine s_q (q_nilck rfl) rfl ?_
  refine s_q (q_field rfl) rfl ?_
  refine s_q (q_load rfl rfl) rfl ?_
  refine s_q (q_gtr rfl rfl) rfl ?_
  refine g_nil ?_
  refine g_then ?_
  refine g_cond rfl (fun h1 => ?_) (fun h1 => ?_)
  · have h9 := of_decide_eq_true h1; try rw [IntKind.wrap_u64] at h9
    refine g_region ?_
    refine s_q (q_move rfl) rfl ?_
    refine s_q (q_nilck rfl) rfl ?_
    refine s_q (q_field rfl) rfl ?_
    refine s_q (q_load rfl rfl) rfl ?_
    refine s_q (q_sub rfl rfl) rfl ?_
    refine s_q (q_nilck rfl) rfl ?_
    refine s_q (q_field rfl) rfl ?_
    refine g_op (g_store rfl rfl rfl rfl rfl rfl rfl ?_)
    refine g_nil ?_
    refine g_then ?_
    refine g_region ?_
    refine s_q (q_move rfl) rfl ?_
    refine s_q (q_nilck rfl) rfl ?_
    refine s_q (q_field rfl) rfl ?_
    refine s_q (q_load rfl rfl) rfl ?_
    refine s_q (q_move rfl) rfl ?_
    refine s_q (q_sub rfl rfl) rfl ?_
    refine s_q (q_nilck rfl) rfl ?_
    refine s_q (q_field rfl) rfl ?_
    refine g_op (g_store rfl rfl rfl rfl rfl rfl rfl ?_)
    refine g_blkc (b := wb) (Wd (b - u)) (by simp [Wd, splice, IntKind.wrap_u64]; omega) ?_
    refine g_nil ?_
    exact fin0 rfl (fun w' hw' => ⟨(), (by first | exact trivial | (dsimp only; exact trivial)), rfl, by have h9 := wok_sub (L' := [Res.blk wb 89 (Wd (b - u))]) w' hw'; exact h9⟩) _ (.inr rfl)
  · have h9 := of_decide_eq_false h1; try rw [IntKind.wrap_u64] at h9
    refine g_skip ?_
    refine g_then ?_
    refine g_region ?_
    refine s_q (q_move rfl) rfl ?_
    refine s_q (q_nilck rfl) rfl ?_
    refine s_q (q_field rfl) rfl ?_
    refine s_q (q_load rfl rfl) rfl ?_
    refine s_q (q_move rfl) rfl ?_
    refine s_q (q_sub rfl rfl) rfl ?_
    refine s_q (q_nilck rfl) rfl ?_
    refine s_q (q_field rfl) rfl ?_
    refine g_op (g_store rfl rfl rfl rfl rfl rfl rfl ?_)
    refine g_blkc (b := wb) (Wd (b - u)) (by simp [Wd, splice, IntKind.wrap_u64]; omega) ?_
    refine g_nil ?_
    exact fin0 rfl (fun w' hw' => ⟨(), (by first | exact trivial | (dsimp only; exact trivial)), rfl, by have h9 := wok_sub (L' := [Res.blk wb 89 (Wd (b - u))]) w' hw'; exact h9⟩) _ (.inr rfl)

set_option maxHeartbeats 400000 in
theorem wtimes_any (wb : Nat) (b : Int) (u v : Nat) (w : World) (hw : WOK (fps [Res.blk wb 89 (Wd b)]) w [Res.blk wb 89 (Wd b)] w) (hb : 0 ≤ b) (hx : u < 18446744073709551616) (hy : v < 18446744073709551616) (hs : b + ((u * v : Nat) : Int) ≤ 340282366920938463463374607431768211455) : Own2 (ι := Unit) Try.prog 39 [.pointer (some ⟨wb, 0, none⟩), .int .u64 ((u : Nat) : Int), .int .u64 ((v : Nat) : Int)] w [Res.blk wb 89 (Wd b)] (fun x => True) (fun x => .tuple #[]) (fun x => []) (fun x => [Res.blk wb 89 (Wd (b + ((u : Nat) : Int) * ((v : Nat) : Int)))]) := by
  refine g_start Try.func39 rfl 25 rfl (by simp) (fps [Res.blk wb 89 (Wd b)]) [Res.blk wb 89 (Wd b)] hw _ rfl ?_
  refine g_seq ?_
  refine g_region ?_
  refine s_q (q_move rfl) rfl ?_
  refine s_q (q_move rfl) rfl ?_
  refine g_op (g_pure rfl (fun w1 hw1 => mul64_any u v w1 (by omega) (by omega)) rfl ?_)
  refine s_q (q_move rfl) rfl ?_
  refine s_q (q_extract rfl rfl) rfl ?_
  refine s_q (q_extract rfl rfl) rfl ?_
  refine s_q (q_assign rfl) rfl ?_
  refine s_q (q_assign rfl) rfl ?_
  refine g_nil ?_
  refine g_then ?_
  refine g_seq ?_
  refine g_region ?_
  refine s_q (q_move rfl) rfl ?_
  refine s_q (q_move rfl) rfl ?_
  refine g_op (g_ownS [Res.blk wb 89 (Wd b)] rfl (fun w1 hw1 ho1 => by have h7 := wadd_any wb b ((((mlo u v) : Nat) : Int)) w1 ho1 hb (by unfold mlo; omega) (by unfold mlo; omega); exact h7) rfl ?_)
  rintro ⟨⟩ _
  refine ⟨_, _, inferInstance, inferInstance, ?_⟩
  refine g_nil ?_
  refine g_then ?_
  refine g_region ?_
  refine s_q (q_move rfl) rfl ?_
  refine s_q (q_nilck rfl) rfl ?_
  refine s_q (q_field rfl) rfl ?_
  refine s_q (q_load rfl rfl) rfl ?_
  refine s_q (q_move rfl) rfl ?_
  refine s_q (q_add rfl rfl) rfl ?_
  refine s_q (q_nilck rfl) rfl ?_
  refine s_q (q_field rfl) rfl ?_
  refine g_op (g_store rfl rfl rfl rfl rfl rfl rfl ?_)
  refine g_blkc (b := wb) (Wd (b + ((u : Nat) : Int) * ((v : Nat) : Int))) (by rw [← Int.natCast_mul]; simp [Wd, splice, IntKind.wrap_u64, mhi, mlo]; omega) ?_
  refine g_nil ?_
  exact fin0 rfl (fun w' hw' => ⟨(), (by first | exact trivial | (dsimp only; exact trivial)), rfl, by have h9 := wok_sub (L' := [Res.blk wb 89 (Wd (b + ((u : Nat) : Int) * ((v : Nat) : Int)))]) w' hw'; exact h9⟩) _ (.inr rfl)
end Go.Proofs.Ytmolaicpbaiioaa
