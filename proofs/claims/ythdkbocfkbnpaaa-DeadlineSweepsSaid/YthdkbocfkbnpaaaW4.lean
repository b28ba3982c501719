/- walks of the deadlines -/
import Derived.Test.YthdkbocfkbnpaaaW3
namespace Go.Proofs.Ythdkbocfkbnpaaa
open Go.RowKit Go.Eg
set_option synthInstance.maxSize 3000
set_option linter.unusedSimpArgs false
set_option linter.unusedVariables false
structure Cok (c : C) : Prop where
  capa : 1 ≤ c.capa ∧ c.capa ≤ 4096
  minch : 1 ≤ c.minch ∧ c.minch ≤ 1152921504606846976
  fcap : 0 ≤ c.fcap ∧ c.fcap ≤ 1152921504606846976
  unb : 1 ≤ c.unb ∧ c.unb ≤ 1048576
  sld : c.unb < c.sld ∧ c.sld ≤ 1048576
  elen : 1 ≤ c.elen ∧ c.elen ≤ 4096
  vis : 1 ≤ c.vis ∧ c.vis ≤ 4096
  pays : 1 ≤ c.pays ∧ c.pays ≤ 4096
  parts : 0 ≤ c.parts ∧ c.parts < c.vis ∧ c.parts < c.pays
theorem chk_ok {c : C} (h : chk c = 0) (hk : c.ok) : Cok c := by
  have h1 := chk_right h 1 (by omega) (by omega)
  have h8 := chk_right h 8 (by omega) (by omega)
  have h10 := chk_right h 10 (by omega) (by omega)
  have h11 := chk_right h 11 (by omega) (by omega)
  have h12 := chk_right h 12 (by omega) (by omega)
  have h14 := chk_right h 14 (by omega) (by omega)
  have h15 := chk_right h 15 (by omega) (by omega)
  have h16 := chk_right h 16 (by omega) (by omega)
  have h17 := chk_right h 17 (by omega) (by omega)
  simp [rightB, btw] at h1 h8 h10 h11 h12 h14 h15 h16 h17
  have := hk.fcap
  exact ⟨h1, h8, ⟨by omega, h10⟩, h11, h12, h14, h15, h16, h17⟩
theorem dflt_ok : Cok dflt := by constructor <;> simp [dflt]
def blN (c : C) : Int := min (c.vis - c.parts) (c.pays - c.parts)
def blocksV (c : C) : Int := (c.capa - 1) / blN c + 1
def sweepV (c : C) : Int := (blocksV c - 1) / c.elen
theorem bl_pos {c : C} (h : Cok c) : 1 ≤ blN c ∧ blN c ≤ 4096 := by
  have := h.parts; have := h.vis; have := h.pays
  unfold blN; omega
theorem blocks_bd {c : C} (h : Cok c) : 1 ≤ blocksV c ∧ blocksV c ≤ 4096 := by
  have h1 := h.capa; have h2 := bl_pos h
  have h3 : 0 ≤ (c.capa - 1) / blN c := Int.ediv_nonneg (by omega) (by omega)
  have h4 : (c.capa - 1) / blN c ≤ c.capa - 1 := Int.ediv_le_self _ (by omega)
  unfold blocksV; omega
theorem sweep_bd {c : C} (h : Cok c) : 0 ≤ sweepV c ∧ sweepV c ≤ 4096 := by
  have h1 := blocks_bd h; have h2 := h.elen
  have h3 : 0 ≤ (blocksV c - 1) / c.elen := Int.ediv_nonneg (by omega) (by omega)
  have h4 : (blocksV c - 1) / c.elen ≤ blocksV c - 1 := Int.ediv_le_self _ (by omega)
  unfold sweepV; omega
theorem ref_blocks {c : C} (h : Cok c) : (c.capa + blN c - 1) / blN c = blocksV c := by
  have h2 := bl_pos h
  have e : c.capa + blN c - 1 = (c.capa - 1) + 1 * blN c := by omega
  rw [e, Int.add_mul_ediv_right _ _ (by omega)]; rfl
def bndB (a b : Int) (c : C) : Bool := addB [a, b, c.fcap] && epoB (addV [a, b, c.fcap]) c.minch
def bndV (a b : Int) (c : C) : Int := if bndB a b c then max (epoV (addV [a, b, c.fcap]) c.minch) 1 else 0
def bdsB (e a b : Int) (c : C) (l : List Int) : Bool := bndB a b c && latB (e :: ([bndV a b c, 1] ++ l))
def bdsV (e a b : Int) (c : C) (l : List Int) : Int := if bndB a b c then latV (e :: ([bndV a b c, 1] ++ l)) else 0
theorem okU3 {a b d : Int} (ha : U64 a) (hb : U64 b) (hd : U64 d) : okU [a, b, d] := by
  intro x hx
  simp at hx
  rcases hx with rfl | rfl | rfl <;> assumption
theorem addV_U {l : List Int} (h : okU l) : U64 (addV l) := by
  unfold addV U64
  split
  · exact ⟨sum_nn fun x hx => (h x hx).1, by assumption⟩
  · omega
theorem bnd_bd {a b : Int} {c : C} (ha : U64 a) (hb : U64 b) (h : Cok c) : 0 ≤ bndV a b c ∧ bndV a b c ≤ 1099511627776 := by
  unfold bndV
  split
  · rename_i h1
    simp only [bndB, Bool.and_eq_true] at h1
    have h2 := h1.2
    simp only [epoB, Bool.and_eq_true, decide_eq_true_eq] at h2
    unfold epoV
    rw [if_pos h1.2]
    omega
  · omega
theorem okI2 {a b : Int} {c : C} {l : List Int} (ha : U64 a) (hb : U64 b) (hc : Cok c) (hok : ∀ x ∈ l, I64 x) : ∀ x ∈ [bndV a b c, 1] ++ l, I64 x := by
  intro x hx
  have hbd := bnd_bd (c := c) ha hb hc
  simp only [List.mem_append, List.mem_cons, List.not_mem_nil, or_false] at hx
  rcases hx with (rfl | rfl) | hx
  · exact ⟨by omega, by omega⟩
  · exact ⟨by omega, by omega⟩
  · exact hok x hx
theorem okM1 {c : C} (hc : Cok c) : ∀ x ∈ [c.unb], I64 x := by
  intro x hx
  have h1 := hc.unb
  simp only [List.mem_cons, List.not_mem_nil, or_false] at hx
  subst hx; exact ⟨by omega, by omega⟩
theorem okM2 {c : C} (hc : Cok c) : ∀ x ∈ [c.unb, sweepV c], I64 x := by
  intro x hx
  have h1 := hc.unb
  have h2 := sweep_bd hc
  simp only [List.mem_cons, List.not_mem_nil, or_false] at hx
  rcases hx with rfl | rfl <;> exact ⟨by omega, by omega⟩
theorem Cok.U {c : C} (h : Cok c) : U64 c.fcap ∧ U64 c.minch := by
  have := h.fcap; have := h.minch; unfold U64; omega

set_option maxHeartbeats 400000 in
theorem sv_any (c : C) (w : World) (hc : Cok c) : Pur Try.prog 48 [c.v] w (.int .i64 (c.vis - c.parts)) := by
  refine g_start Try.func48 rfl 8 rfl (by simp) ([]) [] (WOK.start _ _) _ rfl ?_
  refine g_seq ?_
  refine g_region ?_
  refine g_op (g_box rfl rfl rfl fun b1 => ?_)
  refine s_q (q_assign rfl) rfl ?_
  refine g_nil ?_
  refine g_then ?_
  refine g_seq ?_
  refine g_region ?_
  refine s_q (q_field rfl) rfl ?_
  refine s_q (q_load rfl rfl) rfl ?_
  refine s_q (q_field rfl) rfl ?_
  refine s_q (q_load rfl rfl) rfl ?_
  refine s_q (q_subz (z := c.vis - c.parts) rfl rfl (by have h1 := hc.parts; have h2 := hc.vis; have h3 := hc.pays; have h4 := hc.capa; have h5 := bl_pos hc; have h6 := blocks_bd hc; have h7 := hc.elen; rw [wi64 (by omega) (by omega)])) rfl ?_
  refine s_q (q_assign rfl) rfl ?_
  refine g_nil ?_
  refine g_then ?_
  refine g_ret ?_
  exact fin1 rfl (.tmp rfl) (fun w' hw' => ⟨by rfl, hw'.upd⟩) _ (.inl rfl)

set_option maxHeartbeats 400000 in
theorem sp_any (c : C) (w : World) (hc : Cok c) : Pur Try.prog 49 [c.v] w (.int .i64 (c.pays - c.parts)) := by
  refine g_start Try.func49 rfl 8 rfl (by simp) ([]) [] (WOK.start _ _) _ rfl ?_
  refine g_seq ?_
  refine g_region ?_
  refine g_op (g_box rfl rfl rfl fun b1 => ?_)
  refine s_q (q_assign rfl) rfl ?_
  refine g_nil ?_
  refine g_then ?_
  refine g_seq ?_
  refine g_region ?_
  refine s_q (q_field rfl) rfl ?_
  refine s_q (q_load rfl rfl) rfl ?_
  refine s_q (q_field rfl) rfl ?_
  refine s_q (q_load rfl rfl) rfl ?_
  refine s_q (q_subz (z := c.pays - c.parts) rfl rfl (by have h1 := hc.parts; have h2 := hc.vis; have h3 := hc.pays; have h4 := hc.capa; have h5 := bl_pos hc; have h6 := blocks_bd hc; have h7 := hc.elen; rw [wi64 (by omega) (by omega)])) rfl ?_
  refine s_q (q_assign rfl) rfl ?_
  refine g_nil ?_
  refine g_then ?_
  refine g_ret ?_
  exact fin1 rfl (.tmp rfl) (fun w' hw' => ⟨by rfl, hw'.upd⟩) _ (.inl rfl)

set_option maxHeartbeats 400000 in
theorem sb_any (c : C) (w : World) (hc : Cok c) : Pur Try.prog 31 [c.v] w (.int .i64 (blocksV c)) := by
  refine g_start Try.func31 rfl 15 rfl (by simp) ([]) [] (WOK.start _ _) _ rfl ?_
  refine g_seq ?_
  refine g_region ?_
  refine g_op (g_box rfl rfl rfl fun b1 => ?_)
  refine s_q (q_assign rfl) rfl ?_
  refine g_nil ?_
  refine g_then ?_
  refine g_seq ?_
  refine d_region [] mixed rfl rfl ?_
  refine d_q 0 rfl (by kernel_rfl) (q_loadw rfl rfl) wok_sub rfl (ls' := #[true, false, false, false, false, false]) rfl ?_
  refine d_q 2 rfl (by kernel_rfl) (q_loadw rfl rfl) wok_sub rfl (ls' := #[true, false, true, false, false, false]) rfl ?_
  refine d_op 1 rfl (by kernel_rfl) (ls' := #[true, true, true, false, false, false]) rfl wok_sub (g_pure rfl (fun w1 hw1 => sv_any c w1 hc) rfl ?_)
  refine d_op 3 rfl (by kernel_rfl) (ls' := #[true, true, true, true, false, false]) rfl wok_sub (g_pure rfl (fun w1 hw1 => sp_any c w1 hc) rfl ?_)
  refine d_q 4 rfl (by kernel_rfl) (q_min rfl rfl) wok_sub rfl (ls' := #[true, true, true, true, true, false]) rfl ?_
  refine g_val 8 (v' := .int .i64 (blN c)) rfl (rfl) ?_
  refine d_q 5 rfl (by kernel_rfl) (q_assign rfl) wok_sub rfl (ls' := #[true, true, true, true, true, true]) rfl ?_
  refine d_end (by kernel_rfl) (.inr wok_sub) ?_
  refine g_then ?_
  refine g_seq ?_
  refine g_region ?_
  refine s_q (q_field rfl) rfl ?_
  refine s_q (q_load rfl rfl) rfl ?_
  refine s_q (q_subz (z := c.capa - 1) rfl rfl (by have h1 := hc.parts; have h2 := hc.vis; have h3 := hc.pays; have h4 := hc.capa; have h5 := bl_pos hc; have h6 := blocks_bd hc; have h7 := hc.elen; rw [wi64 (by omega) (by omega)])) rfl ?_
  refine s_q (q_move rfl) rfl ?_
  refine s_q (q_quo rfl rfl (by have h1 := hc.parts; have h2 := hc.vis; have h3 := hc.pays; have h4 := hc.capa; have h5 := bl_pos hc; have h6 := blocks_bd hc; have h7 := hc.elen; omega)) rfl ?_
  refine g_val 13 (v' := .int .i64 ((c.capa - 1) / blN c)) rfl (by have h1 := hc.parts; have h2 := hc.vis; have h3 := hc.pays; have h4 := hc.capa; have h5 := bl_pos hc; have h6 := blocks_bd hc; have h7 := hc.elen; have e3 : 0 ≤ (c.capa - 1) / blN c := Int.ediv_nonneg (by omega) (by omega); have e4 : (c.capa - 1) / blN c ≤ c.capa - 1 := Int.ediv_le_self _ (by omega); rw [Int.tdiv_eq_ediv_of_nonneg (by omega), wi64 (by omega) (by omega)]) ?_
  refine s_q (q_addz (z := blocksV c) rfl rfl (by have h1 := hc.parts; have h2 := hc.vis; have h3 := hc.pays; have h4 := hc.capa; have h5 := bl_pos hc; have h6 := blocks_bd hc; have h7 := hc.elen; have e3 : 0 ≤ (c.capa - 1) / blN c := Int.ediv_nonneg (by omega) (by omega); have e4 : (c.capa - 1) / blN c ≤ c.capa - 1 := Int.ediv_le_self _ (by omega); rw [wi64 (by omega) (by omega)]; rfl)) rfl ?_
  refine s_q (q_assign rfl) rfl ?_
  refine g_nil ?_
  refine g_then ?_
  refine g_ret ?_
  exact fin1 rfl (.tmp rfl) (fun w' hw' => ⟨by rfl, hw'.upd⟩) _ (.inl rfl)

set_option maxHeartbeats 400000 in
theorem sw_any (c : C) (w : World) (hc : Cok c) : Pur Try.prog 18 [c.v] w (.int .i64 (sweepV c)) := by
  refine g_start Try.func18 rfl 9 rfl (by simp) ([]) [] (WOK.start _ _) _ rfl ?_
  refine g_seq ?_
  refine g_region ?_
  refine g_op (g_box rfl rfl rfl fun b1 => ?_)
  refine s_q (q_assign rfl) rfl ?_
  refine g_nil ?_
  refine g_then ?_
  refine g_seq ?_
  refine d_region [] mixed rfl rfl ?_
  refine d_q 0 rfl (by kernel_rfl) (q_loadw rfl rfl) wok_sub rfl (ls' := #[true, false, false, false, false, false, false]) rfl ?_
  refine d_q 3 rfl (by kernel_rfl) (q_field rfl) wok_sub rfl (ls' := #[true, false, false, true, false, false, false]) rfl ?_
  refine d_q 4 rfl (by kernel_rfl) (q_load rfl rfl) wok_sub rfl (ls' := #[true, false, false, true, true, false, false]) rfl ?_
  refine d_op 1 rfl (by kernel_rfl) (ls' := #[true, true, false, true, true, false, false]) rfl wok_sub (g_pure rfl (fun w1 hw1 => sb_any c w1 hc) rfl ?_)
  refine d_q 2 rfl (by kernel_rfl) (q_subz (z := blocksV c - 1) rfl rfl (by have h1 := hc.parts; have h2 := hc.vis; have h3 := hc.pays; have h4 := hc.capa; have h5 := bl_pos hc; have h6 := blocks_bd hc; have h7 := hc.elen; rw [wi64 (by omega) (by omega)])) wok_sub rfl (ls' := #[true, true, true, true, true, false, false]) rfl ?_
  refine d_q 5 rfl (by kernel_rfl) (q_quo rfl rfl (by have h1 := hc.parts; have h2 := hc.vis; have h3 := hc.pays; have h4 := hc.capa; have h5 := bl_pos hc; have h6 := blocks_bd hc; have h7 := hc.elen; omega)) wok_sub rfl (ls' := #[true, true, true, true, true, true, false]) rfl ?_
  refine g_val 8 (v' := .int .i64 (sweepV c)) rfl (by have h1 := hc.parts; have h2 := hc.vis; have h3 := hc.pays; have h4 := hc.capa; have h5 := bl_pos hc; have h6 := blocks_bd hc; have h7 := hc.elen; have e3 : 0 ≤ (blocksV c - 1) / c.elen := Int.ediv_nonneg (by omega) (by omega); have e4 : (blocksV c - 1) / c.elen ≤ blocksV c - 1 := Int.ediv_le_self _ (by omega); rw [Int.tdiv_eq_ediv_of_nonneg (by omega), wi64 (by omega) (by omega)]; rfl) ?_
  refine d_q 6 rfl (by kernel_rfl) (q_assign rfl) wok_sub rfl (ls' := #[true, true, true, true, true, true, true]) rfl ?_
  refine d_end (by kernel_rfl) (.inr wok_sub) ?_
  refine g_then ?_
  refine g_ret ?_
  exact fin1 rfl (.tmp rfl) (fun w' hw' => ⟨by rfl, hw'.upd⟩) _ (.inl rfl)

set_option maxHeartbeats 400000 in
theorem bnd_any (a b : Int) (c : C) (w : World) (ha : U64 a) (hb : U64 b) (hc : Cok c) : Pur Try.prog 11 [.int .u64 a, .int .u64 b, c.v] w (.tuple [.int .i64 (bndV a b c), .bool (bndB a b c)].toArray) := by
  refine g_start Try.func11 rfl 33 rfl (by simp) ([]) [] (WOK.start _ _) _ rfl ?_
  refine g_seq ?_
  refine g_region ?_
  refine g_op (g_box rfl rfl rfl fun b5 => ?_)
  refine s_q (q_assign rfl) rfl ?_
  refine s_q (q_assign rfl) rfl ?_
  refine g_nil ?_
  refine g_then ?_
  refine g_seq ?_
  refine g_region ?_
  refine s_q (q_move rfl) rfl ?_
  refine s_q (q_move rfl) rfl ?_
  refine s_q (q_field rfl) rfl ?_
  refine s_q (q_load rfl rfl) rfl ?_
  refine g_op (g_lit rfl rfl rfl rfl rfl fun b16 => ?_)
  refine g_blkc (b := b16) ((([a, b, (c).fcap] : List Int).map (fun v : Int => [Value.int .u64 v])).flatten) rfl ?_
  refine g_op (g_pure rfl (fun w1 hw1 => add_any (some ⟨b16, 0, none⟩) (3) (3) (([a, b, (c).fcap] : List Int)) w1 (Rdb.toOld (InL.rdb (b := b16) (els := (([a, b, (c).fcap] : List Int)).map (fun v : Int => [Value.int .u64 v])) rfl (by simp) rfl) hw1) (okU3 ha hb hc.U.1) (by first | omega | (simp; omega) | (simp; done))) rfl ?_)
  refine s_q (q_move rfl) rfl ?_
  refine s_q (q_extract rfl rfl) rfl ?_
  refine s_q (q_extract rfl rfl) rfl ?_
  refine s_q (q_assign rfl) rfl ?_
  refine s_q (q_assign rfl) rfl ?_
  refine g_nil ?_
  refine g_then ?_
  refine g_seq ?_
  refine g_seq ?_
  refine g_region ?_
  refine s_q (q_move rfl) rfl ?_
  refine s_q (q_not rfl) rfl ?_
  refine g_nil ?_
  refine g_then ?_
  refine g_cond rfl (fun h1 => ?_) (fun h1 => ?_)
  · refine g_seq ?_
    refine g_region ?_
    refine s_q (q_assign rfl) rfl ?_
    refine s_q (q_assign rfl) rfl ?_
    refine g_nil ?_
    refine g_then ?_
    refine g_ret ?_
    refine g_then_ret ?_
    exact fin2 rfl (.tmp rfl) (.tmp rfl) (fun w' hw' => ⟨by first | (simp_all [bndV, bndB]; done), hw'.upd⟩) _ (.inl rfl)
  · refine g_skip ?_
    refine g_then ?_
    refine g_seq ?_
    refine g_region ?_
    refine s_q (q_move rfl) rfl ?_
    refine s_q (q_field rfl) rfl ?_
    refine s_q (q_load rfl rfl) rfl ?_
    refine g_op (g_pure rfl (fun w1 hw1 => epo_any _ _ w1 (addV_U (okU3 ha hb hc.U.1)) hc.U.2) rfl ?_)
    refine s_q (q_move rfl) rfl ?_
    refine s_q (q_extract rfl rfl) rfl ?_
    refine s_q (q_extract rfl rfl) rfl ?_
    refine s_q (q_assign rfl) rfl ?_
    refine s_q (q_assign rfl) rfl ?_
    refine g_nil ?_
    refine g_then ?_
    refine g_seq ?_
    refine g_seq ?_
    refine g_region ?_
    refine s_q (q_move rfl) rfl ?_
    refine s_q (q_not rfl) rfl ?_
    refine g_nil ?_
    refine g_then ?_
    refine g_cond rfl (fun h2 => ?_) (fun h2 => ?_)
    · refine g_seq ?_
      refine g_region ?_
      refine s_q (q_assign rfl) rfl ?_
      refine s_q (q_assign rfl) rfl ?_
      refine g_nil ?_
      refine g_then ?_
      refine g_ret ?_
      refine g_then_ret ?_
      exact fin2 rfl (.tmp rfl) (.tmp rfl) (fun w' hw' => ⟨by first | (simp_all [bndV, bndB]; done), hw'.upd⟩) _ (.inl rfl)
    · refine g_skip ?_
      refine g_then ?_
      refine g_seq ?_
      refine g_region ?_
      refine s_q (q_move rfl) rfl ?_
      refine s_q (q_max rfl rfl) rfl ?_
      refine s_q (q_assign rfl) rfl ?_
      refine s_q (q_assign rfl) rfl ?_
      refine g_nil ?_
      refine g_then ?_
      refine g_ret ?_
      exact fin2 rfl (.tmp rfl) (.tmp rfl) (fun w' hw' => ⟨by first | (simp_all [bndV, bndB]; done), hw'.upd⟩) _ (.inl rfl)

set_option maxHeartbeats 400000 in
theorem bounds_any (e a b : Int) (c : C) (w : World)  : Own2 (ι := (Nat × Nat × Nat × Nat)) Try.prog 29 [.int .i64 e, .int .u64 a, .int .u64 b, c.v] w [] (fun x => True) (fun x => .func (.func 45) #[] [.pointer (some ⟨x.1, 0, none⟩), .pointer (some ⟨x.2.1, 0, none⟩), .pointer (some ⟨x.2.2.1, 0, none⟩), .pointer (some ⟨x.2.2.2, 0, none⟩)].toArray) (fun x => [Res.blk x.1 22 [Value.int .u64 a], Res.blk x.2.1 22 [Value.int .u64 b], Res.blk x.2.2.1 26 c.c, Res.blk x.2.2.2 3 [Value.int .i64 e]]) (fun x => []) := by
  refine g_start Try.func29 rfl 10 rfl (by simp) (fps []) [] (WOK.start _ _) _ rfl ?_
  refine g_seq ?_
  refine g_region ?_
  refine g_op (g_box rfl rfl rfl fun b4 => ?_)
  refine g_op (g_box rfl rfl rfl fun b5 => ?_)
  refine g_op (g_box rfl rfl rfl fun b6 => ?_)
  refine g_op (g_box rfl rfl rfl fun b7 => ?_)
  refine s_q (q_assign rfl) rfl ?_
  refine g_nil ?_
  refine g_then ?_
  refine g_seq ?_
  refine g_region ?_
  refine s_q (q_funcL rfl rfl (fun _ => rfl)) rfl ?_
  refine s_q (q_assign rfl) rfl ?_
  refine g_nil ?_
  refine g_then ?_
  refine g_ret ?_
  exact fin1 rfl (.tmp rfl) (fun w' hw' => ⟨(b5, b6, b7, b4), (by first | exact trivial | (dsimp only; exact trivial)), by first | rfl | (simp_all; done), by have h9 := wok_sub (L' := [Res.blk ((b5, b6, b7, b4)).1 22 [Value.int .u64 a], Res.blk ((b5, b6, b7, b4)).2.1 22 [Value.int .u64 b], Res.blk ((b5, b6, b7, b4)).2.2.1 26 c.c, Res.blk ((b5, b6, b7, b4)).2.2.2 3 [Value.int .i64 e]]) w' hw'; exact h9⟩) _ (.inl rfl)

set_option maxHeartbeats 400000 in
theorem bds_any (q1 q2 q3 q4 : Nat) (e a b : Int) (c : C) (A : Option Addr) (n cap : Nat) (l : List Int) (w : World) (hw : WOK (fps [Res.blk q1 22 [Value.int .u64 a], Res.blk q2 22 [Value.int .u64 b], Res.blk q3 26 c.c, Res.blk q4 3 [Value.int .i64 e]]) w [Res.blk q1 22 [Value.int .u64 a], Res.blk q2 22 [Value.int .u64 b], Res.blk q3 26 c.c, Res.blk q4 3 [Value.int .i64 e]] w) (ha : U64 a) (hb : U64 b) (hc : Cok c) (he : I64 e) (hl : Rd w [Res.blk q1 22 [Value.int .u64 a], Res.blk q2 22 [Value.int .u64 b], Res.blk q3 26 c.c, Res.blk q4 3 [Value.int .i64 e]] A n 1 (l.map (fun v : Int => [Value.int .i64 v]))) (hok : ∀ x ∈ l, I64 x) (hn9 : n ≤ 100) : Keep Try.prog 45 [.slice A n cap, .pointer (some ⟨q1, 0, none⟩), .pointer (some ⟨q2, 0, none⟩), .pointer (some ⟨q3, 0, none⟩), .pointer (some ⟨q4, 0, none⟩)] w [Res.blk q1 22 [Value.int .u64 a], Res.blk q2 22 [Value.int .u64 b], Res.blk q3 26 c.c, Res.blk q4 3 [Value.int .i64 e]] (.tuple [.int .i64 (bdsV e a b c l), .bool (bdsB e a b c l)].toArray) := by
  refine g_start Try.func45 rfl 27 rfl (by simp) (fps [Res.blk q1 22 [Value.int .u64 a], Res.blk q2 22 [Value.int .u64 b], Res.blk q3 26 c.c, Res.blk q4 3 [Value.int .i64 e]]) [Res.blk q1 22 [Value.int .u64 a], Res.blk q2 22 [Value.int .u64 b], Res.blk q3 26 c.c, Res.blk q4 3 [Value.int .i64 e]] hw _ rfl ?_
  have hn : n = l.length := by simpa using hl.old.len
  refine g_seq ?_
  refine g_region ?_
  refine s_q (q_assign rfl) rfl ?_
  refine s_q (q_assign rfl) rfl ?_
  refine g_nil ?_
  refine g_then ?_
  refine g_seq ?_
  refine g_region ?_
  refine s_q (q_load rfl rfl) rfl ?_
  refine s_q (q_load rfl rfl) rfl ?_
  refine s_q (q_loadw rfl rfl) rfl ?_
  refine g_op (g_pure rfl (fun w1 hw1 => bnd_any _ _ _ w1 ha hb hc) rfl ?_)
  refine s_q (q_move rfl) rfl ?_
  refine s_q (q_extract rfl rfl) rfl ?_
  refine s_q (q_extract rfl rfl) rfl ?_
  refine s_q (q_assign rfl) rfl ?_
  refine s_q (q_assign rfl) rfl ?_
  refine g_nil ?_
  refine g_then ?_
  refine g_seq ?_
  refine g_seq ?_
  refine g_region ?_
  refine s_q (q_move rfl) rfl ?_
  refine s_q (q_not rfl) rfl ?_
  refine g_nil ?_
  refine g_then ?_
  refine g_cond rfl (fun h1 => ?_) (fun h1 => ?_)
  · refine g_seq ?_
    refine g_region ?_
    refine s_q (q_assign rfl) rfl ?_
    refine s_q (q_assign rfl) rfl ?_
    refine g_nil ?_
    refine g_then ?_
    refine g_ret ?_
    refine g_then_ret ?_
    exact fin2 rfl (.tmp rfl) (.tmp rfl) (fun w' hw' => ⟨(), trivial, by first | (simp_all [bdsV, bdsB]; done), by have h9 := wok_sub (L' := [Res.blk q1 22 [Value.int .u64 a], Res.blk q2 22 [Value.int .u64 b], Res.blk q3 26 c.c, Res.blk q4 3 [Value.int .i64 e]]) w' hw'; exact h9⟩) _ (.inl rfl)
  · refine g_skip ?_
    refine g_then ?_
    refine g_seq ?_
    refine d_region [] mixed rfl rfl ?_
    refine d_q 0 rfl (by kernel_rfl) (q_load rfl rfl) wok_sub rfl (ls' := #[true, false, false, false, false, false, false, false, false, false]) rfl ?_
    refine d_q 1 rfl (by kernel_rfl) (q_move rfl) wok_sub rfl (ls' := #[true, true, false, false, false, false, false, false, false, false]) rfl ?_
    refine d_q 3 rfl (by kernel_rfl) (q_move rfl) wok_sub rfl (ls' := #[true, true, false, true, false, false, false, false, false, false]) rfl ?_
    refine d_op 2 rfl (by kernel_rfl) (ls' := #[true, true, true, true, false, false, false, false, false, false]) rfl wok_sub (g_lit rfl rfl rfl rfl rfl fun b21 => ?_)
    refine g_blkc (b := b21) ((([(bndV (a) (b) (c)), 1] : List Int).map (fun v : Int => [Value.int .i64 v])).flatten) rfl ?_
    refine g_blkRow (b := b21) 1 2 (([(bndV (a) (b) (c)), 1] : List Int).map (fun v : Int => [Value.int .i64 v])) (map_cat (c := (fun v : Int => [Value.int .i64 v])) (fun _ => rfl) _) rfl rfl (by decide) ?_
    refine d_op 4 rfl (by kernel_rfl) (ls' := #[true, true, true, true, true, false, false, false, false, false]) rfl wok_sub (g_append (A := (some ⟨b21, 0, none⟩)) (els := (([(bndV (a) (b) (c)), 1] : List Int)).map (fun v : Int => [Value.int .i64 v])) (news := ((l).map (fun v : Int => [Value.int .i64 v]))) rfl rfl hl.rdb (map_one (c := (fun v : Int => [Value.int .i64 v])) (by intro x; simp [Value.oneCell']) _) (by first | omega | (simp; omega) | (simp_all; omega)) rfl fun A23 cap23 => ⟨_, inferInstance, ?_⟩)
    refine g_rowels (A := A23) (((([(bndV (a) (b) (c)), 1] : List Int) ++ l)).map (fun v : Int => [Value.int .i64 v])) (by first | rfl | exact List.map_append.symm | (simp; done)) ?_
    refine d_op 5 rfl (by kernel_rfl) (ls' := #[true, true, true, true, true, true, false, false, false, false]) rfl wok_sub (g_keep [] rfl (fun w1 hw1 ho1 => by exact later_any (e) A23 ((2 + n)) (cap23) ((([(bndV (a) (b) (c)), 1] : List Int) ++ l)) w1 he (Rd.ofRow (A := A23) hw1) (okI2 ha hb hc hok) (by first | omega | (simp; omega) | (simp; done))) rfl ?_)
    refine d_q 6 rfl (by kernel_rfl) (q_extract rfl rfl) wok_sub rfl (ls' := #[true, true, true, true, true, true, true, false, false, false]) rfl ?_
    refine d_q 7 rfl (by kernel_rfl) (q_extract rfl rfl) wok_sub rfl (ls' := #[true, true, true, true, true, true, true, true, false, false]) rfl ?_
    refine d_q 8 rfl (by kernel_rfl) (q_assign rfl) wok_sub rfl (ls' := #[true, true, true, true, true, true, true, true, true, false]) rfl ?_
    refine d_q 9 rfl (by kernel_rfl) (q_assign rfl) wok_sub rfl (ls' := #[true, true, true, true, true, true, true, true, true, true]) rfl ?_
    refine d_end (by kernel_rfl) (.inr wok_sub) ?_
    refine g_then ?_
    refine g_ret ?_
    exact fin2 rfl (.tmp rfl) (.tmp rfl) (fun w' hw' => ⟨(), trivial, by first | (simp_all [bdsV, bdsB]; done), by have h9 := wok_sub (L' := [Res.blk q1 22 [Value.int .u64 a], Res.blk q2 22 [Value.int .u64 b], Res.blk q3 26 c.c, Res.blk q4 3 [Value.int .i64 e]]) w' hw'; exact h9⟩) _ (.inl rfl)

set_option maxHeartbeats 400000 in
theorem exit_any (e a b : Int) (c : C) (w : World) (ha : U64 a) (hb : U64 b) (hc : Cok c) (he : I64 e) : Pur Try.prog 13 [.int .i64 e, .int .u64 a, .int .u64 b, c.v] w (.tuple [.int .i64 (bdsV e a b c []), .bool (bdsB e a b c [])].toArray) := by
  refine g_start Try.func13 rfl 18 rfl (by simp) ([]) [] (WOK.start _ _) _ rfl ?_
  refine g_seq ?_
  refine g_region ?_
  refine g_op (g_box rfl rfl rfl fun b7 => ?_)
  refine s_q (q_assign rfl) rfl ?_
  refine s_q (q_assign rfl) rfl ?_
  refine g_nil ?_
  refine g_then ?_
  refine g_seq ?_
  refine g_region ?_
  refine s_q (q_move rfl) rfl ?_
  refine s_q (q_move rfl) rfl ?_
  refine s_q (q_move rfl) rfl ?_
  refine s_q (q_loadw rfl rfl) rfl ?_
  refine g_op (g_ownS [] rfl (fun w1 hw1 ho1 => by have h7 := bounds_any e a b c w1; exact h7) rfl ?_)
  rintro ⟨ba, bb, bc, bd⟩ _
  refine ⟨_, _, inferInstance, inferInstance, ?_⟩
  refine g_op (g_keepV [Res.blk ba 22 [Value.int .u64 a], Res.blk bb 22 [Value.int .u64 b], Res.blk bc 26 c.c, Res.blk bd 3 [Value.int .i64 e]] rfl rfl (fun w1 hw1 ho1 => by have h7 := bds_any ba bb bc bd e a b c none 0 0 ([] : List Int) w1 ho1 ha hb hc he Rd.zero (by simp) (by omega); exact h7) rfl ?_)
  refine s_q (q_extract rfl rfl) rfl ?_
  refine s_q (q_extract rfl rfl) rfl ?_
  refine s_q (q_assign rfl) rfl ?_
  refine s_q (q_assign rfl) rfl ?_
  refine g_nil ?_
  refine g_then ?_
  refine g_ret ?_
  exact fin2 rfl (.tmp rfl) (.tmp rfl) (fun w' hw' => ⟨by rfl, hw'.upd⟩) _ (.inl rfl)

set_option maxHeartbeats 400000 in
theorem with_any (e a b : Int) (c : C) (w : World) (ha : U64 a) (hb : U64 b) (hc : Cok c) (he : I64 e) : Pur Try.prog 15 [.int .i64 e, .int .u64 a, .int .u64 b, c.v] w (.tuple [.int .i64 (bdsV e a b c [c.unb]), .bool (bdsB e a b c [c.unb])].toArray) := by
  refine g_start Try.func15 rfl 21 rfl (by simp) ([]) [] (WOK.start _ _) _ rfl ?_
  refine g_seq ?_
  refine g_region ?_
  refine g_op (g_box rfl rfl rfl fun b7 => ?_)
  refine s_q (q_assign rfl) rfl ?_
  refine s_q (q_assign rfl) rfl ?_
  refine g_nil ?_
  refine g_then ?_
  refine g_seq ?_
  refine d_region [] mixed rfl rfl ?_
  refine d_q 0 rfl (by kernel_rfl) (q_move rfl) wok_sub rfl (ls' := #[true, false, false, false, false, false, false, false, false, false, false, false, false]) rfl ?_
  refine d_q 1 rfl (by kernel_rfl) (q_move rfl) wok_sub rfl (ls' := #[true, true, false, false, false, false, false, false, false, false, false, false, false]) rfl ?_
  refine d_q 2 rfl (by kernel_rfl) (q_move rfl) wok_sub rfl (ls' := #[true, true, true, false, false, false, false, false, false, false, false, false, false]) rfl ?_
  refine d_q 3 rfl (by kernel_rfl) (q_loadw rfl rfl) wok_sub rfl (ls' := #[true, true, true, true, false, false, false, false, false, false, false, false, false]) rfl ?_
  refine d_q 5 rfl (by kernel_rfl) (q_field rfl) wok_sub rfl (ls' := #[true, true, true, true, false, true, false, false, false, false, false, false, false]) rfl ?_
  refine d_q 6 rfl (by kernel_rfl) (q_load rfl rfl) wok_sub rfl (ls' := #[true, true, true, true, false, true, true, false, false, false, false, false, false]) rfl ?_
  refine d_many [4, 7] (by kernel_rfl) (by simp) wok_sub ⟨d_pick rfl (ls' := #[true, true, true, true, true, true, true, false, false, false, false, false, false]) rfl (g_ownS [] rfl (fun w1 hw1 ho1 => by have h7 := bounds_any e a b c w1; exact h7) rfl ?_), d_pick rfl (ls' := #[true, true, true, true, false, true, true, true, false, false, false, false, false]) rfl (g_lit rfl rfl rfl rfl rfl fun b17 => ?_), trivial⟩
  · rintro ⟨ba, bb, bc, bd⟩ _
    refine ⟨_, _, inferInstance, inferInstance, ?_⟩
    refine d_op 7 rfl (by kernel_rfl) (ls' := #[true, true, true, true, true, true, true, true, false, false, false, false, false]) rfl wok_sub (g_lit rfl rfl rfl rfl rfl fun b17 => ?_)
    refine g_blkc (b := b17) ((([(c).unb] : List Int).map (fun v : Int => [Value.int .i64 v])).flatten) rfl ?_
    refine d_op 8 rfl (by kernel_rfl) (ls' := #[true, true, true, true, true, true, true, true, true, false, false, false, false]) rfl wok_sub (g_keepV [Res.blk ba 22 [Value.int .u64 a], Res.blk bb 22 [Value.int .u64 b], Res.blk bc 26 c.c, Res.blk bd 3 [Value.int .i64 e]] rfl rfl (fun w1 hw1 ho1 => by have h7 := bds_any ba bb bc bd e a b c (some ⟨b17, 0, none⟩) 1 1 ([(c).unb] : List Int) w1 ho1 ha hb hc he (Rd.ofBlk (b := b17) (els := ([(c).unb] : List Int).map (fun v : Int => [Value.int .i64 v])) hw1 rfl (by simp) rfl) (okM1 hc) (by omega); exact h7) rfl ?_)
    refine d_q 9 rfl (by kernel_rfl) (q_extract rfl rfl) wok_sub rfl (ls' := #[true, true, true, true, true, true, true, true, true, true, false, false, false]) rfl ?_
    refine d_q 10 rfl (by kernel_rfl) (q_extract rfl rfl) wok_sub rfl (ls' := #[true, true, true, true, true, true, true, true, true, true, true, false, false]) rfl ?_
    refine d_q 11 rfl (by kernel_rfl) (q_assign rfl) wok_sub rfl (ls' := #[true, true, true, true, true, true, true, true, true, true, true, true, false]) rfl ?_
    refine d_q 12 rfl (by kernel_rfl) (q_assign rfl) wok_sub rfl (ls' := #[true, true, true, true, true, true, true, true, true, true, true, true, true]) rfl ?_
    refine d_end (by kernel_rfl) (.inr wok_sub) ?_
    refine g_then ?_
    refine g_ret ?_
    exact fin2 rfl (.tmp rfl) (.tmp rfl) (fun w' hw' => ⟨by rfl, hw'.upd⟩) _ (.inl rfl)
  · refine g_blkc (b := b17) ((([(c).unb] : List Int).map (fun v : Int => [Value.int .i64 v])).flatten) rfl ?_
    refine d_op 4 rfl (by kernel_rfl) (ls' := #[true, true, true, true, true, true, true, true, false, false, false, false, false]) rfl wok_sub (g_ownS [] rfl (fun w1 hw1 ho1 => by have h7 := bounds_any e a b c w1; exact h7) rfl ?_)
    rintro ⟨ba, bb, bc, bd⟩ _
    refine ⟨_, _, inferInstance, inferInstance, ?_⟩
    refine d_op 8 rfl (by kernel_rfl) (ls' := #[true, true, true, true, true, true, true, true, true, false, false, false, false]) rfl wok_sub (g_keepV [Res.blk ba 22 [Value.int .u64 a], Res.blk bb 22 [Value.int .u64 b], Res.blk bc 26 c.c, Res.blk bd 3 [Value.int .i64 e]] rfl rfl (fun w1 hw1 ho1 => by have h7 := bds_any ba bb bc bd e a b c (some ⟨b17, 0, none⟩) 1 1 ([(c).unb] : List Int) w1 ho1 ha hb hc he (Rd.ofBlk (b := b17) (els := ([(c).unb] : List Int).map (fun v : Int => [Value.int .i64 v])) hw1 rfl (by simp) rfl) (okM1 hc) (by omega); exact h7) rfl ?_)
    refine d_q 9 rfl (by kernel_rfl) (q_extract rfl rfl) wok_sub rfl (ls' := #[true, true, true, true, true, true, true, true, true, true, false, false, false]) rfl ?_
    refine d_q 10 rfl (by kernel_rfl) (q_extract rfl rfl) wok_sub rfl (ls' := #[true, true, true, true, true, true, true, true, true, true, true, false, false]) rfl ?_
    refine d_q 11 rfl (by kernel_rfl) (q_assign rfl) wok_sub rfl (ls' := #[true, true, true, true, true, true, true, true, true, true, true, true, false]) rfl ?_
    refine d_q 12 rfl (by kernel_rfl) (q_assign rfl) wok_sub rfl (ls' := #[true, true, true, true, true, true, true, true, true, true, true, true, true]) rfl ?_
    refine d_end (by kernel_rfl) (.inr wok_sub) ?_
    refine g_then ?_
    refine g_ret ?_
    exact fin2 rfl (.tmp rfl) (.tmp rfl) (fun w' hw' => ⟨by rfl, hw'.upd⟩) _ (.inl rfl)

set_option maxHeartbeats 400000 in
theorem pay_any (e a b : Int) (c : C) (w : World) (ha : U64 a) (hb : U64 b) (hc : Cok c) (he : I64 e) : Pur Try.prog 16 [.int .i64 e, .int .u64 a, .int .u64 b, c.v] w (.tuple [.int .i64 (bdsV e a b c [c.unb, sweepV c]), .bool (bdsB e a b c [c.unb, sweepV c])].toArray) := by
  refine g_start Try.func16 rfl 23 rfl (by simp) ([]) [] (WOK.start _ _) _ rfl ?_
  refine g_seq ?_
  refine g_region ?_
  refine g_op (g_box rfl rfl rfl fun b7 => ?_)
  refine s_q (q_assign rfl) rfl ?_
  refine s_q (q_assign rfl) rfl ?_
  refine g_nil ?_
  refine g_then ?_
  refine g_seq ?_
  refine d_region [] mixed rfl rfl ?_
  refine d_q 0 rfl (by kernel_rfl) (q_move rfl) wok_sub rfl (ls' := #[true, false, false, false, false, false, false, false, false, false, false, false, false, false, false]) rfl ?_
  refine d_q 1 rfl (by kernel_rfl) (q_move rfl) wok_sub rfl (ls' := #[true, true, false, false, false, false, false, false, false, false, false, false, false, false, false]) rfl ?_
  refine d_q 2 rfl (by kernel_rfl) (q_move rfl) wok_sub rfl (ls' := #[true, true, true, false, false, false, false, false, false, false, false, false, false, false, false]) rfl ?_
  refine d_q 3 rfl (by kernel_rfl) (q_loadw rfl rfl) wok_sub rfl (ls' := #[true, true, true, true, false, false, false, false, false, false, false, false, false, false, false]) rfl ?_
  refine d_q 5 rfl (by kernel_rfl) (q_field rfl) wok_sub rfl (ls' := #[true, true, true, true, false, true, false, false, false, false, false, false, false, false, false]) rfl ?_
  refine d_q 6 rfl (by kernel_rfl) (q_load rfl rfl) wok_sub rfl (ls' := #[true, true, true, true, false, true, true, false, false, false, false, false, false, false, false]) rfl ?_
  refine d_q 7 rfl (by kernel_rfl) (q_loadw rfl rfl) wok_sub rfl (ls' := #[true, true, true, true, false, true, true, true, false, false, false, false, false, false, false]) rfl ?_
  refine d_op 4 rfl (by kernel_rfl) (ls' := #[true, true, true, true, true, true, true, true, false, false, false, false, false, false, false]) rfl wok_sub (g_ownS [] rfl (fun w1 hw1 ho1 => by have h7 := bounds_any e a b c w1; exact h7) rfl ?_)
  rintro ⟨ba, bb, bc, bd⟩ _
  refine ⟨_, _, inferInstance, inferInstance, ?_⟩
  refine d_op 8 rfl (by kernel_rfl) (ls' := #[true, true, true, true, true, true, true, true, true, false, false, false, false, false, false]) rfl wok_sub (g_pure rfl (fun w1 hw1 => sw_any c w1 hc) rfl ?_)
  refine d_op 9 rfl (by kernel_rfl) (ls' := #[true, true, true, true, true, true, true, true, true, true, false, false, false, false, false]) rfl wok_sub (g_lit rfl rfl rfl rfl rfl fun b19 => ?_)
  refine g_blkc (b := b19) ((([(c).unb, sweepV c] : List Int).map (fun v : Int => [Value.int .i64 v])).flatten) rfl ?_
  refine d_op 10 rfl (by kernel_rfl) (ls' := #[true, true, true, true, true, true, true, true, true, true, true, false, false, false, false]) rfl wok_sub (g_keepV [Res.blk ba 22 [Value.int .u64 a], Res.blk bb 22 [Value.int .u64 b], Res.blk bc 26 c.c, Res.blk bd 3 [Value.int .i64 e]] rfl rfl (fun w1 hw1 ho1 => by have h7 := bds_any ba bb bc bd e a b c (some ⟨b19, 0, none⟩) 2 2 ([(c).unb, sweepV c] : List Int) w1 ho1 ha hb hc he (Rd.ofBlk (b := b19) (els := ([(c).unb, sweepV c] : List Int).map (fun v : Int => [Value.int .i64 v])) hw1 rfl (by simp) rfl) (okM2 hc) (by omega); exact h7) rfl ?_)
  refine d_q 11 rfl (by kernel_rfl) (q_extract rfl rfl) wok_sub rfl (ls' := #[true, true, true, true, true, true, true, true, true, true, true, true, false, false, false]) rfl ?_
  refine d_q 12 rfl (by kernel_rfl) (q_extract rfl rfl) wok_sub rfl (ls' := #[true, true, true, true, true, true, true, true, true, true, true, true, true, false, false]) rfl ?_
  refine d_q 13 rfl (by kernel_rfl) (q_assign rfl) wok_sub rfl (ls' := #[true, true, true, true, true, true, true, true, true, true, true, true, true, true, false]) rfl ?_
  refine d_q 14 rfl (by kernel_rfl) (q_assign rfl) wok_sub rfl (ls' := #[true, true, true, true, true, true, true, true, true, true, true, true, true, true, true]) rfl ?_
  refine d_end (by kernel_rfl) (.inr wok_sub) ?_
  refine g_then ?_
  refine g_ret ?_
  exact fin2 rfl (.tmp rfl) (.tmp rfl) (fun w' hw' => ⟨by rfl, hw'.upd⟩) _ (.inl rfl)
end Go.Proofs.Ythdkbocfkbnpaaa
