/- TopForced: for every configuration and all operations the law returns true. No condition. Part 5 of 42. -/
import Derived.Test.YtdddiilocbbkkaaGreatTF4
set_option linter.unusedVariables false
set_option linter.unusedSimpArgs false
namespace Go.Proofs.YtdddiilocbbkkaaGreat
open Go.RowKit Go.Eg
set_option maxHeartbeats 4000000
set_option synthInstance.maxSize 3000
set_option maxRecDepth 100000
def ceilB (d : Int) : Bool := !decide (d = 0)
def ceilV (a d : Int) : Int := if d = 0 then 0 else if a = 0 then 0 else (a - 1) / d + 1
def epoB (a d : Int) : Bool := !decide (d = 0) && decide (ceilV a d ≤ 1099511627776)
def epoV (a d : Int) : Int := if epoB a d then ceilV a d else 0
def U64 (x : Int) : Prop := 0 ≤ x ∧ x ≤ 18446744073709551615
theorem ceil_bd {a d : Int} (ha : U64 a) (hd : U64 d) : 0 ≤ ceilV a d ∧ ceilV a d ≤ 18446744073709551615 := by
 unfold U64 at *
 unfold ceilV
 split
 ·omega
 ·split
  ·omega
  ·have h1 : 0 < d := by omega
   have h2 : 0 ≤ (a - 1) / d := Int.ediv_nonneg (by omega) (by omega)
   have h3 : (a - 1) / d ≤ a - 1 := Int.ediv_le_self _ (by omega)
   omega
def latB (l : List Int) : Bool := decide ((∀ x ∈ l, 0 ≤ x) ∧ l.sum ≤ 1099511627776)
def latV (l : List Int) : Int := if latB l then l.sum else 0
theorem lat_not {l : List Int} {k : Nat} (hk : k < l.length) (hs : ∀ x ∈ l.take k, 0 ≤ x) (h : l[k] < 0 ∨ 1099511627776 - (l.take k).sum < l[k]) : latB l = false := by
 unfold latB
 refine decide_eq_false fun hc => ?_
 have hk0 := hc.1 l[k] (List.getElem_mem _)
 have e : l.sum = (l.take (k + 1)).sum + (l.drop (k + 1)).sum := by rw [← List.sum_append, List.take_append_drop]
 have e2 : (l.take (k + 1)).sum = (l.take k).sum + l[k] := by rw [← List.take_append_getElem hk, List.sum_append]; simp
 have := xK (l := l.drop (k + 1)) fun x hx => hc.1 x (List.mem_of_mem_drop hx)
 omega
theorem lat_succ {l : List Int} {k : Nat} (hk : k < l.length) (h1 : ∀ x ∈ l.take k, 0 ≤ x) (h2 : 0 ≤ l[k]) : (∀ x ∈ l.take (k + 1), 0 ≤ x) ∧ (l.take (k + 1)).sum = (l.take k).sum + l[k] ∧ 0 ≤ (l.take k).sum := by
 refine ⟨?_, ?_, xK h1⟩
 ·rw [← List.take_append_getElem hk]
  intro x hx
  rcases List.mem_append.1 hx with hx | hx
  ·exact h1 x hx
  ·simp at hx; omega
 ·rw [← List.take_append_getElem hk, List.sum_append]; simp
def I64 (x : Int) : Prop := -9223372036854775808 ≤ x ∧ x ≤ 9223372036854775807
theorem ceil_any (a d : Int) (w : World) (ha : U64 a) (hd : U64 d) : Pur Tryz.prog 80 [.int .u64 a, .int .u64 d] w (.tuple [.int .u64 (ceilV a d), .bool (ceilB d)].toArray) := by
 refine g_st Tryz.func80 17 (WOK.start [] _) ?_
 refine rn [1,3,3,0,8,14,1,2,44,3,0] ?_
 refine zC rfl (fun h1 => ?_) (fun h1 => ?_)
 ·refine rn [1,3,3,0,11] ?_
  refine zN (zD ?_)
  exact fin2 rfl (.tmp rfl) (.tmp rfl) (fun w' hw' => ⟨by simp at h1; simp [ceilV, ceilB, h1], hw'.upd⟩) _ (.inl rfl)
 ·refine rn [1,2,44,3,0] ?_
  refine zC rfl (fun h2 => ?_) (fun h2 => ?_)
  ·refine rn [1,3,3,0,11] ?_
   refine zN (zD ?_)
   exact fin2 rfl (.tmp rfl) (.tmp rfl) (fun w' hw' => ⟨by simp at h1 h2; simp [ceilV, ceilB, h1, h2], hw'.upd⟩) _ (.inl rfl)
  ·refine rn [12,15,7,1,2] ?_
   refine s_q (yY (z := a - 1) rfl rfl (by unfold U64 at *; simp at h1 h2; rw [IntKind.wrap_u64]; omega)) rfl ?_
   refine rn [2] ?_
   refine s_q (q_quo rfl rfl (by simpa using h1)) rfl ?_
   refine g_val 15 (v' := .int .u64 ((a - 1) / d)) rfl (by unfold U64 at *; simp at h1 h2; have e1 : (a - 1).tdiv d = (a - 1) / d := Int.tdiv_eq_ediv_of_nonneg (by omega); have e2 : 0 ≤ (a - 1) / d := Int.ediv_nonneg (by omega) (by omega); have e3 : (a - 1) / d ≤ a - 1 := Int.ediv_le_self _ (by omega); rw [e1, wu64 e2 (by omega)]) ?_
   refine s_q (yM (z := (a - 1) / d + 1) rfl rfl (by unfold U64 at *; simp at h1 h2; have e2 : 0 ≤ (a - 1) / d := Int.ediv_nonneg (by omega) (by omega); have e3 : (a - 1) / d ≤ a - 1 := Int.ediv_le_self _ (by omega); rw [wu64 (by omega) (by omega)])) rfl ?_
   refine rn [3,3,0,11] ?_
   exact fin2 rfl (.tmp rfl) (.tmp rfl) (fun w' hw' => ⟨by simp at h1 h2; simp [ceilV, ceilB, h1, h2], hw'.upd⟩) _ (.inl rfl)
theorem epo_any (a d : Int) (w : World) (ha : U64 a) (hd : U64 d) : Pur Tryz.prog 25 [.int .u64 a, .int .u64 d] w (.tuple [.int .i64 (epoV a d), .bool (epoB a d)].toArray) := by
 refine g_st Tryz.func25 22 (WOK.start [] _) ?_
 refine rn [1,3,3,0,1,2,2] ?_
 refine g_op (zG rfl (fun w1 hw1 => ceil_any _ _ w1 ha hd) rfl ?_)
 refine rn [2,40,40,3,3,0,8,1,2,48,2] ?_
 refine zV 16 rfl (fun h1 => ?_) (fun h1 => ?_)
 ·refine rn [21,21,41,0,19,1,3,3,0,11,13] ?_
  exact fin2 rfl (.tmp rfl) (.tmp rfl) (fun w' hw' => ⟨by first | (simp_all [epoV, epoB, ceilB]; done) | (simp_all [epoV, epoB, ceilB]; omega), hw'.upd⟩) _ (.inl rfl)
 ·refine rn [22,2,22,55,42,0] ?_
  refine zC rfl (fun h2 => ?_) (fun h2 => ?_)
  ·refine rn [1,3,3,0,11,13] ?_
   exact fin2 rfl (.tmp rfl) (.tmp rfl) (fun w' hw' => ⟨by first | (simp_all [epoV, epoB, ceilB]; done) | (simp_all [epoV, epoB, ceilB]; omega), hw'.upd⟩) _ (.inl rfl)
  ·refine rn [12,7,1,2] ?_
   refine s_q (yQ (z := ceilV a d) rfl (by have h0 := ceil_bd ha hd; simp [ceilB] at h1; simp at h2; rw [wi64 (by omega) (by omega)])) rfl ?_
   refine rn [3,3,0,11] ?_
   exact fin2 rfl (.tmp rfl) (.tmp rfl) (fun w' hw' => ⟨by first | (simp_all [epoV, epoB, ceilB]; done) | (simp_all [epoV, epoB, ceilB]; omega), hw'.upd⟩) _ (.inl rfl)
theorem later_any (e : Int) (A : Option Addr) (n cap : Nat) (l : List Int) (w : World) (he : I64 e) (hl : Rd w [] A n 1 (l.map (fun v : Int => [Value.int .i64 v]))) (hok : ∀ x ∈ l, I64 x) (hb : n ≤ 1000) : Keep Tryz.prog 244 [.int .i64 e, .slice A n cap] w [] (.tuple [.int .i64 (latV (e :: l)), .bool (latB (e :: l))].toArray) := by
 refine g_st Tryz.func244 31 (WOK.start (fps []) _) ?_
 have hn : n = l.length := by simpa using hl.old.len
 refine rn [1,3,3,0,1,3,0,8,1,2] ?_
 refine g_op (g_lit rfl rfl rfl rfl rfl fun b10 => ?_)
 refine zJ (b := b10) ((([e] : List Int).map (fun v : Int => [Value.int .i64 v])).flatten) rfl ?_
 refine rn [2] ?_
 refine xN (b := b10) 1 1 (([e] : List Int).map (fun v : Int => [Value.int .i64 v])) (zM (c := (fun v : Int => [Value.int .i64 v])) (fun _ => rfl) _) rfl rfl (by decide) ?_
 refine g_op (zY (A := (some ⟨b10, 0, none⟩)) (els := (([e] : List Int)).map (fun v : Int => [Value.int .i64 v])) (news := ((l).map (fun v : Int => [Value.int .i64 v]))) rfl rfl hl.rdb (yG (c := (fun v : Int => [Value.int .i64 v])) (by intro x; simp [Value.oneCell']) _) (by first | omega | (simp; omega) | (simp_all; omega)) rfl fun A12 cap12 => ⟨_, inferInstance, ?_⟩)
 refine zF (A := A12) (((([e] : List Int) ++ l)).map (fun v : Int => [Value.int .i64 v])) (by first | rfl | exact List.map_append.symm | (simp; done)) ?_
 refine zF (A := A12) ((e :: l).map (fun v : Int => [Value.int .i64 v])) (by simp) ?_
 refine yC (A := A12) (e :: l).length (by simp; omega) ?_
 refine g_val 12 (v' := .slice A12 (e :: l).length cap12) rfl (by first | rfl | (simp [hn]; omega) | (simp; omega)) ?_
 refine rn [47,2,0,14] ?_
 refine g_lk [4, 5, 12, 13] (fun (x : Nat) => [(6, .int .i64 (((e :: l).take x).sum)), (14, .int .i64 ((x : Nat) : Int))]) (fun (x : Nat) => [Res.row A12 (e :: l).length cap12 3 1 ((e :: l).map (fun v : Int => [Value.int .i64 v]))]) (fun (x : Nat) => x ≤ (e :: l).length ∧ (∀ y ∈ (e :: l).take x, 0 ≤ y) ∧ ((e :: l).take x).sum ≤ 1099511627776) (fun (x : Nat) => (e :: l).length - x) 0 (by (try dsimp only); exact ⟨Nat.zero_le _, (by simp), (by simp)⟩) ?_
 rintro k ⟨le_k, hs, ht⟩
 replace le_k : k ≤ (e :: l).length := le_k
 replace hs : ∀ y ∈ (e :: l).take k, 0 ≤ y := hs
 replace ht : ((e :: l).take k).sum ≤ 1099511627776 := ht
 refine rn [1,46,0,8] ?_
 refine zC rfl (fun h1 => ?_) (fun h1 => ?_)
 ·have lt_k : k < (e :: l).length := by have h9 := of_decide_eq_true h1; omega
  have hx : I64 ((e :: l)[k]) := by
    have hm : (e :: l)[k] ∈ (e :: l) := List.getElem_mem _
    rcases List.mem_cons.1 hm with h | h
    · rw [h]; exact he
    · exact hok _ h
  unfold I64 at hx
  have h8 : (e :: l).length ≤ 1001 := by simp; omega
  have hs9 := xK hs
  refine rn [12,7,8,14,1] ?_
  refine s_q (zR (i := k) rfl rfl rfl (InRow.rdb (A := A12) (els := ((e :: l)).map (fun v : Int => [Value.int .i64 v])) (by first | rfl | assumption | (simp; done) | (simp_all; done) | (simp; omega) | (simp_all; omega)) (zM (c := (fun v : Int => [Value.int .i64 v])) (fun _ => rfl) _)) (by first | exact lt_k | omega)) rfl ?_
  refine s_q (yL (i := k) (o := 0) rfl (InRow.rdb (A := A12) (els := ((e :: l)).map (fun v : Int => [Value.int .i64 v])) (by first | rfl | assumption | (simp; done) | (simp_all; done) | (simp; omega) | (simp_all; omega)) (zM (c := (fun v : Int => [Value.int .i64 v])) (fun _ => rfl) _)) (zS (by first | assumption | omega | (simp_all; done) | (simp_all; omega))) rfl rfl) rfl ?_
  refine rn [3,0,8,1,2,46,2] ?_
  refine zV 20 rfl (fun h2 => ?_) (fun h2 => ?_)
  ·refine rn [21,21,21,21,41,0,19,1,3,3,0,11] ?_
   refine zD (zN (zD (zD (zN (zD ?_)))))
   exact fin2 rfl (.tmp rfl) (.tmp rfl) (fun w' hw' => ⟨(), trivial, by have h7 := lat_not lt_k hs (.inl (by simpa using h2)); rw [latV, h7]; rfl, zA w' hw'⟩) _ (.inl rfl)
  ·refine rn [22,2,22,2] ?_
   refine s_qg (yY (z := 1099511627776 - ((e :: l).take k).sum) rfl rfl (by rw [wi64 (by omega) (by omega)])) rfl rfl rfl ?_
   refine rn [22,55,42,0] ?_
   refine zC rfl (fun h3 => ?_) (fun h3 => ?_)
   ·refine rn [1,3,3,0,11] ?_
    refine zD (zN (zD (zD (zN (zD ?_)))))
    exact fin2 rfl (.tmp rfl) (.tmp rfl) (fun w' hw' => ⟨(), trivial, by have h7 := lat_not lt_k hs (.inr (by simp at h3; omega)); rw [latV, h7]; rfl, zA w' hw'⟩) _ (.inl rfl)
   ·refine rn [12,7,10,2,2] ?_
    refine s_q (yM (z := ((e :: l).take (k + 1)).sum) rfl rfl (by have h9 := lat_succ lt_k hs (by simpa using h2); simp at h3; rw [wi64 (by omega) (by omega)]; omega)) rfl ?_
    refine rn [3,9,15,7,10,43,2,9] ?_
    exact g_ag (k + 1) (by (try dsimp only); exact ⟨(by first | exact lt_k | omega), (lat_succ lt_k hs (by simpa using h2)).1, (by have h9 := lat_succ lt_k hs (by simpa using h2); simp at h3; omega)⟩)
 ·have eq_k : k = (e :: l).length := by have h9 := of_decide_eq_false h1; omega
  refine rn [16] ?_
  refine zE (zE (zQ ?_))
  refine rn [7,1,2,3,3,0,11] ?_
  exact fin2 rfl (.tmp rfl) (.tmp rfl) (fun w' hw' => ⟨(), trivial, by rw [eq_k, List.take_length] at hs ht ⊢; have h7 : latB (e :: l) = true := decide_eq_true ⟨hs, ht⟩; rw [latV, h7]; rfl, zA w' hw'⟩) _ (.inl rfl)
structure Cok (c : C) : Prop where
 capa : 1 ≤ c.capa ∧ c.capa ≤ 4096
 minch : 1 ≤ c.minch ∧ c.minch ≤ 1152921504606846976
 fcap : 0 ≤ c.fcap ∧ c.fcap ≤ 1152921504606846976
 unb : 1 ≤ c.unb ∧ c.unb ≤ 1048576
 sld : c.unb < c.sld ∧ c.sld ≤ 1048576
 elen : 1 ≤ c.elen ∧ c.elen ≤ 4096
 vis : 1 ≤ c.vis ∧ c.vis ≤ 4096
 pays : 1 ≤ c.pays ∧ c.pays ≤ 4096
 parts : 0 ≤ c.parts ∧ c.parts < c.vis ∧ c.parts < c.pays
theorem chk_ok {c : C} (h : chk c = 0) (hk : c.ok) : Cok c := by
 have h1 := zU h 1 (by omega) (by omega)
 have h8 := zU h 8 (by omega) (by omega)
 have h10 := zU h 10 (by omega) (by omega)
 have h11 := zU h 11 (by omega) (by omega)
 have h12 := zU h 12 (by omega) (by omega)
 have h14 := zU h 14 (by omega) (by omega)
 have h15 := zU h 15 (by omega) (by omega)
 have h16 := zU h 16 (by omega) (by omega)
 have h17 := zU h 17 (by omega) (by omega)
 simp [rightB, btw] at h1 h8 h10 h11 h12 h14 h15 h16 h17
 have := hk.fcap
 exact ⟨h1, h8, ⟨by omega, h10⟩, h11, h12, h14, h15, h16, h17⟩
def blN (c : C) : Int := min (c.vis - c.parts) (c.pays - c.parts)
def blocksV (c : C) : Int := (c.capa - 1) / blN c + 1
def sweepV (c : C) : Int := (blocksV c - 1) / c.elen
theorem bl_pos {c : C} (h : Cok c) : 1 ≤ blN c ∧ blN c ≤ 4096 := by
 have := h.parts; have := h.vis; have := h.pays
 unfold blN; omega
theorem xJ {c : C} (h : Cok c) : 1 ≤ blocksV c ∧ blocksV c ≤ 4096 := by
 have h1 := h.capa; have h2 := bl_pos h
 have h3 : 0 ≤ (c.capa - 1) / blN c := Int.ediv_nonneg (by omega) (by omega)
 have h4 : (c.capa - 1) / blN c ≤ c.capa - 1 := Int.ediv_le_self _ (by omega)
 unfold blocksV; omega
theorem sweep_bd {c : C} (h : Cok c) : 0 ≤ sweepV c ∧ sweepV c ≤ 4096 := by
 have h1 := xJ h; have h2 := h.elen
 have h3 : 0 ≤ (blocksV c - 1) / c.elen := Int.ediv_nonneg (by omega) (by omega)
 have h4 : (blocksV c - 1) / c.elen ≤ blocksV c - 1 := Int.ediv_le_self _ (by omega)
 unfold sweepV; omega
def bndB (a b : Int) (c : C) : Bool := addB [a, b, c.fcap] && epoB (addV [a, b, c.fcap]) c.minch
def bndV (a b : Int) (c : C) : Int := if bndB a b c then max (epoV (addV [a, b, c.fcap]) c.minch) 1 else 0
def bdsB (e a b : Int) (c : C) (l : List Int) : Bool := bndB a b c && latB (e :: ([bndV a b c, 1] ++ l))
def bdsV (e a b : Int) (c : C) (l : List Int) : Int := if bndB a b c then latV (e :: ([bndV a b c, 1] ++ l)) else 0
theorem okU3 {a b d : Int} (ha : U64 a) (hb : U64 b) (hd : U64 d) : okU [a, b, d] := by
 intro x hx
 simp at hx
 rcases hx with rfl | rfl | rfl <;> assumption
theorem addV_U {l : List Int} (h : okU l) : U64 (addV l) := by
 unfold addV U64
 split
 ·exact ⟨xK fun x hx => (h x hx).1, by assumption⟩
 ·omega
theorem bnd_bd {a b : Int} {c : C} (ha : U64 a) (hb : U64 b) (h : Cok c) : 0 ≤ bndV a b c ∧ bndV a b c ≤ 1099511627776 := by
 unfold bndV
 split
 ·rename_i h1
  simp only [bndB, Bool.and_eq_true] at h1
  have h2 := h1.2
  simp only [epoB, Bool.and_eq_true, decide_eq_true_eq] at h2
  unfold epoV
  rw [if_pos h1.2]
  omega
 ·omega
theorem okI2 {a b : Int} {c : C} {l : List Int} (ha : U64 a) (hb : U64 b) (hc : Cok c) (hok : ∀ x ∈ l, I64 x) : ∀ x ∈ [bndV a b c, 1] ++ l, I64 x := by
 intro x hx
 have hbd := bnd_bd (c := c) ha hb hc
 simp only [List.mem_append, List.mem_cons, List.not_mem_nil, or_false] at hx
 rcases hx with (rfl | rfl) | hx
 ·exact ⟨by omega, by omega⟩
 ·exact ⟨by omega, by omega⟩
 ·exact hok x hx
theorem okM2 {c : C} (hc : Cok c) : ∀ x ∈ [c.unb, sweepV c], I64 x := by
 intro x hx
 have h1 := hc.unb
 have h2 := sweep_bd hc
 simp only [List.mem_cons, List.not_mem_nil, or_false] at hx
 rcases hx with rfl | rfl <;> exact ⟨by omega, by omega⟩
theorem Cok.U {c : C} (h : Cok c) : U64 c.fcap ∧ U64 c.minch := by
 have := h.fcap; have := h.minch; unfold U64; omega
theorem sv_any (c : C) (w : World) (hc : Cok c) : Pur Tryz.prog 138 [c.v] w (.int .i64 (c.vis - c.parts)) := by
 refine g_st Tryz.func138 8 (WOK.start [] _) ?_
 refine rn [1] ?_
 refine g_op (g_box rfl rfl rfl fun b1 => ?_)
 refine rn [3,0,1,4,5,4,5] ?_
 refine s_q (yY (z := c.vis - c.parts) rfl rfl (by have h1 := hc.parts; have h2 := hc.vis; have h3 := hc.pays; have h4 := hc.capa; have h5 := bl_pos hc; have h6 := xJ hc; have h7 := hc.elen; rw [wi64 (by omega) (by omega)])) rfl ?_
 refine rn [3,0,11] ?_
 exact fin1 rfl (.tmp rfl) (fun w' hw' => ⟨by rfl, hw'.upd⟩) _ (.inl rfl)
theorem sp_any (c : C) (w : World) (hc : Cok c) : Pur Tryz.prog 139 [c.v] w (.int .i64 (c.pays - c.parts)) := by
 refine g_st Tryz.func139 8 (WOK.start [] _) ?_
 refine rn [1] ?_
 refine g_op (g_box rfl rfl rfl fun b1 => ?_)
 refine rn [3,0,1,4,5,4,5] ?_
 refine s_q (yY (z := c.pays - c.parts) rfl rfl (by have h1 := hc.parts; have h2 := hc.vis; have h3 := hc.pays; have h4 := hc.capa; have h5 := bl_pos hc; have h6 := xJ hc; have h7 := hc.elen; rw [wi64 (by omega) (by omega)])) rfl ?_
 refine rn [3,0,11] ?_
 exact fin1 rfl (.tmp rfl) (fun w' hw' => ⟨by rfl, hw'.upd⟩) _ (.inl rfl)
theorem sb_any (c : C) (w : World) (hc : Cok c) : Pur Tryz.prog 84 [c.v] w (.int .i64 (blocksV c)) := by
 refine g_st Tryz.func84 15 (WOK.start [] _) ?_
 refine rn [1] ?_
 refine g_op (g_box rfl rfl rfl fun b1 => ?_)
 refine rn [3,0,8] ?_
 refine dreg [] mixed rfl ?_
 refine rn [23,0,45,23,2,45] ?_
 refine dop 1 rfl (zG rfl (fun w1 hw1 => sv_any c w1 hc) rfl ?_)
 refine dop 3 rfl (zG rfl (fun w1 hw1 => sp_any c w1 hc) rfl ?_)
 refine rn [23,4,58] ?_
 refine g_val 8 (v' := .int .i64 (blN c)) rfl (rfl) ?_
 refine rn [23,5,3,27,7,1,4,5] ?_
 refine s_q (yY (z := c.capa - 1) rfl rfl (by have h1 := hc.parts; have h2 := hc.vis; have h3 := hc.pays; have h4 := hc.capa; have h5 := bl_pos hc; have h6 := xJ hc; have h7 := hc.elen; rw [wi64 (by omega) (by omega)])) rfl ?_
 refine rn [2] ?_
 refine s_q (q_quo rfl rfl (by have h1 := hc.parts; have h2 := hc.vis; have h3 := hc.pays; have h4 := hc.capa; have h5 := bl_pos hc; have h6 := xJ hc; have h7 := hc.elen; omega)) rfl ?_
 refine g_val 13 (v' := .int .i64 ((c.capa - 1) / blN c)) rfl (by have h1 := hc.parts; have h2 := hc.vis; have h3 := hc.pays; have h4 := hc.capa; have h5 := bl_pos hc; have h6 := xJ hc; have h7 := hc.elen; have e3 : 0 ≤ (c.capa - 1) / blN c := Int.ediv_nonneg (by omega) (by omega); have e4 : (c.capa - 1) / blN c ≤ c.capa - 1 := Int.ediv_le_self _ (by omega); rw [Int.tdiv_eq_ediv_of_nonneg (by omega), wi64 (by omega) (by omega)]) ?_
 refine s_q (yM (z := blocksV c) rfl rfl (by have h1 := hc.parts; have h2 := hc.vis; have h3 := hc.pays; have h4 := hc.capa; have h5 := bl_pos hc; have h6 := xJ hc; have h7 := hc.elen; have e3 : 0 ≤ (c.capa - 1) / blN c := Int.ediv_nonneg (by omega) (by omega); have e4 : (c.capa - 1) / blN c ≤ c.capa - 1 := Int.ediv_le_self _ (by omega); rw [wi64 (by omega) (by omega)]; rfl)) rfl ?_
 refine rn [3,0,11] ?_
 exact fin1 rfl (.tmp rfl) (fun w' hw' => ⟨by rfl, hw'.upd⟩) _ (.inl rfl)
theorem sw_any (c : C) (w : World) (hc : Cok c) : Pur Tryz.prog 28 [c.v] w (.int .i64 (sweepV c)) := by
 refine g_st Tryz.func28 9 (WOK.start [] _) ?_
 refine rn [1] ?_
 refine g_op (g_box rfl rfl rfl fun b1 => ?_)
 refine rn [3,0,8] ?_
 refine dreg [] mixed rfl ?_
 refine rn [23,0,45,23,3,4,23,4,5] ?_
 refine dop 1 rfl (zG rfl (fun w1 hw1 => sb_any c w1 hc) rfl ?_)
 refine dq 2 rfl (yY (z := blocksV c - 1) rfl rfl (by have h1 := hc.parts; have h2 := hc.vis; have h3 := hc.pays; have h4 := hc.capa; have h5 := bl_pos hc; have h6 := xJ hc; have h7 := hc.elen; rw [wi64 (by omega) (by omega)])) ?_
 refine dq 5 rfl (q_quo rfl rfl (by have h1 := hc.parts; have h2 := hc.vis; have h3 := hc.pays; have h4 := hc.capa; have h5 := bl_pos hc; have h6 := xJ hc; have h7 := hc.elen; omega)) ?_
 refine g_val 8 (v' := .int .i64 (sweepV c)) rfl (by have h1 := hc.parts; have h2 := hc.vis; have h3 := hc.pays; have h4 := hc.capa; have h5 := bl_pos hc; have h6 := xJ hc; have h7 := hc.elen; have e3 : 0 ≤ (blocksV c - 1) / c.elen := Int.ediv_nonneg (by omega) (by omega); have e4 : (blocksV c - 1) / c.elen ≤ blocksV c - 1 := Int.ediv_le_self _ (by omega); rw [Int.tdiv_eq_ediv_of_nonneg (by omega), wi64 (by omega) (by omega)]; rfl) ?_
 refine rn [23,6,3,27,7,11] ?_
 exact fin1 rfl (.tmp rfl) (fun w' hw' => ⟨by rfl, hw'.upd⟩) _ (.inl rfl)
theorem bnd_any (a b : Int) (c : C) (w : World) (ha : U64 a) (hb : U64 b) (hc : Cok c) : Pur Tryz.prog 289 [.int .u64 a, .int .u64 b, c.v] w (.tuple [.int .i64 (bndV a b c), .bool (bndB a b c)].toArray) := by
 refine g_st Tryz.func289 33 (WOK.start [] _) ?_
 refine rn [1] ?_
 refine g_op (g_box rfl rfl rfl fun b5 => ?_)
 refine rn [3,3,0,1,2,2,4,5] ?_
 refine g_op (g_lit rfl rfl rfl rfl rfl fun b16 => ?_)
 refine zJ (b := b16) ((([a, b, (c).fcap] : List Int).map (fun v : Int => [Value.int .u64 v])).flatten) rfl ?_
 refine g_op (zG rfl (fun w1 hw1 => add_any (some ⟨b16, 0, none⟩) (3) (3) (([a, b, (c).fcap] : List Int)) w1 (Rdb.toOld (InL.rdb (b := b16) (els := (([a, b, (c).fcap] : List Int)).map (fun v : Int => [Value.int .u64 v])) rfl (by simp) rfl) hw1) (okU3 ha hb hc.U.1) (by first | omega | (simp; omega) | (simp; done))) rfl ?_)
 refine rn [2,40,40,3,3,0,8,1,2,48,0] ?_
 refine zC rfl (fun h1 => ?_) (fun h1 => ?_)
 ·refine rn [1,3,3,0,11,13] ?_
  exact fin2 rfl (.tmp rfl) (.tmp rfl) (fun w' hw' => ⟨by first | (simp_all [bndV, bndB]; done), hw'.upd⟩) _ (.inl rfl)
 ·refine rn [12,7,1,2,4,5] ?_
  refine g_op (zG rfl (fun w1 hw1 => epo_any _ _ w1 (addV_U (okU3 ha hb hc.U.1)) hc.U.2) rfl ?_)
  refine rn [2,40,40,3,3,0,8,1,2,48,0] ?_
  refine zC rfl (fun h2 => ?_) (fun h2 => ?_)
  ·refine rn [1,3,3,0,11,13] ?_
   exact fin2 rfl (.tmp rfl) (.tmp rfl) (fun w' hw' => ⟨by first | (simp_all [bndV, bndB]; done), hw'.upd⟩) _ (.inl rfl)
  ·refine rn [12,7,1,2,59,3,3,0,11] ?_
   exact fin2 rfl (.tmp rfl) (.tmp rfl) (fun w' hw' => ⟨by first | (simp_all [bndV, bndB]; done), hw'.upd⟩) _ (.inl rfl)
theorem bounds_any (e a b : Int) (c : C) (w : World)  : Own2 (ι := (Nat × Nat × Nat × Nat)) Tryz.prog 246 [.int .i64 e, .int .u64 a, .int .u64 b, c.v] w [] (fun x => True) (fun x => .func (.func 288) #[] [.pointer (some ⟨x.1, 0, none⟩), .pointer (some ⟨x.2.1, 0, none⟩), .pointer (some ⟨x.2.2.1, 0, none⟩), .pointer (some ⟨x.2.2.2, 0, none⟩)].toArray) (fun x => [Res.blk x.1 22 [Value.int .u64 a], Res.blk x.2.1 22 [Value.int .u64 b], Res.blk x.2.2.1 24 c.c, Res.blk x.2.2.2 3 [Value.int .i64 e]]) (fun x => []) := by
 refine g_st Tryz.func246 10 (WOK.start (fps []) _) ?_
 refine rn [1] ?_
 refine g_op (g_box rfl rfl rfl fun b4 => ?_)
 refine g_op (g_box rfl rfl rfl fun b5 => ?_)
 refine g_op (g_box rfl rfl rfl fun b6 => ?_)
 refine g_op (g_box rfl rfl rfl fun b7 => ?_)
 refine rn [3,0,1,52,3,0,11] ?_
 exact fin1 rfl (.tmp rfl) (fun w' hw' => ⟨(b5, b6, b7, b4), (by exact trivial), by first | rfl | (simp_all; done), zA w' hw'⟩) _ (.inl rfl)
theorem bds_any (q1 q2 q3 q4 : Nat) (e a b : Int) (c : C) (A : Option Addr) (n cap : Nat) (l : List Int) (w : World) (hw : W0 [Res.blk q1 22 [Value.int .u64 a], Res.blk q2 22 [Value.int .u64 b], Res.blk q3 24 c.c, Res.blk q4 3 [Value.int .i64 e]] w) (ha : U64 a) (hb : U64 b) (hc : Cok c) (he : I64 e) (hl : Rd w [Res.blk q1 22 [Value.int .u64 a], Res.blk q2 22 [Value.int .u64 b], Res.blk q3 24 c.c, Res.blk q4 3 [Value.int .i64 e]] A n 1 (l.map (fun v : Int => [Value.int .i64 v]))) (hok : ∀ x ∈ l, I64 x) (hn9 : n ≤ 100) : Keep Tryz.prog 288 [.slice A n cap, .pointer (some ⟨q1, 0, none⟩), .pointer (some ⟨q2, 0, none⟩), .pointer (some ⟨q3, 0, none⟩), .pointer (some ⟨q4, 0, none⟩)] w [Res.blk q1 22 [Value.int .u64 a], Res.blk q2 22 [Value.int .u64 b], Res.blk q3 24 c.c, Res.blk q4 3 [Value.int .i64 e]] (.tuple [.int .i64 (bdsV e a b c l), .bool (bdsB e a b c l)].toArray) := by
 refine g_st Tryz.func288 27 hw ?_
 have hn : n = l.length := by simpa using hl.old.len
 refine rn [1,3,3,0,1,5,5,45] ?_
 refine g_op (zG rfl (fun w1 hw1 => bnd_any _ _ _ w1 ha hb hc) rfl ?_)
 refine rn [2,40,40,3,3,0,8,1,2,48,0] ?_
 refine zC rfl (fun h1 => ?_) (fun h1 => ?_)
 ·refine rn [1,3,3,0,11,13] ?_
  exact fin2 rfl (.tmp rfl) (.tmp rfl) (fun w' hw' => ⟨(), trivial, by first | (simp_all [bdsV, bdsB]; done), zA w' hw'⟩) _ (.inl rfl)
 ·refine rn [12,7,8] ?_
  refine dreg [] mixed rfl ?_
  refine rn [23,0,5,23,1,2,23,3,2] ?_
  refine dop 2 rfl (g_lit rfl rfl rfl rfl rfl fun b21 => ?_)
  refine zJ (b := b21) ((([(bndV (a) (b) (c)), 1] : List Int).map (fun v : Int => [Value.int .i64 v])).flatten) rfl ?_
  refine xN (b := b21) 1 2 (([(bndV (a) (b) (c)), 1] : List Int).map (fun v : Int => [Value.int .i64 v])) (zM (c := (fun v : Int => [Value.int .i64 v])) (fun _ => rfl) _) rfl rfl (by decide) ?_
  refine dop 4 rfl (zY (A := (some ⟨b21, 0, none⟩)) (els := (([(bndV (a) (b) (c)), 1] : List Int)).map (fun v : Int => [Value.int .i64 v])) (news := ((l).map (fun v : Int => [Value.int .i64 v]))) rfl rfl hl.rdb (yG (c := (fun v : Int => [Value.int .i64 v])) (by intro x; simp [Value.oneCell']) _) (by first | omega | (simp; omega) | (simp_all; omega)) rfl fun A23 cap23 => ⟨_, inferInstance, ?_⟩)
  refine zF (A := A23) (((([(bndV (a) (b) (c)), 1] : List Int) ++ l)).map (fun v : Int => [Value.int .i64 v])) (by first | rfl | exact List.map_append.symm | (simp; done)) ?_
  refine dop 5 rfl (zK [] rfl (fun w1 hw1 ho1 => by exact later_any (e) A23 ((2 + n)) (cap23) ((([(bndV (a) (b) (c)), 1] : List Int) ++ l)) w1 he (Rd.ofRow (A := A23) hw1) (okI2 ha hb hc hok) (by first | omega | (simp; omega) | (simp; done))) rfl ?_)
  refine rn [23,6,40,23,7,40,23,8,3,23,9,3,27,7,11] ?_
  exact fin2 rfl (.tmp rfl) (.tmp rfl) (fun w' hw' => ⟨(), trivial, by first | (simp_all [bdsV, bdsB]; done), zA w' hw'⟩) _ (.inl rfl)
theorem pay_any (e a b : Int) (c : C) (w : World) (ha : U64 a) (hb : U64 b) (hc : Cok c) (he : I64 e) : Pur Tryz.prog 169 [.int .i64 e, .int .u64 a, .int .u64 b, c.v] w (.tuple [.int .i64 (bdsV e a b c [c.unb, sweepV c]), .bool (bdsB e a b c [c.unb, sweepV c])].toArray) := by
 refine g_st Tryz.func169 23 (WOK.start [] _) ?_
 refine rn [1] ?_
 refine g_op (g_box rfl rfl rfl fun b7 => ?_)
 refine rn [3,3,0,8] ?_
 refine dreg [] mixed rfl ?_
 refine rn [23,0,2,23,1,2,23,2,2,23,3,45,23,5,4,23,6,5,23,7,45] ?_
 refine dop 4 rfl (zH [] rfl (fun w1 hw1 ho1 => by have h7 := bounds_any e a b c w1; exact h7) rfl ?_)
 rintro ⟨ba, bb, bc, bd⟩ _
 refine ii ?_
 refine dop 8 rfl (zG rfl (fun w1 hw1 => sw_any c w1 hc) rfl ?_)
 refine dop 9 rfl (g_lit rfl rfl rfl rfl rfl fun b19 => ?_)
 refine zJ (b := b19) ((([(c).unb, sweepV c] : List Int).map (fun v : Int => [Value.int .i64 v])).flatten) rfl ?_
 refine dop 10 rfl (g_keepV [Res.blk ba 22 [Value.int .u64 a], Res.blk bb 22 [Value.int .u64 b], Res.blk bc 24 c.c, Res.blk bd 3 [Value.int .i64 e]] rfl rfl (fun w1 hw1 ho1 => by have h7 := bds_any ba bb bc bd e a b c (some ⟨b19, 0, none⟩) 2 2 ([(c).unb, sweepV c] : List Int) w1 ho1 ha hb hc he (Rd.ofBlk (b := b19) (els := ([(c).unb, sweepV c] : List Int).map (fun v : Int => [Value.int .i64 v])) hw1 rfl (by simp) rfl) (okM2 hc) (by omega); exact h7) rfl ?_)
 refine rn [23,11,40,23,12,40,23,13,3,23,14,3,27,7,11] ?_
 exact fin2 rfl (.tmp rfl) (.tmp rfl) (fun w' hw' => ⟨by rfl, hw'.upd⟩) _ (.inl rfl)
end Go.Proofs.YtdddiilocbbkkaaGreat
