/- RingPeeks: for every size, list of operations and index the law returns true. No condition. -/
import Derived.Test.YtjhamghjnilgfaaW3
namespace Go.Proofs.Ytjhamghjnilgfaa
open Go.RowKit Go.Eg
set_option linter.unusedSimpArgs false
set_option linter.unusedVariables false
set_option maxHeartbeats 400000 in
theorem law_ringPeeks (n : Nat) (A_l : Option Addr) (c_l : Nat) (l : List O) (i : Int) (w : World) (h_n : n < 256) (o_l : Old w A_l l.length 2 (l.map O.c)) (h_l : l.length ≤ c_l ∧ c_l ≤ 9223372036854775807) (k_l : ∀ x ∈ l, (fun x : O => x.ok w) x) (h_i : -9223372036854775808 ≤ i ∧ i ≤ 9223372036854775807) : Pur Try.prog 8 [.int .u8 ((n : Nat) : Int), .slice A_l l.length c_l, .int .i64 i] w (.bool true) := by
  refine g_start Try.func8 rfl 74 rfl (by simp) ([]) [] (WOK.start _ _) _ rfl ?_
  refine g_seq ?_
  refine g_region ?_
  refine s_q (q_assign rfl) rfl ?_
  refine g_nil ?_
  refine g_then ?_
  refine g_seq ?_
  refine g_region ?_
  refine s_q (q_move rfl) rfl ?_
  refine s_q (q_convz (z := ((n : Nat) : Int)) rfl (wi64 (by omega) (by omega))) rfl ?_
  refine s_q (q_remn (a := n) (b := 20) rfl rfl (by first | omega | (simp; omega) | (simp_all; omega))) rfl ?_
  refine s_q (q_inc rfl rfl (by omega)) rfl ?_
  refine s_q (q_assign rfl) rfl ?_
  refine g_nil ?_
  refine g_then ?_
  refine g_seq ?_
  refine g_region ?_
  refine s_q (q_move rfl) rfl ?_
  refine g_op (g_ownS [] rfl (fun w1 hw1 ho1 => by have h7 := new_i (((n % 20) + 1)) w1 (by omega); exact h7) rfl ?_)
  rintro ⟨b21, g21⟩ ⟨r21, s21⟩
  refine ⟨_, _, inferInstance, inferInstance, ?_⟩
  simp only at r21 s21
  refine s_q (q_move rfl) rfl ?_
  refine s_q (q_build (c := [Value.slice none ([] : List Int).length 0, Value.int .i64 ((((n % 20) + 1) : Nat) : Int)]) rfl rfl) rfl ?_
  refine g_op (g_box (c := [Value.slice none ([] : List Int).length 0, Value.int .i64 ((((n % 20) + 1) : Nat) : Int)]) rfl rfl rfl fun b24 => ?_)
  refine g_roNil none 1 ?_
  refine g_roEq (A := none) (n := 0) (els := []) ([] : List Int).length (([] : List Int).map (fun v : Int => [Value.int .i64 v])) rfl rfl ?_
  refine s_q (q_assign rfl) rfl ?_
  refine s_q (q_assign rfl) rfl ?_
  refine g_nil ?_
  refine g_then ?_
  refine g_seq ?_
  refine g_seq ?_
  refine g_region ?_
  refine s_q (q_move rfl) rfl ?_
  refine s_q (q_eqp (b := false) rfl rfl rfl) rfl ?_
  refine g_nil ?_
  refine g_then ?_
  refine g_false rfl ?_
  refine g_skip ?_
  refine g_then ?_
  refine g_seq ?_
  refine g_seq ?_
  refine g_region ?_
  refine s_q (q_move rfl) rfl ?_
  refine g_op (g_ownS [] rfl (fun w1 hw1 ho1 => by have h7 := few_any A_l c_l l w1 (Rdb.toOld (o_l.rdb rfl) hw1) h_l; exact h7) rfl ?_)
  rintro f28 _
  refine ⟨_, _, inferInstance, inferInstance, ?_⟩
  refine s_q (q_not rfl) rfl ?_
  refine g_nil ?_
  refine g_then ?_
  refine g_cond rfl (fun h1 => ?_) (fun h1 => ?_)
  · refine g_seq ?_
    refine g_region ?_
    refine g_op (g_pure rfl (fun w1 hw1 => alive_any w1) rfl ?_)
    refine s_q (q_assign rfl) rfl ?_
    refine g_nil ?_
    refine g_then ?_
    refine g_ret ?_
    refine g_then_ret ?_
    exact fin1 rfl (.tmp rfl) (fun w' hw' => ⟨by first | rfl | (simp_all; done) | (simp_all; omega), hw'.upd⟩) _ (.inl rfl)
  · refine g_skip ?_
    refine g_then ?_
    refine g_seq ?_
    refine g_seq ?_
    refine g_region ?_
    refine s_q (q_move rfl) rfl ?_
    refine s_q (q_len rfl) rfl ?_
    refine s_q (q_move rfl) rfl ?_
    refine g_nil ?_
    refine g_then ?_
    refine g_block ?_
    refine g_loopk [2, 6, 8, 9, 31, 32] (fun (x : Nat × Rg × Option Addr × Nat × List Int) => [(33, .int .i64 ((x.1 : Nat) : Int))]) (fun (x : Nat × Rg × Option Addr × Nat × List Int) => [Res.blk b21 61 (Rg.c x.2.1), Res.row (Rg.A x.2.1) (Rg.s x.2.1).length (Rg.cap x.2.1) 3 1 (Rg.s x.2.1), Res.blk b24 53 [Value.slice x.2.2.1 (x.2.2.2.2).length x.2.2.2.1, Value.int .i64 ((((n % 20) + 1) : Nat) : Int)], Res.ro x.2.2.1 (x.2.2.2.2).length 1 ((x.2.2.2.2).map (fun v : Int => [Value.int .i64 v]))]) (fun (x : Nat × Rg × Option Addr × Nat × List Int) => x.1 ≤ l.length ∧ Rg.Rep x.2.1 1 ((x.2.2.2.2).map (fun v : Int => [Value.int .i64 v])) ∧ Rg.size x.2.1 = ((n % 20) + 1) ∧ (x.2.2.2.2).length ≤ x.2.2.2.1) (fun (x : Nat × Rg × Option Addr × Nat × List Int) => l.length - x.1) (0, g21, none, 0, ([] : List Int)) (by (try dsimp only); exact ⟨Nat.zero_le _, r21, (by omega), (by simp)⟩) rfl (by repeat (first | exact trivial | refine ⟨rfl, ?_⟩)) wok_sub ?_
    rintro ⟨k, g1, A1, c1, ll⟩ ⟨le_k, hr, hs1, hc1⟩
    replace le_k : k ≤ l.length := le_k
    replace hr : Rg.Rep g1 1 ((ll).map (fun v : Int => [Value.int .i64 v])) := hr
    replace hs1 : Rg.size g1 = ((n % 20) + 1) := hs1
    replace hc1 : (ll).length ≤ c1 := hc1
    refine g_setL (L' := [Res.blk b21 61 (Rg.c g1), Res.row (Rg.A g1) (Rg.s g1).length (Rg.cap g1) 3 1 (Rg.s g1), Res.blk b24 53 [Value.slice A1 (ll).length c1, Value.int .i64 ((((n % 20) + 1) : Nat) : Int)], Res.ro A1 (ll).length 1 ((ll).map (fun v : Int => [Value.int .i64 v]))]) rfl ?_
    refine g_val 33 (v' := .int .i64 ((k : Nat) : Int)) rfl rfl ?_
    have q1 := hr.sz; have q2 := hr.hi; have q3 := hr.le; have q4 := hr.num
    refine g_seq ?_
    refine g_region ?_
    refine s_q (q_lss rfl rfl) rfl ?_
    refine g_nil ?_
    refine g_then ?_
    refine g_seq ?_
    refine g_cond rfl (fun h2 => ?_) (fun h2 => ?_)
    · have lt_k : k < l.length := by have h9 := of_decide_eq_true h2; omega
      refine g_skip ?_
      refine g_then ?_
      refine g_seq ?_
      refine g_block ?_
      refine g_seq ?_
      refine g_region ?_
      refine s_q (q_index (i := k) rfl rfl rfl (o_l.rdb rfl) (by first | exact lt_k | omega)) rfl ?_
      refine s_q (q_load_ew (i := k) rfl (o_l.rdb rfl) (map_get (by first | assumption | omega)) rfl) rfl ?_
      refine g_op (g_alloc rfl fun b11 => ?_)
      refine g_op (g_storew rfl rfl rfl rfl rfl ?_)
      refine g_nil ?_
      refine g_then ?_
      refine g_region ?_
      refine s_q (q_move rfl) rfl ?_
      refine s_q (q_move rfl) rfl ?_
      refine s_q (q_loadw rfl rfl) rfl ?_
      refine g_val 39 (v' := .agg [.int .i64 (l[k]'lt_k).kd, .slice (l[k]'lt_k).B (l[k]'lt_k).l.length (l[k]'lt_k).bc].toArray) rfl (rfl) ?_
      have hO : O.ok w l[k] := k_l _ (List.getElem_mem lt_k)
      refine g_op (g_ownS [Res.blk b21 61 (Rg.c g1), Res.row (Rg.A g1) (Rg.s g1).length (Rg.cap g1) 3 1 (Rg.s g1), Res.blk b24 53 [Value.slice A1 (ll).length c1, Value.int .i64 ((((n % 20) + 1) : Nat) : Int)], Res.ro A1 (ll).length 1 ((ll).map (fun v : Int => [Value.int .i64 v]))] rfl (fun w1 hw1 ho1 => by have h7 := do_any b21 g1 b24 A1 c1 ll ((n % 20) + 1) (l[k]'lt_k).kd (l[k]'lt_k).l (l[k]'lt_k).B (l[k]'lt_k).bc w1 ho1 hr hs1 hc1 (by omega) (Rd.ofOld hw1 hO.1 (by omega) (by simp)) hO.2; exact h7) rfl ?_)
      rintro ⟨g40, A40, c40, l40⟩ ⟨r40, s40, hc40⟩
      refine ⟨_, _, inferInstance, inferInstance, ?_⟩
      simp only at r40 s40 hc40
      have q1 := r40.sz; have q2 := r40.hi; have q3 := r40.le; have q4 := r40.num
      refine g_nil ?_
      refine g_blk_n ?_
      refine g_then ?_
      refine g_region ?_
      refine s_q (q_inc rfl rfl (by omega)) rfl ?_
      refine s_q (q_move rfl) rfl ?_
      refine g_nil ?_
      exact g_again ((k + 1), g40, A40, c40, l40) (by (try dsimp only); exact ⟨(by first | exact lt_k | omega), r40, s40, hc40⟩) (by first | omega | (simp only; omega)) (by repeat (first | exact trivial | refine ⟨rfl, ?_⟩)) wok_sub
    · have eq_k : k = l.length := by have h9 := of_decide_eq_false h2; omega
      refine g_exit ?_
      refine g_then_x (g_then_x (g_blk_hit ?_))
      refine g_then ?_
      refine g_seq ?_
      refine g_region ?_
      refine s_q (q_move rfl) rfl ?_
      refine s_q (q_move rfl) rfl ?_
      refine g_op (g_keep [Res.blk b21 61 (Rg.c g1), Res.row (Rg.A g1) (Rg.s g1).length (Rg.cap g1) 3 1 (Rg.s g1)] rfl (fun w1 hw1 ho1 => by exact peek_i b21 g1 ll _ w1 ho1 hr) rfl ?_)
      refine s_q (q_move rfl) rfl ?_
      refine s_q (q_extract rfl rfl) rfl ?_
      refine s_q (q_extract rfl rfl) rfl ?_
      refine s_q (q_assign rfl) rfl ?_
      refine s_q (q_assign rfl) rfl ?_
      refine g_nil ?_
      refine g_then ?_
      refine g_seq ?_
      refine g_region ?_
      refine s_q (q_move rfl) rfl ?_
      refine s_q (q_move rfl) rfl ?_
      refine g_op (g_keep [Res.blk b24 53 [Value.slice A1 (ll).length c1, Value.int .i64 ((((n % 20) + 1) : Nat) : Int)], Res.ro A1 (ll).length 1 ((ll).map (fun v : Int => [Value.int .i64 v]))] rfl (fun w1 hw1 ho1 => by exact rpeek_any b24 A1 c1 ll ((n % 20) + 1) _ w1 ho1 hc1 (by omega)) rfl ?_)
      refine s_q (q_move rfl) rfl ?_
      refine s_q (q_extract rfl rfl) rfl ?_
      refine s_q (q_extract rfl rfl) rfl ?_
      refine s_q (q_assign rfl) rfl ?_
      refine s_q (q_assign rfl) rfl ?_
      refine g_nil ?_
      refine g_then ?_
      refine g_seq ?_
      refine d_region [] mixed rfl rfl ?_
      refine d_op 0 rfl (by kernel_rfl) (ls' := #[true, false, false, false, false, false, false, false, false, false, false, false, false, false, false, false, false, false, false, false, false]) rfl wok_sub (g_pure rfl (fun w1 hw1 => alive_any w1) rfl ?_)
      refine d_q 1 rfl (by kernel_rfl) (q_move rfl) wok_sub rfl (ls' := #[true, true, false, false, false, false, false, false, false, false, false, false, false, false, false, false, false, false, false, false, false]) rfl ?_
      refine d_qg 2 rfl (by kernel_rfl) (q_move rfl) rfl rfl wok_sub rfl (ls' := #[true, true, true, false, false, false, false, false, false, false, false, false, false, false, false, false, false, false, false, false, false]) rfl ?_
      refine d_qg 3 rfl (by kernel_rfl) (q_move rfl) rfl rfl wok_sub rfl (ls' := #[true, true, true, true, false, false, false, false, false, false, false, false, false, false, false, false, false, false, false, false, false]) rfl ?_
      refine d_qg 4 rfl (by kernel_rfl) (q_eql rfl rfl) rfl rfl wok_sub rfl (ls' := #[true, true, true, true, true, false, false, false, false, false, false, false, false, false, false, false, false, false, false, false, false]) rfl ?_
      refine g_litb 58 (b := true) rfl (by simp) ?_
      refine d_q 5 rfl (by kernel_rfl) (q_pick_t rfl rfl) wok_sub rfl (ls' := #[true, true, true, true, true, true, false, false, false, false, false, false, false, false, false, false, false, false, false, false, false]) rfl ?_
      refine d_q 6 rfl (by kernel_rfl) (q_move rfl) wok_sub rfl (ls' := #[true, true, true, true, true, true, true, false, false, false, false, false, false, false, false, false, false, false, false, false, false]) rfl ?_
      refine d_qg 7 rfl (by kernel_rfl) (q_move rfl) rfl rfl wok_sub rfl (ls' := #[true, true, true, true, true, true, true, true, false, false, false, false, false, false, false, false, false, false, false, false, false]) rfl ?_
      refine d_qg 8 rfl (by kernel_rfl) (q_move rfl) rfl rfl wok_sub rfl (ls' := #[true, true, true, true, true, true, true, true, true, false, false, false, false, false, false, false, false, false, false, false, false]) rfl ?_
      refine d_qg 9 rfl (by kernel_rfl) (q_eql_bool (by kernel_rfl) rfl rfl) rfl rfl wok_sub rfl (ls' := #[true, true, true, true, true, true, true, true, true, true, false, false, false, false, false, false, false, false, false, false, false]) rfl ?_
      refine g_litb 63 (b := true) rfl (by simp) ?_
      refine d_q 10 rfl (by kernel_rfl) (q_pick_t rfl rfl) wok_sub rfl (ls' := #[true, true, true, true, true, true, true, true, true, true, true, false, false, false, false, false, false, false, false, false, false]) rfl ?_
      refine d_q 11 rfl (by kernel_rfl) (q_move rfl) wok_sub rfl (ls' := #[true, true, true, true, true, true, true, true, true, true, true, true, false, false, false, false, false, false, false, false, false]) rfl ?_
      refine d_qg 12 rfl (by kernel_rfl) (q_move rfl) rfl rfl wok_sub rfl (ls' := #[true, true, true, true, true, true, true, true, true, true, true, true, true, false, false, false, false, false, false, false, false]) rfl ?_
      refine d_qg 14 rfl (by kernel_rfl) (q_move rfl) rfl rfl wok_sub rfl (ls' := #[true, true, true, true, true, true, true, true, true, true, true, true, true, false, true, false, false, false, false, false, false]) rfl ?_
      refine d_qg 15 rfl (by kernel_rfl) (q_nilck rfl) rfl rfl wok_sub rfl (ls' := #[true, true, true, true, true, true, true, true, true, true, true, true, true, false, true, true, false, false, false, false, false]) rfl ?_
      refine d_qg 16 rfl (by kernel_rfl) (q_field rfl) rfl rfl wok_sub rfl (ls' := #[true, true, true, true, true, true, true, true, true, true, true, true, true, false, true, true, true, false, false, false, false]) rfl ?_
      refine d_qg 17 rfl (by kernel_rfl) (q_load rfl rfl) rfl rfl wok_sub rfl (ls' := #[true, true, true, true, true, true, true, true, true, true, true, true, true, false, true, true, true, true, false, false, false]) rfl ?_
      refine d_opg 13 rfl (by kernel_rfl) (ls' := #[true, true, true, true, true, true, true, true, true, true, true, true, true, true, true, true, true, true, false, false, false]) rfl rfl rfl wok_sub (g_ownS [Res.blk b21 61 (Rg.c g1), Res.row (Rg.A g1) (Rg.s g1).length (Rg.cap g1) 3 1 (Rg.s g1)] rfl (fun w1 hw1 ho1 => by have h7 := all_i b21 g1 ll w1 ho1 hr; exact h7) rfl ?_)
      rintro ⟨A67, cap67⟩ _
      refine ⟨_, _, inferInstance, inferInstance, ?_⟩
      refine d_opg 18 rfl (by kernel_rfl) (ls' := #[true, true, true, true, true, true, true, true, true, true, true, true, true, true, true, true, true, true, true, false, false]) rfl rfl rfl wok_sub (g_pure rfl (fun w1 hw1 => equal_i A67 A1 _ _ _ _ (ll) (ll) w1 (Rdb.toOld (InRow.rdb (A := A67) (els := (ll).map (fun v : Int => [Value.int .i64 v])) (by simp) (map_cat (c := (fun v : Int => [Value.int .i64 v])) (fun _ => rfl) _)) hw1) (Rdb.toOld (Rdb.ro (A := A1) (els := (ll).map (fun v : Int => [Value.int .i64 v])) (by first | rfl | (simp; done)) (map_cat (c := (fun v : Int => [Value.int .i64 v])) (fun _ => rfl) _)) hw1) (by first | omega | (simp; omega) | (simp_all; omega))) rfl ?_)
      refine g_litb 72 (b := true) rfl (by simp) ?_
      refine d_q 19 rfl (by kernel_rfl) (q_pick_t rfl rfl) wok_sub rfl (ls' := #[true, true, true, true, true, true, true, true, true, true, true, true, true, true, true, true, true, true, true, true, false]) rfl ?_
      refine d_q 20 rfl (by kernel_rfl) (q_assign rfl) wok_sub rfl (ls' := #[true, true, true, true, true, true, true, true, true, true, true, true, true, true, true, true, true, true, true, true, true]) rfl ?_
      refine d_end (by kernel_rfl) (.inr wok_sub) ?_
      refine g_then ?_
      refine g_ret ?_
      exact fin1 rfl (.tmp rfl) (fun w' hw' => ⟨by first | rfl | (simp_all; done) | (simp_all; omega), hw'.upd⟩) _ (.inl rfl)

theorem main_ringPeeks (v0 : Value) (v1 : Value) (v2 : Value) (W : World) (a0 : Arg Try.prog W 5 v0) (a1 : Arg Try.prog W 49 v1) (a2 : Arg Try.prog W 3 v2) : Pur Try.prog 8 [v0, v1, v2] W (.bool true) := by
  obtain ⟨z0, rfl, hz0⟩ := Arg.int Try.underlying5 a0
  obtain ⟨n, rfl⟩ : ∃ q : Nat, z0 = q := ⟨z0.toNat, by have h0 : 0 ≤ z0 ∧ z0 ≤ 255 := hz0; omega⟩
  have h_n : n < 256 := by have h0 : 0 ≤ ((n : Nat) : Int) ∧ ((n : Nat) : Int) ≤ 255 := hz0; omega
  obtain ⟨A_l, c_l, l, rfl, hle1, hm1, o_l, k_l⟩ := Arg.slice O.c (fun x : O => x.ok W) Try.underlying49 (show Try.prog.cellsOf 55 = 2 by kernel_rfl) (by omega) (openO) a1
  have h_l : l.length ≤ c_l ∧ c_l ≤ 9223372036854775807 := ⟨hle1, by unfold maxLen at hm1; omega⟩
  obtain ⟨i, rfl, h_i⟩ := Arg.int Try.underlying3 a2
  exact law_ringPeeks n A_l c_l l i W h_n o_l h_l k_l h_i

namespace LawRingPeeks
open Go.ChangeShapes Go.WideShapes Go.ChangeAt Go.RowKit Go.Eg
set_option linter.unusedVariables false
theorem own : ownKnob Try.prog.godebug = none := by kernel_rfl
theorem laidOut : laidOutB Try.prog = true := by kernel_rfl
set_option maxRecDepth 100000 in
theorem lifted (os : Os) (started : os.Started) (H : Type) (enc : TypeId × Value → H) :
    ReturnsInHanded {} Try.checked os 8 .any (Rows.ringPeeksSpec.pre6 enc Try.prog Try.f8 Rows.ringPeeksRow.domain false) (Rows.ringPeeksSpec.post enc Try.prog Try.f8 false true false false) := by
  refine returnsInHanded_of_change (C := Try.checked) own started (by kernel_rfl) Try.func8
    (ChangeSpec.witness6 (enc := enc) (C := Try.checked) false ⟨#[], #[.int .u8 0, .slice none 0 0, .int .i64 0], []⟩ 8 (by kernel_rfl) (by kernel_rfl) (by kernel_rfl) (by kernel_rfl)) ?_
  intro W base args ds gs before hval0 hW hcnd _
  have hval : ∀ (j : Nat) t v, Try.f8.params[j]? = some t → args[j]? = some v → Value.okWide Try.prog W .any base t v := hval0
  have hW' := hW
  obtain ⟨p, q, hA0, hV, rfl, hfz, hnd⟩ := hW
  have hA : DataW.TrodAll enc Try.prog W 0 (fun _ => true) true Try.f8.params.toList args.toList ds p := hA0
  rw [Try.params8] at hA hval
  obtain ⟨v0, vs0, d0, ds0, p0, q0, hargs, rfl, rfl, h0, r0⟩ := trodAll_cons hA
  obtain ⟨v1, vs1, d1, ds1, p1, q1, rfl, rfl, rfl, h1, r1⟩ := trodAll_cons r0
  obtain ⟨v2, vs2, d2, ds2, p2, q2, rfl, rfl, rfl, h2, r2⟩ := trodAll_cons r1
  obtain ⟨rfl, rfl, rfl⟩ := trodAll_nil r2
  obtain rfl : args = #[v0, v1, v2] := by cases args; simp_all
  obtain ⟨rfl, rfl⟩ := trodVars_none hV
  have a0 := Arg.of h0 (hval 0 5 v0 rfl rfl)
  have lt0 : ∀ x ∈ p0, x.block < W.heap.size := by obtain ⟨m, hm⟩ := h0; exact DataW.trod_lt m _ _ _ hm
  have a1 := Arg.of h1 (hval 1 49 v1 rfl rfl)
  have lt1 : ∀ x ∈ p1, x.block < W.heap.size := by obtain ⟨m, hm⟩ := h1; exact DataW.trod_lt m _ _ _ hm
  have a2 := Arg.of h2 (hval 2 3 v2 rfl rfl)
  have lt2 : ∀ x ∈ p2, x.block < W.heap.size := by obtain ⟨m, hm⟩ := h2; exact DataW.trod_lt m _ _ _ hm
  clear hA0 hval0
  simp only [List.append_nil] at hW'
  refine Calls.mono (main_ringPeeks v0 v1 v2 W a0 a1 a2) ?_
  rintro e W' ⟨v, rfl, rfl, hu⟩
  have bel := hu.below
  have targ := (trodAll_cons_mk (Below.trod laidOut (by kernel_rfl) (of_decide_eq_true (by kernel_rfl)) h0 bel lt0) (trodAll_cons_mk (Below.trod laidOut (by kernel_rfl) (of_decide_eq_true (by kernel_rfl)) h1 bel lt1) (trodAll_cons_mk (Below.trod laidOut (by kernel_rfl) (of_decide_eq_true (by kernel_rfl)) h2 bel lt2) trodAll_mk0)))
  simp only [List.append_nil] at targ
  exact ⟨_, rfl, _, _, _, [], _, [], hW', trodAll_mk1 (shut_bool Try.underlying4 _), targ, rfl, bel.frame _, fun h => by cases h⟩
theorem over : Rows.ringPeeksRow.holds Try.pinned (OpenSpec.ofChange Rows.ringPeeksSpec) :=
  OpenClaim.holds_of_wide 8 Try.f8 rfl rfl rfl rfl rfl rfl rfl ⟨rfl, rfl, rfl, rfl, rfl⟩ rfl rfl rfl rfl rfl (by kernel_rfl) Try.func8 (by kernel_rfl)
    (of_decide_eq_true (by kernel_rfl)) (by unfold Func.isWrapper; first | (rw [if_pos (by decide +kernel)]; kernel_rfl) | (rw [if_neg (by decide +kernel)]; exact ⟨rfl, rfl⟩))
    (fun os started H enc _ => lifted os started H enc)
theorem proved : Rows.RingPeeksSaid := over
end LawRingPeeks
end Go.Proofs.Ytjhamghjnilgfaa
