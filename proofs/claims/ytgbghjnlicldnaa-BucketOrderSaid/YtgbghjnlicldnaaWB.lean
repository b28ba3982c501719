/- walk of the reference All; equality of entries -/
import Derived.Test.YtgbghjnlicldnaaWA
namespace Go.Proofs.Ytgbghjnlicldnaa
open Go.RowKit Go.Eg
set_option synthInstance.maxSize 3000
set_option linter.unusedSimpArgs false
set_option linter.unusedVariables false
set_option maxRecDepth 100000
set_option maxHeartbeats 400000 in
theorem equal_en (A B : Option Addr) (n1 n2 cap1 cap2 : Nat) (l1 l2 : List En) (w : World) (ha : Old w A n1 2 (l1.map En.c)) (hb : Old w B n2 2 (l2.map En.c)) (hc1 : n1 ≤ 9223372036854775807) : Pur Try.prog 22 [.slice A n1 cap1, .slice B n2 cap2] w (.bool (decide (l1 = l2))) := by
  refine g_start Try.func22 rfl 26 rfl (by simp) ([]) [] (WOK.start _ _) _ rfl ?_
  have e1 : n1 = l1.length := by simpa using ha.len
  have e2 : n2 = l2.length := by simpa using hb.len
  refine g_seq ?_
  refine g_region ?_
  refine s_q (q_assign rfl) rfl ?_
  refine g_nil ?_
  refine g_then ?_
  refine g_seq ?_
  refine g_seq ?_
  refine g_region ?_
  refine s_q (q_move rfl) rfl ?_
  refine s_q (q_len rfl) rfl ?_
  refine s_q (q_move rfl) rfl ?_
  refine s_q (q_len rfl) rfl ?_
  refine s_q (q_neq rfl rfl) rfl ?_
  refine g_nil ?_
  refine g_then ?_
  refine g_cond rfl (fun h1 => ?_) (fun h1 => ?_)
  · refine g_seq ?_
    refine g_region ?_
    refine s_q (q_assign rfl) rfl ?_
    refine g_nil ?_
    refine g_then ?_
    refine g_ret ?_
    refine g_then_ret ?_
    exact fin1 rfl (.tmp rfl) (fun w' hw' => ⟨by rw [decide_eq_false (fun e => by subst e; simp at h1; omega)], hw'.upd⟩) _ (.inl rfl)
  · have hn : n1 = n2 := by simp at h1; omega
    refine g_skip ?_
    refine g_then ?_
    refine g_seq ?_
    refine g_seq ?_
    refine g_region ?_
    refine s_q (q_move rfl) rfl ?_
    refine s_q (q_len rfl) rfl ?_
    refine s_q (q_move rfl) rfl ?_
    refine g_nil ?_
    refine g_then ?_
    refine g_block ?_
    refine g_loopk [0, 1, 4, 12] (fun (x : Nat) => [(13, .int .i64 ((x : Nat) : Int))]) (fun (x : Nat) => []) (fun (x : Nat) => x ≤ n1 ∧ (∀ j, j < x → l1[j]? = l2[j]?)) (fun (x : Nat) => n1 - x) 0 (by (try dsimp only); exact ⟨Nat.zero_le _, (fun j hj => absurd hj (Nat.not_lt_zero _))⟩) rfl (by repeat (first | exact trivial | refine ⟨rfl, ?_⟩)) wok_sub ?_
    rintro k ⟨le_k, pre⟩
    replace le_k : k ≤ n1 := le_k
    replace pre : ∀ j, j < k → l1[j]? = l2[j]? := pre
    refine g_seq ?_
    refine g_region ?_
    refine s_q (q_lss rfl rfl) rfl ?_
    refine g_nil ?_
    refine g_then ?_
    refine g_seq ?_
    refine g_cond rfl (fun h2 => ?_) (fun h2 => ?_)
    · have lt_k : k < n1 := by have h9 := of_decide_eq_true h2; omega
      have lk1 : k < l1.length := by omega
      have lk2 : k < l2.length := by omega
      refine g_skip ?_
      refine g_then ?_
      refine g_seq ?_
      refine g_block ?_
      refine g_seq ?_
      refine g_region ?_
      refine s_q (q_move rfl) rfl ?_
      refine s_q (q_assign rfl) rfl ?_
      refine g_nil ?_
      refine g_then ?_
      refine g_seq ?_
      refine d_region [] mixed rfl rfl ?_
      refine d_q 0 rfl (by kernel_rfl) (q_move rfl) wok_sub rfl (ls' := #[true, false, false, false, false, false, false, false, false]) rfl ?_
      refine d_q 1 rfl (by kernel_rfl) (q_move rfl) wok_sub rfl (ls' := #[true, true, false, false, false, false, false, false, false]) rfl ?_
      refine d_q 2 rfl (by kernel_rfl) (q_index (i := k) rfl rfl rfl (ha.rdb rfl) (by first | exact lt_k | omega)) wok_sub rfl (ls' := #[true, true, true, false, false, false, false, false, false]) rfl ?_
      refine d_q 3 rfl (by kernel_rfl) (q_load_ew (i := k) rfl (ha.rdb rfl) (map_get (by first | exact (by first | exact lt_k | omega) | omega | (simp_all; done) | (simp_all; omega))) rfl) wok_sub rfl (ls' := #[true, true, true, true, false, false, false, false, false]) rfl ?_
      refine d_q 4 rfl (by kernel_rfl) (q_move rfl) wok_sub rfl (ls' := #[true, true, true, true, true, false, false, false, false]) rfl ?_
      refine d_q 5 rfl (by kernel_rfl) (q_move rfl) wok_sub rfl (ls' := #[true, true, true, true, true, true, false, false, false]) rfl ?_
      refine d_q 6 rfl (by kernel_rfl) (q_index (i := k) rfl rfl rfl (hb.rdb rfl) (by first | exact lt_k | omega)) wok_sub rfl (ls' := #[true, true, true, true, true, true, true, false, false]) rfl ?_
      refine d_q 7 rfl (by kernel_rfl) (q_load_ew (i := k) rfl (hb.rdb rfl) (map_get (by first | exact (by first | exact lt_k | omega) | omega | (simp_all; done) | (simp_all; omega))) rfl) wok_sub rfl (ls' := #[true, true, true, true, true, true, true, true, false]) rfl ?_
      refine d_q 8 rfl (by kernel_rfl) (q_nes rfl rfl rfl) wok_sub rfl (ls' := #[true, true, true, true, true, true, true, true, true]) rfl ?_
      refine d_end (by kernel_rfl) (.inr wok_sub) ?_
      refine g_then ?_
      refine g_cond rfl (fun h3 => ?_) (fun h3 => ?_)
      · refine g_seq ?_
        refine g_region ?_
        refine s_q (q_assign rfl) rfl ?_
        refine g_nil ?_
        refine g_then ?_
        refine g_ret ?_
        refine g_blk_ret (g_then_ret (g_then_ret (g_blk_ret (g_then_ret ?_))))
        exact fin1 rfl (.tmp rfl) (fun w' hw' => ⟨by rw [decide_eq_false (fun e => by subst e; simp at h3)], hw'.upd⟩) _ (.inl rfl)
      · refine g_skip ?_
        refine g_blk_n ?_
        refine g_then ?_
        refine g_region ?_
        refine s_q (q_inc rfl rfl (by omega)) rfl ?_
        refine s_q (q_move rfl) rfl ?_
        refine g_nil ?_
        exact g_again (k + 1) (by (try dsimp only); exact ⟨(by first | exact lt_k | omega), (pre_succ pre (by rw [List.getElem?_eq_getElem (by omega), List.getElem?_eq_getElem (by omega)]; exact congrArg some ((En.ext_iff' _ _).2 (by simpa using h3))))⟩) (by first | omega | (simp only; omega)) (by repeat (first | exact trivial | refine ⟨rfl, ?_⟩)) wok_sub
    · have eq_k : k = n1 := by have h9 := of_decide_eq_false h2; omega
      refine g_exit ?_
      refine g_then_x (g_then_x (g_blk_hit ?_))
      refine g_then ?_
      refine g_seq ?_
      refine g_region ?_
      refine s_q (q_assign rfl) rfl ?_
      refine g_nil ?_
      refine g_then ?_
      refine g_ret ?_
      exact fin1 rfl (.tmp rfl) (fun w' hw' => ⟨by rw [decide_eq_true (pre_all pre (by omega) (by omega))], hw'.upd⟩) _ (.inl rfl)

theorem one_ins {es l : List En} {i a : Nat} (hi : i < es.length) (hs : Srt l) (he : Same l (es.take i)) (h1 : a = 0 ∨ ∃ h : a - 1 < l.length, l[a - 1].e ≤ es[i].e) (ha : a ≤ l.length) (h2 : ∀ y ∈ l.drop a, es[i].e < y.e) :
    Srt (l.take a ++ es[i] :: l.drop a) ∧ Same (l.take a ++ es[i] :: l.drop a) (es.take (i + 1)) := by
  have h := one_right (x := es[i]) hs a (fun y hy => by
    rcases h1 with h0 | ⟨h, hle⟩
    · subst h0; simp at hy
    · rcases Nat.eq_zero_or_pos a with h0 | h0
      · subst h0; simp at hy
      · exact take_le hs h hle y (by rw [show a - 1 + 1 = a from by omega]; exact hy)) h2
  refine ⟨h.1, h.2.trans ?_⟩
  rw [← List.take_append_getElem hi]
  exact Same.app he Same.rfl'

set_option maxHeartbeats 400000 in
theorem rall_any (wb : Nat) (A0 : Option Addr) (c0 : Nat) (A1 : Option Addr) (c1 : Nat) (es : List En) (w : World) (hw : WOK (fps [Res.blk wb 29 [Value.slice A0 (es.map En.e).length c0, Value.slice A1 (es.map En.i).length c1], Res.row A0 (es.map En.e).length c0 3 1 ((es.map En.e).map (fun v : Int => [Value.int .i64 v])), Res.row A1 (es.map En.i).length c1 3 1 ((es.map En.i).map (fun v : Int => [Value.int .i64 v]))]) w [Res.blk wb 29 [Value.slice A0 (es.map En.e).length c0, Value.slice A1 (es.map En.i).length c1], Res.row A0 (es.map En.e).length c0 3 1 ((es.map En.e).map (fun v : Int => [Value.int .i64 v])), Res.row A1 (es.map En.i).length c1 3 1 ((es.map En.i).map (fun v : Int => [Value.int .i64 v]))] w) (hnE : es.length ≤ 1000000) : Own2 (ι := (Option Addr × Nat × Option Addr × Nat × List En)) Try.prog 19 [.pointer (some ⟨wb, 0, none⟩)] w [Res.blk wb 29 [Value.slice A0 (es.map En.e).length c0, Value.slice A1 (es.map En.i).length c1], Res.row A0 (es.map En.e).length c0 3 1 ((es.map En.e).map (fun v : Int => [Value.int .i64 v])), Res.row A1 (es.map En.i).length c1 3 1 ((es.map En.i).map (fun v : Int => [Value.int .i64 v]))] (fun x => Srt x.2.2.2.2 ∧ Same x.2.2.2.2 es ∧ x.2.2.2.2.length = es.length) (fun x => .tuple [.slice x.1 (x.2.2.2.2.map En.e).length x.2.1, .slice x.2.2.1 (x.2.2.2.2.map En.i).length x.2.2.2.1].toArray) (fun x => [Res.row x.1 (x.2.2.2.2.map En.e).length x.2.1 3 1 ((x.2.2.2.2.map En.e).map (fun v : Int => [Value.int .i64 v])), Res.row x.2.2.1 (x.2.2.2.2.map En.i).length x.2.2.2.1 3 1 ((x.2.2.2.2.map En.i).map (fun v : Int => [Value.int .i64 v]))]) (fun x => [Res.blk wb 29 [Value.slice A0 (es.map En.e).length c0, Value.slice A1 (es.map En.i).length c1], Res.row A0 (es.map En.e).length c0 3 1 ((es.map En.e).map (fun v : Int => [Value.int .i64 v])), Res.row A1 (es.map En.i).length c1 3 1 ((es.map En.i).map (fun v : Int => [Value.int .i64 v]))]) := by
  refine g_start Try.func19 rfl 76 rfl (by simp) (fps [Res.blk wb 29 [Value.slice A0 (es.map En.e).length c0, Value.slice A1 (es.map En.i).length c1], Res.row A0 (es.map En.e).length c0 3 1 ((es.map En.e).map (fun v : Int => [Value.int .i64 v])), Res.row A1 (es.map En.i).length c1 3 1 ((es.map En.i).map (fun v : Int => [Value.int .i64 v]))]) [Res.blk wb 29 [Value.slice A0 (es.map En.e).length c0, Value.slice A1 (es.map En.i).length c1], Res.row A0 (es.map En.e).length c0 3 1 ((es.map En.e).map (fun v : Int => [Value.int .i64 v])), Res.row A1 (es.map En.i).length c1 3 1 ((es.map En.i).map (fun v : Int => [Value.int .i64 v]))] hw _ rfl ?_
  refine g_seq ?_
  refine g_region ?_
  refine s_q (q_assign rfl) rfl ?_
  refine s_q (q_assign rfl) rfl ?_
  refine g_nil ?_
  refine g_then ?_
  refine g_seq ?_
  refine g_region ?_
  refine s_q (q_assign rfl) rfl ?_
  refine g_nilrow 4 3 1 rfl fun Az1 capz1 hcz1 => ?_
  refine g_rowels (A := Az1) (([] : List Int).map (fun v : Int => [Value.int .i64 v])) rfl ?_
  refine g_nil ?_
  refine g_then ?_
  refine g_seq ?_
  refine g_region ?_
  refine s_q (q_assign rfl) rfl ?_
  refine g_nilrow 5 3 1 rfl fun Az2 capz2 hcz2 => ?_
  refine g_rowels (A := Az2) (([] : List Int).map (fun v : Int => [Value.int .i64 v])) rfl ?_
  refine g_nil ?_
  refine g_then ?_
  refine g_seq ?_
  refine g_seq ?_
  refine g_region ?_
  refine s_q (q_assign rfl) rfl ?_
  refine g_nil ?_
  refine g_then ?_
  refine g_block ?_
  refine g_rown (A := Az1) (([] : List En).map En.e).length (by rfl) ?_
  refine g_rowels (A := Az1) ((([] : List En).map En.e).map (fun v : Int => [Value.int .i64 v])) (by rfl) ?_
  refine g_rown (A := Az2) (([] : List En).map En.i).length (by rfl) ?_
  refine g_rowels (A := Az2) ((([] : List En).map En.i).map (fun v : Int => [Value.int .i64 v])) (by rfl) ?_
  refine g_loopk [0, 2, 3] (fun (x : Nat × Option Addr × Nat × Option Addr × Nat × List En) => [(4, .slice x.2.1 (x.2.2.2.2.2.map En.e).length x.2.2.1), (5, .slice x.2.2.2.1 (x.2.2.2.2.2.map En.i).length x.2.2.2.2.1), (6, .int .i64 ((x.1 : Nat) : Int))]) (fun (x : Nat × Option Addr × Nat × Option Addr × Nat × List En) => [Res.blk wb 29 [Value.slice A0 (es.map En.e).length c0, Value.slice A1 (es.map En.i).length c1], Res.row A0 (es.map En.e).length c0 3 1 ((es.map En.e).map (fun v : Int => [Value.int .i64 v])), Res.row A1 (es.map En.i).length c1 3 1 ((es.map En.i).map (fun v : Int => [Value.int .i64 v])), Res.row x.2.1 (x.2.2.2.2.2.map En.e).length x.2.2.1 3 1 ((x.2.2.2.2.2.map En.e).map (fun v : Int => [Value.int .i64 v])), Res.row x.2.2.2.1 (x.2.2.2.2.2.map En.i).length x.2.2.2.2.1 3 1 ((x.2.2.2.2.2.map En.i).map (fun v : Int => [Value.int .i64 v]))]) (fun (x : Nat × Option Addr × Nat × Option Addr × Nat × List En) => x.1 ≤ es.length ∧ Srt x.2.2.2.2.2 ∧ Same x.2.2.2.2.2 (es.take x.1) ∧ (x.2.2.2.2.2).length = x.1) (fun (x : Nat × Option Addr × Nat × Option Addr × Nat × List En) => es.length - x.1) (0, Az1, capz1, Az2, capz2, ([] : List En)) (by (try dsimp only); exact ⟨(by omega), Srt.nil, (Same.rfl'), rfl⟩) rfl (by repeat (first | exact trivial | refine ⟨rfl, ?_⟩)) wok_sub ?_
  rintro ⟨i, B, bc, D, dc, l⟩ ⟨hi, hs, he, hl⟩
  replace hi : i ≤ es.length := hi
  replace hs : Srt l := hs
  replace he : Same l (es.take i) := he
  replace hl : (l).length = i := hl
  refine g_setL (L' := [Res.blk wb 29 [Value.slice A0 (es.map En.e).length c0, Value.slice A1 (es.map En.i).length c1], Res.row A0 (es.map En.e).length c0 3 1 ((es.map En.e).map (fun v : Int => [Value.int .i64 v])), Res.row A1 (es.map En.i).length c1 3 1 ((es.map En.i).map (fun v : Int => [Value.int .i64 v])), Res.row B (l.map En.e).length bc 3 1 ((l.map En.e).map (fun v : Int => [Value.int .i64 v])), Res.row D (l.map En.i).length dc 3 1 ((l.map En.i).map (fun v : Int => [Value.int .i64 v]))]) rfl ?_
  refine g_val 4 (v' := .slice B (l.map En.e).length bc) rfl rfl ?_
  refine g_val 5 (v' := .slice D (l.map En.i).length dc) rfl rfl ?_
  refine g_val 6 (v' := .int .i64 ((i : Nat) : Int)) rfl rfl ?_
  have hlE : (l.map En.e).length = i := by simp [hl]
  have hlI : (l.map En.i).length = i := by simp [hl]
  refine g_rowfact B fun hcb _ _ => ?_
  refine g_rowfact D fun hcd _ _ => ?_
  refine g_seq ?_
  refine g_seq ?_
  refine g_region ?_
  refine s_q (q_move rfl) rfl ?_
  refine s_q (q_move rfl) rfl ?_
  refine s_q (q_nilck rfl) rfl ?_
  refine s_q (q_field rfl) rfl ?_
  refine s_q (q_load rfl rfl) rfl ?_
  refine s_q (q_len rfl) rfl ?_
  refine s_q (q_lss rfl rfl) rfl ?_
  refine g_nil ?_
  refine g_then ?_
  refine g_cond rfl (fun h1 => ?_) (fun h1 => ?_)
  · have hi1 : i < es.length := by have h9 := of_decide_eq_true h1; simp at h9; omega
    refine g_skip ?_
    refine g_then ?_
    refine g_seq ?_
    refine g_block ?_
    refine g_seq ?_
    refine g_region ?_
    refine s_q (q_move rfl) rfl ?_
    refine s_q (q_len rfl) rfl ?_
    refine s_q (q_assign rfl) rfl ?_
    refine g_nil ?_
    refine g_then ?_
    refine g_seq ?_
    refine g_block ?_
    refine g_val 7 (v' := .int .i64 ((l.length : Nat) : Int)) rfl (by simp) ?_
    refine g_loopk [0, 2, 3, 4, 5, 6] (fun (x : Nat) => [(7, .int .i64 ((x : Nat) : Int))]) (fun (x : Nat) => [Res.blk wb 29 [Value.slice A0 (es.map En.e).length c0, Value.slice A1 (es.map En.i).length c1], Res.row A0 (es.map En.e).length c0 3 1 ((es.map En.e).map (fun v : Int => [Value.int .i64 v])), Res.row A1 (es.map En.i).length c1 3 1 ((es.map En.i).map (fun v : Int => [Value.int .i64 v])), Res.row B (l.map En.e).length bc 3 1 ((l.map En.e).map (fun v : Int => [Value.int .i64 v])), Res.row D (l.map En.i).length dc 3 1 ((l.map En.i).map (fun v : Int => [Value.int .i64 v]))]) (fun (x : Nat) => x ≤ l.length ∧ (∀ y ∈ l.drop x, (es[i]).e < y.e)) (fun (x : Nat) => x) l.length (by (try dsimp only); exact ⟨(by omega), (by simp)⟩) rfl (by repeat (first | exact trivial | refine ⟨rfl, ?_⟩)) wok_sub ?_
    rintro at9 ⟨ha, hgt⟩
    replace ha : at9 ≤ l.length := ha
    replace hgt : ∀ y ∈ l.drop at9, (es[i]).e < y.e := hgt
    refine g_seq ?_
    refine g_seq ?_
    refine d_region [] mixed rfl rfl ?_
    refine d_q 0 rfl (by kernel_rfl) (q_move rfl) wok_sub rfl (ls' := #[true, false, false, false, false, false, false, false, false, false, false, false, false, false, false, false, false]) rfl ?_
    refine d_q 1 rfl (by kernel_rfl) (q_gtr rfl rfl) wok_sub rfl (ls' := #[true, true, false, false, false, false, false, false, false, false, false, false, false, false, false, false, false]) rfl ?_
    refine d_q 2 rfl (by kernel_rfl) (q_move rfl) wok_sub rfl (ls' := #[true, true, true, false, false, false, false, false, false, false, false, false, false, false, false, false, false]) rfl ?_
    refine g_split 21 rfl (fun h2 => ?_) (fun h2 => ?_)
    · have ha0 : 0 < at9 := by have h9 := of_decide_eq_true h2; omega
      have ia : at9 - 1 < l.length := by omega
      refine d_qg 3 rfl (by kernel_rfl) (q_move rfl) rfl rfl wok_sub rfl (ls' := #[true, true, true, true, false, false, false, false, false, false, false, false, false, false, false, false, false]) rfl ?_
      refine d_qg 4 rfl (by kernel_rfl) (q_move rfl) rfl rfl wok_sub rfl (ls' := #[true, true, true, true, true, false, false, false, false, false, false, false, false, false, false, false, false]) rfl ?_
      refine d_qg 5 rfl (by kernel_rfl) (q_subn (a := at9) (b := 1) rfl rfl (by first | omega | (simp; omega) | (simp_all; omega)) (by first | omega | (simp; omega) | (simp_all; omega))) rfl rfl wok_sub rfl (ls' := #[true, true, true, true, true, true, false, false, false, false, false, false, false, false, false, false, false]) rfl ?_
      refine d_qg 6 rfl (by kernel_rfl) (q_index (i := (at9 - 1)) rfl rfl rfl (InRow.rdb (A := B) (els := ((l.map En.e)).map (fun v : Int => [Value.int .i64 v])) (by first | rfl | assumption | (simp; done) | (simp_all; done) | (simp; omega) | (simp_all; omega)) (map_cat (c := (fun v : Int => [Value.int .i64 v])) (fun _ => rfl) _)) (by first | omega | (simp; done) | (simp; omega))) rfl rfl wok_sub rfl (ls' := #[true, true, true, true, true, true, true, false, false, false, false, false, false, false, false, false, false]) rfl ?_
      refine d_qg 7 rfl (by kernel_rfl) (q_load_el (i := (at9 - 1)) (o := 0) rfl (InRow.rdb (A := B) (els := ((l.map En.e)).map (fun v : Int => [Value.int .i64 v])) (by first | rfl | assumption | (simp; done) | (simp_all; done) | (simp; omega) | (simp_all; omega)) (map_cat (c := (fun v : Int => [Value.int .i64 v])) (fun _ => rfl) _)) (en_get_e (by first | assumption | omega)) rfl rfl) rfl rfl wok_sub rfl (ls' := #[true, true, true, true, true, true, true, true, false, false, false, false, false, false, false, false, false]) rfl ?_
      refine d_qg 8 rfl (by kernel_rfl) (q_move rfl) rfl rfl wok_sub rfl (ls' := #[true, true, true, true, true, true, true, true, true, false, false, false, false, false, false, false, false]) rfl ?_
      refine d_qg 9 rfl (by kernel_rfl) (q_nilck rfl) rfl rfl wok_sub rfl (ls' := #[true, true, true, true, true, true, true, true, true, true, false, false, false, false, false, false, false]) rfl ?_
      refine d_qg 10 rfl (by kernel_rfl) (q_field rfl) rfl rfl wok_sub rfl (ls' := #[true, true, true, true, true, true, true, true, true, true, true, false, false, false, false, false, false]) rfl ?_
      refine d_qg 11 rfl (by kernel_rfl) (q_load rfl rfl) rfl rfl wok_sub rfl (ls' := #[true, true, true, true, true, true, true, true, true, true, true, true, false, false, false, false, false]) rfl ?_
      refine d_qg 12 rfl (by kernel_rfl) (q_move rfl) rfl rfl wok_sub rfl (ls' := #[true, true, true, true, true, true, true, true, true, true, true, true, true, false, false, false, false]) rfl ?_
      refine d_qg 13 rfl (by kernel_rfl) (q_index (i := i) rfl rfl rfl (InRow.rdb (A := A0) (els := ((es.map En.e)).map (fun v : Int => [Value.int .i64 v])) (by first | rfl | assumption | (simp; done) | (simp_all; done) | (simp; omega) | (simp_all; omega)) (map_cat (c := (fun v : Int => [Value.int .i64 v])) (fun _ => rfl) _)) (by first | omega | (simp; done) | (simp; omega))) rfl rfl wok_sub rfl (ls' := #[true, true, true, true, true, true, true, true, true, true, true, true, true, true, false, false, false]) rfl ?_
      refine d_qg 14 rfl (by kernel_rfl) (q_load_el (i := i) (o := 0) rfl (InRow.rdb (A := A0) (els := ((es.map En.e)).map (fun v : Int => [Value.int .i64 v])) (by first | rfl | assumption | (simp; done) | (simp_all; done) | (simp; omega) | (simp_all; omega)) (map_cat (c := (fun v : Int => [Value.int .i64 v])) (fun _ => rfl) _)) (en_get_e (by first | assumption | omega)) rfl rfl) rfl rfl wok_sub rfl (ls' := #[true, true, true, true, true, true, true, true, true, true, true, true, true, true, true, false, false]) rfl ?_
      refine d_qg 15 rfl (by kernel_rfl) (q_gtr rfl rfl) rfl rfl wok_sub rfl (ls' := #[true, true, true, true, true, true, true, true, true, true, true, true, true, true, true, true, false]) rfl ?_
      refine d_q 16 rfl (by kernel_rfl) (q_pick_t rfl rfl) wok_sub rfl (ls' := #[true, true, true, true, true, true, true, true, true, true, true, true, true, true, true, true, true]) rfl ?_
      refine d_end (by kernel_rfl) (.inr wok_sub) ?_
      refine g_then ?_
      refine g_cond rfl (fun h3 => ?_) (fun h3 => ?_)
      · have hlt : (es[i]).e < (l[at9 - 1]).e := by have h9 := of_decide_eq_true h3; omega
        refine g_skip ?_
        refine g_then ?_
        refine g_block ?_
        refine g_region ?_
        refine s_q (q_move rfl) rfl ?_
        refine s_q (q_subn (a := at9) (b := 1) rfl rfl (by first | omega | (simp; omega) | (simp_all; omega)) (by first | omega | (simp; omega) | (simp_all; omega))) rfl ?_
        refine s_q (q_assign rfl) rfl ?_
        refine g_nil ?_
        refine g_blk_n ?_
        exact g_again (at9 - 1) (by (try dsimp only); exact ⟨(by omega), (drop_lt hs ia hlt)⟩) (by omega) (by repeat (first | exact trivial | refine ⟨rfl, ?_⟩)) wok_sub
      · have hone := one_ins hi1 hs he (.inr ⟨ia, by have h9 := of_decide_eq_false h3; omega⟩) ha hgt
        refine g_exit ?_
        refine g_then_x (g_then_x (g_blk_hit ?_))
        refine g_then ?_
        refine g_seq ?_
        refine d_regionL (L0 := [Res.blk wb 29 [Value.slice A0 (es.map En.e).length c0, Value.slice A1 (es.map En.i).length c1], Res.row A0 (es.map En.e).length c0 3 1 ((es.map En.e).map (fun v : Int => [Value.int .i64 v])), Res.row A1 (es.map En.i).length c1 3 1 ((es.map En.i).map (fun v : Int => [Value.int .i64 v])), Res.row B (l.map En.e).length bc 3 1 ((l.map En.e).map (fun v : Int => [Value.int .i64 v])), Res.row D (l.map En.i).length dc 3 1 ((l.map En.i).map (fun v : Int => [Value.int .i64 v]))]) [] mixed rfl rfl wok_sub ?_
        refine d_q 1 rfl (by kernel_rfl) (q_move rfl) wok_sub rfl (ls' := #[false, true, false, false, false, false, false, false, false, false, false, false, false, false, false, false, false, false, false]) rfl ?_
        refine d_q 2 rfl (by kernel_rfl) (q_move rfl) wok_sub rfl (ls' := #[false, true, true, false, false, false, false, false, false, false, false, false, false, false, false, false, false, false, false]) rfl ?_
        refine d_q 3 rfl (by kernel_rfl) (q_slice_h (h := at9) rfl rfl rfl (by omega)) wok_sub rfl (ls' := #[false, true, true, true, false, false, false, false, false, false, false, false, false, false, false, false, false, false, false]) rfl ?_
        refine d_q 5 rfl (by kernel_rfl) (q_move rfl) wok_sub rfl (ls' := #[false, true, true, true, false, true, false, false, false, false, false, false, false, false, false, false, false, false, false]) rfl ?_
        refine d_q 6 rfl (by kernel_rfl) (q_nilck rfl) wok_sub rfl (ls' := #[false, true, true, true, false, true, true, false, false, false, false, false, false, false, false, false, false, false, false]) rfl ?_
        refine d_q 7 rfl (by kernel_rfl) (q_field rfl) wok_sub rfl (ls' := #[false, true, true, true, false, true, true, true, false, false, false, false, false, false, false, false, false, false, false]) rfl ?_
        refine d_q 8 rfl (by kernel_rfl) (q_load rfl rfl) wok_sub rfl (ls' := #[false, true, true, true, false, true, true, true, true, false, false, false, false, false, false, false, false, false, false]) rfl ?_
        refine d_q 9 rfl (by kernel_rfl) (q_move rfl) wok_sub rfl (ls' := #[false, true, true, true, false, true, true, true, true, true, false, false, false, false, false, false, false, false, false]) rfl ?_
        refine d_q 10 rfl (by kernel_rfl) (q_index (i := i) rfl rfl rfl (InRow.rdb (A := A0) (els := ((es.map En.e)).map (fun v : Int => [Value.int .i64 v])) (by first | rfl | assumption | (simp; done) | (simp_all; done) | (simp; omega) | (simp_all; omega)) (map_cat (c := (fun v : Int => [Value.int .i64 v])) (fun _ => rfl) _)) (by first | omega | (simp; done) | (simp; omega))) wok_sub rfl (ls' := #[false, true, true, true, false, true, true, true, true, true, true, false, false, false, false, false, false, false, false]) rfl ?_
        refine d_q 11 rfl (by kernel_rfl) (q_load_el (i := i) (o := 0) rfl (InRow.rdb (A := A0) (els := ((es.map En.e)).map (fun v : Int => [Value.int .i64 v])) (by first | rfl | assumption | (simp; done) | (simp_all; done) | (simp; omega) | (simp_all; omega)) (map_cat (c := (fun v : Int => [Value.int .i64 v])) (fun _ => rfl) _)) (en_get_e (by first | assumption | omega)) rfl rfl) wok_sub rfl (ls' := #[false, true, true, true, false, true, true, true, true, true, true, true, false, false, false, false, false, false, false]) rfl ?_
        refine d_q 14 rfl (by kernel_rfl) (q_move rfl) wok_sub rfl (ls' := #[false, true, true, true, false, true, true, true, true, true, true, true, false, false, true, false, false, false, false]) rfl ?_
        refine d_q 15 rfl (by kernel_rfl) (q_move rfl) wok_sub rfl (ls' := #[false, true, true, true, false, true, true, true, true, true, true, true, false, false, true, true, false, false, false]) rfl ?_
        refine d_q 16 rfl (by kernel_rfl) (q_slice_l (l := at9) rfl rfl rfl (by omega)) wok_sub rfl (ls' := #[false, true, true, true, false, true, true, true, true, true, true, true, false, false, true, true, true, false, false]) rfl ?_
        refine d_many [0, 12] (by kernel_rfl) (by simp) wok_sub ⟨d_pick rfl (ls' := #[true, true, true, true, false, true, true, true, true, true, true, true, false, false, true, true, true, false, false]) rfl (g_lit rfl rfl rfl rfl rfl fun b38 => ?_), d_pick rfl (ls' := #[false, true, true, true, false, true, true, true, true, true, true, true, true, false, true, true, true, false, false]) rfl (g_lit rfl rfl rfl rfl rfl fun b50 => ?_), trivial⟩
        · refine g_norow (t := 38) (T := 3) (k := 1) rfl fun A38 cap38 hc38 => ?_
          refine g_rowels (A := A38) (([] : List Int).map (fun v : Int => [Value.int .i64 v])) rfl ?_
          refine d_many [4, 12] (by kernel_rfl) (by simp) wok_sub ⟨d_pick rfl (ls' := #[true, true, true, true, true, true, true, true, true, true, true, true, false, false, true, true, true, false, false]) rfl (g_append (A := A38) (els := (([] : List Int)).map (fun v : Int => [Value.int .i64 v])) (news := ((((l.map En.e).take at9)).map (fun v : Int => [Value.int .i64 v]))) rfl rfl (by rw [List.map_take]; exact Rdb.h (cap := bc) (InRow.rdb (A := B) (els := ((l.map En.e)).map (fun v : Int => [Value.int .i64 v])) (by first | rfl | assumption | (simp; done) | (simp_all; done) | (simp; omega) | (simp_all; omega)) (map_cat (c := (fun v : Int => [Value.int .i64 v])) (fun _ => rfl) _)) (by omega) (by omega)) (map_one (c := (fun v : Int => [Value.int .i64 v])) (by intro x; simp [Value.oneCell']) _) (by omega) rfl fun A42 cap42 => ⟨_, inferInstance, ?_⟩), d_pick rfl (ls' := #[true, true, true, true, false, true, true, true, true, true, true, true, true, false, true, true, true, false, false]) rfl (g_lit rfl rfl rfl rfl rfl fun b50 => ?_), trivial⟩
          · refine g_rowels (A := A42) ((((l.map En.e).take at9)).map (fun v : Int => [Value.int .i64 v])) (by first | rfl | exact List.map_append.symm | (simp; done)) ?_
            refine g_rown (A := A42) (at9) (by simp) ?_
            refine g_val 42 (v' := .slice A42 (at9) cap42) rfl (by simp) ?_
            refine d_op 12 rfl (by kernel_rfl) (ls' := #[true, true, true, true, true, true, true, true, true, true, true, true, true, false, true, true, true, false, false]) rfl wok_sub (g_lit rfl rfl rfl rfl rfl fun b50 => ?_)
            refine g_blkc (b := b50) ((([(es[i]).e] : List Int).map (fun v : Int => [Value.int .i64 v])).flatten) rfl ?_
            refine d_op 13 rfl (by kernel_rfl) (ls' := #[true, true, true, true, true, true, true, true, true, true, true, true, true, true, true, true, true, false, false]) rfl wok_sub (g_append (A := A42) (els := (((l.map En.e).take at9)).map (fun v : Int => [Value.int .i64 v])) (news := (([(es[i]).e] : List Int).map (fun v : Int => [Value.int .i64 v]))) rfl rfl (InL.rdb (b := b50) rfl (by simp) rfl) (map_one (c := (fun v : Int => [Value.int .i64 v])) (by intro x; simp [Value.oneCell']) _) (by omega) rfl fun A51 cap51 => ⟨_, inferInstance, ?_⟩)
            refine g_rowels (A := A51) (((((l.map En.e).take at9) ++ [(es[i]).e])).map (fun v : Int => [Value.int .i64 v])) (by first | rfl | exact List.map_append.symm | (simp; done)) ?_
            refine d_op 17 rfl (by kernel_rfl) (ls' := #[true, true, true, true, true, true, true, true, true, true, true, true, true, true, true, true, true, true, false]) rfl wok_sub (g_append (A := A51) (els := ((((l.map En.e).take at9) ++ [(es[i]).e])).map (fun v : Int => [Value.int .i64 v])) (news := ((((l.map En.e).drop at9)).map (fun v : Int => [Value.int .i64 v]))) rfl rfl (by rw [List.map_drop]; exact Rdb.l (cap := bc) (InRow.rdb (A := B) (els := ((l.map En.e)).map (fun v : Int => [Value.int .i64 v])) (by first | rfl | assumption | (simp; done) | (simp_all; done) | (simp; omega) | (simp_all; omega)) (map_cat (c := (fun v : Int => [Value.int .i64 v])) (fun _ => rfl) _)) (by omega) (by omega)) (map_one (c := (fun v : Int => [Value.int .i64 v])) (by intro x; simp [Value.oneCell']) _) (by omega) rfl fun A55 cap55 => ⟨_, inferInstance, ?_⟩)
            refine g_rowels (A := A55) ((((((l.map En.e).take at9) ++ [(es[i]).e]) ++ ((l.map En.e).drop at9))).map (fun v : Int => [Value.int .i64 v])) (by first | rfl | exact List.map_append.symm | (simp; done)) ?_
            refine g_rowels (A := A55) (((l.take at9 ++ es[i] :: l.drop at9).map En.e).map (fun v : Int => [Value.int .i64 v])) (by simp) ?_
            refine g_rown (A := A55) ((l.take at9 ++ es[i] :: l.drop at9).map En.e).length (by simp; omega) ?_
            refine g_val 55 (v' := .slice A55 ((l.take at9 ++ es[i] :: l.drop at9).map En.e).length cap55) rfl (by simp; omega) ?_
            refine d_q 18 rfl (by kernel_rfl) (q_assign rfl) wok_sub rfl (ls' := #[true, true, true, true, true, true, true, true, true, true, true, true, true, true, true, true, true, true, true]) rfl ?_
            refine d_end (by kernel_rfl) (.inr wok_sub) ?_
            refine g_then ?_
            refine d_regionL (L0 := [Res.blk wb 29 [Value.slice A0 (es.map En.e).length c0, Value.slice A1 (es.map En.i).length c1], Res.row A0 (es.map En.e).length c0 3 1 ((es.map En.e).map (fun v : Int => [Value.int .i64 v])), Res.row A1 (es.map En.i).length c1 3 1 ((es.map En.i).map (fun v : Int => [Value.int .i64 v])), Res.row A55 ((l.take at9 ++ es[i] :: l.drop at9).map En.e).length cap55 3 1 (((l.take at9 ++ es[i] :: l.drop at9).map En.e).map (fun v : Int => [Value.int .i64 v])), Res.row D (l.map En.i).length dc 3 1 ((l.map En.i).map (fun v : Int => [Value.int .i64 v]))]) [] mixed rfl rfl wok_sub ?_
            refine d_q 1 rfl (by kernel_rfl) (q_move rfl) wok_sub rfl (ls' := #[false, true, false, false, false, false, false, false, false, false, false, false, false, false, false, false, false, false, false]) rfl ?_
            refine d_q 2 rfl (by kernel_rfl) (q_move rfl) wok_sub rfl (ls' := #[false, true, true, false, false, false, false, false, false, false, false, false, false, false, false, false, false, false, false]) rfl ?_
            refine d_q 3 rfl (by kernel_rfl) (q_slice_h (h := at9) rfl rfl rfl (by omega)) wok_sub rfl (ls' := #[false, true, true, true, false, false, false, false, false, false, false, false, false, false, false, false, false, false, false]) rfl ?_
            refine d_q 5 rfl (by kernel_rfl) (q_move rfl) wok_sub rfl (ls' := #[false, true, true, true, false, true, false, false, false, false, false, false, false, false, false, false, false, false, false]) rfl ?_
            refine d_q 6 rfl (by kernel_rfl) (q_nilck rfl) wok_sub rfl (ls' := #[false, true, true, true, false, true, true, false, false, false, false, false, false, false, false, false, false, false, false]) rfl ?_
            refine d_q 7 rfl (by kernel_rfl) (q_field rfl) wok_sub rfl (ls' := #[false, true, true, true, false, true, true, true, false, false, false, false, false, false, false, false, false, false, false]) rfl ?_
            refine d_q 8 rfl (by kernel_rfl) (q_load rfl rfl) wok_sub rfl (ls' := #[false, true, true, true, false, true, true, true, true, false, false, false, false, false, false, false, false, false, false]) rfl ?_
            refine d_q 9 rfl (by kernel_rfl) (q_move rfl) wok_sub rfl (ls' := #[false, true, true, true, false, true, true, true, true, true, false, false, false, false, false, false, false, false, false]) rfl ?_
            refine d_q 10 rfl (by kernel_rfl) (q_index (i := i) rfl rfl rfl (InRow.rdb (A := A1) (els := ((es.map En.i)).map (fun v : Int => [Value.int .i64 v])) (by first | rfl | assumption | (simp; done) | (simp_all; done) | (simp; omega) | (simp_all; omega)) (map_cat (c := (fun v : Int => [Value.int .i64 v])) (fun _ => rfl) _)) (by first | omega | (simp; done) | (simp; omega))) wok_sub rfl (ls' := #[false, true, true, true, false, true, true, true, true, true, true, false, false, false, false, false, false, false, false]) rfl ?_
            refine d_q 11 rfl (by kernel_rfl) (q_load_el (i := i) (o := 0) rfl (InRow.rdb (A := A1) (els := ((es.map En.i)).map (fun v : Int => [Value.int .i64 v])) (by first | rfl | assumption | (simp; done) | (simp_all; done) | (simp; omega) | (simp_all; omega)) (map_cat (c := (fun v : Int => [Value.int .i64 v])) (fun _ => rfl) _)) (en_get_i (by first | assumption | omega)) rfl rfl) wok_sub rfl (ls' := #[false, true, true, true, false, true, true, true, true, true, true, true, false, false, false, false, false, false, false]) rfl ?_
            refine d_q 14 rfl (by kernel_rfl) (q_move rfl) wok_sub rfl (ls' := #[false, true, true, true, false, true, true, true, true, true, true, true, false, false, true, false, false, false, false]) rfl ?_
            refine d_q 15 rfl (by kernel_rfl) (q_move rfl) wok_sub rfl (ls' := #[false, true, true, true, false, true, true, true, true, true, true, true, false, false, true, true, false, false, false]) rfl ?_
            refine d_q 16 rfl (by kernel_rfl) (q_slice_l (l := at9) rfl rfl rfl (by omega)) wok_sub rfl (ls' := #[false, true, true, true, false, true, true, true, true, true, true, true, false, false, true, true, true, false, false]) rfl ?_
            refine d_many [0, 12] (by kernel_rfl) (by simp) wok_sub ⟨d_pick rfl (ls' := #[true, true, true, true, false, true, true, true, true, true, true, true, false, false, true, true, true, false, false]) rfl (g_lit rfl rfl rfl rfl rfl fun b56 => ?_), d_pick rfl (ls' := #[false, true, true, true, false, true, true, true, true, true, true, true, true, false, true, true, true, false, false]) rfl (g_lit rfl rfl rfl rfl rfl fun b68 => ?_), trivial⟩
            · refine g_norow (t := 56) (T := 3) (k := 1) rfl fun A56 cap56 hc56 => ?_
              refine g_rowels (A := A56) (([] : List Int).map (fun v : Int => [Value.int .i64 v])) rfl ?_
              refine d_many [4, 12] (by kernel_rfl) (by simp) wok_sub ⟨d_pick rfl (ls' := #[true, true, true, true, true, true, true, true, true, true, true, true, false, false, true, true, true, false, false]) rfl (g_append (A := A56) (els := (([] : List Int)).map (fun v : Int => [Value.int .i64 v])) (news := ((((l.map En.i).take at9)).map (fun v : Int => [Value.int .i64 v]))) rfl rfl (by rw [List.map_take]; exact Rdb.h (cap := dc) (InRow.rdb (A := D) (els := ((l.map En.i)).map (fun v : Int => [Value.int .i64 v])) (by first | rfl | assumption | (simp; done) | (simp_all; done) | (simp; omega) | (simp_all; omega)) (map_cat (c := (fun v : Int => [Value.int .i64 v])) (fun _ => rfl) _)) (by omega) (by omega)) (map_one (c := (fun v : Int => [Value.int .i64 v])) (by intro x; simp [Value.oneCell']) _) (by omega) rfl fun A60 cap60 => ⟨_, inferInstance, ?_⟩), d_pick rfl (ls' := #[true, true, true, true, false, true, true, true, true, true, true, true, true, false, true, true, true, false, false]) rfl (g_lit rfl rfl rfl rfl rfl fun b68 => ?_), trivial⟩
              · refine g_rowels (A := A60) ((((l.map En.i).take at9)).map (fun v : Int => [Value.int .i64 v])) (by first | rfl | exact List.map_append.symm | (simp; done)) ?_
                refine g_rown (A := A60) (at9) (by simp) ?_
                refine g_val 60 (v' := .slice A60 (at9) cap60) rfl (by simp) ?_
                refine d_op 12 rfl (by kernel_rfl) (ls' := #[true, true, true, true, true, true, true, true, true, true, true, true, true, false, true, true, true, false, false]) rfl wok_sub (g_lit rfl rfl rfl rfl rfl fun b68 => ?_)
                refine g_blkc (b := b68) ((([(es[i]).i] : List Int).map (fun v : Int => [Value.int .i64 v])).flatten) rfl ?_
                refine d_op 13 rfl (by kernel_rfl) (ls' := #[true, true, true, true, true, true, true, true, true, true, true, true, true, true, true, true, true, false, false]) rfl wok_sub (g_append (A := A60) (els := (((l.map En.i).take at9)).map (fun v : Int => [Value.int .i64 v])) (news := (([(es[i]).i] : List Int).map (fun v : Int => [Value.int .i64 v]))) rfl rfl (InL.rdb (b := b68) rfl (by simp) rfl) (map_one (c := (fun v : Int => [Value.int .i64 v])) (by intro x; simp [Value.oneCell']) _) (by omega) rfl fun A69 cap69 => ⟨_, inferInstance, ?_⟩)
                refine g_rowels (A := A69) (((((l.map En.i).take at9) ++ [(es[i]).i])).map (fun v : Int => [Value.int .i64 v])) (by first | rfl | exact List.map_append.symm | (simp; done)) ?_
                refine d_op 17 rfl (by kernel_rfl) (ls' := #[true, true, true, true, true, true, true, true, true, true, true, true, true, true, true, true, true, true, false]) rfl wok_sub (g_append (A := A69) (els := ((((l.map En.i).take at9) ++ [(es[i]).i])).map (fun v : Int => [Value.int .i64 v])) (news := ((((l.map En.i).drop at9)).map (fun v : Int => [Value.int .i64 v]))) rfl rfl (by rw [List.map_drop]; exact Rdb.l (cap := dc) (InRow.rdb (A := D) (els := ((l.map En.i)).map (fun v : Int => [Value.int .i64 v])) (by first | rfl | assumption | (simp; done) | (simp_all; done) | (simp; omega) | (simp_all; omega)) (map_cat (c := (fun v : Int => [Value.int .i64 v])) (fun _ => rfl) _)) (by omega) (by omega)) (map_one (c := (fun v : Int => [Value.int .i64 v])) (by intro x; simp [Value.oneCell']) _) (by omega) rfl fun A73 cap73 => ⟨_, inferInstance, ?_⟩)
                refine g_rowels (A := A73) ((((((l.map En.i).take at9) ++ [(es[i]).i]) ++ ((l.map En.i).drop at9))).map (fun v : Int => [Value.int .i64 v])) (by first | rfl | exact List.map_append.symm | (simp; done)) ?_
                refine g_rowels (A := A73) (((l.take at9 ++ es[i] :: l.drop at9).map En.i).map (fun v : Int => [Value.int .i64 v])) (by simp) ?_
                refine g_rown (A := A73) ((l.take at9 ++ es[i] :: l.drop at9).map En.i).length (by simp; omega) ?_
                refine g_val 73 (v' := .slice A73 ((l.take at9 ++ es[i] :: l.drop at9).map En.i).length cap73) rfl (by simp; omega) ?_
                refine d_q 18 rfl (by kernel_rfl) (q_assign rfl) wok_sub rfl (ls' := #[true, true, true, true, true, true, true, true, true, true, true, true, true, true, true, true, true, true, true]) rfl ?_
                refine d_end (by kernel_rfl) (.inr wok_sub) ?_
                refine g_blk_n ?_
                refine g_then ?_
                refine g_region ?_
                refine s_q (q_move rfl) rfl ?_
                refine s_q (q_inc rfl rfl (by omega)) rfl ?_
                refine s_q (q_assign rfl) rfl ?_
                refine g_nil ?_
                exact g_again ((i + 1), A55, cap55, A73, cap73, (l.take at9 ++ es[i] :: l.drop at9)) (by (try dsimp only); exact ⟨(by omega), hone.1, hone.2, (by simp; omega)⟩) (by dsimp only; omega) (by repeat (first | exact trivial | refine ⟨rfl, ?_⟩)) wok_sub
              · refine g_blkc (b := b68) ((([(es[i]).i] : List Int).map (fun v : Int => [Value.int .i64 v])).flatten) rfl ?_
                refine d_op 4 rfl (by kernel_rfl) (ls' := #[true, true, true, true, true, true, true, true, true, true, true, true, true, false, true, true, true, false, false]) rfl wok_sub (g_append (A := A56) (els := (([] : List Int)).map (fun v : Int => [Value.int .i64 v])) (news := ((((l.map En.i).take at9)).map (fun v : Int => [Value.int .i64 v]))) rfl rfl (by rw [List.map_take]; exact Rdb.h (cap := dc) (InRow.rdb (A := D) (els := ((l.map En.i)).map (fun v : Int => [Value.int .i64 v])) (by first | rfl | assumption | (simp; done) | (simp_all; done) | (simp; omega) | (simp_all; omega)) (map_cat (c := (fun v : Int => [Value.int .i64 v])) (fun _ => rfl) _)) (by omega) (by omega)) (map_one (c := (fun v : Int => [Value.int .i64 v])) (by intro x; simp [Value.oneCell']) _) (by omega) rfl fun A60 cap60 => ⟨_, inferInstance, ?_⟩)
                refine g_rowels (A := A60) ((((l.map En.i).take at9)).map (fun v : Int => [Value.int .i64 v])) (by first | rfl | exact List.map_append.symm | (simp; done)) ?_
                refine g_rown (A := A60) (at9) (by simp) ?_
                refine g_val 60 (v' := .slice A60 (at9) cap60) rfl (by simp) ?_
                refine d_op 13 rfl (by kernel_rfl) (ls' := #[true, true, true, true, true, true, true, true, true, true, true, true, true, true, true, true, true, false, false]) rfl wok_sub (g_append (A := A60) (els := (((l.map En.i).take at9)).map (fun v : Int => [Value.int .i64 v])) (news := (([(es[i]).i] : List Int).map (fun v : Int => [Value.int .i64 v]))) rfl rfl (InL.rdb (b := b68) rfl (by simp) rfl) (map_one (c := (fun v : Int => [Value.int .i64 v])) (by intro x; simp [Value.oneCell']) _) (by omega) rfl fun A69 cap69 => ⟨_, inferInstance, ?_⟩)
                refine g_rowels (A := A69) (((((l.map En.i).take at9) ++ [(es[i]).i])).map (fun v : Int => [Value.int .i64 v])) (by first | rfl | exact List.map_append.symm | (simp; done)) ?_
                refine d_op 17 rfl (by kernel_rfl) (ls' := #[true, true, true, true, true, true, true, true, true, true, true, true, true, true, true, true, true, true, false]) rfl wok_sub (g_append (A := A69) (els := ((((l.map En.i).take at9) ++ [(es[i]).i])).map (fun v : Int => [Value.int .i64 v])) (news := ((((l.map En.i).drop at9)).map (fun v : Int => [Value.int .i64 v]))) rfl rfl (by rw [List.map_drop]; exact Rdb.l (cap := dc) (InRow.rdb (A := D) (els := ((l.map En.i)).map (fun v : Int => [Value.int .i64 v])) (by first | rfl | assumption | (simp; done) | (simp_all; done) | (simp; omega) | (simp_all; omega)) (map_cat (c := (fun v : Int => [Value.int .i64 v])) (fun _ => rfl) _)) (by omega) (by omega)) (map_one (c := (fun v : Int => [Value.int .i64 v])) (by intro x; simp [Value.oneCell']) _) (by omega) rfl fun A73 cap73 => ⟨_, inferInstance, ?_⟩)
                refine g_rowels (A := A73) ((((((l.map En.i).take at9) ++ [(es[i]).i]) ++ ((l.map En.i).drop at9))).map (fun v : Int => [Value.int .i64 v])) (by first | rfl | exact List.map_append.symm | (simp; done)) ?_
                refine g_rowels (A := A73) (((l.take at9 ++ es[i] :: l.drop at9).map En.i).map (fun v : Int => [Value.int .i64 v])) (by simp) ?_
                refine g_rown (A := A73) ((l.take at9 ++ es[i] :: l.drop at9).map En.i).length (by simp; omega) ?_
                refine g_val 73 (v' := .slice A73 ((l.take at9 ++ es[i] :: l.drop at9).map En.i).length cap73) rfl (by simp; omega) ?_
                refine d_q 18 rfl (by kernel_rfl) (q_assign rfl) wok_sub rfl (ls' := #[true, true, true, true, true, true, true, true, true, true, true, true, true, true, true, true, true, true, true]) rfl ?_
                refine d_end (by kernel_rfl) (.inr wok_sub) ?_
                refine g_blk_n ?_
                refine g_then ?_
                refine g_region ?_
                refine s_q (q_move rfl) rfl ?_
                refine s_q (q_inc rfl rfl (by omega)) rfl ?_
                refine s_q (q_assign rfl) rfl ?_
                refine g_nil ?_
                exact g_again ((i + 1), A55, cap55, A73, cap73, (l.take at9 ++ es[i] :: l.drop at9)) (by (try dsimp only); exact ⟨(by omega), hone.1, hone.2, (by simp; omega)⟩) (by dsimp only; omega) (by repeat (first | exact trivial | refine ⟨rfl, ?_⟩)) wok_sub
            · refine g_blkc (b := b68) ((([(es[i]).i] : List Int).map (fun v : Int => [Value.int .i64 v])).flatten) rfl ?_
              refine d_op 0 rfl (by kernel_rfl) (ls' := #[true, true, true, true, false, true, true, true, true, true, true, true, true, false, true, true, true, false, false]) rfl wok_sub (g_lit rfl rfl rfl rfl rfl fun b56 => ?_)
              refine g_norow (t := 56) (T := 3) (k := 1) rfl fun A56 cap56 hc56 => ?_
              refine g_rowels (A := A56) (([] : List Int).map (fun v : Int => [Value.int .i64 v])) rfl ?_
              refine d_op 4 rfl (by kernel_rfl) (ls' := #[true, true, true, true, true, true, true, true, true, true, true, true, true, false, true, true, true, false, false]) rfl wok_sub (g_append (A := A56) (els := (([] : List Int)).map (fun v : Int => [Value.int .i64 v])) (news := ((((l.map En.i).take at9)).map (fun v : Int => [Value.int .i64 v]))) rfl rfl (by rw [List.map_take]; exact Rdb.h (cap := dc) (InRow.rdb (A := D) (els := ((l.map En.i)).map (fun v : Int => [Value.int .i64 v])) (by first | rfl | assumption | (simp; done) | (simp_all; done) | (simp; omega) | (simp_all; omega)) (map_cat (c := (fun v : Int => [Value.int .i64 v])) (fun _ => rfl) _)) (by omega) (by omega)) (map_one (c := (fun v : Int => [Value.int .i64 v])) (by intro x; simp [Value.oneCell']) _) (by omega) rfl fun A60 cap60 => ⟨_, inferInstance, ?_⟩)
              refine g_rowels (A := A60) ((((l.map En.i).take at9)).map (fun v : Int => [Value.int .i64 v])) (by first | rfl | exact List.map_append.symm | (simp; done)) ?_
              refine g_rown (A := A60) (at9) (by simp) ?_
              refine g_val 60 (v' := .slice A60 (at9) cap60) rfl (by simp) ?_
              refine d_op 13 rfl (by kernel_rfl) (ls' := #[true, true, true, true, true, true, true, true, true, true, true, true, true, true, true, true, true, false, false]) rfl wok_sub (g_append (A := A60) (els := (((l.map En.i).take at9)).map (fun v : Int => [Value.int .i64 v])) (news := (([(es[i]).i] : List Int).map (fun v : Int => [Value.int .i64 v]))) rfl rfl (InL.rdb (b := b68) rfl (by simp) rfl) (map_one (c := (fun v : Int => [Value.int .i64 v])) (by intro x; simp [Value.oneCell']) _) (by omega) rfl fun A69 cap69 => ⟨_, inferInstance, ?_⟩)
              refine g_rowels (A := A69) (((((l.map En.i).take at9) ++ [(es[i]).i])).map (fun v : Int => [Value.int .i64 v])) (by first | rfl | exact List.map_append.symm | (simp; done)) ?_
              refine d_op 17 rfl (by kernel_rfl) (ls' := #[true, true, true, true, true, true, true, true, true, true, true, true, true, true, true, true, true, true, false]) rfl wok_sub (g_append (A := A69) (els := ((((l.map En.i).take at9) ++ [(es[i]).i])).map (fun v : Int => [Value.int .i64 v])) (news := ((((l.map En.i).drop at9)).map (fun v : Int => [Value.int .i64 v]))) rfl rfl (by rw [List.map_drop]; exact Rdb.l (cap := dc) (InRow.rdb (A := D) (els := ((l.map En.i)).map (fun v : Int => [Value.int .i64 v])) (by first | rfl | assumption | (simp; done) | (simp_all; done) | (simp; omega) | (simp_all; omega)) (map_cat (c := (fun v : Int => [Value.int .i64 v])) (fun _ => rfl) _)) (by omega) (by omega)) (map_one (c := (fun v : Int => [Value.int .i64 v])) (by intro x; simp [Value.oneCell']) _) (by omega) rfl fun A73 cap73 => ⟨_, inferInstance, ?_⟩)
              refine g_rowels (A := A73) ((((((l.map En.i).take at9) ++ [(es[i]).i]) ++ ((l.map En.i).drop at9))).map (fun v : Int => [Value.int .i64 v])) (by first | rfl | exact List.map_append.symm | (simp; done)) ?_
              refine g_rowels (A := A73) (((l.take at9 ++ es[i] :: l.drop at9).map En.i).map (fun v : Int => [Value.int .i64 v])) (by simp) ?_
              refine g_rown (A := A73) ((l.take at9 ++ es[i] :: l.drop at9).map En.i).length (by simp; omega) ?_
              refine g_val 73 (v' := .slice A73 ((l.take at9 ++ es[i] :: l.drop at9).map En.i).length cap73) rfl (by simp; omega) ?_
              refine d_q 18 rfl (by kernel_rfl) (q_assign rfl) wok_sub rfl (ls' := #[true, true, true, true, true, true, true, true, true, true, true, true, true, true, true, true, true, true, true]) rfl ?_
              refine d_end (by kernel_rfl) (.inr wok_sub) ?_
              refine g_blk_n ?_
              refine g_then ?_
              refine g_region ?_
              refine s_q (q_move rfl) rfl ?_
              refine s_q (q_inc rfl rfl (by omega)) rfl ?_
              refine s_q (q_assign rfl) rfl ?_
              refine g_nil ?_
              exact g_again ((i + 1), A55, cap55, A73, cap73, (l.take at9 ++ es[i] :: l.drop at9)) (by (try dsimp only); exact ⟨(by omega), hone.1, hone.2, (by simp; omega)⟩) (by dsimp only; omega) (by repeat (first | exact trivial | refine ⟨rfl, ?_⟩)) wok_sub
          · refine g_blkc (b := b50) ((([(es[i]).e] : List Int).map (fun v : Int => [Value.int .i64 v])).flatten) rfl ?_
            refine d_op 4 rfl (by kernel_rfl) (ls' := #[true, true, true, true, true, true, true, true, true, true, true, true, true, false, true, true, true, false, false]) rfl wok_sub (g_append (A := A38) (els := (([] : List Int)).map (fun v : Int => [Value.int .i64 v])) (news := ((((l.map En.e).take at9)).map (fun v : Int => [Value.int .i64 v]))) rfl rfl (by rw [List.map_take]; exact Rdb.h (cap := bc) (InRow.rdb (A := B) (els := ((l.map En.e)).map (fun v : Int => [Value.int .i64 v])) (by first | rfl | assumption | (simp; done) | (simp_all; done) | (simp; omega) | (simp_all; omega)) (map_cat (c := (fun v : Int => [Value.int .i64 v])) (fun _ => rfl) _)) (by omega) (by omega)) (map_one (c := (fun v : Int => [Value.int .i64 v])) (by intro x; simp [Value.oneCell']) _) (by omega) rfl fun A42 cap42 => ⟨_, inferInstance, ?_⟩)
            refine g_rowels (A := A42) ((((l.map En.e).take at9)).map (fun v : Int => [Value.int .i64 v])) (by first | rfl | exact List.map_append.symm | (simp; done)) ?_
            refine g_rown (A := A42) (at9) (by simp) ?_
            refine g_val 42 (v' := .slice A42 (at9) cap42) rfl (by simp) ?_
            refine d_op 13 rfl (by kernel_rfl) (ls' := #[true, true, true, true, true, true, true, true, true, true, true, true, true, true, true, true, true, false, false]) rfl wok_sub (g_append (A := A42) (els := (((l.map En.e).take at9)).map (fun v : Int => [Value.int .i64 v])) (news := (([(es[i]).e] : List Int).map (fun v : Int => [Value.int .i64 v]))) rfl rfl (InL.rdb (b := b50) rfl (by simp) rfl) (map_one (c := (fun v : Int => [Value.int .i64 v])) (by intro x; simp [Value.oneCell']) _) (by omega) rfl fun A51 cap51 => ⟨_, inferInstance, ?_⟩)
            refine g_rowels (A := A51) (((((l.map En.e).take at9) ++ [(es[i]).e])).map (fun v : Int => [Value.int .i64 v])) (by first | rfl | exact List.map_append.symm | (simp; done)) ?_
            refine d_op 17 rfl (by kernel_rfl) (ls' := #[true, true, true, true, true, true, true, true, true, true, true, true, true, true, true, true, true, true, false]) rfl wok_sub (g_append (A := A51) (els := ((((l.map En.e).take at9) ++ [(es[i]).e])).map (fun v : Int => [Value.int .i64 v])) (news := ((((l.map En.e).drop at9)).map (fun v : Int => [Value.int .i64 v]))) rfl rfl (by rw [List.map_drop]; exact Rdb.l (cap := bc) (InRow.rdb (A := B) (els := ((l.map En.e)).map (fun v : Int => [Value.int .i64 v])) (by first | rfl | assumption | (simp; done) | (simp_all; done) | (simp; omega) | (simp_all; omega)) (map_cat (c := (fun v : Int => [Value.int .i64 v])) (fun _ => rfl) _)) (by omega) (by omega)) (map_one (c := (fun v : Int => [Value.int .i64 v])) (by intro x; simp [Value.oneCell']) _) (by omega) rfl fun A55 cap55 => ⟨_, inferInstance, ?_⟩)
            refine g_rowels (A := A55) ((((((l.map En.e).take at9) ++ [(es[i]).e]) ++ ((l.map En.e).drop at9))).map (fun v : Int => [Value.int .i64 v])) (by first | rfl | exact List.map_append.symm | (simp; done)) ?_
            refine g_rowels (A := A55) (((l.take at9 ++ es[i] :: l.drop at9).map En.e).map (fun v : Int => [Value.int .i64 v])) (by simp) ?_
            refine g_rown (A := A55) ((l.take at9 ++ es[i] :: l.drop at9).map En.e).length (by simp; omega) ?_
            refine g_val 55 (v' := .slice A55 ((l.take at9 ++ es[i] :: l.drop at9).map En.e).length cap55) rfl (by simp; omega) ?_
            refine d_q 18 rfl (by kernel_rfl) (q_assign rfl) wok_sub rfl (ls' := #[true, true, true, true, true, true, true, true, true, true, true, true, true, true, true, true, true, true, true]) rfl ?_
            refine d_end (by kernel_rfl) (.inr wok_sub) ?_
            refine g_then ?_
            refine d_regionL (L0 := [Res.blk wb 29 [Value.slice A0 (es.map En.e).length c0, Value.slice A1 (es.map En.i).length c1], Res.row A0 (es.map En.e).length c0 3 1 ((es.map En.e).map (fun v : Int => [Value.int .i64 v])), Res.row A1 (es.map En.i).length c1 3 1 ((es.map En.i).map (fun v : Int => [Value.int .i64 v])), Res.row A55 ((l.take at9 ++ es[i] :: l.drop at9).map En.e).length cap55 3 1 (((l.take at9 ++ es[i] :: l.drop at9).map En.e).map (fun v : Int => [Value.int .i64 v])), Res.row D (l.map En.i).length dc 3 1 ((l.map En.i).map (fun v : Int => [Value.int .i64 v]))]) [] mixed rfl rfl wok_sub ?_
            refine d_q 1 rfl (by kernel_rfl) (q_move rfl) wok_sub rfl (ls' := #[false, true, false, false, false, false, false, false, false, false, false, false, false, false, false, false, false, false, false]) rfl ?_
            refine d_q 2 rfl (by kernel_rfl) (q_move rfl) wok_sub rfl (ls' := #[false, true, true, false, false, false, false, false, false, false, false, false, false, false, false, false, false, false, false]) rfl ?_
            refine d_q 3 rfl (by kernel_rfl) (q_slice_h (h := at9) rfl rfl rfl (by omega)) wok_sub rfl (ls' := #[false, true, true, true, false, false, false, false, false, false, false, false, false, false, false, false, false, false, false]) rfl ?_
            refine d_q 5 rfl (by kernel_rfl) (q_move rfl) wok_sub rfl (ls' := #[false, true, true, true, false, true, false, false, false, false, false, false, false, false, false, false, false, false, false]) rfl ?_
            refine d_q 6 rfl (by kernel_rfl) (q_nilck rfl) wok_sub rfl (ls' := #[false, true, true, true, false, true, true, false, false, false, false, false, false, false, false, false, false, false, false]) rfl ?_
            refine d_q 7 rfl (by kernel_rfl) (q_field rfl) wok_sub rfl (ls' := #[false, true, true, true, false, true, true, true, false, false, false, false, false, false, false, false, false, false, false]) rfl ?_
            refine d_q 8 rfl (by kernel_rfl) (q_load rfl rfl) wok_sub rfl (ls' := #[false, true, true, true, false, true, true, true, true, false, false, false, false, false, false, false, false, false, false]) rfl ?_
            refine d_q 9 rfl (by kernel_rfl) (q_move rfl) wok_sub rfl (ls' := #[false, true, true, true, false, true, true, true, true, true, false, false, false, false, false, false, false, false, false]) rfl ?_
            refine d_q 10 rfl (by kernel_rfl) (q_index (i := i) rfl rfl rfl (InRow.rdb (A := A1) (els := ((es.map En.i)).map (fun v : Int => [Value.int .i64 v])) (by first | rfl | assumption | (simp; done) | (simp_all; done) | (simp; omega) | (simp_all; omega)) (map_cat (c := (fun v : Int => [Value.int .i64 v])) (fun _ => rfl) _)) (by first | omega | (simp; done) | (simp; omega))) wok_sub rfl (ls' := #[false, true, true, true, false, true, true, true, true, true, true, false, false, false, false, false, false, false, false]) rfl ?_
            refine d_q 11 rfl (by kernel_rfl) (q_load_el (i := i) (o := 0) rfl (InRow.rdb (A := A1) (els := ((es.map En.i)).map (fun v : Int => [Value.int .i64 v])) (by first | rfl | assumption | (simp; done) | (simp_all; done) | (simp; omega) | (simp_all; omega)) (map_cat (c := (fun v : Int => [Value.int .i64 v])) (fun _ => rfl) _)) (en_get_i (by first | assumption | omega)) rfl rfl) wok_sub rfl (ls' := #[false, true, true, true, false, true, true, true, true, true, true, true, false, false, false, false, false, false, false]) rfl ?_
            refine d_q 14 rfl (by kernel_rfl) (q_move rfl) wok_sub rfl (ls' := #[false, true, true, true, false, true, true, true, true, true, true, true, false, false, true, false, false, false, false]) rfl ?_
            refine d_q 15 rfl (by kernel_rfl) (q_move rfl) wok_sub rfl (ls' := #[false, true, true, true, false, true, true, true, true, true, true, true, false, false, true, true, false, false, false]) rfl ?_
            refine d_q 16 rfl (by kernel_rfl) (q_slice_l (l := at9) rfl rfl rfl (by omega)) wok_sub rfl (ls' := #[false, true, true, true, false, true, true, true, true, true, true, true, false, false, true, true, true, false, false]) rfl ?_
            refine d_many [0, 12] (by kernel_rfl) (by simp) wok_sub ⟨d_pick rfl (ls' := #[true, true, true, true, false, true, true, true, true, true, true, true, false, false, true, true, true, false, false]) rfl (g_lit rfl rfl rfl rfl rfl fun b56 => ?_), d_pick rfl (ls' := #[false, true, true, true, false, true, true, true, true, true, true, true, true, false, true, true, true, false, false]) rfl (g_lit rfl rfl rfl rfl rfl fun b68 => ?_), trivial⟩
            · refine g_norow (t := 56) (T := 3) (k := 1) rfl fun A56 cap56 hc56 => ?_
              refine g_rowels (A := A56) (([] : List Int).map (fun v : Int => [Value.int .i64 v])) rfl ?_
              refine d_many [4, 12] (by kernel_rfl) (by simp) wok_sub ⟨d_pick rfl (ls' := #[true, true, true, true, true, true, true, true, true, true, true, true, false, false, true, true, true, false, false]) rfl (g_append (A := A56) (els := (([] : List Int)).map (fun v : Int => [Value.int .i64 v])) (news := ((((l.map En.i).take at9)).map (fun v : Int => [Value.int .i64 v]))) rfl rfl (by rw [List.map_take]; exact Rdb.h (cap := dc) (InRow.rdb (A := D) (els := ((l.map En.i)).map (fun v : Int => [Value.int .i64 v])) (by first | rfl | assumption | (simp; done) | (simp_all; done) | (simp; omega) | (simp_all; omega)) (map_cat (c := (fun v : Int => [Value.int .i64 v])) (fun _ => rfl) _)) (by omega) (by omega)) (map_one (c := (fun v : Int => [Value.int .i64 v])) (by intro x; simp [Value.oneCell']) _) (by omega) rfl fun A60 cap60 => ⟨_, inferInstance, ?_⟩), d_pick rfl (ls' := #[true, true, true, true, false, true, true, true, true, true, true, true, true, false, true, true, true, false, false]) rfl (g_lit rfl rfl rfl rfl rfl fun b68 => ?_), trivial⟩
              · refine g_rowels (A := A60) ((((l.map En.i).take at9)).map (fun v : Int => [Value.int .i64 v])) (by first | rfl | exact List.map_append.symm | (simp; done)) ?_
                refine g_rown (A := A60) (at9) (by simp) ?_
                refine g_val 60 (v' := .slice A60 (at9) cap60) rfl (by simp) ?_
                refine d_op 12 rfl (by kernel_rfl) (ls' := #[true, true, true, true, true, true, true, true, true, true, true, true, true, false, true, true, true, false, false]) rfl wok_sub (g_lit rfl rfl rfl rfl rfl fun b68 => ?_)
                refine g_blkc (b := b68) ((([(es[i]).i] : List Int).map (fun v : Int => [Value.int .i64 v])).flatten) rfl ?_
                refine d_op 13 rfl (by kernel_rfl) (ls' := #[true, true, true, true, true, true, true, true, true, true, true, true, true, true, true, true, true, false, false]) rfl wok_sub (g_append (A := A60) (els := (((l.map En.i).take at9)).map (fun v : Int => [Value.int .i64 v])) (news := (([(es[i]).i] : List Int).map (fun v : Int => [Value.int .i64 v]))) rfl rfl (InL.rdb (b := b68) rfl (by simp) rfl) (map_one (c := (fun v : Int => [Value.int .i64 v])) (by intro x; simp [Value.oneCell']) _) (by omega) rfl fun A69 cap69 => ⟨_, inferInstance, ?_⟩)
                refine g_rowels (A := A69) (((((l.map En.i).take at9) ++ [(es[i]).i])).map (fun v : Int => [Value.int .i64 v])) (by first | rfl | exact List.map_append.symm | (simp; done)) ?_
                refine d_op 17 rfl (by kernel_rfl) (ls' := #[true, true, true, true, true, true, true, true, true, true, true, true, true, true, true, true, true, true, false]) rfl wok_sub (g_append (A := A69) (els := ((((l.map En.i).take at9) ++ [(es[i]).i])).map (fun v : Int => [Value.int .i64 v])) (news := ((((l.map En.i).drop at9)).map (fun v : Int => [Value.int .i64 v]))) rfl rfl (by rw [List.map_drop]; exact Rdb.l (cap := dc) (InRow.rdb (A := D) (els := ((l.map En.i)).map (fun v : Int => [Value.int .i64 v])) (by first | rfl | assumption | (simp; done) | (simp_all; done) | (simp; omega) | (simp_all; omega)) (map_cat (c := (fun v : Int => [Value.int .i64 v])) (fun _ => rfl) _)) (by omega) (by omega)) (map_one (c := (fun v : Int => [Value.int .i64 v])) (by intro x; simp [Value.oneCell']) _) (by omega) rfl fun A73 cap73 => ⟨_, inferInstance, ?_⟩)
                refine g_rowels (A := A73) ((((((l.map En.i).take at9) ++ [(es[i]).i]) ++ ((l.map En.i).drop at9))).map (fun v : Int => [Value.int .i64 v])) (by first | rfl | exact List.map_append.symm | (simp; done)) ?_
                refine g_rowels (A := A73) (((l.take at9 ++ es[i] :: l.drop at9).map En.i).map (fun v : Int => [Value.int .i64 v])) (by simp) ?_
                refine g_rown (A := A73) ((l.take at9 ++ es[i] :: l.drop at9).map En.i).length (by simp; omega) ?_
                refine g_val 73 (v' := .slice A73 ((l.take at9 ++ es[i] :: l.drop at9).map En.i).length cap73) rfl (by simp; omega) ?_
                refine d_q 18 rfl (by kernel_rfl) (q_assign rfl) wok_sub rfl (ls' := #[true, true, true, true, true, true, true, true, true, true, true, true, true, true, true, true, true, true, true]) rfl ?_
                refine d_end (by kernel_rfl) (.inr wok_sub) ?_
                refine g_blk_n ?_
                refine g_then ?_
                refine g_region ?_
                refine s_q (q_move rfl) rfl ?_
                refine s_q (q_inc rfl rfl (by omega)) rfl ?_
                refine s_q (q_assign rfl) rfl ?_
                refine g_nil ?_
                exact g_again ((i + 1), A55, cap55, A73, cap73, (l.take at9 ++ es[i] :: l.drop at9)) (by (try dsimp only); exact ⟨(by omega), hone.1, hone.2, (by simp; omega)⟩) (by dsimp only; omega) (by repeat (first | exact trivial | refine ⟨rfl, ?_⟩)) wok_sub
              · refine g_blkc (b := b68) ((([(es[i]).i] : List Int).map (fun v : Int => [Value.int .i64 v])).flatten) rfl ?_
                refine d_op 4 rfl (by kernel_rfl) (ls' := #[true, true, true, true, true, true, true, true, true, true, true, true, true, false, true, true, true, false, false]) rfl wok_sub (g_append (A := A56) (els := (([] : List Int)).map (fun v : Int => [Value.int .i64 v])) (news := ((((l.map En.i).take at9)).map (fun v : Int => [Value.int .i64 v]))) rfl rfl (by rw [List.map_take]; exact Rdb.h (cap := dc) (InRow.rdb (A := D) (els := ((l.map En.i)).map (fun v : Int => [Value.int .i64 v])) (by first | rfl | assumption | (simp; done) | (simp_all; done) | (simp; omega) | (simp_all; omega)) (map_cat (c := (fun v : Int => [Value.int .i64 v])) (fun _ => rfl) _)) (by omega) (by omega)) (map_one (c := (fun v : Int => [Value.int .i64 v])) (by intro x; simp [Value.oneCell']) _) (by omega) rfl fun A60 cap60 => ⟨_, inferInstance, ?_⟩)
                refine g_rowels (A := A60) ((((l.map En.i).take at9)).map (fun v : Int => [Value.int .i64 v])) (by first | rfl | exact List.map_append.symm | (simp; done)) ?_
                refine g_rown (A := A60) (at9) (by simp) ?_
                refine g_val 60 (v' := .slice A60 (at9) cap60) rfl (by simp) ?_
                refine d_op 13 rfl (by kernel_rfl) (ls' := #[true, true, true, true, true, true, true, true, true, true, true, true, true, true, true, true, true, false, false]) rfl wok_sub (g_append (A := A60) (els := (((l.map En.i).take at9)).map (fun v : Int => [Value.int .i64 v])) (news := (([(es[i]).i] : List Int).map (fun v : Int => [Value.int .i64 v]))) rfl rfl (InL.rdb (b := b68) rfl (by simp) rfl) (map_one (c := (fun v : Int => [Value.int .i64 v])) (by intro x; simp [Value.oneCell']) _) (by omega) rfl fun A69 cap69 => ⟨_, inferInstance, ?_⟩)
                refine g_rowels (A := A69) (((((l.map En.i).take at9) ++ [(es[i]).i])).map (fun v : Int => [Value.int .i64 v])) (by first | rfl | exact List.map_append.symm | (simp; done)) ?_
                refine d_op 17 rfl (by kernel_rfl) (ls' := #[true, true, true, true, true, true, true, true, true, true, true, true, true, true, true, true, true, true, false]) rfl wok_sub (g_append (A := A69) (els := ((((l.map En.i).take at9) ++ [(es[i]).i])).map (fun v : Int => [Value.int .i64 v])) (news := ((((l.map En.i).drop at9)).map (fun v : Int => [Value.int .i64 v]))) rfl rfl (by rw [List.map_drop]; exact Rdb.l (cap := dc) (InRow.rdb (A := D) (els := ((l.map En.i)).map (fun v : Int => [Value.int .i64 v])) (by first | rfl | assumption | (simp; done) | (simp_all; done) | (simp; omega) | (simp_all; omega)) (map_cat (c := (fun v : Int => [Value.int .i64 v])) (fun _ => rfl) _)) (by omega) (by omega)) (map_one (c := (fun v : Int => [Value.int .i64 v])) (by intro x; simp [Value.oneCell']) _) (by omega) rfl fun A73 cap73 => ⟨_, inferInstance, ?_⟩)
                refine g_rowels (A := A73) ((((((l.map En.i).take at9) ++ [(es[i]).i]) ++ ((l.map En.i).drop at9))).map (fun v : Int => [Value.int .i64 v])) (by first | rfl | exact List.map_append.symm | (simp; done)) ?_
                refine g_rowels (A := A73) (((l.take at9 ++ es[i] :: l.drop at9).map En.i).map (fun v : Int => [Value.int .i64 v])) (by simp) ?_
                refine g_rown (A := A73) ((l.take at9 ++ es[i] :: l.drop at9).map En.i).length (by simp; omega) ?_
                refine g_val 73 (v' := .slice A73 ((l.take at9 ++ es[i] :: l.drop at9).map En.i).length cap73) rfl (by simp; omega) ?_
                refine d_q 18 rfl (by kernel_rfl) (q_assign rfl) wok_sub rfl (ls' := #[true, true, true, true, true, true, true, true, true, true, true, true, true, true, true, true, true, true, true]) rfl ?_
                refine d_end (by kernel_rfl) (.inr wok_sub) ?_
                refine g_blk_n ?_
                refine g_then ?_
                refine g_region ?_
                refine s_q (q_move rfl) rfl ?_
                refine s_q (q_inc rfl rfl (by omega)) rfl ?_
                refine s_q (q_assign rfl) rfl ?_
                refine g_nil ?_
                exact g_again ((i + 1), A55, cap55, A73, cap73, (l.take at9 ++ es[i] :: l.drop at9)) (by (try dsimp only); exact ⟨(by omega), hone.1, hone.2, (by simp; omega)⟩) (by dsimp only; omega) (by repeat (first | exact trivial | refine ⟨rfl, ?_⟩)) wok_sub
            · refine g_blkc (b := b68) ((([(es[i]).i] : List Int).map (fun v : Int => [Value.int .i64 v])).flatten) rfl ?_
              refine d_op 0 rfl (by kernel_rfl) (ls' := #[true, true, true, true, false, true, true, true, true, true, true, true, true, false, true, true, true, false, false]) rfl wok_sub (g_lit rfl rfl rfl rfl rfl fun b56 => ?_)
              refine g_norow (t := 56) (T := 3) (k := 1) rfl fun A56 cap56 hc56 => ?_
              refine g_rowels (A := A56) (([] : List Int).map (fun v : Int => [Value.int .i64 v])) rfl ?_
              refine d_op 4 rfl (by kernel_rfl) (ls' := #[true, true, true, true, true, true, true, true, true, true, true, true, true, false, true, true, true, false, false]) rfl wok_sub (g_append (A := A56) (els := (([] : List Int)).map (fun v : Int => [Value.int .i64 v])) (news := ((((l.map En.i).take at9)).map (fun v : Int => [Value.int .i64 v]))) rfl rfl (by rw [List.map_take]; exact Rdb.h (cap := dc) (InRow.rdb (A := D) (els := ((l.map En.i)).map (fun v : Int => [Value.int .i64 v])) (by first | rfl | assumption | (simp; done) | (simp_all; done) | (simp; omega) | (simp_all; omega)) (map_cat (c := (fun v : Int => [Value.int .i64 v])) (fun _ => rfl) _)) (by omega) (by omega)) (map_one (c := (fun v : Int => [Value.int .i64 v])) (by intro x; simp [Value.oneCell']) _) (by omega) rfl fun A60 cap60 => ⟨_, inferInstance, ?_⟩)
              refine g_rowels (A := A60) ((((l.map En.i).take at9)).map (fun v : Int => [Value.int .i64 v])) (by first | rfl | exact List.map_append.symm | (simp; done)) ?_
              refine g_rown (A := A60) (at9) (by simp) ?_
              refine g_val 60 (v' := .slice A60 (at9) cap60) rfl (by simp) ?_
              refine d_op 13 rfl (by kernel_rfl) (ls' := #[true, true, true, true, true, true, true, true, true, true, true, true, true, true, true, true, true, false, false]) rfl wok_sub (g_append (A := A60) (els := (((l.map En.i).take at9)).map (fun v : Int => [Value.int .i64 v])) (news := (([(es[i]).i] : List Int).map (fun v : Int => [Value.int .i64 v]))) rfl rfl (InL.rdb (b := b68) rfl (by simp) rfl) (map_one (c := (fun v : Int => [Value.int .i64 v])) (by intro x; simp [Value.oneCell']) _) (by omega) rfl fun A69 cap69 => ⟨_, inferInstance, ?_⟩)
              refine g_rowels (A := A69) (((((l.map En.i).take at9) ++ [(es[i]).i])).map (fun v : Int => [Value.int .i64 v])) (by first | rfl | exact List.map_append.symm | (simp; done)) ?_
              refine d_op 17 rfl (by kernel_rfl) (ls' := #[true, true, true, true, true, true, true, true, true, true, true, true, true, true, true, true, true, true, false]) rfl wok_sub (g_append (A := A69) (els := ((((l.map En.i).take at9) ++ [(es[i]).i])).map (fun v : Int => [Value.int .i64 v])) (news := ((((l.map En.i).drop at9)).map (fun v : Int => [Value.int .i64 v]))) rfl rfl (by rw [List.map_drop]; exact Rdb.l (cap := dc) (InRow.rdb (A := D) (els := ((l.map En.i)).map (fun v : Int => [Value.int .i64 v])) (by first | rfl | assumption | (simp; done) | (simp_all; done) | (simp; omega) | (simp_all; omega)) (map_cat (c := (fun v : Int => [Value.int .i64 v])) (fun _ => rfl) _)) (by omega) (by omega)) (map_one (c := (fun v : Int => [Value.int .i64 v])) (by intro x; simp [Value.oneCell']) _) (by omega) rfl fun A73 cap73 => ⟨_, inferInstance, ?_⟩)
              refine g_rowels (A := A73) ((((((l.map En.i).take at9) ++ [(es[i]).i]) ++ ((l.map En.i).drop at9))).map (fun v : Int => [Value.int .i64 v])) (by first | rfl | exact List.map_append.symm | (simp; done)) ?_
              refine g_rowels (A := A73) (((l.take at9 ++ es[i] :: l.drop at9).map En.i).map (fun v : Int => [Value.int .i64 v])) (by simp) ?_
              refine g_rown (A := A73) ((l.take at9 ++ es[i] :: l.drop at9).map En.i).length (by simp; omega) ?_
              refine g_val 73 (v' := .slice A73 ((l.take at9 ++ es[i] :: l.drop at9).map En.i).length cap73) rfl (by simp; omega) ?_
              refine d_q 18 rfl (by kernel_rfl) (q_assign rfl) wok_sub rfl (ls' := #[true, true, true, true, true, true, true, true, true, true, true, true, true, true, true, true, true, true, true]) rfl ?_
              refine d_end (by kernel_rfl) (.inr wok_sub) ?_
              refine g_blk_n ?_
              refine g_then ?_
              refine g_region ?_
              refine s_q (q_move rfl) rfl ?_
              refine s_q (q_inc rfl rfl (by omega)) rfl ?_
              refine s_q (q_assign rfl) rfl ?_
              refine g_nil ?_
              exact g_again ((i + 1), A55, cap55, A73, cap73, (l.take at9 ++ es[i] :: l.drop at9)) (by (try dsimp only); exact ⟨(by omega), hone.1, hone.2, (by simp; omega)⟩) (by dsimp only; omega) (by repeat (first | exact trivial | refine ⟨rfl, ?_⟩)) wok_sub
        · refine g_blkc (b := b50) ((([(es[i]).e] : List Int).map (fun v : Int => [Value.int .i64 v])).flatten) rfl ?_
          refine d_op 0 rfl (by kernel_rfl) (ls' := #[true, true, true, true, false, true, true, true, true, true, true, true, true, false, true, true, true, false, false]) rfl wok_sub (g_lit rfl rfl rfl rfl rfl fun b38 => ?_)
          refine g_norow (t := 38) (T := 3) (k := 1) rfl fun A38 cap38 hc38 => ?_
          refine g_rowels (A := A38) (([] : List Int).map (fun v : Int => [Value.int .i64 v])) rfl ?_
          refine d_op 4 rfl (by kernel_rfl) (ls' := #[true, true, true, true, true, true, true, true, true, true, true, true, true, false, true, true, true, false, false]) rfl wok_sub (g_append (A := A38) (els := (([] : List Int)).map (fun v : Int => [Value.int .i64 v])) (news := ((((l.map En.e).take at9)).map (fun v : Int => [Value.int .i64 v]))) rfl rfl (by rw [List.map_take]; exact Rdb.h (cap := bc) (InRow.rdb (A := B) (els := ((l.map En.e)).map (fun v : Int => [Value.int .i64 v])) (by first | rfl | assumption | (simp; done) | (simp_all; done) | (simp; omega) | (simp_all; omega)) (map_cat (c := (fun v : Int => [Value.int .i64 v])) (fun _ => rfl) _)) (by omega) (by omega)) (map_one (c := (fun v : Int => [Value.int .i64 v])) (by intro x; simp [Value.oneCell']) _) (by omega) rfl fun A42 cap42 => ⟨_, inferInstance, ?_⟩)
          refine g_rowels (A := A42) ((((l.map En.e).take at9)).map (fun v : Int => [Value.int .i64 v])) (by first | rfl | exact List.map_append.symm | (simp; done)) ?_
          refine g_rown (A := A42) (at9) (by simp) ?_
          refine g_val 42 (v' := .slice A42 (at9) cap42) rfl (by simp) ?_
          refine d_op 13 rfl (by kernel_rfl) (ls' := #[true, true, true, true, true, true, true, true, true, true, true, true, true, true, true, true, true, false, false]) rfl wok_sub (g_append (A := A42) (els := (((l.map En.e).take at9)).map (fun v : Int => [Value.int .i64 v])) (news := (([(es[i]).e] : List Int).map (fun v : Int => [Value.int .i64 v]))) rfl rfl (InL.rdb (b := b50) rfl (by simp) rfl) (map_one (c := (fun v : Int => [Value.int .i64 v])) (by intro x; simp [Value.oneCell']) _) (by omega) rfl fun A51 cap51 => ⟨_, inferInstance, ?_⟩)
          refine g_rowels (A := A51) (((((l.map En.e).take at9) ++ [(es[i]).e])).map (fun v : Int => [Value.int .i64 v])) (by first | rfl | exact List.map_append.symm | (simp; done)) ?_
          refine d_op 17 rfl (by kernel_rfl) (ls' := #[true, true, true, true, true, true, true, true, true, true, true, true, true, true, true, true, true, true, false]) rfl wok_sub (g_append (A := A51) (els := ((((l.map En.e).take at9) ++ [(es[i]).e])).map (fun v : Int => [Value.int .i64 v])) (news := ((((l.map En.e).drop at9)).map (fun v : Int => [Value.int .i64 v]))) rfl rfl (by rw [List.map_drop]; exact Rdb.l (cap := bc) (InRow.rdb (A := B) (els := ((l.map En.e)).map (fun v : Int => [Value.int .i64 v])) (by first | rfl | assumption | (simp; done) | (simp_all; done) | (simp; omega) | (simp_all; omega)) (map_cat (c := (fun v : Int => [Value.int .i64 v])) (fun _ => rfl) _)) (by omega) (by omega)) (map_one (c := (fun v : Int => [Value.int .i64 v])) (by intro x; simp [Value.oneCell']) _) (by omega) rfl fun A55 cap55 => ⟨_, inferInstance, ?_⟩)
          refine g_rowels (A := A55) ((((((l.map En.e).take at9) ++ [(es[i]).e]) ++ ((l.map En.e).drop at9))).map (fun v : Int => [Value.int .i64 v])) (by first | rfl | exact List.map_append.symm | (simp; done)) ?_
          refine g_rowels (A := A55) (((l.take at9 ++ es[i] :: l.drop at9).map En.e).map (fun v : Int => [Value.int .i64 v])) (by simp) ?_
          refine g_rown (A := A55) ((l.take at9 ++ es[i] :: l.drop at9).map En.e).length (by simp; omega) ?_
          refine g_val 55 (v' := .slice A55 ((l.take at9 ++ es[i] :: l.drop at9).map En.e).length cap55) rfl (by simp; omega) ?_
          refine d_q 18 rfl (by kernel_rfl) (q_assign rfl) wok_sub rfl (ls' := #[true, true, true, true, true, true, true, true, true, true, true, true, true, true, true, true, true, true, true]) rfl ?_
          refine d_end (by kernel_rfl) (.inr wok_sub) ?_
          refine g_then ?_
          refine d_regionL (L0 := [Res.blk wb 29 [Value.slice A0 (es.map En.e).length c0, Value.slice A1 (es.map En.i).length c1], Res.row A0 (es.map En.e).length c0 3 1 ((es.map En.e).map (fun v : Int => [Value.int .i64 v])), Res.row A1 (es.map En.i).length c1 3 1 ((es.map En.i).map (fun v : Int => [Value.int .i64 v])), Res.row A55 ((l.take at9 ++ es[i] :: l.drop at9).map En.e).length cap55 3 1 (((l.take at9 ++ es[i] :: l.drop at9).map En.e).map (fun v : Int => [Value.int .i64 v])), Res.row D (l.map En.i).length dc 3 1 ((l.map En.i).map (fun v : Int => [Value.int .i64 v]))]) [] mixed rfl rfl wok_sub ?_
          refine d_q 1 rfl (by kernel_rfl) (q_move rfl) wok_sub rfl (ls' := #[false, true, false, false, false, false, false, false, false, false, false, false, false, false, false, false, false, false, false]) rfl ?_
          refine d_q 2 rfl (by kernel_rfl) (q_move rfl) wok_sub rfl (ls' := #[false, true, true, false, false, false, false, false, false, false, false, false, false, false, false, false, false, false, false]) rfl ?_
          refine d_q 3 rfl (by kernel_rfl) (q_slice_h (h := at9) rfl rfl rfl (by omega)) wok_sub rfl (ls' := #[false, true, true, true, false, false, false, false, false, false, false, false, false, false, false, false, false, false, false]) rfl ?_
          refine d_q 5 rfl (by kernel_rfl) (q_move rfl) wok_sub rfl (ls' := #[false, true, true, true, false, true, false, false, false, false, false, false, false, false, false, false, false, false, false]) rfl ?_
          refine d_q 6 rfl (by kernel_rfl) (q_nilck rfl) wok_sub rfl (ls' := #[false, true, true, true, false, true, true, false, false, false, false, false, false, false, false, false, false, false, false]) rfl ?_
          refine d_q 7 rfl (by kernel_rfl) (q_field rfl) wok_sub rfl (ls' := #[false, true, true, true, false, true, true, true, false, false, false, false, false, false, false, false, false, false, false]) rfl ?_
          refine d_q 8 rfl (by kernel_rfl) (q_load rfl rfl) wok_sub rfl (ls' := #[false, true, true, true, false, true, true, true, true, false, false, false, false, false, false, false, false, false, false]) rfl ?_
          refine d_q 9 rfl (by kernel_rfl) (q_move rfl) wok_sub rfl (ls' := #[false, true, true, true, false, true, true, true, true, true, false, false, false, false, false, false, false, false, false]) rfl ?_
          refine d_q 10 rfl (by kernel_rfl) (q_index (i := i) rfl rfl rfl (InRow.rdb (A := A1) (els := ((es.map En.i)).map (fun v : Int => [Value.int .i64 v])) (by first | rfl | assumption | (simp; done) | (simp_all; done) | (simp; omega) | (simp_all; omega)) (map_cat (c := (fun v : Int => [Value.int .i64 v])) (fun _ => rfl) _)) (by first | omega | (simp; done) | (simp; omega))) wok_sub rfl (ls' := #[false, true, true, true, false, true, true, true, true, true, true, false, false, false, false, false, false, false, false]) rfl ?_
          refine d_q 11 rfl (by kernel_rfl) (q_load_el (i := i) (o := 0) rfl (InRow.rdb (A := A1) (els := ((es.map En.i)).map (fun v : Int => [Value.int .i64 v])) (by first | rfl | assumption | (simp; done) | (simp_all; done) | (simp; omega) | (simp_all; omega)) (map_cat (c := (fun v : Int => [Value.int .i64 v])) (fun _ => rfl) _)) (en_get_i (by first | assumption | omega)) rfl rfl) wok_sub rfl (ls' := #[false, true, true, true, false, true, true, true, true, true, true, true, false, false, false, false, false, false, false]) rfl ?_
          refine d_q 14 rfl (by kernel_rfl) (q_move rfl) wok_sub rfl (ls' := #[false, true, true, true, false, true, true, true, true, true, true, true, false, false, true, false, false, false, false]) rfl ?_
          refine d_q 15 rfl (by kernel_rfl) (q_move rfl) wok_sub rfl (ls' := #[false, true, true, true, false, true, true, true, true, true, true, true, false, false, true, true, false, false, false]) rfl ?_
          refine d_q 16 rfl (by kernel_rfl) (q_slice_l (l := at9) rfl rfl rfl (by omega)) wok_sub rfl (ls' := #[false, true, true, true, false, true, true, true, true, true, true, true, false, false, true, true, true, false, false]) rfl ?_
          refine d_many [0, 12] (by kernel_rfl) (by simp) wok_sub ⟨d_pick rfl (ls' := #[true, true, true, true, false, true, true, true, true, true, true, true, false, false, true, true, true, false, false]) rfl (g_lit rfl rfl rfl rfl rfl fun b56 => ?_), d_pick rfl (ls' := #[false, true, true, true, false, true, true, true, true, true, true, true, true, false, true, true, true, false, false]) rfl (g_lit rfl rfl rfl rfl rfl fun b68 => ?_), trivial⟩
          · refine g_norow (t := 56) (T := 3) (k := 1) rfl fun A56 cap56 hc56 => ?_
            refine g_rowels (A := A56) (([] : List Int).map (fun v : Int => [Value.int .i64 v])) rfl ?_
            refine d_many [4, 12] (by kernel_rfl) (by simp) wok_sub ⟨d_pick rfl (ls' := #[true, true, true, true, true, true, true, true, true, true, true, true, false, false, true, true, true, false, false]) rfl (g_append (A := A56) (els := (([] : List Int)).map (fun v : Int => [Value.int .i64 v])) (news := ((((l.map En.i).take at9)).map (fun v : Int => [Value.int .i64 v]))) rfl rfl (by rw [List.map_take]; exact Rdb.h (cap := dc) (InRow.rdb (A := D) (els := ((l.map En.i)).map (fun v : Int => [Value.int .i64 v])) (by first | rfl | assumption | (simp; done) | (simp_all; done) | (simp; omega) | (simp_all; omega)) (map_cat (c := (fun v : Int => [Value.int .i64 v])) (fun _ => rfl) _)) (by omega) (by omega)) (map_one (c := (fun v : Int => [Value.int .i64 v])) (by intro x; simp [Value.oneCell']) _) (by omega) rfl fun A60 cap60 => ⟨_, inferInstance, ?_⟩), d_pick rfl (ls' := #[true, true, true, true, false, true, true, true, true, true, true, true, true, false, true, true, true, false, false]) rfl (g_lit rfl rfl rfl rfl rfl fun b68 => ?_), trivial⟩
            · refine g_rowels (A := A60) ((((l.map En.i).take at9)).map (fun v : Int => [Value.int .i64 v])) (by first | rfl | exact List.map_append.symm | (simp; done)) ?_
              refine g_rown (A := A60) (at9) (by simp) ?_
              refine g_val 60 (v' := .slice A60 (at9) cap60) rfl (by simp) ?_
              refine d_op 12 rfl (by kernel_rfl) (ls' := #[true, true, true, true, true, true, true, true, true, true, true, true, true, false, true, true, true, false, false]) rfl wok_sub (g_lit rfl rfl rfl rfl rfl fun b68 => ?_)
              refine g_blkc (b := b68) ((([(es[i]).i] : List Int).map (fun v : Int => [Value.int .i64 v])).flatten) rfl ?_
              refine d_op 13 rfl (by kernel_rfl) (ls' := #[true, true, true, true, true, true, true, true, true, true, true, true, true, true, true, true, true, false, false]) rfl wok_sub (g_append (A := A60) (els := (((l.map En.i).take at9)).map (fun v : Int => [Value.int .i64 v])) (news := (([(es[i]).i] : List Int).map (fun v : Int => [Value.int .i64 v]))) rfl rfl (InL.rdb (b := b68) rfl (by simp) rfl) (map_one (c := (fun v : Int => [Value.int .i64 v])) (by intro x; simp [Value.oneCell']) _) (by omega) rfl fun A69 cap69 => ⟨_, inferInstance, ?_⟩)
              refine g_rowels (A := A69) (((((l.map En.i).take at9) ++ [(es[i]).i])).map (fun v : Int => [Value.int .i64 v])) (by first | rfl | exact List.map_append.symm | (simp; done)) ?_
              refine d_op 17 rfl (by kernel_rfl) (ls' := #[true, true, true, true, true, true, true, true, true, true, true, true, true, true, true, true, true, true, false]) rfl wok_sub (g_append (A := A69) (els := ((((l.map En.i).take at9) ++ [(es[i]).i])).map (fun v : Int => [Value.int .i64 v])) (news := ((((l.map En.i).drop at9)).map (fun v : Int => [Value.int .i64 v]))) rfl rfl (by rw [List.map_drop]; exact Rdb.l (cap := dc) (InRow.rdb (A := D) (els := ((l.map En.i)).map (fun v : Int => [Value.int .i64 v])) (by first | rfl | assumption | (simp; done) | (simp_all; done) | (simp; omega) | (simp_all; omega)) (map_cat (c := (fun v : Int => [Value.int .i64 v])) (fun _ => rfl) _)) (by omega) (by omega)) (map_one (c := (fun v : Int => [Value.int .i64 v])) (by intro x; simp [Value.oneCell']) _) (by omega) rfl fun A73 cap73 => ⟨_, inferInstance, ?_⟩)
              refine g_rowels (A := A73) ((((((l.map En.i).take at9) ++ [(es[i]).i]) ++ ((l.map En.i).drop at9))).map (fun v : Int => [Value.int .i64 v])) (by first | rfl | exact List.map_append.symm | (simp; done)) ?_
              refine g_rowels (A := A73) (((l.take at9 ++ es[i] :: l.drop at9).map En.i).map (fun v : Int => [Value.int .i64 v])) (by simp) ?_
              refine g_rown (A := A73) ((l.take at9 ++ es[i] :: l.drop at9).map En.i).length (by simp; omega) ?_
              refine g_val 73 (v' := .slice A73 ((l.take at9 ++ es[i] :: l.drop at9).map En.i).length cap73) rfl (by simp; omega) ?_
              refine d_q 18 rfl (by kernel_rfl) (q_assign rfl) wok_sub rfl (ls' := #[true, true, true, true, true, true, true, true, true, true, true, true, true, true, true, true, true, true, true]) rfl ?_
              refine d_end (by kernel_rfl) (.inr wok_sub) ?_
              refine g_blk_n ?_
              refine g_then ?_
              refine g_region ?_
              refine s_q (q_move rfl) rfl ?_
              refine s_q (q_inc rfl rfl (by omega)) rfl ?_
              refine s_q (q_assign rfl) rfl ?_
              refine g_nil ?_
              exact g_again ((i + 1), A55, cap55, A73, cap73, (l.take at9 ++ es[i] :: l.drop at9)) (by (try dsimp only); exact ⟨(by omega), hone.1, hone.2, (by simp; omega)⟩) (by dsimp only; omega) (by repeat (first | exact trivial | refine ⟨rfl, ?_⟩)) wok_sub
            · refine g_blkc (b := b68) ((([(es[i]).i] : List Int).map (fun v : Int => [Value.int .i64 v])).flatten) rfl ?_
              refine d_op 4 rfl (by kernel_rfl) (ls' := #[true, true, true, true, true, true, true, true, true, true, true, true, true, false, true, true, true, false, false]) rfl wok_sub (g_append (A := A56) (els := (([] : List Int)).map (fun v : Int => [Value.int .i64 v])) (news := ((((l.map En.i).take at9)).map (fun v : Int => [Value.int .i64 v]))) rfl rfl (by rw [List.map_take]; exact Rdb.h (cap := dc) (InRow.rdb (A := D) (els := ((l.map En.i)).map (fun v : Int => [Value.int .i64 v])) (by first | rfl | assumption | (simp; done) | (simp_all; done) | (simp; omega) | (simp_all; omega)) (map_cat (c := (fun v : Int => [Value.int .i64 v])) (fun _ => rfl) _)) (by omega) (by omega)) (map_one (c := (fun v : Int => [Value.int .i64 v])) (by intro x; simp [Value.oneCell']) _) (by omega) rfl fun A60 cap60 => ⟨_, inferInstance, ?_⟩)
              refine g_rowels (A := A60) ((((l.map En.i).take at9)).map (fun v : Int => [Value.int .i64 v])) (by first | rfl | exact List.map_append.symm | (simp; done)) ?_
              refine g_rown (A := A60) (at9) (by simp) ?_
              refine g_val 60 (v' := .slice A60 (at9) cap60) rfl (by simp) ?_
              refine d_op 13 rfl (by kernel_rfl) (ls' := #[true, true, true, true, true, true, true, true, true, true, true, true, true, true, true, true, true, false, false]) rfl wok_sub (g_append (A := A60) (els := (((l.map En.i).take at9)).map (fun v : Int => [Value.int .i64 v])) (news := (([(es[i]).i] : List Int).map (fun v : Int => [Value.int .i64 v]))) rfl rfl (InL.rdb (b := b68) rfl (by simp) rfl) (map_one (c := (fun v : Int => [Value.int .i64 v])) (by intro x; simp [Value.oneCell']) _) (by omega) rfl fun A69 cap69 => ⟨_, inferInstance, ?_⟩)
              refine g_rowels (A := A69) (((((l.map En.i).take at9) ++ [(es[i]).i])).map (fun v : Int => [Value.int .i64 v])) (by first | rfl | exact List.map_append.symm | (simp; done)) ?_
              refine d_op 17 rfl (by kernel_rfl) (ls' := #[true, true, true, true, true, true, true, true, true, true, true, true, true, true, true, true, true, true, false]) rfl wok_sub (g_append (A := A69) (els := ((((l.map En.i).take at9) ++ [(es[i]).i])).map (fun v : Int => [Value.int .i64 v])) (news := ((((l.map En.i).drop at9)).map (fun v : Int => [Value.int .i64 v]))) rfl rfl (by rw [List.map_drop]; exact Rdb.l (cap := dc) (InRow.rdb (A := D) (els := ((l.map En.i)).map (fun v : Int => [Value.int .i64 v])) (by first | rfl | assumption | (simp; done) | (simp_all; done) | (simp; omega) | (simp_all; omega)) (map_cat (c := (fun v : Int => [Value.int .i64 v])) (fun _ => rfl) _)) (by omega) (by omega)) (map_one (c := (fun v : Int => [Value.int .i64 v])) (by intro x; simp [Value.oneCell']) _) (by omega) rfl fun A73 cap73 => ⟨_, inferInstance, ?_⟩)
              refine g_rowels (A := A73) ((((((l.map En.i).take at9) ++ [(es[i]).i]) ++ ((l.map En.i).drop at9))).map (fun v : Int => [Value.int .i64 v])) (by first | rfl | exact List.map_append.symm | (simp; done)) ?_
              refine g_rowels (A := A73) (((l.take at9 ++ es[i] :: l.drop at9).map En.i).map (fun v : Int => [Value.int .i64 v])) (by simp) ?_
              refine g_rown (A := A73) ((l.take at9 ++ es[i] :: l.drop at9).map En.i).length (by simp; omega) ?_
              refine g_val 73 (v' := .slice A73 ((l.take at9 ++ es[i] :: l.drop at9).map En.i).length cap73) rfl (by simp; omega) ?_
              refine d_q 18 rfl (by kernel_rfl) (q_assign rfl) wok_sub rfl (ls' := #[true, true, true, true, true, true, true, true, true, true, true, true, true, true, true, true, true, true, true]) rfl ?_
              refine d_end (by kernel_rfl) (.inr wok_sub) ?_
              refine g_blk_n ?_
              refine g_then ?_
              refine g_region ?_
              refine s_q (q_move rfl) rfl ?_
              refine s_q (q_inc rfl rfl (by omega)) rfl ?_
              refine s_q (q_assign rfl) rfl ?_
              refine g_nil ?_
              exact g_again ((i + 1), A55, cap55, A73, cap73, (l.take at9 ++ es[i] :: l.drop at9)) (by (try dsimp only); exact ⟨(by omega), hone.1, hone.2, (by simp; omega)⟩) (by dsimp only; omega) (by repeat (first | exact trivial | refine ⟨rfl, ?_⟩)) wok_sub
          · refine g_blkc (b := b68) ((([(es[i]).i] : List Int).map (fun v : Int => [Value.int .i64 v])).flatten) rfl ?_
            refine d_op 0 rfl (by kernel_rfl) (ls' := #[true, true, true, true, false, true, true, true, true, true, true, true, true, false, true, true, true, false, false]) rfl wok_sub (g_lit rfl rfl rfl rfl rfl fun b56 => ?_)
            refine g_norow (t := 56) (T := 3) (k := 1) rfl fun A56 cap56 hc56 => ?_
            refine g_rowels (A := A56) (([] : List Int).map (fun v : Int => [Value.int .i64 v])) rfl ?_
            refine d_op 4 rfl (by kernel_rfl) (ls' := #[true, true, true, true, true, true, true, true, true, true, true, true, true, false, true, true, true, false, false]) rfl wok_sub (g_append (A := A56) (els := (([] : List Int)).map (fun v : Int => [Value.int .i64 v])) (news := ((((l.map En.i).take at9)).map (fun v : Int => [Value.int .i64 v]))) rfl rfl (by rw [List.map_take]; exact Rdb.h (cap := dc) (InRow.rdb (A := D) (els := ((l.map En.i)).map (fun v : Int => [Value.int .i64 v])) (by first | rfl | assumption | (simp; done) | (simp_all; done) | (simp; omega) | (simp_all; omega)) (map_cat (c := (fun v : Int => [Value.int .i64 v])) (fun _ => rfl) _)) (by omega) (by omega)) (map_one (c := (fun v : Int => [Value.int .i64 v])) (by intro x; simp [Value.oneCell']) _) (by omega) rfl fun A60 cap60 => ⟨_, inferInstance, ?_⟩)
            refine g_rowels (A := A60) ((((l.map En.i).take at9)).map (fun v : Int => [Value.int .i64 v])) (by first | rfl | exact List.map_append.symm | (simp; done)) ?_
            refine g_rown (A := A60) (at9) (by simp) ?_
            refine g_val 60 (v' := .slice A60 (at9) cap60) rfl (by simp) ?_
            refine d_op 13 rfl (by kernel_rfl) (ls' := #[true, true, true, true, true, true, true, true, true, true, true, true, true, true, true, true, true, false, false]) rfl wok_sub (g_append (A := A60) (els := (((l.map En.i).take at9)).map (fun v : Int => [Value.int .i64 v])) (news := (([(es[i]).i] : List Int).map (fun v : Int => [Value.int .i64 v]))) rfl rfl (InL.rdb (b := b68) rfl (by simp) rfl) (map_one (c := (fun v : Int => [Value.int .i64 v])) (by intro x; simp [Value.oneCell']) _) (by omega) rfl fun A69 cap69 => ⟨_, inferInstance, ?_⟩)
            refine g_rowels (A := A69) (((((l.map En.i).take at9) ++ [(es[i]).i])).map (fun v : Int => [Value.int .i64 v])) (by first | rfl | exact List.map_append.symm | (simp; done)) ?_
            refine d_op 17 rfl (by kernel_rfl) (ls' := #[true, true, true, true, true, true, true, true, true, true, true, true, true, true, true, true, true, true, false]) rfl wok_sub (g_append (A := A69) (els := ((((l.map En.i).take at9) ++ [(es[i]).i])).map (fun v : Int => [Value.int .i64 v])) (news := ((((l.map En.i).drop at9)).map (fun v : Int => [Value.int .i64 v]))) rfl rfl (by rw [List.map_drop]; exact Rdb.l (cap := dc) (InRow.rdb (A := D) (els := ((l.map En.i)).map (fun v : Int => [Value.int .i64 v])) (by first | rfl | assumption | (simp; done) | (simp_all; done) | (simp; omega) | (simp_all; omega)) (map_cat (c := (fun v : Int => [Value.int .i64 v])) (fun _ => rfl) _)) (by omega) (by omega)) (map_one (c := (fun v : Int => [Value.int .i64 v])) (by intro x; simp [Value.oneCell']) _) (by omega) rfl fun A73 cap73 => ⟨_, inferInstance, ?_⟩)
            refine g_rowels (A := A73) ((((((l.map En.i).take at9) ++ [(es[i]).i]) ++ ((l.map En.i).drop at9))).map (fun v : Int => [Value.int .i64 v])) (by first | rfl | exact List.map_append.symm | (simp; done)) ?_
            refine g_rowels (A := A73) (((l.take at9 ++ es[i] :: l.drop at9).map En.i).map (fun v : Int => [Value.int .i64 v])) (by simp) ?_
            refine g_rown (A := A73) ((l.take at9 ++ es[i] :: l.drop at9).map En.i).length (by simp; omega) ?_
            refine g_val 73 (v' := .slice A73 ((l.take at9 ++ es[i] :: l.drop at9).map En.i).length cap73) rfl (by simp; omega) ?_
            refine d_q 18 rfl (by kernel_rfl) (q_assign rfl) wok_sub rfl (ls' := #[true, true, true, true, true, true, true, true, true, true, true, true, true, true, true, true, true, true, true]) rfl ?_
            refine d_end (by kernel_rfl) (.inr wok_sub) ?_
            refine g_blk_n ?_
            refine g_then ?_
            refine g_region ?_
            refine s_q (q_move rfl) rfl ?_
            refine s_q (q_inc rfl rfl (by omega)) rfl ?_
            refine s_q (q_assign rfl) rfl ?_
            refine g_nil ?_
            exact g_again ((i + 1), A55, cap55, A73, cap73, (l.take at9 ++ es[i] :: l.drop at9)) (by (try dsimp only); exact ⟨(by omega), hone.1, hone.2, (by simp; omega)⟩) (by dsimp only; omega) (by repeat (first | exact trivial | refine ⟨rfl, ?_⟩)) wok_sub
    · have ha0 : at9 = 0 := by have h9 := of_decide_eq_false h2; omega
      have hone := one_ins hi1 hs he (.inl ha0) ha hgt
      refine d_gf 3 rfl (by kernel_rfl) rfl rfl rfl wok_sub rfl (ls' := #[true, true, true, true, false, false, false, false, false, false, false, false, false, false, false, false, false]) rfl ?_
      refine d_gf 4 rfl (by kernel_rfl) rfl rfl rfl wok_sub rfl (ls' := #[true, true, true, true, true, false, false, false, false, false, false, false, false, false, false, false, false]) rfl ?_
      refine d_gf 5 rfl (by kernel_rfl) rfl rfl rfl wok_sub rfl (ls' := #[true, true, true, true, true, true, false, false, false, false, false, false, false, false, false, false, false]) rfl ?_
      refine d_gf 6 rfl (by kernel_rfl) rfl rfl rfl wok_sub rfl (ls' := #[true, true, true, true, true, true, true, false, false, false, false, false, false, false, false, false, false]) rfl ?_
      refine d_gf 7 rfl (by kernel_rfl) rfl rfl rfl wok_sub rfl (ls' := #[true, true, true, true, true, true, true, true, false, false, false, false, false, false, false, false, false]) rfl ?_
      refine d_gf 8 rfl (by kernel_rfl) rfl rfl rfl wok_sub rfl (ls' := #[true, true, true, true, true, true, true, true, true, false, false, false, false, false, false, false, false]) rfl ?_
      refine d_gf 9 rfl (by kernel_rfl) rfl rfl rfl wok_sub rfl (ls' := #[true, true, true, true, true, true, true, true, true, true, false, false, false, false, false, false, false]) rfl ?_
      refine d_gf 10 rfl (by kernel_rfl) rfl rfl rfl wok_sub rfl (ls' := #[true, true, true, true, true, true, true, true, true, true, true, false, false, false, false, false, false]) rfl ?_
      refine d_gf 11 rfl (by kernel_rfl) rfl rfl rfl wok_sub rfl (ls' := #[true, true, true, true, true, true, true, true, true, true, true, true, false, false, false, false, false]) rfl ?_
      refine d_gf 12 rfl (by kernel_rfl) rfl rfl rfl wok_sub rfl (ls' := #[true, true, true, true, true, true, true, true, true, true, true, true, true, false, false, false, false]) rfl ?_
      refine d_gf 13 rfl (by kernel_rfl) rfl rfl rfl wok_sub rfl (ls' := #[true, true, true, true, true, true, true, true, true, true, true, true, true, true, false, false, false]) rfl ?_
      refine d_gf 14 rfl (by kernel_rfl) rfl rfl rfl wok_sub rfl (ls' := #[true, true, true, true, true, true, true, true, true, true, true, true, true, true, true, false, false]) rfl ?_
      refine d_gf 15 rfl (by kernel_rfl) rfl rfl rfl wok_sub rfl (ls' := #[true, true, true, true, true, true, true, true, true, true, true, true, true, true, true, true, false]) rfl ?_
      refine d_q 16 rfl (by kernel_rfl) (q_pick_f rfl rfl) wok_sub rfl (ls' := #[true, true, true, true, true, true, true, true, true, true, true, true, true, true, true, true, true]) rfl ?_
      refine d_end (by kernel_rfl) (.inr wok_sub) ?_
      refine g_then ?_
      refine g_false rfl ?_
      refine g_exit ?_
      refine g_then_x (g_then_x (g_blk_hit ?_))
      refine g_then ?_
      refine g_seq ?_
      refine d_regionL (L0 := [Res.blk wb 29 [Value.slice A0 (es.map En.e).length c0, Value.slice A1 (es.map En.i).length c1], Res.row A0 (es.map En.e).length c0 3 1 ((es.map En.e).map (fun v : Int => [Value.int .i64 v])), Res.row A1 (es.map En.i).length c1 3 1 ((es.map En.i).map (fun v : Int => [Value.int .i64 v])), Res.row B (l.map En.e).length bc 3 1 ((l.map En.e).map (fun v : Int => [Value.int .i64 v])), Res.row D (l.map En.i).length dc 3 1 ((l.map En.i).map (fun v : Int => [Value.int .i64 v]))]) [] mixed rfl rfl wok_sub ?_
      refine d_q 1 rfl (by kernel_rfl) (q_move rfl) wok_sub rfl (ls' := #[false, true, false, false, false, false, false, false, false, false, false, false, false, false, false, false, false, false, false]) rfl ?_
      refine d_q 2 rfl (by kernel_rfl) (q_move rfl) wok_sub rfl (ls' := #[false, true, true, false, false, false, false, false, false, false, false, false, false, false, false, false, false, false, false]) rfl ?_
      refine d_q 3 rfl (by kernel_rfl) (q_slice_h (h := at9) rfl rfl rfl (by omega)) wok_sub rfl (ls' := #[false, true, true, true, false, false, false, false, false, false, false, false, false, false, false, false, false, false, false]) rfl ?_
      refine d_q 5 rfl (by kernel_rfl) (q_move rfl) wok_sub rfl (ls' := #[false, true, true, true, false, true, false, false, false, false, false, false, false, false, false, false, false, false, false]) rfl ?_
      refine d_q 6 rfl (by kernel_rfl) (q_nilck rfl) wok_sub rfl (ls' := #[false, true, true, true, false, true, true, false, false, false, false, false, false, false, false, false, false, false, false]) rfl ?_
      refine d_q 7 rfl (by kernel_rfl) (q_field rfl) wok_sub rfl (ls' := #[false, true, true, true, false, true, true, true, false, false, false, false, false, false, false, false, false, false, false]) rfl ?_
      refine d_q 8 rfl (by kernel_rfl) (q_load rfl rfl) wok_sub rfl (ls' := #[false, true, true, true, false, true, true, true, true, false, false, false, false, false, false, false, false, false, false]) rfl ?_
      refine d_q 9 rfl (by kernel_rfl) (q_move rfl) wok_sub rfl (ls' := #[false, true, true, true, false, true, true, true, true, true, false, false, false, false, false, false, false, false, false]) rfl ?_
      refine d_q 10 rfl (by kernel_rfl) (q_index (i := i) rfl rfl rfl (InRow.rdb (A := A0) (els := ((es.map En.e)).map (fun v : Int => [Value.int .i64 v])) (by first | rfl | assumption | (simp; done) | (simp_all; done) | (simp; omega) | (simp_all; omega)) (map_cat (c := (fun v : Int => [Value.int .i64 v])) (fun _ => rfl) _)) (by first | omega | (simp; done) | (simp; omega))) wok_sub rfl (ls' := #[false, true, true, true, false, true, true, true, true, true, true, false, false, false, false, false, false, false, false]) rfl ?_
      refine d_q 11 rfl (by kernel_rfl) (q_load_el (i := i) (o := 0) rfl (InRow.rdb (A := A0) (els := ((es.map En.e)).map (fun v : Int => [Value.int .i64 v])) (by first | rfl | assumption | (simp; done) | (simp_all; done) | (simp; omega) | (simp_all; omega)) (map_cat (c := (fun v : Int => [Value.int .i64 v])) (fun _ => rfl) _)) (en_get_e (by first | assumption | omega)) rfl rfl) wok_sub rfl (ls' := #[false, true, true, true, false, true, true, true, true, true, true, true, false, false, false, false, false, false, false]) rfl ?_
      refine d_q 14 rfl (by kernel_rfl) (q_move rfl) wok_sub rfl (ls' := #[false, true, true, true, false, true, true, true, true, true, true, true, false, false, true, false, false, false, false]) rfl ?_
      refine d_q 15 rfl (by kernel_rfl) (q_move rfl) wok_sub rfl (ls' := #[false, true, true, true, false, true, true, true, true, true, true, true, false, false, true, true, false, false, false]) rfl ?_
      refine d_q 16 rfl (by kernel_rfl) (q_slice_l (l := at9) rfl rfl rfl (by omega)) wok_sub rfl (ls' := #[false, true, true, true, false, true, true, true, true, true, true, true, false, false, true, true, true, false, false]) rfl ?_
      refine d_many [0, 12] (by kernel_rfl) (by simp) wok_sub ⟨d_pick rfl (ls' := #[true, true, true, true, false, true, true, true, true, true, true, true, false, false, true, true, true, false, false]) rfl (g_lit rfl rfl rfl rfl rfl fun b38 => ?_), d_pick rfl (ls' := #[false, true, true, true, false, true, true, true, true, true, true, true, true, false, true, true, true, false, false]) rfl (g_lit rfl rfl rfl rfl rfl fun b50 => ?_), trivial⟩
      · refine g_norow (t := 38) (T := 3) (k := 1) rfl fun A38 cap38 hc38 => ?_
        refine g_rowels (A := A38) (([] : List Int).map (fun v : Int => [Value.int .i64 v])) rfl ?_
        refine d_many [4, 12] (by kernel_rfl) (by simp) wok_sub ⟨d_pick rfl (ls' := #[true, true, true, true, true, true, true, true, true, true, true, true, false, false, true, true, true, false, false]) rfl (g_append (A := A38) (els := (([] : List Int)).map (fun v : Int => [Value.int .i64 v])) (news := ((((l.map En.e).take at9)).map (fun v : Int => [Value.int .i64 v]))) rfl rfl (by rw [List.map_take]; exact Rdb.h (cap := bc) (InRow.rdb (A := B) (els := ((l.map En.e)).map (fun v : Int => [Value.int .i64 v])) (by first | rfl | assumption | (simp; done) | (simp_all; done) | (simp; omega) | (simp_all; omega)) (map_cat (c := (fun v : Int => [Value.int .i64 v])) (fun _ => rfl) _)) (by omega) (by omega)) (map_one (c := (fun v : Int => [Value.int .i64 v])) (by intro x; simp [Value.oneCell']) _) (by omega) rfl fun A42 cap42 => ⟨_, inferInstance, ?_⟩), d_pick rfl (ls' := #[true, true, true, true, false, true, true, true, true, true, true, true, true, false, true, true, true, false, false]) rfl (g_lit rfl rfl rfl rfl rfl fun b50 => ?_), trivial⟩
        · refine g_rowels (A := A42) ((((l.map En.e).take at9)).map (fun v : Int => [Value.int .i64 v])) (by first | rfl | exact List.map_append.symm | (simp; done)) ?_
          refine g_rown (A := A42) (at9) (by simp) ?_
          refine g_val 42 (v' := .slice A42 (at9) cap42) rfl (by simp) ?_
          refine d_op 12 rfl (by kernel_rfl) (ls' := #[true, true, true, true, true, true, true, true, true, true, true, true, true, false, true, true, true, false, false]) rfl wok_sub (g_lit rfl rfl rfl rfl rfl fun b50 => ?_)
          refine g_blkc (b := b50) ((([(es[i]).e] : List Int).map (fun v : Int => [Value.int .i64 v])).flatten) rfl ?_
          refine d_op 13 rfl (by kernel_rfl) (ls' := #[true, true, true, true, true, true, true, true, true, true, true, true, true, true, true, true, true, false, false]) rfl wok_sub (g_append (A := A42) (els := (((l.map En.e).take at9)).map (fun v : Int => [Value.int .i64 v])) (news := (([(es[i]).e] : List Int).map (fun v : Int => [Value.int .i64 v]))) rfl rfl (InL.rdb (b := b50) rfl (by simp) rfl) (map_one (c := (fun v : Int => [Value.int .i64 v])) (by intro x; simp [Value.oneCell']) _) (by omega) rfl fun A51 cap51 => ⟨_, inferInstance, ?_⟩)
          refine g_rowels (A := A51) (((((l.map En.e).take at9) ++ [(es[i]).e])).map (fun v : Int => [Value.int .i64 v])) (by first | rfl | exact List.map_append.symm | (simp; done)) ?_
          refine d_op 17 rfl (by kernel_rfl) (ls' := #[true, true, true, true, true, true, true, true, true, true, true, true, true, true, true, true, true, true, false]) rfl wok_sub (g_append (A := A51) (els := ((((l.map En.e).take at9) ++ [(es[i]).e])).map (fun v : Int => [Value.int .i64 v])) (news := ((((l.map En.e).drop at9)).map (fun v : Int => [Value.int .i64 v]))) rfl rfl (by rw [List.map_drop]; exact Rdb.l (cap := bc) (InRow.rdb (A := B) (els := ((l.map En.e)).map (fun v : Int => [Value.int .i64 v])) (by first | rfl | assumption | (simp; done) | (simp_all; done) | (simp; omega) | (simp_all; omega)) (map_cat (c := (fun v : Int => [Value.int .i64 v])) (fun _ => rfl) _)) (by omega) (by omega)) (map_one (c := (fun v : Int => [Value.int .i64 v])) (by intro x; simp [Value.oneCell']) _) (by omega) rfl fun A55 cap55 => ⟨_, inferInstance, ?_⟩)
          refine g_rowels (A := A55) ((((((l.map En.e).take at9) ++ [(es[i]).e]) ++ ((l.map En.e).drop at9))).map (fun v : Int => [Value.int .i64 v])) (by first | rfl | exact List.map_append.symm | (simp; done)) ?_
          refine g_rowels (A := A55) (((l.take at9 ++ es[i] :: l.drop at9).map En.e).map (fun v : Int => [Value.int .i64 v])) (by simp) ?_
          refine g_rown (A := A55) ((l.take at9 ++ es[i] :: l.drop at9).map En.e).length (by simp; omega) ?_
          refine g_val 55 (v' := .slice A55 ((l.take at9 ++ es[i] :: l.drop at9).map En.e).length cap55) rfl (by simp; omega) ?_
          refine d_q 18 rfl (by kernel_rfl) (q_assign rfl) wok_sub rfl (ls' := #[true, true, true, true, true, true, true, true, true, true, true, true, true, true, true, true, true, true, true]) rfl ?_
          refine d_end (by kernel_rfl) (.inr wok_sub) ?_
          refine g_then ?_
          refine d_regionL (L0 := [Res.blk wb 29 [Value.slice A0 (es.map En.e).length c0, Value.slice A1 (es.map En.i).length c1], Res.row A0 (es.map En.e).length c0 3 1 ((es.map En.e).map (fun v : Int => [Value.int .i64 v])), Res.row A1 (es.map En.i).length c1 3 1 ((es.map En.i).map (fun v : Int => [Value.int .i64 v])), Res.row A55 ((l.take at9 ++ es[i] :: l.drop at9).map En.e).length cap55 3 1 (((l.take at9 ++ es[i] :: l.drop at9).map En.e).map (fun v : Int => [Value.int .i64 v])), Res.row D (l.map En.i).length dc 3 1 ((l.map En.i).map (fun v : Int => [Value.int .i64 v]))]) [] mixed rfl rfl wok_sub ?_
          refine d_q 1 rfl (by kernel_rfl) (q_move rfl) wok_sub rfl (ls' := #[false, true, false, false, false, false, false, false, false, false, false, false, false, false, false, false, false, false, false]) rfl ?_
          refine d_q 2 rfl (by kernel_rfl) (q_move rfl) wok_sub rfl (ls' := #[false, true, true, false, false, false, false, false, false, false, false, false, false, false, false, false, false, false, false]) rfl ?_
          refine d_q 3 rfl (by kernel_rfl) (q_slice_h (h := at9) rfl rfl rfl (by omega)) wok_sub rfl (ls' := #[false, true, true, true, false, false, false, false, false, false, false, false, false, false, false, false, false, false, false]) rfl ?_
          refine d_q 5 rfl (by kernel_rfl) (q_move rfl) wok_sub rfl (ls' := #[false, true, true, true, false, true, false, false, false, false, false, false, false, false, false, false, false, false, false]) rfl ?_
          refine d_q 6 rfl (by kernel_rfl) (q_nilck rfl) wok_sub rfl (ls' := #[false, true, true, true, false, true, true, false, false, false, false, false, false, false, false, false, false, false, false]) rfl ?_
          refine d_q 7 rfl (by kernel_rfl) (q_field rfl) wok_sub rfl (ls' := #[false, true, true, true, false, true, true, true, false, false, false, false, false, false, false, false, false, false, false]) rfl ?_
          refine d_q 8 rfl (by kernel_rfl) (q_load rfl rfl) wok_sub rfl (ls' := #[false, true, true, true, false, true, true, true, true, false, false, false, false, false, false, false, false, false, false]) rfl ?_
          refine d_q 9 rfl (by kernel_rfl) (q_move rfl) wok_sub rfl (ls' := #[false, true, true, true, false, true, true, true, true, true, false, false, false, false, false, false, false, false, false]) rfl ?_
          refine d_q 10 rfl (by kernel_rfl) (q_index (i := i) rfl rfl rfl (InRow.rdb (A := A1) (els := ((es.map En.i)).map (fun v : Int => [Value.int .i64 v])) (by first | rfl | assumption | (simp; done) | (simp_all; done) | (simp; omega) | (simp_all; omega)) (map_cat (c := (fun v : Int => [Value.int .i64 v])) (fun _ => rfl) _)) (by first | omega | (simp; done) | (simp; omega))) wok_sub rfl (ls' := #[false, true, true, true, false, true, true, true, true, true, true, false, false, false, false, false, false, false, false]) rfl ?_
          refine d_q 11 rfl (by kernel_rfl) (q_load_el (i := i) (o := 0) rfl (InRow.rdb (A := A1) (els := ((es.map En.i)).map (fun v : Int => [Value.int .i64 v])) (by first | rfl | assumption | (simp; done) | (simp_all; done) | (simp; omega) | (simp_all; omega)) (map_cat (c := (fun v : Int => [Value.int .i64 v])) (fun _ => rfl) _)) (en_get_i (by first | assumption | omega)) rfl rfl) wok_sub rfl (ls' := #[false, true, true, true, false, true, true, true, true, true, true, true, false, false, false, false, false, false, false]) rfl ?_
          refine d_q 14 rfl (by kernel_rfl) (q_move rfl) wok_sub rfl (ls' := #[false, true, true, true, false, true, true, true, true, true, true, true, false, false, true, false, false, false, false]) rfl ?_
          refine d_q 15 rfl (by kernel_rfl) (q_move rfl) wok_sub rfl (ls' := #[false, true, true, true, false, true, true, true, true, true, true, true, false, false, true, true, false, false, false]) rfl ?_
          refine d_q 16 rfl (by kernel_rfl) (q_slice_l (l := at9) rfl rfl rfl (by omega)) wok_sub rfl (ls' := #[false, true, true, true, false, true, true, true, true, true, true, true, false, false, true, true, true, false, false]) rfl ?_
          refine d_many [0, 12] (by kernel_rfl) (by simp) wok_sub ⟨d_pick rfl (ls' := #[true, true, true, true, false, true, true, true, true, true, true, true, false, false, true, true, true, false, false]) rfl (g_lit rfl rfl rfl rfl rfl fun b56 => ?_), d_pick rfl (ls' := #[false, true, true, true, false, true, true, true, true, true, true, true, true, false, true, true, true, false, false]) rfl (g_lit rfl rfl rfl rfl rfl fun b68 => ?_), trivial⟩
          · refine g_norow (t := 56) (T := 3) (k := 1) rfl fun A56 cap56 hc56 => ?_
            refine g_rowels (A := A56) (([] : List Int).map (fun v : Int => [Value.int .i64 v])) rfl ?_
            refine d_many [4, 12] (by kernel_rfl) (by simp) wok_sub ⟨d_pick rfl (ls' := #[true, true, true, true, true, true, true, true, true, true, true, true, false, false, true, true, true, false, false]) rfl (g_append (A := A56) (els := (([] : List Int)).map (fun v : Int => [Value.int .i64 v])) (news := ((((l.map En.i).take at9)).map (fun v : Int => [Value.int .i64 v]))) rfl rfl (by rw [List.map_take]; exact Rdb.h (cap := dc) (InRow.rdb (A := D) (els := ((l.map En.i)).map (fun v : Int => [Value.int .i64 v])) (by first | rfl | assumption | (simp; done) | (simp_all; done) | (simp; omega) | (simp_all; omega)) (map_cat (c := (fun v : Int => [Value.int .i64 v])) (fun _ => rfl) _)) (by omega) (by omega)) (map_one (c := (fun v : Int => [Value.int .i64 v])) (by intro x; simp [Value.oneCell']) _) (by omega) rfl fun A60 cap60 => ⟨_, inferInstance, ?_⟩), d_pick rfl (ls' := #[true, true, true, true, false, true, true, true, true, true, true, true, true, false, true, true, true, false, false]) rfl (g_lit rfl rfl rfl rfl rfl fun b68 => ?_), trivial⟩
            · refine g_rowels (A := A60) ((((l.map En.i).take at9)).map (fun v : Int => [Value.int .i64 v])) (by first | rfl | exact List.map_append.symm | (simp; done)) ?_
              refine g_rown (A := A60) (at9) (by simp) ?_
              refine g_val 60 (v' := .slice A60 (at9) cap60) rfl (by simp) ?_
              refine d_op 12 rfl (by kernel_rfl) (ls' := #[true, true, true, true, true, true, true, true, true, true, true, true, true, false, true, true, true, false, false]) rfl wok_sub (g_lit rfl rfl rfl rfl rfl fun b68 => ?_)
              refine g_blkc (b := b68) ((([(es[i]).i] : List Int).map (fun v : Int => [Value.int .i64 v])).flatten) rfl ?_
              refine d_op 13 rfl (by kernel_rfl) (ls' := #[true, true, true, true, true, true, true, true, true, true, true, true, true, true, true, true, true, false, false]) rfl wok_sub (g_append (A := A60) (els := (((l.map En.i).take at9)).map (fun v : Int => [Value.int .i64 v])) (news := (([(es[i]).i] : List Int).map (fun v : Int => [Value.int .i64 v]))) rfl rfl (InL.rdb (b := b68) rfl (by simp) rfl) (map_one (c := (fun v : Int => [Value.int .i64 v])) (by intro x; simp [Value.oneCell']) _) (by omega) rfl fun A69 cap69 => ⟨_, inferInstance, ?_⟩)
              refine g_rowels (A := A69) (((((l.map En.i).take at9) ++ [(es[i]).i])).map (fun v : Int => [Value.int .i64 v])) (by first | rfl | exact List.map_append.symm | (simp; done)) ?_
              refine d_op 17 rfl (by kernel_rfl) (ls' := #[true, true, true, true, true, true, true, true, true, true, true, true, true, true, true, true, true, true, false]) rfl wok_sub (g_append (A := A69) (els := ((((l.map En.i).take at9) ++ [(es[i]).i])).map (fun v : Int => [Value.int .i64 v])) (news := ((((l.map En.i).drop at9)).map (fun v : Int => [Value.int .i64 v]))) rfl rfl (by rw [List.map_drop]; exact Rdb.l (cap := dc) (InRow.rdb (A := D) (els := ((l.map En.i)).map (fun v : Int => [Value.int .i64 v])) (by first | rfl | assumption | (simp; done) | (simp_all; done) | (simp; omega) | (simp_all; omega)) (map_cat (c := (fun v : Int => [Value.int .i64 v])) (fun _ => rfl) _)) (by omega) (by omega)) (map_one (c := (fun v : Int => [Value.int .i64 v])) (by intro x; simp [Value.oneCell']) _) (by omega) rfl fun A73 cap73 => ⟨_, inferInstance, ?_⟩)
              refine g_rowels (A := A73) ((((((l.map En.i).take at9) ++ [(es[i]).i]) ++ ((l.map En.i).drop at9))).map (fun v : Int => [Value.int .i64 v])) (by first | rfl | exact List.map_append.symm | (simp; done)) ?_
              refine g_rowels (A := A73) (((l.take at9 ++ es[i] :: l.drop at9).map En.i).map (fun v : Int => [Value.int .i64 v])) (by simp) ?_
              refine g_rown (A := A73) ((l.take at9 ++ es[i] :: l.drop at9).map En.i).length (by simp; omega) ?_
              refine g_val 73 (v' := .slice A73 ((l.take at9 ++ es[i] :: l.drop at9).map En.i).length cap73) rfl (by simp; omega) ?_
              refine d_q 18 rfl (by kernel_rfl) (q_assign rfl) wok_sub rfl (ls' := #[true, true, true, true, true, true, true, true, true, true, true, true, true, true, true, true, true, true, true]) rfl ?_
              refine d_end (by kernel_rfl) (.inr wok_sub) ?_
              refine g_blk_n ?_
              refine g_then ?_
              refine g_region ?_
              refine s_q (q_move rfl) rfl ?_
              refine s_q (q_inc rfl rfl (by omega)) rfl ?_
              refine s_q (q_assign rfl) rfl ?_
              refine g_nil ?_
              exact g_again ((i + 1), A55, cap55, A73, cap73, (l.take at9 ++ es[i] :: l.drop at9)) (by (try dsimp only); exact ⟨(by omega), hone.1, hone.2, (by simp; omega)⟩) (by dsimp only; omega) (by repeat (first | exact trivial | refine ⟨rfl, ?_⟩)) wok_sub
            · refine g_blkc (b := b68) ((([(es[i]).i] : List Int).map (fun v : Int => [Value.int .i64 v])).flatten) rfl ?_
              refine d_op 4 rfl (by kernel_rfl) (ls' := #[true, true, true, true, true, true, true, true, true, true, true, true, true, false, true, true, true, false, false]) rfl wok_sub (g_append (A := A56) (els := (([] : List Int)).map (fun v : Int => [Value.int .i64 v])) (news := ((((l.map En.i).take at9)).map (fun v : Int => [Value.int .i64 v]))) rfl rfl (by rw [List.map_take]; exact Rdb.h (cap := dc) (InRow.rdb (A := D) (els := ((l.map En.i)).map (fun v : Int => [Value.int .i64 v])) (by first | rfl | assumption | (simp; done) | (simp_all; done) | (simp; omega) | (simp_all; omega)) (map_cat (c := (fun v : Int => [Value.int .i64 v])) (fun _ => rfl) _)) (by omega) (by omega)) (map_one (c := (fun v : Int => [Value.int .i64 v])) (by intro x; simp [Value.oneCell']) _) (by omega) rfl fun A60 cap60 => ⟨_, inferInstance, ?_⟩)
              refine g_rowels (A := A60) ((((l.map En.i).take at9)).map (fun v : Int => [Value.int .i64 v])) (by first | rfl | exact List.map_append.symm | (simp; done)) ?_
              refine g_rown (A := A60) (at9) (by simp) ?_
              refine g_val 60 (v' := .slice A60 (at9) cap60) rfl (by simp) ?_
              refine d_op 13 rfl (by kernel_rfl) (ls' := #[true, true, true, true, true, true, true, true, true, true, true, true, true, true, true, true, true, false, false]) rfl wok_sub (g_append (A := A60) (els := (((l.map En.i).take at9)).map (fun v : Int => [Value.int .i64 v])) (news := (([(es[i]).i] : List Int).map (fun v : Int => [Value.int .i64 v]))) rfl rfl (InL.rdb (b := b68) rfl (by simp) rfl) (map_one (c := (fun v : Int => [Value.int .i64 v])) (by intro x; simp [Value.oneCell']) _) (by omega) rfl fun A69 cap69 => ⟨_, inferInstance, ?_⟩)
              refine g_rowels (A := A69) (((((l.map En.i).take at9) ++ [(es[i]).i])).map (fun v : Int => [Value.int .i64 v])) (by first | rfl | exact List.map_append.symm | (simp; done)) ?_
              refine d_op 17 rfl (by kernel_rfl) (ls' := #[true, true, true, true, true, true, true, true, true, true, true, true, true, true, true, true, true, true, false]) rfl wok_sub (g_append (A := A69) (els := ((((l.map En.i).take at9) ++ [(es[i]).i])).map (fun v : Int => [Value.int .i64 v])) (news := ((((l.map En.i).drop at9)).map (fun v : Int => [Value.int .i64 v]))) rfl rfl (by rw [List.map_drop]; exact Rdb.l (cap := dc) (InRow.rdb (A := D) (els := ((l.map En.i)).map (fun v : Int => [Value.int .i64 v])) (by first | rfl | assumption | (simp; done) | (simp_all; done) | (simp; omega) | (simp_all; omega)) (map_cat (c := (fun v : Int => [Value.int .i64 v])) (fun _ => rfl) _)) (by omega) (by omega)) (map_one (c := (fun v : Int => [Value.int .i64 v])) (by intro x; simp [Value.oneCell']) _) (by omega) rfl fun A73 cap73 => ⟨_, inferInstance, ?_⟩)
              refine g_rowels (A := A73) ((((((l.map En.i).take at9) ++ [(es[i]).i]) ++ ((l.map En.i).drop at9))).map (fun v : Int => [Value.int .i64 v])) (by first | rfl | exact List.map_append.symm | (simp; done)) ?_
              refine g_rowels (A := A73) (((l.take at9 ++ es[i] :: l.drop at9).map En.i).map (fun v : Int => [Value.int .i64 v])) (by simp) ?_
              refine g_rown (A := A73) ((l.take at9 ++ es[i] :: l.drop at9).map En.i).length (by simp; omega) ?_
              refine g_val 73 (v' := .slice A73 ((l.take at9 ++ es[i] :: l.drop at9).map En.i).length cap73) rfl (by simp; omega) ?_
              refine d_q 18 rfl (by kernel_rfl) (q_assign rfl) wok_sub rfl (ls' := #[true, true, true, true, true, true, true, true, true, true, true, true, true, true, true, true, true, true, true]) rfl ?_
              refine d_end (by kernel_rfl) (.inr wok_sub) ?_
              refine g_blk_n ?_
              refine g_then ?_
              refine g_region ?_
              refine s_q (q_move rfl) rfl ?_
              refine s_q (q_inc rfl rfl (by omega)) rfl ?_
              refine s_q (q_assign rfl) rfl ?_
              refine g_nil ?_
              exact g_again ((i + 1), A55, cap55, A73, cap73, (l.take at9 ++ es[i] :: l.drop at9)) (by (try dsimp only); exact ⟨(by omega), hone.1, hone.2, (by simp; omega)⟩) (by dsimp only; omega) (by repeat (first | exact trivial | refine ⟨rfl, ?_⟩)) wok_sub
          · refine g_blkc (b := b68) ((([(es[i]).i] : List Int).map (fun v : Int => [Value.int .i64 v])).flatten) rfl ?_
            refine d_op 0 rfl (by kernel_rfl) (ls' := #[true, true, true, true, false, true, true, true, true, true, true, true, true, false, true, true, true, false, false]) rfl wok_sub (g_lit rfl rfl rfl rfl rfl fun b56 => ?_)
            refine g_norow (t := 56) (T := 3) (k := 1) rfl fun A56 cap56 hc56 => ?_
            refine g_rowels (A := A56) (([] : List Int).map (fun v : Int => [Value.int .i64 v])) rfl ?_
            refine d_op 4 rfl (by kernel_rfl) (ls' := #[true, true, true, true, true, true, true, true, true, true, true, true, true, false, true, true, true, false, false]) rfl wok_sub (g_append (A := A56) (els := (([] : List Int)).map (fun v : Int => [Value.int .i64 v])) (news := ((((l.map En.i).take at9)).map (fun v : Int => [Value.int .i64 v]))) rfl rfl (by rw [List.map_take]; exact Rdb.h (cap := dc) (InRow.rdb (A := D) (els := ((l.map En.i)).map (fun v : Int => [Value.int .i64 v])) (by first | rfl | assumption | (simp; done) | (simp_all; done) | (simp; omega) | (simp_all; omega)) (map_cat (c := (fun v : Int => [Value.int .i64 v])) (fun _ => rfl) _)) (by omega) (by omega)) (map_one (c := (fun v : Int => [Value.int .i64 v])) (by intro x; simp [Value.oneCell']) _) (by omega) rfl fun A60 cap60 => ⟨_, inferInstance, ?_⟩)
            refine g_rowels (A := A60) ((((l.map En.i).take at9)).map (fun v : Int => [Value.int .i64 v])) (by first | rfl | exact List.map_append.symm | (simp; done)) ?_
            refine g_rown (A := A60) (at9) (by simp) ?_
            refine g_val 60 (v' := .slice A60 (at9) cap60) rfl (by simp) ?_
            refine d_op 13 rfl (by kernel_rfl) (ls' := #[true, true, true, true, true, true, true, true, true, true, true, true, true, true, true, true, true, false, false]) rfl wok_sub (g_append (A := A60) (els := (((l.map En.i).take at9)).map (fun v : Int => [Value.int .i64 v])) (news := (([(es[i]).i] : List Int).map (fun v : Int => [Value.int .i64 v]))) rfl rfl (InL.rdb (b := b68) rfl (by simp) rfl) (map_one (c := (fun v : Int => [Value.int .i64 v])) (by intro x; simp [Value.oneCell']) _) (by omega) rfl fun A69 cap69 => ⟨_, inferInstance, ?_⟩)
            refine g_rowels (A := A69) (((((l.map En.i).take at9) ++ [(es[i]).i])).map (fun v : Int => [Value.int .i64 v])) (by first | rfl | exact List.map_append.symm | (simp; done)) ?_
            refine d_op 17 rfl (by kernel_rfl) (ls' := #[true, true, true, true, true, true, true, true, true, true, true, true, true, true, true, true, true, true, false]) rfl wok_sub (g_append (A := A69) (els := ((((l.map En.i).take at9) ++ [(es[i]).i])).map (fun v : Int => [Value.int .i64 v])) (news := ((((l.map En.i).drop at9)).map (fun v : Int => [Value.int .i64 v]))) rfl rfl (by rw [List.map_drop]; exact Rdb.l (cap := dc) (InRow.rdb (A := D) (els := ((l.map En.i)).map (fun v : Int => [Value.int .i64 v])) (by first | rfl | assumption | (simp; done) | (simp_all; done) | (simp; omega) | (simp_all; omega)) (map_cat (c := (fun v : Int => [Value.int .i64 v])) (fun _ => rfl) _)) (by omega) (by omega)) (map_one (c := (fun v : Int => [Value.int .i64 v])) (by intro x; simp [Value.oneCell']) _) (by omega) rfl fun A73 cap73 => ⟨_, inferInstance, ?_⟩)
            refine g_rowels (A := A73) ((((((l.map En.i).take at9) ++ [(es[i]).i]) ++ ((l.map En.i).drop at9))).map (fun v : Int => [Value.int .i64 v])) (by first | rfl | exact List.map_append.symm | (simp; done)) ?_
            refine g_rowels (A := A73) (((l.take at9 ++ es[i] :: l.drop at9).map En.i).map (fun v : Int => [Value.int .i64 v])) (by simp) ?_
            refine g_rown (A := A73) ((l.take at9 ++ es[i] :: l.drop at9).map En.i).length (by simp; omega) ?_
            refine g_val 73 (v' := .slice A73 ((l.take at9 ++ es[i] :: l.drop at9).map En.i).length cap73) rfl (by simp; omega) ?_
            refine d_q 18 rfl (by kernel_rfl) (q_assign rfl) wok_sub rfl (ls' := #[true, true, true, true, true, true, true, true, true, true, true, true, true, true, true, true, true, true, true]) rfl ?_
            refine d_end (by kernel_rfl) (.inr wok_sub) ?_
            refine g_blk_n ?_
            refine g_then ?_
            refine g_region ?_
            refine s_q (q_move rfl) rfl ?_
            refine s_q (q_inc rfl rfl (by omega)) rfl ?_
            refine s_q (q_assign rfl) rfl ?_
            refine g_nil ?_
            exact g_again ((i + 1), A55, cap55, A73, cap73, (l.take at9 ++ es[i] :: l.drop at9)) (by (try dsimp only); exact ⟨(by omega), hone.1, hone.2, (by simp; omega)⟩) (by dsimp only; omega) (by repeat (first | exact trivial | refine ⟨rfl, ?_⟩)) wok_sub
        · refine g_blkc (b := b50) ((([(es[i]).e] : List Int).map (fun v : Int => [Value.int .i64 v])).flatten) rfl ?_
          refine d_op 4 rfl (by kernel_rfl) (ls' := #[true, true, true, true, true, true, true, true, true, true, true, true, true, false, true, true, true, false, false]) rfl wok_sub (g_append (A := A38) (els := (([] : List Int)).map (fun v : Int => [Value.int .i64 v])) (news := ((((l.map En.e).take at9)).map (fun v : Int => [Value.int .i64 v]))) rfl rfl (by rw [List.map_take]; exact Rdb.h (cap := bc) (InRow.rdb (A := B) (els := ((l.map En.e)).map (fun v : Int => [Value.int .i64 v])) (by first | rfl | assumption | (simp; done) | (simp_all; done) | (simp; omega) | (simp_all; omega)) (map_cat (c := (fun v : Int => [Value.int .i64 v])) (fun _ => rfl) _)) (by omega) (by omega)) (map_one (c := (fun v : Int => [Value.int .i64 v])) (by intro x; simp [Value.oneCell']) _) (by omega) rfl fun A42 cap42 => ⟨_, inferInstance, ?_⟩)
          refine g_rowels (A := A42) ((((l.map En.e).take at9)).map (fun v : Int => [Value.int .i64 v])) (by first | rfl | exact List.map_append.symm | (simp; done)) ?_
          refine g_rown (A := A42) (at9) (by simp) ?_
          refine g_val 42 (v' := .slice A42 (at9) cap42) rfl (by simp) ?_
          refine d_op 13 rfl (by kernel_rfl) (ls' := #[true, true, true, true, true, true, true, true, true, true, true, true, true, true, true, true, true, false, false]) rfl wok_sub (g_append (A := A42) (els := (((l.map En.e).take at9)).map (fun v : Int => [Value.int .i64 v])) (news := (([(es[i]).e] : List Int).map (fun v : Int => [Value.int .i64 v]))) rfl rfl (InL.rdb (b := b50) rfl (by simp) rfl) (map_one (c := (fun v : Int => [Value.int .i64 v])) (by intro x; simp [Value.oneCell']) _) (by omega) rfl fun A51 cap51 => ⟨_, inferInstance, ?_⟩)
          refine g_rowels (A := A51) (((((l.map En.e).take at9) ++ [(es[i]).e])).map (fun v : Int => [Value.int .i64 v])) (by first | rfl | exact List.map_append.symm | (simp; done)) ?_
          refine d_op 17 rfl (by kernel_rfl) (ls' := #[true, true, true, true, true, true, true, true, true, true, true, true, true, true, true, true, true, true, false]) rfl wok_sub (g_append (A := A51) (els := ((((l.map En.e).take at9) ++ [(es[i]).e])).map (fun v : Int => [Value.int .i64 v])) (news := ((((l.map En.e).drop at9)).map (fun v : Int => [Value.int .i64 v]))) rfl rfl (by rw [List.map_drop]; exact Rdb.l (cap := bc) (InRow.rdb (A := B) (els := ((l.map En.e)).map (fun v : Int => [Value.int .i64 v])) (by first | rfl | assumption | (simp; done) | (simp_all; done) | (simp; omega) | (simp_all; omega)) (map_cat (c := (fun v : Int => [Value.int .i64 v])) (fun _ => rfl) _)) (by omega) (by omega)) (map_one (c := (fun v : Int => [Value.int .i64 v])) (by intro x; simp [Value.oneCell']) _) (by omega) rfl fun A55 cap55 => ⟨_, inferInstance, ?_⟩)
          refine g_rowels (A := A55) ((((((l.map En.e).take at9) ++ [(es[i]).e]) ++ ((l.map En.e).drop at9))).map (fun v : Int => [Value.int .i64 v])) (by first | rfl | exact List.map_append.symm | (simp; done)) ?_
          refine g_rowels (A := A55) (((l.take at9 ++ es[i] :: l.drop at9).map En.e).map (fun v : Int => [Value.int .i64 v])) (by simp) ?_
          refine g_rown (A := A55) ((l.take at9 ++ es[i] :: l.drop at9).map En.e).length (by simp; omega) ?_
          refine g_val 55 (v' := .slice A55 ((l.take at9 ++ es[i] :: l.drop at9).map En.e).length cap55) rfl (by simp; omega) ?_
          refine d_q 18 rfl (by kernel_rfl) (q_assign rfl) wok_sub rfl (ls' := #[true, true, true, true, true, true, true, true, true, true, true, true, true, true, true, true, true, true, true]) rfl ?_
          refine d_end (by kernel_rfl) (.inr wok_sub) ?_
          refine g_then ?_
          refine d_regionL (L0 := [Res.blk wb 29 [Value.slice A0 (es.map En.e).length c0, Value.slice A1 (es.map En.i).length c1], Res.row A0 (es.map En.e).length c0 3 1 ((es.map En.e).map (fun v : Int => [Value.int .i64 v])), Res.row A1 (es.map En.i).length c1 3 1 ((es.map En.i).map (fun v : Int => [Value.int .i64 v])), Res.row A55 ((l.take at9 ++ es[i] :: l.drop at9).map En.e).length cap55 3 1 (((l.take at9 ++ es[i] :: l.drop at9).map En.e).map (fun v : Int => [Value.int .i64 v])), Res.row D (l.map En.i).length dc 3 1 ((l.map En.i).map (fun v : Int => [Value.int .i64 v]))]) [] mixed rfl rfl wok_sub ?_
          refine d_q 1 rfl (by kernel_rfl) (q_move rfl) wok_sub rfl (ls' := #[false, true, false, false, false, false, false, false, false, false, false, false, false, false, false, false, false, false, false]) rfl ?_
          refine d_q 2 rfl (by kernel_rfl) (q_move rfl) wok_sub rfl (ls' := #[false, true, true, false, false, false, false, false, false, false, false, false, false, false, false, false, false, false, false]) rfl ?_
          refine d_q 3 rfl (by kernel_rfl) (q_slice_h (h := at9) rfl rfl rfl (by omega)) wok_sub rfl (ls' := #[false, true, true, true, false, false, false, false, false, false, false, false, false, false, false, false, false, false, false]) rfl ?_
          refine d_q 5 rfl (by kernel_rfl) (q_move rfl) wok_sub rfl (ls' := #[false, true, true, true, false, true, false, false, false, false, false, false, false, false, false, false, false, false, false]) rfl ?_
          refine d_q 6 rfl (by kernel_rfl) (q_nilck rfl) wok_sub rfl (ls' := #[false, true, true, true, false, true, true, false, false, false, false, false, false, false, false, false, false, false, false]) rfl ?_
          refine d_q 7 rfl (by kernel_rfl) (q_field rfl) wok_sub rfl (ls' := #[false, true, true, true, false, true, true, true, false, false, false, false, false, false, false, false, false, false, false]) rfl ?_
          refine d_q 8 rfl (by kernel_rfl) (q_load rfl rfl) wok_sub rfl (ls' := #[false, true, true, true, false, true, true, true, true, false, false, false, false, false, false, false, false, false, false]) rfl ?_
          refine d_q 9 rfl (by kernel_rfl) (q_move rfl) wok_sub rfl (ls' := #[false, true, true, true, false, true, true, true, true, true, false, false, false, false, false, false, false, false, false]) rfl ?_
          refine d_q 10 rfl (by kernel_rfl) (q_index (i := i) rfl rfl rfl (InRow.rdb (A := A1) (els := ((es.map En.i)).map (fun v : Int => [Value.int .i64 v])) (by first | rfl | assumption | (simp; done) | (simp_all; done) | (simp; omega) | (simp_all; omega)) (map_cat (c := (fun v : Int => [Value.int .i64 v])) (fun _ => rfl) _)) (by first | omega | (simp; done) | (simp; omega))) wok_sub rfl (ls' := #[false, true, true, true, false, true, true, true, true, true, true, false, false, false, false, false, false, false, false]) rfl ?_
          refine d_q 11 rfl (by kernel_rfl) (q_load_el (i := i) (o := 0) rfl (InRow.rdb (A := A1) (els := ((es.map En.i)).map (fun v : Int => [Value.int .i64 v])) (by first | rfl | assumption | (simp; done) | (simp_all; done) | (simp; omega) | (simp_all; omega)) (map_cat (c := (fun v : Int => [Value.int .i64 v])) (fun _ => rfl) _)) (en_get_i (by first | assumption | omega)) rfl rfl) wok_sub rfl (ls' := #[false, true, true, true, false, true, true, true, true, true, true, true, false, false, false, false, false, false, false]) rfl ?_
          refine d_q 14 rfl (by kernel_rfl) (q_move rfl) wok_sub rfl (ls' := #[false, true, true, true, false, true, true, true, true, true, true, true, false, false, true, false, false, false, false]) rfl ?_
          refine d_q 15 rfl (by kernel_rfl) (q_move rfl) wok_sub rfl (ls' := #[false, true, true, true, false, true, true, true, true, true, true, true, false, false, true, true, false, false, false]) rfl ?_
          refine d_q 16 rfl (by kernel_rfl) (q_slice_l (l := at9) rfl rfl rfl (by omega)) wok_sub rfl (ls' := #[false, true, true, true, false, true, true, true, true, true, true, true, false, false, true, true, true, false, false]) rfl ?_
          refine d_many [0, 12] (by kernel_rfl) (by simp) wok_sub ⟨d_pick rfl (ls' := #[true, true, true, true, false, true, true, true, true, true, true, true, false, false, true, true, true, false, false]) rfl (g_lit rfl rfl rfl rfl rfl fun b56 => ?_), d_pick rfl (ls' := #[false, true, true, true, false, true, true, true, true, true, true, true, true, false, true, true, true, false, false]) rfl (g_lit rfl rfl rfl rfl rfl fun b68 => ?_), trivial⟩
          · refine g_norow (t := 56) (T := 3) (k := 1) rfl fun A56 cap56 hc56 => ?_
            refine g_rowels (A := A56) (([] : List Int).map (fun v : Int => [Value.int .i64 v])) rfl ?_
            refine d_many [4, 12] (by kernel_rfl) (by simp) wok_sub ⟨d_pick rfl (ls' := #[true, true, true, true, true, true, true, true, true, true, true, true, false, false, true, true, true, false, false]) rfl (g_append (A := A56) (els := (([] : List Int)).map (fun v : Int => [Value.int .i64 v])) (news := ((((l.map En.i).take at9)).map (fun v : Int => [Value.int .i64 v]))) rfl rfl (by rw [List.map_take]; exact Rdb.h (cap := dc) (InRow.rdb (A := D) (els := ((l.map En.i)).map (fun v : Int => [Value.int .i64 v])) (by first | rfl | assumption | (simp; done) | (simp_all; done) | (simp; omega) | (simp_all; omega)) (map_cat (c := (fun v : Int => [Value.int .i64 v])) (fun _ => rfl) _)) (by omega) (by omega)) (map_one (c := (fun v : Int => [Value.int .i64 v])) (by intro x; simp [Value.oneCell']) _) (by omega) rfl fun A60 cap60 => ⟨_, inferInstance, ?_⟩), d_pick rfl (ls' := #[true, true, true, true, false, true, true, true, true, true, true, true, true, false, true, true, true, false, false]) rfl (g_lit rfl rfl rfl rfl rfl fun b68 => ?_), trivial⟩
            · refine g_rowels (A := A60) ((((l.map En.i).take at9)).map (fun v : Int => [Value.int .i64 v])) (by first | rfl | exact List.map_append.symm | (simp; done)) ?_
              refine g_rown (A := A60) (at9) (by simp) ?_
              refine g_val 60 (v' := .slice A60 (at9) cap60) rfl (by simp) ?_
              refine d_op 12 rfl (by kernel_rfl) (ls' := #[true, true, true, true, true, true, true, true, true, true, true, true, true, false, true, true, true, false, false]) rfl wok_sub (g_lit rfl rfl rfl rfl rfl fun b68 => ?_)
              refine g_blkc (b := b68) ((([(es[i]).i] : List Int).map (fun v : Int => [Value.int .i64 v])).flatten) rfl ?_
              refine d_op 13 rfl (by kernel_rfl) (ls' := #[true, true, true, true, true, true, true, true, true, true, true, true, true, true, true, true, true, false, false]) rfl wok_sub (g_append (A := A60) (els := (((l.map En.i).take at9)).map (fun v : Int => [Value.int .i64 v])) (news := (([(es[i]).i] : List Int).map (fun v : Int => [Value.int .i64 v]))) rfl rfl (InL.rdb (b := b68) rfl (by simp) rfl) (map_one (c := (fun v : Int => [Value.int .i64 v])) (by intro x; simp [Value.oneCell']) _) (by omega) rfl fun A69 cap69 => ⟨_, inferInstance, ?_⟩)
              refine g_rowels (A := A69) (((((l.map En.i).take at9) ++ [(es[i]).i])).map (fun v : Int => [Value.int .i64 v])) (by first | rfl | exact List.map_append.symm | (simp; done)) ?_
              refine d_op 17 rfl (by kernel_rfl) (ls' := #[true, true, true, true, true, true, true, true, true, true, true, true, true, true, true, true, true, true, false]) rfl wok_sub (g_append (A := A69) (els := ((((l.map En.i).take at9) ++ [(es[i]).i])).map (fun v : Int => [Value.int .i64 v])) (news := ((((l.map En.i).drop at9)).map (fun v : Int => [Value.int .i64 v]))) rfl rfl (by rw [List.map_drop]; exact Rdb.l (cap := dc) (InRow.rdb (A := D) (els := ((l.map En.i)).map (fun v : Int => [Value.int .i64 v])) (by first | rfl | assumption | (simp; done) | (simp_all; done) | (simp; omega) | (simp_all; omega)) (map_cat (c := (fun v : Int => [Value.int .i64 v])) (fun _ => rfl) _)) (by omega) (by omega)) (map_one (c := (fun v : Int => [Value.int .i64 v])) (by intro x; simp [Value.oneCell']) _) (by omega) rfl fun A73 cap73 => ⟨_, inferInstance, ?_⟩)
              refine g_rowels (A := A73) ((((((l.map En.i).take at9) ++ [(es[i]).i]) ++ ((l.map En.i).drop at9))).map (fun v : Int => [Value.int .i64 v])) (by first | rfl | exact List.map_append.symm | (simp; done)) ?_
              refine g_rowels (A := A73) (((l.take at9 ++ es[i] :: l.drop at9).map En.i).map (fun v : Int => [Value.int .i64 v])) (by simp) ?_
              refine g_rown (A := A73) ((l.take at9 ++ es[i] :: l.drop at9).map En.i).length (by simp; omega) ?_
              refine g_val 73 (v' := .slice A73 ((l.take at9 ++ es[i] :: l.drop at9).map En.i).length cap73) rfl (by simp; omega) ?_
              refine d_q 18 rfl (by kernel_rfl) (q_assign rfl) wok_sub rfl (ls' := #[true, true, true, true, true, true, true, true, true, true, true, true, true, true, true, true, true, true, true]) rfl ?_
              refine d_end (by kernel_rfl) (.inr wok_sub) ?_
              refine g_blk_n ?_
              refine g_then ?_
              refine g_region ?_
              refine s_q (q_move rfl) rfl ?_
              refine s_q (q_inc rfl rfl (by omega)) rfl ?_
              refine s_q (q_assign rfl) rfl ?_
              refine g_nil ?_
              exact g_again ((i + 1), A55, cap55, A73, cap73, (l.take at9 ++ es[i] :: l.drop at9)) (by (try dsimp only); exact ⟨(by omega), hone.1, hone.2, (by simp; omega)⟩) (by dsimp only; omega) (by repeat (first | exact trivial | refine ⟨rfl, ?_⟩)) wok_sub
            · refine g_blkc (b := b68) ((([(es[i]).i] : List Int).map (fun v : Int => [Value.int .i64 v])).flatten) rfl ?_
              refine d_op 4 rfl (by kernel_rfl) (ls' := #[true, true, true, true, true, true, true, true, true, true, true, true, true, false, true, true, true, false, false]) rfl wok_sub (g_append (A := A56) (els := (([] : List Int)).map (fun v : Int => [Value.int .i64 v])) (news := ((((l.map En.i).take at9)).map (fun v : Int => [Value.int .i64 v]))) rfl rfl (by rw [List.map_take]; exact Rdb.h (cap := dc) (InRow.rdb (A := D) (els := ((l.map En.i)).map (fun v : Int => [Value.int .i64 v])) (by first | rfl | assumption | (simp; done) | (simp_all; done) | (simp; omega) | (simp_all; omega)) (map_cat (c := (fun v : Int => [Value.int .i64 v])) (fun _ => rfl) _)) (by omega) (by omega)) (map_one (c := (fun v : Int => [Value.int .i64 v])) (by intro x; simp [Value.oneCell']) _) (by omega) rfl fun A60 cap60 => ⟨_, inferInstance, ?_⟩)
              refine g_rowels (A := A60) ((((l.map En.i).take at9)).map (fun v : Int => [Value.int .i64 v])) (by first | rfl | exact List.map_append.symm | (simp; done)) ?_
              refine g_rown (A := A60) (at9) (by simp) ?_
              refine g_val 60 (v' := .slice A60 (at9) cap60) rfl (by simp) ?_
              refine d_op 13 rfl (by kernel_rfl) (ls' := #[true, true, true, true, true, true, true, true, true, true, true, true, true, true, true, true, true, false, false]) rfl wok_sub (g_append (A := A60) (els := (((l.map En.i).take at9)).map (fun v : Int => [Value.int .i64 v])) (news := (([(es[i]).i] : List Int).map (fun v : Int => [Value.int .i64 v]))) rfl rfl (InL.rdb (b := b68) rfl (by simp) rfl) (map_one (c := (fun v : Int => [Value.int .i64 v])) (by intro x; simp [Value.oneCell']) _) (by omega) rfl fun A69 cap69 => ⟨_, inferInstance, ?_⟩)
              refine g_rowels (A := A69) (((((l.map En.i).take at9) ++ [(es[i]).i])).map (fun v : Int => [Value.int .i64 v])) (by first | rfl | exact List.map_append.symm | (simp; done)) ?_
              refine d_op 17 rfl (by kernel_rfl) (ls' := #[true, true, true, true, true, true, true, true, true, true, true, true, true, true, true, true, true, true, false]) rfl wok_sub (g_append (A := A69) (els := ((((l.map En.i).take at9) ++ [(es[i]).i])).map (fun v : Int => [Value.int .i64 v])) (news := ((((l.map En.i).drop at9)).map (fun v : Int => [Value.int .i64 v]))) rfl rfl (by rw [List.map_drop]; exact Rdb.l (cap := dc) (InRow.rdb (A := D) (els := ((l.map En.i)).map (fun v : Int => [Value.int .i64 v])) (by first | rfl | assumption | (simp; done) | (simp_all; done) | (simp; omega) | (simp_all; omega)) (map_cat (c := (fun v : Int => [Value.int .i64 v])) (fun _ => rfl) _)) (by omega) (by omega)) (map_one (c := (fun v : Int => [Value.int .i64 v])) (by intro x; simp [Value.oneCell']) _) (by omega) rfl fun A73 cap73 => ⟨_, inferInstance, ?_⟩)
              refine g_rowels (A := A73) ((((((l.map En.i).take at9) ++ [(es[i]).i]) ++ ((l.map En.i).drop at9))).map (fun v : Int => [Value.int .i64 v])) (by first | rfl | exact List.map_append.symm | (simp; done)) ?_
              refine g_rowels (A := A73) (((l.take at9 ++ es[i] :: l.drop at9).map En.i).map (fun v : Int => [Value.int .i64 v])) (by simp) ?_
              refine g_rown (A := A73) ((l.take at9 ++ es[i] :: l.drop at9).map En.i).length (by simp; omega) ?_
              refine g_val 73 (v' := .slice A73 ((l.take at9 ++ es[i] :: l.drop at9).map En.i).length cap73) rfl (by simp; omega) ?_
              refine d_q 18 rfl (by kernel_rfl) (q_assign rfl) wok_sub rfl (ls' := #[true, true, true, true, true, true, true, true, true, true, true, true, true, true, true, true, true, true, true]) rfl ?_
              refine d_end (by kernel_rfl) (.inr wok_sub) ?_
              refine g_blk_n ?_
              refine g_then ?_
              refine g_region ?_
              refine s_q (q_move rfl) rfl ?_
              refine s_q (q_inc rfl rfl (by omega)) rfl ?_
              refine s_q (q_assign rfl) rfl ?_
              refine g_nil ?_
              exact g_again ((i + 1), A55, cap55, A73, cap73, (l.take at9 ++ es[i] :: l.drop at9)) (by (try dsimp only); exact ⟨(by omega), hone.1, hone.2, (by simp; omega)⟩) (by dsimp only; omega) (by repeat (first | exact trivial | refine ⟨rfl, ?_⟩)) wok_sub
          · refine g_blkc (b := b68) ((([(es[i]).i] : List Int).map (fun v : Int => [Value.int .i64 v])).flatten) rfl ?_
            refine d_op 0 rfl (by kernel_rfl) (ls' := #[true, true, true, true, false, true, true, true, true, true, true, true, true, false, true, true, true, false, false]) rfl wok_sub (g_lit rfl rfl rfl rfl rfl fun b56 => ?_)
            refine g_norow (t := 56) (T := 3) (k := 1) rfl fun A56 cap56 hc56 => ?_
            refine g_rowels (A := A56) (([] : List Int).map (fun v : Int => [Value.int .i64 v])) rfl ?_
            refine d_op 4 rfl (by kernel_rfl) (ls' := #[true, true, true, true, true, true, true, true, true, true, true, true, true, false, true, true, true, false, false]) rfl wok_sub (g_append (A := A56) (els := (([] : List Int)).map (fun v : Int => [Value.int .i64 v])) (news := ((((l.map En.i).take at9)).map (fun v : Int => [Value.int .i64 v]))) rfl rfl (by rw [List.map_take]; exact Rdb.h (cap := dc) (InRow.rdb (A := D) (els := ((l.map En.i)).map (fun v : Int => [Value.int .i64 v])) (by first | rfl | assumption | (simp; done) | (simp_all; done) | (simp; omega) | (simp_all; omega)) (map_cat (c := (fun v : Int => [Value.int .i64 v])) (fun _ => rfl) _)) (by omega) (by omega)) (map_one (c := (fun v : Int => [Value.int .i64 v])) (by intro x; simp [Value.oneCell']) _) (by omega) rfl fun A60 cap60 => ⟨_, inferInstance, ?_⟩)
            refine g_rowels (A := A60) ((((l.map En.i).take at9)).map (fun v : Int => [Value.int .i64 v])) (by first | rfl | exact List.map_append.symm | (simp; done)) ?_
            refine g_rown (A := A60) (at9) (by simp) ?_
            refine g_val 60 (v' := .slice A60 (at9) cap60) rfl (by simp) ?_
            refine d_op 13 rfl (by kernel_rfl) (ls' := #[true, true, true, true, true, true, true, true, true, true, true, true, true, true, true, true, true, false, false]) rfl wok_sub (g_append (A := A60) (els := (((l.map En.i).take at9)).map (fun v : Int => [Value.int .i64 v])) (news := (([(es[i]).i] : List Int).map (fun v : Int => [Value.int .i64 v]))) rfl rfl (InL.rdb (b := b68) rfl (by simp) rfl) (map_one (c := (fun v : Int => [Value.int .i64 v])) (by intro x; simp [Value.oneCell']) _) (by omega) rfl fun A69 cap69 => ⟨_, inferInstance, ?_⟩)
            refine g_rowels (A := A69) (((((l.map En.i).take at9) ++ [(es[i]).i])).map (fun v : Int => [Value.int .i64 v])) (by first | rfl | exact List.map_append.symm | (simp; done)) ?_
            refine d_op 17 rfl (by kernel_rfl) (ls' := #[true, true, true, true, true, true, true, true, true, true, true, true, true, true, true, true, true, true, false]) rfl wok_sub (g_append (A := A69) (els := ((((l.map En.i).take at9) ++ [(es[i]).i])).map (fun v : Int => [Value.int .i64 v])) (news := ((((l.map En.i).drop at9)).map (fun v : Int => [Value.int .i64 v]))) rfl rfl (by rw [List.map_drop]; exact Rdb.l (cap := dc) (InRow.rdb (A := D) (els := ((l.map En.i)).map (fun v : Int => [Value.int .i64 v])) (by first | rfl | assumption | (simp; done) | (simp_all; done) | (simp; omega) | (simp_all; omega)) (map_cat (c := (fun v : Int => [Value.int .i64 v])) (fun _ => rfl) _)) (by omega) (by omega)) (map_one (c := (fun v : Int => [Value.int .i64 v])) (by intro x; simp [Value.oneCell']) _) (by omega) rfl fun A73 cap73 => ⟨_, inferInstance, ?_⟩)
            refine g_rowels (A := A73) ((((((l.map En.i).take at9) ++ [(es[i]).i]) ++ ((l.map En.i).drop at9))).map (fun v : Int => [Value.int .i64 v])) (by first | rfl | exact List.map_append.symm | (simp; done)) ?_
            refine g_rowels (A := A73) (((l.take at9 ++ es[i] :: l.drop at9).map En.i).map (fun v : Int => [Value.int .i64 v])) (by simp) ?_
            refine g_rown (A := A73) ((l.take at9 ++ es[i] :: l.drop at9).map En.i).length (by simp; omega) ?_
            refine g_val 73 (v' := .slice A73 ((l.take at9 ++ es[i] :: l.drop at9).map En.i).length cap73) rfl (by simp; omega) ?_
            refine d_q 18 rfl (by kernel_rfl) (q_assign rfl) wok_sub rfl (ls' := #[true, true, true, true, true, true, true, true, true, true, true, true, true, true, true, true, true, true, true]) rfl ?_
            refine d_end (by kernel_rfl) (.inr wok_sub) ?_
            refine g_blk_n ?_
            refine g_then ?_
            refine g_region ?_
            refine s_q (q_move rfl) rfl ?_
            refine s_q (q_inc rfl rfl (by omega)) rfl ?_
            refine s_q (q_assign rfl) rfl ?_
            refine g_nil ?_
            exact g_again ((i + 1), A55, cap55, A73, cap73, (l.take at9 ++ es[i] :: l.drop at9)) (by (try dsimp only); exact ⟨(by omega), hone.1, hone.2, (by simp; omega)⟩) (by dsimp only; omega) (by repeat (first | exact trivial | refine ⟨rfl, ?_⟩)) wok_sub
      · refine g_blkc (b := b50) ((([(es[i]).e] : List Int).map (fun v : Int => [Value.int .i64 v])).flatten) rfl ?_
        refine d_op 0 rfl (by kernel_rfl) (ls' := #[true, true, true, true, false, true, true, true, true, true, true, true, true, false, true, true, true, false, false]) rfl wok_sub (g_lit rfl rfl rfl rfl rfl fun b38 => ?_)
        refine g_norow (t := 38) (T := 3) (k := 1) rfl fun A38 cap38 hc38 => ?_
        refine g_rowels (A := A38) (([] : List Int).map (fun v : Int => [Value.int .i64 v])) rfl ?_
        refine d_op 4 rfl (by kernel_rfl) (ls' := #[true, true, true, true, true, true, true, true, true, true, true, true, true, false, true, true, true, false, false]) rfl wok_sub (g_append (A := A38) (els := (([] : List Int)).map (fun v : Int => [Value.int .i64 v])) (news := ((((l.map En.e).take at9)).map (fun v : Int => [Value.int .i64 v]))) rfl rfl (by rw [List.map_take]; exact Rdb.h (cap := bc) (InRow.rdb (A := B) (els := ((l.map En.e)).map (fun v : Int => [Value.int .i64 v])) (by first | rfl | assumption | (simp; done) | (simp_all; done) | (simp; omega) | (simp_all; omega)) (map_cat (c := (fun v : Int => [Value.int .i64 v])) (fun _ => rfl) _)) (by omega) (by omega)) (map_one (c := (fun v : Int => [Value.int .i64 v])) (by intro x; simp [Value.oneCell']) _) (by omega) rfl fun A42 cap42 => ⟨_, inferInstance, ?_⟩)
        refine g_rowels (A := A42) ((((l.map En.e).take at9)).map (fun v : Int => [Value.int .i64 v])) (by first | rfl | exact List.map_append.symm | (simp; done)) ?_
        refine g_rown (A := A42) (at9) (by simp) ?_
        refine g_val 42 (v' := .slice A42 (at9) cap42) rfl (by simp) ?_
        refine d_op 13 rfl (by kernel_rfl) (ls' := #[true, true, true, true, true, true, true, true, true, true, true, true, true, true, true, true, true, false, false]) rfl wok_sub (g_append (A := A42) (els := (((l.map En.e).take at9)).map (fun v : Int => [Value.int .i64 v])) (news := (([(es[i]).e] : List Int).map (fun v : Int => [Value.int .i64 v]))) rfl rfl (InL.rdb (b := b50) rfl (by simp) rfl) (map_one (c := (fun v : Int => [Value.int .i64 v])) (by intro x; simp [Value.oneCell']) _) (by omega) rfl fun A51 cap51 => ⟨_, inferInstance, ?_⟩)
        refine g_rowels (A := A51) (((((l.map En.e).take at9) ++ [(es[i]).e])).map (fun v : Int => [Value.int .i64 v])) (by first | rfl | exact List.map_append.symm | (simp; done)) ?_
        refine d_op 17 rfl (by kernel_rfl) (ls' := #[true, true, true, true, true, true, true, true, true, true, true, true, true, true, true, true, true, true, false]) rfl wok_sub (g_append (A := A51) (els := ((((l.map En.e).take at9) ++ [(es[i]).e])).map (fun v : Int => [Value.int .i64 v])) (news := ((((l.map En.e).drop at9)).map (fun v : Int => [Value.int .i64 v]))) rfl rfl (by rw [List.map_drop]; exact Rdb.l (cap := bc) (InRow.rdb (A := B) (els := ((l.map En.e)).map (fun v : Int => [Value.int .i64 v])) (by first | rfl | assumption | (simp; done) | (simp_all; done) | (simp; omega) | (simp_all; omega)) (map_cat (c := (fun v : Int => [Value.int .i64 v])) (fun _ => rfl) _)) (by omega) (by omega)) (map_one (c := (fun v : Int => [Value.int .i64 v])) (by intro x; simp [Value.oneCell']) _) (by omega) rfl fun A55 cap55 => ⟨_, inferInstance, ?_⟩)
        refine g_rowels (A := A55) ((((((l.map En.e).take at9) ++ [(es[i]).e]) ++ ((l.map En.e).drop at9))).map (fun v : Int => [Value.int .i64 v])) (by first | rfl | exact List.map_append.symm | (simp; done)) ?_
        refine g_rowels (A := A55) (((l.take at9 ++ es[i] :: l.drop at9).map En.e).map (fun v : Int => [Value.int .i64 v])) (by simp) ?_
        refine g_rown (A := A55) ((l.take at9 ++ es[i] :: l.drop at9).map En.e).length (by simp; omega) ?_
        refine g_val 55 (v' := .slice A55 ((l.take at9 ++ es[i] :: l.drop at9).map En.e).length cap55) rfl (by simp; omega) ?_
        refine d_q 18 rfl (by kernel_rfl) (q_assign rfl) wok_sub rfl (ls' := #[true, true, true, true, true, true, true, true, true, true, true, true, true, true, true, true, true, true, true]) rfl ?_
        refine d_end (by kernel_rfl) (.inr wok_sub) ?_
        refine g_then ?_
        refine d_regionL (L0 := [Res.blk wb 29 [Value.slice A0 (es.map En.e).length c0, Value.slice A1 (es.map En.i).length c1], Res.row A0 (es.map En.e).length c0 3 1 ((es.map En.e).map (fun v : Int => [Value.int .i64 v])), Res.row A1 (es.map En.i).length c1 3 1 ((es.map En.i).map (fun v : Int => [Value.int .i64 v])), Res.row A55 ((l.take at9 ++ es[i] :: l.drop at9).map En.e).length cap55 3 1 (((l.take at9 ++ es[i] :: l.drop at9).map En.e).map (fun v : Int => [Value.int .i64 v])), Res.row D (l.map En.i).length dc 3 1 ((l.map En.i).map (fun v : Int => [Value.int .i64 v]))]) [] mixed rfl rfl wok_sub ?_
        refine d_q 1 rfl (by kernel_rfl) (q_move rfl) wok_sub rfl (ls' := #[false, true, false, false, false, false, false, false, false, false, false, false, false, false, false, false, false, false, false]) rfl ?_
        refine d_q 2 rfl (by kernel_rfl) (q_move rfl) wok_sub rfl (ls' := #[false, true, true, false, false, false, false, false, false, false, false, false, false, false, false, false, false, false, false]) rfl ?_
        refine d_q 3 rfl (by kernel_rfl) (q_slice_h (h := at9) rfl rfl rfl (by omega)) wok_sub rfl (ls' := #[false, true, true, true, false, false, false, false, false, false, false, false, false, false, false, false, false, false, false]) rfl ?_
        refine d_q 5 rfl (by kernel_rfl) (q_move rfl) wok_sub rfl (ls' := #[false, true, true, true, false, true, false, false, false, false, false, false, false, false, false, false, false, false, false]) rfl ?_
        refine d_q 6 rfl (by kernel_rfl) (q_nilck rfl) wok_sub rfl (ls' := #[false, true, true, true, false, true, true, false, false, false, false, false, false, false, false, false, false, false, false]) rfl ?_
        refine d_q 7 rfl (by kernel_rfl) (q_field rfl) wok_sub rfl (ls' := #[false, true, true, true, false, true, true, true, false, false, false, false, false, false, false, false, false, false, false]) rfl ?_
        refine d_q 8 rfl (by kernel_rfl) (q_load rfl rfl) wok_sub rfl (ls' := #[false, true, true, true, false, true, true, true, true, false, false, false, false, false, false, false, false, false, false]) rfl ?_
        refine d_q 9 rfl (by kernel_rfl) (q_move rfl) wok_sub rfl (ls' := #[false, true, true, true, false, true, true, true, true, true, false, false, false, false, false, false, false, false, false]) rfl ?_
        refine d_q 10 rfl (by kernel_rfl) (q_index (i := i) rfl rfl rfl (InRow.rdb (A := A1) (els := ((es.map En.i)).map (fun v : Int => [Value.int .i64 v])) (by first | rfl | assumption | (simp; done) | (simp_all; done) | (simp; omega) | (simp_all; omega)) (map_cat (c := (fun v : Int => [Value.int .i64 v])) (fun _ => rfl) _)) (by first | omega | (simp; done) | (simp; omega))) wok_sub rfl (ls' := #[false, true, true, true, false, true, true, true, true, true, true, false, false, false, false, false, false, false, false]) rfl ?_
        refine d_q 11 rfl (by kernel_rfl) (q_load_el (i := i) (o := 0) rfl (InRow.rdb (A := A1) (els := ((es.map En.i)).map (fun v : Int => [Value.int .i64 v])) (by first | rfl | assumption | (simp; done) | (simp_all; done) | (simp; omega) | (simp_all; omega)) (map_cat (c := (fun v : Int => [Value.int .i64 v])) (fun _ => rfl) _)) (en_get_i (by first | assumption | omega)) rfl rfl) wok_sub rfl (ls' := #[false, true, true, true, false, true, true, true, true, true, true, true, false, false, false, false, false, false, false]) rfl ?_
        refine d_q 14 rfl (by kernel_rfl) (q_move rfl) wok_sub rfl (ls' := #[false, true, true, true, false, true, true, true, true, true, true, true, false, false, true, false, false, false, false]) rfl ?_
        refine d_q 15 rfl (by kernel_rfl) (q_move rfl) wok_sub rfl (ls' := #[false, true, true, true, false, true, true, true, true, true, true, true, false, false, true, true, false, false, false]) rfl ?_
        refine d_q 16 rfl (by kernel_rfl) (q_slice_l (l := at9) rfl rfl rfl (by omega)) wok_sub rfl (ls' := #[false, true, true, true, false, true, true, true, true, true, true, true, false, false, true, true, true, false, false]) rfl ?_
        refine d_many [0, 12] (by kernel_rfl) (by simp) wok_sub ⟨d_pick rfl (ls' := #[true, true, true, true, false, true, true, true, true, true, true, true, false, false, true, true, true, false, false]) rfl (g_lit rfl rfl rfl rfl rfl fun b56 => ?_), d_pick rfl (ls' := #[false, true, true, true, false, true, true, true, true, true, true, true, true, false, true, true, true, false, false]) rfl (g_lit rfl rfl rfl rfl rfl fun b68 => ?_), trivial⟩
        · refine g_norow (t := 56) (T := 3) (k := 1) rfl fun A56 cap56 hc56 => ?_
          refine g_rowels (A := A56) (([] : List Int).map (fun v : Int => [Value.int .i64 v])) rfl ?_
          refine d_many [4, 12] (by kernel_rfl) (by simp) wok_sub ⟨d_pick rfl (ls' := #[true, true, true, true, true, true, true, true, true, true, true, true, false, false, true, true, true, false, false]) rfl (g_append (A := A56) (els := (([] : List Int)).map (fun v : Int => [Value.int .i64 v])) (news := ((((l.map En.i).take at9)).map (fun v : Int => [Value.int .i64 v]))) rfl rfl (by rw [List.map_take]; exact Rdb.h (cap := dc) (InRow.rdb (A := D) (els := ((l.map En.i)).map (fun v : Int => [Value.int .i64 v])) (by first | rfl | assumption | (simp; done) | (simp_all; done) | (simp; omega) | (simp_all; omega)) (map_cat (c := (fun v : Int => [Value.int .i64 v])) (fun _ => rfl) _)) (by omega) (by omega)) (map_one (c := (fun v : Int => [Value.int .i64 v])) (by intro x; simp [Value.oneCell']) _) (by omega) rfl fun A60 cap60 => ⟨_, inferInstance, ?_⟩), d_pick rfl (ls' := #[true, true, true, true, false, true, true, true, true, true, true, true, true, false, true, true, true, false, false]) rfl (g_lit rfl rfl rfl rfl rfl fun b68 => ?_), trivial⟩
          · refine g_rowels (A := A60) ((((l.map En.i).take at9)).map (fun v : Int => [Value.int .i64 v])) (by first | rfl | exact List.map_append.symm | (simp; done)) ?_
            refine g_rown (A := A60) (at9) (by simp) ?_
            refine g_val 60 (v' := .slice A60 (at9) cap60) rfl (by simp) ?_
            refine d_op 12 rfl (by kernel_rfl) (ls' := #[true, true, true, true, true, true, true, true, true, true, true, true, true, false, true, true, true, false, false]) rfl wok_sub (g_lit rfl rfl rfl rfl rfl fun b68 => ?_)
            refine g_blkc (b := b68) ((([(es[i]).i] : List Int).map (fun v : Int => [Value.int .i64 v])).flatten) rfl ?_
            refine d_op 13 rfl (by kernel_rfl) (ls' := #[true, true, true, true, true, true, true, true, true, true, true, true, true, true, true, true, true, false, false]) rfl wok_sub (g_append (A := A60) (els := (((l.map En.i).take at9)).map (fun v : Int => [Value.int .i64 v])) (news := (([(es[i]).i] : List Int).map (fun v : Int => [Value.int .i64 v]))) rfl rfl (InL.rdb (b := b68) rfl (by simp) rfl) (map_one (c := (fun v : Int => [Value.int .i64 v])) (by intro x; simp [Value.oneCell']) _) (by omega) rfl fun A69 cap69 => ⟨_, inferInstance, ?_⟩)
            refine g_rowels (A := A69) (((((l.map En.i).take at9) ++ [(es[i]).i])).map (fun v : Int => [Value.int .i64 v])) (by first | rfl | exact List.map_append.symm | (simp; done)) ?_
            refine d_op 17 rfl (by kernel_rfl) (ls' := #[true, true, true, true, true, true, true, true, true, true, true, true, true, true, true, true, true, true, false]) rfl wok_sub (g_append (A := A69) (els := ((((l.map En.i).take at9) ++ [(es[i]).i])).map (fun v : Int => [Value.int .i64 v])) (news := ((((l.map En.i).drop at9)).map (fun v : Int => [Value.int .i64 v]))) rfl rfl (by rw [List.map_drop]; exact Rdb.l (cap := dc) (InRow.rdb (A := D) (els := ((l.map En.i)).map (fun v : Int => [Value.int .i64 v])) (by first | rfl | assumption | (simp; done) | (simp_all; done) | (simp; omega) | (simp_all; omega)) (map_cat (c := (fun v : Int => [Value.int .i64 v])) (fun _ => rfl) _)) (by omega) (by omega)) (map_one (c := (fun v : Int => [Value.int .i64 v])) (by intro x; simp [Value.oneCell']) _) (by omega) rfl fun A73 cap73 => ⟨_, inferInstance, ?_⟩)
            refine g_rowels (A := A73) ((((((l.map En.i).take at9) ++ [(es[i]).i]) ++ ((l.map En.i).drop at9))).map (fun v : Int => [Value.int .i64 v])) (by first | rfl | exact List.map_append.symm | (simp; done)) ?_
            refine g_rowels (A := A73) (((l.take at9 ++ es[i] :: l.drop at9).map En.i).map (fun v : Int => [Value.int .i64 v])) (by simp) ?_
            refine g_rown (A := A73) ((l.take at9 ++ es[i] :: l.drop at9).map En.i).length (by simp; omega) ?_
            refine g_val 73 (v' := .slice A73 ((l.take at9 ++ es[i] :: l.drop at9).map En.i).length cap73) rfl (by simp; omega) ?_
            refine d_q 18 rfl (by kernel_rfl) (q_assign rfl) wok_sub rfl (ls' := #[true, true, true, true, true, true, true, true, true, true, true, true, true, true, true, true, true, true, true]) rfl ?_
            refine d_end (by kernel_rfl) (.inr wok_sub) ?_
            refine g_blk_n ?_
            refine g_then ?_
            refine g_region ?_
            refine s_q (q_move rfl) rfl ?_
            refine s_q (q_inc rfl rfl (by omega)) rfl ?_
            refine s_q (q_assign rfl) rfl ?_
            refine g_nil ?_
            exact g_again ((i + 1), A55, cap55, A73, cap73, (l.take at9 ++ es[i] :: l.drop at9)) (by (try dsimp only); exact ⟨(by omega), hone.1, hone.2, (by simp; omega)⟩) (by dsimp only; omega) (by repeat (first | exact trivial | refine ⟨rfl, ?_⟩)) wok_sub
          · refine g_blkc (b := b68) ((([(es[i]).i] : List Int).map (fun v : Int => [Value.int .i64 v])).flatten) rfl ?_
            refine d_op 4 rfl (by kernel_rfl) (ls' := #[true, true, true, true, true, true, true, true, true, true, true, true, true, false, true, true, true, false, false]) rfl wok_sub (g_append (A := A56) (els := (([] : List Int)).map (fun v : Int => [Value.int .i64 v])) (news := ((((l.map En.i).take at9)).map (fun v : Int => [Value.int .i64 v]))) rfl rfl (by rw [List.map_take]; exact Rdb.h (cap := dc) (InRow.rdb (A := D) (els := ((l.map En.i)).map (fun v : Int => [Value.int .i64 v])) (by first | rfl | assumption | (simp; done) | (simp_all; done) | (simp; omega) | (simp_all; omega)) (map_cat (c := (fun v : Int => [Value.int .i64 v])) (fun _ => rfl) _)) (by omega) (by omega)) (map_one (c := (fun v : Int => [Value.int .i64 v])) (by intro x; simp [Value.oneCell']) _) (by omega) rfl fun A60 cap60 => ⟨_, inferInstance, ?_⟩)
            refine g_rowels (A := A60) ((((l.map En.i).take at9)).map (fun v : Int => [Value.int .i64 v])) (by first | rfl | exact List.map_append.symm | (simp; done)) ?_
            refine g_rown (A := A60) (at9) (by simp) ?_
            refine g_val 60 (v' := .slice A60 (at9) cap60) rfl (by simp) ?_
            refine d_op 13 rfl (by kernel_rfl) (ls' := #[true, true, true, true, true, true, true, true, true, true, true, true, true, true, true, true, true, false, false]) rfl wok_sub (g_append (A := A60) (els := (((l.map En.i).take at9)).map (fun v : Int => [Value.int .i64 v])) (news := (([(es[i]).i] : List Int).map (fun v : Int => [Value.int .i64 v]))) rfl rfl (InL.rdb (b := b68) rfl (by simp) rfl) (map_one (c := (fun v : Int => [Value.int .i64 v])) (by intro x; simp [Value.oneCell']) _) (by omega) rfl fun A69 cap69 => ⟨_, inferInstance, ?_⟩)
            refine g_rowels (A := A69) (((((l.map En.i).take at9) ++ [(es[i]).i])).map (fun v : Int => [Value.int .i64 v])) (by first | rfl | exact List.map_append.symm | (simp; done)) ?_
            refine d_op 17 rfl (by kernel_rfl) (ls' := #[true, true, true, true, true, true, true, true, true, true, true, true, true, true, true, true, true, true, false]) rfl wok_sub (g_append (A := A69) (els := ((((l.map En.i).take at9) ++ [(es[i]).i])).map (fun v : Int => [Value.int .i64 v])) (news := ((((l.map En.i).drop at9)).map (fun v : Int => [Value.int .i64 v]))) rfl rfl (by rw [List.map_drop]; exact Rdb.l (cap := dc) (InRow.rdb (A := D) (els := ((l.map En.i)).map (fun v : Int => [Value.int .i64 v])) (by first | rfl | assumption | (simp; done) | (simp_all; done) | (simp; omega) | (simp_all; omega)) (map_cat (c := (fun v : Int => [Value.int .i64 v])) (fun _ => rfl) _)) (by omega) (by omega)) (map_one (c := (fun v : Int => [Value.int .i64 v])) (by intro x; simp [Value.oneCell']) _) (by omega) rfl fun A73 cap73 => ⟨_, inferInstance, ?_⟩)
            refine g_rowels (A := A73) ((((((l.map En.i).take at9) ++ [(es[i]).i]) ++ ((l.map En.i).drop at9))).map (fun v : Int => [Value.int .i64 v])) (by first | rfl | exact List.map_append.symm | (simp; done)) ?_
            refine g_rowels (A := A73) (((l.take at9 ++ es[i] :: l.drop at9).map En.i).map (fun v : Int => [Value.int .i64 v])) (by simp) ?_
            refine g_rown (A := A73) ((l.take at9 ++ es[i] :: l.drop at9).map En.i).length (by simp; omega) ?_
            refine g_val 73 (v' := .slice A73 ((l.take at9 ++ es[i] :: l.drop at9).map En.i).length cap73) rfl (by simp; omega) ?_
            refine d_q 18 rfl (by kernel_rfl) (q_assign rfl) wok_sub rfl (ls' := #[true, true, true, true, true, true, true, true, true, true, true, true, true, true, true, true, true, true, true]) rfl ?_
            refine d_end (by kernel_rfl) (.inr wok_sub) ?_
            refine g_blk_n ?_
            refine g_then ?_
            refine g_region ?_
            refine s_q (q_move rfl) rfl ?_
            refine s_q (q_inc rfl rfl (by omega)) rfl ?_
            refine s_q (q_assign rfl) rfl ?_
            refine g_nil ?_
            exact g_again ((i + 1), A55, cap55, A73, cap73, (l.take at9 ++ es[i] :: l.drop at9)) (by (try dsimp only); exact ⟨(by omega), hone.1, hone.2, (by simp; omega)⟩) (by dsimp only; omega) (by repeat (first | exact trivial | refine ⟨rfl, ?_⟩)) wok_sub
        · refine g_blkc (b := b68) ((([(es[i]).i] : List Int).map (fun v : Int => [Value.int .i64 v])).flatten) rfl ?_
          refine d_op 0 rfl (by kernel_rfl) (ls' := #[true, true, true, true, false, true, true, true, true, true, true, true, true, false, true, true, true, false, false]) rfl wok_sub (g_lit rfl rfl rfl rfl rfl fun b56 => ?_)
          refine g_norow (t := 56) (T := 3) (k := 1) rfl fun A56 cap56 hc56 => ?_
          refine g_rowels (A := A56) (([] : List Int).map (fun v : Int => [Value.int .i64 v])) rfl ?_
          refine d_op 4 rfl (by kernel_rfl) (ls' := #[true, true, true, true, true, true, true, true, true, true, true, true, true, false, true, true, true, false, false]) rfl wok_sub (g_append (A := A56) (els := (([] : List Int)).map (fun v : Int => [Value.int .i64 v])) (news := ((((l.map En.i).take at9)).map (fun v : Int => [Value.int .i64 v]))) rfl rfl (by rw [List.map_take]; exact Rdb.h (cap := dc) (InRow.rdb (A := D) (els := ((l.map En.i)).map (fun v : Int => [Value.int .i64 v])) (by first | rfl | assumption | (simp; done) | (simp_all; done) | (simp; omega) | (simp_all; omega)) (map_cat (c := (fun v : Int => [Value.int .i64 v])) (fun _ => rfl) _)) (by omega) (by omega)) (map_one (c := (fun v : Int => [Value.int .i64 v])) (by intro x; simp [Value.oneCell']) _) (by omega) rfl fun A60 cap60 => ⟨_, inferInstance, ?_⟩)
          refine g_rowels (A := A60) ((((l.map En.i).take at9)).map (fun v : Int => [Value.int .i64 v])) (by first | rfl | exact List.map_append.symm | (simp; done)) ?_
          refine g_rown (A := A60) (at9) (by simp) ?_
          refine g_val 60 (v' := .slice A60 (at9) cap60) rfl (by simp) ?_
          refine d_op 13 rfl (by kernel_rfl) (ls' := #[true, true, true, true, true, true, true, true, true, true, true, true, true, true, true, true, true, false, false]) rfl wok_sub (g_append (A := A60) (els := (((l.map En.i).take at9)).map (fun v : Int => [Value.int .i64 v])) (news := (([(es[i]).i] : List Int).map (fun v : Int => [Value.int .i64 v]))) rfl rfl (InL.rdb (b := b68) rfl (by simp) rfl) (map_one (c := (fun v : Int => [Value.int .i64 v])) (by intro x; simp [Value.oneCell']) _) (by omega) rfl fun A69 cap69 => ⟨_, inferInstance, ?_⟩)
          refine g_rowels (A := A69) (((((l.map En.i).take at9) ++ [(es[i]).i])).map (fun v : Int => [Value.int .i64 v])) (by first | rfl | exact List.map_append.symm | (simp; done)) ?_
          refine d_op 17 rfl (by kernel_rfl) (ls' := #[true, true, true, true, true, true, true, true, true, true, true, true, true, true, true, true, true, true, false]) rfl wok_sub (g_append (A := A69) (els := ((((l.map En.i).take at9) ++ [(es[i]).i])).map (fun v : Int => [Value.int .i64 v])) (news := ((((l.map En.i).drop at9)).map (fun v : Int => [Value.int .i64 v]))) rfl rfl (by rw [List.map_drop]; exact Rdb.l (cap := dc) (InRow.rdb (A := D) (els := ((l.map En.i)).map (fun v : Int => [Value.int .i64 v])) (by first | rfl | assumption | (simp; done) | (simp_all; done) | (simp; omega) | (simp_all; omega)) (map_cat (c := (fun v : Int => [Value.int .i64 v])) (fun _ => rfl) _)) (by omega) (by omega)) (map_one (c := (fun v : Int => [Value.int .i64 v])) (by intro x; simp [Value.oneCell']) _) (by omega) rfl fun A73 cap73 => ⟨_, inferInstance, ?_⟩)
          refine g_rowels (A := A73) ((((((l.map En.i).take at9) ++ [(es[i]).i]) ++ ((l.map En.i).drop at9))).map (fun v : Int => [Value.int .i64 v])) (by first | rfl | exact List.map_append.symm | (simp; done)) ?_
          refine g_rowels (A := A73) (((l.take at9 ++ es[i] :: l.drop at9).map En.i).map (fun v : Int => [Value.int .i64 v])) (by simp) ?_
          refine g_rown (A := A73) ((l.take at9 ++ es[i] :: l.drop at9).map En.i).length (by simp; omega) ?_
          refine g_val 73 (v' := .slice A73 ((l.take at9 ++ es[i] :: l.drop at9).map En.i).length cap73) rfl (by simp; omega) ?_
          refine d_q 18 rfl (by kernel_rfl) (q_assign rfl) wok_sub rfl (ls' := #[true, true, true, true, true, true, true, true, true, true, true, true, true, true, true, true, true, true, true]) rfl ?_
          refine d_end (by kernel_rfl) (.inr wok_sub) ?_
          refine g_blk_n ?_
          refine g_then ?_
          refine g_region ?_
          refine s_q (q_move rfl) rfl ?_
          refine s_q (q_inc rfl rfl (by omega)) rfl ?_
          refine s_q (q_assign rfl) rfl ?_
          refine g_nil ?_
          exact g_again ((i + 1), A55, cap55, A73, cap73, (l.take at9 ++ es[i] :: l.drop at9)) (by (try dsimp only); exact ⟨(by omega), hone.1, hone.2, (by simp; omega)⟩) (by dsimp only; omega) (by repeat (first | exact trivial | refine ⟨rfl, ?_⟩)) wok_sub
  · have hi2 : i = es.length := by have h9 := of_decide_eq_false h1; simp at h9; omega
    rw [hi2, List.take_length] at he
    refine g_exit ?_
    refine g_then_x (g_then_x (g_blk_hit ?_))
    refine g_then ?_
    refine g_seq ?_
    refine g_region ?_
    refine s_q (q_move rfl) rfl ?_
    refine s_q (q_move rfl) rfl ?_
    refine s_q (q_assign rfl) rfl ?_
    refine s_q (q_assign rfl) rfl ?_
    refine g_nil ?_
    refine g_then ?_
    refine g_ret ?_
    exact fin2 rfl (.tmp rfl) (.tmp rfl) (fun w' hw' => ⟨(B, bc, D, dc, l), (by first | exact ⟨hs, he, by omega⟩ | (dsimp only; exact ⟨hs, he, by omega⟩)), rfl, by have h9 := wok_sub (L' := [Res.row ((B, bc, D, dc, l)).1 (((B, bc, D, dc, l)).2.2.2.2.map En.e).length ((B, bc, D, dc, l)).2.1 3 1 ((((B, bc, D, dc, l)).2.2.2.2.map En.e).map (fun v : Int => [Value.int .i64 v])), Res.row ((B, bc, D, dc, l)).2.2.1 (((B, bc, D, dc, l)).2.2.2.2.map En.i).length ((B, bc, D, dc, l)).2.2.2.1 3 1 ((((B, bc, D, dc, l)).2.2.2.2.map En.i).map (fun v : Int => [Value.int .i64 v])), Res.blk wb 29 [Value.slice A0 (es.map En.e).length c0, Value.slice A1 (es.map En.i).length c1], Res.row A0 (es.map En.e).length c0 3 1 ((es.map En.e).map (fun v : Int => [Value.int .i64 v])), Res.row A1 (es.map En.i).length c1 3 1 ((es.map En.i).map (fun v : Int => [Value.int .i64 v]))]) w' hw'; exact h9⟩) _ (.inl rfl)
end Go.Proofs.Ytgbghjnlicldnaa
