/- walks of the sums over validators -/
import Derived.Test.YtljdhdlemakcaaaW7
namespace Go.Proofs.Ytljdhdlemakcaaa
open Go.RowKit Go.Eg
set_option synthInstance.maxSize 3000
set_option linter.unusedSimpArgs false
set_option linter.unusedVariables false
set_option maxHeartbeats 400000 in
theorem balances_any (A : Option Addr) (n cap : Nat) (l : List V) (w : World) (hl : Rd w [] A n 7 (l.map V.c)) (hb : n ≤ 1000000) : Own2 (ι := (Option Addr × Nat)) Try.prog 31 [.slice A n cap] w [] (fun x => True) (fun x => .slice x.1 l.length x.2) (fun x => [Res.row x.1 l.length x.2 22 1 ((l.map V.bal).map (fun v : Int => [Value.int .u64 v]))]) (fun x => []) := by
  refine g_start Try.func31 rfl 20 rfl (by simp) (fps []) [] (WOK.start _ _) _ rfl ?_
  have hn : n = l.length := by have := hl.old.len; simpa using this
  refine g_seq ?_
  refine g_region ?_
  refine s_q (q_assign rfl) rfl ?_
  refine g_nil ?_
  refine g_then ?_
  refine g_seq ?_
  refine g_region ?_
  refine s_q (q_assign rfl) rfl ?_
  refine g_nilrow 3 22 1 rfl fun Az1 capz1 hcz1 => ?_
  refine g_rowels (A := Az1) (([] : List Int).map (fun v : Int => [Value.int .u64 v])) rfl ?_
  refine g_nil ?_
  refine g_then ?_
  refine g_seq ?_
  refine g_seq ?_
  refine g_region ?_
  refine s_q (q_assign rfl) rfl ?_
  refine g_nil ?_
  refine g_then ?_
  refine g_block ?_
  refine g_rowels (A := Az1) (((l.take 0).map V.bal).map (fun v : Int => [Value.int .u64 v])) (by simp) ?_
  refine g_loopk [0, 2] (fun (x : Nat × Option Addr × Nat) => [(3, .slice x.2.1 x.1 x.2.2), (4, .int .i64 ((x.1 : Nat) : Int))]) (fun (x : Nat × Option Addr × Nat) => [Res.row x.2.1 x.1 x.2.2 22 1 (((l.take x.1).map V.bal).map (fun v : Int => [Value.int .u64 v]))]) (fun (x : Nat × Option Addr × Nat) => x.1 ≤ l.length) (fun (x : Nat × Option Addr × Nat) => l.length - x.1) (0, Az1, capz1) (by (try dsimp only); exact Nat.zero_le _) rfl (by repeat (first | exact trivial | refine ⟨rfl, ?_⟩)) wok_sub ?_
  rintro ⟨k, A1, cap1⟩ le_k
  replace le_k : k ≤ l.length := le_k
  refine g_setL (L' := [Res.row A1 k cap1 22 1 (((l.take k).map V.bal).map (fun v : Int => [Value.int .u64 v]))]) rfl ?_
  refine g_val 3 (v' := .slice A1 k cap1) rfl rfl ?_
  refine g_val 4 (v' := .int .i64 ((k : Nat) : Int)) rfl rfl ?_
  refine g_seq ?_
  refine g_seq ?_
  refine g_region ?_
  refine s_q (q_move rfl) rfl ?_
  refine s_q (q_move rfl) rfl ?_
  refine s_q (q_len rfl) rfl ?_
  refine s_q (q_lss rfl rfl) rfl ?_
  refine g_nil ?_
  refine g_then ?_
  refine g_cond rfl (fun h1 => ?_) (fun h1 => ?_)
  · have lt_k : k < l.length := by have h9 := of_decide_eq_true h1; omega
    refine g_skip ?_
    refine g_then ?_
    refine g_seq ?_
    refine g_block ?_
    refine g_region ?_
    refine s_q (q_move rfl) rfl ?_
    refine s_q (q_move rfl) rfl ?_
    refine s_q (q_move rfl) rfl ?_
    refine s_q (q_index (i := k) rfl rfl rfl hl.rdb (by first | exact lt_k | omega)) rfl ?_
    refine s_q (q_field rfl) rfl ?_
    refine s_q (q_load_el (i := k) (o := 0) rfl hl.rdb (map_get (by first | exact (by first | exact lt_k | omega) | omega | (simp_all; done) | (simp_all; omega))) rfl rfl) rfl ?_
    refine g_op (g_lit rfl rfl rfl rfl rfl fun b17 => ?_)
    refine g_blkc (b := b17) ((([(l[k]).bal] : List Int).map (fun v : Int => [Value.int .u64 v])).flatten) rfl ?_
    refine g_op (g_append (A := A1) (els := (((l.take k).map V.bal)).map (fun v : Int => [Value.int .u64 v])) (news := (([(l[k]).bal] : List Int).map (fun v : Int => [Value.int .u64 v]))) rfl rfl (InL.rdb (b := b17) rfl (by simp) rfl) (map_one (c := (fun v : Int => [Value.int .u64 v])) (by intro x; simp [Value.oneCell']) _) (by first | omega | (simp; omega) | (simp_all; omega)) rfl fun A18 cap18 => ⟨_, inferInstance, ?_⟩)
    refine g_rowels (A := A18) (((((l.take k).map V.bal) ++ [(l[k]).bal])).map (fun v : Int => [Value.int .u64 v])) (by first | rfl | exact List.map_append.symm | (simp; done)) ?_
    refine s_q (q_assign rfl) rfl ?_
    refine g_nil ?_
    refine g_blk_n ?_
    refine g_then ?_
    refine g_region ?_
    refine s_q (q_move rfl) rfl ?_
    refine s_q (q_inc rfl rfl (by omega)) rfl ?_
    refine s_q (q_assign rfl) rfl ?_
    refine g_nil ?_
    refine g_rowels (A := A18) (((l.take (k + 1)).map V.bal).map (fun v : Int => [Value.int .u64 v])) (by rw [← List.take_append_getElem lt_k]; simp only [List.map_append, List.map_cons, List.map_nil]) ?_
    exact g_again ((k + 1), A18, cap18) (by (try dsimp only); exact (by first | exact lt_k | omega)) (by first | omega | (simp only; omega)) (by repeat (first | exact trivial | refine ⟨rfl, ?_⟩)) wok_sub
  · have eq_k : k = l.length := by have h9 := of_decide_eq_false h1; omega
    subst eq_k
    refine g_exit ?_
    refine g_then_x (g_then_x (g_blk_hit ?_))
    refine g_then ?_
    refine g_seq ?_
    refine g_region ?_
    refine s_q (q_move rfl) rfl ?_
    refine s_q (q_assign rfl) rfl ?_
    refine g_nil ?_
    refine g_then ?_
    refine g_ret ?_
    refine g_rowels (A := A1) ((l.map V.bal).map (fun v : Int => [Value.int .u64 v])) (by simp) ?_
    exact fin1 rfl (.tmp rfl) (fun w' hw' => ⟨(A1, cap1), (by first | exact trivial | (dsimp only; exact trivial)), rfl, by have h9 := wok_sub (L' := [Res.row A1 l.length cap1 22 1 ((l.map V.bal).map (fun v : Int => [Value.int .u64 v]))]) w' hw'; exact h9⟩) _ (.inl rfl)

theorem okU_bal {l : List V} (h : okV l) : okU (l.map V.bal) := fun x hx => by
  obtain ⟨y, hy, rfl⟩ := List.mem_map.1 hx; exact h y hy
def live (x : V) : Bool := decide (x.st = 2 ∨ x.st = 3)
def actS : List V → Int
  | [] => 0
  | x :: l => (if live x then x.bal else 0) + actS l
theorem actS_app : ∀ (l m : List V), actS (l ++ m) = actS l + actS m
  | [], m => by simp [actS]
  | x :: l, m => by simp only [List.cons_append, actS, actS_app l m]; omega

set_option maxHeartbeats 400000 in
theorem fits_any (A : Option Addr) (n cap : Nat) (l : List V) (w : World) (hl : Rd w [] A n 7 (l.map V.c)) (hok : okV l) (hb : n ≤ 1000000) : Keep Try.prog 18 [.slice A n cap] w [] (.bool (addB (l.map V.bal))) := by
  refine g_start Try.func18 rfl 12 rfl (by simp) (fps []) [] (WOK.start _ _) _ rfl ?_
  have hn : n = l.length := by have := hl.old.len; simpa using this
  refine g_seq ?_
  refine g_region ?_
  refine s_q (q_assign rfl) rfl ?_
  refine g_nil ?_
  refine g_then ?_
  refine g_seq ?_
  refine g_region ?_
  refine s_q (q_move rfl) rfl ?_
  refine g_op (g_ownS [] rfl (fun w1 hw1 ho1 => by have h7 := balances_any A (n) (cap) (l) w1 (Rd.ofRd hw1 hl (by omega)) (by omega); exact h7) rfl ?_)
  rintro ⟨A7, cap7⟩ _
  refine ⟨_, _, inferInstance, inferInstance, ?_⟩
  refine g_op (g_pure rfl (fun w1 hw1 => radd_any A7 ((l).length) (cap7) (((l).map V.bal)) w1 (Rdb.toOld (InRow.rdb (A := A7) (els := (((l).map V.bal)).map (fun v : Int => [Value.int .u64 v])) (by first | rfl | assumption | (simp; done) | (simp_all; done) | (simp; omega) | (simp_all; omega)) (map_cat (c := (fun v : Int => [Value.int .u64 v])) (fun _ => rfl) _)) hw1) (okU_bal hok) (by first | omega | (simp; omega) | (simp; done))) rfl ?_)
  refine s_q (q_move rfl) rfl ?_
  refine s_q (q_extract rfl rfl) rfl ?_
  refine s_q (q_extract rfl rfl) rfl ?_
  refine s_q (q_assign rfl) rfl ?_
  refine s_q (q_assign rfl) rfl ?_
  refine g_nil ?_
  refine g_then ?_
  refine g_seq ?_
  refine g_region ?_
  refine s_q (q_move rfl) rfl ?_
  refine s_q (q_assign rfl) rfl ?_
  refine g_nil ?_
  refine g_then ?_
  refine g_ret ?_
  exact fin1 rfl (.tmp rfl) (fun w' hw' => ⟨(), trivial, by first | rfl | (simp_all; done), by have h9 := wok_sub (L' := []) w' hw'; exact h9⟩) _ (.inl rfl)

set_option maxHeartbeats 400000 in
theorem total_any (A : Option Addr) (n cap : Nat) (l : List V) (w : World) (hl : Rd w [] A n 7 (l.map V.c)) (hok : okV l) (hb : n ≤ 1000000) : Keep Try.prog 20 [.slice A n cap] w [] (.int .u64 (addV (l.map V.bal))) := by
  refine g_start Try.func20 rfl 12 rfl (by simp) (fps []) [] (WOK.start _ _) _ rfl ?_
  have hn : n = l.length := by have := hl.old.len; simpa using this
  refine g_seq ?_
  refine g_region ?_
  refine s_q (q_assign rfl) rfl ?_
  refine g_nil ?_
  refine g_then ?_
  refine g_seq ?_
  refine g_region ?_
  refine s_q (q_move rfl) rfl ?_
  refine g_op (g_ownS [] rfl (fun w1 hw1 ho1 => by have h7 := balances_any A (n) (cap) (l) w1 (Rd.ofRd hw1 hl (by omega)) (by omega); exact h7) rfl ?_)
  rintro ⟨A7, cap7⟩ _
  refine ⟨_, _, inferInstance, inferInstance, ?_⟩
  refine g_op (g_pure rfl (fun w1 hw1 => radd_any A7 ((l).length) (cap7) (((l).map V.bal)) w1 (Rdb.toOld (InRow.rdb (A := A7) (els := (((l).map V.bal)).map (fun v : Int => [Value.int .u64 v])) (by first | rfl | assumption | (simp; done) | (simp_all; done) | (simp; omega) | (simp_all; omega)) (map_cat (c := (fun v : Int => [Value.int .u64 v])) (fun _ => rfl) _)) hw1) (okU_bal hok) (by first | omega | (simp; omega) | (simp; done))) rfl ?_)
  refine s_q (q_move rfl) rfl ?_
  refine s_q (q_extract rfl rfl) rfl ?_
  refine s_q (q_extract rfl rfl) rfl ?_
  refine s_q (q_assign rfl) rfl ?_
  refine s_q (q_assign rfl) rfl ?_
  refine g_nil ?_
  refine g_then ?_
  refine g_seq ?_
  refine g_region ?_
  refine s_q (q_move rfl) rfl ?_
  refine s_q (q_assign rfl) rfl ?_
  refine g_nil ?_
  refine g_then ?_
  refine g_ret ?_
  exact fin1 rfl (.tmp rfl) (fun w' hw' => ⟨(), trivial, by first | rfl | (simp_all; done), by have h9 := wok_sub (L' := []) w' hw'; exact h9⟩) _ (.inl rfl)

set_option maxHeartbeats 400000 in
theorem live_any (s : Int) (w : World)  : Pur Try.prog 33 [.int .i64 s] w (.bool (decide (s = 2 ∨ s = 3))) := by
  refine g_start Try.func33 rfl 9 rfl (by simp) ([]) [] (WOK.start _ _) _ rfl ?_
  refine g_seq ?_
  refine g_region ?_
  refine s_q (q_assign rfl) rfl ?_
  refine g_nil ?_
  refine g_then ?_
  refine g_seq ?_
  refine g_region ?_
  refine s_q (q_move rfl) rfl ?_
  refine s_q (q_eql rfl rfl) rfl ?_
  refine s_q (q_move rfl) rfl ?_
  refine g_split 5 rfl (fun h1 => ?_) (fun h1 => ?_)
  · refine g_gf rfl rfl rfl rfl ?_
    refine g_gf rfl rfl rfl rfl ?_
    refine s_q (q_pick_t rfl rfl) rfl ?_
    refine s_q (q_assign rfl) rfl ?_
    refine g_nil ?_
    refine g_then ?_
    refine g_ret ?_
    exact fin1 rfl (.tmp rfl) (fun w' hw' => ⟨by first | rfl | (simp_all; done) | (simp_all; omega), hw'.upd⟩) _ (.inl rfl)
  · refine s_qg (q_move rfl) rfl rfl rfl ?_
    refine s_qg (q_eql rfl rfl) rfl rfl rfl ?_
    refine s_q (q_pick_f rfl rfl) rfl ?_
    refine s_q (q_assign rfl) rfl ?_
    refine g_nil ?_
    refine g_then ?_
    refine g_ret ?_
    exact fin1 rfl (.tmp rfl) (fun w' hw' => ⟨by first | rfl | (simp_all; done) | (simp_all; omega), hw'.upd⟩) _ (.inl rfl)

set_option maxHeartbeats 400000 in
theorem active_any (A : Option Addr) (n cap : Nat) (l : List V) (w : World) (hl : Old w A n 7 (l.map V.c)) (hb : n ≤ 1000000) : Pur Try.prog 21 [.slice A n cap] w (.int .u64 (IntKind.u64.wrap (actS l))) := by
  refine g_start Try.func21 rfl 25 rfl (by simp) ([]) [] (WOK.start _ _) _ rfl ?_
  have hn : n = l.length := by simpa using hl.len
  refine g_seq ?_
  refine g_region ?_
  refine s_q (q_assign rfl) rfl ?_
  refine g_nil ?_
  refine g_then ?_
  refine g_seq ?_
  refine g_region ?_
  refine s_q (q_assign rfl) rfl ?_
  refine g_nil ?_
  refine g_then ?_
  refine g_seq ?_
  refine g_seq ?_
  refine g_region ?_
  refine s_q (q_assign rfl) rfl ?_
  refine g_nil ?_
  refine g_then ?_
  refine g_block ?_
  refine g_loopk [0, 2] (fun (x : Nat) => [(3, .int .u64 (IntKind.u64.wrap (actS (l.take x)))), (4, .int .i64 ((x : Nat) : Int))]) (fun (x : Nat) => []) (fun (x : Nat) => x ≤ l.length) (fun (x : Nat) => l.length - x) 0 (by (try dsimp only); exact Nat.zero_le _) rfl (by repeat (first | exact trivial | refine ⟨rfl, ?_⟩)) wok_sub ?_
  rintro k le_k
  replace le_k : k ≤ l.length := le_k
  refine g_seq ?_
  refine g_seq ?_
  refine g_region ?_
  refine s_q (q_move rfl) rfl ?_
  refine s_q (q_move rfl) rfl ?_
  refine s_q (q_len rfl) rfl ?_
  refine s_q (q_lss rfl rfl) rfl ?_
  refine g_nil ?_
  refine g_then ?_
  refine g_cond rfl (fun h1 => ?_) (fun h1 => ?_)
  · have lt_k : k < l.length := by have h9 := of_decide_eq_true h1; omega
    refine g_skip ?_
    refine g_then ?_
    refine g_seq ?_
    refine g_block ?_
    refine g_seq ?_
    refine g_region ?_
    refine s_q (q_move rfl) rfl ?_
    refine s_q (q_move rfl) rfl ?_
    refine s_q (q_index (i := k) rfl rfl rfl (hl.rdb rfl) (by first | exact lt_k | omega)) rfl ?_
    refine s_q (q_field rfl) rfl ?_
    refine s_q (q_load_el (i := k) (o := 1) rfl (hl.rdb rfl) (map_get (by first | exact (by first | exact lt_k | omega) | omega | (simp_all; done) | (simp_all; omega))) rfl rfl) rfl ?_
    refine g_op (g_pure rfl (fun w1 hw1 => live_any _ w1) rfl ?_)
    refine g_nil ?_
    refine g_then ?_
    refine g_cond rfl (fun h2 => ?_) (fun h2 => ?_)
    · refine g_region ?_
      refine s_q (q_move rfl) rfl ?_
      refine s_q (q_move rfl) rfl ?_
      refine s_q (q_move rfl) rfl ?_
      refine s_q (q_index (i := k) rfl rfl rfl (hl.rdb rfl) (by first | exact lt_k | omega)) rfl ?_
      refine s_q (q_field rfl) rfl ?_
      refine s_q (q_load_el (i := k) (o := 0) rfl (hl.rdb rfl) (map_get (by first | exact (by first | exact lt_k | omega) | omega | (simp_all; done) | (simp_all; omega))) rfl rfl) rfl ?_
      refine s_q (q_add rfl rfl) rfl ?_
      refine s_q (q_assign rfl) rfl ?_
      refine g_nil ?_
      refine g_blk_n ?_
      refine g_then ?_
      refine g_region ?_
      refine s_q (q_move rfl) rfl ?_
      refine s_q (q_inc rfl rfl (by omega)) rfl ?_
      refine s_q (q_assign rfl) rfl ?_
      refine g_nil ?_
      have es : actS (l.take (k + 1)) = actS (l.take k) + (if live l[k] then (l[k]).bal else 0) := by rw [← List.take_append_getElem lt_k, actS_app]; simp [actS]
      refine g_val 3 (v' := .int .u64 (IntKind.u64.wrap (actS (l.take (k + 1))))) rfl (by rw [es]; first | (rw [if_pos (show live l[k] = true from h2)]; simp only [IntKind.wrap_u64]; congr 1; omega) | (rw [if_neg (by rw [show live l[k] = false from h2]; simp)]; simp)) ?_
      exact g_again (k + 1) (by (try dsimp only); exact (by first | exact lt_k | omega)) (by first | omega | (simp only; omega)) (by repeat (first | exact trivial | refine ⟨rfl, ?_⟩)) wok_sub
    · refine g_skip ?_
      refine g_blk_n ?_
      refine g_then ?_
      refine g_region ?_
      refine s_q (q_move rfl) rfl ?_
      refine s_q (q_inc rfl rfl (by omega)) rfl ?_
      refine s_q (q_assign rfl) rfl ?_
      refine g_nil ?_
      have es : actS (l.take (k + 1)) = actS (l.take k) + (if live l[k] then (l[k]).bal else 0) := by rw [← List.take_append_getElem lt_k, actS_app]; simp [actS]
      refine g_val 3 (v' := .int .u64 (IntKind.u64.wrap (actS (l.take (k + 1))))) rfl (by rw [es]; first | (rw [if_pos (show live l[k] = true from h2)]; simp only [IntKind.wrap_u64]; congr 1; omega) | (rw [if_neg (by rw [show live l[k] = false from h2]; simp)]; simp)) ?_
      exact g_again (k + 1) (by (try dsimp only); exact (by first | exact lt_k | omega)) (by first | omega | (simp only; omega)) (by repeat (first | exact trivial | refine ⟨rfl, ?_⟩)) wok_sub
  · have eq_k : k = l.length := by have h9 := of_decide_eq_false h1; omega
    refine g_exit ?_
    refine g_then_x (g_then_x (g_blk_hit ?_))
    refine g_then ?_
    refine g_seq ?_
    refine g_region ?_
    refine s_q (q_move rfl) rfl ?_
    refine s_q (q_assign rfl) rfl ?_
    refine g_nil ?_
    refine g_then ?_
    refine g_ret ?_
    exact fin1 rfl (.tmp rfl) (fun w' hw' => ⟨by rw [eq_k, List.take_length], hw'.upd⟩) _ (.inl rfl)
end Go.Proofs.Ytljdhdlemakcaaa
