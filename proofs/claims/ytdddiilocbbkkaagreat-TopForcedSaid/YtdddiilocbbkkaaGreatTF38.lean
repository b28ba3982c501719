/- TopForced: for every configuration and all operations the law returns true. No condition. Part 38 of 42. -/
import Derived.Test.YtdddiilocbbkkaaGreatTF37
set_option linter.unusedVariables false
set_option linter.unusedSimpArgs false
namespace Go.Proofs.YtdddiilocbbkkaaGreat
open Go.RowKit Go.Eg
set_option maxHeartbeats 4000000
set_option synthInstance.maxSize 3000
set_option maxRecDepth 100000
theorem wJ : ∀ (l : List Nat) (k : Nat), ((l.take k).map szO).sum ≤ 8 * l.length
 | [], _ => by simp
 | a :: l, 0 => by simp
 | a :: l, k + 1 => by
  have h1 := wJ l k
  have h2 := szO_le a
  simp only [List.take_succ_cons, List.map_cons, List.sum_cons, List.length_cons]; omega
theorem xR {l : List Nat} {k : Nat} (h : k < l.length) : ((l.take (k + 1)).map szO).sum = ((l.take k).map szO).sum + szO l[k] := by
 rw [← List.take_append_getElem h, List.map_append, List.sum_append, List.map_cons, List.map_nil, List.sum_cons, List.sum_nil, Nat.add_zero]
theorem szK_le (k : Int) : szK k ≤ 17 := by
 unfold szK
 have h1 := wJ (opsL k) (opsL k).length
 have h2 := opsL_len k
 rw [List.take_length] at h1
 split <;> omega
theorem size_any (k : Int) (w : World) (hk : -9223372036854775808 ≤ k ∧ k ≤ 9223372036854775807) : Pur Tryz.prog 252 [.int .i64 k] w (.int .i64 ((szK k : Nat) : Int)) := by
 refine g_st Tryz.func252 27 (WOK.start [] _) ?_
 refine rn [1,3,0,1,2] ?_
 refine g_op (zH [] rfl (fun w1 hw1 ho1 => by have h7 := operands_any (k) w1 hk; exact h7) rfl ?_)
 rintro ⟨A10, cap10⟩ _
 refine ii ?_
 refine rn [2,40,40,3,3,0,8,1,2,48,0] ?_
 refine zC rfl (fun h1 => ?_) (fun h1 => ?_)
 ·have hB : opsB k = false := by simpa using h1
  refine rn [1,3,0,11,13] ?_
  exact fin1 rfl (.tmp rfl) (fun w' hw' => ⟨by unfold szK; rw [hB]; rfl, hw'.upd⟩) _ (.inl rfl)
 ·have hB : opsB k = true := by simpa using h1
  refine rn [12,7,1,3,0,8,1,2,47,2,0,14] ?_
  refine g_val 5 (v' := .int .i64 (((1 + (((opsL k).take 0).map szO).sum) : Nat) : Int)) rfl (by rfl) ?_
  refine g_lk [2, 15, 16] (fun (x : Nat) => [(5, .int .i64 (((1 + (((opsL k).take x).map szO).sum) : Nat) : Int)), (17, .int .i64 ((x : Nat) : Int))]) (fun (x : Nat) => [Res.row A10 (opsL k).length cap10 324 3 ((opsL k).map OD.c)]) (fun (x : Nat) => x ≤ (opsL k).length) (fun (x : Nat) => (opsL k).length - x) 0 (by (try dsimp only); exact Nat.zero_le _) ?_
  rintro i le_i
  replace le_i : i ≤ (opsL k).length := le_i
  have hs9 := wJ (opsL k) i
  have ho9 := opsL_len k
  refine rn [1,46,0,8] ?_
  refine zC rfl (fun h2 => ?_) (fun h2 => ?_)
  ·have lt_i : i < (opsL k).length := by have h9 := of_decide_eq_true h2; omega
   refine rn [12,7,8,14,1] ?_
   refine s_q (zR (i := i) rfl rfl rfl (InRow.rdb (A := A10) (els := ((opsL k)).map OD.c) (by first | rfl | assumption | (simp; done) | (simp_all; done) | (simp; omega) | (simp_all; omega)) (zM (c := OD.c) (fun _ => rfl) _)) (by first | exact lt_i | omega)) rfl ?_
   refine s_q (zT (i := i) rfl (InRow.rdb (A := A10) (els := ((opsL k)).map OD.c) (by first | rfl | assumption | (simp; done) | (simp_all; done) | (simp; omega) | (simp_all; omega)) (zM (c := OD.c) (fun _ => rfl) _)) (zS (by first | assumption | omega | (simp_all; done) | (simp_all; omega))) rfl) rfl ?_
   refine g_op (zI rfl fun b7 => ?_)
   refine rn [33,0,10,2,4,5] ?_
   refine s_q (q_addn (a := (1 + (((opsL k).take i).map szO).sum)) (b := szO (opsL k)[i]) rfl rfl (by have h9 := szO_le (opsL k)[i]; omega)) rfl ?_
   refine rn [3,9,15,7,10,43,2,9] ?_
   refine g_val 5 (v' := .int .i64 (((1 + (((opsL k).take (i + 1)).map szO).sum) : Nat) : Int)) rfl (by rw [xR lt_i]; congr 1; omega) ?_
   exact g_ag (i + 1) (by (try dsimp only); exact (by first | exact lt_i | omega))
  ·have eq_i : i = (opsL k).length := by have h9 := of_decide_eq_false h2; omega
   refine rn [16] ?_
   refine zE (zE (zQ ?_))
   refine rn [7,1,2,3,0,11] ?_
   exact fin1 rfl (.tmp rfl) (fun w' hw' => ⟨by unfold szK; rw [if_pos hB, eq_i, List.take_length], hw'.upd⟩) _ (.inl rfl)
theorem reader_any (A : Option Addr) (n cap : Nat) (w : World)  : Own2 (ι := Nat) Tryz.prog 253 [.slice A n cap] w [] (fun x => True) (fun x => .func (.func 296) #[] [Value.pointer (some ⟨x, 0, none⟩)].toArray) (fun x => [Res.blk x 56 [Value.slice A n cap]]) (fun x => []) := by
 refine g_st Tryz.func253 4 (WOK.start (fps []) _) ?_
 refine rn [1] ?_
 refine g_op (g_box (c := [Value.slice A n cap]) rfl rfl rfl fun b1 => ?_)
 refine rn [3,0,1,52,3,0,11] ?_
 exact fin1 rfl (.tmp rfl) (fun w' hw' => ⟨b1, (by exact trivial), rfl, zA w' hw'⟩) _ (.inl rfl)
def rdN (bs : List Nat) : Nat := bs.foldl (fun v b => v * 256 + b) 0
theorem rdN_succ {bs : List Nat} {k : Nat} (h : k < bs.length) : rdN (bs.take (k + 1)) = rdN (bs.take k) * 256 + bs[k] := by
 unfold rdN; rw [← List.take_append_getElem h, List.foldl_append]; rfl
theorem rdN_lt {bs : List Nat} (hb : ∀ b ∈ bs, b < 256) : ∀ k, k ≤ bs.length → rdN (bs.take k) < 256 ^ k
 | 0, _ => by simp [rdN]
 | k + 1, h => by
  have h1 := rdN_lt hb k (by omega)
  have h2 := hb _ (List.getElem_mem (show k < bs.length by omega))
  rw [rdN_succ (by omega), Nat.pow_succ]; omega
theorem pow8 {k : Nat} (h : k < 8) : 256 ^ k * 256 ≤ 18446744073709551616 := by
 rw [← Nat.pow_succ]
 exact Nat.pow_le_pow_right (by decide) (show k + 1 ≤ 8 by omega)
theorem or_low {a b : Nat} (hb : b < 256) : (a * 256) ||| b = a * 256 + b := by
 have := Nat.two_pow_add_eq_or_of_lt (i := 8) (show b < 2 ^ 8 by omega) a
 rw [Nat.mul_comm]; exact this.symm
theorem rdr_any (q : Nat) (A : Option Addr) (m cap n : Nat) (bs : List Nat) (w : World) (hw : W0 [Res.blk q 56 [Value.slice A m cap]] w) (hrd : Rd w [Res.blk q 56 [Value.slice A m cap]] A m 1 (bs.map (fun v : Nat => [Value.int .u8 ((v : Nat) : Int)]))) (hcap : m ≤ cap) (hn : n ≤ m) (hn8 : n ≤ 8) (hby : ∀ b ∈ bs, b < 256) : Own2 (ι := Unit) Tryz.prog 296 [.int .i64 (n : Int), .pointer (some ⟨q, 0, none⟩)] w [Res.blk q 56 [Value.slice A m cap]] (fun x => True) (fun x => .int .u64 ((rdN (bs.take n) : Nat) : Int)) (fun x => []) (fun x => [Res.blk q 56 [Value.slice (subA A cap n 1) (m - n) (cap - n)]]) := by
 refine g_st Tryz.func296 25 hw ?_
 have hm : m = bs.length := by have := hrd.old.len; simpa using this
 refine rn [1,3,0,1,3,0,8,1,5,2] ?_
 refine s_q (yV (h := n) rfl rfl rfl (by omega)) rfl ?_
 refine rn [47,2,0,14] ?_
 refine g_val 4 (v' := .int .u64 ((rdN (bs.take 0) : Nat) : Int)) rfl (by rfl) ?_
 refine g_lk [0, 1, 3, 9, 10] (fun (x : Nat) => [(4, .int .u64 ((rdN (bs.take x) : Nat) : Int)), (11, .int .i64 ((x : Nat) : Int))]) (fun (x : Nat) => [Res.blk q 56 [Value.slice A m cap]]) (fun (x : Nat) => x ≤ n) (fun (x : Nat) => n - x) 0 (by (try dsimp only); exact Nat.zero_le _) ?_
 rintro i le_i
 replace le_i : i ≤ n := le_i
 refine rn [1,46,0,8] ?_
 refine zC rfl (fun h1 => ?_) (fun h1 => ?_)
 ·have lt_i : i < n := by have h9 := of_decide_eq_true h1; omega
  have hbs : i < bs.length := by omega
  have hb9 := hby _ (List.getElem_mem hbs)
  have hl9 := rdN_lt hby i (by omega)
  have hp9 := pow8 (k := i) (by omega)
  have hq9 : rdN (bs.take i) * 256 < 18446744073709551616 - 255 := by
    have h8 : (rdN (bs.take i) + 1) * 256 ≤ 256 ^ i * 256 := Nat.mul_le_mul_right 256 hl9
    omega
  refine rn [12,7,8,14,1] ?_
  refine s_q (zR (i := i) rfl rfl rfl (hrd.rdb.h (cap := cap) (by omega) hcap) (by first | exact lt_i | omega)) rfl ?_
  refine s_q (yL (i := i) (o := 0) rfl (hrd.rdb.h (cap := cap) (by omega) hcap) (take_get (l := bs) (m := n) (by first | exact lt_i | omega) (by omega)) rfl rfl) rfl ?_
  refine rn [3,0,10,2] ?_
  refine s_q (q_shln (a := rdN (bs.take i)) (n := 8) rfl rfl (by decide)) rfl ?_
  refine g_val 16 (v' := .int .u64 ((rdN (bs.take i) * 256 : Nat) : Int)) rfl (by rw [Nat.mod_eq_of_lt (by omega)]) ?_
  refine rn [2] ?_
  refine s_q (yQ (z := ((bs[i] : Nat) : Int)) rfl (wu64 (by omega) (by omega))) rfl ?_
  refine s_q (q_orn (a := rdN (bs.take i) * 256) (b := bs[i]) rfl rfl (by omega) (by omega)) rfl ?_
  refine g_val 19 (v' := .int .u64 ((rdN (bs.take (i + 1)) : Nat) : Int)) rfl (by rw [or_low hb9, rdN_succ hbs]) ?_
  refine rn [3,9,15,7,10,43,2,9] ?_
  exact g_ag (i + 1) (by (try dsimp only); exact (by first | exact lt_i | omega))
 ·have eq_i : i = n := by have h9 := of_decide_eq_false h1; omega
  refine rn [16] ?_
  refine zE (zE (zQ ?_))
  refine rn [7,1,5,2] ?_
  refine s_q (xF (l := n) rfl rfl rfl (by omega)) rfl ?_
  refine g_op (zP rfl rfl rfl rfl rfl rfl rfl ?_)
  refine zJ (b := q) [Value.slice (subA A cap n 1) (m - n) (cap - n)] (by rfl) ?_
  refine rn [0,1,2,3,0,11] ?_
  exact fin1 rfl (.tmp rfl) (fun w' hw' => ⟨(), (by exact trivial), by rw [eq_i], zA w' hw'⟩) _ (.inl rfl)
def zO : Op := ⟨0, 0, 0, 0⟩
def decS (s : Op × List Nat) (j : Nat) : Op × List Nat := (setO j s.1 ((rdN (s.2.take (szO j)) : Nat) : Int), s.2.drop (szO j))
def decK (js : List Nat) (s : Op × List Nat) (k : Nat) : Op × List Nat := (js.take k).foldl decS s
theorem decK_succ {js : List Nat} {s : Op × List Nat} {k : Nat} (h : k < js.length) : decK js s (k + 1) = decS (decK js s k) js[k] := wE _ _ h
def decO (k : Nat) (rest : List Nat) : Op := (decK (opsL k) (⟨k, 0, 0, 0⟩, rest) (opsL k).length).1
def decP (bs : List Nat) (p : Nat) : Op × Nat × Bool :=
 if h : p < bs.length then
  if szK bs[p] = 0 then (zO, p + 1, true) else if bs.length - p < szK bs[p] then (zO, bs.length, true) else (decO bs[p] (bs.drop (p + 1)), p + szK bs[p], true)
 else (zO, 0, false)
theorem sum_mono : ∀ {l : List Nat} {k : Nat}, k ≤ l.length → ((l.take k).map szO).sum ≤ (l.map szO).sum
 | [], _, _ => by simp
 | a :: l, 0, _ => by simp
 | a :: l, k + 1, h => by
  have := sum_mono (l := l) (k := k) (by simpa using h)
  simp only [List.take_succ_cons, List.map_cons, List.sum_cons]; omega
theorem decK_len {js : List Nat} {s : Op × List Nat} : ∀ k, k ≤ js.length → ((js.map szO).sum ≤ s.2.length) → (decK js s k).2.length + ((js.take k).map szO).sum = s.2.length ∧ ∀ (h : k < js.length), szO js[k] ≤ (decK js s k).2.length
 | 0, _, hs => by
  refine ⟨by simp [decK], fun h => ?_⟩
  have := xR (l := js) (k := 0) h
  have h2 := sum_mono (l := js) (k := 1) h
  simp [decK] at this h2 ⊢; omega
 | k + 1, h, hs => by
  obtain ⟨h1, h2⟩ := decK_len (js := js) (s := s) k (by omega) hs
  have h3 := h2 (by omega)
  rw [decK_succ (by omega)]
  have h4 := xR (l := js) (k := k) (by omega)
  have h5 : (decS (decK js s k) js[k]).2.length + ((js.take (k + 1)).map szO).sum = s.2.length := by
   show ((decK js s k).2.drop (szO js[k])).length + _ = _
   rw [h4, List.length_drop]; omega
  refine ⟨h5, fun h6 => ?_⟩
  have h7 := xR (l := js) (k := k + 1) h6
  have h8 := sum_mono (l := js) (k := k + 1 + 1) (by omega)
  omega
theorem decK_by {js : List Nat} {s : Op × List Nat} (hb : ∀ b ∈ s.2, b < 256) (k : Nat) : ∀ b ∈ (decK js s k).2, b < 256 := by
 have key : ∀ (js : List Nat) (s : Op × List Nat), (∀ b ∈ s.2, b < 256) → ∀ b ∈ (js.foldl decS s).2, b < 256 := fun js => by
  induction js with
  | nil => exact fun _ h => h
  | cons j js ih => exact fun s h => ih _ fun b hb => h b (List.mem_of_mem_drop hb)
 exact key _ _ hb
theorem odec_any (A : Option Addr) (n cap p : Nat) (bs : List Nat) (w : World) (hrd : Rd w [] A n 1 (bs.map (fun v : Nat => [Value.int .u8 ((v : Nat) : Int)]))) (hcap : n ≤ cap) (hn : n ≤ 1000000) (hpm : p ≤ 2000000) (hby : ∀ b ∈ bs, b < 256) : Pur Tryz.prog 186 [.slice A n cap, .int .i64 (p : Int)] w (.tuple [.agg (Op.c (decP bs p).1).toArray, .int .i64 (((decP bs p).2.1 : Nat) : Int), .bool (decP bs p).2.2].toArray) := by
 refine g_st Tryz.func186 78 (WOK.start [] _) ?_
 have hm : n = bs.length := by have := hrd.old.len; simpa using this
 refine rn [1] ?_
 refine g_op (zI rfl fun b4 => ?_)
 refine rn [3,3,0,8,1,2,46,2] ?_
 refine zV 17 rfl (fun h1 => ?_) (fun h1 => ?_)
 ·exfalso; have h9 := of_decide_eq_true h1; omega
 ·refine rn [22,2,22,2,22,47,22,53,42,0] ?_
  refine zC rfl (fun h2 => ?_) (fun h2 => ?_)
  ·have hp : ¬ p < bs.length := by have h9 := of_decide_eq_true h2; omega
   have hD : decP bs p = (zO, 0, false) := by unfold decP; rw [dif_neg hp]
   refine rn [1,49,33,3,3,0,11,13] ?_
   exact fin3 rfl (.cellw rfl rfl) (.tmp rfl) (.tmp rfl) (fun w' hw' => ⟨by rw [hD]; rfl, hw'.upd⟩) _ (.inl rfl)
  ·have hp : p < bs.length := by have h9 := of_decide_eq_false h2; omega
   obtain ⟨kb, hkb⟩ : ∃ z, z = bs[p] := ⟨_, rfl⟩
   have hb9 : kb < 256 := hkb ▸ hby _ (List.getElem_mem hp)
   have hz9 := szK_le ((kb : Nat) : Int)
   refine rn [12,7,1,2,2] ?_
   refine s_q (zR (i := p) rfl rfl rfl hrd.rdb (by first | omega | (simp; done) | (simp; omega))) rfl ?_
   refine s_q (yL (i := p) (o := 0) rfl hrd.rdb (zS (by first | assumption | omega)) rfl rfl) rfl ?_
   refine g_val 27 (v' := .int .u8 ((kb : Nat) : Int)) rfl (by rw [hkb]) ?_
   refine s_q (yQ (z := ((kb : Nat) : Int)) rfl (wi64 (by omega) (by omega))) rfl ?_
   refine rn [3,0,8,1,2] ?_
   refine g_op (zG rfl (fun w1 hw1 => size_any (((kb : Nat) : Int)) w1 (by omega)) rfl ?_)
   refine rn [3,0,14,1,2,44,3,0] ?_
   refine zC rfl (fun h3 => ?_) (fun h3 => ?_)
   ·have hs : szK ((kb : Nat) : Int) = 0 := by have h9 := of_decide_eq_true h3; omega
    have hD : decP bs p = (zO, p + 1, true) := by unfold decP; rw [dif_pos hp, ← hkb, if_pos hs]
    refine rn [1,49,2,43,33,3,3,0,11] ?_
    refine zN (zD ?_)
    exact fin3 rfl (.cellw rfl rfl) (.tmp rfl) (.tmp rfl) (fun w' hw' => ⟨by rw [hD]; rfl, hw'.upd⟩) _ (.inl rfl)
   ·have hs : ¬ szK ((kb : Nat) : Int) = 0 := by have h9 := of_decide_eq_false h3; omega
    refine rn [1,2,47,2] ?_
    refine s_q (q_subn (a := n) (b := p) rfl rfl (by first | omega | (simp; omega) | (simp_all; omega)) (by first | omega | (simp; omega) | (simp_all; omega))) rfl ?_
    refine rn [2,46,3,0] ?_
    refine zC rfl (fun h4 => ?_) (fun h4 => ?_)
    ·have ht : bs.length - p < szK ((kb : Nat) : Int) := by have h9 := of_decide_eq_true h4; omega
     have hD : decP bs p = (zO, bs.length, true) := by unfold decP; rw [dif_pos hp, ← hkb, if_neg hs, if_pos ht]
     refine rn [1,49,2,47,33,3,3,0,11] ?_
     refine zN (zD ?_)
     exact fin3 rfl (.cellw rfl rfl) (.tmp rfl) (.tmp rfl) (fun w' hw' => ⟨by rw [hD, hm]; rfl, hw'.upd⟩) _ (.inl rfl)
    ·have ht : ¬ bs.length - p < szK ((kb : Nat) : Int) := by have h9 := of_decide_eq_false h4; omega
     have hD : decP bs p = (decO kb (bs.drop (p + 1)), p + szK ((kb : Nat) : Int), true) := by unfold decP; rw [dif_pos hp, ← hkb, if_neg hs, if_neg ht]
     have hB : opsB ((kb : Nat) : Int) = true := by unfold szK at hs; split at hs <;> simp_all
     have hsum : ((opsL ((kb : Nat) : Int)).map szO).sum ≤ (bs.drop (p + 1)).length := by unfold szK at ht; rw [if_pos hB] at ht; simp only [List.length_drop]; omega
     have hrt := hrd.sub (cap := cap) (l := p + 1) (m := n) (by omega) (Nat.le_refl _) hcap
     rw [List.take_of_length_le (by simp; omega), ← List.map_drop] at hrt
     refine rn [12,15,7,1,2,49] ?_
     refine g_op (zI rfl fun b9 => ?_)
     refine rn [33] ?_
     refine zJ (b := b9) (Op.c (decK (opsL ((kb : Nat) : Int)) ((⟨((kb : Nat) : Int), 0, 0, 0⟩ : Op), bs.drop (p + 1)) 0).1) (by rfl) ?_
     refine rn [0,1,2,2,43] ?_
     refine s_q (xF (l := p + 1) rfl rfl rfl (by omega)) rfl ?_
     refine g_op (zH [] rfl (fun w1 hw1 ho1 => by have h7 := reader_any (subA A cap (p + 1) 1) ((n - (p + 1))) ((cap - (p + 1))) w1; exact h7) rfl ?_)
     rintro b53 _
     refine ii ?_
     refine rn [3,0,1,2] ?_
     refine g_op (zH [] rfl (fun w1 hw1 ho1 => by have h7 := operands_any (((kb : Nat) : Int)) w1 (by omega); exact h7) rfl ?_)
     rintro ⟨A56, cap56⟩ _
     refine ii ?_
     refine rn [2,40,40,3,3,0,8,1,2,47,2,0,14] ?_
     refine g_lk [1, 4, 5, 6, 7, 9, 10, 59, 60] (fun (x : Nat × Option Addr × Nat × Nat) => [(61, .int .i64 ((x.1 : Nat) : Int))]) (fun (x : Nat × Option Addr × Nat × Nat) => [Res.blk b4 35 [Value.int .i64 0, .int .i64 0, .int .i64 0, .int .u64 0], Res.row A56 (opsL ((kb : Nat) : Int)).length cap56 324 3 ((opsL ((kb : Nat) : Int)).map OD.c), Res.blk b9 35 (Op.c (decK (opsL ((kb : Nat) : Int)) ((⟨((kb : Nat) : Int), 0, 0, 0⟩ : Op), bs.drop (p + 1)) x.1).1), Res.blk b53 56 [Value.slice x.2.1 x.2.2.1 x.2.2.2]]) (fun (x : Nat × Option Addr × Nat × Nat) => x.1 ≤ (opsL ((kb : Nat) : Int)).length ∧ Rd w [] x.2.1 x.2.2.1 1 ((decK (opsL ((kb : Nat) : Int)) ((⟨((kb : Nat) : Int), 0, 0, 0⟩ : Op), bs.drop (p + 1)) x.1).2.map (fun v : Nat => [Value.int .u8 ((v : Nat) : Int)])) ∧ x.2.2.1 ≤ x.2.2.2) (fun (x : Nat × Option Addr × Nat × Nat) => (opsL ((kb : Nat) : Int)).length - x.1) (0, (subA A cap (p + 1) 1), (n - (p + 1)), (cap - (p + 1))) (by (try dsimp only); exact ⟨Nat.zero_le _, hrt, (by omega)⟩) ?_
     rintro ⟨k, A9, n9, c9⟩ ⟨le_k, hr9, hn9⟩
     replace le_k : k ≤ (opsL ((kb : Nat) : Int)).length := le_k
     replace hr9 : Rd w [] A9 n9 1 ((decK (opsL ((kb : Nat) : Int)) ((⟨((kb : Nat) : Int), 0, 0, 0⟩ : Op), bs.drop (p + 1)) k).2.map (fun v : Nat => [Value.int .u8 ((v : Nat) : Int)])) := hr9
     replace hn9 : n9 ≤ c9 := hn9
     refine zX (L' := [Res.blk b4 35 [Value.int .i64 0, .int .i64 0, .int .i64 0, .int .u64 0], Res.row A56 (opsL ((kb : Nat) : Int)).length cap56 324 3 ((opsL ((kb : Nat) : Int)).map OD.c), Res.blk b9 35 (Op.c (decK (opsL ((kb : Nat) : Int)) ((⟨((kb : Nat) : Int), 0, 0, 0⟩ : Op), bs.drop (p + 1)) k).1), Res.blk b53 56 [Value.slice A9 n9 c9]]) rfl ?_
     refine g_val 61 (v' := .int .i64 ((k : Nat) : Int)) rfl rfl ?_
     have hel : n9 = (decK (opsL ((kb : Nat) : Int)) ((⟨((kb : Nat) : Int), 0, 0, 0⟩ : Op), bs.drop (p + 1)) k).2.length := by have h9 := hr9.old.len; simpa using h9
     obtain ⟨hl9, hs9⟩ := decK_len (js := (opsL ((kb : Nat) : Int))) (s := ((⟨((kb : Nat) : Int), 0, 0, 0⟩ : Op), bs.drop (p + 1))) k (by omega) hsum
     have hby9 := decK_by (js := (opsL ((kb : Nat) : Int))) (s := ((⟨((kb : Nat) : Int), 0, 0, 0⟩ : Op), bs.drop (p + 1))) (fun b hb => hby b (List.mem_of_mem_drop hb)) k
     have hol9 := opsL_len ((kb : Nat) : Int)
     refine rn [1,46,0,8] ?_
     refine zC rfl (fun h5 => ?_) (fun h5 => ?_)
     ·have lt_k : k < (opsL ((kb : Nat) : Int)).length := by have h9 := of_decide_eq_true h5; omega
      have hz8 := hs9 lt_k
      obtain ⟨jk, hjk⟩ : ∃ z, z = (opsL ((kb : Nat) : Int))[k] := ⟨_, rfl⟩
      have hj2 : jk ≤ 2 := hjk ▸ opsL_le _ _ (List.getElem_mem lt_k)
      rw [← hjk] at hz8
      have hz7 := szO_le jk
      have hbS : HasB Tryz.prog (setF jk) := hasS hj2
      have hk9 : (decK (opsL ((kb : Nat) : Int)) ((⟨((kb : Nat) : Int), 0, 0, 0⟩ : Op), bs.drop (p + 1)) (k + 1)) = decS (decK (opsL ((kb : Nat) : Int)) ((⟨((kb : Nat) : Int), 0, 0, 0⟩ : Op), bs.drop (p + 1)) k) jk := by rw [hjk]; exact decK_succ lt_k
      have hr8 := hr9.sub (cap := c9) (l := szO jk) (m := n9) (by omega) (Nat.le_refl _) hn9
      rw [List.take_of_length_le (by simp; omega), ← List.map_drop] at hr8
      rw [show (decK (opsL ((kb : Nat) : Int)) ((⟨((kb : Nat) : Int), 0, 0, 0⟩ : Op), bs.drop (p + 1)) k).2.drop (szO jk) = (decK (opsL ((kb : Nat) : Int)) ((⟨((kb : Nat) : Int), 0, 0, 0⟩ : Op), bs.drop (p + 1)) (k + 1)).2 from by rw [hk9]; rfl] at hr8
      refine rn [12,7,8,14,1] ?_
      refine s_q (zR (i := k) rfl rfl rfl (InRow.rdb (A := A56) (els := ((opsL ((kb : Nat) : Int))).map OD.c) (by first | rfl | assumption | (simp; done) | (simp_all; done) | (simp; omega) | (simp_all; omega)) (zM (c := OD.c) (fun _ => rfl) _)) (by first | exact lt_k | omega)) rfl ?_
      refine s_q (zT (i := k) rfl (InRow.rdb (A := A56) (els := ((opsL ((kb : Nat) : Int))).map OD.c) (by first | rfl | assumption | (simp; done) | (simp_all; done) | (simp; omega) | (simp_all; omega)) (zM (c := OD.c) (fun _ => rfl) _)) (zS (by first | assumption | omega | (simp_all; done) | (simp_all; omega))) rfl) rfl ?_
      refine g_op (zI rfl fun b14 => ?_)
      refine rn [33] ?_
      refine zJ (b := b14) (OD.c jk) (by rw [hjk]) ?_
      refine rn [0] ?_
      refine dregL (L0 := [Res.blk b14 324 (OD.c jk)]) [] mixed rfl zB ?_
      refine rn [23,0,4,23,1,5,23,2,2,23,3,4,23,4,5] ?_
      refine dop 5 rfl (xL [Res.blk b53 56 [Value.slice A9 n9 c9]] rfl rfl (fun w1 hw1 ho1 => by have h7 := rdr_any b53 A9 (n9) (c9) ((szO jk)) (decK (opsL ((kb : Nat) : Int)) ((⟨((kb : Nat) : Int), 0, 0, 0⟩ : Op), bs.drop (p + 1)) k).2 w1 ho1 (Rd.ofOld hw1 hr9.old (by omega) (by simp)) hn9 (by omega) (by omega) hby9; exact h7) rfl ?_)
      rintro ⟨⟩ _
      refine ii ?_
      refine dop 6 rfl ((xL (f := setF jk) (fst := []) (cap := []) [Res.blk b9 35 (Op.c (decK (opsL ((kb : Nat) : Int)) ((⟨((kb : Nat) : Int), 0, 0, 0⟩ : Op), bs.drop (p + 1)) k).1)] rfl rfl (fun w1 hw1 ho1 => by have h7 := set_all hj2 b9 (decK (opsL ((kb : Nat) : Int)) ((⟨((kb : Nat) : Int), 0, 0, 0⟩ : Op), bs.drop (p + 1)) k).1 ((rdN ((decK (opsL ((kb : Nat) : Int)) ((⟨((kb : Nat) : Int), 0, 0, 0⟩ : Op), bs.drop (p + 1)) k).2.take (szO jk)) : Nat) : Int) w1 ho1; exact h7) rfl ?_))
      rintro ⟨⟩ _
      refine ii ?_
      refine rn [27,15,7,10,43,2,9] ?_
      refine zJ (b := b9) (Op.c (decK (opsL ((kb : Nat) : Int)) ((⟨((kb : Nat) : Int), 0, 0, 0⟩ : Op), bs.drop (p + 1)) (k + 1)).1) (by rw [hk9]; rfl) ?_
      exact g_ag ((k + 1), (subA A9 c9 (szO jk) 1), (n9 - szO jk), (c9 - szO jk)) (by (try dsimp only); exact ⟨(by first | exact lt_k | omega), hr8, (by omega)⟩)
     ·have eq_k : k = (opsL ((kb : Nat) : Int)).length := by have h9 := of_decide_eq_false h5; omega
      subst eq_k
      refine rn [16] ?_
      refine zE (zE (zQ ?_))
      refine rn [7,8] ?_
      refine dregL (L0 := [Res.blk b9 35 (Op.c (decK (opsL ((kb : Nat) : Int)) ((⟨((kb : Nat) : Int), 0, 0, 0⟩ : Op), bs.drop (p + 1)) (opsL ((kb : Nat) : Int)).length).1)]) [5] mixed rfl zB ?_
      refine rn [23,0,45,24,1,2,24,2,2] ?_
      refine dop 3 rfl (zG rfl (fun w1 hw1 => size_any (((kb : Nat) : Int)) w1 (by omega)) rfl ?_)
      refine dp 4 rfl (fun _ => q_addn (a := p) (b := (szK ((kb : Nat) : Int))) rfl rfl (by first | omega | (simp; omega) | (simp_all; omega))) ?_
      refine dop 5 rfl (zL rfl rfl rfl rfl rfl ?_)
      refine rn [24,6,3,24,7,3,28,7,11] ?_
      exact fin3 rfl (.cellw rfl rfl) (.tmp rfl) (.tmp rfl) (fun w' hw' => ⟨by rw [hD]; unfold decO; rfl, hw'.upd⟩) _ (.inl rfl)
def vN (j : Nat) (y : Op) : Nat := (getV j y).toNat
theorem vN_eq {y : Op} (hy : y.ok) (j : Nat) : getV j y = ((vN j y : Nat) : Int) := by
 have h0 : 0 ≤ getV j y := by
  unfold getV
  split
  ·exact hy.a.1
  ·rw [IntKind.wrap_u64]; omega
  ·rw [IntKind.wrap_u64]; omega
 unfold vN; omega
def beB (n v i : Nat) : List Nat := (List.range i).map fun t => v / 2 ^ (8 * (n - 1 - t)) % 256
theorem beB_succ (n v i : Nat) : beB n v (i + 1) = beB n v i ++ [v / 2 ^ (8 * (n - 1 - i)) % 256] := by unfold beB; rw [List.range_succ, List.map_append]; rfl
theorem beB_len (n v i : Nat) : (beB n v i).length = i := by simp [beB]
def wrK (y : Op) (k : Nat) : List Nat := y.k.toNat :: ((opsL y.k).take k).flatMap fun j => beB (szO j) (vN j y) (szO j)
def wrB (y : Op) : List Nat := if opsB y.k = true then wrK y (opsL y.k).length else []
theorem wrK_succ {y : Op} {k : Nat} (h : k < (opsL y.k).length) : wrK y (k + 1) = wrK y k ++ beB (szO (opsL y.k)[k]) (vN (opsL y.k)[k] y) (szO (opsL y.k)[k]) := by
 unfold wrK; rw [← List.take_append_getElem h, List.flatMap_append]; simp
theorem wrK_len (y : Op) : ∀ k, k ≤ (opsL y.k).length → (wrK y k).length = 1 + (((opsL y.k).take k).map szO).sum
 | 0, _ => by simp [wrK]
 | k + 1, h => by rw [wrK_succ (by omega), List.length_append, wrK_len y k (by omega), beB_len, xR (by omega)]; omega
theorem write_any (y : Op) (w : World) (hy : y.ok) : Own2 (ι := (Option Addr × Nat)) Tryz.prog 142 [.agg y.c.toArray] w [] (fun x => True) (fun x => .tuple [.slice x.1 (wrB y).length x.2, .bool (opsB y.k)].toArray) (fun x => [Res.row x.1 (wrB y).length x.2 5 1 ((wrB y).map (fun v : Nat => [Value.int .u8 ((v : Nat) : Int)]))]) (fun x => []) := by
 refine g_st Tryz.func142 48 (WOK.start (fps []) _) ?_
 refine rn [1] ?_
 refine g_op (g_box rfl rfl rfl fun b1 => ?_)
 refine rn [3,3,0,1,4,5] ?_
 refine g_op (zH [] rfl (fun w1 hw1 ho1 => by have h7 := operands_any ((y).k) w1 hy.k; exact h7) rfl ?_)
 rintro ⟨A13, cap13⟩ _
 refine ii ?_
 refine rn [2,40,40,3,3,0,8,1,2,48,0] ?_
 refine zC rfl (fun h1 => ?_) (fun h1 => ?_)
 ·have hB : opsB y.k = false := by simpa using h1
  have hW : wrB y = [] := by unfold wrB; rw [hB]; rfl
  refine rn [1,3,3,0,11,13] ?_
  refine zW none 5 1 (([] : List Nat).map (fun v : Nat => [Value.int .u8 ((v : Nat) : Int)])) (by rfl) ?_
  exact fin2 rfl (.tmp rfl) (.tmp rfl) (fun w' hw' => ⟨((none : Option Addr), (0 : Nat)), (by exact trivial), by rw [hW, hB]; rfl, by rw [hW]; exact zA w' hw'⟩) _ (.inl rfl)
 ·have hB : opsB y.k = true := by simpa using h1
  have hk7 : 1 ≤ y.k ∧ y.k ≤ 7 := of_decide_eq_true hB
  have hW : wrB y = wrK y (opsL y.k).length := by unfold wrB; rw [hB]; rfl
  refine rn [12,7,1,4,5] ?_
  refine s_q (yQ (z := ((y.k.toNat : Nat) : Int)) rfl (by rw [show (((y.k.toNat : Nat)) : Int) = y.k by omega]; simp only [IntKind.wrap_u8]; omega)) rfl ?_
  refine g_op (g_lit rfl rfl rfl rfl rfl fun b21 => ?_)
  refine zJ (b := b21) ((([y.k.toNat] : List Nat).map (fun v : Nat => [Value.int .u8 ((v : Nat) : Int)])).flatten) rfl ?_
  refine rn [3,0,8,1,2,47,2,0,14] ?_
  refine zJ (b := b21) (((wrK y 0).map (fun v : Nat => [Value.int .u8 ((v : Nat) : Int)])).flatten) (by rfl) ?_
  refine xN (b := b21) 1 1 ((wrK y 0).map (fun v : Nat => [Value.int .u8 ((v : Nat) : Int)])) (zM (c := (fun v : Nat => [Value.int .u8 ((v : Nat) : Int)])) (fun _ => rfl) _) rfl rfl (by decide) ?_
  refine yC (A := some ⟨b21, 0, none⟩) (wrK y 0).length (by rfl) ?_
  refine g_val 6 (v' := .slice (some ⟨b21, 0, none⟩) (wrK y 0).length 1) rfl (by rfl) ?_
  refine g_lk [1, 2, 3, 22, 23] (fun (x : Nat × Option Addr × Nat) => [(6, .slice x.2.1 (wrK y x.1).length x.2.2), (24, .int .i64 ((x.1 : Nat) : Int))]) (fun (x : Nat × Option Addr × Nat) => [Res.blk b1 35 y.c, Res.row A13 (opsL y.k).length cap13 324 3 ((opsL y.k).map OD.c), Res.row x.2.1 ((wrK y x.1)).length x.2.2 5 1 (((wrK y x.1)).map (fun v : Nat => [Value.int .u8 ((v : Nat) : Int)]))]) (fun (x : Nat × Option Addr × Nat) => x.1 ≤ (opsL y.k).length) (fun (x : Nat × Option Addr × Nat) => (opsL y.k).length - x.1) (0, (some ⟨b21, 0, none⟩), 1) (by (try dsimp only); exact Nat.zero_le _) ?_
  rintro ⟨k, A9, c9⟩ le_k
  replace le_k : k ≤ (opsL y.k).length := le_k
  refine zX (L' := [Res.blk b1 35 y.c, Res.row A13 (opsL y.k).length cap13 324 3 ((opsL y.k).map OD.c), Res.row A9 ((wrK y k)).length c9 5 1 (((wrK y k)).map (fun v : Nat => [Value.int .u8 ((v : Nat) : Int)]))]) rfl ?_
  refine g_val 6 (v' := .slice A9 (wrK y k).length c9) rfl rfl ?_
  refine g_val 24 (v' := .int .i64 ((k : Nat) : Int)) rfl rfl ?_
  have hol9 := opsL_len y.k
  have hwl9 := wrK_len y k (by omega)
  have hwm9 := wJ (opsL y.k) k
  refine rn [1,46,0,8] ?_
  refine zC rfl (fun h2 => ?_) (fun h2 => ?_)
  ·have lt_k : k < (opsL y.k).length := by have h9 := of_decide_eq_true h2; omega
   obtain ⟨jk, hjk⟩ : ∃ z, z = (opsL y.k)[k] := ⟨_, rfl⟩
   have hj2 : jk ≤ 2 := hjk ▸ opsL_le _ _ (List.getElem_mem lt_k)
   have hk9 : (wrK y (k + 1)) = wrK y k ++ beB (szO jk) (vN jk y) (szO jk) := by rw [hjk]; exact wrK_succ lt_k
   have hz7 := szO_le jk
   have hbG : HasB Tryz.prog (getF jk) := hasG hj2
   refine rn [12,7,8,14,1] ?_
   refine s_q (zR (i := k) rfl rfl rfl (InRow.rdb (A := A13) (els := ((opsL (y).k)).map OD.c) (by first | rfl | assumption | (simp; done) | (simp_all; done) | (simp; omega) | (simp_all; omega)) (zM (c := OD.c) (fun _ => rfl) _)) (by first | exact lt_k | omega)) rfl ?_
   refine s_q (zT (i := k) rfl (InRow.rdb (A := A13) (els := ((opsL (y).k)).map OD.c) (by first | rfl | assumption | (simp; done) | (simp_all; done) | (simp; omega) | (simp_all; omega)) (zM (c := OD.c) (fun _ => rfl) _)) (zS (by first | assumption | omega | (simp_all; done) | (simp_all; omega))) rfl) rfl ?_
   refine g_op (zI rfl fun b8 => ?_)
   refine rn [33] ?_
   refine zJ (b := b8) (OD.c jk) (by rw [hjk]) ?_
   refine rn [0,1,4,5] ?_
   refine s_q (yY (z := (szO jk : Int) - 1 - ((0 : Nat) : Int)) rfl rfl (by rw [wi64 (by omega) (by omega)]; omega)) rfl ?_
   refine rn [3,0,14] ?_
   refine zF (A := A9) ((wrK y k ++ beB (szO jk) (vN jk y) 0).map (fun v : Nat => [Value.int .u8 ((v : Nat) : Int)])) (by simp [beB]) ?_
   refine yC (A := A9) (wrK y k ++ beB (szO jk) (vN jk y) 0).length (by simp [beB]) ?_
   refine g_val 6 (v' := .slice A9 (wrK y k ++ beB (szO jk) (vN jk y) 0).length c9) rfl (by simp [beB]) ?_
   refine g_lk [1, 2, 3, 8, 22, 23, 24] (fun (x : Nat × Option Addr × Nat) => [(6, .slice x.2.1 (wrK y k ++ beB (szO jk) (vN jk y) x.1).length x.2.2), (9, .int .i64 ((szO jk : Int) - 1 - ((x.1 : Nat) : Int)))]) (fun (x : Nat × Option Addr × Nat) => [Res.blk b8 324 (OD.c jk), Res.blk b1 35 y.c, Res.row A13 (opsL y.k).length cap13 324 3 ((opsL y.k).map OD.c), Res.row x.2.1 ((wrK y k ++ beB (szO jk) (vN jk y) x.1)).length x.2.2 5 1 (((wrK y k ++ beB (szO jk) (vN jk y) x.1)).map (fun v : Nat => [Value.int .u8 ((v : Nat) : Int)]))]) (fun (x : Nat × Option Addr × Nat) => x.1 ≤ szO jk) (fun (x : Nat × Option Addr × Nat) => szO jk - x.1) (0, A9, c9) (by (try dsimp only); exact (by omega)) ?_
   rintro ⟨i, A8, c8⟩ le_i
   replace le_i : i ≤ szO jk := le_i
   refine zX (L' := [Res.blk b8 324 (OD.c jk), Res.blk b1 35 y.c, Res.row A13 (opsL y.k).length cap13 324 3 ((opsL y.k).map OD.c), Res.row A8 ((wrK y k ++ beB (szO jk) (vN jk y) i)).length c8 5 1 (((wrK y k ++ beB (szO jk) (vN jk y) i)).map (fun v : Nat => [Value.int .u8 ((v : Nat) : Int)]))]) rfl ?_
   refine g_val 6 (v' := .slice A8 (wrK y k ++ beB (szO jk) (vN jk y) i).length c8) rfl rfl ?_
   refine g_val 9 (v' := .int .i64 ((szO jk : Int) - 1 - ((i : Nat) : Int))) rfl rfl ?_
   have hbl9 := beB_len (szO jk) (vN jk y) i
   refine rn [8,1,2,53,0] ?_
   refine zC rfl (fun h3 => ?_) (fun h3 => ?_)
   ·have lt_i : i < szO jk := by have h9 := of_decide_eq_true h3; omega
    have hi9 : (wrK y k ++ beB (szO jk) (vN jk y) (i + 1)) = (wrK y k ++ beB (szO jk) (vN jk y) i) ++ [(vN jk y / 2 ^ (8 * (szO jk - 1 - i)) % 256)] := by rw [beB_succ, List.append_assoc]
    refine rn [12,7,8,14,10,2,4,5,45] ?_
    refine g_op ((g_purevE (f := getF jk) rfl rfl (fun w1 hw1 => get_all hj2 y w1) rfl ?_))
    refine g_val 39 (v' := .int .u64 ((vN jk y : Nat) : Int)) rfl (by rw [vN_eq hy]) ?_
    refine rn [2] ?_
    refine s_q (q_mulz (z := ((8 * (szO jk - 1 - i) : Nat) : Int)) rfl rfl (by rw [wi64 (by omega) (by omega)]; omega)) rfl ?_
    refine s_q (q_shrn (a := vN jk y) (n := 8 * (szO jk - 1 - i)) rfl rfl (by omega)) rfl ?_
    refine s_q (yQ (z := (((vN jk y / 2 ^ (8 * (szO jk - 1 - i)) % 256) : Nat) : Int)) rfl (by simp only [IntKind.wrap_u8]; omega)) rfl ?_
    refine g_op (g_lit rfl rfl rfl rfl rfl fun b44 => ?_)
    refine zJ (b := b44) ((([(vN jk y / 2 ^ (8 * (szO jk - 1 - i)) % 256)] : List Nat).map (fun v : Nat => [Value.int .u8 ((v : Nat) : Int)])).flatten) rfl ?_
    refine g_op (zY (A := A8) (els := ((wrK y k ++ beB (szO jk) (vN jk y) i)).map (fun v : Nat => [Value.int .u8 ((v : Nat) : Int)])) (news := (([(vN jk y / 2 ^ (8 * (szO jk - 1 - i)) % 256)] : List Nat).map (fun v : Nat => [Value.int .u8 ((v : Nat) : Int)]))) rfl rfl (InL.rdb (b := b44) rfl (by simp) rfl) (yG (c := (fun v : Nat => [Value.int .u8 ((v : Nat) : Int)])) (by intro x; simp [Value.oneCell']) _) (by first | omega | (simp; omega) | (simp_all; omega)) rfl fun A45 cap45 => ⟨_, inferInstance, ?_⟩)
    refine zF (A := A45) ((((wrK y k ++ beB (szO jk) (vN jk y) i) ++ [(vN jk y / 2 ^ (8 * (szO jk - 1 - i)) % 256)])).map (fun v : Nat => [Value.int .u8 ((v : Nat) : Int)])) (by first | rfl | exact List.map_append.symm | (simp; done)) ?_
    refine rn [3,9,15,7,10,2] ?_
    refine s_q (yY (z := (szO jk : Int) - 1 - ((i + 1 : Nat) : Int)) rfl rfl (by rw [wi64 (by omega) (by omega)]; omega)) rfl ?_
    refine rn [3,9] ?_
    refine zF (A := A45) ((wrK y k ++ beB (szO jk) (vN jk y) (i + 1)).map (fun v : Nat => [Value.int .u8 ((v : Nat) : Int)])) (by rw [hi9]) ?_
    refine yC (A := A45) (wrK y k ++ beB (szO jk) (vN jk y) (i + 1)).length (by rw [hi9]; simp; omega) ?_
    refine g_val 6 (v' := .slice A45 (wrK y k ++ beB (szO jk) (vN jk y) (i + 1)).length cap45) rfl (by rw [hi9]; simp; omega) ?_
    exact g_ag ((i + 1), A45, cap45) (by (try dsimp only); exact (by omega))
   ·have eq_i : i = szO jk := by have h9 := of_decide_eq_false h3; omega
    refine rn [16] ?_
    refine zE (zE (zQ ?_))
    refine rn [15,7,10,43,2,9] ?_
    rw [eq_i] at *
    refine zF (A := A8) ((wrK y (k + 1)).map (fun v : Nat => [Value.int .u8 ((v : Nat) : Int)])) (by rw [hk9]) ?_
    refine yC (A := A8) (wrK y (k + 1)).length (by rw [hk9]) ?_
    refine g_val 6 (v' := .slice A8 (wrK y (k + 1)).length c8) rfl (by rw [hk9]) ?_
    exact g_ag ((k + 1), A8, c8) (by (try dsimp only); exact (by first | exact lt_k | omega))
  ·have eq_k : k = (opsL y.k).length := by have h9 := of_decide_eq_false h2; omega
   refine rn [16] ?_
   refine zE (zE (zQ ?_))
   refine rn [7,1,2,3,3,0,11] ?_
   subst eq_k
   exact fin2 rfl (.tmp rfl) (.tmp rfl) (fun w' hw' => ⟨(A9, c9), (by exact trivial), by rw [hW, hB], by rw [hW]; exact zA w' hw'⟩) _ (.inl rfl)
end Go.Proofs.YtdddiilocbbkkaaGreat
