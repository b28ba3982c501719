/- walks of the ring of buckets -/
import Derived.Test.YtgbghjnlicldnaaW1
namespace Go.Proofs.Ytgbghjnlicldnaa
open Go.RowKit Go.Eg
set_option synthInstance.maxSize 3000
set_option linter.unusedSimpArgs false
set_option linter.unusedVariables false
set_option maxRecDepth 100000
structure BR where
  n : Int
  A : Option Addr
  cap : Nat
  bs : List (Bk En)
def validE (e : Int) : Bool := decide (0 ≤ e ∧ e ≤ 1099511627776)
structure BR.Rep (g : BR) (es : List En) : Prop where
  pos : 0 < g.bs.length
  le : g.bs.length ≤ 4096
  n : g.n = es.length
  bk : ∀ (i : Nat) (k : Bk En), g.bs[i]? = some k → k.els = es.filter fun x => decide (x.e % (g.bs.length : Int) = i)
  ok : ∀ x ∈ es, 0 ≤ x.e ∧ x.e ≤ 1099511627776
def putE (es : List En) (e i : Int) : List En := if validE e = true then es ++ [⟨e, i⟩] else es
def loadE (m : Nat) (es : List En) (k : Int) : Int := if 0 ≤ k ∧ k < m then ((es.filter fun x => decide (x.e % (m : Int) = k)).length : Int) else 0
theorem BR.Rep.init {n : Nat} {A : Option Addr} {c : Nat} (h : 1 ≤ n ∧ n ≤ 4096) : (BR.mk 0 A c (List.replicate n ⟨none, 0, []⟩)).Rep [] :=
  ⟨by simp; omega, by simp; omega, rfl, fun i k hk => by
    have := List.mem_of_getElem? hk
    rw [List.eq_of_mem_replicate this]; rfl, by simp⟩
theorem BR.Rep.mod {g : BR} {es : List En} (h : g.Rep es) (k : Nat) : k % g.bs.length < g.bs.length := Nat.mod_lt _ h.pos
theorem BR.Rep.at_ {g : BR} {es : List En} (h : g.Rep es) (k : Nat) : ∃ A c els, g.bs[k % g.bs.length]? = some ⟨A, c, els⟩ := ⟨_, _, _, List.getElem?_eq_getElem (h.mod k)⟩
theorem cast_mod (k m : Nat) : ((k : Int) % (m : Int)) = ((k % m : Nat) : Int) := rfl
theorem BR.Rep.put {g : BR} {es : List En} (h : g.Rep es) {k : Nat} (hk : k ≤ 1099511627776) {A A' : Option Addr} {c c' : Nat} {els : List En} (hb : g.bs[k % g.bs.length]? = some ⟨A, c, els⟩) (it : Int) :
    (BR.mk (g.n + 1) g.A g.cap (g.bs.set (k % g.bs.length) ⟨A', c', els ++ [⟨k, it⟩]⟩)).Rep (es ++ [⟨k, it⟩]) := by
  refine ⟨by simpa using h.pos, by simpa using h.le, by simp [h.n], fun i q hq => ?_, fun x hx => ?_⟩
  · simp only [List.length_set] at hq ⊢
    rw [List.getElem?_set] at hq
    rw [List.filter_append]
    split at hq
    · rename_i hi
      subst hi
      rw [if_pos (h.mod k)] at hq
      simp only [Option.some.injEq] at hq
      subst hq
      have h1 := h.bk _ _ hb
      simp only at h1
      show els ++ _ = _
      have hd : decide ((k : Int) % (g.bs.length : Int) = ((k % g.bs.length : Nat) : Int)) = true := decide_eq_true rfl
      rw [← h1, List.filter_cons, if_pos hd, List.filter_nil]
    · rename_i hi
      rw [h.bk _ _ hq]
      have : ¬ ((k : Int) % (g.bs.length : Int) = (i : Int)) := fun hc => hi (by rw [cast_mod] at hc; omega)
      simp [this]
  · rcases List.mem_append.1 hx with hx | hx
    · exact h.ok x hx
    · simp at hx; subst hx; exact ⟨by simp, by show (k : Int) ≤ _; omega⟩
theorem filter_due {k : Int} {m : Int} (es : List En) : dueO k (es.filter fun x => decide (x.e % m = k % m)) = dueO k es := by
  unfold dueO
  rw [List.filter_filter]
  congr 1
  refine List.filter_congr fun x _ => ?_
  by_cases hx : x.e = k
  · simp [hx]
  · simp [hx]
theorem BR.Rep.due {g : BR} {es : List En} (h : g.Rep es) {k : Nat} {A A' : Option Addr} {c c' : Nat} {els : List En} (hb : g.bs[k % g.bs.length]? = some ⟨A, c, els⟩) :
    (BR.mk ((keepE k es).length : Nat) g.A g.cap (g.bs.set (k % g.bs.length) ⟨A', c', keepE k els⟩)).Rep (keepE k es) := by
  refine ⟨by simpa using h.pos, by simpa using h.le, rfl, fun i q hq => ?_, fun x hx => h.ok x (List.mem_filter.1 hx).1⟩
  simp only [List.length_set] at hq ⊢
  rw [List.getElem?_set] at hq
  split at hq
  · rename_i hi
    subst hi
    rw [if_pos (h.mod k)] at hq
    simp only [Option.some.injEq] at hq
    subst hq
    show keepE k els = _
    have h1 := h.bk _ _ hb
    simp only at h1
    rw [h1]
    unfold keepE
    rw [List.filter_filter, List.filter_filter]
    exact List.filter_congr fun x _ => Bool.and_comm _ _
  · rename_i hi
    rw [h.bk _ _ hq]
    unfold keepE
    rw [List.filter_filter]
    refine List.filter_congr fun x _ => ?_
    by_cases hx : x.e = (k : Int)
    · have : ¬ ((k : Int) % (g.bs.length : Int) = (i : Int)) := fun hc => hi (by rw [cast_mod] at hc; omega)
      simp [hx, this]
    · simp [hx]
theorem BR.Rep.dueEq {g : BR} {es : List En} (h : g.Rep es) {k : Nat} {A : Option Addr} {c : Nat} {els : List En} (hb : g.bs[k % g.bs.length]? = some ⟨A, c, els⟩) : dueO k els = dueO k es := by
  have h1 := h.bk _ _ hb
  simp only at h1
  rw [h1, ← cast_mod]
  exact filter_due es
theorem BR.Rep.out {g : BR} {es : List En} (h : g.Rep es) {e : Int} (he : ¬ validE e = true) : keepE e es = es ∧ dueO e es = [] := by
  have h0 : ∀ y ∈ es, ¬ y.e = e := fun y hy hc => he (by have := h.ok y hy; subst hc; exact decide_eq_true this)
  exact ⟨keepE_all h0, dueO_none h0⟩
def allE (g : BR) : List En := g.bs.flatMap Bk.els
theorem pre_bk {bs : List (Bk En)} {i : Nat} {A : Option Addr} {c : Nat} {els : List En} (hb : bs[i]? = some ⟨A, c, els⟩) {j : Nat} (hj : j < els.length) : (bs.take i).flatMap Bk.els ++ els.take j ++ [els[j]] <+: bs.flatMap Bk.els := by
  obtain ⟨hi, hb⟩ := List.getElem?_eq_some_iff.1 hb
  have e1 : bs.flatMap Bk.els = (bs.take i).flatMap Bk.els ++ (els ++ (bs.drop (i + 1)).flatMap Bk.els) := by
    conv => lhs; rw [← List.take_append_drop i bs, List.flatMap_append, List.drop_eq_getElem_cons hi, List.flatMap_cons, hb]
  rw [e1, List.append_assoc, List.take_append_getElem hj]
  refine (List.prefix_append_right_inj _).2 ?_
  exact (List.take_prefix _ _).trans (List.prefix_append _ _)
theorem flat_succ {bs : List (Bk En)} {i : Nat} {A : Option Addr} {c : Nat} {els : List En} (hb : bs[i]? = some ⟨A, c, els⟩) : (bs.take (i + 1)).flatMap Bk.els = (bs.take i).flatMap Bk.els ++ els := by
  obtain ⟨hi, hb⟩ := List.getElem?_eq_some_iff.1 hb
  rw [← List.take_append_getElem hi, List.flatMap_append, hb]; simp

set_option maxHeartbeats 400000 in
theorem bnew_any (n : Nat) (w : World) (hn : 1 ≤ n ∧ n ≤ 4096) : Own2 (ι := (Nat × BR)) Try.prog 9 [.int .i64 (n : Int)] w [] (fun x => x.2.Rep [] ∧ x.2.bs.length = n) (fun x => .pointer (some ⟨x.1, 0, none⟩)) (fun x => [Res.blk x.1 57 [Value.slice (BR.A x.2) (BR.bs x.2).length (BR.cap x.2), Value.int .i64 (BR.n x.2)], Res.row (BR.A x.2) (BR.bs x.2).length (BR.cap x.2) 47 1 ((BR.bs x.2).map (fun k : Bk En => [k.v])), bks 50 2 En.c (BR.bs x.2)]) (fun x => []) := by
  refine g_start Try.func9 rfl 13 rfl (by simp) (fps []) [] (WOK.start _ _) _ rfl ?_
  refine g_seq ?_
  refine g_region ?_
  refine s_q (q_assign rfl) rfl ?_
  refine g_nil ?_
  refine g_then ?_
  refine g_seq ?_
  refine g_seq ?_
  refine g_region ?_
  refine s_q (q_move rfl) rfl ?_
  refine s_q (q_lss rfl rfl) rfl ?_
  refine g_litb 4 (b := false) rfl (by simp; omega) ?_
  refine s_q (q_move rfl) rfl ?_
  refine s_qg (q_move rfl) rfl rfl rfl ?_
  refine s_qg (q_gtr rfl rfl) rfl rfl rfl ?_
  refine g_litb 7 (b := false) rfl (by simp; omega) ?_
  refine s_q (q_pick_f rfl rfl) rfl ?_
  refine g_nil ?_
  refine g_then ?_
  refine g_false rfl ?_
  refine g_skip ?_
  refine g_then ?_
  refine g_seq ?_
  refine g_region ?_
  refine s_q (q_move rfl) rfl ?_
  refine g_op (g_make (n := n) rfl rfl rfl rfl (by omega) rfl fun g10 => ?_)
  refine s_q (q_build (c := [Value.slice (some ⟨g10, 0, none⟩) n n, Value.int .i64 0]) rfl rfl) rfl ?_
  refine g_op (g_box (c := [Value.slice (some ⟨g10, 0, none⟩) n n, Value.int .i64 0]) rfl rfl rfl fun b12 => ?_)
  refine s_q (q_assign rfl) rfl ?_
  refine g_nil ?_
  refine g_then ?_
  refine g_ret ?_
  refine g_bkNil 50 2 En.c n ?_
  refine g_rowels (A := some ⟨g10, 0, none⟩) ((List.replicate n (⟨none, 0, []⟩ : Bk En)).map (fun k : Bk En => [k.v])) (by rw [List.map_replicate]; rfl) ?_
  refine g_rown (A := some ⟨g10, 0, none⟩) (List.replicate n (⟨none, 0, []⟩ : Bk En)).length (by simp) ?_
  refine g_blkc (b := b12) [Value.slice (some ⟨g10, 0, none⟩) (List.replicate n (⟨none, 0, []⟩ : Bk En)).length n, Value.int .i64 0] (by simp) ?_
  exact fin1 rfl (.tmp rfl) (fun w' hw' => ⟨(b12, (BR.mk 0 (some ⟨g10, 0, none⟩) n (List.replicate n (⟨none, 0, []⟩ : Bk En)))), (by first | exact ⟨.init hn, by simp⟩ | (dsimp only; exact ⟨.init hn, by simp⟩)), rfl, by have h9 := wok_sub (L' := [Res.blk ((b12, (BR.mk 0 (some ⟨g10, 0, none⟩) n (List.replicate n (⟨none, 0, []⟩ : Bk En))))).1 57 [Value.slice (BR.A ((b12, (BR.mk 0 (some ⟨g10, 0, none⟩) n (List.replicate n (⟨none, 0, []⟩ : Bk En))))).2) (BR.bs ((b12, (BR.mk 0 (some ⟨g10, 0, none⟩) n (List.replicate n (⟨none, 0, []⟩ : Bk En))))).2).length (BR.cap ((b12, (BR.mk 0 (some ⟨g10, 0, none⟩) n (List.replicate n (⟨none, 0, []⟩ : Bk En))))).2), Value.int .i64 (BR.n ((b12, (BR.mk 0 (some ⟨g10, 0, none⟩) n (List.replicate n (⟨none, 0, []⟩ : Bk En))))).2)], Res.row (BR.A ((b12, (BR.mk 0 (some ⟨g10, 0, none⟩) n (List.replicate n (⟨none, 0, []⟩ : Bk En))))).2) (BR.bs ((b12, (BR.mk 0 (some ⟨g10, 0, none⟩) n (List.replicate n (⟨none, 0, []⟩ : Bk En))))).2).length (BR.cap ((b12, (BR.mk 0 (some ⟨g10, 0, none⟩) n (List.replicate n (⟨none, 0, []⟩ : Bk En))))).2) 47 1 ((BR.bs ((b12, (BR.mk 0 (some ⟨g10, 0, none⟩) n (List.replicate n (⟨none, 0, []⟩ : Bk En))))).2).map (fun k : Bk En => [k.v])), bks 50 2 En.c (BR.bs ((b12, (BR.mk 0 (some ⟨g10, 0, none⟩) n (List.replicate n (⟨none, 0, []⟩ : Bk En))))).2)]) w' hw'; exact h9⟩) _ (.inl rfl)

set_option maxHeartbeats 400000 in
theorem bnew_bad (n : Int) (w : World) (hn : n < 1 ∨ 4096 < n) : Pur Try.prog 9 [.int .i64 n] w (.pointer none) := by
  refine g_start Try.func9 rfl 13 rfl (by simp) ([]) [] (WOK.start _ _) _ rfl ?_
  refine g_seq ?_
  refine g_region ?_
  refine s_q (q_assign rfl) rfl ?_
  refine g_nil ?_
  refine g_then ?_
  refine g_seq ?_
  refine g_seq ?_
  refine g_region ?_
  refine s_q (q_move rfl) rfl ?_
  refine s_q (q_lss rfl rfl) rfl ?_
  refine s_q (q_move rfl) rfl ?_
  refine g_split 5 rfl (fun h1 => ?_) (fun h1 => ?_)
  · refine g_gf rfl rfl rfl rfl ?_
    refine g_gf rfl rfl rfl rfl ?_
    refine s_q (q_pick_t rfl rfl) rfl ?_
    refine g_nil ?_
    refine g_then ?_
    refine g_true rfl ?_
    refine g_seq ?_
    refine g_region ?_
    refine s_q (q_assign rfl) rfl ?_
    refine g_nil ?_
    refine g_then ?_
    refine g_ret ?_
    refine g_then_ret ?_
    exact fin1 rfl (.tmp rfl) (fun w' hw' => ⟨by rfl, hw'.upd⟩) _ (.inl rfl)
  · refine s_qg (q_move rfl) rfl rfl rfl ?_
    refine s_qg (q_gtr rfl rfl) rfl rfl rfl ?_
    refine s_q (q_pick_f rfl rfl) rfl ?_
    refine g_nil ?_
    refine g_then ?_
    refine g_cond rfl (fun h2 => ?_) (fun h2 => ?_)
    · refine g_seq ?_
      refine g_region ?_
      refine s_q (q_assign rfl) rfl ?_
      refine g_nil ?_
      refine g_then ?_
      refine g_ret ?_
      refine g_then_ret ?_
      exact fin1 rfl (.tmp rfl) (fun w' hw' => ⟨by rfl, hw'.upd⟩) _ (.inl rfl)
    · exfalso; simp at h1 h2; omega

set_option maxHeartbeats 400000 in
theorem blen_any (b : Nat) (g : BR) (es : List En) (w : World) (hw : WOK (fps [Res.blk b 57 [Value.slice (BR.A g) (BR.bs g).length (BR.cap g), Value.int .i64 (BR.n g)], Res.row (BR.A g) (BR.bs g).length (BR.cap g) 47 1 ((BR.bs g).map (fun k : Bk En => [k.v])), bks 50 2 En.c (BR.bs g)]) w [Res.blk b 57 [Value.slice (BR.A g) (BR.bs g).length (BR.cap g), Value.int .i64 (BR.n g)], Res.row (BR.A g) (BR.bs g).length (BR.cap g) 47 1 ((BR.bs g).map (fun k : Bk En => [k.v])), bks 50 2 En.c (BR.bs g)] w) (h : g.Rep es) : Keep Try.prog 12 [.pointer (some ⟨b, 0, none⟩)] w [Res.blk b 57 [Value.slice (BR.A g) (BR.bs g).length (BR.cap g), Value.int .i64 (BR.n g)], Res.row (BR.A g) (BR.bs g).length (BR.cap g) 47 1 ((BR.bs g).map (fun k : Bk En => [k.v])), bks 50 2 En.c (BR.bs g)] (.int .i64 ((es.length : Nat) : Int)) := by
  refine g_start Try.func12 rfl 9 rfl (by simp) (fps [Res.blk b 57 [Value.slice (BR.A g) (BR.bs g).length (BR.cap g), Value.int .i64 (BR.n g)], Res.row (BR.A g) (BR.bs g).length (BR.cap g) 47 1 ((BR.bs g).map (fun k : Bk En => [k.v])), bks 50 2 En.c (BR.bs g)]) [Res.blk b 57 [Value.slice (BR.A g) (BR.bs g).length (BR.cap g), Value.int .i64 (BR.n g)], Res.row (BR.A g) (BR.bs g).length (BR.cap g) 47 1 ((BR.bs g).map (fun k : Bk En => [k.v])), bks 50 2 En.c (BR.bs g)] hw _ rfl ?_
  refine g_seq ?_
  refine g_region ?_
  refine s_q (q_assign rfl) rfl ?_
  refine g_nil ?_
  refine g_then ?_
  refine g_seq ?_
  refine g_seq ?_
  refine g_region ?_
  refine s_q (q_move rfl) rfl ?_
  refine s_q (q_eqp (b := false) rfl rfl rfl) rfl ?_
  refine g_nil ?_
  refine g_then ?_
  refine g_false rfl ?_
  refine g_skip ?_
  refine g_then ?_
  refine g_seq ?_
  refine g_region ?_
  refine s_q (q_move rfl) rfl ?_
  refine s_q (q_nilck rfl) rfl ?_
  refine s_q (q_field rfl) rfl ?_
  refine s_q (q_load rfl rfl) rfl ?_
  refine s_q (q_assign rfl) rfl ?_
  refine g_nil ?_
  refine g_then ?_
  refine g_ret ?_
  exact fin1 rfl (.tmp rfl) (fun w' hw' => ⟨(), trivial, by rw [h.n], by have h9 := wok_sub (L' := [Res.blk b 57 [Value.slice (BR.A g) (BR.bs g).length (BR.cap g), Value.int .i64 (BR.n g)], Res.row (BR.A g) (BR.bs g).length (BR.cap g) 47 1 ((BR.bs g).map (fun k : Bk En => [k.v])), bks 50 2 En.c (BR.bs g)]) w' hw'; exact h9⟩) _ (.inl rfl)

set_option maxHeartbeats 400000 in
theorem valid_any (b : Nat) (e : Int) (w : World)  : Pur Try.prog 26 [.pointer (some ⟨b, 0, none⟩), .int .i64 e] w (.bool (validE e)) := by
  refine g_start Try.func26 rfl 15 rfl (by simp) ([]) [] (WOK.start _ _) _ rfl ?_
  refine g_seq ?_
  refine g_region ?_
  refine s_q (q_assign rfl) rfl ?_
  refine g_nil ?_
  refine g_then ?_
  refine g_seq ?_
  refine g_region ?_
  refine s_q (q_move rfl) rfl ?_
  refine s_q (q_nep (b := true) rfl rfl rfl) rfl ?_
  refine s_q (q_move rfl) rfl ?_
  refine s_qg (q_move rfl) rfl rfl rfl ?_
  refine s_qg (q_geq rfl rfl) rfl rfl rfl ?_
  refine s_q (q_pick_t rfl rfl) rfl ?_
  refine s_q (q_move rfl) rfl ?_
  refine g_split 11 rfl (fun h1 => ?_) (fun h1 => ?_)
  · refine s_qg (q_move rfl) rfl rfl rfl ?_
    refine s_qg (q_leq rfl rfl) rfl rfl rfl ?_
    refine s_q (q_pick_t rfl rfl) rfl ?_
    refine s_q (q_assign rfl) rfl ?_
    refine g_nil ?_
    refine g_then ?_
    refine g_ret ?_
    exact fin1 rfl (.tmp rfl) (fun w' hw' => ⟨by first | rfl | (simp_all [validE]; done) | (simp_all [validE]; omega), hw'.upd⟩) _ (.inl rfl)
  · refine g_gf rfl rfl rfl rfl ?_
    refine g_gf rfl rfl rfl rfl ?_
    refine s_q (q_pick_f rfl rfl) rfl ?_
    refine s_q (q_assign rfl) rfl ?_
    refine g_nil ?_
    refine g_then ?_
    refine g_ret ?_
    exact fin1 rfl (.tmp rfl) (fun w' hw' => ⟨by first | rfl | (simp_all [validE]; done) | (simp_all [validE]; omega), hw'.upd⟩) _ (.inl rfl)

set_option maxHeartbeats 400000 in
theorem at_any (b : Nat) (g : BR) (es : List En) (k : Nat) (w : World) (hw : WOK (fps [Res.blk b 57 [Value.slice (BR.A g) (BR.bs g).length (BR.cap g), Value.int .i64 (BR.n g)], Res.row (BR.A g) (BR.bs g).length (BR.cap g) 47 1 ((BR.bs g).map (fun k : Bk En => [k.v])), bks 50 2 En.c (BR.bs g)]) w [Res.blk b 57 [Value.slice (BR.A g) (BR.bs g).length (BR.cap g), Value.int .i64 (BR.n g)], Res.row (BR.A g) (BR.bs g).length (BR.cap g) 47 1 ((BR.bs g).map (fun k : Bk En => [k.v])), bks 50 2 En.c (BR.bs g)] w) (h : g.Rep es) : Keep Try.prog 27 [.pointer (some ⟨b, 0, none⟩), .int .i64 (k : Int)] w [Res.blk b 57 [Value.slice (BR.A g) (BR.bs g).length (BR.cap g), Value.int .i64 (BR.n g)], Res.row (BR.A g) (BR.bs g).length (BR.cap g) 47 1 ((BR.bs g).map (fun k : Bk En => [k.v])), bks 50 2 En.c (BR.bs g)] (.pointer (some ⟨bo (BR.A g), oo (BR.A g) + (k % (BR.bs g).length) * 1, none⟩)) := by
  refine g_start Try.func27 rfl 17 rfl (by simp) (fps [Res.blk b 57 [Value.slice (BR.A g) (BR.bs g).length (BR.cap g), Value.int .i64 (BR.n g)], Res.row (BR.A g) (BR.bs g).length (BR.cap g) 47 1 ((BR.bs g).map (fun k : Bk En => [k.v])), bks 50 2 En.c (BR.bs g)]) [Res.blk b 57 [Value.slice (BR.A g) (BR.bs g).length (BR.cap g), Value.int .i64 (BR.n g)], Res.row (BR.A g) (BR.bs g).length (BR.cap g) 47 1 ((BR.bs g).map (fun k : Bk En => [k.v])), bks 50 2 En.c (BR.bs g)] hw _ rfl ?_
  have hmod := h.mod k
  have hpos := h.pos
  refine g_seq ?_
  refine g_region ?_
  refine s_q (q_assign rfl) rfl ?_
  refine g_nil ?_
  refine g_then ?_
  refine g_seq ?_
  refine d_region [] mixed rfl rfl ?_
  refine d_q 0 rfl (by kernel_rfl) (q_move rfl) wok_sub rfl (ls' := #[true, false, false, false, false, false, false, false, false, false, false, false, false]) rfl ?_
  refine d_q 1 rfl (by kernel_rfl) (q_nilck rfl) wok_sub rfl (ls' := #[true, true, false, false, false, false, false, false, false, false, false, false, false]) rfl ?_
  refine d_q 2 rfl (by kernel_rfl) (q_field rfl) wok_sub rfl (ls' := #[true, true, true, false, false, false, false, false, false, false, false, false, false]) rfl ?_
  refine d_q 3 rfl (by kernel_rfl) (q_load rfl rfl) wok_sub rfl (ls' := #[true, true, true, true, false, false, false, false, false, false, false, false, false]) rfl ?_
  refine d_q 4 rfl (by kernel_rfl) (q_move rfl) wok_sub rfl (ls' := #[true, true, true, true, true, false, false, false, false, false, false, false, false]) rfl ?_
  refine d_q 5 rfl (by kernel_rfl) (q_move rfl) wok_sub rfl (ls' := #[true, true, true, true, true, true, false, false, false, false, false, false, false]) rfl ?_
  refine d_q 6 rfl (by kernel_rfl) (q_nilck rfl) wok_sub rfl (ls' := #[true, true, true, true, true, true, true, false, false, false, false, false, false]) rfl ?_
  refine d_q 7 rfl (by kernel_rfl) (q_field rfl) wok_sub rfl (ls' := #[true, true, true, true, true, true, true, true, false, false, false, false, false]) rfl ?_
  refine d_q 8 rfl (by kernel_rfl) (q_load rfl rfl) wok_sub rfl (ls' := #[true, true, true, true, true, true, true, true, true, false, false, false, false]) rfl ?_
  refine d_q 9 rfl (by kernel_rfl) (q_len rfl) wok_sub rfl (ls' := #[true, true, true, true, true, true, true, true, true, true, false, false, false]) rfl ?_
  refine d_q 10 rfl (by kernel_rfl) (q_remn (a := k) (b := (BR.bs g).length) rfl rfl (by first | omega | (simp; omega) | (simp_all; omega))) wok_sub rfl (ls' := #[true, true, true, true, true, true, true, true, true, true, true, false, false]) rfl ?_
  refine d_q 11 rfl (by kernel_rfl) (q_index (i := (k % (BR.bs g).length)) rfl rfl rfl (InRow.rdb (A := (BR.A g)) (els := ((BR.bs g)).map (fun k : Bk En => [k.v])) (by first | rfl | assumption | (simp; done) | (simp_all; done) | (simp; omega) | (simp_all; omega)) (map_cat (c := (fun k : Bk En => [k.v])) (fun _ => rfl) _)) (by first | omega | (simp; done) | (simp; omega))) wok_sub rfl (ls' := #[true, true, true, true, true, true, true, true, true, true, true, true, false]) rfl ?_
  refine d_q 12 rfl (by kernel_rfl) (q_assign rfl) wok_sub rfl (ls' := #[true, true, true, true, true, true, true, true, true, true, true, true, true]) rfl ?_
  refine d_end (by kernel_rfl) (.inr wok_sub) ?_
  refine g_then ?_
  refine g_ret ?_
  exact fin1 rfl (.tmp rfl) (fun w' hw' => ⟨(), trivial, rfl, by have h9 := wok_sub (L' := [Res.blk b 57 [Value.slice (BR.A g) (BR.bs g).length (BR.cap g), Value.int .i64 (BR.n g)], Res.row (BR.A g) (BR.bs g).length (BR.cap g) 47 1 ((BR.bs g).map (fun k : Bk En => [k.v])), bks 50 2 En.c (BR.bs g)]) w' hw'; exact h9⟩) _ (.inl rfl)

set_option maxHeartbeats 400000 in
theorem bput_any (b : Nat) (g : BR) (es : List En) (e it : Int) (w : World) (hw : WOK (fps [Res.blk b 57 [Value.slice (BR.A g) (BR.bs g).length (BR.cap g), Value.int .i64 (BR.n g)], Res.row (BR.A g) (BR.bs g).length (BR.cap g) 47 1 ((BR.bs g).map (fun k : Bk En => [k.v])), bks 50 2 En.c (BR.bs g)]) w [Res.blk b 57 [Value.slice (BR.A g) (BR.bs g).length (BR.cap g), Value.int .i64 (BR.n g)], Res.row (BR.A g) (BR.bs g).length (BR.cap g) 47 1 ((BR.bs g).map (fun k : Bk En => [k.v])), bks 50 2 En.c (BR.bs g)] w) (h : g.Rep es) (hnE : es.length ≤ 1000000) : Own2 (ι := BR) Try.prog 17 [.pointer (some ⟨b, 0, none⟩), .int .i64 e, .int .i64 it] w [Res.blk b 57 [Value.slice (BR.A g) (BR.bs g).length (BR.cap g), Value.int .i64 (BR.n g)], Res.row (BR.A g) (BR.bs g).length (BR.cap g) 47 1 ((BR.bs g).map (fun k : Bk En => [k.v])), bks 50 2 En.c (BR.bs g)] (fun x => x.Rep (putE es e it) ∧ x.bs.length = g.bs.length) (fun x => .bool (validE e)) (fun x => []) (fun x => [Res.blk b 57 [Value.slice (BR.A x) (BR.bs x).length (BR.cap x), Value.int .i64 (BR.n x)], Res.row (BR.A x) (BR.bs x).length (BR.cap x) 47 1 ((BR.bs x).map (fun k : Bk En => [k.v])), bks 50 2 En.c (BR.bs x)]) := by
  refine g_start Try.func17 rfl 32 rfl (by simp) (fps [Res.blk b 57 [Value.slice (BR.A g) (BR.bs g).length (BR.cap g), Value.int .i64 (BR.n g)], Res.row (BR.A g) (BR.bs g).length (BR.cap g) 47 1 ((BR.bs g).map (fun k : Bk En => [k.v])), bks 50 2 En.c (BR.bs g)]) [Res.blk b 57 [Value.slice (BR.A g) (BR.bs g).length (BR.cap g), Value.int .i64 (BR.n g)], Res.row (BR.A g) (BR.bs g).length (BR.cap g) 47 1 ((BR.bs g).map (fun k : Bk En => [k.v])), bks 50 2 En.c (BR.bs g)] hw _ rfl ?_
  refine g_seq ?_
  refine g_region ?_
  refine s_q (q_assign rfl) rfl ?_
  refine g_nil ?_
  refine g_then ?_
  refine g_seq ?_
  refine g_seq ?_
  refine g_region ?_
  refine s_q (q_move rfl) rfl ?_
  refine s_q (q_move rfl) rfl ?_
  refine g_op (g_pure rfl (fun w1 hw1 => valid_any _ _ w1) rfl ?_)
  refine s_q (q_not rfl) rfl ?_
  refine g_nil ?_
  refine g_then ?_
  refine g_cond rfl (fun h1 => ?_) (fun h1 => ?_)
  · have hv : ¬ validE e = true := by simpa using h1
    refine g_seq ?_
    refine g_region ?_
    refine s_q (q_assign rfl) rfl ?_
    refine g_nil ?_
    refine g_then ?_
    refine g_ret ?_
    refine g_then_ret ?_
    exact fin1 rfl (.tmp rfl) (fun w' hw' => ⟨g, (by first | exact ⟨by rw [putE, if_neg hv]; exact h, rfl⟩ | (dsimp only; exact ⟨by rw [putE, if_neg hv]; exact h, rfl⟩)), by simp [hv], by have h9 := wok_sub (L' := [Res.blk b 57 [Value.slice (BR.A g) (BR.bs g).length (BR.cap g), Value.int .i64 (BR.n g)], Res.row (BR.A g) (BR.bs g).length (BR.cap g) 47 1 ((BR.bs g).map (fun k : Bk En => [k.v])), bks 50 2 En.c (BR.bs g)]) w' hw'; exact h9⟩) _ (.inl rfl)
  · have hv : validE e = true := by simpa using h1
    obtain ⟨k, hek, hk⟩ : ∃ k : Nat, e = k ∧ k ≤ 1099511627776 := ⟨e.toNat, by have h9 := of_decide_eq_true hv; omega, by have h9 := of_decide_eq_true hv; omega⟩
    obtain ⟨A0, c0, e0, hb0⟩ := h.at_ k
    have hmod := h.mod k
    have hn0 := h.n
    have he0 : e0.length ≤ es.length := by have h9 := h.bk _ _ hb0; simp only at h9; rw [h9]; exact List.length_filter_le _ _
    refine g_val 1 (v' := .int .i64 ((k : Nat) : Int)) rfl (by rw [hek]) ?_
    refine g_skip ?_
    refine g_then ?_
    refine g_seq ?_
    refine g_region ?_
    refine s_q (q_move rfl) rfl ?_
    refine s_q (q_move rfl) rfl ?_
    refine g_op (g_keep [Res.blk b 57 [Value.slice (BR.A g) (BR.bs g).length (BR.cap g), Value.int .i64 (BR.n g)], Res.row (BR.A g) (BR.bs g).length (BR.cap g) 47 1 ((BR.bs g).map (fun k : Bk En => [k.v])), bks 50 2 En.c (BR.bs g)] rfl (fun w1 hw1 ho1 => by exact at_any b g es k w1 ho1 h) rfl ?_)
    refine s_q (q_assign rfl) rfl ?_
    refine g_nil ?_
    refine g_then ?_
    refine g_seq ?_
    refine g_region ?_
    refine s_q (q_move rfl) rfl ?_
    refine s_q (q_move rfl) rfl ?_
    refine s_q (q_nilck rfl) rfl ?_
    refine s_q (q_load_el (i := (k % (BR.bs g).length)) (o := 0) rfl (InRow.rdb (A := (BR.A g)) (els := ((BR.bs g)).map (fun k : Bk En => [k.v])) (by first | rfl | assumption | (simp; done) | (simp_all; done) | (simp; omega) | (simp_all; omega)) (map_cat (c := (fun k : Bk En => [k.v])) (fun _ => rfl) _)) (bk_get hb0) rfl rfl) rfl ?_
    refine s_q (q_move rfl) rfl ?_
    refine s_q (q_move rfl) rfl ?_
    refine s_q (q_build (c := En.c (En.mk ((k : Nat) : Int) it)) rfl rfl) rfl ?_
    refine g_op (g_lit rfl rfl rfl rfl rfl fun b22 => ?_)
    refine g_blkc (b := b22) ((([(En.mk ((k : Nat) : Int) it)] : List En).map En.c).flatten) rfl ?_
    refine g_bkOpen (T := 50) (n := 2) (c := En.c) (k % (BR.bs g).length) hb0 ?_
    refine g_op (g_append (A := A0) (els := (e0).map En.c) (news := (([(En.mk ((k : Nat) : Int) it)] : List En).map En.c)) rfl rfl (InL.rdb (b := b22) rfl (by simp [En.c]) rfl) (map_one (c := En.c) (by intro x; simp [En.c, Value.oneCell']) _) (by omega) rfl fun A23 cap23 => ⟨_, inferInstance, ?_⟩)
    refine g_rowels (A := A23) (((e0 ++ [(En.mk ((k : Nat) : Int) it)])).map En.c) (by first | rfl | exact List.map_append.symm | (simp; done)) ?_
    refine g_rown (A := A23) (e0 ++ [(En.mk ((k : Nat) : Int) it)]).length (by simp) ?_
    refine g_val 23 (v' := .slice A23 (e0 ++ [(En.mk ((k : Nat) : Int) it)]).length cap23) rfl (by simp) ?_
    refine s_q (q_nilck rfl) rfl ?_
    refine g_op (g_store_el (A := (BR.A g)) (i := (k % (BR.bs g).length)) (o := 0) (cs' := (fun k : Bk En => [k.v]) ((⟨A23, cap23, e0 ++ [(En.mk ((k : Nat) : Int) it)]⟩ : Bk En))) rfl rfl rfl rfl rfl (bk_get hb0) (by first | (simp; done) | exact Nat.le_refl _) rfl rfl ?_)
    refine g_rowels (A := (BR.A g)) (((BR.bs g).set (k % (BR.bs g).length) (⟨A23, cap23, e0 ++ [(En.mk ((k : Nat) : Int) it)]⟩ : Bk En)).map (fun k : Bk En => [k.v])) (by simp only [List.map_set]) ?_
    refine g_bkClose (T := 50) (n := 2) (c := En.c) (k % (BR.bs g).length) hmod A23 (e0 ++ [(En.mk ((k : Nat) : Int) it)]).length cap23 (e0 ++ [(En.mk ((k : Nat) : Int) it)]) rfl ?_
    refine g_nil ?_
    refine g_then ?_
    refine g_seq ?_
    refine g_region ?_
    refine s_q (q_move rfl) rfl ?_
    refine s_q (q_nilck rfl) rfl ?_
    refine s_q (q_field rfl) rfl ?_
    refine s_q (q_load rfl rfl) rfl ?_
    refine s_q (q_addz (z := BR.n g + 1) rfl rfl (wi64 (by omega) (by omega))) rfl ?_
    refine s_q (q_nilck rfl) rfl ?_
    refine s_q (q_field rfl) rfl ?_
    refine g_op (g_store rfl rfl rfl rfl rfl rfl rfl ?_)
    refine g_blkc (b := b) [Value.slice (BR.A g) (BR.bs g).length (BR.cap g), Value.int .i64 (BR.n g + 1)] (by simp [splice]) ?_
    refine g_nil ?_
    refine g_then ?_
    refine g_seq ?_
    refine g_region ?_
    refine s_q (q_assign rfl) rfl ?_
    refine g_nil ?_
    refine g_then ?_
    refine g_ret ?_
    exact fin1 rfl (.tmp rfl) (fun w' hw' => ⟨(BR.mk (BR.n g + 1) (BR.A g) (BR.cap g) ((BR.bs g).set (k % (BR.bs g).length) (⟨A23, cap23, e0 ++ [(En.mk ((k : Nat) : Int) it)]⟩ : Bk En))), (by first | exact ⟨by rw [putE, if_pos hv, hek]; exact h.put hk hb0 it, by simp⟩ | (dsimp only; exact ⟨by rw [putE, if_pos hv, hek]; exact h.put hk hb0 it, by simp⟩)), by rw [hv], by have h9 := wok_sub (L' := [Res.blk b 57 [Value.slice (BR.A g) (BR.bs g).length (BR.cap g), Value.int .i64 (BR.n g + 1)], Res.row (BR.A g) (BR.bs g).length (BR.cap g) 47 1 (((BR.bs g).set (k % (BR.bs g).length) (⟨A23, cap23, e0 ++ [(En.mk ((k : Nat) : Int) it)]⟩ : Bk En)).map (fun k : Bk En => [k.v])), bks 50 2 En.c ((BR.bs g).set (k % (BR.bs g).length) (⟨A23, cap23, e0 ++ [(En.mk ((k : Nat) : Int) it)]⟩ : Bk En))]) w' hw'; show WOK _ _ [Res.blk b 57 [Value.slice (BR.A ((BR.mk (BR.n g + 1) (BR.A g) (BR.cap g) ((BR.bs g).set (k % (BR.bs g).length) (⟨A23, cap23, e0 ++ [(En.mk ((k : Nat) : Int) it)]⟩ : Bk En))))) (BR.bs ((BR.mk (BR.n g + 1) (BR.A g) (BR.cap g) ((BR.bs g).set (k % (BR.bs g).length) (⟨A23, cap23, e0 ++ [(En.mk ((k : Nat) : Int) it)]⟩ : Bk En))))).length (BR.cap ((BR.mk (BR.n g + 1) (BR.A g) (BR.cap g) ((BR.bs g).set (k % (BR.bs g).length) (⟨A23, cap23, e0 ++ [(En.mk ((k : Nat) : Int) it)]⟩ : Bk En))))), Value.int .i64 (BR.n ((BR.mk (BR.n g + 1) (BR.A g) (BR.cap g) ((BR.bs g).set (k % (BR.bs g).length) (⟨A23, cap23, e0 ++ [(En.mk ((k : Nat) : Int) it)]⟩ : Bk En)))))], Res.row (BR.A ((BR.mk (BR.n g + 1) (BR.A g) (BR.cap g) ((BR.bs g).set (k % (BR.bs g).length) (⟨A23, cap23, e0 ++ [(En.mk ((k : Nat) : Int) it)]⟩ : Bk En))))) (BR.bs ((BR.mk (BR.n g + 1) (BR.A g) (BR.cap g) ((BR.bs g).set (k % (BR.bs g).length) (⟨A23, cap23, e0 ++ [(En.mk ((k : Nat) : Int) it)]⟩ : Bk En))))).length (BR.cap ((BR.mk (BR.n g + 1) (BR.A g) (BR.cap g) ((BR.bs g).set (k % (BR.bs g).length) (⟨A23, cap23, e0 ++ [(En.mk ((k : Nat) : Int) it)]⟩ : Bk En))))) 47 1 ((BR.bs ((BR.mk (BR.n g + 1) (BR.A g) (BR.cap g) ((BR.bs g).set (k % (BR.bs g).length) (⟨A23, cap23, e0 ++ [(En.mk ((k : Nat) : Int) it)]⟩ : Bk En))))).map (fun k : Bk En => [k.v])), bks 50 2 En.c (BR.bs ((BR.mk (BR.n g + 1) (BR.A g) (BR.cap g) ((BR.bs g).set (k % (BR.bs g).length) (⟨A23, cap23, e0 ++ [(En.mk ((k : Nat) : Int) it)]⟩ : Bk En)))))] _; simp only [List.length_set]; exact h9⟩) _ (.inl rfl)

set_option maxHeartbeats 400000 in
theorem bdue_any (b : Nat) (g : BR) (es : List En) (e : Int) (w : World) (hw : WOK (fps [Res.blk b 57 [Value.slice (BR.A g) (BR.bs g).length (BR.cap g), Value.int .i64 (BR.n g)], Res.row (BR.A g) (BR.bs g).length (BR.cap g) 47 1 ((BR.bs g).map (fun k : Bk En => [k.v])), bks 50 2 En.c (BR.bs g)]) w [Res.blk b 57 [Value.slice (BR.A g) (BR.bs g).length (BR.cap g), Value.int .i64 (BR.n g)], Res.row (BR.A g) (BR.bs g).length (BR.cap g) 47 1 ((BR.bs g).map (fun k : Bk En => [k.v])), bks 50 2 En.c (BR.bs g)] w) (h : g.Rep es) (hnE : es.length ≤ 1000000) : Own2 (ι := (Option Addr × Nat × BR)) Try.prog 18 [.pointer (some ⟨b, 0, none⟩), .int .i64 e] w [Res.blk b 57 [Value.slice (BR.A g) (BR.bs g).length (BR.cap g), Value.int .i64 (BR.n g)], Res.row (BR.A g) (BR.bs g).length (BR.cap g) 47 1 ((BR.bs g).map (fun k : Bk En => [k.v])), bks 50 2 En.c (BR.bs g)] (fun x => x.2.2.Rep (keepE e es) ∧ x.2.2.bs.length = g.bs.length) (fun x => .slice x.1 (dueO e es).length x.2.1) (fun x => [Res.row x.1 (dueO e es).length x.2.1 3 1 ((dueO e es).map (fun v : Int => [Value.int .i64 v]))]) (fun x => [Res.blk b 57 [Value.slice (BR.A x.2.2) (BR.bs x.2.2).length (BR.cap x.2.2), Value.int .i64 (BR.n x.2.2)], Res.row (BR.A x.2.2) (BR.bs x.2.2).length (BR.cap x.2.2) 47 1 ((BR.bs x.2.2).map (fun k : Bk En => [k.v])), bks 50 2 En.c (BR.bs x.2.2)]) := by
  refine g_start Try.func18 rfl 31 rfl (by simp) (fps [Res.blk b 57 [Value.slice (BR.A g) (BR.bs g).length (BR.cap g), Value.int .i64 (BR.n g)], Res.row (BR.A g) (BR.bs g).length (BR.cap g) 47 1 ((BR.bs g).map (fun k : Bk En => [k.v])), bks 50 2 En.c (BR.bs g)]) [Res.blk b 57 [Value.slice (BR.A g) (BR.bs g).length (BR.cap g), Value.int .i64 (BR.n g)], Res.row (BR.A g) (BR.bs g).length (BR.cap g) 47 1 ((BR.bs g).map (fun k : Bk En => [k.v])), bks 50 2 En.c (BR.bs g)] hw _ rfl ?_
  refine g_seq ?_
  refine g_region ?_
  refine g_op (g_box rfl rfl rfl fun b3 => ?_)
  refine s_q (q_assign rfl) rfl ?_
  refine g_nil ?_
  refine g_then ?_
  refine g_seq ?_
  refine g_seq ?_
  refine g_region ?_
  refine s_q (q_move rfl) rfl ?_
  refine s_q (q_load rfl rfl) rfl ?_
  refine g_op (g_pure rfl (fun w1 hw1 => valid_any _ _ w1) rfl ?_)
  refine s_q (q_not rfl) rfl ?_
  refine g_nil ?_
  refine g_then ?_
  refine g_cond rfl (fun h1 => ?_) (fun h1 => ?_)
  · have hv : ¬ validE e = true := by simpa using h1
    refine g_seq ?_
    refine g_region ?_
    refine s_q (q_assign rfl) rfl ?_
    refine g_nil ?_
    refine g_then ?_
    refine g_ret ?_
    refine g_then_ret ?_
    refine g_noresL none 3 1 ((dueO e es).map (fun v : Int => [Value.int .i64 v])) (by rw [(h.out hv).2]; rfl) ?_
    exact fin1 rfl (.tmp rfl) (fun w' hw' => ⟨((none : Option Addr), 0, g), (by first | exact ⟨by rw [(h.out hv).1]; exact h, rfl⟩ | (dsimp only; exact ⟨by rw [(h.out hv).1]; exact h, rfl⟩)), by rw [(h.out hv).2]; rfl, by have h9 := wok_sub (L' := [Res.row none 0 0 3 1 ((dueO e es).map (fun v : Int => [Value.int .i64 v])), Res.blk b 57 [Value.slice (BR.A g) (BR.bs g).length (BR.cap g), Value.int .i64 (BR.n g)], Res.row (BR.A g) (BR.bs g).length (BR.cap g) 47 1 ((BR.bs g).map (fun k : Bk En => [k.v])), bks 50 2 En.c (BR.bs g)]) w' hw'; show WOK _ _ [Res.row (((none : Option Addr), 0, g)).1 (dueO e es).length (((none : Option Addr), 0, g)).2.1 3 1 ((dueO e es).map (fun v : Int => [Value.int .i64 v])), Res.blk b 57 [Value.slice (BR.A (((none : Option Addr), 0, g)).2.2) (BR.bs (((none : Option Addr), 0, g)).2.2).length (BR.cap (((none : Option Addr), 0, g)).2.2), Value.int .i64 (BR.n (((none : Option Addr), 0, g)).2.2)], Res.row (BR.A (((none : Option Addr), 0, g)).2.2) (BR.bs (((none : Option Addr), 0, g)).2.2).length (BR.cap (((none : Option Addr), 0, g)).2.2) 47 1 ((BR.bs (((none : Option Addr), 0, g)).2.2).map (fun k : Bk En => [k.v])), bks 50 2 En.c (BR.bs (((none : Option Addr), 0, g)).2.2)] _; rw [show (dueO e es).length = 0 from by rw [(h.out hv).2]; rfl]; exact h9⟩) _ (.inl rfl)
  · have hv : validE e = true := by simpa using h1
    obtain ⟨k, hek, hk⟩ : ∃ k : Nat, e = k ∧ k ≤ 1099511627776 := ⟨e.toNat, by have h9 := of_decide_eq_true hv; omega, by have h9 := of_decide_eq_true hv; omega⟩
    obtain ⟨A0, c0, e0, hb0⟩ := h.at_ k
    have hmod := h.mod k
    have hn0 := h.n
    have he0 : e0.length ≤ es.length := by have h9 := h.bk _ _ hb0; simp only at h9; rw [h9]; exact List.length_filter_le _ _
    refine g_blkc (b := b3) [Value.int .i64 ((k : Nat) : Int)] (by rw [hek]) ?_
    refine g_skip ?_
    refine g_then ?_
    refine g_seq ?_
    refine g_region ?_
    refine g_op (g_alloc rfl fun b5 => ?_)
    refine g_blkc (b := b5) [Value.slice none (([] : List Int)).length 0] rfl ?_
    refine g_noresL none 3 1 ((([] : List Int)).map (fun v : Int => [Value.int .i64 v])) rfl ?_
    refine g_nil ?_
    refine g_then ?_
    refine g_seq ?_
    refine g_region ?_
    refine s_q (q_move rfl) rfl ?_
    refine s_q (q_load rfl rfl) rfl ?_
    refine g_op (g_keep [Res.blk b 57 [Value.slice (BR.A g) (BR.bs g).length (BR.cap g), Value.int .i64 (BR.n g)], Res.row (BR.A g) (BR.bs g).length (BR.cap g) 47 1 ((BR.bs g).map (fun k : Bk En => [k.v])), bks 50 2 En.c (BR.bs g)] rfl (fun w1 hw1 ho1 => by exact at_any b g es k w1 ho1 h) rfl ?_)
    refine s_q (q_assign rfl) rfl ?_
    refine g_nil ?_
    refine g_then ?_
    refine g_seq ?_
    refine g_region ?_
    refine s_q (q_move rfl) rfl ?_
    refine s_q (q_move rfl) rfl ?_
    refine s_q (q_nilck rfl) rfl ?_
    refine s_q (q_load_el (i := (k % (BR.bs g).length)) (o := 0) rfl (InRow.rdb (A := (BR.A g)) (els := ((BR.bs g)).map (fun k : Bk En => [k.v])) (by first | rfl | assumption | (simp; done) | (simp_all; done) | (simp; omega) | (simp_all; omega)) (map_cat (c := (fun k : Bk En => [k.v])) (fun _ => rfl) _)) (bk_get hb0) rfl rfl) rfl ?_
    refine s_q (q_funcL rfl rfl (fun _ => rfl)) rfl ?_
    refine g_bkOpen (T := 50) (n := 2) (c := En.c) (k % (BR.bs g).length) hb0 ?_
    refine g_op (g_ownS [Res.row A0 e0.length c0 50 2 ((e0).map En.c), Res.blk b3 3 [Value.int .i64 (((k : Nat) : Int))], Res.blk b5 27 [Value.slice none (([] : List Int)).length 0], Res.row none (([] : List Int)).length 0 3 1 ((([] : List Int)).map (fun v : Int => [Value.int .i64 v]))] rfl (fun w1 hw1 ho1 => by have h7 := delete_any b3 b5 ((k : Nat) : Int) none 0 ([] : List Int) A0 (e0.length) c0 e0 w1 ho1 rfl (by simp; omega); exact h7) rfl ?_)
    rintro ⟨A19, c19, O19, oc19⟩ _
    refine ⟨_, _, inferInstance, inferInstance, ?_⟩
    refine s_q (q_nilck rfl) rfl ?_
    refine g_op (g_store_el (A := (BR.A g)) (i := (k % (BR.bs g).length)) (o := 0) (cs' := (fun k : Bk En => [k.v]) ((⟨A19, c19, keepE ((k : Nat) : Int) e0⟩ : Bk En))) rfl rfl rfl rfl rfl (bk_get hb0) (by first | (simp; done) | exact Nat.le_refl _) rfl rfl ?_)
    refine g_rowels (A := (BR.A g)) (((BR.bs g).set (k % (BR.bs g).length) (⟨A19, c19, keepE ((k : Nat) : Int) e0⟩ : Bk En)).map (fun k : Bk En => [k.v])) (by simp only [List.map_set]) ?_
    refine g_bkClose (T := 50) (n := 2) (c := En.c) (k % (BR.bs g).length) hmod A19 (keepE ((k : Nat) : Int) e0).length c19 (keepE ((k : Nat) : Int) e0) rfl ?_
    have hdq : ([] : List Int) ++ dueO ((k : Nat) : Int) e0 = (dueO ((k : Nat) : Int) es) := by rw [List.nil_append]; exact h.dueEq hb0
    refine g_blkc (b := b5) [Value.slice O19 (dueO ((k : Nat) : Int) es).length oc19] (by rw [hdq]) ?_
    refine g_rowels (A := O19) ((dueO ((k : Nat) : Int) es).map (fun v : Int => [Value.int .i64 v])) (by rw [hdq]) ?_
    refine g_rown (A := O19) (dueO ((k : Nat) : Int) es).length (by rw [hdq]) ?_
    have hdk := due_keep ((k : Nat) : Int) es
    refine g_nil ?_
    refine g_then ?_
    refine g_seq ?_
    refine d_region [9] mixed rfl rfl ?_
    refine d_q 0 rfl (by kernel_rfl) (q_move rfl) wok_sub rfl (ls' := #[true, false, false, false, false, false, false, false, false, false]) rfl ?_
    refine d_q 1 rfl (by kernel_rfl) (q_nilck rfl) wok_sub rfl (ls' := #[true, true, false, false, false, false, false, false, false, false]) rfl ?_
    refine d_q 2 rfl (by kernel_rfl) (q_field rfl) wok_sub rfl (ls' := #[true, true, true, false, false, false, false, false, false, false]) rfl ?_
    refine d_q 3 rfl (by kernel_rfl) (q_load rfl rfl) wok_sub rfl (ls' := #[true, true, true, true, false, false, false, false, false, false]) rfl ?_
    refine d_q 4 rfl (by kernel_rfl) (q_load rfl rfl) wok_sub rfl (ls' := #[true, true, true, true, true, false, false, false, false, false]) rfl ?_
    refine d_q 5 rfl (by kernel_rfl) (q_len rfl) wok_sub rfl (ls' := #[true, true, true, true, true, true, false, false, false, false]) rfl ?_
    refine d_q 6 rfl (by kernel_rfl) (q_subz (z := BR.n g - ((dueO ((k : Nat) : Int) es).length : Nat)) rfl rfl (wi64 (by omega) (by omega))) wok_sub rfl (ls' := #[true, true, true, true, true, true, true, false, false, false]) rfl ?_
    refine d_p 7 rfl (by kernel_rfl) (fun _ => q_nilck rfl) rfl (ls' := #[true, true, true, true, true, true, true, true, false, false]) rfl ?_
    refine d_q 8 rfl (by kernel_rfl) (q_field rfl) wok_sub rfl (ls' := #[true, true, true, true, true, true, true, true, true, false]) rfl ?_
    refine d_op 9 rfl (by kernel_rfl) (ls' := #[true, true, true, true, true, true, true, true, true, true]) rfl wok_sub (g_store rfl rfl rfl rfl rfl rfl rfl ?_)
    refine g_blkc (b := b) [Value.slice (BR.A g) (BR.bs g).length (BR.cap g), Value.int .i64 (((keepE ((k : Nat) : Int) es).length : Nat) : Int)] (by simp [splice]; omega) ?_
    refine d_end (by kernel_rfl) (.inl rfl) ?_
    refine g_then ?_
    refine g_seq ?_
    refine g_region ?_
    refine s_q (q_load rfl rfl) rfl ?_
    refine s_q (q_assign rfl) rfl ?_
    refine g_nil ?_
    refine g_then ?_
    refine g_ret ?_
    exact fin1 rfl (.tmp rfl) (fun w' hw' => ⟨(O19, oc19, (BR.mk (((keepE ((k : Nat) : Int) es).length : Nat) : Int) (BR.A g) (BR.cap g) ((BR.bs g).set (k % (BR.bs g).length) (⟨A19, c19, keepE ((k : Nat) : Int) e0⟩ : Bk En)))), (by first | exact ⟨by rw [hek]; exact h.due hb0, by simp⟩ | (dsimp only; exact ⟨by rw [hek]; exact h.due hb0, by simp⟩)), by rw [hek], by have h9 := wok_sub (L' := [Res.row O19 (dueO ((k : Nat) : Int) es).length oc19 3 1 ((dueO ((k : Nat) : Int) es).map (fun v : Int => [Value.int .i64 v])), Res.blk b 57 [Value.slice (BR.A g) (BR.bs g).length (BR.cap g), Value.int .i64 ((((keepE ((k : Nat) : Int) es).length : Nat) : Int))], Res.row (BR.A g) (BR.bs g).length (BR.cap g) 47 1 (((BR.bs g).set (k % (BR.bs g).length) (⟨A19, c19, keepE ((k : Nat) : Int) e0⟩ : Bk En)).map (fun k : Bk En => [k.v])), bks 50 2 En.c ((BR.bs g).set (k % (BR.bs g).length) (⟨A19, c19, keepE ((k : Nat) : Int) e0⟩ : Bk En))]) w' hw'; show WOK _ _ [Res.row ((O19, oc19, (BR.mk (((keepE ((k : Nat) : Int) es).length : Nat) : Int) (BR.A g) (BR.cap g) ((BR.bs g).set (k % (BR.bs g).length) (⟨A19, c19, keepE ((k : Nat) : Int) e0⟩ : Bk En))))).1 (dueO e es).length ((O19, oc19, (BR.mk (((keepE ((k : Nat) : Int) es).length : Nat) : Int) (BR.A g) (BR.cap g) ((BR.bs g).set (k % (BR.bs g).length) (⟨A19, c19, keepE ((k : Nat) : Int) e0⟩ : Bk En))))).2.1 3 1 ((dueO e es).map (fun v : Int => [Value.int .i64 v])), Res.blk b 57 [Value.slice (BR.A ((O19, oc19, (BR.mk (((keepE ((k : Nat) : Int) es).length : Nat) : Int) (BR.A g) (BR.cap g) ((BR.bs g).set (k % (BR.bs g).length) (⟨A19, c19, keepE ((k : Nat) : Int) e0⟩ : Bk En))))).2.2) (BR.bs ((O19, oc19, (BR.mk (((keepE ((k : Nat) : Int) es).length : Nat) : Int) (BR.A g) (BR.cap g) ((BR.bs g).set (k % (BR.bs g).length) (⟨A19, c19, keepE ((k : Nat) : Int) e0⟩ : Bk En))))).2.2).length (BR.cap ((O19, oc19, (BR.mk (((keepE ((k : Nat) : Int) es).length : Nat) : Int) (BR.A g) (BR.cap g) ((BR.bs g).set (k % (BR.bs g).length) (⟨A19, c19, keepE ((k : Nat) : Int) e0⟩ : Bk En))))).2.2), Value.int .i64 (BR.n ((O19, oc19, (BR.mk (((keepE ((k : Nat) : Int) es).length : Nat) : Int) (BR.A g) (BR.cap g) ((BR.bs g).set (k % (BR.bs g).length) (⟨A19, c19, keepE ((k : Nat) : Int) e0⟩ : Bk En))))).2.2)], Res.row (BR.A ((O19, oc19, (BR.mk (((keepE ((k : Nat) : Int) es).length : Nat) : Int) (BR.A g) (BR.cap g) ((BR.bs g).set (k % (BR.bs g).length) (⟨A19, c19, keepE ((k : Nat) : Int) e0⟩ : Bk En))))).2.2) (BR.bs ((O19, oc19, (BR.mk (((keepE ((k : Nat) : Int) es).length : Nat) : Int) (BR.A g) (BR.cap g) ((BR.bs g).set (k % (BR.bs g).length) (⟨A19, c19, keepE ((k : Nat) : Int) e0⟩ : Bk En))))).2.2).length (BR.cap ((O19, oc19, (BR.mk (((keepE ((k : Nat) : Int) es).length : Nat) : Int) (BR.A g) (BR.cap g) ((BR.bs g).set (k % (BR.bs g).length) (⟨A19, c19, keepE ((k : Nat) : Int) e0⟩ : Bk En))))).2.2) 47 1 ((BR.bs ((O19, oc19, (BR.mk (((keepE ((k : Nat) : Int) es).length : Nat) : Int) (BR.A g) (BR.cap g) ((BR.bs g).set (k % (BR.bs g).length) (⟨A19, c19, keepE ((k : Nat) : Int) e0⟩ : Bk En))))).2.2).map (fun k : Bk En => [k.v])), bks 50 2 En.c (BR.bs ((O19, oc19, (BR.mk (((keepE ((k : Nat) : Int) es).length : Nat) : Int) (BR.A g) (BR.cap g) ((BR.bs g).set (k % (BR.bs g).length) (⟨A19, c19, keepE ((k : Nat) : Int) e0⟩ : Bk En))))).2.2)] _; rw [hek]; simp only [List.length_set]; exact h9⟩) _ (.inl rfl)

set_option maxHeartbeats 400000 in
theorem bload_any (b : Nat) (g : BR) (es : List En) (k : Int) (w : World) (hw : WOK (fps [Res.blk b 57 [Value.slice (BR.A g) (BR.bs g).length (BR.cap g), Value.int .i64 (BR.n g)], Res.row (BR.A g) (BR.bs g).length (BR.cap g) 47 1 ((BR.bs g).map (fun k : Bk En => [k.v])), bks 50 2 En.c (BR.bs g)]) w [Res.blk b 57 [Value.slice (BR.A g) (BR.bs g).length (BR.cap g), Value.int .i64 (BR.n g)], Res.row (BR.A g) (BR.bs g).length (BR.cap g) 47 1 ((BR.bs g).map (fun k : Bk En => [k.v])), bks 50 2 En.c (BR.bs g)] w) (h : g.Rep es) : Keep Try.prog 15 [.pointer (some ⟨b, 0, none⟩), .int .i64 k] w [Res.blk b 57 [Value.slice (BR.A g) (BR.bs g).length (BR.cap g), Value.int .i64 (BR.n g)], Res.row (BR.A g) (BR.bs g).length (BR.cap g) 47 1 ((BR.bs g).map (fun k : Bk En => [k.v])), bks 50 2 En.c (BR.bs g)] (.int .i64 (loadE (BR.bs g).length es k)) := by
  refine g_start Try.func15 rfl 28 rfl (by simp) (fps [Res.blk b 57 [Value.slice (BR.A g) (BR.bs g).length (BR.cap g), Value.int .i64 (BR.n g)], Res.row (BR.A g) (BR.bs g).length (BR.cap g) 47 1 ((BR.bs g).map (fun k : Bk En => [k.v])), bks 50 2 En.c (BR.bs g)]) [Res.blk b 57 [Value.slice (BR.A g) (BR.bs g).length (BR.cap g), Value.int .i64 (BR.n g)], Res.row (BR.A g) (BR.bs g).length (BR.cap g) 47 1 ((BR.bs g).map (fun k : Bk En => [k.v])), bks 50 2 En.c (BR.bs g)] hw _ rfl ?_
  refine g_seq ?_
  refine g_region ?_
  refine s_q (q_assign rfl) rfl ?_
  refine g_nil ?_
  refine g_then ?_
  refine g_seq ?_
  refine g_seq ?_
  refine g_region ?_
  refine s_q (q_move rfl) rfl ?_
  refine s_q (q_eqp (b := false) rfl rfl rfl) rfl ?_
  refine s_q (q_move rfl) rfl ?_
  refine s_qg (q_move rfl) rfl rfl rfl ?_
  refine s_qg (q_lss rfl rfl) rfl rfl rfl ?_
  refine s_q (q_pick_f rfl rfl) rfl ?_
  refine s_q (q_move rfl) rfl ?_
  refine g_split 11 rfl (fun h1 => ?_) (fun h1 => ?_)
  · refine g_gf rfl rfl rfl rfl ?_
    refine g_gf rfl rfl rfl rfl ?_
    refine g_gf rfl rfl rfl rfl ?_
    refine g_gf rfl rfl rfl rfl ?_
    refine g_gf rfl rfl rfl rfl ?_
    refine g_gf rfl rfl rfl rfl ?_
    refine g_gf rfl rfl rfl rfl ?_
    refine s_q (q_pick_t rfl rfl) rfl ?_
    refine g_nil ?_
    refine g_then ?_
    refine g_true rfl ?_
    refine g_seq ?_
    refine g_region ?_
    refine s_q (q_assign rfl) rfl ?_
    refine g_nil ?_
    refine g_then ?_
    refine g_ret ?_
    refine g_then_ret ?_
    exact fin1 rfl (.tmp rfl) (fun w' hw' => ⟨(), trivial, by first | (rw [loadE, if_pos (by omega), ← he0]; done) | (rw [loadE, if_neg (by first | omega | (simp_all; omega) | simp_all)]), by have h9 := wok_sub (L' := [Res.blk b 57 [Value.slice (BR.A g) (BR.bs g).length (BR.cap g), Value.int .i64 (BR.n g)], Res.row (BR.A g) (BR.bs g).length (BR.cap g) 47 1 ((BR.bs g).map (fun k : Bk En => [k.v])), bks 50 2 En.c (BR.bs g)]) w' hw'; exact h9⟩) _ (.inl rfl)
  · refine s_qg (q_move rfl) rfl rfl rfl ?_
    refine s_qg (q_move rfl) rfl rfl rfl ?_
    refine s_qg (q_nilck rfl) rfl rfl rfl ?_
    refine s_qg (q_field rfl) rfl rfl rfl ?_
    refine s_qg (q_load rfl rfl) rfl rfl rfl ?_
    refine s_qg (q_len rfl) rfl rfl rfl ?_
    refine s_qg (q_geq rfl rfl) rfl rfl rfl ?_
    refine s_q (q_pick_f rfl rfl) rfl ?_
    refine g_nil ?_
    refine g_then ?_
    refine g_cond rfl (fun h2 => ?_) (fun h2 => ?_)
    · refine g_seq ?_
      refine g_region ?_
      refine s_q (q_assign rfl) rfl ?_
      refine g_nil ?_
      refine g_then ?_
      refine g_ret ?_
      refine g_then_ret ?_
      exact fin1 rfl (.tmp rfl) (fun w' hw' => ⟨(), trivial, by first | (rw [loadE, if_pos (by omega), ← he0]; done) | (rw [loadE, if_neg (by first | omega | (simp_all; omega) | simp_all)]), by have h9 := wok_sub (L' := [Res.blk b 57 [Value.slice (BR.A g) (BR.bs g).length (BR.cap g), Value.int .i64 (BR.n g)], Res.row (BR.A g) (BR.bs g).length (BR.cap g) 47 1 ((BR.bs g).map (fun k : Bk En => [k.v])), bks 50 2 En.c (BR.bs g)]) w' hw'; exact h9⟩) _ (.inl rfl)
    · have hk0 : 0 ≤ k ∧ k < ((BR.bs g).length : Int) := by have h9 := h2; simp_all <;> omega
      obtain ⟨k, rfl, hk⟩ : ∃ q : Nat, k = q ∧ q < (BR.bs g).length := ⟨k.toNat, by omega, by omega⟩
      obtain ⟨A0, c0, e0, hb0⟩ : ∃ A c els, (BR.bs g)[k]? = some ⟨A, c, els⟩ := ⟨_, _, _, List.getElem?_eq_getElem hk⟩
      have he0 := h.bk _ _ hb0
      simp only at he0
      refine g_skip ?_
      refine g_then ?_
      refine g_seq ?_
      refine g_region ?_
      refine s_q (q_move rfl) rfl ?_
      refine s_q (q_nilck rfl) rfl ?_
      refine s_q (q_field rfl) rfl ?_
      refine s_q (q_load rfl rfl) rfl ?_
      refine s_q (q_move rfl) rfl ?_
      refine s_q (q_index (i := k) rfl rfl rfl (InRow.rdb (A := (BR.A g)) (els := ((BR.bs g)).map (fun k : Bk En => [k.v])) (by first | rfl | assumption | (simp; done) | (simp_all; done) | (simp; omega) | (simp_all; omega)) (map_cat (c := (fun k : Bk En => [k.v])) (fun _ => rfl) _)) (by first | omega | (simp; done) | (simp; omega))) rfl ?_
      refine s_q (q_load_el (i := k) (o := 0) rfl (InRow.rdb (A := (BR.A g)) (els := ((BR.bs g)).map (fun k : Bk En => [k.v])) (by first | rfl | assumption | (simp; done) | (simp_all; done) | (simp; omega) | (simp_all; omega)) (map_cat (c := (fun k : Bk En => [k.v])) (fun _ => rfl) _)) (bk_get hb0) rfl rfl) rfl ?_
      refine s_q (q_len rfl) rfl ?_
      refine s_q (q_assign rfl) rfl ?_
      refine g_nil ?_
      refine g_then ?_
      refine g_ret ?_
      exact fin1 rfl (.tmp rfl) (fun w' hw' => ⟨(), trivial, by first | (rw [loadE, if_pos (by omega), ← he0]; done) | (rw [loadE, if_neg (by first | omega | (simp_all; omega) | simp_all)]), by have h9 := wok_sub (L' := [Res.blk b 57 [Value.slice (BR.A g) (BR.bs g).length (BR.cap g), Value.int .i64 (BR.n g)], Res.row (BR.A g) (BR.bs g).length (BR.cap g) 47 1 ((BR.bs g).map (fun k : Bk En => [k.v])), bks 50 2 En.c (BR.bs g)]) w' hw'; exact h9⟩) _ (.inl rfl)
end Go.Proofs.Ytgbghjnlicldnaa
