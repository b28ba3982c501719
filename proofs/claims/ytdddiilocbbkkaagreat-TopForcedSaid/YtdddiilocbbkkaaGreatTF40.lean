/- TopForced: for every configuration and all operations the law returns true. No condition. Part 40 of 42. -/
import Derived.Test.YtdddiilocbbkkaaGreatTF36
import Derived.Test.YtdddiilocbbkkaaGreatTF39
set_option linter.unusedVariables false
set_option linter.unusedSimpArgs false
namespace Go.Proofs.YtdddiilocbbkkaaGreat
open Go.RowKit Go.Eg
set_option maxHeartbeats 4000000
set_option synthInstance.maxSize 3000
set_option maxRecDepth 100000
structure RX where
 r : Rc
 O : Option Addr
 oc : Nat
 pA : Option Addr
 pc : Nat
def RX.c (x : RX) : List Value := [.int .i64 x.r.k, .int .i64 x.r.code, .int .i64 x.r.i, .int .i64 x.r.blk, .int .i64 x.r.ep, .int .i64 x.r.dl, .slice x.O x.r.ag.length x.oc, .slice x.pA x.r.ps.length x.pc, .int .i64 x.r.vis]
def RX.rows (x : RX) : List Res := [.row x.O x.r.ag.length x.oc 55 3 (x.r.ag.map As.cs), .row x.pA x.r.ps.length x.pc 50 3 (x.r.ps.map Y.c)]
def stepA (t : Eg × List Rc) (y : Op) : Eg × List Rc := ((applyE t.1 y).1, t.2 ++ [(applyE t.1 y).2])
def runK (s : Eg) (l : List Op) (k : Nat) : Eg × List Rc := (l.take k).foldl stepA (s, [])
def runE (s : Eg) (l : List Op) : Eg × List Rc := l.foldl stepA (s, [])
theorem runK_succ {s : Eg} {l : List Op} {k : Nat} (h : k < l.length) : runK s l (k + 1) = stepA (runK s l k) l[k] := wE _ _ h
theorem runK_end (s : Eg) (l : List Op) : runK s l l.length = runE s l := by unfold runK runE; rw [List.take_length]
theorem applyE_blk (s : Eg) (y : Op) : (applyE s y).1.blk ≤ s.blk + 1 := by
 unfold applyE
 split
 ·rw [tickE_fr]; exact Nat.le_refl _
 ·unfold actE
  repeat' split
  ·show (depE s y).1.blk ≤ _; rw [depE_fr]; exact Nat.le_succ _
  ·show (leaveE s 1 y.i).1.blk ≤ _; rw [leaveE_fr]; exact Nat.le_succ _
  ·show (leaveE s 0 y.i).1.blk ≤ _; rw [leaveE_fr]; exact Nat.le_succ _
  ·show (slashE s y.i).1.blk ≤ _; rw [slashE_fr]; exact Nat.le_succ _
  ·show (consE s y.i y.t).1.blk ≤ _; rw [consE_fr]; exact Nat.le_succ _
  ·show (partE s y.i y.a).1.blk ≤ _; rw [partE_fr]; exact Nat.le_succ _
  ·exact Nat.le_succ _
theorem runK_inv {s : Eg} {l : List Op} (hi : Inv s) (hl : ∀ y ∈ l, y.ok) (hb : s.blk + l.length < 1000000000) : ∀ k, k ≤ l.length → Inv (runK s l k).1 ∧ (runK s l k).1.blk ≤ s.blk + k ∧ (runK s l k).1.c = s.c ∧ (runK s l k).2.length = k
 | 0, _ => ⟨hi, Nat.le_refl _, rfl, rfl⟩
 | k + 1, h => by
  obtain ⟨h1, h2, h3, h4⟩ := runK_inv hi hl hb k (by omega)
  rw [runK_succ (by omega)]
  have ho := hl _ (List.getElem_mem (show k < l.length by omega))
  exact ⟨applyE_inv h1 (by omega) ⟨ho.a⟩, Nat.le_trans (applyE_blk _ _) (by omega), (applyE_c _ _).trans h3, by show ((runK s l k).2 ++ [_]).length = _; simp [h4]⟩
theorem catch_idle (p q : Value) (w : World) : Own2R (ι := Unit) Tryz.prog 124 [p, q] w [] (fun _ => True) (fun _ => .tuple #[]) (fun _ => []) (fun _ => []) := by
 refine callsDIn_of_wpSIn Tryz.func124 rfl trivial fun c₀ cs hu => ?_
 apply wpSIn_seq
 apply wpSIn_region
 simp [wpOpsSIn, go_sem, recoverD, hu, Exit.thenS]
 refine wpSIn_of_wpIn rfl ?_
 have hst : St ⟨[], w, 13, [], none⟩ [(5, .nilIface)] [] { tmps := #[p, q] ++ (Array.replicate 11 undef).setIfInBounds 3 Value.nilIface, defers := [] } w := by
  refine ⟨rfl, by simp, fun k v hk => ?_, WOK.start _ _⟩
  simp [Eg.look] at hk
  obtain ⟨rfl, rfl⟩ := hk
  simp
 refine (?_ : G ⟨[], w, 13, [], none⟩ [(5, .nilIface)] [] _) _ _ hst
 refine rn [14,1] ?_
 refine s_q (q_eqif ⟨#[], by kernel_rfl⟩ rfl) rfl ?_
 refine rn [0,19,10,3,9,15] ?_
 intro a w' hs
 cases c₀
 simp_all [bodyPostS, results]
 exact ⟨hs.defers, hs.wok⟩
theorem begin_rp (c : C) (w : World) (hc : chk c = 0) (hk : c.ok) : Own2 (ι := (EP × EG)) Tryz.prog 125 [c.v] w [] (fun x => x.2.Rep (newE c)) (fun x => .pointer (some ⟨x.1.eb, 0, none⟩)) (fun x => [Eng x.1 x.2 (newE c)]) (fun x => []) := by
 refine g_st Tryz.func125 15 (WOK.start (fps []) _) ?_
 refine rn [1] ?_
 refine g_op (g_box (c := C.c c) rfl rfl rfl fun b1 => ?_)
 refine rn [3,0,1,45] ?_
 refine g_op (zH [] rfl (fun w1 hw1 ho1 => by have h7 := new_ok c w1 hc hk; exact h7) rfl ?_)
 rintro ⟨p7, a7⟩ r7
 refine ii ?_
 simp only at r7
 refine rn [2,40,40,3,3,0,8,1,2,51] ?_
 refine yD 11 (b := false) rfl (rfl) ?_
 refine rn [0,20,12,7,1,2,3,0,11] ?_
 exact fin1 rfl (.tmp rfl) (fun w' hw' => ⟨(p7, a7), (by exact r7), rfl, zA w' hw'⟩) _ (.inl rfl)
theorem run1_any (ep : Value) (q : Nat) (A : Option Addr) (cap : Nat) (xs : List RX) (y : RX) (w : World) (hw : W0 [Res.blk q 58 [Value.slice A xs.length cap], Res.row A xs.length cap 47 9 (xs.map RX.c)] w) (hn : xs.length ≤ 1000000) : Own2 (ι := (Option Addr × Nat)) Tryz.prog 69 [ep, .agg y.c.toArray, .pointer (some ⟨q, 0, none⟩)] w [Res.blk q 58 [Value.slice A xs.length cap], Res.row A xs.length cap 47 9 (xs.map RX.c)] (fun x => True) (fun x => .bool true) (fun x => []) (fun x => [Res.blk q 58 [Value.slice x.1 (xs ++ [y]).length x.2], Res.row x.1 (xs ++ [y]).length x.2 47 9 ((xs ++ [y]).map RX.c)]) := by
 refine g_st Tryz.func69 10 hw ?_
 refine rn [1] ?_
 refine g_op (g_box (c := RX.c y) rfl rfl rfl fun b4 => ?_)
 refine rn [3,0,1,5,45] ?_
 refine g_op (g_lit rfl rfl rfl rfl rfl fun b8 => ?_)
 refine zJ (b := b8) ((([y] : List RX).map RX.c).flatten) rfl ?_
 refine g_op (zY (A := A) (els := (xs).map RX.c) (news := (([y] : List RX).map RX.c)) rfl rfl (InL.rdb (b := b8) rfl (by simp [RX.c]) rfl) (yG (c := RX.c) (by intro x; simp [RX.c, Value.oneCell']) _) (by first | omega | (simp; omega) | (simp_all; omega)) rfl fun A9 cap9 => ⟨_, inferInstance, ?_⟩)
 refine zF (A := A9) (((xs ++ [y])).map RX.c) (by first | rfl | exact List.map_append.symm | (simp; done)) ?_
 refine g_op (zP rfl rfl rfl rfl rfl rfl rfl ?_)
 refine rn [0,1,3,0,11] ?_
 refine yC (A := A9) (xs ++ [y]).length (by simp) ?_
 refine zJ (b := q) [Value.slice A9 (xs ++ [y]).length cap9] (by simp [splice]) ?_
 exact fin1 rfl (.tmp rfl) (fun w' hw' => ⟨(A9, cap9), (by exact trivial), rfl, zA w' hw'⟩) _ (.inl rfl)
structure PX where
 p : EP
 a : EG
 sn : SN
 A : Option Addr
 c : Nat
 xs : List RX
theorem perf_any (c : C) (lA : Option Addr) (ln lC : Nat) (l : List Op) (q : Nat) (w : World) (hw : W0 [Res.blk q 58 [Value.slice none 0 0]] w) (hc : chk c = 0) (hk : c.ok) (hrd : Rd w [Res.blk q 58 [Value.slice none 0 0]] lA ln 4 (l.map Op.c)) (hl : ∀ y ∈ l, y.ok) (hln : l.length ≤ 1000000) : Own2 (ι := PX) Tryz.prog 67 [c.v, .slice lA ln lC, .func (.func 69) #[] [Value.pointer (some ⟨q, 0, none⟩)].toArray] w [Res.blk q 58 [Value.slice none 0 0]] (fun x => x.a.Rep (runE (newE c) l).1 ∧ x.xs.map RX.r = (runE (newE c) l).2) (fun x => .tuple [.agg ([Value.int .i64 ((((runE (newE c) l).1).blk : Nat) : Int), .int .i64 ((runE (newE c) l).1).ep, .slice x.sn.vA ((runE (newE c) l).1).l.length x.sn.vc, .int .u64 ((runE (newE c) l).1).dep, .int .u64 ((runE (newE c) l).1).paid, .int .u64 ((runE (newE c) l).1).burn, .int .u64 (actS ((runE (newE c) l).1).l), .slice x.sn.pA ((runE (newE c) l).1).pend.length x.sn.pc, .slice x.sn.fA ((runE (newE c) l).1).q.f.length x.sn.fc, .slice x.sn.oA ((runE (newE c) l).1).q.v.length x.sn.oc, .slice x.sn.mA ((runE (newE c) l).1).mg.length x.sn.mc, .slice x.sn.rA ((runE (newE c) l).1).pt.length x.sn.rc, .int .i64 ((((runE (newE c) l).1).cur : Nat) : Int), .int .u64 ((runE (newE c) l).1).m.bal, .int .i64 ((((runE (newE c) l).1).bo.length : Nat) : Int)]).toArray, .int .i64 0].toArray) (fun x => [Eng x.p x.a (runE (newE c) l).1, Res.row x.sn.vA (((runE (newE c) l).1).l).length x.sn.vc 52 7 ((((runE (newE c) l).1).l).map V.c), Res.row x.sn.pA (((runE (newE c) l).1).pend).length x.sn.pc 3 1 ((((runE (newE c) l).1).pend).map (fun v : Int => [Value.int .i64 v])), Res.row x.sn.fA (((runE (newE c) l).1).q.f).length x.sn.fc 3 1 ((((runE (newE c) l).1).q.f).map (fun v : Int => [Value.int .i64 v])), Res.row x.sn.oA (((runE (newE c) l).1).q.v).length x.sn.oc 3 1 ((((runE (newE c) l).1).q.v).map (fun v : Int => [Value.int .i64 v])), Res.row x.sn.mA (((runE (newE c) l).1).mg).length x.sn.mc 106 2 ((((runE (newE c) l).1).mg).map PP.c), Res.row x.sn.rA (((runE (newE c) l).1).pt).length x.sn.rc 110 2 ((((runE (newE c) l).1).pt).map Rq.c), Res.row x.A (x.xs).length x.c 47 9 ((x.xs).map RX.c), Res.star ((x.xs).flatMap RX.rows)]) (fun x => [Res.blk q 58 [Value.slice x.A (x.xs).length x.c]]) := by
 refine g_startM Tryz.func67 rfl 30 rfl (by simp) (fps [Res.blk q 58 [Value.slice none 0 0]]) [Res.blk q 58 [Value.slice none 0 0]] hw _ rfl ?_
 have hm : ln = l.length := by have := hrd.old.len; simpa using this
 have hbl : (newE c).blk + l.length < 1000000000 := by show 0 + l.length < _; omega
 refine rn [1] ?_
 refine g_op (g_box rfl rfl rfl fun b3 => ?_)
 refine g_op (zI rfl fun b6 => ?_)
 refine g_op (zI rfl fun b7 => ?_)
 refine rn [0,1,52] ?_
 refine g_op (g_defer (fst := []) (cap := [Value.pointer (some ⟨b6, 0, none⟩), Value.pointer (some ⟨b7, 0, none⟩)]) rfl rfl ?_)
 refine rn [0,1,45] ?_
 refine g_op (zH [] rfl (fun w1 hw1 ho1 => by have h7 := begin_rp c w1 hc hk; exact h7) rfl ?_)
 rintro ⟨p13, a13⟩ r13
 refine ii ?_
 simp only at r13
 refine rn [3,0,8,1,2,47,2,0,14] ?_
 refine zJ (b := b7) [Value.int .i64 0] (by rfl) ?_
 refine zJ (b := b6) [Value.int .i64 0, .int .i64 0, .slice none 0 0, .int .u64 0, .int .u64 0, .int .u64 0, .int .u64 0, .slice none 0 0, .slice none 0 0, .slice none 0 0, .slice none 0 0, .slice none 0 0, .int .i64 0, .int .u64 0, .int .i64 0] (by rfl) ?_
 refine zJ (b := q) [Value.slice none ([] : List RX).length 0] (by rfl) ?_
 refine zW none 47 9 (([] : List RX).map RX.c) (by rfl) ?_
 refine g_nostar ?_
 refine zX (L' := [Res.star (([] : List RX).flatMap RX.rows), Res.row none ([] : List RX).length 0 47 9 (([] : List RX).map RX.c), Eng p13 a13 (runK (newE c) l 0).1, Res.blk b7 29 [Value.int .i64 0], Res.blk b6 42 [Value.int .i64 0, .int .i64 0, .slice none 0 0, .int .u64 0, .int .u64 0, .int .u64 0, .int .u64 0, .slice none 0 0, .slice none 0 0, .slice none 0 0, .slice none 0 0, .slice none 0 0, .int .i64 0, .int .u64 0, .int .i64 0], Res.blk b3 24 c.c, Res.blk q 58 [Value.slice none ([] : List RX).length 0]]) (by rfl) ?_
 refine g_lk [2, 6, 7, 8, 14, 15] (fun (x : Nat × EG × Option Addr × Nat × List RX) => [(16, .int .i64 ((x.1 : Nat) : Int))]) (fun (x : Nat × EG × Option Addr × Nat × List RX) => [Res.blk b6 42 [Value.int .i64 0, .int .i64 0, .slice none 0 0, .int .u64 0, .int .u64 0, .int .u64 0, .int .u64 0, .slice none 0 0, .slice none 0 0, .slice none 0 0, .slice none 0 0, .slice none 0 0, .int .i64 0, .int .u64 0, .int .i64 0], Res.blk b7 29 [Value.int .i64 0], Eng p13 x.2.1 (runK (newE c) l x.1).1, Res.blk q 58 [Value.slice x.2.2.1 (x.2.2.2.2).length x.2.2.2.1], Res.row x.2.2.1 (x.2.2.2.2).length x.2.2.2.1 47 9 ((x.2.2.2.2).map RX.c), Res.star ((x.2.2.2.2).flatMap RX.rows)]) (fun (x : Nat × EG × Option Addr × Nat × List RX) => x.1 ≤ ln ∧ EG.Rep x.2.1 (runK (newE c) l x.1).1 ∧ (x.2.2.2.2).map RX.r = (runK (newE c) l x.1).2) (fun (x : Nat × EG × Option Addr × Nat × List RX) => ln - x.1) (0, a13, none, 0, []) (by (try dsimp only); exact ⟨Nat.zero_le _, r13, rfl⟩) ?_
 rintro ⟨k, a9, A9, c9, xs⟩ ⟨le_k, hr9, hx9⟩
 replace le_k : k ≤ ln := le_k
 replace hr9 : EG.Rep a9 (runK (newE c) l k).1 := hr9
 replace hx9 : (xs).map RX.r = (runK (newE c) l k).2 := hx9
 refine zX (L' := [Res.blk b6 42 [Value.int .i64 0, .int .i64 0, .slice none 0 0, .int .u64 0, .int .u64 0, .int .u64 0, .int .u64 0, .slice none 0 0, .slice none 0 0, .slice none 0 0, .slice none 0 0, .slice none 0 0, .int .i64 0, .int .u64 0, .int .i64 0], Res.blk b7 29 [Value.int .i64 0], Eng p13 a9 (runK (newE c) l k).1, Res.blk q 58 [Value.slice A9 (xs).length c9], Res.row A9 (xs).length c9 47 9 ((xs).map RX.c), Res.star ((xs).flatMap RX.rows)]) rfl ?_
 refine g_val 16 (v' := .int .i64 ((k : Nat) : Int)) rfl rfl ?_
 obtain ⟨hi9, hb9, hc9, hl9⟩ := runK_inv (newE_inv hc hk) hl hbl k (by omega)
 have hxl : xs.length = k := by rw [← hl9, ← hx9]; simp
 have hb0 : (newE c).blk = 0 := rfl
 refine rn [1,46,0,8] ?_
 refine zC rfl (fun h1 => ?_) (fun h1 => ?_)
 ·have lt_k : k < ln := by have h9 := of_decide_eq_true h1; omega
  have hkl : k < l.length := by omega
  obtain ⟨yk, hyk⟩ : ∃ z, z = l[k] := ⟨_, rfl⟩
  have hyo : yk.ok := hyk ▸ hl _ (List.getElem_mem hkl)
  have hk9 : (runK (newE c) l (k + 1)) = stepA (runK (newE c) l k) yk := by rw [hyk]; exact runK_succ hkl
  refine rn [12,7,8,14,1] ?_
  refine s_q (zR (i := k) rfl rfl rfl hrd.rdb (by first | exact lt_k | omega)) rfl ?_
  refine s_q (zT (i := k) rfl hrd.rdb (zS (by first | exact (by first | exact lt_k | omega) | omega | (simp_all; done) | (simp_all; omega))) rfl) rfl ?_
  refine g_op (zI rfl fun b10 => ?_)
  refine rn [33] ?_
  refine zJ (b := b10) (Op.c yk) (by rw [hyk]) ?_
  refine rn [0,1,2,2,2,45] ?_
  refine g_op (zH _ rfl (fun w1 hw1 ho1 => by have h7 := apply_ok p13 a9 (runK (newE c) l k).1 yk w1 ho1 hi9 hr9 hyo (by omega); exact h7) rfl ?_)
  rintro x24 r24
  refine ii ?_
  refine g_op (xL [Res.blk q 58 [Value.slice A9 xs.length c9], Res.row A9 xs.length c9 47 9 (xs.map RX.c)] rfl rfl (fun w1 hw1 ho1 => by have h7 := run1_any (.pointer (some ⟨p13.eb, 0, none⟩)) q A9 c9 xs (⟨(applyE (runK (newE c) l k).1 yk).2, x24.O, x24.oc, x24.pA, x24.pc⟩ : RX) w1 ho1 (by omega); exact h7) rfl ?_)
  rintro ⟨A25, cap25⟩ _
  refine ii ?_
  refine rn [48,0,20,12,15,7,10,43,2,9] ?_
  refine g_starApp (xs.flatMap RX.rows) [Res.row x24.O (applyE (runK (newE c) l k).1 yk).2.ag.length x24.oc 55 3 ((applyE (runK (newE c) l k).1 yk).2.ag.map As.cs), Res.row x24.pA (applyE (runK (newE c) l k).1 yk).2.ps.length x24.pc 50 3 ((applyE (runK (newE c) l k).1 yk).2.ps.map Y.c)] ?_
  refine zX (L' := [Res.star ((xs ++ [(⟨(applyE (runK (newE c) l k).1 yk).2, x24.O, x24.oc, x24.pA, x24.pc⟩ : RX)]).flatMap RX.rows), Res.blk b10 35 yk.c, Res.blk b6 42 [Value.int .i64 0, .int .i64 0, .slice none 0 0, .int .u64 0, .int .u64 0, .int .u64 0, .int .u64 0, .slice none 0 0, .slice none 0 0, .slice none 0 0, .slice none 0 0, .slice none 0 0, .int .i64 0, .int .u64 0, .int .i64 0], Res.blk b7 29 [Value.int .i64 0], Eng p13 x24.a (runK (newE c) l (k + 1)).1, Res.blk q 58 [Value.slice A25 (xs ++ [(⟨(applyE (runK (newE c) l k).1 yk).2, x24.O, x24.oc, x24.pA, x24.pc⟩ : RX)]).length cap25], Res.row A25 (xs ++ [(⟨(applyE (runK (newE c) l k).1 yk).2, x24.O, x24.oc, x24.pA, x24.pc⟩ : RX)]).length cap25 47 9 ((xs ++ [(⟨(applyE (runK (newE c) l k).1 yk).2, x24.O, x24.oc, x24.pA, x24.pc⟩ : RX)]).map RX.c)]) (by rw [hk9, List.flatMap_append, List.flatMap_cons, List.flatMap_nil, List.append_nil]; rfl) ?_
  exact g_ag ((k + 1), x24.a, A25, cap25, (xs ++ [(⟨(applyE (runK (newE c) l k).1 yk).2, x24.O, x24.oc, x24.pA, x24.pc⟩ : RX)])) (by (try dsimp only); exact ⟨(by first | exact lt_k | omega), (by rw [hk9]; exact r24), (by rw [hk9, List.map_append, hx9]; rfl)⟩)
 ·have eq_k : k = ln := by have h9 := of_decide_eq_false h1; omega
  subst eq_k
  obtain ⟨hiE, _, _, _⟩ := runK_inv (newE_inv hc hk) hl hbl k (by omega)
  have hE : (runK (newE c) l k) = runE (newE c) l := by rw [hm]; exact runK_end _ _
  rw [hE] at hr9 hx9 hiE
  rw [hE]
  refine rn [16] ?_
  refine zE (zE (zQ ?_))
  refine rn [7,1,2] ?_
  refine g_op (zH _ rfl (fun w1 hw1 ho1 => by have h7 := snap_ok p13 a9 (runE (newE c) l).1 w1 ho1 hiE hr9; exact h7) rfl ?_)
  rintro sn29 _
  refine ii ?_
  refine rn [33] ?_
  refine g_op (zP rfl rfl rfl rfl rfl rfl rfl ?_)
  refine rn [0,11] ?_
  refine finR [] (fun w1 hw1 ho1 => catch_idle _ _ w1) ?_ _ (.inl rfl)
  rintro ⟨⟩ _
  refine ⟨_, _, inferInstance, inferInstance, ?_⟩
  exact finM2 rfl (.cellw rfl rfl) (.cell1 rfl rfl) (fun w' hw' => ⟨(⟨p13, a9, sn29, A9, c9, xs⟩ : PX), ⟨hr9, hx9⟩, rfl, by have h9 := zB (L' := [Eng p13 a9 (runE (newE c) l).1, Res.row sn29.vA (((runE (newE c) l).1).l).length sn29.vc 52 7 ((((runE (newE c) l).1).l).map V.c), Res.row sn29.pA (((runE (newE c) l).1).pend).length sn29.pc 3 1 ((((runE (newE c) l).1).pend).map (fun v : Int => [Value.int .i64 v])), Res.row sn29.fA (((runE (newE c) l).1).q.f).length sn29.fc 3 1 ((((runE (newE c) l).1).q.f).map (fun v : Int => [Value.int .i64 v])), Res.row sn29.oA (((runE (newE c) l).1).q.v).length sn29.oc 3 1 ((((runE (newE c) l).1).q.v).map (fun v : Int => [Value.int .i64 v])), Res.row sn29.mA (((runE (newE c) l).1).mg).length sn29.mc 106 2 ((((runE (newE c) l).1).mg).map PP.c), Res.row sn29.rA (((runE (newE c) l).1).pt).length sn29.rc 110 2 ((((runE (newE c) l).1).pt).map Rq.c), Res.row A9 (xs).length c9 47 9 ((xs).map RX.c), Res.star ((xs).flatMap RX.rows), Res.blk q 58 [Value.slice A9 (xs).length c9]]) w' hw'; exact h9⟩)
theorem rdN_lt8 {bs : List Nat} (hb : ∀ b ∈ bs, b < 256) {k : Nat} (hk : k ≤ 8) : rdN (bs.take k) < 18446744073709551616 := by
 rcases Nat.le_total k bs.length with h | h
 ·exact Nat.lt_of_lt_of_le (rdN_lt hb k h) (Nat.pow_le_pow_right (by decide) hk)
 ·have h1 := rdN_lt hb bs.length (Nat.le_refl _)
  rw [List.take_of_length_le h]
  rw [List.take_length] at h1
  exact Nat.lt_of_lt_of_le h1 (Nat.le_trans (Nat.pow_le_pow_right (n := 256) (j := 8) (by decide) (by omega)) (by decide))
theorem wrap_i64_rng (z : Int) : -9223372036854775808 ≤ IntKind.i64.wrap z ∧ IntKind.i64.wrap z ≤ 9223372036854775807 := by rw [IntKind.wrap_i64]; omega
theorem setO_ok {j : Nat} {y : Op} {v : Int} (hy : y.ok) (hv : 0 ≤ v ∧ v ≤ 18446744073709551615) : (setO j y v).ok := by
 unfold setO
 split
 ·exact ⟨hy.k, hy.i, hy.t, hv⟩
 ·exact ⟨hy.k, wrap_i64_rng _, hy.t, hy.a⟩
 ·exact ⟨hy.k, hy.i, wrap_i64_rng _, hy.a⟩
theorem decK_ok : ∀ (js : List Nat) (t : Op × List Nat), t.1.ok → (∀ b ∈ t.2, b < 256) → (js.foldl decS t).1.ok
 | [], _, h, _ => h
 | j :: js, t, h, hb => decK_ok js (decS t j) (setO_ok h ⟨Int.natCast_nonneg _, by have := rdN_lt8 hb (szO_le j).2; omega⟩) fun b hbm => hb b (List.mem_of_mem_drop hbm)
theorem zO_ok : zO.ok := by constructor <;> simp [zO]
theorem decP_ok {bs : List Nat} (hb : ∀ b ∈ bs, b < 256) (p : Nat) : (decP bs p).1.ok := by
 unfold decP
 split
 ·rename_i hp
  split
  ·exact zO_ok
  ·split
   ·exact zO_ok
   ·have h1 := hb _ (List.getElem_mem hp)
    refine decK_ok _ _ ⟨by simp only; omega, by simp, by simp, by simp⟩ fun b hbm => hb b (List.mem_of_mem_drop hbm)
 ·exact zO_ok
theorem decF_ok {bs : List Nat} (hb : ∀ b ∈ bs, b < 256) : ∀ (k p : Nat), ∀ y ∈ decF bs k p, y.ok
 | 0, _, _, h => by simp [decF] at h
 | k + 1, p, y, h => by
  unfold decF at h
  split at h
  ·rcases List.mem_cons.1 h with rfl | h
   ·exact decP_ok hb p
   ·exact decF_ok hb k _ y h
  ·simp at h
theorem run_any9 (c : C) (A : Option Addr) (n cap : Nat) (bs : List Nat) (w : World) (hc : chk c = 0) (hk : c.ok) (hrd : Rd w [] A n 1 (bs.map (fun v : Nat => [Value.int .u8 ((v : Nat) : Int)]))) (hcap : n ≤ cap) (hn : n ≤ 1000000) (hby : ∀ b ∈ bs, b < 256) : Own2 (ι := PX) Tryz.prog 16 [c.v, .slice A n cap] w [] (fun x => x.a.Rep (runE (newE c) (decL bs)).1 ∧ x.xs.map RX.r = (runE (newE c) (decL bs)).2) (fun x => .tuple [.agg (([Value.slice x.A (x.xs).length x.c] ++ [Value.int .i64 ((((runE (newE c) (decL bs)).1).blk : Nat) : Int), .int .i64 ((runE (newE c) (decL bs)).1).ep, .slice x.sn.vA ((runE (newE c) (decL bs)).1).l.length x.sn.vc, .int .u64 ((runE (newE c) (decL bs)).1).dep, .int .u64 ((runE (newE c) (decL bs)).1).paid, .int .u64 ((runE (newE c) (decL bs)).1).burn, .int .u64 (actS ((runE (newE c) (decL bs)).1).l), .slice x.sn.pA ((runE (newE c) (decL bs)).1).pend.length x.sn.pc, .slice x.sn.fA ((runE (newE c) (decL bs)).1).q.f.length x.sn.fc, .slice x.sn.oA ((runE (newE c) (decL bs)).1).q.v.length x.sn.oc, .slice x.sn.mA ((runE (newE c) (decL bs)).1).mg.length x.sn.mc, .slice x.sn.rA ((runE (newE c) (decL bs)).1).pt.length x.sn.rc, .int .i64 ((((runE (newE c) (decL bs)).1).cur : Nat) : Int), .int .u64 ((runE (newE c) (decL bs)).1).m.bal, .int .i64 ((((runE (newE c) (decL bs)).1).bo.length : Nat) : Int)])).toArray, .int .i64 0].toArray) (fun x => [Eng x.p x.a (runE (newE c) (decL bs)).1, Res.row x.sn.vA (((runE (newE c) (decL bs)).1).l).length x.sn.vc 52 7 ((((runE (newE c) (decL bs)).1).l).map V.c), Res.row x.sn.pA (((runE (newE c) (decL bs)).1).pend).length x.sn.pc 3 1 ((((runE (newE c) (decL bs)).1).pend).map (fun v : Int => [Value.int .i64 v])), Res.row x.sn.fA (((runE (newE c) (decL bs)).1).q.f).length x.sn.fc 3 1 ((((runE (newE c) (decL bs)).1).q.f).map (fun v : Int => [Value.int .i64 v])), Res.row x.sn.oA (((runE (newE c) (decL bs)).1).q.v).length x.sn.oc 3 1 ((((runE (newE c) (decL bs)).1).q.v).map (fun v : Int => [Value.int .i64 v])), Res.row x.sn.mA (((runE (newE c) (decL bs)).1).mg).length x.sn.mc 106 2 ((((runE (newE c) (decL bs)).1).mg).map PP.c), Res.row x.sn.rA (((runE (newE c) (decL bs)).1).pt).length x.sn.rc 110 2 ((((runE (newE c) (decL bs)).1).pt).map Rq.c), Res.row x.A (x.xs).length x.c 47 9 ((x.xs).map RX.c), Res.star ((x.xs).flatMap RX.rows)]) (fun x => []) := by
 refine g_st Tryz.func16 21 (WOK.start (fps []) _) ?_
 have hm : n = bs.length := by have := hrd.old.len; simpa using this
 have hdl := decL_len bs
 refine rn [1] ?_
 refine g_op (g_box (c := C.c c) rfl rfl rfl fun b2 => ?_)
 refine g_op (zI rfl fun b4 => ?_)
 refine rn [3,0,1] ?_
 refine g_op (zI rfl fun b6 => ?_)
 refine zJ (b := b6) [Value.slice none 0 0] (by rfl) ?_
 refine rn [0,8] ?_
 refine dregL (L0 := [Res.blk b2 24 c.c]) [9] mixed rfl zB ?_
 refine rn [23,0,45,23,1,2,23,3,52] ?_
 refine yB [2, 8] (by kernel_rfl) (by simp) zB ⟨dpick rfl (zH [] rfl (fun w1 hw1 ho1 => by have h7 := sdec_any A (n) (cap) bs w1 (Rd.ofRd hw1 hrd (by omega)) hcap (by omega) hby; exact h7) rfl ?_), dpick rfl (zI rfl fun b7 => ?_), trivial⟩
 ·rintro ⟨A12, cap12⟩ _
  refine ii ?_
  refine yB [4, 8] (by kernel_rfl) (by simp) zB ⟨dpick rfl (zH _ rfl (fun w1 hw1 ho1 => by have h7 := perf_any c A12 ((decL bs).length) (cap12) (decL bs) b6 w1 ho1 hc hk (Rd.ofRow (A := A12) hw1) (decF_ok hby _ _) (by omega); exact h7) rfl ?_), dpick rfl (zI rfl fun b7 => ?_), trivial⟩
  ·rintro ⟨p9, a9, sn9, A9, c9, xs⟩ ⟨hr9, hx9⟩
   refine ii ?_
   simp only at hr9 hx9
   refine rn [23,5,2,23,6,40,24,7,40] ?_
   refine dop 8 rfl (zI rfl fun b7 => ?_)
   refine dop 9 rfl (zL rfl rfl rfl rfl rfl ?_)
   refine rn [24,10,3,28,7,1,5,45] ?_
   refine s_q (yH (c := ([Value.slice A9 (xs).length c9] ++ [Value.int .i64 ((((runE (newE c) (decL bs)).1).blk : Nat) : Int), .int .i64 ((runE (newE c) (decL bs)).1).ep, .slice sn9.vA ((runE (newE c) (decL bs)).1).l.length sn9.vc, .int .u64 ((runE (newE c) (decL bs)).1).dep, .int .u64 ((runE (newE c) (decL bs)).1).paid, .int .u64 ((runE (newE c) (decL bs)).1).burn, .int .u64 (actS ((runE (newE c) (decL bs)).1).l), .slice sn9.pA ((runE (newE c) (decL bs)).1).pend.length sn9.pc, .slice sn9.fA ((runE (newE c) (decL bs)).1).q.f.length sn9.fc, .slice sn9.oA ((runE (newE c) (decL bs)).1).q.v.length sn9.oc, .slice sn9.mA ((runE (newE c) (decL bs)).1).mg.length sn9.mc, .slice sn9.rA ((runE (newE c) (decL bs)).1).pt.length sn9.rc, .int .i64 ((((runE (newE c) (decL bs)).1).cur : Nat) : Int), .int .u64 ((runE (newE c) (decL bs)).1).m.bal, .int .i64 ((((runE (newE c) (decL bs)).1).bo.length : Nat) : Int)])) rfl (by kernel_rfl)) rfl ?_
   refine rn [2,33,3,0,11] ?_
   exact fin2 rfl (.cellw rfl rfl) (.tmp rfl) (fun w' hw' => ⟨(⟨p9, a9, sn9, A9, c9, xs⟩ : PX), (by first | exact ⟨hr9, hx9⟩ | (dsimp only; exact ⟨hr9, hx9⟩)), rfl, zA w' hw'⟩) _ (.inl rfl)
  ·refine dop 4 rfl (zH _ rfl (fun w1 hw1 ho1 => by have h7 := perf_any c A12 ((decL bs).length) (cap12) (decL bs) b6 w1 ho1 hc hk (Rd.ofRow (A := A12) hw1) (decF_ok hby _ _) (by omega); exact h7) rfl ?_)
   rintro ⟨p9, a9, sn9, A9, c9, xs⟩ ⟨hr9, hx9⟩
   refine ii ?_
   simp only at hr9 hx9
   refine rn [23,5,2,23,6,40,24,7,40] ?_
   refine dop 9 rfl (zL rfl rfl rfl rfl rfl ?_)
   refine rn [24,10,3,28,7,1,5,45] ?_
   refine s_q (yH (c := ([Value.slice A9 (xs).length c9] ++ [Value.int .i64 ((((runE (newE c) (decL bs)).1).blk : Nat) : Int), .int .i64 ((runE (newE c) (decL bs)).1).ep, .slice sn9.vA ((runE (newE c) (decL bs)).1).l.length sn9.vc, .int .u64 ((runE (newE c) (decL bs)).1).dep, .int .u64 ((runE (newE c) (decL bs)).1).paid, .int .u64 ((runE (newE c) (decL bs)).1).burn, .int .u64 (actS ((runE (newE c) (decL bs)).1).l), .slice sn9.pA ((runE (newE c) (decL bs)).1).pend.length sn9.pc, .slice sn9.fA ((runE (newE c) (decL bs)).1).q.f.length sn9.fc, .slice sn9.oA ((runE (newE c) (decL bs)).1).q.v.length sn9.oc, .slice sn9.mA ((runE (newE c) (decL bs)).1).mg.length sn9.mc, .slice sn9.rA ((runE (newE c) (decL bs)).1).pt.length sn9.rc, .int .i64 ((((runE (newE c) (decL bs)).1).cur : Nat) : Int), .int .u64 ((runE (newE c) (decL bs)).1).m.bal, .int .i64 ((((runE (newE c) (decL bs)).1).bo.length : Nat) : Int)])) rfl (by kernel_rfl)) rfl ?_
   refine rn [2,33,3,0,11] ?_
   exact fin2 rfl (.cellw rfl rfl) (.tmp rfl) (fun w' hw' => ⟨(⟨p9, a9, sn9, A9, c9, xs⟩ : PX), (by first | exact ⟨hr9, hx9⟩ | (dsimp only; exact ⟨hr9, hx9⟩)), rfl, zA w' hw'⟩) _ (.inl rfl)
 ·refine dop 2 rfl (zH [] rfl (fun w1 hw1 ho1 => by have h7 := sdec_any A (n) (cap) bs w1 (Rd.ofRd hw1 hrd (by omega)) hcap (by omega) hby; exact h7) rfl ?_)
  rintro ⟨A12, cap12⟩ _
  refine ii ?_
  refine dop 4 rfl (zH _ rfl (fun w1 hw1 ho1 => by have h7 := perf_any c A12 ((decL bs).length) (cap12) (decL bs) b6 w1 ho1 hc hk (Rd.ofRow (A := A12) hw1) (decF_ok hby _ _) (by omega); exact h7) rfl ?_)
  rintro ⟨p9, a9, sn9, A9, c9, xs⟩ ⟨hr9, hx9⟩
  refine ii ?_
  simp only at hr9 hx9
  refine rn [23,5,2,23,6,40,24,7,40] ?_
  refine dop 9 rfl (zL rfl rfl rfl rfl rfl ?_)
  refine rn [24,10,3,28,7,1,5,45] ?_
  refine s_q (yH (c := ([Value.slice A9 (xs).length c9] ++ [Value.int .i64 ((((runE (newE c) (decL bs)).1).blk : Nat) : Int), .int .i64 ((runE (newE c) (decL bs)).1).ep, .slice sn9.vA ((runE (newE c) (decL bs)).1).l.length sn9.vc, .int .u64 ((runE (newE c) (decL bs)).1).dep, .int .u64 ((runE (newE c) (decL bs)).1).paid, .int .u64 ((runE (newE c) (decL bs)).1).burn, .int .u64 (actS ((runE (newE c) (decL bs)).1).l), .slice sn9.pA ((runE (newE c) (decL bs)).1).pend.length sn9.pc, .slice sn9.fA ((runE (newE c) (decL bs)).1).q.f.length sn9.fc, .slice sn9.oA ((runE (newE c) (decL bs)).1).q.v.length sn9.oc, .slice sn9.mA ((runE (newE c) (decL bs)).1).mg.length sn9.mc, .slice sn9.rA ((runE (newE c) (decL bs)).1).pt.length sn9.rc, .int .i64 ((((runE (newE c) (decL bs)).1).cur : Nat) : Int), .int .u64 ((runE (newE c) (decL bs)).1).m.bal, .int .i64 ((((runE (newE c) (decL bs)).1).bo.length : Nat) : Int)])) rfl (by kernel_rfl)) rfl ?_
  refine rn [2,33,3,0,11] ?_
  exact fin2 rfl (.cellw rfl rfl) (.tmp rfl) (fun w' hw' => ⟨(⟨p9, a9, sn9, A9, c9, xs⟩ : PX), (by first | exact ⟨hr9, hx9⟩ | (dsimp only; exact ⟨hr9, hx9⟩)), rfl, zA w' hw'⟩) _ (.inl rfl)
end Go.Proofs.YtdddiilocbbkkaaGreat
