/- TopOnce: for every configuration and all operations the law returns true. No condition. Part 14 of 27. -/
import Derived.Test.YtdddiilocbbkkaaGreatTO13
set_option linter.unusedVariables false
set_option linter.unusedSimpArgs false
namespace Go.Proofs.YtdddiilocbbkkaaGreat
open Go.RowKit Go.Eg
set_option maxHeartbeats 4000000
set_option synthInstance.maxSize 3000
set_option maxRecDepth 100000
theorem Rd.star {w : World} {Ls : List Res} {A : Option Addr} {n k : Nat} {els : List (List Value)} (h : Rd w Ls A n k els) : Rd w [.star Ls] A n k els := ⟨h.old, by rw [wU]; exact h.away⟩
def okP {σ : Type} (v : V) (_ : σ) : Prop := (0 ≤ v.st ∧ v.st ≤ 7) ∧ 0 ≤ v.bal ∧ v.bal ≤ 18446744073709551615
theorem nxt_rng (s e : Int) : 0 ≤ nxt s e ∧ nxt s e ≤ 7 := by
 unfold nxt
 repeat' split
 all_goals omega
theorem vD {e : Nat} {v : V} (h : okP v ()) : okP (evR e v).1 () := by
 unfold evR; split
 ·exact h
 ·exact ⟨nxt_rng _ _, h.2⟩
theorem burnV_eq {b : Int} {c : C} (h : c.pnum ≤ c.pden) : burnV b c = b * c.pnum / c.pden := by unfold burnV; rw [if_neg (by omega)]
theorem uH (b q q2 : Nat) (v : V) (c : C) (z : Int) (w : World) (hw : W0 [Res.blk b 52 (V.c v), Res.blk q 24 c.c, Res.blk q2 22 [Value.int .u64 (z)]] w) (hvb : 0 ≤ v.bal ∧ v.bal ≤ 18446744073709551615) (hpn : 0 ≤ c.pnum) (hpd : 1 ≤ c.pden ∧ c.pden ≤ 4294967296) (hnd : c.pnum ≤ c.pden) : Own2 (ι := Unit) Tryz.prog 171 [.pointer (some ⟨b, 0, none⟩), .pointer (some ⟨q, 0, none⟩), .pointer (some ⟨q2, 0, none⟩)] w [Res.blk b 52 (V.c v), Res.blk q 24 c.c, Res.blk q2 22 [Value.int .u64 (z)]] (fun x => True) (fun x => .int .i64 0) (fun x => []) (fun x => [Res.blk b 52 (V.c { v with bal := IntKind.u64.wrap (v.bal - burnV v.bal c) }), Res.blk q 24 c.c, Res.blk q2 22 [Value.int .u64 (burnV v.bal c)]]) := by
 refine g_st Tryz.func171 25 hw ?_
 refine rn [1,3,0,8] ?_
 refine dreg [12] mixed rfl ?_
 refine rn [23,0,2,23,1,6,23,2,4,23,3,5,23,4,4,23,5,5,23,6,4,23,7,5] ?_
 refine dop 8 rfl (zG rfl (fun w1 hw1 => amount_any v.bal c.pnum c.pden w1 hvb hpn hpd hnd) rfl ?_)
 refine rn [23,9,2,23,10,40,24,11,40] ?_
 refine dop 12 rfl (zP rfl rfl rfl rfl rfl rfl rfl ?_)
 refine zJ (b := q2) [Value.int .u64 (burnV v.bal c)] (by rw [burnV_eq hnd]; rfl) ?_
 refine rn [28,7,8] ?_
 refine dreg [8] mixed rfl ?_
 refine rn [23,0,2,23,1,6,23,2,4,23,3,5,23,4,5,23,5,57,24,6,6,23,7,4] ?_
 refine dop 8 rfl (zP rfl rfl rfl rfl rfl rfl rfl ?_)
 refine zJ (b := b) (V.c { v with bal := IntKind.u64.wrap (v.bal - burnV v.bal c) }) (by simp [splice, V.c]) ?_
 refine rn [28,7,1,3,0,11] ?_
 exact fin1 rfl (.tmp rfl) (fun w' hw' => ⟨(), (by exact trivial), rfl, zA w' hw'⟩) _ (.inl rfl)
theorem acc_ap (v : V) (e : Int) (a b : List Value) : applyC ([⟨243, a, fun v _ => ((acR e v).1, (acR e v).2, ())⟩, ⟨248, b, fun v _ => ((evR 2 v).1, (evR 2 v).2, ())⟩] : List (Chg Unit)) v () = ((accV v e).1, (accV v e).2, ()) := by
 unfold accV
 by_cases h1 : latB [e] = false
 ·rw [if_pos h1]; simp [applyC, acR, h1]
 ·rw [if_neg h1]
  by_cases h2 : nxt v.st 2 = 0
  ·rw [if_pos h2]; simp [applyC, acR, evR, h1, h2]
  ·rw [if_neg h2]; simp [applyC, acR, evR, h1, h2]
theorem sC (v : V) (e : Int) (w : World) (he : I64 e) (hok : okP v ()) : Pur Tryz.prog 166 [v.v, .int .i64 e] w (.tuple [V.v (accV v e).1, .int .i64 (accV v e).2].toArray) := by
 refine g_st Tryz.func166 15 (WOK.start [] _) ?_
 refine rn [1] ?_
 refine g_op (g_box (c := V.c v) rfl rfl rfl fun b2 => ?_)
 refine g_op (g_box rfl rfl rfl fun b3 => ?_)
 refine g_op (zI rfl fun b4 => ?_)
 refine rn [3,0,1,52,3,0,8] ?_
 refine dreg [7] mixed rfl ?_
 refine rn [23,0,45,23,1,2] ?_
 refine dop 2 rfl (zH [] rfl (fun w1 hw1 ho1 => by have h7 := vQ (2) w1; exact h7) rfl ?_)
 rintro b10 _
 refine ii ?_
 refine dop 3 rfl (g_lit rfl rfl rfl rfl rfl fun b11 => ?_)
 refine zJ (b := b11) [Value.func (.func 243) #[] [Value.pointer (some ⟨b3, 0, none⟩)].toArray, Value.func (.func 248) #[] [Value.pointer (some ⟨b10, 0, none⟩)].toArray] rfl ?_
 refine dop 4 rfl (zH _ rfl (fun w1 hw1 ho1 => by
  have h7 := Own2.unstar (Ls := [Res.blk b3 3 [Value.int .i64 (e)], Res.blk b10 3 [Value.int .i64 (2)]]) (Ls1 := fun _ => [Res.blk b3 3 [Value.int .i64 (e)], Res.blk b10 3 [Value.int .i64 (2)]]) (fun hw2 => xH (fun z9 : Unit => Res.star [Res.blk b3 3 [Value.int .i64 (e)], Res.blk b10 3 [Value.int .i64 (2)]]) okP ([(⟨243, [Value.pointer (some ⟨b3, 0, none⟩)], fun v _ => ((acR e v).1, (acR e v).2, ())⟩ : Chg Unit), (⟨248, [Value.pointer (some ⟨b10, 0, none⟩)], fun v _ => ((evR 2 v).1, (evR 2 v).2, ())⟩ : Chg Unit)] : List (Chg Unit)) v () b11 w1 hw2 (by
   intro c9 hc9
   simp only [List.mem_cons, List.not_mem_nil, or_false] at hc9
   rcases hc9 with rfl | rfl
   · exact ⟨by kernel_rfl, fun v9 s9 h9 h0 => (by show okP (acR e v9).1 (); unfold acR; split <;> exact h9), fun b9 v9 s9 w9 hw9 h9 => Chg.go_of hw9 inferInstance inferInstance (fun w8 hw8 => acc1_any b9 b3 v9 e w8 hw8 he)⟩
   · exact ⟨by kernel_rfl, fun v9 s9 h9 h0 => vD h9, fun b9 v9 s9 w9 hw9 h9 => Chg.go_of hw9 inferInstance inferInstance (fun w8 hw8 => wH b9 b10 v9 2 w8 hw8 (by decide) h9.1)⟩) hok (Rd.star (Rd.ofBlk (b := b11) (T := 285) (c := [Value.func (.func 243) #[] [Value.pointer (some ⟨b3, 0, none⟩)].toArray, Value.func (.func 248) #[] [Value.pointer (some ⟨b10, 0, none⟩)].toArray]) hw1 rfl (by simp) rfl)) (by simp)) ho1
  exact h7) rfl ?_)
 rintro ⟨⟩ _
 refine ii ?_
 refine rn [23,5,40,23,6,40] ?_
 refine dop 7 rfl (zM rfl rfl rfl rfl rfl ?_)
 refine rn [24,8,3,28,7,11] ?_
 exact fin2 rfl (.cellw rfl rfl) (.tmp rfl) (fun w' hw' => ⟨by rw [← show (applyC _ v ()).1 = (accV v e).1 from by rw [acc_ap v e [Value.pointer (some ⟨b3, 0, none⟩)] [Value.pointer (some ⟨b10, 0, none⟩)]], ← show (applyC _ v ()).2.1 = (accV v e).2 from by rw [acc_ap v e [Value.pointer (some ⟨b3, 0, none⟩)] [Value.pointer (some ⟨b10, 0, none⟩)]]]; rfl, hw'.upd⟩) _ (.inl rfl)
theorem asn_ap (v : V) (e : Int) (c : C) (a b : List Value) : applyC ([⟨281, a, fun v _ => ((asR e v).1, (asR e v).2, ())⟩, ⟨249, b, fun v _ => ((dlR e c.unb v).1, (dlR e c.unb v).2, ())⟩] : List (Chg Unit)) v () = ((asnV v e c).1, (asnV v e c).2, ()) := by
 unfold asnV
 by_cases h1 : v.st ≠ 3 ∨ v.ex ≠ -1
 ·rw [if_pos h1]
  have hr : asR e v = (v, 8) := if_pos h1
  simp [applyC, hr]
 ·rw [if_neg h1]
  have hr : asR e v = ({ v with ex := e }, 0) := if_neg h1
  by_cases h2 : latB [e, c.unb] = false
  ·rw [if_pos h2]; simp [applyC, hr, dlR, h2]
  ·rw [if_neg h2]; simp [applyC, hr, dlR, h2]
theorem assign_any (v : V) (e : Int) (c : C) (w : World) (he : I64 e) (hd : I64 c.unb) (hok : okP v ()) : Pur Tryz.prog 230 [v.v, .int .i64 e, c.v] w (.tuple [V.v (asnV v e c).1, .int .i64 (asnV v e c).2].toArray) := by
 refine g_st Tryz.func230 20 (WOK.start [] _) ?_
 refine rn [1] ?_
 refine g_op (g_box (c := V.c v) rfl rfl rfl fun b3 => ?_)
 refine g_op (g_box rfl rfl rfl fun b4 => ?_)
 refine g_op (g_box (c := C.c c) rfl rfl rfl fun b5 => ?_)
 refine g_op (zI rfl fun b6 => ?_)
 refine rn [3,0,1,52,3,0,8] ?_
 refine dreg [10] mixed rfl ?_
 refine rn [23,0,45,23,1,2,23,2,5,23,3,4,23,4,5] ?_
 refine dop 5 rfl (zH [] rfl (fun w1 hw1 ho1 => by have h7 := tO (e) (c.unb) w1; exact h7) rfl ?_)
 rintro ⟨b15, p15⟩ _
 refine ii ?_
 refine dop 6 rfl (g_lit rfl rfl rfl rfl rfl fun b16 => ?_)
 refine zJ (b := b16) [Value.func (.func 281) #[] [Value.pointer (some ⟨b4, 0, none⟩)].toArray, Value.func (.func 249) #[] [Value.pointer (some ⟨b15, 0, none⟩), Value.pointer (some ⟨p15, 0, none⟩)].toArray] rfl ?_
 refine dop 7 rfl (zH _ rfl (fun w1 hw1 ho1 => by
  have h7 := Own2.unstar (Ls := [Res.blk b4 3 [Value.int .i64 (e)], Res.blk b15 3 [Value.int .i64 (e)], Res.blk p15 3 [Value.int .i64 (c.unb)]]) (Ls1 := fun _ => [Res.blk b4 3 [Value.int .i64 (e)], Res.blk b15 3 [Value.int .i64 (e)], Res.blk p15 3 [Value.int .i64 (c.unb)]]) (fun hw2 => xH (fun z9 : Unit => Res.star [Res.blk b4 3 [Value.int .i64 (e)], Res.blk b15 3 [Value.int .i64 (e)], Res.blk p15 3 [Value.int .i64 (c.unb)]]) okP ([(⟨281, [Value.pointer (some ⟨b4, 0, none⟩)], fun v _ => ((asR e v).1, (asR e v).2, ())⟩ : Chg Unit), (⟨249, [Value.pointer (some ⟨b15, 0, none⟩), Value.pointer (some ⟨p15, 0, none⟩)], fun v _ => ((dlR e c.unb v).1, (dlR e c.unb v).2, ())⟩ : Chg Unit)] : List (Chg Unit)) v () b16 w1 hw2 (by
   intro c9 hc9
   simp only [List.mem_cons, List.not_mem_nil, or_false] at hc9
   rcases hc9 with rfl | rfl
   · exact ⟨by kernel_rfl, fun v9 s9 h9 h0 => (by show okP (asR e v9).1 (); unfold asR; split <;> exact h9), fun b9 v9 s9 w9 hw9 h9 => Chg.go_of hw9 inferInstance inferInstance (fun w8 hw8 => asn1_any b9 b4 v9 e w8 hw8)⟩
   · exact ⟨by kernel_rfl, fun v9 s9 h9 h0 => (by show okP (dlR e c.unb v9).1 (); unfold dlR; split <;> exact h9), fun b9 v9 s9 w9 hw9 h9 => Chg.go_of hw9 inferInstance inferInstance (fun w8 hw8 => vS b9 b15 p15 v9 e c.unb w8 hw8 he hd)⟩) hok (Rd.star (Rd.ofBlk (b := b16) (T := 285) (c := [Value.func (.func 281) #[] [Value.pointer (some ⟨b4, 0, none⟩)].toArray, Value.func (.func 249) #[] [Value.pointer (some ⟨b15, 0, none⟩), Value.pointer (some ⟨p15, 0, none⟩)].toArray]) hw1 rfl (by simp) rfl)) (by simp)) ho1
  exact h7) rfl ?_)
 rintro ⟨⟩ _
 refine ii ?_
 refine rn [23,8,40,23,9,40] ?_
 refine dop 10 rfl (zM rfl rfl rfl rfl rfl ?_)
 refine rn [24,11,3,28,7,11] ?_
 exact fin2 rfl (.cellw rfl rfl) (.tmp rfl) (fun w' hw' => ⟨by rw [← show (applyC _ v ()).1 = (asnV v e c).1 from by rw [asn_ap v e c [Value.pointer (some ⟨b4, 0, none⟩)] [Value.pointer (some ⟨b15, 0, none⟩), Value.pointer (some ⟨p15, 0, none⟩)]], ← show (applyC _ v ()).2.1 = (asnV v e c).2 from by rw [asn_ap v e c [Value.pointer (some ⟨b4, 0, none⟩)] [Value.pointer (some ⟨b15, 0, none⟩), Value.pointer (some ⟨p15, 0, none⟩)]]]; rfl, hw'.upd⟩) _ (.inl rfl)
theorem uO (v : V) (e : Int) (a b : List Value) : applyC ([⟨248, a, fun v _ => ((evR 5 v).1, (evR 5 v).2, ())⟩, ⟨240, b, fun v _ => ((duR e v).1, (duR e v).2, ())⟩] : List (Chg Unit)) v () = ((payV v e).1, (payV v e).2.2, ()) := by
 unfold payV
 by_cases h1 : nxt v.st 5 = 0
 ·rw [if_pos h1]; simp [applyC, evR, h1]
 ·rw [if_neg h1]
  by_cases h2 : e < v.wd
  ·rw [if_pos h2]; simp [applyC, evR, duR, h1, h2]
  ·rw [if_neg h2]; simp [applyC, evR, duR, h1, h2]
theorem xE (v : V) (e : Int) : (payV v e).2.1 = if (payV v e).2.2 = 0 then v.bal else 0 := by
 unfold payV
 repeat' split
 all_goals simp_all
theorem pK (v : V) (e : Int) (w : World) (hok : okP v ()) : Pur Tryz.prog 160 [v.v, .int .i64 e] w (.tuple [V.v (payV v e).1, .int .u64 (payV v e).2.1, .int .i64 (payV v e).2.2].toArray) := by
 refine g_st Tryz.func160 26 (WOK.start [] _) ?_
 refine rn [1] ?_
 refine g_op (g_box (c := V.c v) rfl rfl rfl fun b2 => ?_)
 refine g_op (g_box rfl rfl rfl fun b3 => ?_)
 refine g_op (zI rfl fun b4 => ?_)
 refine rn [3,3,0,1,52,3,0,8] ?_
 refine dreg [9] mixed rfl ?_
 refine rn [23,0,45,23,2,2] ?_
 refine yB [1, 8] (by kernel_rfl) (by simp) zB ⟨dpick rfl (zH [] rfl (fun w1 hw1 ho1 => by have h7 := vQ (5) w1; exact h7) rfl ?_), dpick rfl (zI rfl fun b8 => ?_), trivial⟩
 ·rintro b13 _
  refine ii ?_
  refine yB [3, 8] (by kernel_rfl) (by simp) zB ⟨dpick rfl (g_lit rfl rfl rfl rfl rfl fun b15 => ?_), dpick rfl (zI rfl fun b8 => ?_), trivial⟩
  ·refine zJ (b := b15) [Value.func (.func 248) #[] [Value.pointer (some ⟨b13, 0, none⟩)].toArray, Value.func (.func 240) #[] [Value.pointer (some ⟨b3, 0, none⟩)].toArray] rfl ?_
   refine yB [4, 8] (by kernel_rfl) (by simp) zB ⟨dpick rfl (zH _ rfl (fun w1 hw1 ho1 => by
    have h7 := Own2.unstar (Ls := [Res.blk b13 3 [Value.int .i64 (5)], Res.blk b3 3 [Value.int .i64 (e)]]) (Ls1 := fun _ => [Res.blk b13 3 [Value.int .i64 (5)], Res.blk b3 3 [Value.int .i64 (e)]]) (fun hw2 => xH (fun z9 : Unit => Res.star [Res.blk b13 3 [Value.int .i64 (5)], Res.blk b3 3 [Value.int .i64 (e)]]) okP ([(⟨248, [Value.pointer (some ⟨b13, 0, none⟩)], fun v _ => ((evR 5 v).1, (evR 5 v).2, ())⟩ : Chg Unit), (⟨240, [Value.pointer (some ⟨b3, 0, none⟩)], fun v _ => ((duR e v).1, (duR e v).2, ())⟩ : Chg Unit)] : List (Chg Unit)) v () b15 w1 hw2 (by
     intro c9 hc9
     simp only [List.mem_cons, List.not_mem_nil, or_false] at hc9
     rcases hc9 with rfl | rfl
     · exact ⟨by kernel_rfl, fun v9 s9 h9 h0 => vD h9, fun b9 v9 s9 w9 hw9 h9 => Chg.go_of hw9 inferInstance inferInstance (fun w8 hw8 => wH b9 b13 v9 5 w8 hw8 (by decide) h9.1)⟩
     · exact ⟨by kernel_rfl, fun v9 s9 h9 h0 => (by show okP (duR e v9).1 (); unfold duR; split; exact h9; exact ⟨h9.1, by simp⟩), fun b9 v9 s9 w9 hw9 h9 => Chg.go_of hw9 inferInstance inferInstance (fun w8 hw8 => sN b9 b3 v9 e w8 hw8)⟩) hok (Rd.star (Rd.ofBlk (b := b15) (T := 285) (c := [Value.func (.func 248) #[] [Value.pointer (some ⟨b13, 0, none⟩)].toArray, Value.func (.func 240) #[] [Value.pointer (some ⟨b3, 0, none⟩)].toArray]) hw1 rfl (by simp) rfl)) (by simp)) ho1
    exact h7) rfl ?_), dpick rfl (zI rfl fun b8 => ?_), trivial⟩
   ·rintro ⟨⟩ _
    refine ii ?_
    refine rn [23,5,2,23,6,40] ?_
    refine g_val 17 (v' := V.v (payV v e).1) rfl (by rw [uO v e [Value.pointer (some ⟨b13, 0, none⟩)] [Value.pointer (some ⟨b3, 0, none⟩)]]) ?_
    refine rn [24,7,40] ?_
    refine g_val 18 (v' := .int .i64 (payV v e).2.2) rfl (by rw [uO v e [Value.pointer (some ⟨b13, 0, none⟩)] [Value.pointer (some ⟨b3, 0, none⟩)]]) ?_
    refine dop 8 rfl (zI rfl fun b8 => ?_)
    refine dop 9 rfl (zM rfl rfl rfl rfl rfl ?_)
    refine rn [24,10,3,28,7,8,1,2,51,0] ?_
    refine zC rfl (fun h1 => ?_) (fun h1 => ?_)
    ·have hc : ¬ (payV v e).2.2 = 0 := by simpa using h1
     refine rn [1,45,2,33,3,3,0,11,13] ?_
     exact fin3 rfl (.cellw rfl rfl) (.tmp rfl) (.tmp rfl) (fun w' hw' => ⟨by rw [xE, if_neg hc]; rfl, hw'.upd⟩) _ (.inl rfl)
    ·have hc : (payV v e).2.2 = 0 := by simpa using h1
     refine rn [12,7,8] ?_
     refine dreg [0, 2, 3] mixed rfl ?_
     refine rn [24,1,4] ?_
     refine yB [0, 2] (by kernel_rfl) (by simp) zB ⟨dpick rfl (G.quiet (yL rfl rfl) rfl ?_), dpick rfl (G.quiet (yN rfl rfl) rfl ?_), trivial⟩
     ·refine yB [2, 3] (by kernel_rfl) (by simp) zB ⟨dpick rfl (G.quiet (yN rfl rfl) rfl ?_), dpick rfl (zM rfl rfl rfl rfl rfl ?_), trivial⟩
      ·refine dtail 3 rfl (zM rfl rfl rfl rfl rfl ?_)
       refine rn [24,4,3,24,5,3,28,7,11] ?_
       exact fin3 rfl (.cellw rfl rfl) (.tmp rfl) (.tmp rfl) (fun w' hw' => ⟨by rw [xE, if_pos hc, hc]; rfl, hw'.upd⟩) _ (.inl rfl)
      ·refine dtail 2 rfl (G.quiet (yN rfl rfl) rfl ?_)
       refine rn [24,4,3,24,5,3,28,7,11] ?_
       exact fin3 rfl (.cellw rfl rfl) (.tmp rfl) (.tmp rfl) (fun w' hw' => ⟨by rw [xE, if_pos hc, hc]; rfl, hw'.upd⟩) _ (.inl rfl)
     ·refine dtail 0 rfl (G.quiet (yL rfl rfl) rfl ?_)
      refine dtail 3 rfl (zM rfl rfl rfl rfl rfl ?_)
      refine rn [24,4,3,24,5,3,28,7,11] ?_
      exact fin3 rfl (.cellw rfl rfl) (.tmp rfl) (.tmp rfl) (fun w' hw' => ⟨by rw [xE, if_pos hc, hc]; rfl, hw'.upd⟩) _ (.inl rfl)
   ·refine dop 4 rfl (zH _ rfl (fun w1 hw1 ho1 => by
     have h7 := Own2.unstar (Ls := [Res.blk b13 3 [Value.int .i64 (5)], Res.blk b3 3 [Value.int .i64 (e)]]) (Ls1 := fun _ => [Res.blk b13 3 [Value.int .i64 (5)], Res.blk b3 3 [Value.int .i64 (e)]]) (fun hw2 => xH (fun z9 : Unit => Res.star [Res.blk b13 3 [Value.int .i64 (5)], Res.blk b3 3 [Value.int .i64 (e)]]) okP ([(⟨248, [Value.pointer (some ⟨b13, 0, none⟩)], fun v _ => ((evR 5 v).1, (evR 5 v).2, ())⟩ : Chg Unit), (⟨240, [Value.pointer (some ⟨b3, 0, none⟩)], fun v _ => ((duR e v).1, (duR e v).2, ())⟩ : Chg Unit)] : List (Chg Unit)) v () b15 w1 hw2 (by
      intro c9 hc9
      simp only [List.mem_cons, List.not_mem_nil, or_false] at hc9
      rcases hc9 with rfl | rfl
      · exact ⟨by kernel_rfl, fun v9 s9 h9 h0 => vD h9, fun b9 v9 s9 w9 hw9 h9 => Chg.go_of hw9 inferInstance inferInstance (fun w8 hw8 => wH b9 b13 v9 5 w8 hw8 (by decide) h9.1)⟩
      · exact ⟨by kernel_rfl, fun v9 s9 h9 h0 => (by show okP (duR e v9).1 (); unfold duR; split; exact h9; exact ⟨h9.1, by simp⟩), fun b9 v9 s9 w9 hw9 h9 => Chg.go_of hw9 inferInstance inferInstance (fun w8 hw8 => sN b9 b3 v9 e w8 hw8)⟩) hok (Rd.star (Rd.ofBlk (b := b15) (T := 285) (c := [Value.func (.func 248) #[] [Value.pointer (some ⟨b13, 0, none⟩)].toArray, Value.func (.func 240) #[] [Value.pointer (some ⟨b3, 0, none⟩)].toArray]) hw1 rfl (by simp) rfl)) (by simp)) ho1
     exact h7) rfl ?_)
    rintro ⟨⟩ _
    refine ii ?_
    refine rn [23,5,2,23,6,40] ?_
    refine g_val 17 (v' := V.v (payV v e).1) rfl (by rw [uO v e [Value.pointer (some ⟨b13, 0, none⟩)] [Value.pointer (some ⟨b3, 0, none⟩)]]) ?_
    refine rn [24,7,40] ?_
    refine g_val 18 (v' := .int .i64 (payV v e).2.2) rfl (by rw [uO v e [Value.pointer (some ⟨b13, 0, none⟩)] [Value.pointer (some ⟨b3, 0, none⟩)]]) ?_
    refine dop 9 rfl (zM rfl rfl rfl rfl rfl ?_)
    refine rn [24,10,3,28,7,8,1,2,51,0] ?_
    refine zC rfl (fun h2 => ?_) (fun h2 => ?_)
    ·have hc : ¬ (payV v e).2.2 = 0 := by simpa using h2
     refine rn [1,45,2,33,3,3,0,11,13] ?_
     exact fin3 rfl (.cellw rfl rfl) (.tmp rfl) (.tmp rfl) (fun w' hw' => ⟨by rw [xE, if_neg hc]; rfl, hw'.upd⟩) _ (.inl rfl)
    ·have hc : (payV v e).2.2 = 0 := by simpa using h2
     refine rn [12,7,8] ?_
     refine dreg [0, 2, 3] mixed rfl ?_
     refine rn [24,1,4] ?_
     refine yB [0, 2] (by kernel_rfl) (by simp) zB ⟨dpick rfl (G.quiet (yL rfl rfl) rfl ?_), dpick rfl (G.quiet (yN rfl rfl) rfl ?_), trivial⟩
     ·refine yB [2, 3] (by kernel_rfl) (by simp) zB ⟨dpick rfl (G.quiet (yN rfl rfl) rfl ?_), dpick rfl (zM rfl rfl rfl rfl rfl ?_), trivial⟩
      ·refine dtail 3 rfl (zM rfl rfl rfl rfl rfl ?_)
       refine rn [24,4,3,24,5,3,28,7,11] ?_
       exact fin3 rfl (.cellw rfl rfl) (.tmp rfl) (.tmp rfl) (fun w' hw' => ⟨by rw [xE, if_pos hc, hc]; rfl, hw'.upd⟩) _ (.inl rfl)
      ·refine dtail 2 rfl (G.quiet (yN rfl rfl) rfl ?_)
       refine rn [24,4,3,24,5,3,28,7,11] ?_
       exact fin3 rfl (.cellw rfl rfl) (.tmp rfl) (.tmp rfl) (fun w' hw' => ⟨by rw [xE, if_pos hc, hc]; rfl, hw'.upd⟩) _ (.inl rfl)
     ·refine dtail 0 rfl (G.quiet (yL rfl rfl) rfl ?_)
      refine dtail 3 rfl (zM rfl rfl rfl rfl rfl ?_)
      refine rn [24,4,3,24,5,3,28,7,11] ?_
      exact fin3 rfl (.cellw rfl rfl) (.tmp rfl) (.tmp rfl) (fun w' hw' => ⟨by rw [xE, if_pos hc, hc]; rfl, hw'.upd⟩) _ (.inl rfl)
  ·refine dop 3 rfl (g_lit rfl rfl rfl rfl rfl fun b15 => ?_)
   refine zJ (b := b15) [Value.func (.func 248) #[] [Value.pointer (some ⟨b13, 0, none⟩)].toArray, Value.func (.func 240) #[] [Value.pointer (some ⟨b3, 0, none⟩)].toArray] rfl ?_
   refine dop 4 rfl (zH _ rfl (fun w1 hw1 ho1 => by
    have h7 := Own2.unstar (Ls := [Res.blk b13 3 [Value.int .i64 (5)], Res.blk b3 3 [Value.int .i64 (e)]]) (Ls1 := fun _ => [Res.blk b13 3 [Value.int .i64 (5)], Res.blk b3 3 [Value.int .i64 (e)]]) (fun hw2 => xH (fun z9 : Unit => Res.star [Res.blk b13 3 [Value.int .i64 (5)], Res.blk b3 3 [Value.int .i64 (e)]]) okP ([(⟨248, [Value.pointer (some ⟨b13, 0, none⟩)], fun v _ => ((evR 5 v).1, (evR 5 v).2, ())⟩ : Chg Unit), (⟨240, [Value.pointer (some ⟨b3, 0, none⟩)], fun v _ => ((duR e v).1, (duR e v).2, ())⟩ : Chg Unit)] : List (Chg Unit)) v () b15 w1 hw2 (by
     intro c9 hc9
     simp only [List.mem_cons, List.not_mem_nil, or_false] at hc9
     rcases hc9 with rfl | rfl
     · exact ⟨by kernel_rfl, fun v9 s9 h9 h0 => vD h9, fun b9 v9 s9 w9 hw9 h9 => Chg.go_of hw9 inferInstance inferInstance (fun w8 hw8 => wH b9 b13 v9 5 w8 hw8 (by decide) h9.1)⟩
     · exact ⟨by kernel_rfl, fun v9 s9 h9 h0 => (by show okP (duR e v9).1 (); unfold duR; split; exact h9; exact ⟨h9.1, by simp⟩), fun b9 v9 s9 w9 hw9 h9 => Chg.go_of hw9 inferInstance inferInstance (fun w8 hw8 => sN b9 b3 v9 e w8 hw8)⟩) hok (Rd.star (Rd.ofBlk (b := b15) (T := 285) (c := [Value.func (.func 248) #[] [Value.pointer (some ⟨b13, 0, none⟩)].toArray, Value.func (.func 240) #[] [Value.pointer (some ⟨b3, 0, none⟩)].toArray]) hw1 rfl (by simp) rfl)) (by simp)) ho1
    exact h7) rfl ?_)
   rintro ⟨⟩ _
   refine ii ?_
   refine rn [23,5,2,23,6,40] ?_
   refine g_val 17 (v' := V.v (payV v e).1) rfl (by rw [uO v e [Value.pointer (some ⟨b13, 0, none⟩)] [Value.pointer (some ⟨b3, 0, none⟩)]]) ?_
   refine rn [24,7,40] ?_
   refine g_val 18 (v' := .int .i64 (payV v e).2.2) rfl (by rw [uO v e [Value.pointer (some ⟨b13, 0, none⟩)] [Value.pointer (some ⟨b3, 0, none⟩)]]) ?_
   refine dop 9 rfl (zM rfl rfl rfl rfl rfl ?_)
   refine rn [24,10,3,28,7,8,1,2,51,0] ?_
   refine zC rfl (fun h3 => ?_) (fun h3 => ?_)
   ·have hc : ¬ (payV v e).2.2 = 0 := by simpa using h3
    refine rn [1,45,2,33,3,3,0,11,13] ?_
    exact fin3 rfl (.cellw rfl rfl) (.tmp rfl) (.tmp rfl) (fun w' hw' => ⟨by rw [xE, if_neg hc]; rfl, hw'.upd⟩) _ (.inl rfl)
   ·have hc : (payV v e).2.2 = 0 := by simpa using h3
    refine rn [12,7,8] ?_
    refine dreg [0, 2, 3] mixed rfl ?_
    refine rn [24,1,4] ?_
    refine yB [0, 2] (by kernel_rfl) (by simp) zB ⟨dpick rfl (G.quiet (yL rfl rfl) rfl ?_), dpick rfl (G.quiet (yN rfl rfl) rfl ?_), trivial⟩
    ·refine yB [2, 3] (by kernel_rfl) (by simp) zB ⟨dpick rfl (G.quiet (yN rfl rfl) rfl ?_), dpick rfl (zM rfl rfl rfl rfl rfl ?_), trivial⟩
     ·refine dtail 3 rfl (zM rfl rfl rfl rfl rfl ?_)
      refine rn [24,4,3,24,5,3,28,7,11] ?_
      exact fin3 rfl (.cellw rfl rfl) (.tmp rfl) (.tmp rfl) (fun w' hw' => ⟨by rw [xE, if_pos hc, hc]; rfl, hw'.upd⟩) _ (.inl rfl)
     ·refine dtail 2 rfl (G.quiet (yN rfl rfl) rfl ?_)
      refine rn [24,4,3,24,5,3,28,7,11] ?_
      exact fin3 rfl (.cellw rfl rfl) (.tmp rfl) (.tmp rfl) (fun w' hw' => ⟨by rw [xE, if_pos hc, hc]; rfl, hw'.upd⟩) _ (.inl rfl)
    ·refine dtail 0 rfl (G.quiet (yL rfl rfl) rfl ?_)
     refine dtail 3 rfl (zM rfl rfl rfl rfl rfl ?_)
     refine rn [24,4,3,24,5,3,28,7,11] ?_
     exact fin3 rfl (.cellw rfl rfl) (.tmp rfl) (.tmp rfl) (fun w' hw' => ⟨by rw [xE, if_pos hc, hc]; rfl, hw'.upd⟩) _ (.inl rfl)
 ·refine dop 1 rfl (zH [] rfl (fun w1 hw1 ho1 => by have h7 := vQ (5) w1; exact h7) rfl ?_)
  rintro b13 _
  refine ii ?_
  refine dop 3 rfl (g_lit rfl rfl rfl rfl rfl fun b15 => ?_)
  refine zJ (b := b15) [Value.func (.func 248) #[] [Value.pointer (some ⟨b13, 0, none⟩)].toArray, Value.func (.func 240) #[] [Value.pointer (some ⟨b3, 0, none⟩)].toArray] rfl ?_
  refine dop 4 rfl (zH _ rfl (fun w1 hw1 ho1 => by
   have h7 := Own2.unstar (Ls := [Res.blk b13 3 [Value.int .i64 (5)], Res.blk b3 3 [Value.int .i64 (e)]]) (Ls1 := fun _ => [Res.blk b13 3 [Value.int .i64 (5)], Res.blk b3 3 [Value.int .i64 (e)]]) (fun hw2 => xH (fun z9 : Unit => Res.star [Res.blk b13 3 [Value.int .i64 (5)], Res.blk b3 3 [Value.int .i64 (e)]]) okP ([(⟨248, [Value.pointer (some ⟨b13, 0, none⟩)], fun v _ => ((evR 5 v).1, (evR 5 v).2, ())⟩ : Chg Unit), (⟨240, [Value.pointer (some ⟨b3, 0, none⟩)], fun v _ => ((duR e v).1, (duR e v).2, ())⟩ : Chg Unit)] : List (Chg Unit)) v () b15 w1 hw2 (by
    intro c9 hc9
    simp only [List.mem_cons, List.not_mem_nil, or_false] at hc9
    rcases hc9 with rfl | rfl
    · exact ⟨by kernel_rfl, fun v9 s9 h9 h0 => vD h9, fun b9 v9 s9 w9 hw9 h9 => Chg.go_of hw9 inferInstance inferInstance (fun w8 hw8 => wH b9 b13 v9 5 w8 hw8 (by decide) h9.1)⟩
    · exact ⟨by kernel_rfl, fun v9 s9 h9 h0 => (by show okP (duR e v9).1 (); unfold duR; split; exact h9; exact ⟨h9.1, by simp⟩), fun b9 v9 s9 w9 hw9 h9 => Chg.go_of hw9 inferInstance inferInstance (fun w8 hw8 => sN b9 b3 v9 e w8 hw8)⟩) hok (Rd.star (Rd.ofBlk (b := b15) (T := 285) (c := [Value.func (.func 248) #[] [Value.pointer (some ⟨b13, 0, none⟩)].toArray, Value.func (.func 240) #[] [Value.pointer (some ⟨b3, 0, none⟩)].toArray]) hw1 rfl (by simp) rfl)) (by simp)) ho1
   exact h7) rfl ?_)
  rintro ⟨⟩ _
  refine ii ?_
  refine rn [23,5,2,23,6,40] ?_
  refine g_val 17 (v' := V.v (payV v e).1) rfl (by rw [uO v e [Value.pointer (some ⟨b13, 0, none⟩)] [Value.pointer (some ⟨b3, 0, none⟩)]]) ?_
  refine rn [24,7,40] ?_
  refine g_val 18 (v' := .int .i64 (payV v e).2.2) rfl (by rw [uO v e [Value.pointer (some ⟨b13, 0, none⟩)] [Value.pointer (some ⟨b3, 0, none⟩)]]) ?_
  refine dop 9 rfl (zM rfl rfl rfl rfl rfl ?_)
  refine rn [24,10,3,28,7,8,1,2,51,0] ?_
  refine zC rfl (fun h4 => ?_) (fun h4 => ?_)
  ·have hc : ¬ (payV v e).2.2 = 0 := by simpa using h4
   refine rn [1,45,2,33,3,3,0,11,13] ?_
   exact fin3 rfl (.cellw rfl rfl) (.tmp rfl) (.tmp rfl) (fun w' hw' => ⟨by rw [xE, if_neg hc]; rfl, hw'.upd⟩) _ (.inl rfl)
  ·have hc : (payV v e).2.2 = 0 := by simpa using h4
   refine rn [12,7,8] ?_
   refine dreg [0, 2, 3] mixed rfl ?_
   refine rn [24,1,4] ?_
   refine yB [0, 2] (by kernel_rfl) (by simp) zB ⟨dpick rfl (G.quiet (yL rfl rfl) rfl ?_), dpick rfl (G.quiet (yN rfl rfl) rfl ?_), trivial⟩
   ·refine yB [2, 3] (by kernel_rfl) (by simp) zB ⟨dpick rfl (G.quiet (yN rfl rfl) rfl ?_), dpick rfl (zM rfl rfl rfl rfl rfl ?_), trivial⟩
    ·refine dtail 3 rfl (zM rfl rfl rfl rfl rfl ?_)
     refine rn [24,4,3,24,5,3,28,7,11] ?_
     exact fin3 rfl (.cellw rfl rfl) (.tmp rfl) (.tmp rfl) (fun w' hw' => ⟨by rw [xE, if_pos hc, hc]; rfl, hw'.upd⟩) _ (.inl rfl)
    ·refine dtail 2 rfl (G.quiet (yN rfl rfl) rfl ?_)
     refine rn [24,4,3,24,5,3,28,7,11] ?_
     exact fin3 rfl (.cellw rfl rfl) (.tmp rfl) (.tmp rfl) (fun w' hw' => ⟨by rw [xE, if_pos hc, hc]; rfl, hw'.upd⟩) _ (.inl rfl)
   ·refine dtail 0 rfl (G.quiet (yL rfl rfl) rfl ?_)
    refine dtail 3 rfl (zM rfl rfl rfl rfl rfl ?_)
    refine rn [24,4,3,24,5,3,28,7,11] ?_
    exact fin3 rfl (.cellw rfl rfl) (.tmp rfl) (.tmp rfl) (fun w' hw' => ⟨by rw [xE, if_pos hc, hc]; rfl, hw'.upd⟩) _ (.inl rfl)
theorem xV (v : V) (e : Int) (c : C) (a1 a2 a3 a4 : List Value) : applyC ([⟨170, a1, fun v s => ((mkR e v).1, (mkR e v).2, s)⟩, ⟨248, a2, fun v s => ((evR 7 v).1, (evR 7 v).2, s)⟩, ⟨249, a3, fun v s => ((dlR e c.sld v).1, (dlR e c.sld v).2, s)⟩, ⟨171, a4, fun v _ => ((buR c v).1, 0, (buR c v).2)⟩] : List (Chg Int)) v 0 = ((slaV v e c).1, (slaV v e c).2.2, (slaV v e c).2.1) := by
 unfold slaV
 by_cases h1 : v.sl = true
 ·rw [if_pos h1]; simp [applyC, mkR, h1]
 ·rw [if_neg h1]
  by_cases h2 : nxt v.st 7 = 0
  ·rw [if_pos h2]; simp [applyC, mkR, evR, h1, h2]
  ·rw [if_neg h2]
   by_cases h3 : latB [e, c.sld] = false
   ·rw [if_pos h3]; simp [applyC, mkR, evR, dlR, h1, h2, h3]
   ·rw [if_neg h3]; simp [applyC, mkR, evR, dlR, buR, h1, h2, h3]
theorem sT (v : V) (e : Int) (c : C) (w : World) (he : I64 e) (hd : I64 c.sld) (hok : okP v ()) (hpn : 0 ≤ c.pnum) (hpd : 1 ≤ c.pden ∧ c.pden ≤ 4294967296) (hnd : c.pnum ≤ c.pden) : Pur Tryz.prog 111 [v.v, .int .i64 e, c.v] w (.tuple [V.v (slaV v e c).1, .int .u64 (slaV v e c).2.1, .int .i64 (slaV v e c).2.2].toArray) := by
 refine g_st Tryz.func111 32 (WOK.start [] _) ?_
 refine rn [1] ?_
 refine g_op (g_box (c := V.c v) rfl rfl rfl fun b3 => ?_)
 refine g_op (g_box rfl rfl rfl fun b4 => ?_)
 refine g_op (g_box (c := C.c c) rfl rfl rfl fun b5 => ?_)
 refine g_op (zI rfl fun b6 => ?_)
 refine rn [3,3,0,1] ?_
 refine g_op (zI rfl fun bz => ?_)
 refine rn [0,1,52,3,0,1,52,3,0,8] ?_
 refine dregL (L0 := [Res.blk b3 52 (V.c v), Res.blk b4 3 [Value.int .i64 (e)], Res.blk b5 24 c.c]) [14] mixed rfl zB ?_
 refine rn [23,0,45,23,1,2,23,3,5,23,4,4,23,5,5,23,7,2] ?_
 refine yB [2, 13] (by kernel_rfl) (by simp) zB ⟨dpick rfl (zH [] rfl (fun w1 hw1 ho1 => by have h7 := vQ (7) w1; exact h7) rfl ?_), dpick rfl (zI rfl fun b12 => ?_), trivial⟩
 ·rintro b19 _
  refine ii ?_
  refine yB [6, 13] (by kernel_rfl) (by simp) zB ⟨dpick rfl (zH [] rfl (fun w1 hw1 ho1 => by have h7 := tO (e) (c.sld) w1; exact h7) rfl ?_), dpick rfl (zI rfl fun b12 => ?_), trivial⟩
  ·rintro ⟨b23, p23⟩ _
   refine ii ?_
   refine yB [8, 13] (by kernel_rfl) (by simp) zB ⟨dpick rfl (g_lit rfl rfl rfl rfl rfl fun b25 => ?_), dpick rfl (zI rfl fun b12 => ?_), trivial⟩
   ·refine zJ (b := b25) [Value.func (.func 170) #[] [Value.pointer (some ⟨b4, 0, none⟩)].toArray, Value.func (.func 248) #[] [Value.pointer (some ⟨b19, 0, none⟩)].toArray, Value.func (.func 249) #[] [Value.pointer (some ⟨b23, 0, none⟩), Value.pointer (some ⟨p23, 0, none⟩)].toArray, Value.func (.func 171) #[] [Value.pointer (some ⟨b5, 0, none⟩), Value.pointer (some ⟨bz, 0, none⟩)].toArray] rfl ?_
    refine yB [9, 13] (by kernel_rfl) (by simp) zB ⟨dpick rfl (zH _ rfl (fun w1 hw1 ho1 => by
     have h7 := Own2.unstar (Ls := [Res.blk b4 3 [Value.int .i64 (e)], Res.blk b19 3 [Value.int .i64 (7)], Res.blk b23 3 [Value.int .i64 (e)], Res.blk p23 3 [Value.int .i64 (c.sld)], Res.blk b5 24 c.c, Res.blk bz 22 [Value.int .u64 (0)]]) (Ls1 := fun _ => [Res.blk b4 3 [Value.int .i64 (e)], Res.blk b19 3 [Value.int .i64 (7)], Res.blk b23 3 [Value.int .i64 (e)], Res.blk p23 3 [Value.int .i64 (c.sld)], Res.blk b5 24 c.c, Res.blk bz 22 [Value.int .u64 ((applyC ([(⟨170, [Value.pointer (some ⟨b4, 0, none⟩)], fun v s => ((mkR e v).1, (mkR e v).2, s)⟩ : Chg Int), (⟨248, [Value.pointer (some ⟨b19, 0, none⟩)], fun v s => ((evR 7 v).1, (evR 7 v).2, s)⟩ : Chg Int), (⟨249, [Value.pointer (some ⟨b23, 0, none⟩), Value.pointer (some ⟨p23, 0, none⟩)], fun v s => ((dlR e c.sld v).1, (dlR e c.sld v).2, s)⟩ : Chg Int), (⟨171, [Value.pointer (some ⟨b5, 0, none⟩), Value.pointer (some ⟨bz, 0, none⟩)], fun v _ => ((buR c v).1, 0, (buR c v).2)⟩ : Chg Int)] : List (Chg Int)) v 0).2.2)]]) (fun hw2 => xH (fun z9 : Int => Res.star [Res.blk b4 3 [Value.int .i64 (e)], Res.blk b19 3 [Value.int .i64 (7)], Res.blk b23 3 [Value.int .i64 (e)], Res.blk p23 3 [Value.int .i64 (c.sld)], Res.blk b5 24 c.c, Res.blk bz 22 [Value.int .u64 (z9)]]) okP ([(⟨170, [Value.pointer (some ⟨b4, 0, none⟩)], fun v s => ((mkR e v).1, (mkR e v).2, s)⟩ : Chg Int), (⟨248, [Value.pointer (some ⟨b19, 0, none⟩)], fun v s => ((evR 7 v).1, (evR 7 v).2, s)⟩ : Chg Int), (⟨249, [Value.pointer (some ⟨b23, 0, none⟩), Value.pointer (some ⟨p23, 0, none⟩)], fun v s => ((dlR e c.sld v).1, (dlR e c.sld v).2, s)⟩ : Chg Int), (⟨171, [Value.pointer (some ⟨b5, 0, none⟩), Value.pointer (some ⟨bz, 0, none⟩)], fun v _ => ((buR c v).1, 0, (buR c v).2)⟩ : Chg Int)] : List (Chg Int)) v 0 b25 w1 hw2 (by
      intro c9 hc9
      simp only [List.mem_cons, List.not_mem_nil, or_false] at hc9
      rcases hc9 with rfl | rfl | rfl | rfl
      · exact ⟨by kernel_rfl, fun v9 s9 h9 h0 => (by show okP (mkR e v9).1 s9; unfold mkR; split <;> exact h9), fun b9 v9 s9 w9 hw9 h9 => Chg.go_of hw9 inferInstance inferInstance (fun w8 hw8 => uI b9 b4 v9 e w8 hw8)⟩
      · exact ⟨by kernel_rfl, fun v9 s9 h9 h0 => vD (v := v9) h9, fun b9 v9 s9 w9 hw9 h9 => Chg.go_of hw9 inferInstance inferInstance (fun w8 hw8 => wH b9 b19 v9 7 w8 hw8 (by decide) h9.1)⟩
      · exact ⟨by kernel_rfl, fun v9 s9 h9 h0 => (by show okP (dlR e c.sld v9).1 s9; unfold dlR; split <;> exact h9), fun b9 v9 s9 w9 hw9 h9 => Chg.go_of hw9 inferInstance inferInstance (fun w8 hw8 => vS b9 b23 p23 v9 e c.sld w8 hw8 he hd)⟩
      · exact ⟨by kernel_rfl, fun v9 s9 h9 h0 => ⟨h9.1, by unfold buR; simp only [IntKind.wrap_u64]; omega⟩, fun b9 v9 s9 w9 hw9 h9 => Chg.go_of hw9 inferInstance inferInstance (fun w8 hw8 => uH b9 b5 bz v9 c s9 w8 hw8 h9.2 hpn hpd hnd)⟩) hok (Rd.star (Rd.ofBlk (b := b25) (T := 285) (c := [Value.func (.func 170) #[] [Value.pointer (some ⟨b4, 0, none⟩)].toArray, Value.func (.func 248) #[] [Value.pointer (some ⟨b19, 0, none⟩)].toArray, Value.func (.func 249) #[] [Value.pointer (some ⟨b23, 0, none⟩), Value.pointer (some ⟨p23, 0, none⟩)].toArray, Value.func (.func 171) #[] [Value.pointer (some ⟨b5, 0, none⟩), Value.pointer (some ⟨bz, 0, none⟩)].toArray]) hw1 rfl (by simp) rfl)) (by simp)) ho1
     exact h7) rfl ?_), dpick rfl (zI rfl fun b12 => ?_), trivial⟩
    ·rintro ⟨⟩ _
     refine ii ?_
     refine zJ (b := bz) [Value.int .u64 (slaV v e c).2.1] (by rw [xV v e c [Value.pointer (some ⟨b4, 0, none⟩)] [Value.pointer (some ⟨b19, 0, none⟩)] [Value.pointer (some ⟨b23, 0, none⟩), Value.pointer (some ⟨p23, 0, none⟩)] [Value.pointer (some ⟨b5, 0, none⟩), Value.pointer (some ⟨bz, 0, none⟩)]]) ?_
     refine rn [23,10,2,23,11,40] ?_
     refine g_val 27 (v' := V.v (slaV v e c).1) rfl (by rw [xV v e c [Value.pointer (some ⟨b4, 0, none⟩)] [Value.pointer (some ⟨b19, 0, none⟩)] [Value.pointer (some ⟨b23, 0, none⟩), Value.pointer (some ⟨p23, 0, none⟩)] [Value.pointer (some ⟨b5, 0, none⟩), Value.pointer (some ⟨bz, 0, none⟩)]]) ?_
     refine rn [24,12,40] ?_
     refine g_val 28 (v' := .int .i64 (slaV v e c).2.2) rfl (by rw [xV v e c [Value.pointer (some ⟨b4, 0, none⟩)] [Value.pointer (some ⟨b19, 0, none⟩)] [Value.pointer (some ⟨b23, 0, none⟩), Value.pointer (some ⟨p23, 0, none⟩)] [Value.pointer (some ⟨b5, 0, none⟩), Value.pointer (some ⟨bz, 0, none⟩)]]) ?_
     refine dop 13 rfl (zI rfl fun b12 => ?_)
     refine dop 14 rfl (zM rfl rfl rfl rfl rfl ?_)
     refine rn [24,15,3,28,7,8] ?_
     refine dreg [0, 1, 3] mixed rfl ?_
     refine rn [24,2,2] ?_
     refine yB [0, 1] (by kernel_rfl) (by simp) zB ⟨dpick rfl (G.quiet (yL rfl rfl) rfl ?_), dpick rfl (G.quiet (yN rfl rfl) rfl ?_), trivial⟩
     ·refine yB [1, 3] (by kernel_rfl) (by simp) zB ⟨dpick rfl (G.quiet (yN rfl rfl) rfl ?_), dpick rfl (zM rfl rfl rfl rfl rfl ?_), trivial⟩
      ·refine dtail 3 rfl (zM rfl rfl rfl rfl rfl ?_)
       refine rn [24,4,3,24,5,3,28,7,11] ?_
       exact fin3 rfl (.cellw rfl rfl) (.tmp rfl) (.tmp rfl) (fun w' hw' => ⟨by rfl, hw'.upd⟩) _ (.inl rfl)
      ·refine dtail 1 rfl (G.quiet (yN rfl rfl) rfl ?_)
       refine rn [24,4,3,24,5,3,28,7,11] ?_
       exact fin3 rfl (.cellw rfl rfl) (.tmp rfl) (.tmp rfl) (fun w' hw' => ⟨by rfl, hw'.upd⟩) _ (.inl rfl)
     ·refine dtail 0 rfl (G.quiet (yL rfl rfl) rfl ?_)
      refine dtail 3 rfl (zM rfl rfl rfl rfl rfl ?_)
      refine rn [24,4,3,24,5,3,28,7,11] ?_
      exact fin3 rfl (.cellw rfl rfl) (.tmp rfl) (.tmp rfl) (fun w' hw' => ⟨by rfl, hw'.upd⟩) _ (.inl rfl)
    ·refine dop 9 rfl (zH _ rfl (fun w1 hw1 ho1 => by
      have h7 := Own2.unstar (Ls := [Res.blk b4 3 [Value.int .i64 (e)], Res.blk b19 3 [Value.int .i64 (7)], Res.blk b23 3 [Value.int .i64 (e)], Res.blk p23 3 [Value.int .i64 (c.sld)], Res.blk b5 24 c.c, Res.blk bz 22 [Value.int .u64 (0)]]) (Ls1 := fun _ => [Res.blk b4 3 [Value.int .i64 (e)], Res.blk b19 3 [Value.int .i64 (7)], Res.blk b23 3 [Value.int .i64 (e)], Res.blk p23 3 [Value.int .i64 (c.sld)], Res.blk b5 24 c.c, Res.blk bz 22 [Value.int .u64 ((applyC ([(⟨170, [Value.pointer (some ⟨b4, 0, none⟩)], fun v s => ((mkR e v).1, (mkR e v).2, s)⟩ : Chg Int), (⟨248, [Value.pointer (some ⟨b19, 0, none⟩)], fun v s => ((evR 7 v).1, (evR 7 v).2, s)⟩ : Chg Int), (⟨249, [Value.pointer (some ⟨b23, 0, none⟩), Value.pointer (some ⟨p23, 0, none⟩)], fun v s => ((dlR e c.sld v).1, (dlR e c.sld v).2, s)⟩ : Chg Int), (⟨171, [Value.pointer (some ⟨b5, 0, none⟩), Value.pointer (some ⟨bz, 0, none⟩)], fun v _ => ((buR c v).1, 0, (buR c v).2)⟩ : Chg Int)] : List (Chg Int)) v 0).2.2)]]) (fun hw2 => xH (fun z9 : Int => Res.star [Res.blk b4 3 [Value.int .i64 (e)], Res.blk b19 3 [Value.int .i64 (7)], Res.blk b23 3 [Value.int .i64 (e)], Res.blk p23 3 [Value.int .i64 (c.sld)], Res.blk b5 24 c.c, Res.blk bz 22 [Value.int .u64 (z9)]]) okP ([(⟨170, [Value.pointer (some ⟨b4, 0, none⟩)], fun v s => ((mkR e v).1, (mkR e v).2, s)⟩ : Chg Int), (⟨248, [Value.pointer (some ⟨b19, 0, none⟩)], fun v s => ((evR 7 v).1, (evR 7 v).2, s)⟩ : Chg Int), (⟨249, [Value.pointer (some ⟨b23, 0, none⟩), Value.pointer (some ⟨p23, 0, none⟩)], fun v s => ((dlR e c.sld v).1, (dlR e c.sld v).2, s)⟩ : Chg Int), (⟨171, [Value.pointer (some ⟨b5, 0, none⟩), Value.pointer (some ⟨bz, 0, none⟩)], fun v _ => ((buR c v).1, 0, (buR c v).2)⟩ : Chg Int)] : List (Chg Int)) v 0 b25 w1 hw2 (by
       intro c9 hc9
       simp only [List.mem_cons, List.not_mem_nil, or_false] at hc9
       rcases hc9 with rfl | rfl | rfl | rfl
       · exact ⟨by kernel_rfl, fun v9 s9 h9 h0 => (by show okP (mkR e v9).1 s9; unfold mkR; split <;> exact h9), fun b9 v9 s9 w9 hw9 h9 => Chg.go_of hw9 inferInstance inferInstance (fun w8 hw8 => uI b9 b4 v9 e w8 hw8)⟩
       · exact ⟨by kernel_rfl, fun v9 s9 h9 h0 => vD (v := v9) h9, fun b9 v9 s9 w9 hw9 h9 => Chg.go_of hw9 inferInstance inferInstance (fun w8 hw8 => wH b9 b19 v9 7 w8 hw8 (by decide) h9.1)⟩
       · exact ⟨by kernel_rfl, fun v9 s9 h9 h0 => (by show okP (dlR e c.sld v9).1 s9; unfold dlR; split <;> exact h9), fun b9 v9 s9 w9 hw9 h9 => Chg.go_of hw9 inferInstance inferInstance (fun w8 hw8 => vS b9 b23 p23 v9 e c.sld w8 hw8 he hd)⟩
       · exact ⟨by kernel_rfl, fun v9 s9 h9 h0 => ⟨h9.1, by unfold buR; simp only [IntKind.wrap_u64]; omega⟩, fun b9 v9 s9 w9 hw9 h9 => Chg.go_of hw9 inferInstance inferInstance (fun w8 hw8 => uH b9 b5 bz v9 c s9 w8 hw8 h9.2 hpn hpd hnd)⟩) hok (Rd.star (Rd.ofBlk (b := b25) (T := 285) (c := [Value.func (.func 170) #[] [Value.pointer (some ⟨b4, 0, none⟩)].toArray, Value.func (.func 248) #[] [Value.pointer (some ⟨b19, 0, none⟩)].toArray, Value.func (.func 249) #[] [Value.pointer (some ⟨b23, 0, none⟩), Value.pointer (some ⟨p23, 0, none⟩)].toArray, Value.func (.func 171) #[] [Value.pointer (some ⟨b5, 0, none⟩), Value.pointer (some ⟨bz, 0, none⟩)].toArray]) hw1 rfl (by simp) rfl)) (by simp)) ho1
      exact h7) rfl ?_)
     rintro ⟨⟩ _
     refine ii ?_
     refine zJ (b := bz) [Value.int .u64 (slaV v e c).2.1] (by rw [xV v e c [Value.pointer (some ⟨b4, 0, none⟩)] [Value.pointer (some ⟨b19, 0, none⟩)] [Value.pointer (some ⟨b23, 0, none⟩), Value.pointer (some ⟨p23, 0, none⟩)] [Value.pointer (some ⟨b5, 0, none⟩), Value.pointer (some ⟨bz, 0, none⟩)]]) ?_
     refine rn [23,10,2,23,11,40] ?_
     refine g_val 27 (v' := V.v (slaV v e c).1) rfl (by rw [xV v e c [Value.pointer (some ⟨b4, 0, none⟩)] [Value.pointer (some ⟨b19, 0, none⟩)] [Value.pointer (some ⟨b23, 0, none⟩), Value.pointer (some ⟨p23, 0, none⟩)] [Value.pointer (some ⟨b5, 0, none⟩), Value.pointer (some ⟨bz, 0, none⟩)]]) ?_
     refine rn [24,12,40] ?_
     refine g_val 28 (v' := .int .i64 (slaV v e c).2.2) rfl (by rw [xV v e c [Value.pointer (some ⟨b4, 0, none⟩)] [Value.pointer (some ⟨b19, 0, none⟩)] [Value.pointer (some ⟨b23, 0, none⟩), Value.pointer (some ⟨p23, 0, none⟩)] [Value.pointer (some ⟨b5, 0, none⟩), Value.pointer (some ⟨bz, 0, none⟩)]]) ?_
     refine dop 14 rfl (zM rfl rfl rfl rfl rfl ?_)
     refine rn [24,15,3,28,7,8] ?_
     refine dreg [0, 1, 3] mixed rfl ?_
     refine rn [24,2,2] ?_
     refine yB [0, 1] (by kernel_rfl) (by simp) zB ⟨dpick rfl (G.quiet (yL rfl rfl) rfl ?_), dpick rfl (G.quiet (yN rfl rfl) rfl ?_), trivial⟩
     ·refine yB [1, 3] (by kernel_rfl) (by simp) zB ⟨dpick rfl (G.quiet (yN rfl rfl) rfl ?_), dpick rfl (zM rfl rfl rfl rfl rfl ?_), trivial⟩
      ·refine dtail 3 rfl (zM rfl rfl rfl rfl rfl ?_)
       refine rn [24,4,3,24,5,3,28,7,11] ?_
       exact fin3 rfl (.cellw rfl rfl) (.tmp rfl) (.tmp rfl) (fun w' hw' => ⟨by rfl, hw'.upd⟩) _ (.inl rfl)
      ·refine dtail 1 rfl (G.quiet (yN rfl rfl) rfl ?_)
       refine rn [24,4,3,24,5,3,28,7,11] ?_
       exact fin3 rfl (.cellw rfl rfl) (.tmp rfl) (.tmp rfl) (fun w' hw' => ⟨by rfl, hw'.upd⟩) _ (.inl rfl)
     ·refine dtail 0 rfl (G.quiet (yL rfl rfl) rfl ?_)
      refine dtail 3 rfl (zM rfl rfl rfl rfl rfl ?_)
      refine rn [24,4,3,24,5,3,28,7,11] ?_
      exact fin3 rfl (.cellw rfl rfl) (.tmp rfl) (.tmp rfl) (fun w' hw' => ⟨by rfl, hw'.upd⟩) _ (.inl rfl)
   ·refine dop 8 rfl (g_lit rfl rfl rfl rfl rfl fun b25 => ?_)
    refine zJ (b := b25) [Value.func (.func 170) #[] [Value.pointer (some ⟨b4, 0, none⟩)].toArray, Value.func (.func 248) #[] [Value.pointer (some ⟨b19, 0, none⟩)].toArray, Value.func (.func 249) #[] [Value.pointer (some ⟨b23, 0, none⟩), Value.pointer (some ⟨p23, 0, none⟩)].toArray, Value.func (.func 171) #[] [Value.pointer (some ⟨b5, 0, none⟩), Value.pointer (some ⟨bz, 0, none⟩)].toArray] rfl ?_
    refine dop 9 rfl (zH _ rfl (fun w1 hw1 ho1 => by
     have h7 := Own2.unstar (Ls := [Res.blk b4 3 [Value.int .i64 (e)], Res.blk b19 3 [Value.int .i64 (7)], Res.blk b23 3 [Value.int .i64 (e)], Res.blk p23 3 [Value.int .i64 (c.sld)], Res.blk b5 24 c.c, Res.blk bz 22 [Value.int .u64 (0)]]) (Ls1 := fun _ => [Res.blk b4 3 [Value.int .i64 (e)], Res.blk b19 3 [Value.int .i64 (7)], Res.blk b23 3 [Value.int .i64 (e)], Res.blk p23 3 [Value.int .i64 (c.sld)], Res.blk b5 24 c.c, Res.blk bz 22 [Value.int .u64 ((applyC ([(⟨170, [Value.pointer (some ⟨b4, 0, none⟩)], fun v s => ((mkR e v).1, (mkR e v).2, s)⟩ : Chg Int), (⟨248, [Value.pointer (some ⟨b19, 0, none⟩)], fun v s => ((evR 7 v).1, (evR 7 v).2, s)⟩ : Chg Int), (⟨249, [Value.pointer (some ⟨b23, 0, none⟩), Value.pointer (some ⟨p23, 0, none⟩)], fun v s => ((dlR e c.sld v).1, (dlR e c.sld v).2, s)⟩ : Chg Int), (⟨171, [Value.pointer (some ⟨b5, 0, none⟩), Value.pointer (some ⟨bz, 0, none⟩)], fun v _ => ((buR c v).1, 0, (buR c v).2)⟩ : Chg Int)] : List (Chg Int)) v 0).2.2)]]) (fun hw2 => xH (fun z9 : Int => Res.star [Res.blk b4 3 [Value.int .i64 (e)], Res.blk b19 3 [Value.int .i64 (7)], Res.blk b23 3 [Value.int .i64 (e)], Res.blk p23 3 [Value.int .i64 (c.sld)], Res.blk b5 24 c.c, Res.blk bz 22 [Value.int .u64 (z9)]]) okP ([(⟨170, [Value.pointer (some ⟨b4, 0, none⟩)], fun v s => ((mkR e v).1, (mkR e v).2, s)⟩ : Chg Int), (⟨248, [Value.pointer (some ⟨b19, 0, none⟩)], fun v s => ((evR 7 v).1, (evR 7 v).2, s)⟩ : Chg Int), (⟨249, [Value.pointer (some ⟨b23, 0, none⟩), Value.pointer (some ⟨p23, 0, none⟩)], fun v s => ((dlR e c.sld v).1, (dlR e c.sld v).2, s)⟩ : Chg Int), (⟨171, [Value.pointer (some ⟨b5, 0, none⟩), Value.pointer (some ⟨bz, 0, none⟩)], fun v _ => ((buR c v).1, 0, (buR c v).2)⟩ : Chg Int)] : List (Chg Int)) v 0 b25 w1 hw2 (by
      intro c9 hc9
      simp only [List.mem_cons, List.not_mem_nil, or_false] at hc9
      rcases hc9 with rfl | rfl | rfl | rfl
      · exact ⟨by kernel_rfl, fun v9 s9 h9 h0 => (by show okP (mkR e v9).1 s9; unfold mkR; split <;> exact h9), fun b9 v9 s9 w9 hw9 h9 => Chg.go_of hw9 inferInstance inferInstance (fun w8 hw8 => uI b9 b4 v9 e w8 hw8)⟩
      · exact ⟨by kernel_rfl, fun v9 s9 h9 h0 => vD (v := v9) h9, fun b9 v9 s9 w9 hw9 h9 => Chg.go_of hw9 inferInstance inferInstance (fun w8 hw8 => wH b9 b19 v9 7 w8 hw8 (by decide) h9.1)⟩
      · exact ⟨by kernel_rfl, fun v9 s9 h9 h0 => (by show okP (dlR e c.sld v9).1 s9; unfold dlR; split <;> exact h9), fun b9 v9 s9 w9 hw9 h9 => Chg.go_of hw9 inferInstance inferInstance (fun w8 hw8 => vS b9 b23 p23 v9 e c.sld w8 hw8 he hd)⟩
      · exact ⟨by kernel_rfl, fun v9 s9 h9 h0 => ⟨h9.1, by unfold buR; simp only [IntKind.wrap_u64]; omega⟩, fun b9 v9 s9 w9 hw9 h9 => Chg.go_of hw9 inferInstance inferInstance (fun w8 hw8 => uH b9 b5 bz v9 c s9 w8 hw8 h9.2 hpn hpd hnd)⟩) hok (Rd.star (Rd.ofBlk (b := b25) (T := 285) (c := [Value.func (.func 170) #[] [Value.pointer (some ⟨b4, 0, none⟩)].toArray, Value.func (.func 248) #[] [Value.pointer (some ⟨b19, 0, none⟩)].toArray, Value.func (.func 249) #[] [Value.pointer (some ⟨b23, 0, none⟩), Value.pointer (some ⟨p23, 0, none⟩)].toArray, Value.func (.func 171) #[] [Value.pointer (some ⟨b5, 0, none⟩), Value.pointer (some ⟨bz, 0, none⟩)].toArray]) hw1 rfl (by simp) rfl)) (by simp)) ho1
     exact h7) rfl ?_)
    rintro ⟨⟩ _
    refine ii ?_
    refine zJ (b := bz) [Value.int .u64 (slaV v e c).2.1] (by rw [xV v e c [Value.pointer (some ⟨b4, 0, none⟩)] [Value.pointer (some ⟨b19, 0, none⟩)] [Value.pointer (some ⟨b23, 0, none⟩), Value.pointer (some ⟨p23, 0, none⟩)] [Value.pointer (some ⟨b5, 0, none⟩), Value.pointer (some ⟨bz, 0, none⟩)]]) ?_
    refine rn [23,10,2,23,11,40] ?_
    refine g_val 27 (v' := V.v (slaV v e c).1) rfl (by rw [xV v e c [Value.pointer (some ⟨b4, 0, none⟩)] [Value.pointer (some ⟨b19, 0, none⟩)] [Value.pointer (some ⟨b23, 0, none⟩), Value.pointer (some ⟨p23, 0, none⟩)] [Value.pointer (some ⟨b5, 0, none⟩), Value.pointer (some ⟨bz, 0, none⟩)]]) ?_
    refine rn [24,12,40] ?_
    refine g_val 28 (v' := .int .i64 (slaV v e c).2.2) rfl (by rw [xV v e c [Value.pointer (some ⟨b4, 0, none⟩)] [Value.pointer (some ⟨b19, 0, none⟩)] [Value.pointer (some ⟨b23, 0, none⟩), Value.pointer (some ⟨p23, 0, none⟩)] [Value.pointer (some ⟨b5, 0, none⟩), Value.pointer (some ⟨bz, 0, none⟩)]]) ?_
    refine dop 14 rfl (zM rfl rfl rfl rfl rfl ?_)
    refine rn [24,15,3,28,7,8] ?_
    refine dreg [0, 1, 3] mixed rfl ?_
    refine rn [24,2,2] ?_
    refine yB [0, 1] (by kernel_rfl) (by simp) zB ⟨dpick rfl (G.quiet (yL rfl rfl) rfl ?_), dpick rfl (G.quiet (yN rfl rfl) rfl ?_), trivial⟩
    ·refine yB [1, 3] (by kernel_rfl) (by simp) zB ⟨dpick rfl (G.quiet (yN rfl rfl) rfl ?_), dpick rfl (zM rfl rfl rfl rfl rfl ?_), trivial⟩
     ·refine dtail 3 rfl (zM rfl rfl rfl rfl rfl ?_)
      refine rn [24,4,3,24,5,3,28,7,11] ?_
      exact fin3 rfl (.cellw rfl rfl) (.tmp rfl) (.tmp rfl) (fun w' hw' => ⟨by rfl, hw'.upd⟩) _ (.inl rfl)
     ·refine dtail 1 rfl (G.quiet (yN rfl rfl) rfl ?_)
      refine rn [24,4,3,24,5,3,28,7,11] ?_
      exact fin3 rfl (.cellw rfl rfl) (.tmp rfl) (.tmp rfl) (fun w' hw' => ⟨by rfl, hw'.upd⟩) _ (.inl rfl)
    ·refine dtail 0 rfl (G.quiet (yL rfl rfl) rfl ?_)
     refine dtail 3 rfl (zM rfl rfl rfl rfl rfl ?_)
     refine rn [24,4,3,24,5,3,28,7,11] ?_
     exact fin3 rfl (.cellw rfl rfl) (.tmp rfl) (.tmp rfl) (fun w' hw' => ⟨by rfl, hw'.upd⟩) _ (.inl rfl)
  ·refine dop 6 rfl (zH [] rfl (fun w1 hw1 ho1 => by have h7 := tO (e) (c.sld) w1; exact h7) rfl ?_)
   rintro ⟨b23, p23⟩ _
   refine ii ?_
   refine dop 8 rfl (g_lit rfl rfl rfl rfl rfl fun b25 => ?_)
   refine zJ (b := b25) [Value.func (.func 170) #[] [Value.pointer (some ⟨b4, 0, none⟩)].toArray, Value.func (.func 248) #[] [Value.pointer (some ⟨b19, 0, none⟩)].toArray, Value.func (.func 249) #[] [Value.pointer (some ⟨b23, 0, none⟩), Value.pointer (some ⟨p23, 0, none⟩)].toArray, Value.func (.func 171) #[] [Value.pointer (some ⟨b5, 0, none⟩), Value.pointer (some ⟨bz, 0, none⟩)].toArray] rfl ?_
   refine dop 9 rfl (zH _ rfl (fun w1 hw1 ho1 => by
    have h7 := Own2.unstar (Ls := [Res.blk b4 3 [Value.int .i64 (e)], Res.blk b19 3 [Value.int .i64 (7)], Res.blk b23 3 [Value.int .i64 (e)], Res.blk p23 3 [Value.int .i64 (c.sld)], Res.blk b5 24 c.c, Res.blk bz 22 [Value.int .u64 (0)]]) (Ls1 := fun _ => [Res.blk b4 3 [Value.int .i64 (e)], Res.blk b19 3 [Value.int .i64 (7)], Res.blk b23 3 [Value.int .i64 (e)], Res.blk p23 3 [Value.int .i64 (c.sld)], Res.blk b5 24 c.c, Res.blk bz 22 [Value.int .u64 ((applyC ([(⟨170, [Value.pointer (some ⟨b4, 0, none⟩)], fun v s => ((mkR e v).1, (mkR e v).2, s)⟩ : Chg Int), (⟨248, [Value.pointer (some ⟨b19, 0, none⟩)], fun v s => ((evR 7 v).1, (evR 7 v).2, s)⟩ : Chg Int), (⟨249, [Value.pointer (some ⟨b23, 0, none⟩), Value.pointer (some ⟨p23, 0, none⟩)], fun v s => ((dlR e c.sld v).1, (dlR e c.sld v).2, s)⟩ : Chg Int), (⟨171, [Value.pointer (some ⟨b5, 0, none⟩), Value.pointer (some ⟨bz, 0, none⟩)], fun v _ => ((buR c v).1, 0, (buR c v).2)⟩ : Chg Int)] : List (Chg Int)) v 0).2.2)]]) (fun hw2 => xH (fun z9 : Int => Res.star [Res.blk b4 3 [Value.int .i64 (e)], Res.blk b19 3 [Value.int .i64 (7)], Res.blk b23 3 [Value.int .i64 (e)], Res.blk p23 3 [Value.int .i64 (c.sld)], Res.blk b5 24 c.c, Res.blk bz 22 [Value.int .u64 (z9)]]) okP ([(⟨170, [Value.pointer (some ⟨b4, 0, none⟩)], fun v s => ((mkR e v).1, (mkR e v).2, s)⟩ : Chg Int), (⟨248, [Value.pointer (some ⟨b19, 0, none⟩)], fun v s => ((evR 7 v).1, (evR 7 v).2, s)⟩ : Chg Int), (⟨249, [Value.pointer (some ⟨b23, 0, none⟩), Value.pointer (some ⟨p23, 0, none⟩)], fun v s => ((dlR e c.sld v).1, (dlR e c.sld v).2, s)⟩ : Chg Int), (⟨171, [Value.pointer (some ⟨b5, 0, none⟩), Value.pointer (some ⟨bz, 0, none⟩)], fun v _ => ((buR c v).1, 0, (buR c v).2)⟩ : Chg Int)] : List (Chg Int)) v 0 b25 w1 hw2 (by
     intro c9 hc9
     simp only [List.mem_cons, List.not_mem_nil, or_false] at hc9
     rcases hc9 with rfl | rfl | rfl | rfl
     · exact ⟨by kernel_rfl, fun v9 s9 h9 h0 => (by show okP (mkR e v9).1 s9; unfold mkR; split <;> exact h9), fun b9 v9 s9 w9 hw9 h9 => Chg.go_of hw9 inferInstance inferInstance (fun w8 hw8 => uI b9 b4 v9 e w8 hw8)⟩
     · exact ⟨by kernel_rfl, fun v9 s9 h9 h0 => vD (v := v9) h9, fun b9 v9 s9 w9 hw9 h9 => Chg.go_of hw9 inferInstance inferInstance (fun w8 hw8 => wH b9 b19 v9 7 w8 hw8 (by decide) h9.1)⟩
     · exact ⟨by kernel_rfl, fun v9 s9 h9 h0 => (by show okP (dlR e c.sld v9).1 s9; unfold dlR; split <;> exact h9), fun b9 v9 s9 w9 hw9 h9 => Chg.go_of hw9 inferInstance inferInstance (fun w8 hw8 => vS b9 b23 p23 v9 e c.sld w8 hw8 he hd)⟩
     · exact ⟨by kernel_rfl, fun v9 s9 h9 h0 => ⟨h9.1, by unfold buR; simp only [IntKind.wrap_u64]; omega⟩, fun b9 v9 s9 w9 hw9 h9 => Chg.go_of hw9 inferInstance inferInstance (fun w8 hw8 => uH b9 b5 bz v9 c s9 w8 hw8 h9.2 hpn hpd hnd)⟩) hok (Rd.star (Rd.ofBlk (b := b25) (T := 285) (c := [Value.func (.func 170) #[] [Value.pointer (some ⟨b4, 0, none⟩)].toArray, Value.func (.func 248) #[] [Value.pointer (some ⟨b19, 0, none⟩)].toArray, Value.func (.func 249) #[] [Value.pointer (some ⟨b23, 0, none⟩), Value.pointer (some ⟨p23, 0, none⟩)].toArray, Value.func (.func 171) #[] [Value.pointer (some ⟨b5, 0, none⟩), Value.pointer (some ⟨bz, 0, none⟩)].toArray]) hw1 rfl (by simp) rfl)) (by simp)) ho1
    exact h7) rfl ?_)
   rintro ⟨⟩ _
   refine ii ?_
   refine zJ (b := bz) [Value.int .u64 (slaV v e c).2.1] (by rw [xV v e c [Value.pointer (some ⟨b4, 0, none⟩)] [Value.pointer (some ⟨b19, 0, none⟩)] [Value.pointer (some ⟨b23, 0, none⟩), Value.pointer (some ⟨p23, 0, none⟩)] [Value.pointer (some ⟨b5, 0, none⟩), Value.pointer (some ⟨bz, 0, none⟩)]]) ?_
   refine rn [23,10,2,23,11,40] ?_
   refine g_val 27 (v' := V.v (slaV v e c).1) rfl (by rw [xV v e c [Value.pointer (some ⟨b4, 0, none⟩)] [Value.pointer (some ⟨b19, 0, none⟩)] [Value.pointer (some ⟨b23, 0, none⟩), Value.pointer (some ⟨p23, 0, none⟩)] [Value.pointer (some ⟨b5, 0, none⟩), Value.pointer (some ⟨bz, 0, none⟩)]]) ?_
   refine rn [24,12,40] ?_
   refine g_val 28 (v' := .int .i64 (slaV v e c).2.2) rfl (by rw [xV v e c [Value.pointer (some ⟨b4, 0, none⟩)] [Value.pointer (some ⟨b19, 0, none⟩)] [Value.pointer (some ⟨b23, 0, none⟩), Value.pointer (some ⟨p23, 0, none⟩)] [Value.pointer (some ⟨b5, 0, none⟩), Value.pointer (some ⟨bz, 0, none⟩)]]) ?_
   refine dop 14 rfl (zM rfl rfl rfl rfl rfl ?_)
   refine rn [24,15,3,28,7,8] ?_
   refine dreg [0, 1, 3] mixed rfl ?_
   refine rn [24,2,2] ?_
   refine yB [0, 1] (by kernel_rfl) (by simp) zB ⟨dpick rfl (G.quiet (yL rfl rfl) rfl ?_), dpick rfl (G.quiet (yN rfl rfl) rfl ?_), trivial⟩
   ·refine yB [1, 3] (by kernel_rfl) (by simp) zB ⟨dpick rfl (G.quiet (yN rfl rfl) rfl ?_), dpick rfl (zM rfl rfl rfl rfl rfl ?_), trivial⟩
    ·refine dtail 3 rfl (zM rfl rfl rfl rfl rfl ?_)
     refine rn [24,4,3,24,5,3,28,7,11] ?_
     exact fin3 rfl (.cellw rfl rfl) (.tmp rfl) (.tmp rfl) (fun w' hw' => ⟨by rfl, hw'.upd⟩) _ (.inl rfl)
    ·refine dtail 1 rfl (G.quiet (yN rfl rfl) rfl ?_)
     refine rn [24,4,3,24,5,3,28,7,11] ?_
     exact fin3 rfl (.cellw rfl rfl) (.tmp rfl) (.tmp rfl) (fun w' hw' => ⟨by rfl, hw'.upd⟩) _ (.inl rfl)
   ·refine dtail 0 rfl (G.quiet (yL rfl rfl) rfl ?_)
    refine dtail 3 rfl (zM rfl rfl rfl rfl rfl ?_)
    refine rn [24,4,3,24,5,3,28,7,11] ?_
    exact fin3 rfl (.cellw rfl rfl) (.tmp rfl) (.tmp rfl) (fun w' hw' => ⟨by rfl, hw'.upd⟩) _ (.inl rfl)
 ·refine dop 2 rfl (zH [] rfl (fun w1 hw1 ho1 => by have h7 := vQ (7) w1; exact h7) rfl ?_)
  rintro b19 _
  refine ii ?_
  refine dop 6 rfl (zH [] rfl (fun w1 hw1 ho1 => by have h7 := tO (e) (c.sld) w1; exact h7) rfl ?_)
  rintro ⟨b23, p23⟩ _
  refine ii ?_
  refine dop 8 rfl (g_lit rfl rfl rfl rfl rfl fun b25 => ?_)
  refine zJ (b := b25) [Value.func (.func 170) #[] [Value.pointer (some ⟨b4, 0, none⟩)].toArray, Value.func (.func 248) #[] [Value.pointer (some ⟨b19, 0, none⟩)].toArray, Value.func (.func 249) #[] [Value.pointer (some ⟨b23, 0, none⟩), Value.pointer (some ⟨p23, 0, none⟩)].toArray, Value.func (.func 171) #[] [Value.pointer (some ⟨b5, 0, none⟩), Value.pointer (some ⟨bz, 0, none⟩)].toArray] rfl ?_
  refine dop 9 rfl (zH _ rfl (fun w1 hw1 ho1 => by
   have h7 := Own2.unstar (Ls := [Res.blk b4 3 [Value.int .i64 (e)], Res.blk b19 3 [Value.int .i64 (7)], Res.blk b23 3 [Value.int .i64 (e)], Res.blk p23 3 [Value.int .i64 (c.sld)], Res.blk b5 24 c.c, Res.blk bz 22 [Value.int .u64 (0)]]) (Ls1 := fun _ => [Res.blk b4 3 [Value.int .i64 (e)], Res.blk b19 3 [Value.int .i64 (7)], Res.blk b23 3 [Value.int .i64 (e)], Res.blk p23 3 [Value.int .i64 (c.sld)], Res.blk b5 24 c.c, Res.blk bz 22 [Value.int .u64 ((applyC ([(⟨170, [Value.pointer (some ⟨b4, 0, none⟩)], fun v s => ((mkR e v).1, (mkR e v).2, s)⟩ : Chg Int), (⟨248, [Value.pointer (some ⟨b19, 0, none⟩)], fun v s => ((evR 7 v).1, (evR 7 v).2, s)⟩ : Chg Int), (⟨249, [Value.pointer (some ⟨b23, 0, none⟩), Value.pointer (some ⟨p23, 0, none⟩)], fun v s => ((dlR e c.sld v).1, (dlR e c.sld v).2, s)⟩ : Chg Int), (⟨171, [Value.pointer (some ⟨b5, 0, none⟩), Value.pointer (some ⟨bz, 0, none⟩)], fun v _ => ((buR c v).1, 0, (buR c v).2)⟩ : Chg Int)] : List (Chg Int)) v 0).2.2)]]) (fun hw2 => xH (fun z9 : Int => Res.star [Res.blk b4 3 [Value.int .i64 (e)], Res.blk b19 3 [Value.int .i64 (7)], Res.blk b23 3 [Value.int .i64 (e)], Res.blk p23 3 [Value.int .i64 (c.sld)], Res.blk b5 24 c.c, Res.blk bz 22 [Value.int .u64 (z9)]]) okP ([(⟨170, [Value.pointer (some ⟨b4, 0, none⟩)], fun v s => ((mkR e v).1, (mkR e v).2, s)⟩ : Chg Int), (⟨248, [Value.pointer (some ⟨b19, 0, none⟩)], fun v s => ((evR 7 v).1, (evR 7 v).2, s)⟩ : Chg Int), (⟨249, [Value.pointer (some ⟨b23, 0, none⟩), Value.pointer (some ⟨p23, 0, none⟩)], fun v s => ((dlR e c.sld v).1, (dlR e c.sld v).2, s)⟩ : Chg Int), (⟨171, [Value.pointer (some ⟨b5, 0, none⟩), Value.pointer (some ⟨bz, 0, none⟩)], fun v _ => ((buR c v).1, 0, (buR c v).2)⟩ : Chg Int)] : List (Chg Int)) v 0 b25 w1 hw2 (by
    intro c9 hc9
    simp only [List.mem_cons, List.not_mem_nil, or_false] at hc9
    rcases hc9 with rfl | rfl | rfl | rfl
    · exact ⟨by kernel_rfl, fun v9 s9 h9 h0 => (by show okP (mkR e v9).1 s9; unfold mkR; split <;> exact h9), fun b9 v9 s9 w9 hw9 h9 => Chg.go_of hw9 inferInstance inferInstance (fun w8 hw8 => uI b9 b4 v9 e w8 hw8)⟩
    · exact ⟨by kernel_rfl, fun v9 s9 h9 h0 => vD (v := v9) h9, fun b9 v9 s9 w9 hw9 h9 => Chg.go_of hw9 inferInstance inferInstance (fun w8 hw8 => wH b9 b19 v9 7 w8 hw8 (by decide) h9.1)⟩
    · exact ⟨by kernel_rfl, fun v9 s9 h9 h0 => (by show okP (dlR e c.sld v9).1 s9; unfold dlR; split <;> exact h9), fun b9 v9 s9 w9 hw9 h9 => Chg.go_of hw9 inferInstance inferInstance (fun w8 hw8 => vS b9 b23 p23 v9 e c.sld w8 hw8 he hd)⟩
    · exact ⟨by kernel_rfl, fun v9 s9 h9 h0 => ⟨h9.1, by unfold buR; simp only [IntKind.wrap_u64]; omega⟩, fun b9 v9 s9 w9 hw9 h9 => Chg.go_of hw9 inferInstance inferInstance (fun w8 hw8 => uH b9 b5 bz v9 c s9 w8 hw8 h9.2 hpn hpd hnd)⟩) hok (Rd.star (Rd.ofBlk (b := b25) (T := 285) (c := [Value.func (.func 170) #[] [Value.pointer (some ⟨b4, 0, none⟩)].toArray, Value.func (.func 248) #[] [Value.pointer (some ⟨b19, 0, none⟩)].toArray, Value.func (.func 249) #[] [Value.pointer (some ⟨b23, 0, none⟩), Value.pointer (some ⟨p23, 0, none⟩)].toArray, Value.func (.func 171) #[] [Value.pointer (some ⟨b5, 0, none⟩), Value.pointer (some ⟨bz, 0, none⟩)].toArray]) hw1 rfl (by simp) rfl)) (by simp)) ho1
   exact h7) rfl ?_)
  rintro ⟨⟩ _
  refine ii ?_
  refine zJ (b := bz) [Value.int .u64 (slaV v e c).2.1] (by rw [xV v e c [Value.pointer (some ⟨b4, 0, none⟩)] [Value.pointer (some ⟨b19, 0, none⟩)] [Value.pointer (some ⟨b23, 0, none⟩), Value.pointer (some ⟨p23, 0, none⟩)] [Value.pointer (some ⟨b5, 0, none⟩), Value.pointer (some ⟨bz, 0, none⟩)]]) ?_
  refine rn [23,10,2,23,11,40] ?_
  refine g_val 27 (v' := V.v (slaV v e c).1) rfl (by rw [xV v e c [Value.pointer (some ⟨b4, 0, none⟩)] [Value.pointer (some ⟨b19, 0, none⟩)] [Value.pointer (some ⟨b23, 0, none⟩), Value.pointer (some ⟨p23, 0, none⟩)] [Value.pointer (some ⟨b5, 0, none⟩), Value.pointer (some ⟨bz, 0, none⟩)]]) ?_
  refine rn [24,12,40] ?_
  refine g_val 28 (v' := .int .i64 (slaV v e c).2.2) rfl (by rw [xV v e c [Value.pointer (some ⟨b4, 0, none⟩)] [Value.pointer (some ⟨b19, 0, none⟩)] [Value.pointer (some ⟨b23, 0, none⟩), Value.pointer (some ⟨p23, 0, none⟩)] [Value.pointer (some ⟨b5, 0, none⟩), Value.pointer (some ⟨bz, 0, none⟩)]]) ?_
  refine dop 14 rfl (zM rfl rfl rfl rfl rfl ?_)
  refine rn [24,15,3,28,7,8] ?_
  refine dreg [0, 1, 3] mixed rfl ?_
  refine rn [24,2,2] ?_
  refine yB [0, 1] (by kernel_rfl) (by simp) zB ⟨dpick rfl (G.quiet (yL rfl rfl) rfl ?_), dpick rfl (G.quiet (yN rfl rfl) rfl ?_), trivial⟩
  ·refine yB [1, 3] (by kernel_rfl) (by simp) zB ⟨dpick rfl (G.quiet (yN rfl rfl) rfl ?_), dpick rfl (zM rfl rfl rfl rfl rfl ?_), trivial⟩
   ·refine dtail 3 rfl (zM rfl rfl rfl rfl rfl ?_)
    refine rn [24,4,3,24,5,3,28,7,11] ?_
    exact fin3 rfl (.cellw rfl rfl) (.tmp rfl) (.tmp rfl) (fun w' hw' => ⟨by rfl, hw'.upd⟩) _ (.inl rfl)
   ·refine dtail 1 rfl (G.quiet (yN rfl rfl) rfl ?_)
    refine rn [24,4,3,24,5,3,28,7,11] ?_
    exact fin3 rfl (.cellw rfl rfl) (.tmp rfl) (.tmp rfl) (fun w' hw' => ⟨by rfl, hw'.upd⟩) _ (.inl rfl)
  ·refine dtail 0 rfl (G.quiet (yL rfl rfl) rfl ?_)
   refine dtail 3 rfl (zM rfl rfl rfl rfl rfl ?_)
   refine rn [24,4,3,24,5,3,28,7,11] ?_
   exact fin3 rfl (.cellw rfl rfl) (.tmp rfl) (.tmp rfl) (fun w' hw' => ⟨by rfl, hw'.upd⟩) _ (.inl rfl)
end Go.Proofs.YtdddiilocbbkkaaGreat
