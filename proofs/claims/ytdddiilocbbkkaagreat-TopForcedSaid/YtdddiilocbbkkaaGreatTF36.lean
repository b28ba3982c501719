/- TopForced: for every configuration and all operations the law returns true. No condition. Part 36 of 42. -/
import Derived.Test.YtdddiilocbbkkaaGreatTF35
set_option linter.unusedVariables false
set_option linter.unusedSimpArgs false
namespace Go.Proofs.YtdddiilocbbkkaaGreat
open Go.RowKit Go.Eg
set_option maxHeartbeats 4000000
set_option synthInstance.maxSize 3000
set_option maxRecDepth 100000
structure EP where
 eb : Nat
 rb : Nat
 cb : Nat
 lb : Nat
 bb : Nat
 ub : Nat
 mb : Nat
 xb : Nat
 b0 : Nat
 b1 : Nat
 pb : Nat
 gb : Nat
 tb : Nat
theorem enew_any (c : C) (w : World) (hc : chk c = 0) (hk : c.ok) : Own2 (ι := (EP × EG)) Tryz.prog 10 [c.v] w [] (fun x => x.2.Rep (newE c)) (fun x => .tuple [.pointer (some ⟨x.1.eb, 0, none⟩), .int .i64 0].toArray) (fun x => [Res.blk x.1.eb 112 (ECell x.1.rb x.1.cb x.1.lb x.1.bb x.1.ub x.1.mb x.1.xb x.1.pb x.1.gb x.1.tb c x.2.lA ((newE c).lv.length) x.2.lc), RgB x.1.rb x.2.g, RgW x.2.g, Res.im (RG.m x.2.g), CkB x.1.cb ((newE c).blk) (c.elen.toNat), LgB x.1.lb ((newE c).dep) ((newE c).paid) ((newE c).burn) (c.supc), bB_ x.1.bb x.2.br, bW_ x.2.br, bK_ x.2.br, Res.row x.2.lA ((newE c).lv).length x.2.lc 3 1 (((newE c).lv).map (fun v : Int => [Value.int .i64 v])), CuB x.1.ub ((newE c).cur), Res.blk x.1.mb 186 (M.c (newE c).m), Res.blk x.1.xb 191 [Value.pointer (some ⟨x.1.b0, 0, none⟩), Value.pointer (some ⟨x.1.b1, 0, none⟩)], rB_i x.1.b0 x.2.g0, rW_i x.2.g0, rB_i x.1.b1 x.2.g1, rW_i x.2.g1, rB_i x.1.pb x.2.gp, rW_i x.2.gp, rB_pp x.1.gb x.2.gg, rW_pp x.2.gg, rB_rq x.1.tb x.2.gt, rW_rq x.2.gt]) (fun x => []) := by
 refine g_st Tryz.func10 37 (WOK.start (fps []) _) ?_
 have hok : Cok c := chk_ok hc hk
 have hmo : Cmo c := xD hc
 have q1 := hok.capa; have q2 := hok.elen; have q3 := hmo.rlen; have q4 := hmo.qsize
 have e_capa : ((c.capa.toNat : Nat) : Int) = c.capa := by omega
 have e_elen : ((c.elen.toNat : Nat) : Int) = c.elen := by omega
 have e_rlen : ((c.rlen.toNat : Nat) : Int) = c.rlen := by omega
 have e_qsize : ((c.qsize.toNat : Nat) : Int) = c.qsize := by omega
 refine rn [1] ?_
 refine g_op (g_box (c := C.c c) rfl rfl rfl fun b1 => ?_)
 refine rn [3,3,0,8,1,45] ?_
 refine g_op (zG rfl (fun w1 hw1 => cvalid_any c w1 hc hok) rfl ?_)
 refine rn [48,0,20,12,7,8] ?_
 refine dreg [] mixed rfl ?_
 refine rn [23,0,4,23,1,5] ?_
 refine g_val 8 (v' := .int .i64 ((c.capa.toNat : Nat) : Int)) rfl (by rw [e_capa]) ?_
 refine rn [23,4,45,23,5,4,23,6,5] ?_
 refine g_val 13 (v' := .int .i64 ((c.elen.toNat : Nat) : Int)) rfl (by rw [e_elen]) ?_
 refine rn [23,8,4,23,9,5,23,11,4,23,12,5] ?_
 refine g_val 19 (v' := .int .i64 ((c.rlen.toNat : Nat) : Int)) rfl (by rw [e_rlen]) ?_
 refine rn [23,16,4,23,17,5] ?_
 refine g_val 24 (v' := .int .i64 ((c.qsize.toNat : Nat) : Int)) rfl (by rw [e_qsize]) ?_
 refine rn [23,19,4,23,20,5] ?_
 refine g_val 27 (v' := .int .i64 ((c.qsize.toNat : Nat) : Int)) rfl (by rw [e_qsize]) ?_
 refine rn [23,22,4,23,23,5] ?_
 refine g_val 30 (v' := .int .i64 ((c.qsize.toNat : Nat) : Int)) rfl (by rw [e_qsize]) ?_
 refine rn [23,25,4,23,26,5] ?_
 refine g_val 33 (v' := .int .i64 ((c.qsize.toNat : Nat) : Int)) rfl (by rw [e_qsize]) ?_
 refine dop 2 rfl (zH [] rfl (fun w1 hw1 ho1 => by have h7 := rnew_any (c.capa.toNat) w1 (by omega); exact h7) rfl ?_)
 rintro ⟨b9, g9⟩ ⟨r9, l9, c9⟩
 refine ii ?_
 refine rn [23,3,49] ?_
 refine dop 7 rfl (zH [] rfl (fun w1 hw1 ho1 => by have h7 := newc_any (c.elen.toNat) w1 (by omega); exact h7) rfl ?_)
 rintro b14 _
 refine ii ?_
 refine dop 10 rfl (zH [] rfl (fun w1 hw1 ho1 => by have h7 := lnew_led (c.supc) w1 ; exact h7) rfl ?_)
 rintro b17 _
 refine ii ?_
 refine dop 13 rfl (zH [] rfl (fun w1 hw1 ho1 => by have h7 := bnew_any (c.rlen.toNat) w1 (by omega); exact h7) rfl ?_)
 rintro ⟨b20, g20⟩ ⟨r20, s20⟩
 refine ii ?_
 simp only at r20 s20
 refine dop 14 rfl (zH [] rfl (fun w1 hw1 ho1 => by have h7 := unew_any  w1 ; exact h7) rfl ?_)
 rintro b21 _
 refine ii ?_
 refine dop 15 rfl (zH [] rfl (fun w1 hw1 ho1 => by have h7 := mnew_any w1; exact h7) rfl ?_)
 rintro mb22 _
 refine ii ?_
 refine dop 18 rfl (zH [] rfl (fun w1 hw1 ho1 => by have h7 := lnew_any (c.qsize.toNat) w1 (by omega); exact h7) rfl ?_)
 rintro ⟨b25, ba25, bb25, g25, gg25⟩ ⟨r25, s25, rr25, ss25⟩
 refine ii ?_
 simp only at r25 s25 rr25 ss25
 refine dop 21 rfl (zH [] rfl (fun w1 hw1 ho1 => by have h7 := new_i (c.qsize.toNat) w1 (by omega); exact h7) rfl ?_)
 rintro ⟨b28, g28⟩ ⟨r28, s28⟩
 refine ii ?_
 simp only at r28 s28
 refine dop 24 rfl (zH [] rfl (fun w1 hw1 ho1 => by have h7 := new_pp (c.qsize.toNat) w1 (by omega); exact h7) rfl ?_)
 rintro ⟨b31, g31⟩ ⟨r31, s31⟩
 refine ii ?_
 simp only at r31 s31
 refine dop 27 rfl (zH [] rfl (fun w1 hw1 ho1 => by have h7 := new_rq (c.qsize.toNat) w1 (by omega); exact h7) rfl ?_)
 rintro ⟨b34, g34⟩ ⟨r34, s34⟩
 refine ii ?_
 simp only at r34 s34
 refine dq 28 rfl (yH (c := (ECell b9 b14 b17 b20 b21 mb22 b25 b28 b31 b34 c none 0 0)) rfl (by kernel_rfl)) ?_
 refine dop 29 rfl (g_box (c := (ECell b9 b14 b17 b20 b21 mb22 b25 b28 b31 b34 c none 0 0)) rfl rfl rfl fun b36 => ?_)
 refine rn [23,30,3,23,31,3,27,7,11] ?_
 refine zW none 3 1 (([] : List Int).map (fun v : Int => [Value.int .i64 v])) (by rfl) ?_
 exact fin2 rfl (.tmp rfl) (.tmp rfl) (fun w' hw' => ⟨((⟨b36, b9, b14, b17, b20, b21, mb22, b25, ba25, bb25, b28, b31, b34⟩ : EP), (⟨g9, g20, none, 0, g25, gg25, g28, g31, g34⟩ : EG)), (by (try dsimp only); exact ⟨r9, l9, by show (RG.cp g9 : Int) = c.capa; rw [c9, e_capa], r20, r25, rr25, s25, ss25, r28, s28, r31, s31, r34, s34⟩), rfl, by have h9 := zB (L' := [Res.blk b36 112 (ECell b9 b14 b17 b20 b21 mb22 b25 b28 b31 b34 c none (([] : List Int).length) 0), RgB b9 g9, RgW g9, Res.im (RG.m g9), CkB b14 (0) (c.elen.toNat), LgB b17 (0) (0) (0) (c.supc), bB_ b20 g20, bW_ g20, bK_ g20, Res.row none (([] : List Int)).length 0 3 1 ((([] : List Int)).map (fun v : Int => [Value.int .i64 v])), CuB b21 (0), Res.blk mb22 186 (M.c M0), bL_ b25 ba25 bb25, rB_i ba25 g25, rW_i g25, rB_i bb25 gg25, rW_i gg25, rB_i b28 g28, rW_i g28, rB_pp b31 g31, rW_pp g31, rB_rq b34 g34, rW_rq g34]) w' hw'; exact h9⟩) _ (.inl rfl)
structure SN where
 vA : Option Addr
 vc : Nat
 pA : Option Addr
 pc : Nat
 fA : Option Addr
 fc : Nat
 oA : Option Addr
 oc : Nat
 mA : Option Addr
 mc : Nat
 rA : Option Addr
 rc : Nat
theorem snap_eng (eb rb cb lb bb ub mb xb b0 b1 pb gb tb : Nat) (c : C) (blk : Nat) (g : RG) (dep paid burn : Int) (bo : List En) (lv : List Int) (cur : Nat) (m : M) (q : LL) (pend : List Int) (mg : List PP) (pt : List Rq) (br : BR) (lA : Option Addr) (lc : Nat) (g0 g1 gp gg gt : Rg)  (w : World) (hw : W0 [Res.blk eb 112 (ECell rb cb lb bb ub mb xb pb gb tb c lA (lv.length) lc), RgB rb g, RgW g, Res.im (RG.m g), CkB cb (blk) (c.elen.toNat), LgB lb (dep) (paid) (burn) (c.supc), bB_ bb br, bW_ br, bK_ br, Res.row lA (lv).length lc 3 1 ((lv).map (fun v : Int => [Value.int .i64 v])), CuB ub (cur), Res.blk mb 186 (M.c m), bL_ xb b0 b1, rB_i b0 g0, rW_i g0, rB_i b1 g1, rW_i g1, rB_i pb gp, rW_i gp, rB_pp gb gg, rW_pp gg, rB_rq tb gt, rW_rq gt] w) (hi : Inv (Eg.mk c blk (RG.l g) dep paid burn bo lv cur m q pend mg pt)) (hg : g.Rep) (hcp : (g.cp : Int) = c.capa) (hbr : br.Rep bo) (h0 : g0.Rep 1 (q.f.map (fun v : Int => [Value.int .i64 v]))) (h1_ : g1.Rep 1 (q.v.map (fun v : Int => [Value.int .i64 v]))) (s0 : Rg.size g0 = c.qsize.toNat) (s1 : Rg.size g1 = c.qsize.toNat) (hgp : gp.Rep 1 (pend.map (fun v : Int => [Value.int .i64 v]))) (sgp : Rg.size gp = c.qsize.toNat) (hgg : gg.Rep 2 (mg.map PP.c)) (sgg : Rg.size gg = c.qsize.toNat) (hgt : gt.Rep 2 (pt.map Rq.c)) (sgt : Rg.size gt = c.qsize.toNat) : Own2 (ι := SN) Tryz.prog 13 [.pointer (some ⟨eb, 0, none⟩)] w [Res.blk eb 112 (ECell rb cb lb bb ub mb xb pb gb tb c lA (lv.length) lc), RgB rb g, RgW g, Res.im (RG.m g), CkB cb (blk) (c.elen.toNat), LgB lb (dep) (paid) (burn) (c.supc), bB_ bb br, bW_ br, bK_ br, Res.row lA (lv).length lc 3 1 ((lv).map (fun v : Int => [Value.int .i64 v])), CuB ub (cur), Res.blk mb 186 (M.c m), bL_ xb b0 b1, rB_i b0 g0, rW_i g0, rB_i b1 g1, rW_i g1, rB_i pb gp, rW_i gp, rB_pp gb gg, rW_pp gg, rB_rq tb gt, rW_rq gt] (fun x => True) (fun x => .agg ([Value.int .i64 ((blk : Nat) : Int), .int .i64 ((blk / c.elen.toNat : Nat) : Int), .slice x.vA ((RG.l g)).length x.vc, .int .u64 dep, .int .u64 paid, .int .u64 burn, .int .u64 (actS (RG.l g)), .slice x.pA pend.length x.pc, .slice x.fA q.f.length x.fc, .slice x.oA q.v.length x.oc, .slice x.mA mg.length x.mc, .slice x.rA pt.length x.rc, .int .i64 ((cur : Nat) : Int), .int .u64 (M.bal m), .int .i64 ((bo.length : Nat) : Int)]).toArray) (fun x => [Res.row x.vA ((RG.l g)).length x.vc 52 7 (((RG.l g)).map V.c), Res.row x.pA (pend).length x.pc 3 1 ((pend).map (fun v : Int => [Value.int .i64 v])), Res.row x.fA (q.f).length x.fc 3 1 ((q.f).map (fun v : Int => [Value.int .i64 v])), Res.row x.oA (q.v).length x.oc 3 1 ((q.v).map (fun v : Int => [Value.int .i64 v])), Res.row x.mA (mg).length x.mc 106 2 ((mg).map PP.c), Res.row x.rA (pt).length x.rc 110 2 ((pt).map Rq.c)]) (fun x => [Res.blk eb 112 (ECell rb cb lb bb ub mb xb pb gb tb c lA (lv.length) lc), RgB rb g, RgW g, Res.im (RG.m g), CkB cb (blk) (c.elen.toNat), LgB lb (dep) (paid) (burn) (c.supc), bB_ bb br, bW_ br, bK_ br, Res.row lA (lv).length lc 3 1 ((lv).map (fun v : Int => [Value.int .i64 v])), CuB ub (cur), Res.blk mb 186 (M.c m), bL_ xb b0 b1, rB_i b0 g0, rW_i g0, rB_i b1 g1, rW_i g1, rB_i pb gp, rW_i gp, rB_pp gb gg, rW_pp gg, rB_rq tb gt, rW_rq gt]) := by
 refine g_st Tryz.func13 81 hw ?_
 have hok : Cok c := hi.cok
 have hmo : Cmo c := xD hi.cc
 have hblk : blk ≤ 1000000000 := hi.blk
 have hk : blk < 4611686018427387904 := by omega
 have hel : 1 ≤ c.elen.toNat ∧ c.elen.toNat ≤ 4611686018427387904 := by have := hok.elen; omega
 have hled : LOk c.supc dep paid burn := hi.led
 have hqf : q.f.length ≤ c.qsize.toNat ∧ q.v.length ≤ c.qsize.toNat := hi.qf
 have hsum : (bals (RG.l g)).sum = dep - paid - burn := hi.sum
 have hvo : ∀ i, hasV (RG.l g) i = true → VO (gotV (RG.l g) i) := hi.vo
 have hqs := hmo.qsize
 have hbol : bo.length ≤ (RG.l g).length := hi.e.bol
 have hgl0 := hg.le; have hgc0 := hg.cp
 have hpel : pend.length ≤ 4096 := by have h9 := hi.pe; simp only at h9; omega
 have hmgl : mg.length ≤ 4096 := by have h9 := hi.mg; simp only at h9; omega
 have hptl : pt.length ≤ 4096 := by have h9 := hi.pt; simp only at h9; omega
 refine rn [1] ?_
 refine g_op (zI rfl fun b2 => ?_)
 refine rn [0,8,1,2,50,0,20,12,7,1,2,6,4,5] ?_
 refine g_op (zK _ rfl (fun w1 hw1 ho1 => by exact ltot_any lb dep paid burn c.supc w1 ho1) rfl ?_)
 refine g_op (zI rfl fun b3 => ?_)
 refine rn [33,0,8] ?_
 refine dreg [69] mixed rfl ?_
 refine rn [23,0,2,23,1,6,23,2,4,23,3,5,23,5,2,23,6,6,23,7,4,23,8,5,23,10,2,23,11,6,23,12,4,23,13,4,23,14,5,23,16,4,23,17,5,23,18,4,23,19,5,23,20,4,23,21,5,23,22,2,23,23,6,23,24,4,23,25,4,23,26,5,23,28,2,23,29,6,23,30,4,23,31,5,23,33,2,23,34,6,23,35,4,23,36,5,23,38,2,23,39,6,23,40,4,23,41,5,23,43,2,23,44,6,23,45,4,23,46,5,23,48,2,23,49,6,23,50,4,23,51,5,23,53,2,23,54,6,23,55,4,23,56,5,23,58,2,23,59,6,23,60,4,23,61,5,23,63,2,23,64,6,23,65,4,23,66,5] ?_
 refine dop 4 rfl (zK _ rfl (fun w1 hw1 ho1 => by exact yJ cb blk c.elen.toNat w1 ho1 hk hel) rfl ?_)
 refine dop 9 rfl (zK _ rfl (fun w1 hw1 ho1 => by exact zZ cb blk c.elen.toNat w1 ho1 hk hel) rfl ?_)
 refine dop 15 rfl (zH _ rfl (fun w1 hw1 ho1 => by have h7 := rall_any rb g w1 ho1 hg; exact h7) rfl ?_)
 rintro ⟨A27, cap27⟩ _
 refine ii ?_
 refine dop 27 rfl (zK _ rfl (fun w1 hw1 ho1 => by exact ract_any rb g w1 ho1) rfl ?_)
 refine g_val 39 (v' := .int .u64 (actS (RG.l g))) rfl (by rw [hg.a]) ?_
 refine dop 32 rfl (zH _ rfl (fun w1 hw1 ho1 => by have h7 := all_i pb gp pend w1 ho1 hgp; exact h7) rfl ?_)
 rintro ⟨A44, cap44⟩ _
 refine ii ?_
 refine dop 37 rfl (zH _ rfl (fun w1 hw1 ho1 => by have h7 := lall_any xb b0 b1 g0 g1 q c.qsize.toNat (0) w1 ho1 h0 h1_ s0 s1 (by omega); exact h7) rfl ?_)
 rintro ⟨A49, cap49⟩ _
 refine ii ?_
 refine g_val 49 (v' := .slice A49 q.f.length cap49) rfl (rfl) ?_
 refine dop 42 rfl (zH _ rfl (fun w1 hw1 ho1 => by have h7 := lall_any xb b0 b1 g0 g1 q c.qsize.toNat (1) w1 ho1 h0 h1_ s0 s1 (by omega); exact h7) rfl ?_)
 rintro ⟨A54, cap54⟩ _
 refine ii ?_
 refine g_val 54 (v' := .slice A54 q.v.length cap54) rfl (rfl) ?_
 refine dop 47 rfl (zH _ rfl (fun w1 hw1 ho1 => by have h7 := all_pp gb gg mg w1 ho1 hgg; exact h7) rfl ?_)
 rintro ⟨A59, cap59⟩ _
 refine ii ?_
 refine dop 52 rfl (zH _ rfl (fun w1 hw1 ho1 => by have h7 := all_rq tb gt pt w1 ho1 hgt; exact h7) rfl ?_)
 rintro ⟨A64, cap64⟩ _
 refine ii ?_
 refine dop 57 rfl (zK _ rfl (fun w1 hw1 ho1 => by exact uat_any ub cur w1 ho1) rfl ?_)
 refine dop 62 rfl (zK _ rfl (fun w1 hw1 ho1 => by exact mbalance_any mb m w1 ho1) rfl ?_)
 refine dop 67 rfl (zK _ rfl (fun w1 hw1 ho1 => by exact blen_any bb br bo w1 ho1 hbr) rfl ?_)
 refine dq 68 rfl (yH (c := [Value.int .i64 ((blk : Nat) : Int), .int .i64 ((blk / c.elen.toNat : Nat) : Int), .slice A27 ((RG.l g)).length cap27, .int .u64 dep, .int .u64 paid, .int .u64 burn, .int .u64 (actS (RG.l g)), .slice A44 pend.length cap44, .slice A49 q.f.length cap49, .slice A54 q.v.length cap54, .slice A59 mg.length cap59, .slice A64 pt.length cap64, .int .i64 ((cur : Nat) : Int), .int .u64 (M.bal m), .int .i64 ((bo.length : Nat) : Int)]) rfl (by kernel_rfl)) ?_
 refine dop 69 rfl (zL rfl rfl rfl rfl rfl ?_)
 refine rn [28,7,11] ?_
 exact fin1 rfl (.cellw rfl rfl) (fun w' hw' => ⟨(⟨A27, cap27, A44, cap44, A49, cap49, A54, cap54, A59, cap59, A64, cap64⟩ : SN), (by first | exact trivial | (dsimp only; exact trivial)), rfl, by have h9 := zB (L' := [Res.row A27 ((RG.l g)).length cap27 52 7 (((RG.l g)).map V.c), Res.row A44 (pend).length cap44 3 1 ((pend).map (fun v : Int => [Value.int .i64 v])), Res.row A49 ((allL 0 q)).length cap49 3 1 (((allL 0 q)).map (fun v : Int => [Value.int .i64 v])), Res.row A54 ((allL 1 q)).length cap54 3 1 (((allL 1 q)).map (fun v : Int => [Value.int .i64 v])), Res.row A59 (mg).length cap59 106 2 ((mg).map PP.c), Res.row A64 (pt).length cap64 110 2 ((pt).map Rq.c), Res.blk eb 112 (ECell rb cb lb bb ub mb xb pb gb tb c lA (lv.length) lc), RgB rb g, RgW g, Res.im (RG.m g), CkB cb (blk) (c.elen.toNat), LgB lb (dep) (paid) (burn) (c.supc), bB_ bb br, bW_ br, bK_ br, Res.row lA (lv).length lc 3 1 ((lv).map (fun v : Int => [Value.int .i64 v])), CuB ub (cur), Res.blk mb 186 (M.c m), bL_ xb b0 b1, rB_i b0 g0, rW_i g0, rB_i b1 g1, rW_i g1, rB_i pb gp, rW_i gp, rB_pp gb gg, rW_pp gg, rB_rq tb gt, rW_rq gt]) w' hw'; exact h9⟩) _ (.inl rfl)
theorem applyE_c (s : Eg) (y : Op) : (applyE s y).1.c = s.c := by
 unfold applyE
 split
 ·rw [tickE_fr]
 ·unfold actE
  repeat' split
  ·show (depE s y).1.c = _; rw [depE_fr]
  ·show (leaveE s 1 y.i).1.c = _; rw [leaveE_fr]
  ·show (leaveE s 0 y.i).1.c = _; rw [leaveE_fr]
  ·show (slashE s y.i).1.c = _; rw [slashE_fr]
  ·show (consE s y.i y.t).1.c = _; rw [consE_fr]
  ·show (partE s y.i y.a).1.c = _; rw [partE_fr]
  ·rfl
abbrev EL (p : EP) (a : EG) (s : Eg) : List Res := [Res.blk p.eb 112 (ECell p.rb p.cb p.lb p.bb p.ub p.mb p.xb p.pb p.gb p.tb s.c a.lA (s.lv.length) a.lc), RgB p.rb a.g, RgW a.g, Res.im (RG.m a.g), CkB p.cb (s.blk) (s.c.elen.toNat), LgB p.lb (s.dep) (s.paid) (s.burn) (s.c.supc), bB_ p.bb a.br, bW_ a.br, bK_ a.br, Res.row a.lA (s.lv).length a.lc 3 1 ((s.lv).map (fun v : Int => [Value.int .i64 v])), CuB p.ub (s.cur), Res.blk p.mb 186 (M.c s.m), Res.blk p.xb 191 [Value.pointer (some ⟨p.b0, 0, none⟩), Value.pointer (some ⟨p.b1, 0, none⟩)], rB_i p.b0 a.g0, rW_i a.g0, rB_i p.b1 a.g1, rW_i a.g1, rB_i p.pb a.gp, rW_i a.gp, rB_pp p.gb a.gg, rW_pp a.gg, rB_rq p.tb a.gt, rW_rq a.gt]
def Eng (p : EP) (a : EG) (s : Eg) : Res := .star (EL p a s)
theorem Own2.star1 {ι : Type} {P : Program} {f : FuncId} {args : List Value} {w : World} {Ls : List Res} {p : ι → Prop} {val : ι → Value} {Lnew Ls1 : ι → List Res} (h : WOK (fps Ls) w Ls w → Own2 P f args w Ls p val Lnew Ls1) (hw : W0 [Res.star Ls] w) :
  Own2 P f args w [.star Ls] p val Lnew (fun x => [.star (Ls1 x)]) := by
 have h1 : WOK (fps Ls) w Ls w := by
  have := hw.opened (L := [])
  rwa [fps_star, List.append_nil] at this
 refine Ret.mono (h h1) fun v w' ⟨x, hp, hv, hw2⟩ => ⟨x, hp, hv, ?_⟩
 rw [fps_star]
 have h2 : WOK (fps Ls) w (Ls1 x ++ Lnew x) w' := hw2.perm List.perm_append_comm
 exact h2.closed.perm (List.perm_append_singleton _ _).symm
theorem Own2.starN {ι : Type} {P : Program} {f : FuncId} {args : List Value} {w : World} {p : ι → Prop} {val : ι → Value} {Ls : ι → List Res} (h : Own2 P f args w [] p val Ls (fun _ => [])) : Own2 P f args w [] p val (fun x => [.star (Ls x)]) (fun _ => []) :=
 Ret.mono h fun v w' ⟨x, hp, hv, hw2⟩ => ⟨x, hp, hv, hw2.closed⟩
theorem new_ok (c : C) (w : World) (hc : chk c = 0) (hk : c.ok) : Own2 (ι := (EP × EG)) Tryz.prog 10 [c.v] w [] (fun x => x.2.Rep (newE c)) (fun x => .tuple [.pointer (some ⟨x.1.eb, 0, none⟩), .int .i64 0].toArray) (fun x => [Eng x.1 x.2 (newE c)]) (fun _ => []) := Own2.starN (enew_any c w hc hk)
theorem apply_ok (p : EP) (a : EG) (s : Eg) (y : Op) (w : World) (hw : W0 [Eng p a s] w) (hi : Inv s) (hr : a.Rep s) (hy : y.ok) (hb : s.blk < 1000000000) :
  Own2 (ι := TX) Tryz.prog 14 [.pointer (some ⟨p.eb, 0, none⟩), .agg y.c.toArray] w [Eng p a s] (fun x => x.a.Rep (applyE s y).1) (fun x => rcV (applyE s y).2 x.O x.oc x.pA x.pc) (fun x => [Res.row x.O (applyE s y).2.ag.length x.oc 55 3 ((applyE s y).2.ag.map As.cs), Res.row x.pA (applyE s y).2.ps.length x.pc 50 3 ((applyE s y).2.ps.map Y.c)]) (fun x => [Eng p x.a (applyE s y).1]) := by
 obtain ⟨c, blk, l, dep, paid, burn, bo, lv, cur, m, q, pend, mg, pt⟩ := s
 obtain ⟨g, br, lA, lc, g0, g1, gp, gg, gt⟩ := a
 obtain ⟨h_g, h_l, h_cp, h_b, h_r0, h_r1, h_z0, h_z1, h_rp, h_zp, h_rg, h_zg, h_rt, h_zt⟩ := hr
 simp only at h_g h_l h_cp h_b h_r0 h_r1 h_z0 h_z1 h_rp h_zp h_rg h_zg h_rt h_zt
 subst h_l
 have hA := applyE_c (Eg.mk c blk (RG.l g) dep paid burn bo lv cur m q pend mg pt) y
 have h9 := Own2.star1 (fun hw2 => apply_eng p.eb p.rb p.cb p.lb p.bb p.ub p.mb p.xb p.b0 p.b1 p.pb p.gb p.tb c blk g dep paid burn bo lv cur m q pend mg pt br lA lc g0 g1 gp gg gt y w hw2 hi h_g h_cp h_b h_r0 h_r1 h_z0 h_z1 h_rp h_zp h_rg h_zg h_rt h_zt hy hb) hw
 refine Ret.mono h9 fun v w' ⟨x, h1, h2, h3⟩ => ⟨x, h1, h2, ?_⟩
 unfold Eng EL
 rw [hA]
 exact h3
theorem snap_ok (p : EP) (a : EG) (s : Eg) (w : World) (hw : W0 [Eng p a s] w) (hi : Inv s) (hr : a.Rep s) :
  Own2 (ι := SN) Tryz.prog 13 [.pointer (some ⟨p.eb, 0, none⟩)] w [Eng p a s] (fun _ => True) (fun x => .agg [Value.int .i64 ((s.blk : Nat) : Int), .int .i64 s.ep, .slice x.vA s.l.length x.vc, .int .u64 s.dep, .int .u64 s.paid, .int .u64 s.burn, .int .u64 (actS s.l), .slice x.pA s.pend.length x.pc, .slice x.fA s.q.f.length x.fc, .slice x.oA s.q.v.length x.oc, .slice x.mA s.mg.length x.mc, .slice x.rA s.pt.length x.rc, .int .i64 ((s.cur : Nat) : Int), .int .u64 s.m.bal, .int .i64 ((s.bo.length : Nat) : Int)].toArray) (fun x => [Res.row x.vA (s.l).length x.vc 52 7 ((s.l).map V.c), Res.row x.pA (s.pend).length x.pc 3 1 ((s.pend).map (fun v : Int => [Value.int .i64 v])), Res.row x.fA (s.q.f).length x.fc 3 1 ((s.q.f).map (fun v : Int => [Value.int .i64 v])), Res.row x.oA (s.q.v).length x.oc 3 1 ((s.q.v).map (fun v : Int => [Value.int .i64 v])), Res.row x.mA (s.mg).length x.mc 106 2 ((s.mg).map PP.c), Res.row x.rA (s.pt).length x.rc 110 2 ((s.pt).map Rq.c)]) (fun _ => [Eng p a s]) := by
 obtain ⟨c, blk, l, dep, paid, burn, bo, lv, cur, m, q, pend, mg, pt⟩ := s
 obtain ⟨g, br, lA, lc, g0, g1, gp, gg, gt⟩ := a
 obtain ⟨h_g, h_l, h_cp, h_b, h_r0, h_r1, h_z0, h_z1, h_rp, h_zp, h_rg, h_zg, h_rt, h_zt⟩ := hr
 simp only at h_g h_l h_cp h_b h_r0 h_r1 h_z0 h_z1 h_rp h_zp h_rg h_zg h_rt h_zt
 subst h_l
 exact Own2.star1 (fun hw2 => snap_eng p.eb p.rb p.cb p.lb p.bb p.ub p.mb p.xb p.b0 p.b1 p.pb p.gb p.tb c blk g dep paid burn bo lv cur m q pend mg pt br lA lc g0 g1 gp gg gt w hw2 hi h_g h_cp h_b h_r0 h_r1 h_z0 h_z1 h_rp h_zp h_rg h_zg h_rt h_zt) hw
end Go.Proofs.YtdddiilocbbkkaaGreat
