/- TopDrains: for every configuration and all operations the law returns true. No condition. Part 23 of 28. -/
import Derived.Test.YtdddiilocbbkkaaGreatTD22
set_option linter.unusedVariables false
set_option linter.unusedSimpArgs false
namespace Go.Proofs.YtdddiilocbbkkaaGreat
open Go.RowKit Go.Eg
set_option maxHeartbeats 4000000
set_option synthInstance.maxSize 3000
set_option maxRecDepth 100000
structure EP where
 eb:Nat
 rb:Nat
 cb:Nat
 lb:Nat
 bb:Nat
 ub:Nat
 mb:Nat
 xb:Nat
 b0:Nat
 b1:Nat
 pb:Nat
 gb:Nat
 tb:Nat
theorem enew_any (c:C) (w:World) (hc:chk c=0) (hk:c.ok):Own2 (ι:=(EP × EG)) Tryz.prog 10 [c.v] w [] (fun x=>x.2.Rep (newE c)) (fun x=>.tuple [.pointer (some ⟨x.1.eb,0,none⟩),.int .i64 0].toArray) (fun x=>[Res.blk x.1.eb 112 (ECell x.1.rb x.1.cb x.1.lb x.1.bb x.1.ub x.1.mb x.1.xb x.1.pb x.1.gb x.1.tb c x.2.lA ((newE c).lv.length) x.2.lc),RgB x.1.rb x.2.g,RgW x.2.g,Res.im (RG.m x.2.g),CkB x.1.cb ((newE c).blk) (c.elen.toNat),LgB x.1.lb ((newE c).dep) ((newE c).paid) ((newE c).burn) (c.supc),bB_ x.1.bb x.2.br,bW_ x.2.br,bK_ x.2.br,Res.row x.2.lA ((newE c).lv).length x.2.lc 3 1 (((newE c).lv).map (fun v:Int=>[Value.int .i64 v])),CuB x.1.ub ((newE c).cur),Res.blk x.1.mb 186 (M.c (newE c).m),Res.blk x.1.xb 191 [Value.pointer (some ⟨x.1.b0,0,none⟩),Value.pointer (some ⟨x.1.b1,0,none⟩)],rB_i x.1.b0 x.2.g0,rW_i x.2.g0,rB_i x.1.b1 x.2.g1,rW_i x.2.g1,rB_i x.1.pb x.2.gp,rW_i x.2.gp,rB_pp x.1.gb x.2.gg,rW_pp x.2.gg,rB_rq x.1.tb x.2.gt,rW_rq x.2.gt]) (fun x=>[]):=by
 refine g_st Tryz.func10 37 (WOK.start (fps []) _) ?_
 have hok:Cok c:=sO hc hk
 have hmo:Cmo c:=yU hc
 have q1:=hok.capa;have q2:=hok.elen;have q3:=hmo.rlen;have q4:=hmo.qsize
 have e_capa:((c.capa.toNat:Nat):Int)=c.capa:=by omega
 have e_elen:((c.elen.toNat:Nat):Int)=c.elen:=by omega
 have e_rlen:((c.rlen.toNat:Nat):Int)=c.rlen:=by omega
 have e_qsize:((c.qsize.toNat:Nat):Int)=c.qsize:=by omega
 refine rn [1] ?_
 refine g_op (g_box (c:=C.c c) rfl rfl rfl fun b1=>?_)
 refine rn [3,3,0,8,1,45] ?_
 refine g_op (zI rfl (fun w1 hw1=>cvalid_any c w1 hc hok) rfl ?_)
 refine rn [48,0,20,12,7,8] ?_
 refine dreg [] mixed rfl ?_
 refine rn [23,0,4,23,1,5] ?_
 refine g_val 8 (v' := .int .i64 ((c.capa.toNat:Nat):Int)) rfl (by rw[e_capa]) ?_
 refine rn [23,4,45,23,5,4,23,6,5] ?_
 refine g_val 13 (v' := .int .i64 ((c.elen.toNat:Nat):Int)) rfl (by rw[e_elen]) ?_
 refine rn [23,8,4,23,9,5,23,11,4,23,12,5] ?_
 refine g_val 19 (v' := .int .i64 ((c.rlen.toNat:Nat):Int)) rfl (by rw[e_rlen]) ?_
 refine rn [23,16,4,23,17,5] ?_
 refine g_val 24 (v' := .int .i64 ((c.qsize.toNat:Nat):Int)) rfl (by rw[e_qsize]) ?_
 refine rn [23,19,4,23,20,5] ?_
 refine g_val 27 (v' := .int .i64 ((c.qsize.toNat:Nat):Int)) rfl (by rw[e_qsize]) ?_
 refine rn [23,22,4,23,23,5] ?_
 refine g_val 30 (v' := .int .i64 ((c.qsize.toNat:Nat):Int)) rfl (by rw[e_qsize]) ?_
 refine rn [23,25,4,23,26,5] ?_
 refine g_val 33 (v' := .int .i64 ((c.qsize.toNat:Nat):Int)) rfl (by rw[e_qsize]) ?_
 refine dop 2 rfl (zG [] rfl (fun w1 hw1 ho1=>by have h7:=rnew_any (c.capa.toNat) w1 (by omega);exact h7) rfl ?_)
 rintro⟨b9,g9⟩ ⟨r9,l9,c9⟩
 refine ii ?_
 refine rn [23,3,49] ?_
 refine dop 7 rfl (zG [] rfl (fun w1 hw1 ho1=>by have h7:=newc_any (c.elen.toNat) w1 (by omega);exact h7) rfl ?_)
 rintro b14 _
 refine ii ?_
 refine dop 10 rfl (zG [] rfl (fun w1 hw1 ho1=>by have h7:=lnew_led (c.supc) w1;exact h7) rfl ?_)
 rintro b17 _
 refine ii ?_
 refine dop 13 rfl (zG [] rfl (fun w1 hw1 ho1=>by have h7:=bnew_any (c.rlen.toNat) w1 (by omega);exact h7) rfl ?_)
 rintro⟨b20,g20⟩ ⟨r20,s20⟩
 refine ii ?_
 simp only at r20 s20
 refine dop 14 rfl (zG [] rfl (fun w1 hw1 ho1=>by have h7:=unew_any w1;exact h7) rfl ?_)
 rintro b21 _
 refine ii ?_
 refine dop 15 rfl (zG [] rfl (fun w1 hw1 ho1=>by have h7:=mnew_any w1;exact h7) rfl ?_)
 rintro mb22 _
 refine ii ?_
 refine dop 18 rfl (zG [] rfl (fun w1 hw1 ho1=>by have h7:=lnew_any (c.qsize.toNat) w1 (by omega);exact h7) rfl ?_)
 rintro⟨b25,ba25,bb25,g25,gg25⟩ ⟨r25,s25,rr25,ss25⟩
 refine ii ?_
 simp only at r25 s25 rr25 ss25
 refine dop 21 rfl (zG [] rfl (fun w1 hw1 ho1=>by have h7:=new_i (c.qsize.toNat) w1 (by omega);exact h7) rfl ?_)
 rintro⟨b28,g28⟩ ⟨r28,s28⟩
 refine ii ?_
 simp only at r28 s28
 refine dop 24 rfl (zG [] rfl (fun w1 hw1 ho1=>by have h7:=new_pp (c.qsize.toNat) w1 (by omega);exact h7) rfl ?_)
 rintro⟨b31,g31⟩ ⟨r31,s31⟩
 refine ii ?_
 simp only at r31 s31
 refine dop 27 rfl (zG [] rfl (fun w1 hw1 ho1=>by have h7:=new_rq (c.qsize.toNat) w1 (by omega);exact h7) rfl ?_)
 rintro⟨b34,g34⟩ ⟨r34,s34⟩
 refine ii ?_
 simp only at r34 s34
 refine dq 28 rfl (yH (c:=(ECell b9 b14 b17 b20 b21 mb22 b25 b28 b31 b34 c none 0 0)) rfl (by kernel_rfl)) ?_
 refine dop 29 rfl (g_box (c:=(ECell b9 b14 b17 b20 b21 mb22 b25 b28 b31 b34 c none 0 0)) rfl rfl rfl fun b36=>?_)
 refine rn [23,30,3,23,31,3,27,7,11] ?_
 refine zX none 3 1 (([]:List Int).map (fun v:Int=>[Value.int .i64 v])) (by rfl) ?_
 exact fin2 rfl (.tmp rfl) (.tmp rfl) (fun w' hw' => ⟨((⟨b36,b9,b14,b17,b20,b21,mb22,b25,ba25,bb25,b28,b31,b34⟩:EP),(⟨g9,g20,none,0,g25,gg25,g28,g31,g34⟩:EG)),(by(try dsimp only);exact⟨r9,l9,by show(RG.cp g9:Int)=c.capa;rw[c9,e_capa],r20,r25,rr25,s25,ss25,r28,s28,r31,s31,r34,s34⟩),rfl,by have h9:=zB (L' := [Res.blk b36 112 (ECell b9 b14 b17 b20 b21 mb22 b25 b28 b31 b34 c none (([]:List Int).length) 0),RgB b9 g9,RgW g9,Res.im (RG.m g9),CkB b14 (0) (c.elen.toNat),LgB b17 (0) (0) (0) (c.supc),bB_ b20 g20,bW_ g20,bK_ g20,Res.row none (([]:List Int)).length 0 3 1 ((([]:List Int)).map (fun v:Int=>[Value.int .i64 v])),CuB b21 (0),Res.blk mb22 186 (M.c M0),bL_ b25 ba25 bb25,rB_i ba25 g25,rW_i g25,rB_i bb25 gg25,rW_i gg25,rB_i b28 g28,rW_i g28,rB_pp b31 g31,rW_pp g31,rB_rq b34 g34,rW_rq g34]) w' hw';exact h9⟩) _ (.inl rfl)
structure SN where
 vA:Option Addr
 vc:Nat
 pA:Option Addr
 pc:Nat
 fA:Option Addr
 fc:Nat
 oA:Option Addr
 oc:Nat
 mA:Option Addr
 mc:Nat
 rA:Option Addr
 rc:Nat
theorem snap_eng (eb rb cb lb bb ub mb xb b0 b1 pb gb tb:Nat) (c:C) (blk:Nat) (g:RG) (dep paid burn:Int) (bo:List En) (lv:List Int) (cur:Nat) (m:M) (q:LL) (pend:List Int) (mg:List PP) (pt:List Rq) (br:BR) (lA:Option Addr) (lc:Nat) (g0 g1 gp gg gt:Rg) (w:World) (hw:W0 [Res.blk eb 112 (ECell rb cb lb bb ub mb xb pb gb tb c lA (lv.length) lc),RgB rb g,RgW g,Res.im (RG.m g),CkB cb (blk) (c.elen.toNat),LgB lb (dep) (paid) (burn) (c.supc),bB_ bb br,bW_ br,bK_ br,Res.row lA (lv).length lc 3 1 ((lv).map (fun v:Int=>[Value.int .i64 v])),CuB ub (cur),Res.blk mb 186 (M.c m),bL_ xb b0 b1,rB_i b0 g0,rW_i g0,rB_i b1 g1,rW_i g1,rB_i pb gp,rW_i gp,rB_pp gb gg,rW_pp gg,rB_rq tb gt,rW_rq gt] w) (hi:Inv (Eg.mk c blk (RG.l g) dep paid burn bo lv cur m q pend mg pt)) (hg:g.Rep) (hcp:(g.cp:Int)=c.capa) (hbr:br.Rep bo) (h0:g0.Rep 1 (q.f.map (fun v:Int=>[Value.int .i64 v]))) (h1_:g1.Rep 1 (q.v.map (fun v:Int=>[Value.int .i64 v]))) (s0:Rg.size g0=c.qsize.toNat) (s1:Rg.size g1=c.qsize.toNat) (hgp:gp.Rep 1 (pend.map (fun v:Int=>[Value.int .i64 v]))) (sgp:Rg.size gp=c.qsize.toNat) (hgg:gg.Rep 2 (mg.map PP.c)) (sgg:Rg.size gg=c.qsize.toNat) (hgt:gt.Rep 2 (pt.map Rq.c)) (sgt:Rg.size gt=c.qsize.toNat):Own2 (ι:=SN) Tryz.prog 13 [.pointer (some ⟨eb,0,none⟩)] w [Res.blk eb 112 (ECell rb cb lb bb ub mb xb pb gb tb c lA (lv.length) lc),RgB rb g,RgW g,Res.im (RG.m g),CkB cb (blk) (c.elen.toNat),LgB lb (dep) (paid) (burn) (c.supc),bB_ bb br,bW_ br,bK_ br,Res.row lA (lv).length lc 3 1 ((lv).map (fun v:Int=>[Value.int .i64 v])),CuB ub (cur),Res.blk mb 186 (M.c m),bL_ xb b0 b1,rB_i b0 g0,rW_i g0,rB_i b1 g1,rW_i g1,rB_i pb gp,rW_i gp,rB_pp gb gg,rW_pp gg,rB_rq tb gt,rW_rq gt] (fun x=>True) (fun x=>.agg ([Value.int .i64 ((blk:Nat):Int),.int .i64 ((blk/c.elen.toNat:Nat):Int),.slice x.vA ((RG.l g)).length x.vc,.int .u64 dep,.int .u64 paid,.int .u64 burn,.int .u64 (actS (RG.l g)),.slice x.pA pend.length x.pc,.slice x.fA q.f.length x.fc,.slice x.oA q.v.length x.oc,.slice x.mA mg.length x.mc,.slice x.rA pt.length x.rc,.int .i64 ((cur:Nat):Int),.int .u64 (M.bal m),.int .i64 ((bo.length:Nat):Int)]).toArray) (fun x=>[Res.row x.vA ((RG.l g)).length x.vc 52 7 (((RG.l g)).map V.c),Res.row x.pA (pend).length x.pc 3 1 ((pend).map (fun v:Int=>[Value.int .i64 v])),Res.row x.fA (q.f).length x.fc 3 1 ((q.f).map (fun v:Int=>[Value.int .i64 v])),Res.row x.oA (q.v).length x.oc 3 1 ((q.v).map (fun v:Int=>[Value.int .i64 v])),Res.row x.mA (mg).length x.mc 106 2 ((mg).map PP.c),Res.row x.rA (pt).length x.rc 110 2 ((pt).map Rq.c)]) (fun x=>[Res.blk eb 112 (ECell rb cb lb bb ub mb xb pb gb tb c lA (lv.length) lc),RgB rb g,RgW g,Res.im (RG.m g),CkB cb (blk) (c.elen.toNat),LgB lb (dep) (paid) (burn) (c.supc),bB_ bb br,bW_ br,bK_ br,Res.row lA (lv).length lc 3 1 ((lv).map (fun v:Int=>[Value.int .i64 v])),CuB ub (cur),Res.blk mb 186 (M.c m),bL_ xb b0 b1,rB_i b0 g0,rW_i g0,rB_i b1 g1,rW_i g1,rB_i pb gp,rW_i gp,rB_pp gb gg,rW_pp gg,rB_rq tb gt,rW_rq gt]):=by
 refine g_st Tryz.func13 81 hw ?_
 have hok:Cok c:=hi.cok
 have hmo:Cmo c:=yU hi.cc
 have hblk:blk≤1000000000:=hi.blk
 have hk:blk<4611686018427387904:=by omega
 have hel:1≤c.elen.toNat∧c.elen.toNat≤4611686018427387904:=by have:=hok.elen;omega
 have hled:LOk c.supc dep paid burn:=hi.led
 have hqf:q.f.length≤c.qsize.toNat∧q.v.length≤c.qsize.toNat:=hi.qf
 have hsum:(bals (RG.l g)).sum=dep-paid-burn:=hi.sum
 have hvo:∀i,hasV (RG.l g) i=true→VO (gotV (RG.l g) i):=hi.vo
 have hqs:=hmo.qsize
 have hbol:bo.length≤(RG.l g).length:=hi.e.bol
 have hgl0:=hg.le;have hgc0:=hg.cp
 have hpel:pend.length≤4096:=by have h9:=hi.pe;simp only at h9;omega
 have hmgl:mg.length≤4096:=by have h9:=hi.mg;simp only at h9;omega
 have hptl:pt.length≤4096:=by have h9:=hi.pt;simp only at h9;omega
 refine rn [1] ?_
 refine g_op (zK rfl fun b2=>?_)
 refine rn [0,8,1,2,50,0,20,12,7,1,2,6,4,5] ?_
 refine g_op (zL _ rfl (fun w1 hw1 ho1=>by exact ltot_any lb dep paid burn c.supc w1 ho1) rfl ?_)
 refine g_op (zK rfl fun b3=>?_)
 refine rn [33,0,8] ?_
 refine dreg [69] mixed rfl ?_
 refine rn [23,0,2,23,1,6,23,2,4,23,3,5,23,5,2,23,6,6,23,7,4,23,8,5,23,10,2,23,11,6,23,12,4,23,13,4,23,14,5,23,16,4,23,17,5,23,18,4,23,19,5,23,20,4,23,21,5,23,22,2,23,23,6,23,24,4,23,25,4,23,26,5,23,28,2,23,29,6,23,30,4,23,31,5,23,33,2,23,34,6,23,35,4,23,36,5,23,38,2,23,39,6,23,40,4,23,41,5,23,43,2,23,44,6,23,45,4,23,46,5,23,48,2,23,49,6,23,50,4,23,51,5,23,53,2,23,54,6,23,55,4,23,56,5,23,58,2,23,59,6,23,60,4,23,61,5,23,63,2,23,64,6,23,65,4,23,66,5] ?_
 refine dop 4 rfl (zL _ rfl (fun w1 hw1 ho1=>by exact yL cb blk c.elen.toNat w1 ho1 hk hel) rfl ?_)
 refine dop 9 rfl (zL _ rfl (fun w1 hw1 ho1=>by exact zY cb blk c.elen.toNat w1 ho1 hk hel) rfl ?_)
 refine dop 15 rfl (zG _ rfl (fun w1 hw1 ho1=>by have h7:=vW rb g w1 ho1 hg;exact h7) rfl ?_)
 rintro⟨A27,cap27⟩ _
 refine ii ?_
 refine dop 27 rfl (zL _ rfl (fun w1 hw1 ho1=>by exact ract_any rb g w1 ho1) rfl ?_)
 refine g_val 39 (v' := .int .u64 (actS (RG.l g))) rfl (by rw[hg.a]) ?_
 refine dop 32 rfl (zG _ rfl (fun w1 hw1 ho1=>by have h7:=all_i pb gp pend w1 ho1 hgp;exact h7) rfl ?_)
 rintro⟨A44,cap44⟩ _
 refine ii ?_
 refine dop 37 rfl (zG _ rfl (fun w1 hw1 ho1=>by have h7:=tI xb b0 b1 g0 g1 q c.qsize.toNat (0) w1 ho1 h0 h1_ s0 s1 (by omega);exact h7) rfl ?_)
 rintro⟨A49,cap49⟩ _
 refine ii ?_
 refine g_val 49 (v' := .slice A49 q.f.length cap49) rfl (rfl) ?_
 refine dop 42 rfl (zG _ rfl (fun w1 hw1 ho1=>by have h7:=tI xb b0 b1 g0 g1 q c.qsize.toNat (1) w1 ho1 h0 h1_ s0 s1 (by omega);exact h7) rfl ?_)
 rintro⟨A54,cap54⟩ _
 refine ii ?_
 refine g_val 54 (v' := .slice A54 q.v.length cap54) rfl (rfl) ?_
 refine dop 47 rfl (zG _ rfl (fun w1 hw1 ho1=>by have h7:=all_pp gb gg mg w1 ho1 hgg;exact h7) rfl ?_)
 rintro⟨A59,cap59⟩ _
 refine ii ?_
 refine dop 52 rfl (zG _ rfl (fun w1 hw1 ho1=>by have h7:=all_rq tb gt pt w1 ho1 hgt;exact h7) rfl ?_)
 rintro⟨A64,cap64⟩ _
 refine ii ?_
 refine dop 57 rfl (zL _ rfl (fun w1 hw1 ho1=>by exact uat_any ub cur w1 ho1) rfl ?_)
 refine dop 62 rfl (zL _ rfl (fun w1 hw1 ho1=>by exact mbalance_any mb m w1 ho1) rfl ?_)
 refine dop 67 rfl (zL _ rfl (fun w1 hw1 ho1=>by exact blen_any bb br bo w1 ho1 hbr) rfl ?_)
 refine dq 68 rfl (yH (c:=[Value.int .i64 ((blk:Nat):Int),.int .i64 ((blk/c.elen.toNat:Nat):Int),.slice A27 ((RG.l g)).length cap27,.int .u64 dep,.int .u64 paid,.int .u64 burn,.int .u64 (actS (RG.l g)),.slice A44 pend.length cap44,.slice A49 q.f.length cap49,.slice A54 q.v.length cap54,.slice A59 mg.length cap59,.slice A64 pt.length cap64,.int .i64 ((cur:Nat):Int),.int .u64 (M.bal m),.int .i64 ((bo.length:Nat):Int)]) rfl (by kernel_rfl)) ?_
 refine dop 69 rfl (zQ rfl rfl rfl rfl rfl ?_)
 refine rn [28,7,11] ?_
 exact fin1 rfl (.cellw rfl rfl) (fun w' hw' => ⟨(⟨A27,cap27,A44,cap44,A49,cap49,A54,cap54,A59,cap59,A64,cap64⟩:SN),(by first|exact trivial|(dsimp only;exact trivial)),rfl,by have h9:=zB (L' := [Res.row A27 ((RG.l g)).length cap27 52 7 (((RG.l g)).map V.c),Res.row A44 (pend).length cap44 3 1 ((pend).map (fun v:Int=>[Value.int .i64 v])),Res.row A49 ((allL 0 q)).length cap49 3 1 (((allL 0 q)).map (fun v:Int=>[Value.int .i64 v])),Res.row A54 ((allL 1 q)).length cap54 3 1 (((allL 1 q)).map (fun v:Int=>[Value.int .i64 v])),Res.row A59 (mg).length cap59 106 2 ((mg).map PP.c),Res.row A64 (pt).length cap64 110 2 ((pt).map Rq.c),Res.blk eb 112 (ECell rb cb lb bb ub mb xb pb gb tb c lA (lv.length) lc),RgB rb g,RgW g,Res.im (RG.m g),CkB cb (blk) (c.elen.toNat),LgB lb (dep) (paid) (burn) (c.supc),bB_ bb br,bW_ br,bK_ br,Res.row lA (lv).length lc 3 1 ((lv).map (fun v:Int=>[Value.int .i64 v])),CuB ub (cur),Res.blk mb 186 (M.c m),bL_ xb b0 b1,rB_i b0 g0,rW_i g0,rB_i b1 g1,rW_i g1,rB_i pb gp,rW_i gp,rB_pp gb gg,rW_pp gg,rB_rq tb gt,rW_rq gt]) w' hw';exact h9⟩) _ (.inl rfl)
theorem config_eng (rb cb lb bb ub mb xb pb gb tb eb:Nat) (c:C) (lA:Option Addr) (n lc:Nat) (w:World) (hw:W0 [Res.blk eb 112 (ECell rb cb lb bb ub mb xb pb gb tb c lA n lc)] w) : Keep Tryz.prog 83 [.pointer (some ⟨eb,0,none⟩)] w [Res.blk eb 112 (ECell rb cb lb bb ub mb xb pb gb tb c lA n lc)] (C.v c):=by
 refine g_st Tryz.func83 10 hw ?_
 refine rn [1] ?_
 refine g_op (zK rfl fun b2=>?_)
 refine rn [0,8,1,2,50,0,20,12,7,1,2,6,4] ?_
 refine s_q (yQ (c' := C.c c) rfl rfl rfl) rfl ?_
 refine rn [33,0,11] ?_
 exact fin1 rfl (.cellw rfl rfl) (fun w' hw' => ⟨(),trivial,rfl,zA w' hw'⟩) _ (.inl rfl)
theorem applyE_c (s:Eg) (y:Op):(applyE s y).1.c=s.c:=by
 unfold applyE
 split
 ·rw[uV]
 ·unfold actE
  repeat' split
  ·show(depE s y).1.c=_;rw[depE_fr]
  ·show(leaveE s 1 y.i).1.c=_;rw[wY]
  ·show(leaveE s 0 y.i).1.c=_;rw[wY]
  ·show(slashE s y.i).1.c=_;rw[rN]
  ·show(consE s y.i y.t).1.c=_;rw[consE_fr]
  ·show(partE s y.i y.a).1.c=_;rw[partE_fr]
  ·rfl
abbrev EL (p:EP) (a:EG) (s:Eg):List Res:=[Res.blk p.eb 112 (ECell p.rb p.cb p.lb p.bb p.ub p.mb p.xb p.pb p.gb p.tb s.c a.lA (s.lv.length) a.lc),RgB p.rb a.g,RgW a.g,Res.im (RG.m a.g),CkB p.cb (s.blk) (s.c.elen.toNat),LgB p.lb (s.dep) (s.paid) (s.burn) (s.c.supc),bB_ p.bb a.br,bW_ a.br,bK_ a.br,Res.row a.lA (s.lv).length a.lc 3 1 ((s.lv).map (fun v:Int=>[Value.int .i64 v])),CuB p.ub (s.cur),Res.blk p.mb 186 (M.c s.m),Res.blk p.xb 191 [Value.pointer (some ⟨p.b0,0,none⟩),Value.pointer (some ⟨p.b1,0,none⟩)],rB_i p.b0 a.g0,rW_i a.g0,rB_i p.b1 a.g1,rW_i a.g1,rB_i p.pb a.gp,rW_i a.gp,rB_pp p.gb a.gg,rW_pp a.gg,rB_rq p.tb a.gt,rW_rq a.gt]
def Eng (p:EP) (a:EG) (s:Eg):Res:=.star (EL p a s)
theorem Own2.star1 {ι:Type} {P:Program} {f:FuncId} {args:List Value} {w:World} {Ls:List Res} {p:ι→Prop} {val:ι→Value} {Lnew Ls1:ι→List Res} (h:WOK (fps Ls) w Ls w→Own2 P f args w Ls p val Lnew Ls1) (hw:W0 [Res.star Ls] w) :
  Own2 P f args w [.star Ls] p val Lnew (fun x=>[.star (Ls1 x)]):=by
 have h1:WOK (fps Ls) w Ls w:=by
  have:=hw.opened (L:=[])
  rwa [vH,List.append_nil] at this
 refine Ret.mono (h h1) fun v w' ⟨x,hp,hv,hw2⟩=>⟨x,hp,hv,?_⟩
 rw[vH]
 have h2:WOK (fps Ls) w (Ls1 x++Lnew x) w' := hw2.perm List.perm_append_comm
 exact h2.closed.perm (List.perm_append_singleton _ _).symm
theorem Own2.starN {ι:Type} {P:Program} {f:FuncId} {args:List Value} {w:World} {p:ι→Prop} {val:ι→Value} {Ls:ι→List Res} (h:Own2 P f args w [] p val Ls (fun _=>[])):Own2 P f args w [] p val (fun x=>[.star (Ls x)]) (fun _=>[]) :=
 Ret.mono h fun v w' ⟨x,hp,hv,hw2⟩=>⟨x,hp,hv,hw2.closed⟩
theorem new_ok (c:C) (w:World) (hc:chk c=0) (hk:c.ok):Own2 (ι:=(EP × EG)) Tryz.prog 10 [c.v] w [] (fun x=>x.2.Rep (newE c)) (fun x=>.tuple [.pointer (some ⟨x.1.eb,0,none⟩),.int .i64 0].toArray) (fun x=>[Eng x.1 x.2 (newE c)]) (fun _=>[]):=Own2.starN (enew_any c w hc hk)
theorem apply_ok (p:EP) (a:EG) (s:Eg) (y:Op) (w:World) (hw:W0 [Eng p a s] w) (hi:Inv s) (hr:a.Rep s) (hy:y.ok) (hb:s.blk<1000000000) :
  Own2 (ι:=TX) Tryz.prog 14 [.pointer (some ⟨p.eb,0,none⟩),.agg y.c.toArray] w [Eng p a s] (fun x=>x.a.Rep (applyE s y).1) (fun x=>rcV (applyE s y).2 x.O x.oc x.pA x.pc) (fun x=>[Res.row x.O (applyE s y).2.ag.length x.oc 55 3 ((applyE s y).2.ag.map As.cs),Res.row x.pA (applyE s y).2.ps.length x.pc 50 3 ((applyE s y).2.ps.map Y.c)]) (fun x=>[Eng p x.a (applyE s y).1]):=by
 obtain⟨c,blk,l,dep,paid,burn,bo,lv,cur,m,q,pend,mg,pt⟩:=s
 obtain⟨g,br,lA,lc,g0,g1,gp,gg,gt⟩:=a
 obtain⟨h_g,h_l,h_cp,h_b,h_r0,h_r1,h_z0,h_z1,h_rp,h_zp,h_rg,h_zg,h_rt,h_zt⟩:=hr
 simp only at h_g h_l h_cp h_b h_r0 h_r1 h_z0 h_z1 h_rp h_zp h_rg h_zg h_rt h_zt
 subst h_l
 have hA:=applyE_c (Eg.mk c blk (RG.l g) dep paid burn bo lv cur m q pend mg pt) y
 have h9:=Own2.star1 (fun hw2=>apply_eng p.eb p.rb p.cb p.lb p.bb p.ub p.mb p.xb p.b0 p.b1 p.pb p.gb p.tb c blk g dep paid burn bo lv cur m q pend mg pt br lA lc g0 g1 gp gg gt y w hw2 hi h_g h_cp h_b h_r0 h_r1 h_z0 h_z1 h_rp h_zp h_rg h_zg h_rt h_zt hy hb) hw
 refine Ret.mono h9 fun v w' ⟨x,h1,h2,h3⟩=>⟨x,h1,h2,?_⟩
 unfold Eng EL
 rw[hA]
 exact h3
theorem sW (p:EP) (a:EG) (s:Eg) (w:World) (hw:W0 [Eng p a s] w) (hi:Inv s) (hr:a.Rep s) :
  Own2 (ι:=SN) Tryz.prog 13 [.pointer (some ⟨p.eb,0,none⟩)] w [Eng p a s] (fun _=>True) (fun x=>.agg [Value.int .i64 ((s.blk:Nat):Int),.int .i64 s.ep,.slice x.vA s.l.length x.vc,.int .u64 s.dep,.int .u64 s.paid,.int .u64 s.burn,.int .u64 (actS s.l),.slice x.pA s.pend.length x.pc,.slice x.fA s.q.f.length x.fc,.slice x.oA s.q.v.length x.oc,.slice x.mA s.mg.length x.mc,.slice x.rA s.pt.length x.rc,.int .i64 ((s.cur:Nat):Int),.int .u64 s.m.bal,.int .i64 ((s.bo.length:Nat):Int)].toArray) (fun x=>[Res.row x.vA (s.l).length x.vc 52 7 ((s.l).map V.c),Res.row x.pA (s.pend).length x.pc 3 1 ((s.pend).map (fun v:Int=>[Value.int .i64 v])),Res.row x.fA (s.q.f).length x.fc 3 1 ((s.q.f).map (fun v:Int=>[Value.int .i64 v])),Res.row x.oA (s.q.v).length x.oc 3 1 ((s.q.v).map (fun v:Int=>[Value.int .i64 v])),Res.row x.mA (s.mg).length x.mc 106 2 ((s.mg).map PP.c),Res.row x.rA (s.pt).length x.rc 110 2 ((s.pt).map Rq.c)]) (fun _=>[Eng p a s]):=by
 obtain⟨c,blk,l,dep,paid,burn,bo,lv,cur,m,q,pend,mg,pt⟩:=s
 obtain⟨g,br,lA,lc,g0,g1,gp,gg,gt⟩:=a
 obtain⟨h_g,h_l,h_cp,h_b,h_r0,h_r1,h_z0,h_z1,h_rp,h_zp,h_rg,h_zg,h_rt,h_zt⟩:=hr
 simp only at h_g h_l h_cp h_b h_r0 h_r1 h_z0 h_z1 h_rp h_zp h_rg h_zg h_rt h_zt
 subst h_l
 exact Own2.star1 (fun hw2=>snap_eng p.eb p.rb p.cb p.lb p.bb p.ub p.mb p.xb p.b0 p.b1 p.pb p.gb p.tb c blk g dep paid burn bo lv cur m q pend mg pt br lA lc g0 g1 gp gg gt w hw2 hi h_g h_cp h_b h_r0 h_r1 h_z0 h_z1 h_rp h_zp h_rg h_zg h_rt h_zt) hw
def szO:Nat→Nat
 | 0=>8
 | _=>2
def getF:Nat→Nat
 | 0=>308
 | 1=>310
 | _=>312
def setF:Nat→Nat
 | 0=>309
 | 1=>311
 | _=>313
def getV (j:Nat) (y:Op):Int:=match j with
 | 0=>y.a
 | 1=>IntKind.u64.wrap y.i
 | _=>IntKind.u64.wrap y.t
def setO (j:Nat) (y:Op) (v:Int):Op:=match j with
 | 0=>{ y with a:=v }
 | 1=>{ y with i:=IntKind.i64.wrap v }
 | _=>{ y with t:=IntKind.i64.wrap v }
def OD.c (j:Nat):List Value:=[.int .i64 ((szO j:Nat):Int),.func (.func (getF j)) #[] #[],.func (.func (setF j)) #[] #[]]
def opsL (k:Int):List Nat:=if k=1 then [0] else if k=2 then [1] else if k=3 then [1] else if k=4 then [1] else if k=5 then [1,2] else if k=6 then [1,0] else []
def opsB (k:Int):Bool:=decide (1≤k∧k≤7)
def szK (k:Int):Nat:=if opsB k=true then 1+((opsL k).map szO).sum else 0
theorem opsL_le (k:Int):∀j∈opsL k,j≤2:=by
 intro j hj
 unfold opsL at hj
 repeat' split at hj
 all_goals simp at hj
 all_goals omega
theorem tD (k:Int):(opsL k).length≤2:=by
 unfold opsL;repeat' split
 all_goals simp
theorem pH (j:Nat):1≤szO j∧szO j≤8:=by unfold szO;split<;>omega
theorem od_0 (w:World) : Pur Tryz.prog 270 [] w (.agg (OD.c 0).toArray):=by
 refine g_st Tryz.func270 2 (WOK.start [] _) ?_
 refine rn [1] ?_
 refine g_op (zK rfl fun b0=>?_)
 refine rn [0,1] ?_
 refine s_q (yH (c:=OD.c 0) rfl rfl) rfl ?_
 refine rn [33,0,11] ?_
 exact fin1 rfl (.cellw rfl rfl) (fun w' hw' => ⟨by rfl,hw'.upd⟩) _ (.inl rfl)
theorem get_0 (y:Op) (w:World) : Pur Tryz.prog 308 [.agg y.c.toArray] w (.int .u64 (getV 0 y)):=by
 refine g_st Tryz.func308 5 (WOK.start [] _) ?_
 refine rn [1] ?_
 refine g_op (g_box rfl rfl rfl fun b1=>?_)
 refine rn [3,0,1,4,5,3,0,11] ?_
 exact fin1 rfl (.tmp rfl) (fun w' hw' => ⟨by rfl,hw'.upd⟩) _ (.inl rfl)
theorem set_0 (b:Nat) (y:Op) (v:Int) (w:World) (hw:W0 [Res.blk b 35 y.c] w) : Own2 (ι:=Unit) Tryz.prog 309 [.pointer (some ⟨b,0,none⟩),.int .u64 v] w [Res.blk b 35 y.c] (fun x=>True) (fun x=>.tuple #[]) (fun x=>[]) (fun x=>[Res.blk b 35 (Op.c (setO 0 y v))]):=by
 refine g_st Tryz.func309 8 hw ?_
 refine rn [10,2,2,6,4] ?_
 refine g_op (zJ rfl rfl rfl rfl rfl rfl rfl ?_)
 refine zF (b:=b) (Op.c (setO 0 y v)) (by rfl) ?_
 refine rn [9] ?_
 exact fin0 rfl (fun w' hw' => ⟨(),(by exact trivial),rfl,zA w' hw'⟩) _ (.inr rfl)
theorem od_1 (w:World) : Pur Tryz.prog 271 [] w (.agg (OD.c 1).toArray):=by
 refine g_st Tryz.func271 2 (WOK.start [] _) ?_
 refine rn [1] ?_
 refine g_op (zK rfl fun b0=>?_)
 refine rn [0,1] ?_
 refine s_q (yH (c:=OD.c 1) rfl rfl) rfl ?_
 refine rn [33,0,11] ?_
 exact fin1 rfl (.cellw rfl rfl) (fun w' hw' => ⟨by rfl,hw'.upd⟩) _ (.inl rfl)
theorem get_1 (y:Op) (w:World) : Pur Tryz.prog 310 [.agg y.c.toArray] w (.int .u64 (getV 1 y)):=by
 refine g_st Tryz.func310 6 (WOK.start [] _) ?_
 refine rn [1] ?_
 refine g_op (g_box rfl rfl rfl fun b1=>?_)
 refine rn [3,0,1,4,5,62,3,0,11] ?_
 exact fin1 rfl (.tmp rfl) (fun w' hw' => ⟨by rfl,hw'.upd⟩) _ (.inl rfl)
theorem set_1 (b:Nat) (y:Op) (v:Int) (w:World) (hw:W0 [Res.blk b 35 y.c] w) : Own2 (ι:=Unit) Tryz.prog 311 [.pointer (some ⟨b,0,none⟩),.int .u64 v] w [Res.blk b 35 y.c] (fun x=>True) (fun x=>.tuple #[]) (fun x=>[]) (fun x=>[Res.blk b 35 (Op.c (setO 1 y v))]):=by
 refine g_st Tryz.func311 9 hw ?_
 refine rn [10,2,2,62,6,4] ?_
 refine g_op (zJ rfl rfl rfl rfl rfl rfl rfl ?_)
 refine zF (b:=b) (Op.c (setO 1 y v)) (by rfl) ?_
 refine rn [9] ?_
 exact fin0 rfl (fun w' hw' => ⟨(),(by exact trivial),rfl,zA w' hw'⟩) _ (.inr rfl)
theorem od_2 (w:World) : Pur Tryz.prog 272 [] w (.agg (OD.c 2).toArray):=by
 refine g_st Tryz.func272 2 (WOK.start [] _) ?_
 refine rn [1] ?_
 refine g_op (zK rfl fun b0=>?_)
 refine rn [0,1] ?_
 refine s_q (yH (c:=OD.c 2) rfl rfl) rfl ?_
 refine rn [33,0,11] ?_
 exact fin1 rfl (.cellw rfl rfl) (fun w' hw' => ⟨by rfl,hw'.upd⟩) _ (.inl rfl)
theorem get_2 (y:Op) (w:World) : Pur Tryz.prog 312 [.agg y.c.toArray] w (.int .u64 (getV 2 y)):=by
 refine g_st Tryz.func312 6 (WOK.start [] _) ?_
 refine rn [1] ?_
 refine g_op (g_box rfl rfl rfl fun b1=>?_)
 refine rn [3,0,1,4,5,62,3,0,11] ?_
 exact fin1 rfl (.tmp rfl) (fun w' hw' => ⟨by rfl,hw'.upd⟩) _ (.inl rfl)
theorem set_2 (b:Nat) (y:Op) (v:Int) (w:World) (hw:W0 [Res.blk b 35 y.c] w) : Own2 (ι:=Unit) Tryz.prog 313 [.pointer (some ⟨b,0,none⟩),.int .u64 v] w [Res.blk b 35 y.c] (fun x=>True) (fun x=>.tuple #[]) (fun x=>[]) (fun x=>[Res.blk b 35 (Op.c (setO 2 y v))]):=by
 refine g_st Tryz.func313 9 hw ?_
 refine rn [10,2,2,62,6,4] ?_
 refine g_op (zJ rfl rfl rfl rfl rfl rfl rfl ?_)
 refine zF (b:=b) (Op.c (setO 2 y v)) (by rfl) ?_
 refine rn [9] ?_
 exact fin0 rfl (fun w' hw' => ⟨(),(by exact trivial),rfl,zA w' hw'⟩) _ (.inr rfl)
theorem hasG {j:Nat} (h:j≤2):HasB Tryz.prog (getF j):=by
 rcases(show j=0∨j=1∨j=2 by omega) with rfl|rfl|rfl
 ·exact(inferInstance:HasB Tryz.prog 308)
 ·exact(inferInstance:HasB Tryz.prog 310)
 ·exact(inferInstance:HasB Tryz.prog 312)
theorem hasS {j:Nat} (h:j≤2):HasB Tryz.prog (setF j):=by
 rcases(show j=0∨j=1∨j=2 by omega) with rfl|rfl|rfl
 ·exact(inferInstance:HasB Tryz.prog 309)
 ·exact(inferInstance:HasB Tryz.prog 311)
 ·exact(inferInstance:HasB Tryz.prog 313)
theorem get_all {j:Nat} (h:j≤2) (y:Op) (w:World):Pur Tryz.prog (getF j) [.agg y.c.toArray] w (.int .u64 (getV j y)):=by
 rcases(show j=0∨j=1∨j=2 by omega) with rfl|rfl|rfl
 ·exact get_0 y w
 ·exact get_1 y w
 ·exact get_2 y w
theorem set_all {j:Nat} (h:j≤2) (b:Nat) (y:Op) (v:Int) (w:World) (hw:W0 [Res.blk b 35 y.c] w):Own2 (ι:=Unit) Tryz.prog (setF j) [.pointer (some ⟨b,0,none⟩),.int .u64 v] w [Res.blk b 35 y.c] (fun _=>True) (fun _=>.tuple #[]) (fun _=>[]) (fun _=>[Res.blk b 35 (Op.c (setO j y v))]):=by
 rcases(show j=0∨j=1∨j=2 by omega) with rfl|rfl|rfl
 ·exact set_0 b y v w hw
 ·exact set_1 b y v w hw
 ·exact set_2 b y v w hw
theorem uL (k:Int) (w:World) (hk:-9223372036854775808≤k∧k≤9223372036854775807):Own2 (ι:=(Option Addr × Nat)) Tryz.prog 204 [.int .i64 k] w [] (fun x=>True) (fun x=>.tuple [.slice x.1 (opsL k).length x.2,.bool (opsB k)].toArray) (fun x=>[Res.row x.1 (opsL k).length x.2 324 3 ((opsL k).map OD.c)]) (fun x=>[]):=by
 refine g_st Tryz.func204 30 (WOK.start (fps []) _) ?_
 refine rn [1,3,3,0,1] ?_
 refine g_op (uB rfl fun b7=>?_)
 refine g_op (zI rfl (fun w1 hw1=>od_0 w1) rfl ?_)
 refine g_op (g_lit rfl rfl rfl rfl rfl fun b9=>?_)
 refine g_op (xE (b:=b7) (D:=[]) rfl rfl rfl (k3 (by decide)) (fun p hp=>by simp at hp) (fun p hp=>by simp at hp) ?_)
 refine wF b7 [(Value.int .i64 1,Value.slice (some ⟨b9,0,none⟩) 1 1)] rfl ?_
 refine g_op (zI rfl (fun w1 hw1=>od_1 w1) rfl ?_)
 refine g_op (g_lit rfl rfl rfl rfl rfl fun b11=>?_)
 refine g_op (xE (b:=b7) (D:=[(Value.int .i64 1,Value.slice (some ⟨b9,0,none⟩) 1 1)]) rfl rfl rfl (k3 (by decide)) (by intro p hp;simp only[List.mem_cons,List.not_mem_nil,or_false] at hp;rcases hp with rfl<;>exact k3 (by decide)) (by intro p hp;simp only[List.mem_cons,List.not_mem_nil,or_false] at hp;rcases hp with rfl<;>(intro hc;injection hc with _ hc;exact absurd hc (by decide))) ?_)
 refine wF b7 [(Value.int .i64 1,Value.slice (some ⟨b9,0,none⟩) 1 1),(Value.int .i64 2,Value.slice (some ⟨b11,0,none⟩) 1 1)] rfl ?_
 refine g_op (zI rfl (fun w1 hw1=>od_1 w1) rfl ?_)
 refine g_op (g_lit rfl rfl rfl rfl rfl fun b13=>?_)
 refine g_op (xE (b:=b7) (D:=[(Value.int .i64 1,Value.slice (some ⟨b9,0,none⟩) 1 1),(Value.int .i64 2,Value.slice (some ⟨b11,0,none⟩) 1 1)]) rfl rfl rfl (k3 (by decide)) (by intro p hp;simp only[List.mem_cons,List.not_mem_nil,or_false] at hp;rcases hp with rfl|rfl<;>exact k3 (by decide)) (by intro p hp;simp only[List.mem_cons,List.not_mem_nil,or_false] at hp;rcases hp with rfl|rfl<;>(intro hc;injection hc with _ hc;exact absurd hc (by decide))) ?_)
 refine wF b7 [(Value.int .i64 1,Value.slice (some ⟨b9,0,none⟩) 1 1),(Value.int .i64 2,Value.slice (some ⟨b11,0,none⟩) 1 1),(Value.int .i64 3,Value.slice (some ⟨b13,0,none⟩) 1 1)] rfl ?_
 refine g_op (zI rfl (fun w1 hw1=>od_1 w1) rfl ?_)
 refine g_op (g_lit rfl rfl rfl rfl rfl fun b15=>?_)
 refine g_op (xE (b:=b7) (D:=[(Value.int .i64 1,Value.slice (some ⟨b9,0,none⟩) 1 1),(Value.int .i64 2,Value.slice (some ⟨b11,0,none⟩) 1 1),(Value.int .i64 3,Value.slice (some ⟨b13,0,none⟩) 1 1)]) rfl rfl rfl (k3 (by decide)) (by intro p hp;simp only[List.mem_cons,List.not_mem_nil,or_false] at hp;rcases hp with rfl|rfl|rfl<;>exact k3 (by decide)) (by intro p hp;simp only[List.mem_cons,List.not_mem_nil,or_false] at hp;rcases hp with rfl|rfl|rfl<;>(intro hc;injection hc with _ hc;exact absurd hc (by decide))) ?_)
 refine wF b7 [(Value.int .i64 1,Value.slice (some ⟨b9,0,none⟩) 1 1),(Value.int .i64 2,Value.slice (some ⟨b11,0,none⟩) 1 1),(Value.int .i64 3,Value.slice (some ⟨b13,0,none⟩) 1 1),(Value.int .i64 4,Value.slice (some ⟨b15,0,none⟩) 1 1)] rfl ?_
 refine g_op (zI rfl (fun w1 hw1=>od_1 w1) rfl ?_)
 refine g_op (zI rfl (fun w1 hw1=>od_2 w1) rfl ?_)
 refine g_op (g_lit rfl rfl rfl rfl rfl fun b18=>?_)
 refine g_op (xE (b:=b7) (D:=[(Value.int .i64 1,Value.slice (some ⟨b9,0,none⟩) 1 1),(Value.int .i64 2,Value.slice (some ⟨b11,0,none⟩) 1 1),(Value.int .i64 3,Value.slice (some ⟨b13,0,none⟩) 1 1),(Value.int .i64 4,Value.slice (some ⟨b15,0,none⟩) 1 1)]) rfl rfl rfl (k3 (by decide)) (by intro p hp;simp only[List.mem_cons,List.not_mem_nil,or_false] at hp;rcases hp with rfl|rfl|rfl|rfl<;>exact k3 (by decide)) (by intro p hp;simp only[List.mem_cons,List.not_mem_nil,or_false] at hp;rcases hp with rfl|rfl|rfl|rfl<;>(intro hc;injection hc with _ hc;exact absurd hc (by decide))) ?_)
 refine wF b7 [(Value.int .i64 1,Value.slice (some ⟨b9,0,none⟩) 1 1),(Value.int .i64 2,Value.slice (some ⟨b11,0,none⟩) 1 1),(Value.int .i64 3,Value.slice (some ⟨b13,0,none⟩) 1 1),(Value.int .i64 4,Value.slice (some ⟨b15,0,none⟩) 1 1),(Value.int .i64 5,Value.slice (some ⟨b18,0,none⟩) 2 2)] rfl ?_
 refine g_op (zI rfl (fun w1 hw1=>od_1 w1) rfl ?_)
 refine g_op (zI rfl (fun w1 hw1=>od_0 w1) rfl ?_)
 refine g_op (g_lit rfl rfl rfl rfl rfl fun b21=>?_)
 refine g_op (xE (b:=b7) (D:=[(Value.int .i64 1,Value.slice (some ⟨b9,0,none⟩) 1 1),(Value.int .i64 2,Value.slice (some ⟨b11,0,none⟩) 1 1),(Value.int .i64 3,Value.slice (some ⟨b13,0,none⟩) 1 1),(Value.int .i64 4,Value.slice (some ⟨b15,0,none⟩) 1 1),(Value.int .i64 5,Value.slice (some ⟨b18,0,none⟩) 2 2)]) rfl rfl rfl (k3 (by decide)) (by intro p hp;simp only[List.mem_cons,List.not_mem_nil,or_false] at hp;rcases hp with rfl|rfl|rfl|rfl|rfl<;>exact k3 (by decide)) (by intro p hp;simp only[List.mem_cons,List.not_mem_nil,or_false] at hp;rcases hp with rfl|rfl|rfl|rfl|rfl<;>(intro hc;injection hc with _ hc;exact absurd hc (by decide))) ?_)
 refine wF b7 [(Value.int .i64 1,Value.slice (some ⟨b9,0,none⟩) 1 1),(Value.int .i64 2,Value.slice (some ⟨b11,0,none⟩) 1 1),(Value.int .i64 3,Value.slice (some ⟨b13,0,none⟩) 1 1),(Value.int .i64 4,Value.slice (some ⟨b15,0,none⟩) 1 1),(Value.int .i64 5,Value.slice (some ⟨b18,0,none⟩) 2 2),(Value.int .i64 6,Value.slice (some ⟨b21,0,none⟩) 2 2)] rfl ?_
 refine g_op (g_lit rfl rfl rfl rfl rfl fun b22=>?_)
 refine g_op (xE (b:=b7) (D:=[(Value.int .i64 1,Value.slice (some ⟨b9,0,none⟩) 1 1),(Value.int .i64 2,Value.slice (some ⟨b11,0,none⟩) 1 1),(Value.int .i64 3,Value.slice (some ⟨b13,0,none⟩) 1 1),(Value.int .i64 4,Value.slice (some ⟨b15,0,none⟩) 1 1),(Value.int .i64 5,Value.slice (some ⟨b18,0,none⟩) 2 2),(Value.int .i64 6,Value.slice (some ⟨b21,0,none⟩) 2 2)]) rfl rfl rfl (k3 (by decide)) (by intro p hp;simp only[List.mem_cons,List.not_mem_nil,or_false] at hp;rcases hp with rfl|rfl|rfl|rfl|rfl|rfl<;>exact k3 (by decide)) (by intro p hp;simp only[List.mem_cons,List.not_mem_nil,or_false] at hp;rcases hp with rfl|rfl|rfl|rfl|rfl|rfl<;>(intro hc;injection hc with _ hc;exact absurd hc (by decide))) ?_)
 refine wF b7 [(Value.int .i64 1,Value.slice (some ⟨b9,0,none⟩) 1 1),(Value.int .i64 2,Value.slice (some ⟨b11,0,none⟩) 1 1),(Value.int .i64 3,Value.slice (some ⟨b13,0,none⟩) 1 1),(Value.int .i64 4,Value.slice (some ⟨b15,0,none⟩) 1 1),(Value.int .i64 5,Value.slice (some ⟨b18,0,none⟩) 2 2),(Value.int .i64 6,Value.slice (some ⟨b21,0,none⟩) 2 2),(Value.int .i64 7,Value.slice (some ⟨b22,0,none⟩) 0 0)] rfl ?_
 refine rn [2] ?_
 rcases(show k=1∨k=2∨k=3∨k=4∨k=5∨k=6∨k=7∨¬(1≤k∧k≤7) by omega) with hk1|hk2|hk3|hk4|hk5|hk6|hk7|hk0
 ·have hL:opsL k=[0]:=by rw[hk1];rfl
  have hB:opsB k=true:=by rw[hk1];rfl
  refine rn [2] ?_
  refine s_q (wE (b:=b7) (v:=.slice (some ⟨b9,0,none⟩) 1 1) (D:=[(Value.int .i64 1,Value.slice (some ⟨b9,0,none⟩) 1 1),(Value.int .i64 2,Value.slice (some ⟨b11,0,none⟩) 1 1),(Value.int .i64 3,Value.slice (some ⟨b13,0,none⟩) 1 1),(Value.int .i64 4,Value.slice (some ⟨b15,0,none⟩) 1 1),(Value.int .i64 5,Value.slice (some ⟨b18,0,none⟩) 2 2),(Value.int .i64 6,Value.slice (some ⟨b21,0,none⟩) 2 2),(Value.int .i64 7,Value.slice (some ⟨b22,0,none⟩) 0 0)]) rfl (by rw[hk1];rfl) (k3 (by decide)) (by intro p hp;simp only[List.mem_cons,List.not_mem_nil,or_false] at hp;rcases hp with rfl|rfl|rfl|rfl|rfl|rfl|rfl<;>exact k3 (by decide)) (by simp) (by intro p hp hc;simp only[List.mem_cons,List.not_mem_nil,or_false] at hp;rcases hp with rfl|rfl|rfl|rfl|rfl|rfl|rfl<;>first|rfl|(injection hc with _ hc;exact absurd hc (by decide)))) rfl ?_
  refine rn [2,40,40,3,3,0,1,2,2,3,3,0,11] ?_
  refine zF (b:=b9) ((([0]:List Nat).map OD.c).flatten) (by rfl) ?_
  refine xR (b:=b9) 3 1 (([0]:List Nat).map OD.c) (zW (c:=OD.c) (fun _=>rfl) _) rfl rfl (by decide) ?_
  exact fin2 rfl (.tmp rfl) (.tmp rfl) (fun w' hw' => ⟨((some ⟨b9,0,none⟩:Option Addr),(1:Nat)),(by exact trivial),by rw[hL,hB];rfl,by rw[hL];exact zA w' hw'⟩) _ (.inl rfl)
 ·have hL:opsL k=[1]:=by rw[hk2];rfl
  have hB:opsB k=true:=by rw[hk2];rfl
  refine rn [2] ?_
  refine s_q (wE (b:=b7) (v:=.slice (some ⟨b11,0,none⟩) 1 1) (D:=[(Value.int .i64 1,Value.slice (some ⟨b9,0,none⟩) 1 1),(Value.int .i64 2,Value.slice (some ⟨b11,0,none⟩) 1 1),(Value.int .i64 3,Value.slice (some ⟨b13,0,none⟩) 1 1),(Value.int .i64 4,Value.slice (some ⟨b15,0,none⟩) 1 1),(Value.int .i64 5,Value.slice (some ⟨b18,0,none⟩) 2 2),(Value.int .i64 6,Value.slice (some ⟨b21,0,none⟩) 2 2),(Value.int .i64 7,Value.slice (some ⟨b22,0,none⟩) 0 0)]) rfl (by rw[hk2];rfl) (k3 (by decide)) (by intro p hp;simp only[List.mem_cons,List.not_mem_nil,or_false] at hp;rcases hp with rfl|rfl|rfl|rfl|rfl|rfl|rfl<;>exact k3 (by decide)) (by simp) (by intro p hp hc;simp only[List.mem_cons,List.not_mem_nil,or_false] at hp;rcases hp with rfl|rfl|rfl|rfl|rfl|rfl|rfl<;>first|rfl|(injection hc with _ hc;exact absurd hc (by decide)))) rfl ?_
  refine rn [2,40,40,3,3,0,1,2,2,3,3,0,11] ?_
  refine zF (b:=b11) ((([1]:List Nat).map OD.c).flatten) (by rfl) ?_
  refine xR (b:=b11) 3 1 (([1]:List Nat).map OD.c) (zW (c:=OD.c) (fun _=>rfl) _) rfl rfl (by decide) ?_
  exact fin2 rfl (.tmp rfl) (.tmp rfl) (fun w' hw' => ⟨((some ⟨b11,0,none⟩:Option Addr),(1:Nat)),(by exact trivial),by rw[hL,hB];rfl,by rw[hL];exact zA w' hw'⟩) _ (.inl rfl)
 ·have hL:opsL k=[1]:=by rw[hk3];rfl
  have hB:opsB k=true:=by rw[hk3];rfl
  refine rn [2] ?_
  refine s_q (wE (b:=b7) (v:=.slice (some ⟨b13,0,none⟩) 1 1) (D:=[(Value.int .i64 1,Value.slice (some ⟨b9,0,none⟩) 1 1),(Value.int .i64 2,Value.slice (some ⟨b11,0,none⟩) 1 1),(Value.int .i64 3,Value.slice (some ⟨b13,0,none⟩) 1 1),(Value.int .i64 4,Value.slice (some ⟨b15,0,none⟩) 1 1),(Value.int .i64 5,Value.slice (some ⟨b18,0,none⟩) 2 2),(Value.int .i64 6,Value.slice (some ⟨b21,0,none⟩) 2 2),(Value.int .i64 7,Value.slice (some ⟨b22,0,none⟩) 0 0)]) rfl (by rw[hk3];rfl) (k3 (by decide)) (by intro p hp;simp only[List.mem_cons,List.not_mem_nil,or_false] at hp;rcases hp with rfl|rfl|rfl|rfl|rfl|rfl|rfl<;>exact k3 (by decide)) (by simp) (by intro p hp hc;simp only[List.mem_cons,List.not_mem_nil,or_false] at hp;rcases hp with rfl|rfl|rfl|rfl|rfl|rfl|rfl<;>first|rfl|(injection hc with _ hc;exact absurd hc (by decide)))) rfl ?_
  refine rn [2,40,40,3,3,0,1,2,2,3,3,0,11] ?_
  refine zF (b:=b13) ((([1]:List Nat).map OD.c).flatten) (by rfl) ?_
  refine xR (b:=b13) 3 1 (([1]:List Nat).map OD.c) (zW (c:=OD.c) (fun _=>rfl) _) rfl rfl (by decide) ?_
  exact fin2 rfl (.tmp rfl) (.tmp rfl) (fun w' hw' => ⟨((some ⟨b13,0,none⟩:Option Addr),(1:Nat)),(by exact trivial),by rw[hL,hB];rfl,by rw[hL];exact zA w' hw'⟩) _ (.inl rfl)
 ·have hL:opsL k=[1]:=by rw[hk4];rfl
  have hB:opsB k=true:=by rw[hk4];rfl
  refine rn [2] ?_
  refine s_q (wE (b:=b7) (v:=.slice (some ⟨b15,0,none⟩) 1 1) (D:=[(Value.int .i64 1,Value.slice (some ⟨b9,0,none⟩) 1 1),(Value.int .i64 2,Value.slice (some ⟨b11,0,none⟩) 1 1),(Value.int .i64 3,Value.slice (some ⟨b13,0,none⟩) 1 1),(Value.int .i64 4,Value.slice (some ⟨b15,0,none⟩) 1 1),(Value.int .i64 5,Value.slice (some ⟨b18,0,none⟩) 2 2),(Value.int .i64 6,Value.slice (some ⟨b21,0,none⟩) 2 2),(Value.int .i64 7,Value.slice (some ⟨b22,0,none⟩) 0 0)]) rfl (by rw[hk4];rfl) (k3 (by decide)) (by intro p hp;simp only[List.mem_cons,List.not_mem_nil,or_false] at hp;rcases hp with rfl|rfl|rfl|rfl|rfl|rfl|rfl<;>exact k3 (by decide)) (by simp) (by intro p hp hc;simp only[List.mem_cons,List.not_mem_nil,or_false] at hp;rcases hp with rfl|rfl|rfl|rfl|rfl|rfl|rfl<;>first|rfl|(injection hc with _ hc;exact absurd hc (by decide)))) rfl ?_
  refine rn [2,40,40,3,3,0,1,2,2,3,3,0,11] ?_
  refine zF (b:=b15) ((([1]:List Nat).map OD.c).flatten) (by rfl) ?_
  refine xR (b:=b15) 3 1 (([1]:List Nat).map OD.c) (zW (c:=OD.c) (fun _=>rfl) _) rfl rfl (by decide) ?_
  exact fin2 rfl (.tmp rfl) (.tmp rfl) (fun w' hw' => ⟨((some ⟨b15,0,none⟩:Option Addr),(1:Nat)),(by exact trivial),by rw[hL,hB];rfl,by rw[hL];exact zA w' hw'⟩) _ (.inl rfl)
 ·have hL:opsL k=[1,2]:=by rw[hk5];rfl
  have hB:opsB k=true:=by rw[hk5];rfl
  refine rn [2] ?_
  refine s_q (wE (b:=b7) (v:=.slice (some ⟨b18,0,none⟩) 2 2) (D:=[(Value.int .i64 1,Value.slice (some ⟨b9,0,none⟩) 1 1),(Value.int .i64 2,Value.slice (some ⟨b11,0,none⟩) 1 1),(Value.int .i64 3,Value.slice (some ⟨b13,0,none⟩) 1 1),(Value.int .i64 4,Value.slice (some ⟨b15,0,none⟩) 1 1),(Value.int .i64 5,Value.slice (some ⟨b18,0,none⟩) 2 2),(Value.int .i64 6,Value.slice (some ⟨b21,0,none⟩) 2 2),(Value.int .i64 7,Value.slice (some ⟨b22,0,none⟩) 0 0)]) rfl (by rw[hk5];rfl) (k3 (by decide)) (by intro p hp;simp only[List.mem_cons,List.not_mem_nil,or_false] at hp;rcases hp with rfl|rfl|rfl|rfl|rfl|rfl|rfl<;>exact k3 (by decide)) (by simp) (by intro p hp hc;simp only[List.mem_cons,List.not_mem_nil,or_false] at hp;rcases hp with rfl|rfl|rfl|rfl|rfl|rfl|rfl<;>first|rfl|(injection hc with _ hc;exact absurd hc (by decide)))) rfl ?_
  refine rn [2,40,40,3,3,0,1,2,2,3,3,0,11] ?_
  refine zF (b:=b18) ((([1,2]:List Nat).map OD.c).flatten) (by rfl) ?_
  refine xR (b:=b18) 3 2 (([1,2]:List Nat).map OD.c) (zW (c:=OD.c) (fun _=>rfl) _) rfl rfl (by decide) ?_
  exact fin2 rfl (.tmp rfl) (.tmp rfl) (fun w' hw' => ⟨((some ⟨b18,0,none⟩:Option Addr),(2:Nat)),(by exact trivial),by rw[hL,hB];rfl,by rw[hL];exact zA w' hw'⟩) _ (.inl rfl)
 ·have hL:opsL k=[1,0]:=by rw[hk6];rfl
  have hB:opsB k=true:=by rw[hk6];rfl
  refine rn [2] ?_
  refine s_q (wE (b:=b7) (v:=.slice (some ⟨b21,0,none⟩) 2 2) (D:=[(Value.int .i64 1,Value.slice (some ⟨b9,0,none⟩) 1 1),(Value.int .i64 2,Value.slice (some ⟨b11,0,none⟩) 1 1),(Value.int .i64 3,Value.slice (some ⟨b13,0,none⟩) 1 1),(Value.int .i64 4,Value.slice (some ⟨b15,0,none⟩) 1 1),(Value.int .i64 5,Value.slice (some ⟨b18,0,none⟩) 2 2),(Value.int .i64 6,Value.slice (some ⟨b21,0,none⟩) 2 2),(Value.int .i64 7,Value.slice (some ⟨b22,0,none⟩) 0 0)]) rfl (by rw[hk6];rfl) (k3 (by decide)) (by intro p hp;simp only[List.mem_cons,List.not_mem_nil,or_false] at hp;rcases hp with rfl|rfl|rfl|rfl|rfl|rfl|rfl<;>exact k3 (by decide)) (by simp) (by intro p hp hc;simp only[List.mem_cons,List.not_mem_nil,or_false] at hp;rcases hp with rfl|rfl|rfl|rfl|rfl|rfl|rfl<;>first|rfl|(injection hc with _ hc;exact absurd hc (by decide)))) rfl ?_
  refine rn [2,40,40,3,3,0,1,2,2,3,3,0,11] ?_
  refine zF (b:=b21) ((([1,0]:List Nat).map OD.c).flatten) (by rfl) ?_
  refine xR (b:=b21) 3 2 (([1,0]:List Nat).map OD.c) (zW (c:=OD.c) (fun _=>rfl) _) rfl rfl (by decide) ?_
  exact fin2 rfl (.tmp rfl) (.tmp rfl) (fun w' hw' => ⟨((some ⟨b21,0,none⟩:Option Addr),(2:Nat)),(by exact trivial),by rw[hL,hB];rfl,by rw[hL];exact zA w' hw'⟩) _ (.inl rfl)
 ·have hL:opsL k=[]:=by rw[hk7];rfl
  have hB:opsB k=true:=by rw[hk7];rfl
  refine rn [2] ?_
  refine s_q (wE (b:=b7) (v:=.slice (some ⟨b22,0,none⟩) 0 0) (D:=[(Value.int .i64 1,Value.slice (some ⟨b9,0,none⟩) 1 1),(Value.int .i64 2,Value.slice (some ⟨b11,0,none⟩) 1 1),(Value.int .i64 3,Value.slice (some ⟨b13,0,none⟩) 1 1),(Value.int .i64 4,Value.slice (some ⟨b15,0,none⟩) 1 1),(Value.int .i64 5,Value.slice (some ⟨b18,0,none⟩) 2 2),(Value.int .i64 6,Value.slice (some ⟨b21,0,none⟩) 2 2),(Value.int .i64 7,Value.slice (some ⟨b22,0,none⟩) 0 0)]) rfl (by rw[hk7];rfl) (k3 (by decide)) (by intro p hp;simp only[List.mem_cons,List.not_mem_nil,or_false] at hp;rcases hp with rfl|rfl|rfl|rfl|rfl|rfl|rfl<;>exact k3 (by decide)) (by simp) (by intro p hp hc;simp only[List.mem_cons,List.not_mem_nil,or_false] at hp;rcases hp with rfl|rfl|rfl|rfl|rfl|rfl|rfl<;>first|rfl|(injection hc with _ hc;exact absurd hc (by decide)))) rfl ?_
  refine rn [2,40,40,3,3,0,1,2,2,3,3,0,11] ?_
  refine zF (b:=b22) ((([]:List Nat).map OD.c).flatten) (by rfl) ?_
  refine xR (b:=b22) 3 0 (([]:List Nat).map OD.c) (zW (c:=OD.c) (fun _=>rfl) _) rfl rfl (by decide) ?_
  exact fin2 rfl (.tmp rfl) (.tmp rfl) (fun w' hw' => ⟨((some ⟨b22,0,none⟩:Option Addr),(0:Nat)),(by exact trivial),by rw[hL,hB];rfl,by rw[hL];exact zA w' hw'⟩) _ (.inl rfl)
 ·have hL:opsL k=[]:=by unfold opsL;repeat rw[if_neg (by omega)]
  have hB:opsB k=false:=decide_eq_false hk0
  refine rn [2] ?_
  refine s_q (q_look_f (b:=b7) (z:=.slice none 0 0) (D:=[(Value.int .i64 1,Value.slice (some ⟨b9,0,none⟩) 1 1),(Value.int .i64 2,Value.slice (some ⟨b11,0,none⟩) 1 1),(Value.int .i64 3,Value.slice (some ⟨b13,0,none⟩) 1 1),(Value.int .i64 4,Value.slice (some ⟨b15,0,none⟩) 1 1),(Value.int .i64 5,Value.slice (some ⟨b18,0,none⟩) 2 2),(Value.int .i64 6,Value.slice (some ⟨b21,0,none⟩) 2 2),(Value.int .i64 7,Value.slice (some ⟨b22,0,none⟩) 0 0)]) rfl rfl (k3 hk) (by intro p hp;simp only[List.mem_cons,List.not_mem_nil,or_false] at hp;rcases hp with rfl|rfl|rfl|rfl|rfl|rfl|rfl<;>exact k3 (by decide)) (by intro p hp hc;simp only[List.mem_cons,List.not_mem_nil,or_false] at hp;rcases hp with rfl|rfl|rfl|rfl|rfl|rfl|rfl<;>(injection hc with _ hc;omega)) (zv (by kernel_rfl))) rfl ?_
  refine rn [2,40,40,3,3,0,1,2,2,3,3,0,11] ?_
  refine zX none 324 3 (([]:List Nat).map OD.c) (by rfl) ?_
  exact fin2 rfl (.tmp rfl) (.tmp rfl) (fun w' hw' => ⟨((none:Option Addr),(0:Nat)),(by exact trivial),by rw[hL,hB];rfl,by rw[hL];exact zA w' hw'⟩) _ (.inl rfl)
theorem wR:∀(l:List Nat) (k:Nat),((l.take k).map szO).sum≤8*l.length
 | [],_=>by simp
 | a :: l,0=>by simp
 | a :: l,k+1=>by
  have h1:=wR l k
  have h2:=pH a
  simp only[List.take_succ_cons,List.map_cons,List.sum_cons,List.length_cons];omega
theorem xW {l:List Nat} {k:Nat} (h:k<l.length):((l.take (k+1)).map szO).sum=((l.take k).map szO).sum+szO l[k]:=by
 rw[←List.take_append_getElem h,List.map_append,List.sum_append,List.map_cons,List.map_nil,List.sum_cons,List.sum_nil,Nat.add_zero]
theorem szK_le (k:Int):szK k≤17:=by
 unfold szK
 have h1:=wR (opsL k) (opsL k).length
 have h2:=tD k
 rw[List.take_length] at h1
 split<;>omega
theorem size_any (k:Int) (w:World) (hk:-9223372036854775808≤k∧k≤9223372036854775807):Pur Tryz.prog 252 [.int .i64 k] w (.int .i64 ((szK k:Nat):Int)):=by
 refine g_st Tryz.func252 27 (WOK.start [] _) ?_
 refine rn [1,3,0,1,2] ?_
 refine g_op (zG [] rfl (fun w1 hw1 ho1=>by have h7:=uL (k) w1 hk;exact h7) rfl ?_)
 rintro⟨A10,cap10⟩ _
 refine ii ?_
 refine rn [2,40,40,3,3,0,8,1,2,48,0] ?_
 refine zC rfl (fun h1=>?_) (fun h1=>?_)
 ·have hB:opsB k=false:=by simpa using h1
  refine rn [1,3,0,11,13] ?_
  exact fin1 rfl (.tmp rfl) (fun w' hw' => ⟨by unfold szK;rw[hB];rfl,hw'.upd⟩) _ (.inl rfl)
 ·have hB:opsB k=true:=by simpa using h1
  refine rn [12,7,1,3,0,8,1,2,47,2,0,14] ?_
  refine g_val 5 (v' := .int .i64 (((1+(((opsL k).take 0).map szO).sum):Nat):Int)) rfl (by rfl) ?_
  refine g_lk [2,15,16] (fun(x:Nat)=>[(5,.int .i64 (((1+(((opsL k).take x).map szO).sum):Nat):Int)),(17,.int .i64 ((x:Nat):Int))]) (fun(x:Nat)=>[Res.row A10 (opsL k).length cap10 324 3 ((opsL k).map OD.c)]) (fun(x:Nat)=>x≤(opsL k).length) (fun(x:Nat)=>(opsL k).length-x) 0 (by(try dsimp only);exact Nat.zero_le _) ?_
  rintro i le_i
  replace le_i:i≤(opsL k).length:=le_i
  have hs9:=wR (opsL k) i
  have ho9:=tD k
  refine rn [1,46,0,8] ?_
  refine zC rfl (fun h2=>?_) (fun h2=>?_)
  ·have lt_i:i<(opsL k).length:=by have h9:=of_decide_eq_true h2;omega
   refine rn [12,7,8,14,1] ?_
   refine s_q (zP (i:=i) rfl rfl rfl (ird (A:=A10)) (by first|exact lt_i|omega)) rfl ?_
   refine s_q (zS (i:=i) rfl (ird (A:=A10)) (zR (by first|assumption|omega|(simp_all;done)|(simp_all;omega))) rfl) rfl ?_
   refine g_op (zK rfl fun b7=>?_)
   refine rn [33,0,10,2,4,5] ?_
   refine s_q (vQ (a:=(1+(((opsL k).take i).map szO).sum)) (b:=szO (opsL k)[i]) rfl rfl (by have h9:=pH (opsL k)[i];omega)) rfl ?_
   refine rn [3,9,15,7,10,43,2,9] ?_
   refine g_val 5 (v' := .int .i64 (((1+(((opsL k).take (i+1)).map szO).sum):Nat):Int)) rfl (by rw[xW lt_i];congr 1;omega) ?_
   exact g_ag (i+1) (by(try dsimp only);exact(by first|exact lt_i|omega))
  ·have eq_i:i=(opsL k).length:=by have h9:=of_decide_eq_false h2;omega
   refine rn [16] ?_
   refine zD (zD (zN ?_))
   refine rn [7,1,2,3,0,11] ?_
   exact fin1 rfl (.tmp rfl) (fun w' hw' => ⟨by unfold szK;rw[if_pos hB,eq_i,List.take_length],hw'.upd⟩) _ (.inl rfl)
theorem reader_any (A:Option Addr) (n cap:Nat) (w:World) : Own2 (ι:=Nat) Tryz.prog 253 [.slice A n cap] w [] (fun x=>True) (fun x=>.func (.func 296) #[] [Value.pointer (some ⟨x,0,none⟩)].toArray) (fun x=>[Res.blk x 56 [Value.slice A n cap]]) (fun x=>[]):=by
 refine g_st Tryz.func253 4 (WOK.start (fps []) _) ?_
 refine rn [1] ?_
 refine g_op (g_box (c:=[Value.slice A n cap]) rfl rfl rfl fun b1=>?_)
 refine rn [3,0,1,52,3,0,11] ?_
 exact fin1 rfl (.tmp rfl) (fun w' hw' => ⟨b1,(by exact trivial),rfl,zA w' hw'⟩) _ (.inl rfl)
def rdN (bs:List Nat):Nat:=bs.foldl (fun v b=>v*256+b) 0
theorem rdN_succ {bs:List Nat} {k:Nat} (h:k<bs.length):rdN (bs.take (k+1))=rdN (bs.take k)*256+bs[k]:=by
 unfold rdN;rw[←List.take_append_getElem h,List.foldl_append];rfl
theorem rdN_lt {bs:List Nat} (hb:∀b∈bs,b<256):∀k,k≤bs.length→rdN (bs.take k)<256 ^ k
 | 0,_=>by simp[rdN]
 | k+1,h=>by
  have h1:=rdN_lt hb k (by omega)
  have h2:=hb _ (List.getElem_mem (show k<bs.length by omega))
  rw[rdN_succ (by omega),Nat.pow_succ];omega
theorem pow8 {k:Nat} (h:k<8):256 ^ k*256≤18446744073709551616:=by
 rw[←Nat.pow_succ]
 exact Nat.pow_le_pow_right (by decide) (show k+1≤8 by omega)
theorem or_low {a b:Nat} (hb:b<256):(a*256) ||| b=a*256+b:=by
 have:=Nat.two_pow_add_eq_or_of_lt (i:=8) (show b<2 ^ 8 by omega) a
 rw[Nat.mul_comm];exact this.symm
theorem rdr_any (q:Nat) (A:Option Addr) (m cap n:Nat) (bs:List Nat) (w:World) (hw:W0 [Res.blk q 56 [Value.slice A m cap]] w) (hrd:Rd w [Res.blk q 56 [Value.slice A m cap]] A m 1 (bs.map (fun v:Nat=>[Value.int .u8 ((v:Nat):Int)]))) (hcap:m≤cap) (hn:n≤m) (hn8:n≤8) (hby:∀b∈bs,b<256):Own2 (ι:=Unit) Tryz.prog 296 [.int .i64 (n:Int),.pointer (some ⟨q,0,none⟩)] w [Res.blk q 56 [Value.slice A m cap]] (fun x=>True) (fun x=>.int .u64 ((rdN (bs.take n):Nat):Int)) (fun x=>[]) (fun x=>[Res.blk q 56 [Value.slice (subA A cap n 1) (m-n) (cap-n)]]):=by
 refine g_st Tryz.func296 25 hw ?_
 have hm:m=bs.length:=by have:=hrd.old.len;simpa using this
 refine rn [1,3,0,1,3,0,8,1,5,2] ?_
 refine s_q (yW (h:=n) rfl rfl rfl (by omega)) rfl ?_
 refine rn [47,2,0,14] ?_
 refine g_val 4 (v' := .int .u64 ((rdN (bs.take 0):Nat):Int)) rfl (by rfl) ?_
 refine g_lk [0,1,3,9,10] (fun(x:Nat)=>[(4,.int .u64 ((rdN (bs.take x):Nat):Int)),(11,.int .i64 ((x:Nat):Int))]) (fun(x:Nat)=>[Res.blk q 56 [Value.slice A m cap]]) (fun(x:Nat)=>x≤n) (fun(x:Nat)=>n-x) 0 (by(try dsimp only);exact Nat.zero_le _) ?_
 rintro i le_i
 replace le_i:i≤n:=le_i
 refine rn [1,46,0,8] ?_
 refine zC rfl (fun h1=>?_) (fun h1=>?_)
 ·have lt_i:i<n:=by have h9:=of_decide_eq_true h1;omega
  have hbs:i<bs.length:=by omega
  have hb9:=hby _ (List.getElem_mem hbs)
  have hl9:=rdN_lt hby i (by omega)
  have hp9:=pow8 (k:=i) (by omega)
  have hq9:rdN (bs.take i)*256<18446744073709551616-255:=by
    have h8:(rdN (bs.take i)+1)*256≤256 ^ i*256:=Nat.mul_le_mul_right 256 hl9
    omega
  refine rn [12,7,8,14,1] ?_
  refine s_q (zP (i:=i) rfl rfl rfl (hrd.rdb.h (cap:=cap) (by omega) hcap) (by first|exact lt_i|omega)) rfl ?_
  refine s_q (yI (i:=i) (o:=0) rfl (hrd.rdb.h (cap:=cap) (by omega) hcap) (vT (l:=bs) (m:=n) (by first|exact lt_i|omega) (by omega)) rfl rfl) rfl ?_
  refine rn [3,0,10,2] ?_
  refine s_q (q_shln (a:=rdN (bs.take i)) (n:=8) rfl rfl (by decide)) rfl ?_
  refine g_val 16 (v' := .int .u64 ((rdN (bs.take i)*256:Nat):Int)) rfl (by rw[Nat.mod_eq_of_lt (by omega)]) ?_
  refine rn [2] ?_
  refine s_q (yR (z:=((bs[i]:Nat):Int)) rfl (wu64 (by omega) (by omega))) rfl ?_
  refine s_q (q_orn (a:=rdN (bs.take i)*256) (b:=bs[i]) rfl rfl (by omega) (by omega)) rfl ?_
  refine g_val 19 (v' := .int .u64 ((rdN (bs.take (i+1)):Nat):Int)) rfl (by rw[or_low hb9,rdN_succ hbs]) ?_
  refine rn [3,9,15,7,10,43,2,9] ?_
  exact g_ag (i+1) (by(try dsimp only);exact(by first|exact lt_i|omega))
 ·have eq_i:i=n:=by have h9:=of_decide_eq_false h1;omega
  refine rn [16] ?_
  refine zD (zD (zN ?_))
  refine rn [7,1,5,2] ?_
  refine s_q (xG (l:=n) rfl rfl rfl (by omega)) rfl ?_
  refine g_op (zJ rfl rfl rfl rfl rfl rfl rfl ?_)
  refine zF (b:=q) [Value.slice (subA A cap n 1) (m-n) (cap-n)] (by rfl) ?_
  refine rn [0,1,2,3,0,11] ?_
  exact fin1 rfl (.tmp rfl) (fun w' hw' => ⟨(),(by exact trivial),by rw[eq_i],zA w' hw'⟩) _ (.inl rfl)
end Go.Proofs.YtdddiilocbbkkaaGreat
