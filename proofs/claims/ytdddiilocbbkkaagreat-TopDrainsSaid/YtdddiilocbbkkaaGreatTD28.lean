/- TopDrains: for every configuration and all operations the law returns true. No condition. Part 28 of 28. -/
import Derived.Test.YtdddiilocbbkkaaGreatTD27
set_option linter.unusedVariables false
set_option linter.unusedSimpArgs false
namespace Go.Proofs.YtdddiilocbbkkaaGreat
open Go.RowKit Go.Eg
set_option maxHeartbeats 4000000
set_option synthInstance.maxSize 3000
set_option maxRecDepth 100000
theorem law_topDrains (c:C) (A_l:Option Addr) (c_l:Nat) (l:List Op) (w:World) (k_c:(c).ok) (o_l:Old w A_l l.length 4 (l.map Op.c)) (h_l:l.length≤c_l∧c_l≤9223372036854775807) (k_l:∀x∈l,(fun x:Op=>x.ok) x):Pur Tryz.prog 7 [c.v,.slice A_l l.length c_l] w (.bool true):=by
 refine g_st Tryz.func7 120 (WOK.start [] _) ?_
 refine rn [1] ?_
 refine g_op (g_box rfl rfl rfl fun b2=>?_)
 refine rn [3,0,8,1,45,2] ?_
 refine g_op (zI rfl (fun w1 hw1=>fits_any c A_l (l.length) (c_l) w1) rfl ?_)
 refine rn [44,0] ?_
 refine zC rfl (fun h1=>?_) (fun h1=>?_)
 ·refine rn [1] ?_
  refine g_op (zI rfl (fun w1 hw1=>vU w1) rfl ?_)
  refine rn [3,0,11,13] ?_
  exact fin1 rfl (.tmp rfl) (fun w' hw' => ⟨by rfl,hw'.upd⟩) _ (.inl rfl)
 ·have hfit:fitB c l.length=true:=fit_of h1
  obtain⟨hc,q1,q2,q3,q4,q5,q6⟩:=of_decide_eq_true hfit
  have hcok:=sO hc k_c
  refine rn [12,7,1,45] ?_
  refine g_op (zG [] rfl (fun w1 hw1 ho1=>by have h7:=tbeg_any c w1 hc k_c;exact h7) rfl ?_)
  rintro⟨p20,a20,b20,m20⟩ r20
  refine ii ?_
  simp only at r20
  refine rn [2,40,40] ?_
  refine g_op (zK rfl fun b5=>?_)
  refine rn [33] ?_
  refine zF (b:=b5) [.pointer (some ⟨p20.eb,0,none⟩),.pointer (some ⟨b20,0,none⟩)] (by rfl) ?_
  refine rn [3,0,8,1,2,48] ?_
  refine yC 24 (b:=false) rfl (rfl) ?_
  refine rn [0,20,12,7,1,45,2] ?_
  refine g_op (zG _ rfl (fun w1 hw1 ho1=>by have h7:=tall_any p20 a20 b20 m20 h00 c A_l l.length c_l l w1 ho1 (Rd.ofOld hw1 o_l (by omega) (by simp)) hc k_c q5 r20 h00_ok k_l q6;exact h7) rfl ?_)
  rintro⟨a27,g27⟩ ⟨r27,k27⟩
  refine ii ?_
  simp only at r27 k27
  obtain⟨hiz,hbz,hcz,_⟩:=vV (tE hc k_c) k_l (show(newE c).blk+l.length<1000000000 by show 0+l.length<_;omega) l.length (Nat.le_refl _)
  have hwz:=run_wd (tE hc k_c) (new_wd hc k_c) k_l (show(newE c).blk+l.length<1000000000 by show 0+l.length<_;omega) l.length (Nat.le_refl _)
  obtain⟨z,hz⟩:∃z,z=(runK (newE c) l l.length).1:=⟨_,rfl⟩
  rw[←hz] at r27 hiz hbz hcz hwz
  replace hcz:z.c=c:=hcz
  replace hbz:z.blk≤l.length:=by have hb0:(newE c).blk=0:=rfl;omega
  refine xN (Eng p20 a27 (runK (newE c) l l.length).1) (Eng p20 a27 z) (by rw[hz]) ?_
  refine rn [0,1,4,5] ?_
  refine g_op (zG _ rfl (fun w1 hw1 ho1=>by have h7:=sW p20 a27 z w1 ho1 hiz r27;exact h7) rfl ?_)
  rintro sn30 _
  refine ii ?_
  refine g_op (zK rfl fun b7=>?_)
  refine rn [33] ?_
  refine zF (b:=b7) [Value.int .i64 (((z).blk:Nat):Int),.int .i64 (z).ep,.slice sn30.vA (z).l.length sn30.vc,.int .u64 (z).dep,.int .u64 (z).paid,.int .u64 (z).burn,.int .u64 (actS (z).l),.slice sn30.pA (z).pend.length sn30.pc,.slice sn30.fA (z).q.f.length sn30.fc,.slice sn30.oA (z).q.v.length sn30.oc,.slice sn30.mA (z).mg.length sn30.mc,.slice sn30.rA (z).pt.length sn30.rc,.int .i64 (((z).cur:Nat):Int),.int .u64 (z).m.bal,.int .i64 (((z).bo.length:Nat):Int)] (by rfl) ?_
  have hsup:=(yU hiz.cc).maxd.2
  have hsm:=hiz.sum
  obtain⟨l1_,l2_,l3_,l4_,l5_,l6_⟩:=hiz.led
  have hT0:0≤(bals z.l).sum:=xF fun x hx=>by obtain⟨v,hv,rfl⟩:=List.mem_map.1 hx;obtain⟨j,hj,rfl⟩:=wN hv;exact qA hiz j
  have hTe:addV (z.l.map V.bal)=(bals z.l).sum:=by unfold addV;rw[if_pos (show(z.l.map V.bal).sum≤_ from(by show(bals z.l).sum≤_;omega))];rfl
  have uT:U64 (bals z.l).sum:=⟨hT0,by omega⟩
  have uM:U64 c.minch:=⟨by have:=hcok.minch;omega,by have:=hcok.minch;omega⟩
  have okz:okV z.l:=okz_of hiz
  have hzl:z.l.length≤4096:=by have h8:=hiz.cap;have h9:=hcok.capa;rw[hcz] at h8;omega
  refine rn [0,8] ?_
  refine dreg [] mixed rfl ?_
  refine rn [23,0,4,23,1,5] ?_
  refine g_val 33 (v' := .slice sn30.vA z.l.length sn30.vc) rfl (rfl) ?_
  refine rn [23,3,4,23,4,5] ?_
  refine dop 2 rfl (zL [] rfl (fun w1 hw1 ho1=>by exact total_any sn30.vA (z.l.length) (sn30.vc) (z.l) w1 (Rd.ofRow (A:=sn30.vA) hw1) okz (by omega)) rfl ?_)
  refine g_val 34 (v' := .int .u64 (bals z.l).sum) rfl (by rw[hTe]) ?_
  refine dop 5 rfl (zI rfl (fun w1 hw1=>epo_any _ _ w1 uT uM) rfl ?_)
  refine rn [23,6,2,23,7,40,23,8,40,23,9,3,23,10,3,27,7,8,1,2,48,2] ?_
  refine zU 42 rfl (fun h2=>?_) (fun h2=>?_)
  ·refine rn [21,21,41,2,21,21,21,41,2,21,21,21,41,0,19,1] ?_
   refine g_op (zI rfl (fun w1 hw1=>vU w1) rfl ?_)
   refine rn [3,0,11,13] ?_
   exact fin1 rfl (.tmp rfl) (fun w' hw' => ⟨by rfl,hw'.upd⟩) _ (.inl rfl)
  ·have hB:epoB (bals z.l).sum c.minch=true:=by have h9:=h2;simpa using h9
   have hN:(epoV (bals z.l).sum c.minch)=ceilV (bals z.l).sum c.minch:=if_pos hB
   have hN0:0≤(epoV (bals z.l).sum c.minch):=by rw[hN];exact(ceil_bd uT uM).1
   refine rn [22,2,22,55,42,2] ?_
   refine zU 46 rfl (fun h3=>?_) (fun h3=>?_)
   ·refine rn [21,21,21,41,2,21,21,21,41,0,19,1] ?_
    refine g_op (zI rfl (fun w1 hw1=>vU w1) rfl ?_)
    refine rn [3,0,11,13] ?_
    exact fin1 rfl (.tmp rfl) (fun w' hw' => ⟨by rfl,hw'.upd⟩) _ (.inl rfl)
   ·have hN5:(epoV (bals z.l).sum c.minch)≤500:=by have h9:=h3;simp at h9;omega
    refine rn [22,4,22,5,22,55,42,2] ?_
    refine zU 51 rfl (fun h4=>?_) (fun h4=>?_)
    ·refine rn [21,21,21,41,0,19,1] ?_
     refine g_op (zI rfl (fun w1 hw1=>vU w1) rfl ?_)
     refine rn [3,0,11,13] ?_
     exact fin1 rfl (.tmp rfl) (fun w' hw' => ⟨by rfl,hw'.upd⟩) _ (.inl rfl)
    ·have hs5:c.sld≤500:=by have h9:=h4;simp at h9;omega
     refine rn [22,4,22,5,22,55,42,0] ?_
     refine zC rfl (fun h5=>?_) (fun h5=>?_)
     ·refine rn [1] ?_
      refine g_op (zI rfl (fun w1 hw1=>vU w1) rfl ?_)
      refine rn [3,0,11,13] ?_
      exact fin1 rfl (.tmp rfl) (fun w' hw' => ⟨by rfl,hw'.upd⟩) _ (.inl rfl)
     ·have he2:c.elen≤20:=by have h9:=h5;simp at h9;omega
      obtain⟨bz1,bz2⟩:=ep_blk hiz
      rw[hcz] at bz1 bz2
      have hel:=hcok.elen
      have hsb:=pI hcok
      have hsw:sweepV c≤99:=by
        have h1:=wK hcok
        have h2:(c.capa-1)/blN c≤c.capa-1:=Int.ediv_le_self _ (by have:=hcok.capa;omega)
        have h3:(blocksV c-1)/c.elen≤blocksV c-1:=Int.ediv_le_self _ (by have:=xA hcok;omega)
        unfold sweepV;unfold blocksV at h3 ⊢;omega
      have hez:=hiz.epb
      have hzep:=ep_le z
      have hsl:=hcok.sld
      have hun:=hcok.unb
      have hE1:(z.ep+1)*c.elen≤((z.ep+(epoV (bals z.l).sum c.minch)+3+c.sld+sweepV c+1)+1)*c.elen:=Int.mul_le_mul_of_nonneg_right (by omega) (by omega)
      have hE2:((z.ep+(epoV (bals z.l).sum c.minch)+3+c.sld+sweepV c+1)+1)*c.elen≤((z.ep+(epoV (bals z.l).sum c.minch)+3+c.sld+sweepV c+1)+1)*20:=Int.mul_le_mul_of_nonneg_left (by omega) (by omega)
      obtain⟨K,hK⟩:∃K:Nat,(z.blk:Int)+K+1=((z.ep+(epoV (bals z.l).sum c.minch)+3+c.sld+sweepV c+1)+1)*c.elen:=⟨(((z.ep+(epoV (bals z.l).sum c.minch)+3+c.sld+sweepV c+1)+1)*c.elen-1-z.blk).toNat,by omega⟩
      have hTn:(bals z.l).sum≤(epoV (bals z.l).sum c.minch)*z.c.minch:=by rw[hN,hcz];exact ceil_mul hT0 (by have:=hcok.minch;omega)
      have hdr:=drained hiz hwz hN0 hTn (k:=K) (by omega) (by rw[hcz];omega)
      obtain⟨hiy,_,hyc⟩:=tkN_inv hiz K (by omega)
      refine rn [12,7,8] ?_
      refine dregL (L0:=[Res.blk b5 71 [.pointer (some ⟨p20.eb,0,none⟩),.pointer (some ⟨b20,0,none⟩)],Res.blk b7 42 [Value.int .i64 (((z).blk:Nat):Int),.int .i64 (z).ep,.slice sn30.vA (z).l.length sn30.vc,.int .u64 (z).dep,.int .u64 (z).paid,.int .u64 (z).burn,.int .u64 (actS (z).l),.slice sn30.pA (z).pend.length sn30.pc,.slice sn30.fA (z).q.f.length sn30.fc,.slice sn30.oA (z).q.v.length sn30.oc,.slice sn30.mA (z).mg.length sn30.mc,.slice sn30.rA (z).pt.length sn30.rc,.int .i64 (((z).cur:Nat):Int),.int .u64 (z).m.bal,.int .i64 (((z).bo.length:Nat):Int)],Res.blk b2 24 (C.c c)]) [] mixed rfl zB ?_
      refine rn [23,0,45,23,1,4,23,2,5] ?_
      refine g_val 59 (v' := .int .i64 z.ep) rfl (rfl) ?_
      refine rn [23,3,2] ?_
      refine dq 4 rfl (yJ (z:=z.ep+(epoV (bals z.l).sum c.minch)) rfl rfl (by rw[wi64 (by omega) (by omega)])) ?_
      refine dq 5 rfl (yJ (z:=z.ep+(epoV (bals z.l).sum c.minch)+3) rfl rfl (by rw[wi64 (by omega) (by omega)])) ?_
      refine rn [23,6,4,23,7,5] ?_
      refine dq 8 rfl (yJ (z:=z.ep+(epoV (bals z.l).sum c.minch)+3+c.sld) rfl rfl (by rw[wi64 (by omega) (by omega)])) ?_
      refine rn [23,9,45] ?_
      refine dop 10 rfl (zI rfl (fun w1 hw1=>sw_any c w1 hcok) rfl ?_)
      refine dq 11 rfl (yJ (z:=z.ep+(epoV (bals z.l).sum c.minch)+3+c.sld+sweepV c) rfl rfl (by rw[wi64 (by omega) (by omega)])) ?_
      refine dq 12 rfl (yJ (z:=z.ep+(epoV (bals z.l).sum c.minch)+3+c.sld+sweepV c+1) rfl rfl (by rw[wi64 (by omega) (by omega)])) ?_
      refine dop 13 rfl (zG _ rfl (fun w1 hw1 ho1=>by have h7:=tuntil_any (l.length*20000) p20 a27 z b20 m20 g27 (z.ep+(epoV (bals z.l).sum c.minch)+3+c.sld+sweepV c+1) K w1 ho1 hiz r27 (by rw[hcz];exact q5) (by omega) (by rw[hcz];exact hK) (by omega) k27 (by omega);exact h7) rfl ?_)
      rintro⟨a70,g70⟩ ⟨r70,k70⟩
      refine ii ?_
      simp only at r70
      obtain⟨y,hy⟩:∃y,y=tkN z K:=⟨_,rfl⟩
      rw[←hy] at r70 hdr hiy hyc
      have hyl:y.l.length≤4096:=by have h8:=hiy.cap;have h9:=hcok.capa;rw[hyc,hcz] at h8;omega
      refine xN (Eng p20 a70 (tkN z K)) (Eng p20 a70 y) (by rw[hy]) ?_
      obtain⟨d1,d2,d3,d4⟩:=hdr
      obtain⟨d5,d6⟩:=List.append_eq_nil_iff.1 d1
      refine rn [27,7,8,1,4,5] ?_
      refine g_op (zG _ rfl (fun w1 hw1 ho1=>by have h7:=sW p20 a70 y w1 ho1 hiy r70;exact h7) rfl ?_)
      rintro sn73 _
      refine ii ?_
      refine s_q (q_fldval (E:=37) (o:=2) rfl rfl (by kernel_rfl)) rfl ?_
      refine g_val 74 (v' := .slice sn73.vA y.l.length sn73.vc) rfl (rfl) ?_
      refine rn [47,2,0,14] ?_
      refine g_lk [4,5,74,75] (fun(x:Nat)=>[(76,.int .i64 ((x:Nat):Int))]) (fun(x:Nat)=>[Res.blk b5 71 [.pointer (some ⟨p20.eb,0,none⟩),.pointer (some ⟨b20,0,none⟩)],Eng p20 a70 y,Res.row sn73.vA y.l.length sn73.vc 52 7 (y.l.map V.c)]) (fun(x:Nat)=>x≤y.l.length) (fun(x:Nat)=>y.l.length-x) 0 (by(try dsimp only);exact Nat.zero_le _) ?_
      rintro k le_k
      replace le_k:k≤y.l.length:=le_k
      refine rn [1,46,0,8] ?_
      refine zC rfl (fun h6=>?_) (fun h6=>?_)
      ·have lt_k:k<y.l.length:=by have h9:=of_decide_eq_true h6;omega
       obtain⟨vk,hvk⟩:∃v,v=y.l[k]:=⟨_,rfl⟩
       obtain⟨n3,n4,n5⟩:=d4 k
       rw[yT lt_k,←hvk] at n3 n4 n5
       refine rn [12,7,8,14,1] ?_
       refine s_q (zP (i:=k) rfl rfl rfl (ird (A:=sn73.vA)) (by first|exact lt_k|omega)) rfl ?_
       refine s_q (zS (i:=k) rfl (ird (A:=sn73.vA)) (zR (by first|assumption|omega|(simp_all;done)|(simp_all;omega))) rfl) rfl ?_
       refine g_op (zK rfl fun b11=>?_)
       refine rn [33] ?_
       refine zF (b:=b11) (V.c vk) (by rw[hvk]) ?_
       refine rn [0,1,4,5,44] ?_
       refine yC 82 (b:=false) rfl (decide_eq_false n3) ?_
       refine rn [2,22,4,22,5,22,44] ?_
       refine yC 86 (b:=false) rfl (decide_eq_false n4) ?_
       refine rn [42,2,22,4,22,5,22,44] ?_
       refine yC 91 (b:=false) rfl (decide_eq_false n5) ?_
       refine rn [42,0,20,12,15,7,10,43,2,9] ?_
       exact g_ag (k+1) (by(try dsimp only);exact(by first|exact lt_k|omega))
      ·have eq_k:k=y.l.length:=by have h9:=of_decide_eq_false h6;omega
       refine rn [16] ?_
       refine zD (zD (zN ?_))
       refine rn [7,1,4,5] ?_
       refine g_op (zG _ rfl (fun w1 hw1 ho1=>by have h7:=sW p20 a70 y w1 ho1 hiy r70;exact h7) rfl ?_)
       rintro sn96 _
       refine ii ?_
       refine g_op (zK rfl fun b12=>?_)
       refine rn [33] ?_
       refine zF (b:=b12) [Value.int .i64 (((y).blk:Nat):Int),.int .i64 (y).ep,.slice sn96.vA (y).l.length sn96.vc,.int .u64 (y).dep,.int .u64 (y).paid,.int .u64 (y).burn,.int .u64 (actS (y).l),.slice sn96.pA (y).pend.length sn96.pc,.slice sn96.fA (y).q.f.length sn96.fc,.slice sn96.oA (y).q.v.length sn96.oc,.slice sn96.mA (y).mg.length sn96.mc,.slice sn96.rA (y).pt.length sn96.rc,.int .i64 (((y).cur:Nat):Int),.int .u64 (y).m.bal,.int .i64 (((y).bo.length:Nat):Int)] (by rfl) ?_
       refine rn [0,1] ?_
       refine g_op (zI rfl (fun w1 hw1=>vU w1) rfl ?_)
       refine yC 97 (b:=true) rfl (rfl) ?_
       refine rn [2,22,4,22,5,22,47,22,44] ?_
       refine yC 102 (b:=true) rfl (by rw[d5];rfl) ?_
       refine rn [41,2,22,4,22,5,22,47,22,44] ?_
       refine yC 108 (b:=true) rfl (by rw[d6];rfl) ?_
       refine rn [41,2,22,4,22,5,22,44] ?_
       refine yC 113 (b:=true) rfl (by rw[d3];rfl) ?_
       refine rn [41,2,22,4,22,5,22,44] ?_
       refine yC 118 (b:=true) rfl (by rw[d2];rfl) ?_
       refine rn [41,3,0,11] ?_
       exact fin1 rfl (.tmp rfl) (fun w' hw' => ⟨by rfl,hw'.upd⟩) _ (.inl rfl)
theorem main_topDrains (v0:Value) (v1:Value) (W:World) (a0:Arg Tryz.prog W 24 v0) (a1:Arg Tryz.prog W 25 v1):Pur Tryz.prog 7 [v0,v1] W (.bool true):=by
 obtain⟨cs,rfl,f,h⟩:=Arg.agg Tryz.underlying24 a0
 obtain⟨c,rfl,k_c⟩:=openC f cs h
 obtain⟨A_l,c_l,l,rfl,hle1,hm1,o_l,k_l⟩:=Arg.slice Op.c (fun x:Op=>x.ok) Tryz.underlying25 (show Tryz.prog.cellsOf 35=4 by kernel_rfl) (by omega) (openOp) a1
 have h_l:l.length≤c_l∧c_l≤9223372036854775807:=⟨hle1,by unfold maxLen at hm1;omega⟩
 exact law_topDrains c A_l c_l l W k_c o_l h_l k_l
namespace LawTopDrains
open Go.ChangeShapes Go.WideShapes Go.ChangeAt Go.RowKit Go.Eg
set_option linter.unusedVariables false
theorem own:ownKnob Tryz.prog.godebug=none:=by kernel_rfl
theorem laidOut:laidOutB Tryz.prog=true:=by kernel_rfl
set_option maxRecDepth 100000 in
theorem lifted (os:Os) (started:os.Started) (H:Type) (enc:TypeId × Value→H) :
  ReturnsInHanded {} Tryz.checked os 7 .any (Rows.topDrainsSpec.pre6 enc Tryz.prog Tryz.f7 Rows.topDrainsRow.domain false) (Rows.topDrainsSpec.post enc Tryz.prog Tryz.f7 false true false false):=by
 refine returnsInHanded_of_change (C:=Tryz.checked) own started (by kernel_rfl) Tryz.func7
  (ChangeSpec.witness6 (enc:=enc) (C:=Tryz.checked) false ⟨#[],#[.agg #[.int .i64 0,.int .i64 0,.int .u64 0,.int .u64 0,.int .u64 0,.int .u64 0,.int .u64 0,.int .u64 0,.int .u64 0,.int .u64 0,.int .i64 0,.int .i64 0,.int .i64 0,.int .i64 0,.int .i64 0,.int .i64 0,.int .i64 0,.int .i64 0,.int .u64 0,.int .u64 0],.slice none 0 0],[]⟩ 8 (by kernel_rfl) (by kernel_rfl) (by kernel_rfl) (by kernel_rfl)) ?_
 intro W base args ds gs before hval0 hW hcnd _
 have hval:∀(j:Nat) t v,Tryz.f7.params[j]?=some t→args[j]?=some v→Value.okWide Tryz.prog W .any base t v:=hval0
 have hW' := hW
 obtain⟨p,q,hA0,hV,rfl,hfz,hnd⟩:=hW
 have hA:DataW.TrodAll enc Tryz.prog W 0 (fun _=>true) true Tryz.f7.params.toList args.toList ds p:=hA0
 rw[Tryz.params7] at hA hval
 obtain⟨v0,vs0,d0,ds0,p0,q0,hargs,rfl,rfl,h0,r0⟩:=trodAll_cons hA
 obtain⟨v1,vs1,d1,ds1,p1,q1,rfl,rfl,rfl,h1,r1⟩:=trodAll_cons r0
 obtain⟨rfl,rfl,rfl⟩:=trodAll_nil r1
 obtain rfl:args = #[v0,v1]:=by cases args;simp_all
 obtain⟨rfl,rfl⟩:=trodVars_none hV
 have a0:=Arg.of h0 (hval 0 24 v0 rfl rfl)
 have lt0:∀x∈p0,x.block<W.heap.size:=by obtain⟨m,hm⟩:=h0;exact DataW.trod_lt m _ _ _ hm
 have a1:=Arg.of h1 (hval 1 25 v1 rfl rfl)
 have lt1:∀x∈p1,x.block<W.heap.size:=by obtain⟨m,hm⟩:=h1;exact DataW.trod_lt m _ _ _ hm
 clear hA0 hval0
 simp only[List.append_nil] at hW'
 refine Calls.mono (main_topDrains v0 v1 W a0 a1) ?_
 rintro e W' ⟨v,rfl,rfl,hu⟩
 have bel:=hu.below
 have targ:=(trodAll_cons_mk (Below.trod laidOut (by kernel_rfl) (of_decide_eq_true (by kernel_rfl)) h0 bel lt0) (trodAll_cons_mk (Below.trod laidOut (by kernel_rfl) (of_decide_eq_true (by kernel_rfl)) h1 bel lt1) trodAll_mk0))
 simp only[List.append_nil] at targ
 exact⟨_,rfl,_,_,_,[],_,[],hW',trodAll_mk1 (shut_bool Tryz.underlying4 _),targ,rfl,bel.frame _,fun h=>by cases h⟩
theorem and_t {a b:Bool} (ha:a=true) (hb:b=true):(a && b)=true:=by rw[ha,hb];rfl
theorem jf0:(Rows.topDrainsRow.wf (OpenSpec.ofChange Rows.topDrainsSpec))=true:=by kernel_rfl
theorem jf1:(laidOutB Tryz.pinned.checked.prog)=true:=by kernel_rfl
theorem jf2:(mapsRowed Tryz.pinned.checked.prog)=true:=by kernel_rfl
theorem jf3:(Tryz.f7.params.all (Tryz.pinned.checked.prog.readableRec ·))=true:=by kernel_rfl
theorem jf4:(namedTie Tryz.pinned.checked.prog Rows.topDrainsRow.named Rows.topDrainsSpec.vars)=true:=by kernel_rfl
theorem jf5:((Rows.topDrainsRow.stops == []))=true:=by kernel_rfl
theorem jf6:((Tryz.pinned.checked.prog.stops == []))=true:=by kernel_rfl
theorem jf7:((Rows.topDrainsRow.knobs == []))=true:=by kernel_rfl
theorem jf8:((Tryz.pinned.checked.prog.stopKnobs == []))=true:=by kernel_rfl
theorem jf9:((Rows.topDrainsRow.inPlace == Tryz.pinned.checked.prog.inPlace 7))=true:=by kernel_rfl
theorem jf10:((Rows.topDrainsRow.unfollowed == Tryz.pinned.checked.prog.unfollowed 7))=true:=by kernel_rfl
theorem jf11:((Rows.topDrainsRow.recurses == Tryz.pinned.checked.prog.recurses 7))=true:=by kernel_rfl
theorem jf12:((Rows.topDrainsRow.named == Tryz.pinned.checked.prog.varsNamed 7))=true:=by kernel_rfl
theorem jf13:((Rows.topDrainsRow.maps == (Tryz.f7.params.toList++Rows.topDrainsSpec.plain.varTypes Tryz.pinned.checked.prog).any (Tryz.pinned.checked.prog.mapsRec ·)))=true:=by kernel_rfl
theorem jf14:((Rows.topDrainsRow.ifaces == (Tryz.f7.params.toList++Rows.topDrainsSpec.plain.varTypes Tryz.pinned.checked.prog).any (Tryz.pinned.checked.prog.ifacesRec ·)))=true:=by kernel_rfl
theorem jf15:((Rows.topDrainsRow.mapsOut == Tryz.pinned.checked.prog.mapsAmong Tryz.f7.resultTypes.toList))=true:=by kernel_rfl
theorem jf16:((Rows.topDrainsRow.loops == (Tryz.f7.params.toList++Rows.topDrainsSpec.plain.varTypes Tryz.pinned.checked.prog).any (Tryz.pinned.checked.prog.loopsFrom ·)))=true:=by kernel_rfl
theorem jf17:((Rows.topDrainsRow.wideKeys == (Tryz.f7.params.toList++Rows.topDrainsSpec.plain.varTypes Tryz.pinned.checked.prog++Tryz.f7.resultTypes.toList).any (Tryz.pinned.checked.prog.wideKeysFrom ·)))=true:=by kernel_rfl
theorem jf18:(Rows.topDrainsSpec.vars.all (Tryz.pinned.checked.prog.varReadable ·))=true:=by kernel_rfl
theorem jf19:(Tryz.f7.resultTypes.all (fun t=>Tryz.pinned.checked.prog.readableRec t && decide (t<Tryz.pinned.checked.prog.types.size)))=true:=by kernel_rfl
theorem jf20:((Rows.topDrainsRow.ifacesOut == Tryz.f7.resultTypes.toList.any (Tryz.pinned.checked.prog.ifacesRec ·)))=true:=by kernel_rfl
theorem jf21:((Rows.topDrainsRow.loopsOut == Tryz.f7.resultTypes.toList.any (Tryz.pinned.checked.prog.loopsFrom ·)))=true:=by kernel_rfl
theorem jf22:((Rows.topDrainsRow.plainKeys == Tryz.pinned.checked.prog.plainKeys))=true:=by kernel_rfl
theorem jf23:(Rows.topDrainsRow.shortTexts.isNone)=true:=by kernel_rfl
theorem jf24:(Tryz.pinned.checked.prog.stopsHeard)=true:=by kernel_rfl
theorem jf25:(Tryz.pinned.checked.prog.mayEnter)=true:=by kernel_rfl
theorem jf26:((Rows.topDrainsRow.lifted == Tryz.pinned.checked.prog.liftsFinal))=true:=by kernel_rfl
theorem jf27:((Tryz.pinned.checked.prog.make == some Rows.topDrainsRow.make))=true:=by kernel_rfl
theorem jf28:((Rows.topDrainsRow.kinds == (if Rows.topDrainsRow.domain.isEmpty then [] else Tryz.f7.params.toList.map fun t=>match Tryz.pinned.checked.prog.underlying t with|some (.int k)=>some k|_=>none)))=true:=by kernel_rfl
theorem jf29:((Rows.topDrainsRow.pinned == Rows.topDrainsRow.pinnedBy))=true:=by kernel_rfl
theorem jf30:((Rows.topDrainsRow.veiled == (Tryz.f7.params.toList++Rows.topDrainsSpec.plain.varTypes Tryz.pinned.checked.prog++Tryz.f7.resultTypes.toList).any (Tryz.pinned.checked.prog.veiledRec ·)))=true:=by kernel_rfl
theorem jf31:(Rows.topDrainsRow.veiledFits Tryz.pinned.checked.prog Tryz.f7.params.toList (Tryz.f7.params.toList++Rows.topDrainsSpec.plain.varTypes Tryz.pinned.checked.prog++Tryz.f7.resultTypes.toList))=true:=by kernel_rfl
theorem closed:joinedFacts Tryz.pinned.checked.prog 7 Tryz.f7 Rows.topDrainsSpec Rows.topDrainsRow=true:=and_t (and_t (and_t (and_t (and_t (and_t (and_t (and_t (and_t (and_t (and_t (and_t (and_t (and_t (and_t (and_t (and_t (and_t (and_t (and_t (and_t (and_t (and_t (and_t (and_t (and_t (and_t (and_t (and_t (and_t (and_t (jf0) jf1) jf2) jf3) jf4) jf5) jf6) jf7) jf8) jf9) jf10) jf11) jf12) jf13) jf14) jf15) jf16) jf17) jf18) jf19) jf20) jf21) jf22) jf23) jf24) jf25) jf26) jf27) jf28) jf29) jf30) jf31
theorem over:Rows.topDrainsRow.holds Tryz.pinned (OpenSpec.ofChange Rows.topDrainsSpec) :=
 OpenClaim.holds_of_wide 7 Tryz.f7 rfl rfl rfl rfl rfl rfl rfl ⟨rfl,rfl,rfl,rfl,rfl⟩ rfl rfl rfl rfl rfl (by kernel_rfl) Tryz.func7 closed
  (of_decide_eq_true (by kernel_rfl)) (by unfold Func.isWrapper;first|(rw[if_pos (by decide +kernel)];kernel_rfl)|(rw[if_neg (by decide +kernel)];exact⟨rfl,rfl⟩))
  (fun os started H enc _=>lifted os started H enc)
theorem proved:Rows.TopDrainsSaid:=over
end LawTopDrains
end Go.Proofs.YtdddiilocbbkkaaGreat
