/- TopDrains: for every configuration and all operations the law returns true. No condition. Part 18 of 28. -/
import Derived.Test.YtdddiilocbbkkaaGreatTD17
set_option linter.unusedVariables false
set_option linter.unusedSimpArgs false
namespace Go.Proofs.YtdddiilocbbkkaaGreat
open Go.RowKit Go.Eg
set_option maxHeartbeats 4000000
set_option synthInstance.maxSize 3000
set_option maxRecDepth 100000
theorem nodup_sub {α:Type} [DecidableEq α]:∀{l l' : List α},l.Nodup→(∀x∈l,x∈l')→l.length≤l'.length
 | [],_,_,_=>Nat.zero_le _
 | a :: l,l',hn,h=>by
  rw[List.nodup_cons] at hn
  have ha:=h a (by simp)
  have h1:=nodup_sub (l:=l) (l' := l'.erase a) hn.2 fun x hx=>by
   have hxa:x≠a:=fun hc=>hn.1 (hc ▸ hx)
   exact(List.mem_erase_of_ne hxa).2 (h x (by simp[hx]))
  rw[List.length_erase_of_mem ha] at h1
  have:=List.length_pos_of_mem ha
  simp only[List.length_cons];omega
theorem vE {is:List Int} {l:List V} (hn:is.Nodup) (h:∀i∈is,hasV l i=true):is.length≤l.length:=by
 have h1:=nodup_sub (l' := (List.range l.length).map fun k:Nat=>(k:Int)) hn fun i hi=>by
  have h9:=of_decide_eq_true (h i hi)
  refine List.mem_map.2 ⟨i.toNat,List.mem_range.2 (by omega),by omega⟩
 simpa using h1
theorem InvE.bol {ep:Int} {l:List V} {q:LL} {bo:List En} {lv:List Int} (h:InvE ep l q bo lv):bo.length≤l.length:=by
 have h1:=vE (l:=l) h.bnd fun i hi=>by
  have h9:=(h.bon i).1 hi
  refine yM (l:=l) ?_
  rcases h9 with h9|h9
  ·omega
  ·have:=h9.1;omega
 simpa using h1
theorem InvE.lvl {ep:Int} {l:List V} {q:LL} {bo:List En} {lv:List Int} (h:InvE ep l q bo lv):lv.length≤l.length :=
 vE h.vnd fun i hi=>yM (by have h9:=((h.lvs i).1 hi).1;omega)
theorem sla_bd {v:V} {e:Int} {c:C} (he:0≤e∧e≤1000000000) (hc:0≤c.sld∧c.sld≤1048576) (h0:0≤v.bal) (hm:v.bal≤18446744073709551615) (hn:0≤c.pnum) (hd:1≤c.pden):0≤(slaV v e c).2.1∧(slaV v e c).2.1≤18446744073709551615:=by
 have h1:=burn_bd (c:=c) h0 hn hd
 rw[sla_eq he hc h0 hm hn hd]
 split
 ·simp
 ·split
  ·simp
  ·simp only;omega
theorem slash_eng (eb rb cb lb bb ub mb xb b0 b1 pb gb tb:Nat) (c:C) (blk:Nat) (g:RG) (dep paid burn:Int) (bo:List En) (lv:List Int) (cur:Nat) (m:M) (q:LL) (pend:List Int) (mg:List PP) (pt:List Rq) (br:BR) (lA:Option Addr) (lc:Nat) (g0 g1 gp gg gt:Rg) (y:Op) (w:World) (hw:W0 [Res.blk eb 112 (ECell rb cb lb bb ub mb xb pb gb tb c lA (lv.length) lc),RgB rb g,RgW g,Res.im (RG.m g),CkB cb (blk) (c.elen.toNat),LgB lb (dep) (paid) (burn) (c.supc),bB_ bb br,bW_ br,bK_ br,bL_ xb b0 b1,rB_i b0 g0,rW_i g0,rB_i b1 g1,rW_i g1] w) (hi:Inv (Eg.mk c blk (RG.l g) dep paid burn bo lv cur m q pend mg pt)) (hg:g.Rep) (hcp:(g.cp:Int)=c.capa) (hbr:br.Rep bo) (h0:g0.Rep 1 (q.f.map (fun v:Int=>[Value.int .i64 v]))) (h1_:g1.Rep 1 (q.v.map (fun v:Int=>[Value.int .i64 v]))) (s0:Rg.size g0=c.qsize.toNat) (s1:Rg.size g1=c.qsize.toNat):Own2 (ι:=(RG × BR × Rg × Rg)) Tryz.prog 61 [.pointer (some ⟨eb,0,none⟩),.agg y.c.toArray] w [Res.blk eb 112 (ECell rb cb lb bb ub mb xb pb gb tb c lA (lv.length) lc),RgB rb g,RgW g,Res.im (RG.m g),CkB cb (blk) (c.elen.toNat),LgB lb (dep) (paid) (burn) (c.supc),bB_ bb br,bW_ br,bK_ br,bL_ xb b0 b1,rB_i b0 g0,rW_i g0,rB_i b1 g1,rW_i g1] (fun x=>x.1.Rep∧x.1.l=(slashE (Eg.mk c blk (RG.l g) dep paid burn bo lv cur m q pend mg pt) y.i).1.l∧x.1.cp=g.cp∧x.2.1.Rep (slashE (Eg.mk c blk (RG.l g) dep paid burn bo lv cur m q pend mg pt) y.i).1.bo∧x.2.2.1.Rep 1 ((slashE (Eg.mk c blk (RG.l g) dep paid burn bo lv cur m q pend mg pt) y.i).1.q.f.map (fun v:Int=>[Value.int .i64 v]))∧x.2.2.2.Rep 1 ((slashE (Eg.mk c blk (RG.l g) dep paid burn bo lv cur m q pend mg pt) y.i).1.q.v.map (fun v:Int=>[Value.int .i64 v]))∧x.2.2.1.size=c.qsize.toNat∧x.2.2.2.size=c.qsize.toNat) (fun x=>.agg (Rs.c (slashE (Eg.mk c blk (RG.l g) dep paid burn bo lv cur m q pend mg pt) y.i).2).toArray) (fun x=>[]) (fun x=>[Res.blk eb 112 (ECell rb cb lb bb ub mb xb pb gb tb c lA (lv.length) lc),RgB rb x.1,RgW x.1,Res.im (RG.m x.1),CkB cb (blk) (c.elen.toNat),LgB lb (dep) (paid) ((slashE (Eg.mk c blk (RG.l g) dep paid burn bo lv cur m q pend mg pt) y.i).1.burn) (c.supc),bB_ bb x.2.1,bW_ x.2.1,bK_ x.2.1,bL_ xb b0 b1,rB_i b0 x.2.2.1,rW_i x.2.2.1,rB_i b1 x.2.2.2,rW_i x.2.2.2]):=by
 refine g_st Tryz.func61 102 hw ?_
 have hok:Cok c:=hi.cok
 have hmo:Cmo c:=yU hi.cc
 have hblk:blk≤1000000000:=hi.blk
 have hk:blk<4611686018427387904:=by omega
 have hel:1≤c.elen.toNat∧c.elen.toNat≤4611686018427387904:=by have:=hok.elen;omega
 have hled:LOk c.supc dep paid burn:=hi.led
 have hqf:q.f.length≤c.qsize.toNat∧q.v.length≤c.qsize.toNat:=hi.qf
 have hsum:(bals (RG.l g)).sum=dep-paid-burn:=hi.sum
 have hvo:∀i,hasV (RG.l g) i=true→VO (gotV (RG.l g) i):=hi.vo
 have hqs:=hmo.qsize
 have hepb:0≤((blk/c.elen.toNat:Nat):Int)∧((blk/c.elen.toNat:Nat):Int)≤1000000000:=hi.epb
 have hbs:(bals (RG.l g)).sum≤18446744073709551615:=hg.mx
 have hpn:0≤c.pnum:=hi.ck.pnum.1
 have hsd:=hok.sld
 have hud:=hok.unb
 have hgl:=hg.le
 have hgc:=hg.cp
 have hbol:bo.length≤(RG.l g).length:=hi.e.bol
 refine rn [1] ?_
 refine g_op (g_box rfl rfl rfl fun b3=>?_)
 refine g_op (zK rfl fun b4=>?_)
 refine rn [0,8] ?_
 refine dreg [12] mixed rfl ?_
 refine rn [23,0,2,23,1,6,23,2,4,23,3,4,23,4,5,23,5,4,23,6,5] ?_
 refine dj [0,3,4] (fun(x:Nat)=>[(5,.pointer (some ⟨x,0,none⟩)),(6,.bool (hasV (RG.l g) y.i))]) (fun(x:Nat)=>[Res.blk x 52 (V.c (gotV (RG.l g) y.i)),Res.blk b4 128 [Value.int .i64 0,.int .i64 0,.int .i64 0],Res.blk b3 35 y.c,Res.blk eb 112 (ECell rb cb lb bb ub mb xb pb gb tb c lA (lv.length) lc),RgB rb g,RgW g,Res.im (RG.m g),CkB cb (blk) (c.elen.toNat),LgB lb (dep) (paid) (burn) (c.supc),bB_ bb br,bW_ br,bK_ br,bL_ xb b0 b1,rB_i b0 g0,rW_i g0,rB_i b1 g1,rW_i g1]) ?_ ?_
 ·refine yG [7,11] (by kernel_rfl) (by simp) zB ⟨dpick rfl (zL _ rfl (fun w1 hw1 ho1=>by exact xX rb g ((y).i) w1 ho1) rfl ?_),dpick rfl (zK rfl fun b5=>?_),trivial⟩
  ·refine rn [23,8,2,23,9,40,24,10,40] ?_
   refine dop 11 rfl (zK rfl fun b5=>?_)
   refine dop 12 rfl (zQ rfl rfl rfl rfl rfl ?_)
   refine rn [24,13,3,28] ?_
   exact g_jn b5
  ·refine dop 7 rfl (zL _ rfl (fun w1 hw1 ho1=>by exact xX rb g ((y).i) w1 ho1) rfl ?_)
   refine rn [23,8,2,23,9,40,24,10,40] ?_
   refine dop 12 rfl (zQ rfl rfl rfl rfl rfl ?_)
   refine rn [24,13,3,28] ?_
   exact g_jn b5
 ·rintro b5
  refine rn [7,8,1,2,48,0] ?_
  refine zC rfl (fun h1=>?_) (fun h1=>?_)
  ·have hb:(slashE (Eg.mk c blk (RG.l g) dep paid burn bo lv cur m q pend mg pt) y.i)=((Eg.mk c blk (RG.l g) dep paid burn bo lv cur m q pend mg pt),⟨7,0,0⟩):=by
     unfold slashE Eg.ep;dsimp only;rw[if_pos (by have h9:=h1;simpa using h9)]
   refine rn [1] ?_
   refine g_op (zI rfl (fun w1 hw1=>by exact yK (7) w1) rfl ?_)
   refine rn [33,0,11,13] ?_
   exact fin1 rfl (.cellw rfl rfl) (fun w' hw' => ⟨(g,br,g0,g1),(by(rw[hb];exact⟨hg,rfl,rfl,hbr,h0,h1_,s0,s1⟩)),by rw[hb];rfl,by rw[hb];exact zA w' hw'⟩) _ (.inl rfl)
  ·have n1:¬hasV (RG.l g) y.i=false:=by have h9:=h1;simpa using h9
   have hh:hasV (RG.l g) y.i=true:=by simpa using n1
   have hv0:=hvo y.i hh
   have hbl:=uU hvo hh
   have hbd:=sla_bd (v:=(gotV (RG.l g) y.i)) (e:=((blk/c.elen.toNat:Nat):Int)) (c:=c) hepb (by omega) hv0.b (by omega) hpn hmo.pden.1
   refine rn [12,7,8] ?_
   refine dreg [16] mixed rfl ?_
   refine rn [23,0,45,23,1,2,23,2,6,23,3,4,23,4,5,23,6,2,23,7,6,23,8,4] ?_
   refine dq 9 rfl (yQ (c' := C.c c) rfl rfl rfl) ?_
   refine dj [0,3,4,5] (fun(x:Nat)=>[(7,.pointer (some ⟨x,0,none⟩)),(8,.int .u64 (slaV (gotV (RG.l g) y.i) ((blk/c.elen.toNat:Nat):Int) c).2.1),(9,.int .i64 (slaV (gotV (RG.l g) y.i) ((blk/c.elen.toNat:Nat):Int) c).2.2)]) (fun(x:Nat)=>[Res.blk x 52 (V.c (slaV (gotV (RG.l g) y.i) ((blk/c.elen.toNat:Nat):Int) c).1),Res.blk b5 52 (V.c (gotV (RG.l g) y.i)),Res.blk b4 128 [Value.int .i64 0,.int .i64 0,.int .i64 0],Res.blk b3 35 y.c,Res.blk eb 112 (ECell rb cb lb bb ub mb xb pb gb tb c lA (lv.length) lc),RgB rb g,RgW g,Res.im (RG.m g),CkB cb (blk) (c.elen.toNat),LgB lb (dep) (paid) (burn) (c.supc),bB_ bb br,bW_ br,bK_ br,bL_ xb b0 b1,rB_i b0 g0,rW_i g0,rB_i b1 g1,rW_i g1]) ?_ ?_
   ·refine yG [5,15] (by kernel_rfl) (by simp) zB ⟨dpick rfl (zL _ rfl (fun w1 hw1 ho1=>by exact zY cb blk c.elen.toNat w1 ho1 (by omega) hel) rfl ?_),dpick rfl (zK rfl fun b7=>?_),trivial⟩
    ·refine yG [10,15] (by kernel_rfl) (by simp) zB ⟨dpick rfl (zI rfl (fun w1 hw1=>rM ((gotV (RG.l g) (y).i)) ((((blk/c.elen.toNat):Nat):Int)) (c) w1 ⟨by omega,by omega⟩ ⟨by omega,by omega⟩ (hv0.i64 (by omega)) hpn hmo.pden hmo.pnum) rfl ?_),dpick rfl (zK rfl fun b7=>?_),trivial⟩
     ·refine rn [23,11,2,23,12,40,24,13,40,24,14,40] ?_
      refine dop 15 rfl (zK rfl fun b7=>?_)
      refine dop 16 rfl (zQ rfl rfl rfl rfl rfl ?_)
      refine rn [24,17,3,24,18,3,28] ?_
      exact g_jn b7
     ·refine dop 10 rfl (zI rfl (fun w1 hw1=>rM ((gotV (RG.l g) (y).i)) ((((blk/c.elen.toNat):Nat):Int)) (c) w1 ⟨by omega,by omega⟩ ⟨by omega,by omega⟩ (hv0.i64 (by omega)) hpn hmo.pden hmo.pnum) rfl ?_)
      refine rn [23,11,2,23,12,40,24,13,40,24,14,40] ?_
      refine dop 16 rfl (zQ rfl rfl rfl rfl rfl ?_)
      refine rn [24,17,3,24,18,3,28] ?_
      exact g_jn b7
    ·refine dop 5 rfl (zL _ rfl (fun w1 hw1 ho1=>by exact zY cb blk c.elen.toNat w1 ho1 (by omega) hel) rfl ?_)
     refine dop 10 rfl (zI rfl (fun w1 hw1=>rM ((gotV (RG.l g) (y).i)) ((((blk/c.elen.toNat):Nat):Int)) (c) w1 ⟨by omega,by omega⟩ ⟨by omega,by omega⟩ (hv0.i64 (by omega)) hpn hmo.pden hmo.pnum) rfl ?_)
     refine rn [23,11,2,23,12,40,24,13,40,24,14,40] ?_
     refine dop 16 rfl (zQ rfl rfl rfl rfl rfl ?_)
     refine rn [24,17,3,24,18,3,28] ?_
     exact g_jn b7
   ·rintro b7
    refine rn [7,8,1,2,44,2] ?_
    refine zU 41 rfl (fun h2=>?_) (fun h2=>?_)
    ·have n2:(slaV (gotV (RG.l g) y.i) ((blk/c.elen.toNat:Nat):Int) c).2.2=9:=by have h9:=h2;simpa using h9
     have hb:(slashE (Eg.mk c blk (RG.l g) dep paid burn bo lv cur m q pend mg pt) y.i)=((Eg.mk c blk (RG.l g) dep paid burn bo lv cur m q pend mg pt),⟨(slaV (gotV (RG.l g) y.i) ((blk/c.elen.toNat:Nat):Int) c).2.2,0,0⟩):=by
       unfold slashE Eg.ep;dsimp only;rw[if_neg n1,if_pos (.inl n2)]
     refine rn [21,21,41,0,19,1,2] ?_
     refine g_op (zI rfl (fun w1 hw1=>by exact yK ((slaV (gotV (RG.l g) (y).i) (((blk/c.elen.toNat):Nat):Int) c).2.2) w1) rfl ?_)
     refine rn [33,0,11,13] ?_
     exact fin1 rfl (.cellw rfl rfl) (fun w' hw' => ⟨(g,br,g0,g1),(by(rw[hb];exact⟨hg,rfl,rfl,hbr,h0,h1_,s0,s1⟩)),by rw[hb];rfl,by rw[hb];exact zA w' hw'⟩) _ (.inl rfl)
    ·have n2:¬(slaV (gotV (RG.l g) y.i) ((blk/c.elen.toNat:Nat):Int) c).2.2=9:=by have h9:=h2;simpa using h9
     refine rn [22,2,22,44,42,0] ?_
     refine zC rfl (fun h3=>?_) (fun h3=>?_)
     ·have n3:(slaV (gotV (RG.l g) y.i) ((blk/c.elen.toNat:Nat):Int) c).2.2=8:=by have h9:=h3;simpa using h9
      have hb:(slashE (Eg.mk c blk (RG.l g) dep paid burn bo lv cur m q pend mg pt) y.i)=((Eg.mk c blk (RG.l g) dep paid burn bo lv cur m q pend mg pt),⟨(slaV (gotV (RG.l g) y.i) ((blk/c.elen.toNat:Nat):Int) c).2.2,0,0⟩):=by
        unfold slashE Eg.ep;dsimp only;rw[if_neg n1,if_pos (.inr n3)]
      refine rn [1,2] ?_
      refine g_op (zI rfl (fun w1 hw1=>by exact yK ((slaV (gotV (RG.l g) (y).i) (((blk/c.elen.toNat):Nat):Int) c).2.2) w1) rfl ?_)
      refine rn [33,0,11,13] ?_
      exact fin1 rfl (.cellw rfl rfl) (fun w' hw' => ⟨(g,br,g0,g1),(by(rw[hb];exact⟨hg,rfl,rfl,hbr,h0,h1_,s0,s1⟩)),by rw[hb];rfl,by rw[hb];exact zA w' hw'⟩) _ (.inl rfl)
     ·have n3:¬(slaV (gotV (RG.l g) y.i) ((blk/c.elen.toNat:Nat):Int) c).2.2=8:=by have h9:=h3;simpa using h9
      have n4:¬((slaV (gotV (RG.l g) y.i) ((blk/c.elen.toNat:Nat):Int) c).2.2=9∨(slaV (gotV (RG.l g) y.i) ((blk/c.elen.toNat:Nat):Int) c).2.2=8):=by omega
      refine rn [12,7,8,1,4,5,44,2] ?_
      refine zU 50 rfl (fun h4=>?_) (fun h4=>?_)
      ·have c2:(gotV (RG.l g) y.i).st=2:=by have h9:=h4;simpa using h9
       refine rn [22,2,22,6,22,4,22,5] ?_
       refine g_gt rfl rfl (zL _ rfl (fun w1 hw1 ho1=>by exact lfree_any xb b0 b1 g0 g1 q c.qsize.toNat (0) w1 ho1 h0 h1_ s0 s1 (by omega)) rfl ?_)
       refine rn [22,44,41,0] ?_
       refine zC rfl (fun h5=>?_) (fun h5=>?_)
       ·have hb:(slashE (Eg.mk c blk (RG.l g) dep paid burn bo lv cur m q pend mg pt) y.i)=((Eg.mk c blk (RG.l g) dep paid burn bo lv cur m q pend mg pt),⟨6,0,0⟩):=by
          unfold slashE Eg.ep;dsimp only;rw[if_neg n1,if_neg n4,if_pos ⟨c2,by have h9:=h5;simpa using h9⟩]
        refine rn [1] ?_
        refine g_op (zI rfl (fun w1 hw1=>by exact yK (6) w1) rfl ?_)
        refine rn [33,0,11,13] ?_
        exact fin1 rfl (.cellw rfl rfl) (fun w' hw' => ⟨(g,br,g0,g1),(by(rw[hb];exact⟨hg,rfl,rfl,hbr,h0,h1_,s0,s1⟩)),by rw[hb];rfl,by rw[hb];exact zA w' hw'⟩) _ (.inl rfl)
       ·have n5:¬((gotV (RG.l g) y.i).st=2∧freeL c.qsize.toNat 0 q=0):=fun h=>by have h9:=h5;simp at h9;omega
        refine rn [12,7,8,1,2,51,0] ?_
        refine zC rfl (fun h6=>?_) (fun h6=>?_)
        ·have n6:(slaV (gotV (RG.l g) y.i) ((blk/c.elen.toNat:Nat):Int) c).2.2≠0:=by have h9:=h6;simpa using h9
         have hb:(slashE (Eg.mk c blk (RG.l g) dep paid burn bo lv cur m q pend mg pt) y.i)=((Eg.mk c blk (RG.l g) dep paid burn bo lv cur m q pend mg pt),⟨(slaV (gotV (RG.l g) y.i) ((blk/c.elen.toNat:Nat):Int) c).2.2,0,0⟩):=by
           unfold slashE Eg.ep;dsimp only;rw[if_neg n1,if_neg n4,if_neg n5,if_pos n6]
         refine rn [1,2] ?_
         refine g_op (zI rfl (fun w1 hw1=>by exact yK ((slaV (gotV (RG.l g) (y).i) (((blk/c.elen.toNat):Nat):Int) c).2.2) w1) rfl ?_)
         refine rn [33,0,11,13] ?_
         exact fin1 rfl (.cellw rfl rfl) (fun w' hw' => ⟨(g,br,g0,g1),(by(rw[hb];exact⟨hg,rfl,rfl,hbr,h0,h1_,s0,s1⟩)),by rw[hb];rfl,by rw[hb];exact zA w' hw'⟩) _ (.inl rfl)
        ·have n6:(slaV (gotV (RG.l g) y.i) ((blk/c.elen.toNat:Nat):Int) c).2.2=0:=by have h9:=h6;simpa using h9
         have hb:(slashE (Eg.mk c blk (RG.l g) dep paid burn bo lv cur m q pend mg pt) y.i)=((Eg.mk c blk ((RG.l g).set y.i.toNat (slaV (gotV (RG.l g) y.i) ((blk/c.elen.toNat:Nat):Int) c).1) dep paid (if bookC dep paid burn (slaV (gotV (RG.l g) y.i) ((blk/c.elen.toNat:Nat):Int) c).2.1=0 then burn+(slaV (gotV (RG.l g) y.i) ((blk/c.elen.toNat:Nat):Int) c).2.1 else burn) (if(gotV (RG.l g) y.i).st=5 then putE bo (slaV (gotV (RG.l g) y.i) ((blk/c.elen.toNat:Nat):Int) c).1.wd y.i else bo) lv cur m (if(gotV (RG.l g) y.i).st=2 then pushL c.qsize.toNat 0 y.i q else q) pend mg pt),⟨0,y.i,-1⟩):=by
           unfold slashE Eg.ep;dsimp only;rw[if_neg n1,if_neg n4,if_neg n5,if_neg (fun h=>h n6)]
         have hiN:Inv (Eg.mk c blk ((RG.l g).set y.i.toNat (slaV (gotV (RG.l g) y.i) ((blk/c.elen.toNat:Nat):Int) c).1) dep paid (if bookC dep paid burn (slaV (gotV (RG.l g) y.i) ((blk/c.elen.toNat:Nat):Int) c).2.1=0 then burn+(slaV (gotV (RG.l g) y.i) ((blk/c.elen.toNat:Nat):Int) c).2.1 else burn) (if(gotV (RG.l g) y.i).st=5 then putE bo (slaV (gotV (RG.l g) y.i) ((blk/c.elen.toNat:Nat):Int) c).1.wd y.i else bo) lv cur m (if(gotV (RG.l g) y.i).st=2 then pushL c.qsize.toNat 0 y.i q else q) pend mg pt):=by have h9:=sI hi (i:=y.i);rw[hb] at h9;exact h9
         have hchg:=rY (v:=(slaV (gotV (RG.l g) y.i) ((blk/c.elen.toNat:Nat):Int) c).1) hiN.vo (by have h9:=hiN.sum;have h8:=hiN.led;obtain⟨e1,e2,e3,e4,e5,e6⟩:=h8;simp only at h9 e1 e2 e3 e4;omega) hh
         refine rn [12,7,8] ?_
         refine dregL (L0:=[Res.blk eb 112 (ECell rb cb lb bb ub mb xb pb gb tb c lA (lv.length) lc),Res.blk b3 35 y.c,Res.blk b7 52 (V.c (slaV (gotV (RG.l g) y.i) ((blk/c.elen.toNat:Nat):Int) c).1)]) [] mixed rfl zB ?_
         refine rn [23,0,2,23,1,6,23,2,4] ?_
         refine dq 3 rfl (yQ (c' := [Value.pointer (some ⟨rb,0,none⟩)]) rfl rfl rfl) ?_
         refine rn [23,4,4,23,5,5,23,6,45] ?_
         refine dop 7 rfl (zG _ rfl (fun w1 hw1 ho1=>by have h7:=xD rb g ((y).i) ((slaV (gotV (RG.l g) (y).i) (((blk/c.elen.toNat):Nat):Int) c).1) w1 ho1 hg hchg.1 hchg.2;exact h7) rfl ?_)
         rintro g70 ⟨r70,l70,c70⟩
         refine ii ?_
         refine rn [27,7,1,2,6,4,5,2] ?_
         refine g_op (zG _ rfl (fun w1 hw1 ho1=>by have h7:=lburn_any lb dep paid burn c.supc ((slaV (gotV (RG.l g) (y).i) (((blk/c.elen.toNat):Nat):Int) c).2.1) w1 ho1 hled hbd;exact h7) rfl ?_)
         rintro⟨⟩ _
         refine ii ?_
         refine rn [0,8,1,4,5,0,14,1,44,3,0] ?_
         refine zC rfl (fun h7=>?_) (fun h7=>?_)
         ·have d2:(gotV (RG.l g) y.i).st=2:=by have h9:=h7;simpa using h9
          rw[if_pos d2,if_neg (show¬(gotV (RG.l g) y.i).st=5 by omega)] at hb
          refine dregL (L0:=[Res.blk eb 112 (ECell rb cb lb bb ub mb xb pb gb tb c lA (lv.length) lc),Res.blk b3 35 y.c,Res.blk b7 52 (V.c (slaV (gotV (RG.l g) y.i) ((blk/c.elen.toNat:Nat):Int) c).1)]) [] mixed rfl zB ?_
          refine rn [23,0,2,23,1,6,23,2,4,23,3,5,23,4,4,23,5,5] ?_
          refine dop 6 rfl (zG _ rfl (fun w1 hw1 ho1=>by have h7:=rS xb b0 b1 g0 g1 q c.qsize.toNat (0) ((y).i) w1 ho1 h0 h1_ s0 s1 (by omega);exact h7) rfl ?_)
          rintro⟨g87,gg87⟩ ⟨r87,rr87,s87,ss87⟩
          refine ii ?_
          simp only at r87 rr87 s87 ss87
          refine rn [27,15,7,1,4,5] ?_
          refine g_op (zI rfl (fun w1 hw1=>by exact xM ((y).i) ((-1)) w1) rfl ?_)
          refine rn [33,0,11] ?_
          exact fin1 rfl (.cellw rfl rfl) (fun w' hw' => ⟨(g70,br,g87,gg87),(by(rw[hb];exact⟨r70,by rw[l70,xI hh],c70,hbr,r87,rr87,s87,ss87⟩)),by rw[hb];rfl,by rw[hb];exact zA w' hw'⟩) _ (.inl rfl)
         ·have d2:¬(gotV (RG.l g) y.i).st=2:=by have h9:=h7;simpa using h9
          rw[if_neg d2] at hb
          refine rn [1,44,3,0] ?_
          refine zC rfl (fun h8=>?_) (fun h8=>?_)
          ·have d5:(gotV (RG.l g) y.i).st=5:=by have h9:=h8;simpa using h9
           rw[if_pos d5] at hb
           refine dregL (L0:=[Res.blk eb 112 (ECell rb cb lb bb ub mb xb pb gb tb c lA (lv.length) lc),Res.blk b3 35 y.c,Res.blk b7 52 (V.c (slaV (gotV (RG.l g) y.i) ((blk/c.elen.toNat:Nat):Int) c).1)]) [] mixed rfl zB ?_
           refine rn [23,0,2,23,1,6,23,2,4,23,3,5,23,4,4,23,5,5,23,6,4,23,7,5] ?_
           refine dop 8 rfl (zG _ rfl (fun w1 hw1 ho1=>by have h7:=tM bb br bo (((slaV (gotV (RG.l g) (y).i) (((blk/c.elen.toNat):Nat):Int) c).1).wd) ((y).i) w1 ho1 hbr (by first|omega|(simp;omega));exact h7) rfl ?_)
           rintro g98 ⟨r98,s98⟩
           refine ii ?_
           refine rn [27,15,7,1,4,5] ?_
           refine g_op (zI rfl (fun w1 hw1=>by exact xM ((y).i) ((-1)) w1) rfl ?_)
           refine rn [33,0,11] ?_
           exact fin1 rfl (.cellw rfl rfl) (fun w' hw' => ⟨(g70,g98,g0,g1),(by(rw[hb];exact⟨r70,by rw[l70,xI hh],c70,r98,h0,h1_,s0,s1⟩)),by rw[hb];rfl,by rw[hb];exact zA w' hw'⟩) _ (.inl rfl)
          ·have d5:¬(gotV (RG.l g) y.i).st=5:=by have h9:=h8;simpa using h9
           rw[if_neg d5] at hb
           refine rn [12,15,7,1,4,5] ?_
           refine g_op (zI rfl (fun w1 hw1=>by exact xM ((y).i) ((-1)) w1) rfl ?_)
           refine rn [33,0,11] ?_
           exact fin1 rfl (.cellw rfl rfl) (fun w' hw' => ⟨(g70,br,g0,g1),(by(rw[hb];exact⟨r70,by rw[l70,xI hh],c70,hbr,h0,h1_,s0,s1⟩)),by rw[hb];rfl,by rw[hb];exact zA w' hw'⟩) _ (.inl rfl)
      ·have c2:¬(gotV (RG.l g) y.i).st=2:=by have h9:=h4;simpa using h9
       have n5:¬((gotV (RG.l g) y.i).st=2∧freeL c.qsize.toNat 0 q=0):=fun h=>c2 h.1
       refine rn [21,21,21,21,21,21,42,0,20,12,7,8,1,2,51,0] ?_
       refine zC rfl (fun h9=>?_) (fun h9=>?_)
       ·have n6:(slaV (gotV (RG.l g) y.i) ((blk/c.elen.toNat:Nat):Int) c).2.2≠0:=by have h9:=h9;simpa using h9
        have hb:(slashE (Eg.mk c blk (RG.l g) dep paid burn bo lv cur m q pend mg pt) y.i)=((Eg.mk c blk (RG.l g) dep paid burn bo lv cur m q pend mg pt),⟨(slaV (gotV (RG.l g) y.i) ((blk/c.elen.toNat:Nat):Int) c).2.2,0,0⟩):=by
          unfold slashE Eg.ep;dsimp only;rw[if_neg n1,if_neg n4,if_neg n5,if_pos n6]
        refine rn [1,2] ?_
        refine g_op (zI rfl (fun w1 hw1=>by exact yK ((slaV (gotV (RG.l g) (y).i) (((blk/c.elen.toNat):Nat):Int) c).2.2) w1) rfl ?_)
        refine rn [33,0,11,13] ?_
        exact fin1 rfl (.cellw rfl rfl) (fun w' hw' => ⟨(g,br,g0,g1),(by(rw[hb];exact⟨hg,rfl,rfl,hbr,h0,h1_,s0,s1⟩)),by rw[hb];rfl,by rw[hb];exact zA w' hw'⟩) _ (.inl rfl)
       ·have n6:(slaV (gotV (RG.l g) y.i) ((blk/c.elen.toNat:Nat):Int) c).2.2=0:=by have h9:=h9;simpa using h9
        have hb:(slashE (Eg.mk c blk (RG.l g) dep paid burn bo lv cur m q pend mg pt) y.i)=((Eg.mk c blk ((RG.l g).set y.i.toNat (slaV (gotV (RG.l g) y.i) ((blk/c.elen.toNat:Nat):Int) c).1) dep paid (if bookC dep paid burn (slaV (gotV (RG.l g) y.i) ((blk/c.elen.toNat:Nat):Int) c).2.1=0 then burn+(slaV (gotV (RG.l g) y.i) ((blk/c.elen.toNat:Nat):Int) c).2.1 else burn) (if(gotV (RG.l g) y.i).st=5 then putE bo (slaV (gotV (RG.l g) y.i) ((blk/c.elen.toNat:Nat):Int) c).1.wd y.i else bo) lv cur m (if(gotV (RG.l g) y.i).st=2 then pushL c.qsize.toNat 0 y.i q else q) pend mg pt),⟨0,y.i,-1⟩):=by
          unfold slashE Eg.ep;dsimp only;rw[if_neg n1,if_neg n4,if_neg n5,if_neg (fun h=>h n6)]
        have hiN:Inv (Eg.mk c blk ((RG.l g).set y.i.toNat (slaV (gotV (RG.l g) y.i) ((blk/c.elen.toNat:Nat):Int) c).1) dep paid (if bookC dep paid burn (slaV (gotV (RG.l g) y.i) ((blk/c.elen.toNat:Nat):Int) c).2.1=0 then burn+(slaV (gotV (RG.l g) y.i) ((blk/c.elen.toNat:Nat):Int) c).2.1 else burn) (if(gotV (RG.l g) y.i).st=5 then putE bo (slaV (gotV (RG.l g) y.i) ((blk/c.elen.toNat:Nat):Int) c).1.wd y.i else bo) lv cur m (if(gotV (RG.l g) y.i).st=2 then pushL c.qsize.toNat 0 y.i q else q) pend mg pt):=by have h9:=sI hi (i:=y.i);rw[hb] at h9;exact h9
        have hchg:=rY (v:=(slaV (gotV (RG.l g) y.i) ((blk/c.elen.toNat:Nat):Int) c).1) hiN.vo (by have h9:=hiN.sum;have h8:=hiN.led;obtain⟨e1,e2,e3,e4,e5,e6⟩:=h8;simp only at h9 e1 e2 e3 e4;omega) hh
        refine rn [12,7,8] ?_
        refine dregL (L0:=[Res.blk eb 112 (ECell rb cb lb bb ub mb xb pb gb tb c lA (lv.length) lc),Res.blk b3 35 y.c,Res.blk b7 52 (V.c (slaV (gotV (RG.l g) y.i) ((blk/c.elen.toNat:Nat):Int) c).1)]) [] mixed rfl zB ?_
        refine rn [23,0,2,23,1,6,23,2,4] ?_
        refine dq 3 rfl (yQ (c' := [Value.pointer (some ⟨rb,0,none⟩)]) rfl rfl rfl) ?_
        refine rn [23,4,4,23,5,5,23,6,45] ?_
        refine dop 7 rfl (zG _ rfl (fun w1 hw1 ho1=>by have h7:=xD rb g ((y).i) ((slaV (gotV (RG.l g) (y).i) (((blk/c.elen.toNat):Nat):Int) c).1) w1 ho1 hg hchg.1 hchg.2;exact h7) rfl ?_)
        rintro g70 ⟨r70,l70,c70⟩
        refine ii ?_
        refine rn [27,7,1,2,6,4,5,2] ?_
        refine g_op (zG _ rfl (fun w1 hw1 ho1=>by have h7:=lburn_any lb dep paid burn c.supc ((slaV (gotV (RG.l g) (y).i) (((blk/c.elen.toNat):Nat):Int) c).2.1) w1 ho1 hled hbd;exact h7) rfl ?_)
        rintro⟨⟩ _
        refine ii ?_
        refine rn [0,8,1,4,5,0,14,1,44,3,0] ?_
        refine zC rfl (fun h10=>?_) (fun h10=>?_)
        ·have d2:(gotV (RG.l g) y.i).st=2:=by have h9:=h10;simpa using h9
         rw[if_pos d2,if_neg (show¬(gotV (RG.l g) y.i).st=5 by omega)] at hb
         refine dregL (L0:=[Res.blk eb 112 (ECell rb cb lb bb ub mb xb pb gb tb c lA (lv.length) lc),Res.blk b3 35 y.c,Res.blk b7 52 (V.c (slaV (gotV (RG.l g) y.i) ((blk/c.elen.toNat:Nat):Int) c).1)]) [] mixed rfl zB ?_
         refine rn [23,0,2,23,1,6,23,2,4,23,3,5,23,4,4,23,5,5] ?_
         refine dop 6 rfl (zG _ rfl (fun w1 hw1 ho1=>by have h7:=rS xb b0 b1 g0 g1 q c.qsize.toNat (0) ((y).i) w1 ho1 h0 h1_ s0 s1 (by omega);exact h7) rfl ?_)
         rintro⟨g87,gg87⟩ ⟨r87,rr87,s87,ss87⟩
         refine ii ?_
         simp only at r87 rr87 s87 ss87
         refine rn [27,15,7,1,4,5] ?_
         refine g_op (zI rfl (fun w1 hw1=>by exact xM ((y).i) ((-1)) w1) rfl ?_)
         refine rn [33,0,11] ?_
         exact fin1 rfl (.cellw rfl rfl) (fun w' hw' => ⟨(g70,br,g87,gg87),(by(rw[hb];exact⟨r70,by rw[l70,xI hh],c70,hbr,r87,rr87,s87,ss87⟩)),by rw[hb];rfl,by rw[hb];exact zA w' hw'⟩) _ (.inl rfl)
        ·have d2:¬(gotV (RG.l g) y.i).st=2:=by have h9:=h10;simpa using h9
         rw[if_neg d2] at hb
         refine rn [1,44,3,0] ?_
         refine zC rfl (fun h11=>?_) (fun h11=>?_)
         ·have d5:(gotV (RG.l g) y.i).st=5:=by have h9:=h11;simpa using h9
          rw[if_pos d5] at hb
          refine dregL (L0:=[Res.blk eb 112 (ECell rb cb lb bb ub mb xb pb gb tb c lA (lv.length) lc),Res.blk b3 35 y.c,Res.blk b7 52 (V.c (slaV (gotV (RG.l g) y.i) ((blk/c.elen.toNat:Nat):Int) c).1)]) [] mixed rfl zB ?_
          refine rn [23,0,2,23,1,6,23,2,4,23,3,5,23,4,4,23,5,5,23,6,4,23,7,5] ?_
          refine dop 8 rfl (zG _ rfl (fun w1 hw1 ho1=>by have h7:=tM bb br bo (((slaV (gotV (RG.l g) (y).i) (((blk/c.elen.toNat):Nat):Int) c).1).wd) ((y).i) w1 ho1 hbr (by first|omega|(simp;omega));exact h7) rfl ?_)
          rintro g98 ⟨r98,s98⟩
          refine ii ?_
          refine rn [27,15,7,1,4,5] ?_
          refine g_op (zI rfl (fun w1 hw1=>by exact xM ((y).i) ((-1)) w1) rfl ?_)
          refine rn [33,0,11] ?_
          exact fin1 rfl (.cellw rfl rfl) (fun w' hw' => ⟨(g70,g98,g0,g1),(by(rw[hb];exact⟨r70,by rw[l70,xI hh],c70,r98,h0,h1_,s0,s1⟩)),by rw[hb];rfl,by rw[hb];exact zA w' hw'⟩) _ (.inl rfl)
         ·have d5:¬(gotV (RG.l g) y.i).st=5:=by have h9:=h11;simpa using h9
          rw[if_neg d5] at hb
          refine rn [12,15,7,1,4,5] ?_
          refine g_op (zI rfl (fun w1 hw1=>by exact xM ((y).i) ((-1)) w1) rfl ?_)
          refine rn [33,0,11] ?_
          exact fin1 rfl (.cellw rfl rfl) (fun w' hw' => ⟨(g70,br,g0,g1),(by(rw[hb];exact⟨r70,by rw[l70,xI hh],c70,hbr,h0,h1_,s0,s1⟩)),by rw[hb];rfl,by rw[hb];exact zA w' hw'⟩) _ (.inl rfl)
def ripK (e:Int) (s:List V × List En) (k:Nat):List V × List En:=((dueO e s.2).take k).foldl (ripS e) (s.1,keepE e s.2)
theorem ripK_end (e:Int) (s:List V × List En):ripK e s (dueO e s.2).length=ripE e s:=by unfold ripK ripE;rw[List.take_length]
theorem wJ {α β:Type} (f:β→α→β) (s:β) {l:List α} {k:Nat} (h:k<l.length):(l.take (k+1)).foldl f s=f ((l.take k).foldl f s) l[k]:=by
 rw[←List.take_append_getElem h,List.foldl_append];rfl
theorem ripK_succ {e:Int} {s:List V × List En} {k:Nat} (h:k<(dueO e s.2).length):ripK e s (k+1)=ripS e (ripK e s k) (dueO e s.2)[k]:=wJ _ _ h
def stR (l:List V):Prop:=∀v∈l,0≤v.st∧v.st≤7
theorem stR_ev {l:List V} (h:stR l) (i e:Int):stR (evV l i e):=by
 unfold evV
 split
 ·intro v hv
  rcases List.mem_or_eq_of_mem_set hv with hv|hv
  ·exact h v hv
  ·rw[hv];exact nxt_rng _ _
 ·exact h
theorem stR_rip {e:Int} {s:List V × List En} (h:stR s.1):∀k,stR (ripK e s k).1:=by
 have key:∀(is:List Int) (s:List V × List En),stR s.1→stR (is.foldl (ripS e) s).1:=fun is=>by
  induction is with
  | nil=>exact fun _ h=>h
  | cons i is ih =>
   intro s h
   refine ih _ ?_
   unfold ripS;split
   ·exact h
   ·exact stR_ev h _ _
 exact fun k=>key _ _ h
theorem ripK_len {e:Int} {s:List V × List En} (k:Nat):(ripK e s k).2.length≤s.2.length:=by
 have key:∀(is:List Int) (s:List V × List En),(is.foldl (ripS e) s).2.length≤s.2.length+is.length:=fun is=>by
  induction is with
  | nil=>exact fun _=>Nat.le_refl _
  | cons i is ih =>
   intro s
   have h1:=ih (ripS e s i)
   have h2:(ripS e s i).2.length≤s.2.length+1:=by
    unfold ripS putE;split
    ·simp only;split<;>simp
    ·simp
   simp only[List.foldl_cons,List.length_cons];omega
 have h1:=key ((dueO e s.2).take k) (s.1,keepE e s.2)
 have h2:=due_keep e s.2
 simp only[List.length_take] at h1
 unfold ripK;omega
theorem ripen_any (eb rb cb lb bb ub mb xb b0 b1 pb gb tb:Nat) (c:C) (blk:Nat) (g:RG) (dep paid burn:Int) (bo:List En) (lv:List Int) (cur:Nat) (m:M) (q:LL) (pend:List Int) (mg:List PP) (pt:List Rq) (br:BR) (lA:Option Addr) (lc:Nat) (g0 g1 gp gg gt:Rg) (e:Int) (w:World) (hw:W0 [Res.blk eb 112 (ECell rb cb lb bb ub mb xb pb gb tb c lA (lv.length) lc),RgB rb g,RgW g,Res.im (RG.m g),bB_ bb br,bW_ br,bK_ br] w) (hg:g.Rep) (hcp:(g.cp:Int)=c.capa) (hbr:br.Rep bo) (hst:stR (RG.l g)) (hbl:bo.length≤100000):Own2 (ι:=(RG × BR)) Tryz.prog 149 [.pointer (some ⟨eb,0,none⟩),.int .i64 e] w [Res.blk eb 112 (ECell rb cb lb bb ub mb xb pb gb tb c lA (lv.length) lc),RgB rb g,RgW g,Res.im (RG.m g),bB_ bb br,bW_ br,bK_ br] (fun x=>x.1.Rep∧x.1.l=(ripE e (RG.l g,bo)).1∧x.1.cp=g.cp∧x.2.Rep (ripE e (RG.l g,bo)).2) (fun x=>.tuple #[]) (fun x=>[]) (fun x=>[Res.blk eb 112 (ECell rb cb lb bb ub mb xb pb gb tb c lA (lv.length) lc),RgB rb x.1,RgW x.1,Res.im (RG.m x.1),bB_ bb x.2,bW_ x.2,bK_ x.2]):=by
 refine g_st Tryz.func149 48 hw ?_
 refine rn [1,2,6,4,5,2] ?_
 refine g_op (zG _ rfl (fun w1 hw1 ho1=>by have h7:=bdue_any bb br bo (e) w1 ho1 hbr (by first|omega|(simp;omega));exact h7) rfl ?_)
 rintro⟨A13,cap13,g13⟩ ⟨r13,s13⟩
 refine ii ?_
 simp only at r13 s13
 refine rn [47,2,0,14] ?_
 refine g_lk [0,1,13,14] (fun(x:Nat × RG × BR)=>[(15,.int .i64 ((x.1:Nat):Int))]) (fun(x:Nat × RG × BR)=>[Res.row A13 (dueO e bo).length cap13 3 1 ((dueO e bo).map (fun v:Int=>[Value.int .i64 v])),Res.blk eb 112 (ECell rb cb lb bb ub mb xb pb gb tb c lA (lv.length) lc),RgB rb x.2.1,RgW x.2.1,Res.im (RG.m x.2.1),bB_ bb x.2.2,bW_ x.2.2,bK_ x.2.2]) (fun(x:Nat × RG × BR)=>x.1≤(dueO e bo).length∧RG.Rep x.2.1∧RG.l x.2.1=(ripK e (RG.l g,bo) x.1).1∧RG.cp x.2.1=RG.cp g∧BR.Rep x.2.2 (ripK e (RG.l g,bo) x.1).2) (fun(x:Nat × RG × BR)=>(dueO e bo).length-x.1) (0,g,g13) (by(try dsimp only);exact⟨Nat.zero_le _,hg,rfl,rfl,r13⟩) ?_
 rintro⟨k,g9,br9⟩ ⟨le_k,hr9,hl9,hc9,hb9⟩
 replace le_k:k≤(dueO e bo).length:=le_k
 replace hr9:RG.Rep g9:=hr9
 replace hl9:RG.l g9=(ripK e (RG.l g,bo) k).1:=hl9
 replace hc9:RG.cp g9=RG.cp g:=hc9
 replace hb9:BR.Rep br9 (ripK e (RG.l g,bo) k).2:=hb9
 refine zV (L' := [Res.row A13 (dueO e bo).length cap13 3 1 ((dueO e bo).map (fun v:Int=>[Value.int .i64 v])),Res.blk eb 112 (ECell rb cb lb bb ub mb xb pb gb tb c lA (lv.length) lc),RgB rb g9,RgW g9,Res.im (RG.m g9),bB_ bb br9,bW_ br9,bK_ br9]) rfl ?_
 refine g_val 15 (v' := .int .i64 ((k:Nat):Int)) rfl rfl ?_
 have hst9:stR (RG.l g9):=by rw[hl9];exact stR_rip hst k
 have hln9:=ripK_len (e:=e) (s:=(RG.l g,bo)) k
 simp only at hln9
 have hdl9:=dueO_le e bo
 refine rn [1,46,0,8] ?_
 refine zC rfl (fun h1=>?_) (fun h1=>?_)
 ·have lt_k:k<(dueO e bo).length:=by have h9:=of_decide_eq_true h1;omega
  refine rn [12,7,8,14,1] ?_
  refine s_q (zP (i:=k) rfl rfl rfl (ird (A:=A13)) (by first|exact lt_k|omega)) rfl ?_
  refine s_q (yI (i:=k) (o:=0) rfl (ird (A:=A13)) (zR (by first|assumption|omega|(simp_all;done)|(simp_all;omega))) rfl rfl) rfl ?_
  refine rn [3,0,1,2,6,4,4,5,2] ?_
  refine g_op (zL _ rfl (fun w1 hw1 ho1=>by exact xX rb g9 (((dueO e bo))[k]) w1 ho1) rfl ?_)
  refine rn [2,40,40] ?_
  refine g_op (zK rfl fun b6=>?_)
  refine rn [33,3,0,1,4,5,2,55,0] ?_
  refine zC rfl (fun h2=>?_) (fun h2=>?_)
  ·have hs9:ripK e (RG.l g,bo) (k+1)=((ripK e (RG.l g,bo) k).1,putE (ripK e (RG.l g,bo) k).2 (gotV (RG.l g9) (dueO e bo)[k]).wd (dueO e bo)[k]):=by
     rw[ripK_succ lt_k];unfold ripS;rw[←hl9,if_pos (of_decide_eq_true h2)]
   refine dregL (L0:=[Res.blk eb 112 (ECell rb cb lb bb ub mb xb pb gb tb c lA (lv.length) lc),Res.blk b6 52 (V.c (gotV (RG.l g9) (dueO e bo)[k]))]) [] mixed rfl zB ?_
   refine rn [23,0,2,23,1,6,23,2,4,23,3,5,23,4,4,23,5,5,23,6,2] ?_
   refine dop 7 rfl (zG _ rfl (fun w1 hw1 ho1=>by have h7:=tM bb br9 (ripK e (RG.l g,bo) k).2 (((gotV (RG.l g9) ((dueO e bo))[k])).wd) (((dueO e bo))[k]) w1 ho1 hb9 (by first|omega|(simp;omega));exact h7) rfl ?_)
   rintro g40 ⟨r40,s40⟩
   refine ii ?_
   refine rn [27,15,7,10,43,2,9] ?_
   exact g_ag ((k+1),g9,g40) (by(try dsimp only);exact⟨(by first|exact lt_k|omega),hr9,(by rw[hs9];exact hl9),hc9,(by rw[hs9];exact r40)⟩)
  ·have hs9:ripK e (RG.l g,bo) (k+1)=(evV (ripK e (RG.l g,bo) k).1 (dueO e bo)[k] 4,(ripK e (RG.l g,bo) k).2):=by
     rw[ripK_succ lt_k];unfold ripS;rw[←hl9,if_neg (of_decide_eq_false h2)]
   refine rn [10,2,6,4] ?_
   refine s_q (yQ (c' := [Value.pointer (some ⟨rb,0,none⟩)]) rfl rfl rfl) rfl ?_
   refine rn [2] ?_
   refine g_op (zG _ rfl (fun w1 hw1 ho1=>by have h7:=rX rb g9 (((dueO e bo))[k]) 4 w1 ho1 hr9 (by decide) hst9;exact h7) rfl ?_)
   rintro g46 ⟨r46,l46,c46⟩
   refine ii ?_
   refine rn [9,15,7,10,43,2,9] ?_
   exact g_ag ((k+1),g46,br9) (by(try dsimp only);exact⟨(by first|exact lt_k|omega),r46,(by rw[hs9,l46,hl9];rfl),(by rw[c46];exact hc9),(by rw[hs9];exact hb9)⟩)
 ·have eq_k:k=(dueO e bo).length:=by have h9:=of_decide_eq_false h1;omega
  refine rn [16] ?_
  refine zD (zD (zN ?_))
  exact fin0 rfl (fun w' hw' => ⟨(g9,br9),(by(rw[←ripK_end,←eq_k];exact⟨hr9,hl9,hc9,hb9⟩)),rfl,zA w' hw'⟩) _ (.inr rfl)
def asgK (c:C) (s:List V × List En × List Int) (ag:List As) (k:Nat):List V × List En × List Int:=(ag.take k).foldl (asgS c) s
theorem asgK_end (c:C) (s:List V × List En × List Int) (ag:List As):asgK c s ag ag.length=ag.foldl (asgS c) s:=by unfold asgK;rw[List.take_length]
theorem asgK_succ {c:C} {s:List V × List En × List Int} {ag:List As} {k:Nat} (h:k<ag.length):asgK c s ag (k+1)=asgS c (asgK c s ag k) ag[k]:=wJ _ _ h
theorem ag_facts {e:Int} {l:List V} {q:LL} {bo:List En} (h:Mid e (e+1) l q bo) (W:List Int) (lim:Int) (m:M) :
  (∀a∈(stepM W e lim q m).1,a.e=e+1∧(gotV l a.i).st=3∧(gotV l a.i).ex=-1)∧((stepM W e lim q m).1.map As.i).Nodup:=by
 obtain⟨a,b,h1,h2,h3,h4,h5⟩:=wS W e lim q m
 generalize (stepM W e lim q m).1=ag at h1 ⊢
 have hI:ag.map As.i=q.f.take a++q.v.take b:=by rw[h1,List.map_append,mapI,mapI]
 obtain⟨n1,n2,n3,n4⟩:=qG a b h.lnd
 refine⟨fun x hx=>⟨?_,?_⟩,hI ▸ n1⟩
 ·rw[h1] at hx
  rcases List.mem_append.1 hx with hx|hx<;>(obtain⟨i,_,rfl⟩:=List.mem_map.1 hx;rfl)
 ·have h6:(gotV l x.i).st=3:=(h.lan x.i).1 ((n3 x.i).2 (.inl (hI ▸ List.mem_map.2 ⟨x,hx,rfl⟩)))
  exact⟨h6,h.lax x.i h6⟩
theorem ag_len (W:List Int) (e lim:Int) (q:LL) (m:M):(stepM W e lim q m).1.length≤q.f.length+q.v.length:=by
 obtain⟨a,b,h1,_⟩:=wS W e lim q m
 rw[h1];simp;omega
theorem pG {α:Type} {l:List α} (h:l.Nodup) (k:Nat):(l.take k).Nodup:=(List.take_sublist k l).nodup h
theorem VO.asV {v:V} (h:VO v) {e:Int} {c:C} (he:0≤e) (hu:1≤c.unb) (hb:e+c.unb≤1099511627776):VO (asV e c v):=by
 have:=h.w
 exact⟨h.b,h.s,h.r,by simp only[Go.Proofs.YtdddiilocbbkkaaGreat.asV];omega,by simp only[Go.Proofs.YtdddiilocbbkkaaGreat.asV];omega,h.d⟩
theorem asgK_ok {e:Int} {c:C} (he:0≤e) (hu:1≤c.unb) (hb:e+1+c.unb≤1099511627776) {l:List V} {q:LL} {bo:List En} (h:Mid e (e+1) l q bo) (hvo:∀j,hasV l j=true→VO (gotV l j)) (lv:List Int) (W:List Int) (lim:Int) (m:M)
  {ag:List As} (hag:(stepM W e lim q m).1=ag) (k:Nat) :
  (∀j,hasV (asgK c (l,bo,lv) ag k).1 j=true→VO (gotV (asgK c (l,bo,lv) ag k).1 j))∧bals (asgK c (l,bo,lv) ag k).1=bals l∧(asgK c (l,bo,lv) ag k).2.1.length≤bo.length+k∧(asgK c (l,bo,lv) ag k).2.2.length≤lv.length+k ∧
  (∀i,hasV (asgK c (l,bo,lv) ag k).1 i=hasV l i)∧(∀a∈ag,hasV l a.i=true∧a.e=e+1):=by
 obtain⟨f1,f2⟩:=ag_facts h W lim m
 rw[hag] at f1 f2
 obtain⟨g1,g2,g3,g4,g5⟩:=asg_fold (e:=e+1) (c:=c) (by omega) (by omega) hb (ag.take k) l bo lv (fun a ha=>f1 a (List.mem_of_mem_take ha)) (by rw[List.map_take];exact pG f2 k) (VO.z_wd l hvo)
 unfold asgK
 refine⟨fun j hj=>?_,g5,?_,?_,xK g1,fun a ha=>⟨yM (by have:=(f1 a ha).2.1;omega),(f1 a ha).1⟩⟩
 ·rw[xK g1] at hj
  rw[g2 j]
  split
  ·exact(hvo j hj).asV (by omega) hu hb
  ·exact hvo j hj
 ·rw[g3];simp;omega
 ·rw[g4];simp;omega
theorem assign_eng (eb rb cb lb bb ub mb xb b0 b1 pb gb tb:Nat) (c:C) (blk:Nat) (g:RG) (dep paid burn:Int) (bo:List En) (lv:List Int) (cur:Nat) (m:M) (q:LL) (pend:List Int) (mg:List PP) (pt:List Rq) (br:BR) (lA:Option Addr) (lc:Nat) (g0 g1 gp gg gt:Rg) (e lim:Int) (w:World) (hw:W0 [Res.blk eb 112 (ECell rb cb lb bb ub mb xb pb gb tb c lA (lv.length) lc),RgB rb g,RgW g,Res.im (RG.m g),bB_ bb br,bW_ br,bK_ br,Res.row lA (lv).length lc 3 1 ((lv).map (fun v:Int=>[Value.int .i64 v])),Res.blk mb 186 (M.c m),bL_ xb b0 b1,rB_i b0 g0,rW_i g0,rB_i b1 g1,rW_i g1] w) (hg:g.Rep) (hcp:(g.cp:Int)=c.capa) (hbr:br.Rep bo) (h0:g0.Rep 1 (q.f.map (fun v:Int=>[Value.int .i64 v]))) (h1_:g1.Rep 1 (q.v.map (fun v:Int=>[Value.int .i64 v]))) (s0:Rg.size g0=c.qsize.toNat) (s1:Rg.size g1=c.qsize.toNat) (hqf:q.f.length≤c.qsize.toNat∧q.v.length≤c.qsize.toNat) (hqs:1≤c.qsize∧c.qsize≤4096) (he:0≤e∧e≤1000000000) (hu:1≤c.unb∧c.unb≤1048576) (hM:Mid e (e+1) (RG.l g) q bo) (hvo:∀j,hasV (RG.l g) j=true→VO (gotV (RG.l g) j)) (hbl:bo.length≤100000) (hlv:lv.length≤100000):Own2 (ι:=(RG × BR × Option Addr × Nat × Rg × Rg × Option Addr × Nat)) Tryz.prog 151 [.pointer (some ⟨eb,0,none⟩),.int .i64 e,.int .u64 lim] w [Res.blk eb 112 (ECell rb cb lb bb ub mb xb pb gb tb c lA (lv.length) lc),RgB rb g,RgW g,Res.im (RG.m g),bB_ bb br,bW_ br,bK_ br,Res.row lA (lv).length lc 3 1 ((lv).map (fun v:Int=>[Value.int .i64 v])),Res.blk mb 186 (M.c m),bL_ xb b0 b1,rB_i b0 g0,rW_i g0,rB_i b1 g1,rW_i g1] (fun x=>x.1.Rep∧x.1.l=((stepM ((RG.l g).map V.bal) e lim q m).1.foldl (asgS c) (RG.l g,bo,lv)).1∧x.1.cp=g.cp∧x.2.1.Rep ((stepM ((RG.l g).map V.bal) e lim q m).1.foldl (asgS c) (RG.l g,bo,lv)).2.1∧x.2.2.2.2.1.Rep 1 ((stepM ((RG.l g).map V.bal) e lim q m).2.1.f.map (fun v:Int=>[Value.int .i64 v]))∧x.2.2.2.2.2.1.Rep 1 ((stepM ((RG.l g).map V.bal) e lim q m).2.1.v.map (fun v:Int=>[Value.int .i64 v]))∧x.2.2.2.2.1.size=c.qsize.toNat∧x.2.2.2.2.2.1.size=c.qsize.toNat) (fun x=>.slice x.2.2.2.2.2.2.1 (stepM ((RG.l g).map V.bal) e lim q m).1.length x.2.2.2.2.2.2.2) (fun x=>[Res.row x.2.2.2.2.2.2.1 ((stepM ((RG.l g).map V.bal) e lim q m).1).length x.2.2.2.2.2.2.2 55 3 (((stepM ((RG.l g).map V.bal) e lim q m).1).map As.cs)]) (fun x=>[Res.blk eb 112 (ECell rb cb lb bb ub mb xb pb gb tb c x.2.2.1 (((stepM ((RG.l g).map V.bal) e lim q m).1.foldl (asgS c) (RG.l g,bo,lv)).2.2.length) x.2.2.2.1),RgB rb x.1,RgW x.1,Res.im (RG.m x.1),bB_ bb x.2.1,bW_ x.2.1,bK_ x.2.1,Res.row x.2.2.1 (((stepM ((RG.l g).map V.bal) e lim q m).1.foldl (asgS c) (RG.l g,bo,lv)).2.2).length x.2.2.2.1 3 1 ((((stepM ((RG.l g).map V.bal) e lim q m).1.foldl (asgS c) (RG.l g,bo,lv)).2.2).map (fun v:Int=>[Value.int .i64 v])),Res.blk mb 186 (M.c (stepM ((RG.l g).map V.bal) e lim q m).2.2),bL_ xb b0 b1,rB_i b0 x.2.2.2.2.1,rW_i x.2.2.2.2.1,rB_i b1 x.2.2.2.2.2.1,rW_i x.2.2.2.2.2.1]):=by
 refine g_st Tryz.func151 86 hw ?_
 have hsz:c.qsize.toNat≤4096:=by omega
 refine rn [1,3,0,8] ?_
 refine dregL (L0:=[Res.blk eb 112 (ECell rb cb lb bb ub mb xb pb gb tb c lA (lv.length) lc)]) [] mixed rfl zB ?_
 refine rn [23,0,2,23,1,2,23,2,6,23,3,4,23,4,5,23,5,2,23,6,6,23,7,4,23,8,5,23,9,2,23,10,2,23,11,6,23,12,4] ?_
 refine dq 13 rfl (yQ (c' := [Value.pointer (some ⟨rb,0,none⟩)]) rfl rfl rfl) ?_
 refine dop 14 rfl (zG _ rfl (fun w1 hw1 ho1=>by have h7:=uS rb g w1 ho1 hg;exact h7) rfl ?_)
 rintro⟨A26,cap26⟩ _
 refine ii ?_
 refine dop 15 rfl (zG _ rfl (fun w1 hw1 ho1=>by have h7:=astep_any (e) (lim) xb b0 b1 mb g0 g1 q c.qsize.toNat m A26 (((RG.l g).map V.bal).length) (cap26) (((RG.l g).map V.bal)) w1 ho1 h0 h1_ s0 s1 (by omega) hqf (Rd.ofRow (A:=A26) hw1) (by omega);exact h7) rfl ?_)
 rintro⟨O27,oc27,g27,gg27⟩ ⟨r27,rr27,s27,ss27⟩
 refine ii ?_
 simp only at r27 rr27 s27 ss27
 have hq27:=stepM_len (W:=((RG.l g).map V.bal)) (e:=e) (lim:=lim) (m:=m) hqf
 generalize hst27:(stepM (((RG.l g).map V.bal)) (e) (lim) q m)=st27 at r27 rr27 hq27 ⊢
 refine rn [23,16,3,27,7,8,1,2,47,2,0,14] ?_
 refine zH (A:=lA) ((asgK c (RG.l g,bo,lv) st27.1 0).2.2.map (fun v:Int=>[Value.int .i64 v])) (by rfl) ?_
 refine yB (A:=lA) (asgK c (RG.l g,bo,lv) st27.1 0).2.2.length (by rfl) ?_
 refine zF (b:=eb) (ECell rb cb lb bb ub mb xb pb gb tb c lA ((asgK c (RG.l g,bo,lv) st27.1 0).2.2.length) lc) (by rfl) ?_
 refine g_lk [0,6,7,28,29] (fun(x:Nat × RG × BR × Option Addr × Nat)=>[(30,.int .i64 ((x.1:Nat):Int))]) (fun(x:Nat × RG × BR × Option Addr × Nat)=>[Res.row O27 (st27.1).length oc27 55 3 ((st27.1).map As.cs),Res.blk eb 112 (ECell rb cb lb bb ub mb xb pb gb tb c x.2.2.2.1 ((asgK c (RG.l g,bo,lv) st27.1 x.1).2.2.length) x.2.2.2.2),RgB rb x.2.1,RgW x.2.1,Res.im (RG.m x.2.1),bB_ bb x.2.2.1,bW_ x.2.2.1,bK_ x.2.2.1,Res.row x.2.2.2.1 ((asgK c (RG.l g,bo,lv) st27.1 x.1).2.2).length x.2.2.2.2 3 1 (((asgK c (RG.l g,bo,lv) st27.1 x.1).2.2).map (fun v:Int=>[Value.int .i64 v])),Res.blk mb 186 (M.c st27.2.2),bL_ xb b0 b1,rB_i b0 g27,rW_i g27,rB_i b1 gg27,rW_i gg27]) (fun(x:Nat × RG × BR × Option Addr × Nat)=>x.1≤st27.1.length∧RG.Rep x.2.1∧RG.l x.2.1=(asgK c (RG.l g,bo,lv) st27.1 x.1).1∧RG.cp x.2.1=RG.cp g∧BR.Rep x.2.2.1 (asgK c (RG.l g,bo,lv) st27.1 x.1).2.1) (fun(x:Nat × RG × BR × Option Addr × Nat)=>st27.1.length-x.1) (0,g,br,lA,lc) (by(try dsimp only);exact⟨Nat.zero_le _,hg,rfl,rfl,hbr⟩) ?_
 rintro⟨k,g9,br9,A9,k9⟩ ⟨le_k,hr9,hl9,hc9,hb9⟩
 replace le_k:k≤st27.1.length:=le_k
 replace hr9:RG.Rep g9:=hr9
 replace hl9:RG.l g9=(asgK c (RG.l g,bo,lv) st27.1 k).1:=hl9
 replace hc9:RG.cp g9=RG.cp g:=hc9
 replace hb9:BR.Rep br9 (asgK c (RG.l g,bo,lv) st27.1 k).2.1:=hb9
 refine zV (L' := [Res.row O27 (st27.1).length oc27 55 3 ((st27.1).map As.cs),Res.blk eb 112 (ECell rb cb lb bb ub mb xb pb gb tb c A9 ((asgK c (RG.l g,bo,lv) st27.1 k).2.2.length) k9),RgB rb g9,RgW g9,Res.im (RG.m g9),bB_ bb br9,bW_ br9,bK_ br9,Res.row A9 ((asgK c (RG.l g,bo,lv) st27.1 k).2.2).length k9 3 1 (((asgK c (RG.l g,bo,lv) st27.1 k).2.2).map (fun v:Int=>[Value.int .i64 v])),Res.blk mb 186 (M.c st27.2.2),bL_ xb b0 b1,rB_i b0 g27,rW_i g27,rB_i b1 gg27,rW_i gg27]) rfl ?_
 refine g_val 30 (v' := .int .i64 ((k:Nat):Int)) rfl rfl ?_
 obtain⟨ho9,hbs9,hbl9,hll9,hhs9,hag9⟩:=asgK_ok he.1 hu.1 (by omega) hM hvo lv ((RG.l g).map V.bal) lim m (congrArg Prod.fst hst27) k
 simp only[←hl9] at ho9 hbs9 hhs9
 have hal9:=ag_len ((RG.l g).map V.bal) e lim q m
 rw[hst27] at hal9
 refine rn [1,46,0,8] ?_
 refine zC rfl (fun h1=>?_) (fun h1=>?_)
 ·have lt_k:k<st27.1.length:=by have h9:=of_decide_eq_true h1;omega
  have hs9:(asgK c (RG.l g,bo,lv) st27.1 (k+1))=(setV (asgK c (RG.l g,bo,lv) st27.1 k).1 st27.1[k].i (asnV (gotV (RG.l g9) st27.1[k].i) st27.1[k].e c).1,putE (asgK c (RG.l g,bo,lv) st27.1 k).2.1 (asnV (gotV (RG.l g9) st27.1[k].i) st27.1[k].e c).1.wd st27.1[k].i,(asgK c (RG.l g,bo,lv) st27.1 k).2.2++[st27.1[k].i]):=by rw[asgK_succ lt_k,hl9];rfl
  obtain⟨hh9,hae9⟩:=hag9 _ (List.getElem_mem lt_k)
  have hh9:hasV (RG.l g9) st27.1[k].i=true:=by rw[hhs9];exact hh9
  have hv9:=ho9 _ hh9
  have hmx9:(bals (RG.l g9)).sum≤18446744073709551615:=by rw[hbs9];exact hg.mx
  have hbl9_:=uU ho9 hh9
  obtain⟨hoN,hbsN,_,_,_,_⟩:=asgK_ok he.1 hu.1 (by omega) hM hvo lv ((RG.l g).map V.bal) lim m (congrArg Prod.fst hst27) (k+1)
  rw[hs9] at hoN hbsN
  have hchg:=rY (l:=RG.l g9) (i:=st27.1[k].i) (v:=(asnV (gotV (RG.l g9) st27.1[k].i) st27.1[k].e c).1) (by rw[xI hh9,hl9];rw[hl9] at hoN;exact hoN) (by rw[xI hh9,hl9];rw[hl9] at hbsN;rw[hbsN];exact hg.mx) hh9
  refine rn [12,7,8,14,1] ?_
  refine s_q (zP (i:=k) rfl rfl rfl (ird (A:=O27)) (by first|exact lt_k|omega)) rfl ?_
  refine s_q (zS (i:=k) rfl (ird (A:=O27)) (zR (by first|assumption|omega|(simp_all;done)|(simp_all;omega))) rfl) rfl ?_
  refine g_op (zK rfl fun b9=>?_)
  refine rn [33,0,8] ?_
  refine dreg [12] mixed rfl ?_
  refine rn [23,0,2,23,1,6,23,2,4,23,3,4,23,4,5,23,5,4,23,6,5] ?_
  refine yG [7,11] (by kernel_rfl) (by simp) zB ⟨dpick rfl (zL _ rfl (fun w1 hw1 ho1=>by exact xX rb g9 (((st27.1)[k]).i) w1 ho1) rfl ?_),dpick rfl (zK rfl fun b10=>?_),trivial⟩
  ·refine rn [23,8,2,23,9,40,24,10,40] ?_
   refine dop 11 rfl (zK rfl fun b10=>?_)
   refine dop 12 rfl (zQ rfl rfl rfl rfl rfl ?_)
   refine rn [24,13,3,28,7,8] ?_
   refine dreg [11] mixed rfl ?_
   refine rn [23,0,45,23,1,4,23,2,5,23,3,2,23,4,6,23,5,4] ?_
   refine dq 6 rfl (yQ (c' := C.c c) rfl rfl rfl) ?_
   refine dop 7 rfl (zI rfl (fun w1 hw1=>assign_any _ _ (c) w1 ⟨by omega,by omega⟩ ⟨by omega,by omega⟩ (hv9.i64 (by omega))) rfl ?_)
   refine rn [23,8,2,23,9,40,24,10,40] ?_
   refine dop 11 rfl (zQ rfl rfl rfl rfl rfl ?_)
   refine zF (b:=b10) (V.c (asnV (gotV (RG.l g9) st27.1[k].i) st27.1[k].e c).1) rfl ?_
   refine rn [28,7,8] ?_
   refine dregL (L0:=[Res.blk eb 112 (ECell rb cb lb bb ub mb xb pb gb tb c A9 ((asgK c (RG.l g,bo,lv) st27.1 k).2.2.length) k9),Res.blk b9 55 (As.cs st27.1[k]),Res.blk b10 52 (V.c (asnV (gotV (RG.l g9) st27.1[k].i) st27.1[k].e c).1)]) [] mixed rfl zB ?_
   refine rn [23,0,2,23,1,6,23,2,4] ?_
   refine dq 3 rfl (yQ (c' := [Value.pointer (some ⟨rb,0,none⟩)]) rfl rfl rfl) ?_
   refine rn [23,4,4,23,5,5,23,6,45] ?_
   refine dop 7 rfl (zG _ rfl (fun w1 hw1 ho1=>by have h7:=xD rb g9 (((st27.1)[k]).i) ((asnV (gotV (RG.l g9) st27.1[k].i) st27.1[k].e c).1) w1 ho1 hr9 hchg.1 hchg.2;exact h7) rfl ?_)
   rintro g63 ⟨r63,l63,c63⟩
   refine ii ?_
   refine rn [27,7,8] ?_
   refine dregL (L0:=[Res.blk eb 112 (ECell rb cb lb bb ub mb xb pb gb tb c A9 ((asgK c (RG.l g,bo,lv) st27.1 k).2.2.length) k9),Res.blk b9 55 (As.cs st27.1[k]),Res.blk b10 52 (V.c (asnV (gotV (RG.l g9) st27.1[k].i) st27.1[k].e c).1)]) [] mixed rfl zB ?_
   refine rn [23,0,2,23,1,6,23,2,4,23,3,5,23,4,4,23,5,5,23,6,4,23,7,5] ?_
   refine dop 8 rfl (zG _ rfl (fun w1 hw1 ho1=>by have h7:=tM bb br9 (asgK c (RG.l g,bo,lv) st27.1 k).2.1 (((asnV (gotV (RG.l g9) st27.1[k].i) st27.1[k].e c).1).wd) (((st27.1)[k]).i) w1 ho1 hb9 (by first|omega|(simp;omega));exact h7) rfl ?_)
   rintro g72 ⟨r72,s72⟩
   refine ii ?_
   refine rn [27,7] ?_
   refine dregL (L0:=[Res.blk eb 112 (ECell rb cb lb bb ub mb xb pb gb tb c A9 ((asgK c (RG.l g,bo,lv) st27.1 k).2.2.length) k9),Res.blk b9 55 (As.cs st27.1[k])]) [11] mixed rfl zB ?_
   refine rn [23,0,2,23,1,2,23,2,6,23,3,4,23,4,5,23,5,4,23,6,5] ?_
   refine dop 7 rfl (g_lit rfl rfl rfl rfl rfl fun b80=>?_)
   refine zF (b:=b80) ((([((st27.1)[k]).i]:List Int).map (fun v:Int=>[Value.int .i64 v])).flatten) rfl ?_
   refine dop 8 rfl (zZ (A:=A9) (els:=((asgK c (RG.l g,bo,lv) st27.1 k).2.2).map (fun v:Int=>[Value.int .i64 v])) (news:=(([((st27.1)[k]).i]:List Int).map (fun v:Int=>[Value.int .i64 v]))) rfl rfl (InL.rdb (b:=b80) rfl (by simp) rfl) (yF (c:=(fun v:Int=>[Value.int .i64 v])) (by intro x;simp[Value.oneCell']) _) (by first|omega|(simp;omega)|(simp_all;omega)) rfl fun A81 cap81=>⟨_,inferInstance,?_⟩)
   refine zH (A:=A81) ((((asgK c (RG.l g,bo,lv) st27.1 k).2.2++[((st27.1)[k]).i])).map (fun v:Int=>[Value.int .i64 v])) (by first|rfl|exact List.map_append.symm|(simp;done)) ?_
   refine rn [24,9,6,23,10,4] ?_
   refine dop 11 rfl (zJ rfl rfl rfl rfl rfl rfl rfl ?_)
   refine zF (b:=eb) (ECell rb cb lb bb ub mb xb pb gb tb c A81 ((asgK c (RG.l g,bo,lv) st27.1 (k+1)).2.2.length) cap81) (by rw[hs9,List.length_append];rfl) ?_
   refine rn [28,15,7,10,43,2,9] ?_
   refine zH (A:=A81) ((asgK c (RG.l g,bo,lv) st27.1 (k+1)).2.2.map (fun v:Int=>[Value.int .i64 v])) (by rw[hs9]) ?_
   refine yB (A:=A81) (asgK c (RG.l g,bo,lv) st27.1 (k+1)).2.2.length (by rw[hs9];simp) ?_
   exact g_ag ((k+1),g63,g72,A81,cap81) (by(try dsimp only);exact⟨(by first|exact lt_k|omega),r63,(by rw[hs9];show _=setV _ _ _;rw[l63,hl9]),(by rw[c63];exact hc9),(by rw[hs9,←hl9];exact r72)⟩)
  ·refine dop 7 rfl (zL _ rfl (fun w1 hw1 ho1=>by exact xX rb g9 (((st27.1)[k]).i) w1 ho1) rfl ?_)
   refine rn [23,8,2,23,9,40,24,10,40] ?_
   refine dop 12 rfl (zQ rfl rfl rfl rfl rfl ?_)
   refine rn [24,13,3,28,7,8] ?_
   refine dreg [11] mixed rfl ?_
   refine rn [23,0,45,23,1,4,23,2,5,23,3,2,23,4,6,23,5,4] ?_
   refine dq 6 rfl (yQ (c' := C.c c) rfl rfl rfl) ?_
   refine dop 7 rfl (zI rfl (fun w1 hw1=>assign_any _ _ (c) w1 ⟨by omega,by omega⟩ ⟨by omega,by omega⟩ (hv9.i64 (by omega))) rfl ?_)
   refine rn [23,8,2,23,9,40,24,10,40] ?_
   refine dop 11 rfl (zQ rfl rfl rfl rfl rfl ?_)
   refine zF (b:=b10) (V.c (asnV (gotV (RG.l g9) st27.1[k].i) st27.1[k].e c).1) rfl ?_
   refine rn [28,7,8] ?_
   refine dregL (L0:=[Res.blk eb 112 (ECell rb cb lb bb ub mb xb pb gb tb c A9 ((asgK c (RG.l g,bo,lv) st27.1 k).2.2.length) k9),Res.blk b9 55 (As.cs st27.1[k]),Res.blk b10 52 (V.c (asnV (gotV (RG.l g9) st27.1[k].i) st27.1[k].e c).1)]) [] mixed rfl zB ?_
   refine rn [23,0,2,23,1,6,23,2,4] ?_
   refine dq 3 rfl (yQ (c' := [Value.pointer (some ⟨rb,0,none⟩)]) rfl rfl rfl) ?_
   refine rn [23,4,4,23,5,5,23,6,45] ?_
   refine dop 7 rfl (zG _ rfl (fun w1 hw1 ho1=>by have h7:=xD rb g9 (((st27.1)[k]).i) ((asnV (gotV (RG.l g9) st27.1[k].i) st27.1[k].e c).1) w1 ho1 hr9 hchg.1 hchg.2;exact h7) rfl ?_)
   rintro g63 ⟨r63,l63,c63⟩
   refine ii ?_
   refine rn [27,7,8] ?_
   refine dregL (L0:=[Res.blk eb 112 (ECell rb cb lb bb ub mb xb pb gb tb c A9 ((asgK c (RG.l g,bo,lv) st27.1 k).2.2.length) k9),Res.blk b9 55 (As.cs st27.1[k]),Res.blk b10 52 (V.c (asnV (gotV (RG.l g9) st27.1[k].i) st27.1[k].e c).1)]) [] mixed rfl zB ?_
   refine rn [23,0,2,23,1,6,23,2,4,23,3,5,23,4,4,23,5,5,23,6,4,23,7,5] ?_
   refine dop 8 rfl (zG _ rfl (fun w1 hw1 ho1=>by have h7:=tM bb br9 (asgK c (RG.l g,bo,lv) st27.1 k).2.1 (((asnV (gotV (RG.l g9) st27.1[k].i) st27.1[k].e c).1).wd) (((st27.1)[k]).i) w1 ho1 hb9 (by first|omega|(simp;omega));exact h7) rfl ?_)
   rintro g72 ⟨r72,s72⟩
   refine ii ?_
   refine rn [27,7] ?_
   refine dregL (L0:=[Res.blk eb 112 (ECell rb cb lb bb ub mb xb pb gb tb c A9 ((asgK c (RG.l g,bo,lv) st27.1 k).2.2.length) k9),Res.blk b9 55 (As.cs st27.1[k])]) [11] mixed rfl zB ?_
   refine rn [23,0,2,23,1,2,23,2,6,23,3,4,23,4,5,23,5,4,23,6,5] ?_
   refine dop 7 rfl (g_lit rfl rfl rfl rfl rfl fun b80=>?_)
   refine zF (b:=b80) ((([((st27.1)[k]).i]:List Int).map (fun v:Int=>[Value.int .i64 v])).flatten) rfl ?_
   refine dop 8 rfl (zZ (A:=A9) (els:=((asgK c (RG.l g,bo,lv) st27.1 k).2.2).map (fun v:Int=>[Value.int .i64 v])) (news:=(([((st27.1)[k]).i]:List Int).map (fun v:Int=>[Value.int .i64 v]))) rfl rfl (InL.rdb (b:=b80) rfl (by simp) rfl) (yF (c:=(fun v:Int=>[Value.int .i64 v])) (by intro x;simp[Value.oneCell']) _) (by first|omega|(simp;omega)|(simp_all;omega)) rfl fun A81 cap81=>⟨_,inferInstance,?_⟩)
   refine zH (A:=A81) ((((asgK c (RG.l g,bo,lv) st27.1 k).2.2++[((st27.1)[k]).i])).map (fun v:Int=>[Value.int .i64 v])) (by first|rfl|exact List.map_append.symm|(simp;done)) ?_
   refine rn [24,9,6,23,10,4] ?_
   refine dop 11 rfl (zJ rfl rfl rfl rfl rfl rfl rfl ?_)
   refine zF (b:=eb) (ECell rb cb lb bb ub mb xb pb gb tb c A81 ((asgK c (RG.l g,bo,lv) st27.1 (k+1)).2.2.length) cap81) (by rw[hs9,List.length_append];rfl) ?_
   refine rn [28,15,7,10,43,2,9] ?_
   refine zH (A:=A81) ((asgK c (RG.l g,bo,lv) st27.1 (k+1)).2.2.map (fun v:Int=>[Value.int .i64 v])) (by rw[hs9]) ?_
   refine yB (A:=A81) (asgK c (RG.l g,bo,lv) st27.1 (k+1)).2.2.length (by rw[hs9];simp) ?_
   exact g_ag ((k+1),g63,g72,A81,cap81) (by(try dsimp only);exact⟨(by first|exact lt_k|omega),r63,(by rw[hs9];show _=setV _ _ _;rw[l63,hl9]),(by rw[c63];exact hc9),(by rw[hs9,←hl9];exact r72)⟩)
 ·have eq_k:k=st27.1.length:=by have h9:=of_decide_eq_false h1;omega
  refine rn [16] ?_
  refine zD (zD (zN ?_))
  refine rn [7,1,2,3,0,11] ?_
  have hend:(asgK c (RG.l g,bo,lv) st27.1 k)=st27.1.foldl (asgS c) (RG.l g,bo,lv):=by rw[eq_k];exact asgK_end _ _ _
  rw[hend] at hl9 hb9
  exact fin1 rfl (.tmp rfl) (fun w' hw' => ⟨(g9,br9,A9,k9,g27,gg27,O27,oc27),(by(subst hst27;exact⟨hr9,hl9,hc9,hb9,r27,rr27,s27,ss27⟩)),by subst hst27;rfl,by have h9:=zB (L' := [Res.row O27 (st27.1).length oc27 55 3 ((st27.1).map As.cs),Res.blk eb 112 (ECell rb cb lb bb ub mb xb pb gb tb c A9 ((asgK c (RG.l g,bo,lv) st27.1 k).2.2.length) k9),RgB rb g9,RgW g9,Res.im (RG.m g9),bB_ bb br9,bW_ br9,bK_ br9,Res.row A9 ((asgK c (RG.l g,bo,lv) st27.1 k).2.2).length k9 3 1 (((asgK c (RG.l g,bo,lv) st27.1 k).2.2).map (fun v:Int=>[Value.int .i64 v])),Res.blk mb 186 (M.c st27.2.2),bL_ xb b0 b1,rB_i b0 g27,rW_i g27,rB_i b1 gg27,rW_i gg27]) w' hw';rw[hend] at h9;subst hst27;exact h9⟩) _ (.inl rfl)
end Go.Proofs.YtdddiilocbbkkaaGreat
