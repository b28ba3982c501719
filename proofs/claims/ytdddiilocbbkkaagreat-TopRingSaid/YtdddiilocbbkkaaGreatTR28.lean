/- TopRing: for every configuration, all operations and every length the law returns true. No condition. Part 28 of 28. -/
import Derived.Test.YtdddiilocbbkkaaGreatTR27
set_option linter.unusedVariables false
set_option linter.unusedSimpArgs false
namespace Go.Proofs.YtdddiilocbbkkaaGreat
open Go.RowKit Go.Eg
set_option maxHeartbeats 4000000
set_option synthInstance.maxSize 3000
set_option maxRecDepth 100000
theorem law_topRing (c:C) (A_l:Option Addr) (c_l:Nat) (l:List Op) (u:Nat) (w:World) (k_c:(c).ok) (o_l:Old w A_l l.length 4 (l.map Op.c)) (h_l:l.length≤c_l∧c_l≤9223372036854775807) (k_l:∀x∈l,(fun x:Op=>x.ok) x) (h_u:u<256):Pur Tryz.prog 6 [c.v,.slice A_l l.length c_l,.int .u8 ((u:Nat):Int)] w (.bool true):=by
 refine g_st Tryz.func6 60 (WOK.start [] _) ?_
 refine rn [1] ?_
 refine g_op (g_box rfl rfl rfl fun b3=>?_)
 refine rn [3,0,8,1,45,2] ?_
 refine g_op (zJ rfl (fun w1 hw1=>fits_any c A_l (l.length) (c_l) w1) rfl ?_)
 refine rn [44,0] ?_
 refine zC rfl (fun h1=>?_) (fun h1=>?_)
 ·refine rn [1] ?_
  refine g_op (zJ rfl (fun w1 hw1=>runs_any w1) rfl ?_)
  refine rn [3,0,11,13] ?_
  exact fin1 rfl (.tmp rfl) (fun w' hw' => ⟨by first|rfl|(simp_all;done)|(simp_all;omega),hw'.upd⟩) _ (.inl rfl)
 ·have hfit:fitB c l.length=true:=fit_of h1
  obtain⟨hc,q1,q2,q3,q4,q5,q6⟩:=of_decide_eq_true hfit
  have hzr:1≤((((u%20)+1:Nat):Int))∧((((u%20)+1:Nat):Int))≤4096:=by omega
  have hcd:=chk_rl (z:=((((u%20)+1:Nat):Int))) hc hzr
  have k_d:=rl_ok (z:=((((u%20)+1:Nat):Int))) k_c hzr
  refine rn [12,7,1,45] ?_
  refine g_op (zK rfl fun b7=>?_)
  refine rn [33] ?_
  refine zF (b:=b7) (C.c c) (by rfl) ?_
  refine rn [0,1,2] ?_
  refine s_q (yL (z:=((u:Nat):Int)) rfl (wi64 (by omega) (by omega))) rfl ?_
  refine s_q (wC (a:=u) (b:=20) rfl rfl (by first|omega|(simp;omega)|(simp_all;omega))) rfl ?_
  refine rn [43,4] ?_
  refine g_op (zI rfl rfl rfl rfl rfl rfl rfl ?_)
  refine zF (b:=b7) (C.c (rl ((((u%20)+1:Nat):Int)) c)) (by first|rfl|(simp[splice,C.c,rl])) ?_
  refine rn [0,1,45] ?_
  refine g_op (zH [] rfl (fun w1 hw1 ho1=>by have h7:=tbeg_any c w1 hc k_c;exact h7) rfl ?_)
  rintro⟨p27,a27,b27,m27⟩ r27
  refine ii ?_
  simp only at r27
  refine rn [2,40,40] ?_
  refine g_op (zK rfl fun b8=>?_)
  refine rn [33] ?_
  refine zF (b:=b8) [.pointer (some ⟨p27.eb,0,none⟩),.pointer (some ⟨b27,0,none⟩)] (by rfl) ?_
  refine rn [3,0,1,45] ?_
  refine g_op (zH [] rfl (fun w1 hw1 ho1=>by have h7:=tbeg_any (rl ((((u%20)+1:Nat):Int)) c) w1 hcd k_d;exact h7) rfl ?_)
  rintro⟨p32,a32,b32,m32⟩ r32
  refine ii ?_
  simp only at r32
  refine rn [2,40,40] ?_
  refine g_op (zK rfl fun b10=>?_)
  refine rn [33] ?_
  refine zF (b:=b10) [.pointer (some ⟨p32.eb,0,none⟩),.pointer (some ⟨b32,0,none⟩)] (by rfl) ?_
  refine rn [3,0,8,1,2,48] ?_
  refine yC 36 (b:=false) rfl (rfl) ?_
  refine rn [2,22,2,22,48] ?_
  refine yC 39 (b:=false) rfl (rfl) ?_
  refine rn [42,0,20,12,7,8,1,2] ?_
  refine g_op (zH [] rfl (fun w1 hw1 ho1=>by have h7:=clone_op A_l (l.length) (c_l) (l) w1 (Rd.ofOld hw1 o_l (by omega) (by simp)) (by first|omega|(simp;omega));exact h7) rfl ?_)
  rintro⟨A42,cap42⟩ _
  refine ii ?_
  refine g_op (zH [] rfl (fun w1 hw1 ho1=>by have h7:=ticks_any 30 w1 (by omega);exact h7) rfl ?_)
  rintro⟨A43,cap43⟩ _
  refine ii ?_
  refine g_op (zY (A:=A42) (els:=(l).map Op.c) (news:=(((List.replicate 30 (Op.mk 7 0 0 0))).map Op.c)) rfl rfl (InRow.rdb (A:=A43) (els:=((List.replicate 30 (Op.mk 7 0 0 0))).map Op.c) (by first|rfl|assumption|(simp;done)|(simp_all;done)|(simp;omega)|(simp_all;omega)) (zU (c:=Op.c) (fun _=>rfl) _)) (yF (c:=Op.c) (by intro x;simp[Op.c,Value.oneCell']) _) (by first|omega|(simp;omega)|(simp_all;omega)) rfl fun A44 cap44=>⟨_,inferInstance,?_⟩)
  refine zG (A:=A44) (((l++(List.replicate 30 (Op.mk 7 0 0 0)))).map Op.c) (by first|rfl|exact List.map_append.symm|(simp;done)) ?_
  obtain⟨L,hL⟩:∃z,z=(l++List.replicate 30 (Op.mk 7 0 0 0)):=⟨_,rfl⟩
  refine zG (A:=A44) (L.map Op.c) (by rw[hL]) ?_
  refine yA (A:=A44) L.length (by rw[hL];simp) ?_
  refine g_val 44 (v' := .slice A44 L.length cap44) rfl (by rw[hL];simp) ?_
  have hLl:L.length≤440:=by rw[hL];simp;omega
  have hLo:∀y∈L,y.ok:=fun y hy=>by
    rw[hL] at hy
    rcases List.mem_append.1 hy with hy|hy
    · exact k_l y hy
    · rw[List.eq_of_mem_replicate hy];constructor<;>simp
  have hLb:(newE c).blk+L.length<1000000000:=by show 0+L.length<_;omega
  refine rn [47,2,0,14] ?_
  refine xU (Eng p27 a27 (newE c)) (Eng p27 a27 (runK (newE c) L 0).1) rfl ?_
  refine xU (Eng p32 a32 (newE (rl ((((u%20)+1:Nat):Int)) c))) (Eng p32 a32 (runK (newE (rl ((((u%20)+1:Nat):Int)) c)) L 0).1) rfl ?_
  refine g_lk [6,8,10,44,45] (fun(x:Nat × EG × HL × EG × HL)=>[(46,.int .i64 ((x.1:Nat):Int))]) (fun(x:Nat × EG × HL × EG × HL)=>[Res.blk b3 24 c.c,Res.blk b7 24 (C.c (rl ((((u%20)+1:Nat):Int)) c)),Res.blk b8 71 [.pointer (some ⟨p27.eb,0,none⟩),.pointer (some ⟨b27,0,none⟩)],Res.blk b10 71 [.pointer (some ⟨p32.eb,0,none⟩),.pointer (some ⟨b32,0,none⟩)],Res.row A44 L.length cap44 35 4 (L.map Op.c),Eng p27 x.2.1 (runK (newE c) L x.1).1,Lg b27 m27 x.2.2.1,Eng p32 x.2.2.2.1 (runK (newE (rl ((((u%20)+1:Nat):Int)) c)) L x.1).1,Lg b32 m32 x.2.2.2.2]) (fun(x:Nat × EG × HL × EG × HL)=>x.1≤L.length∧EG.Rep x.2.1 (runK (newE c) L x.1).1∧HL.Ok (x.1*20000) x.2.2.1∧EG.Rep x.2.2.2.1 (runK (newE (rl ((((u%20)+1:Nat):Int)) c)) L x.1).1∧HL.Ok (x.1*20000) x.2.2.2.2) (fun(x:Nat × EG × HL × EG × HL)=>L.length-x.1) (0,a27,h00,a32,h00) (by(try dsimp only);exact⟨Nat.zero_le _,r27,(by rw[Nat.zero_mul];exact h00_ok),r32,(by rw[Nat.zero_mul];exact h00_ok)⟩) ?_
  rintro⟨k,a9,h9,a8,h8⟩ ⟨le_k,hr9,hq9,hr8,hq8⟩
  replace le_k:k≤L.length:=le_k
  replace hr9:EG.Rep a9 (runK (newE c) L k).1:=hr9
  replace hq9:HL.Ok (k*20000) h9:=hq9
  replace hr8:EG.Rep a8 (runK (newE (rl ((((u%20)+1:Nat):Int)) c)) L k).1:=hr8
  replace hq8:HL.Ok (k*20000) h8:=hq8
  refine zW (L' := [Res.blk b3 24 c.c,Res.blk b7 24 (C.c (rl ((((u%20)+1:Nat):Int)) c)),Res.blk b8 71 [.pointer (some ⟨p27.eb,0,none⟩),.pointer (some ⟨b27,0,none⟩)],Res.blk b10 71 [.pointer (some ⟨p32.eb,0,none⟩),.pointer (some ⟨b32,0,none⟩)],Res.row A44 L.length cap44 35 4 (L.map Op.c),Eng p27 a9 (runK (newE c) L k).1,Lg b27 m27 h9,Eng p32 a8 (runK (newE (rl ((((u%20)+1:Nat):Int)) c)) L k).1,Lg b32 m32 h8]) rfl ?_
  refine g_val 46 (v' := .int .i64 ((k:Nat):Int)) rfl rfl ?_
  obtain⟨hi9,hb9,hc9,hl9⟩:=uL (sN hc k_c) hLo hLb k (by omega)
  obtain⟨hi8,hb8,hc8,hl8⟩:=uL (sN hcd k_d) hLo (show(newE (rl ((((u%20)+1:Nat):Int)) c)).blk+L.length<1000000000 from hLb) k (by omega)
  have hb0:(newE c).blk=0:=rfl
  have hb00:(newE (rl ((((u%20)+1:Nat):Int)) c)).blk=0:=rfl
  have hrl:=rl_runK ((((u%20)+1:Nat):Int)) c L k
  refine rn [1,46,0,8] ?_
  refine zC rfl (fun h2=>?_) (fun h2=>?_)
  ·have lt_k:k<L.length:=by have h9:=of_decide_eq_true h2;omega
   obtain⟨yk,hyk⟩:∃z,z=L[k]:=⟨_,rfl⟩
   have hyo:yk.ok:=hyk ▸ hLo _ (List.getElem_mem lt_k)
   have hk9:(runK (newE c) L (k+1))=stepA (runK (newE c) L k) yk:=by rw[hyk];exact tI lt_k
   have hk8:(runK (newE (rl ((((u%20)+1:Nat):Int)) c)) L (k+1))=stepA (runK (newE (rl ((((u%20)+1:Nat):Int)) c)) L k) yk:=by rw[hyk];exact tI lt_k
   have hrc:(applyE (runK (newE (rl ((((u%20)+1:Nat):Int)) c)) L k).1 yk).2=(applyE (runK (newE c) L k).1 yk).2:=by rw[hrl,rl_apply]
   obtain⟨av,bv,hag,hav,hbv,hab⟩:=ag_shape hi9 (by omega) yk
   obtain⟨hagl,hagg⟩:=sh_get hag hav hbv
   have hqf:=hi9.qf
   have hqs:=(xB hi9.cc).qsize
   have hpl:=ps_len hi9 (by omega) yk
   refine rn [12,7,8,14,1] ?_
   refine s_q (zP (i:=k) rfl rfl rfl (InRow.rdb (A:=A44) (els:=(L).map Op.c) (by first|rfl|assumption|(simp;done)|(simp_all;done)|(simp;omega)|(simp_all;omega)) (zU (c:=Op.c) (fun _=>rfl) _)) (by first|exact lt_k|omega)) rfl ?_
   refine s_q (zS (i:=k) rfl (InRow.rdb (A:=A44) (els:=(L).map Op.c) (by first|rfl|assumption|(simp;done)|(simp_all;done)|(simp;omega)|(simp_all;omega)) (zU (c:=Op.c) (fun _=>rfl) _)) (zR (by first|assumption|omega|(simp_all;done)|(simp_all;omega))) rfl) rfl ?_
   refine g_op (zK rfl fun b13=>?_)
   refine rn [33] ?_
   refine zF (b:=b13) (Op.c yk) (by rw[hyk]) ?_
   refine rn [0,8] ?_
   refine dregL (L0:=[Res.blk b8 71 [.pointer (some ⟨p27.eb,0,none⟩),.pointer (some ⟨b27,0,none⟩)],Res.blk b10 71 [.pointer (some ⟨p32.eb,0,none⟩),.pointer (some ⟨b32,0,none⟩)],Res.blk b13 35 (Op.c yk)]) [] mixed rfl zB ?_
   refine rn [23,0,45,23,1,45,23,3,45,23,4,45] ?_
   refine dop 2 rfl (zH _ rfl (fun w1 hw1 ho1=>by have h7:=tdo_any (k*20000) p27 a9 (runK (newE c) L k).1 b27 m27 h9 yk w1 ho1 hi9 hr9 hyo (by omega) hq9 (by omega);exact h7) rfl ?_)
   rintro⟨x52,g52⟩ ⟨r52,k52⟩
   refine ii ?_
   simp only at r52 k52
   refine g_val 52 (v' := .agg (RX.c (⟨(applyE (runK (newE c) L k).1 yk).2,x52.O,x52.oc,x52.pA,x52.pc⟩:RX)).toArray) rfl rfl ?_
   refine dop 5 rfl (zH _ rfl (fun w1 hw1 ho1=>by have h7:=tdo_any (k*20000) p32 a8 (runK (newE (rl ((((u%20)+1:Nat):Int)) c)) L k).1 b32 m32 h8 yk w1 ho1 hi8 hr8 hyo (by omega) hq8 (by rw[hrc];omega);exact h7) rfl ?_)
   rintro⟨x55,g55⟩ ⟨r55,k55⟩
   refine ii ?_
   simp only at r55 k55
   rw[hrc] at k55
   refine g_val 55 (v' := .agg (RX.c (⟨(applyE (runK (newE c) L k).1 yk).2,x55.O,x55.oc,x55.pA,x55.pc⟩:RX)).toArray) rfl (by rw[hrc];rfl) ?_
   refine zG (A:=x55.O) ((applyE (runK (newE c) L k).1 yk).2.ag.map As.cs) (by rw[hrc]) ?_
   refine yA (A:=x55.O) (applyE (runK (newE c) L k).1 yk).2.ag.length (by rw[hrc]) ?_
   refine zG (A:=x55.pA) ((applyE (runK (newE c) L k).1 yk).2.ps.map Y.c) (by rw[hrc]) ?_
   refine yA (A:=x55.pA) (applyE (runK (newE c) L k).1 yk).2.ps.length (by rw[hrc]) ?_
   refine dop 6 rfl (zJ rfl (fun w1 hw1=>same_any (applyE (runK (newE c) L k).1 yk).2 x52.O x55.O x52.pA x55.pA x52.oc x55.oc x52.pc x55.pc w1 (Rd.ofRow (A:=x52.O) hw1) (Rd.ofRow (A:=x55.O) hw1) (Rd.ofRow (A:=x52.pA) hw1) (Rd.ofRow (A:=x55.pA) hw1) (by omega)) rfl ?_)
   refine rn [23,7,48] ?_
   refine yC 57 (b:=false) rfl (rfl) ?_
   refine rn [27,7,20,12,15,7,10,43,2,9] ?_
   refine xU (Eng p27 x52.a (applyE (runK (newE c) L k).1 yk).1) (Eng p27 x52.a (runK (newE c) L (k+1)).1) (by rw[hk9];rfl) ?_
   refine xU (Eng p32 x55.a (applyE (runK (newE (rl ((((u%20)+1:Nat):Int)) c)) L k).1 yk).1) (Eng p32 x55.a (runK (newE (rl ((((u%20)+1:Nat):Int)) c)) L (k+1)).1) (by rw[hk8];rfl) ?_
   exact g_ag ((k+1),x52.a,g52,x55.a,g55) (by(try dsimp only);exact⟨(by first|exact lt_k|omega),(by rw[hk9];exact r52),(k52.mono (by omega)),(by rw[hk8];exact r55),(k55.mono (by omega))⟩)
  ·have eq_k:k=L.length:=by have h9:=of_decide_eq_false h2;omega
   refine rn [16] ?_
   refine zD (zD (zN ?_))
   refine rn [7,1] ?_
   refine g_op (zJ rfl (fun w1 hw1=>runs_any w1) rfl ?_)
   refine rn [3,0,11] ?_
   exact fin1 rfl (.tmp rfl) (fun w' hw' => ⟨by first|rfl|(simp_all;done)|(simp_all;omega),hw'.upd⟩) _ (.inl rfl)
theorem main_topRing (v0:Value) (v1:Value) (v2:Value) (W:World) (a0:Arg Tryz.prog W 24 v0) (a1:Arg Tryz.prog W 25 v1) (a2:Arg Tryz.prog W 5 v2):Pur Tryz.prog 6 [v0,v1,v2] W (.bool true):=by
 obtain⟨cs,rfl,f,h⟩:=Arg.agg Tryz.underlying24 a0
 obtain⟨c,rfl,k_c⟩:=openC f cs h
 obtain⟨A_l,c_l,l,rfl,hle1,hm1,o_l,k_l⟩:=Arg.slice Op.c (fun x:Op=>x.ok) Tryz.underlying25 (show Tryz.prog.cellsOf 35=4 by kernel_rfl) (by omega) (openOp) a1
 have h_l:l.length≤c_l∧c_l≤9223372036854775807:=⟨hle1,by unfold maxLen at hm1;omega⟩
 obtain⟨z2,rfl,hz2⟩:=Arg.int Tryz.underlying5 a2
 obtain⟨u,rfl⟩:∃q:Nat,z2=q:=⟨z2.toNat,by have h0:0≤z2∧z2≤255:=hz2;omega⟩
 have h_u:u<256:=by have h0:0≤((u:Nat):Int)∧((u:Nat):Int)≤255:=hz2;omega
 exact law_topRing c A_l c_l l u W k_c o_l h_l k_l h_u
namespace LawTopRing
open Go.ChangeShapes Go.WideShapes Go.ChangeAt Go.RowKit Go.Eg
set_option linter.unusedVariables false
theorem own:ownKnob Tryz.prog.godebug=none:=by kernel_rfl
theorem laidOut:laidOutB Tryz.prog=true:=by kernel_rfl
set_option maxRecDepth 100000 in
theorem lifted (os:Os) (started:os.Started) (H:Type) (enc:TypeId × Value→H) :
  ReturnsInHanded {} Tryz.checked os 6 .any (Rows.topRingSpec.pre6 enc Tryz.prog Tryz.f6 Rows.topRingRow.domain false) (Rows.topRingSpec.post enc Tryz.prog Tryz.f6 false true false false):=by
 refine returnsInHanded_of_change (C:=Tryz.checked) own started (by kernel_rfl) Tryz.func6
  (ChangeSpec.witness6 (enc:=enc) (C:=Tryz.checked) false ⟨#[],#[.agg #[.int .i64 0,.int .i64 0,.int .u64 0,.int .u64 0,.int .u64 0,.int .u64 0,.int .u64 0,.int .u64 0,.int .u64 0,.int .u64 0,.int .i64 0,.int .i64 0,.int .i64 0,.int .i64 0,.int .i64 0,.int .i64 0,.int .i64 0,.int .i64 0,.int .u64 0,.int .u64 0],.slice none 0 0,.int .u8 0],[]⟩ 8 (by kernel_rfl) (by kernel_rfl) (by kernel_rfl) (by kernel_rfl)) ?_
 intro W base args ds gs before hval0 hW hcnd _
 have hval:∀(j:Nat) t v,Tryz.f6.params[j]?=some t→args[j]?=some v→Value.okWide Tryz.prog W .any base t v:=hval0
 have hW' := hW
 obtain⟨p,q,hA0,hV,rfl,hfz,hnd⟩:=hW
 have hA:DataW.TrodAll enc Tryz.prog W 0 (fun _=>true) true Tryz.f6.params.toList args.toList ds p:=hA0
 rw[Tryz.params6] at hA hval
 obtain⟨v0,vs0,d0,ds0,p0,q0,hargs,rfl,rfl,h0,r0⟩:=trodAll_cons hA
 obtain⟨v1,vs1,d1,ds1,p1,q1,rfl,rfl,rfl,h1,r1⟩:=trodAll_cons r0
 obtain⟨v2,vs2,d2,ds2,p2,q2,rfl,rfl,rfl,h2,r2⟩:=trodAll_cons r1
 obtain⟨rfl,rfl,rfl⟩:=trodAll_nil r2
 obtain rfl:args = #[v0,v1,v2]:=by cases args;simp_all
 obtain⟨rfl,rfl⟩:=trodVars_none hV
 have a0:=Arg.of h0 (hval 0 24 v0 rfl rfl)
 have lt0:∀x∈p0,x.block<W.heap.size:=by obtain⟨m,hm⟩:=h0;exact DataW.trod_lt m _ _ _ hm
 have a1:=Arg.of h1 (hval 1 25 v1 rfl rfl)
 have lt1:∀x∈p1,x.block<W.heap.size:=by obtain⟨m,hm⟩:=h1;exact DataW.trod_lt m _ _ _ hm
 have a2:=Arg.of h2 (hval 2 5 v2 rfl rfl)
 have lt2:∀x∈p2,x.block<W.heap.size:=by obtain⟨m,hm⟩:=h2;exact DataW.trod_lt m _ _ _ hm
 clear hA0 hval0
 simp only[List.append_nil] at hW'
 refine Calls.mono (main_topRing v0 v1 v2 W a0 a1 a2) ?_
 rintro e W' ⟨v,rfl,rfl,hu⟩
 have bel:=hu.below
 have targ:=(trodAll_cons_mk (Below.trod laidOut (by kernel_rfl) (of_decide_eq_true (by kernel_rfl)) h0 bel lt0) (trodAll_cons_mk (Below.trod laidOut (by kernel_rfl) (of_decide_eq_true (by kernel_rfl)) h1 bel lt1) (trodAll_cons_mk (Below.trod laidOut (by kernel_rfl) (of_decide_eq_true (by kernel_rfl)) h2 bel lt2) trodAll_mk0)))
 simp only[List.append_nil] at targ
 exact⟨_,rfl,_,_,_,[],_,[],hW',trodAll_mk1 (shut_bool Tryz.underlying4 _),targ,rfl,bel.frame _,fun h=>by cases h⟩
theorem and_t {a b:Bool} (ha:a=true) (hb:b=true):(a && b)=true:=by rw[ha,hb];rfl
theorem jf0:(Rows.topRingRow.wf (OpenSpec.ofChange Rows.topRingSpec))=true:=by kernel_rfl
theorem jf1:(laidOutB Tryz.pinned.checked.prog)=true:=by kernel_rfl
theorem jf2:(mapsRowed Tryz.pinned.checked.prog)=true:=by kernel_rfl
theorem jf3:(Tryz.f6.params.all (Tryz.pinned.checked.prog.readableRec ·))=true:=by kernel_rfl
theorem jf4:(namedTie Tryz.pinned.checked.prog Rows.topRingRow.named Rows.topRingSpec.vars)=true:=by kernel_rfl
theorem jf5:((Rows.topRingRow.stops == []))=true:=by kernel_rfl
theorem jf6:((Tryz.pinned.checked.prog.stops == []))=true:=by kernel_rfl
theorem jf7:((Rows.topRingRow.knobs == []))=true:=by kernel_rfl
theorem jf8:((Tryz.pinned.checked.prog.stopKnobs == []))=true:=by kernel_rfl
theorem jf9:((Rows.topRingRow.inPlace == Tryz.pinned.checked.prog.inPlace 6))=true:=by kernel_rfl
theorem jf10:((Rows.topRingRow.unfollowed == Tryz.pinned.checked.prog.unfollowed 6))=true:=by kernel_rfl
theorem jf11:((Rows.topRingRow.recurses == Tryz.pinned.checked.prog.recurses 6))=true:=by kernel_rfl
theorem jf12:((Rows.topRingRow.named == Tryz.pinned.checked.prog.varsNamed 6))=true:=by kernel_rfl
theorem jf13:((Rows.topRingRow.maps == (Tryz.f6.params.toList++Rows.topRingSpec.plain.varTypes Tryz.pinned.checked.prog).any (Tryz.pinned.checked.prog.mapsRec ·)))=true:=by kernel_rfl
theorem jf14:((Rows.topRingRow.ifaces == (Tryz.f6.params.toList++Rows.topRingSpec.plain.varTypes Tryz.pinned.checked.prog).any (Tryz.pinned.checked.prog.ifacesRec ·)))=true:=by kernel_rfl
theorem jf15:((Rows.topRingRow.mapsOut == Tryz.pinned.checked.prog.mapsAmong Tryz.f6.resultTypes.toList))=true:=by kernel_rfl
theorem jf16:((Rows.topRingRow.loops == (Tryz.f6.params.toList++Rows.topRingSpec.plain.varTypes Tryz.pinned.checked.prog).any (Tryz.pinned.checked.prog.loopsFrom ·)))=true:=by kernel_rfl
theorem jf17:((Rows.topRingRow.wideKeys == (Tryz.f6.params.toList++Rows.topRingSpec.plain.varTypes Tryz.pinned.checked.prog++Tryz.f6.resultTypes.toList).any (Tryz.pinned.checked.prog.wideKeysFrom ·)))=true:=by kernel_rfl
theorem jf18:(Rows.topRingSpec.vars.all (Tryz.pinned.checked.prog.varReadable ·))=true:=by kernel_rfl
theorem jf19:(Tryz.f6.resultTypes.all (fun t=>Tryz.pinned.checked.prog.readableRec t && decide (t<Tryz.pinned.checked.prog.types.size)))=true:=by kernel_rfl
theorem jf20:((Rows.topRingRow.ifacesOut == Tryz.f6.resultTypes.toList.any (Tryz.pinned.checked.prog.ifacesRec ·)))=true:=by kernel_rfl
theorem jf21:((Rows.topRingRow.loopsOut == Tryz.f6.resultTypes.toList.any (Tryz.pinned.checked.prog.loopsFrom ·)))=true:=by kernel_rfl
theorem jf22:((Rows.topRingRow.plainKeys == Tryz.pinned.checked.prog.plainKeys))=true:=by kernel_rfl
theorem jf23:(Rows.topRingRow.shortTexts.isNone)=true:=by kernel_rfl
theorem jf24:(Tryz.pinned.checked.prog.stopsHeard)=true:=by kernel_rfl
theorem jf25:(Tryz.pinned.checked.prog.mayEnter)=true:=by kernel_rfl
theorem jf26:((Rows.topRingRow.lifted == Tryz.pinned.checked.prog.liftsFinal))=true:=by kernel_rfl
theorem jf27:((Tryz.pinned.checked.prog.make == some Rows.topRingRow.make))=true:=by kernel_rfl
theorem jf28:((Rows.topRingRow.kinds == (if Rows.topRingRow.domain.isEmpty then [] else Tryz.f6.params.toList.map fun t=>match Tryz.pinned.checked.prog.underlying t with|some (.int k)=>some k|_=>none)))=true:=by kernel_rfl
theorem jf29:((Rows.topRingRow.pinned == Rows.topRingRow.pinnedBy))=true:=by kernel_rfl
theorem jf30:((Rows.topRingRow.veiled == (Tryz.f6.params.toList++Rows.topRingSpec.plain.varTypes Tryz.pinned.checked.prog++Tryz.f6.resultTypes.toList).any (Tryz.pinned.checked.prog.veiledRec ·)))=true:=by kernel_rfl
theorem jf31:(Rows.topRingRow.veiledFits Tryz.pinned.checked.prog Tryz.f6.params.toList (Tryz.f6.params.toList++Rows.topRingSpec.plain.varTypes Tryz.pinned.checked.prog++Tryz.f6.resultTypes.toList))=true:=by kernel_rfl
theorem closed:joinedFacts Tryz.pinned.checked.prog 6 Tryz.f6 Rows.topRingSpec Rows.topRingRow=true:=and_t (and_t (and_t (and_t (and_t (and_t (and_t (and_t (and_t (and_t (and_t (and_t (and_t (and_t (and_t (and_t (and_t (and_t (and_t (and_t (and_t (and_t (and_t (and_t (and_t (and_t (and_t (and_t (and_t (and_t (and_t (jf0) jf1) jf2) jf3) jf4) jf5) jf6) jf7) jf8) jf9) jf10) jf11) jf12) jf13) jf14) jf15) jf16) jf17) jf18) jf19) jf20) jf21) jf22) jf23) jf24) jf25) jf26) jf27) jf28) jf29) jf30) jf31
theorem over:Rows.topRingRow.holds Tryz.pinned (OpenSpec.ofChange Rows.topRingSpec) :=
 OpenClaim.holds_of_wide 6 Tryz.f6 rfl rfl rfl rfl rfl rfl rfl ⟨rfl,rfl,rfl,rfl,rfl⟩ rfl rfl rfl rfl rfl (by kernel_rfl) Tryz.func6 closed
  (of_decide_eq_true (by kernel_rfl)) (by unfold Func.isWrapper;first|(rw[if_pos (by decide +kernel)];kernel_rfl)|(rw[if_neg (by decide +kernel)];exact⟨rfl,rfl⟩))
  (fun os started H enc _=>lifted os started H enc)
theorem proved:Rows.TopRingSaid:=over
end LawTopRing
end Go.Proofs.YtdddiilocbbkkaaGreat
