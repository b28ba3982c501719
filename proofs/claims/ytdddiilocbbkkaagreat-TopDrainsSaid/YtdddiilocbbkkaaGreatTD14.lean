/- TopDrains: for every configuration and all operations the law returns true. No condition. Part 14 of 28. -/
import Derived.Test.YtdddiilocbbkkaaGreatTD13
set_option linter.unusedVariables false
set_option linter.unusedSimpArgs false
namespace Go.Proofs.YtdddiilocbbkkaaGreat
open Go.RowKit Go.Eg
set_option maxHeartbeats 4000000
set_option synthInstance.maxSize 3000
set_option maxRecDepth 100000
theorem Rd.star {w:World} {Ls:List Res} {A:Option Addr} {n k:Nat} {els:List (List Value)} (h:Rd w Ls A n k els):Rd w [.star Ls] A n k els:=⟨h.old,by rw[vH];exact h.away⟩
def okP {σ:Type} (v:V) (_:σ):Prop:=(0≤v.st∧v.st≤7)∧0≤v.bal∧v.bal≤18446744073709551615
theorem nxt_rng (s e:Int):0≤nxt s e∧nxt s e≤7:=by
 unfold nxt
 repeat' split
 all_goals omega
theorem okP_ev {e:Nat} {v:V} (h:okP v ()):okP (evR e v).1 ():=by
 unfold evR;split
 ·exact h
 ·exact⟨nxt_rng _ _,h.2⟩
theorem burnV_eq {b:Int} {c:C} (h:c.pnum≤c.pden):burnV b c=b*c.pnum/c.pden:=by unfold burnV;rw[if_neg (by omega)]
theorem sla2_any (b q q2:Nat) (v:V) (c:C) (z:Int) (w:World) (hw:W0 [Res.blk b 52 (V.c v),Res.blk q 24 c.c,Res.blk q2 22 [Value.int .u64 (z)]] w) (hvb:0≤v.bal∧v.bal≤18446744073709551615) (hpn:0≤c.pnum) (hpd:1≤c.pden∧c.pden≤4294967296) (hnd:c.pnum≤c.pden):Own2 (ι:=Unit) Tryz.prog 171 [.pointer (some ⟨b,0,none⟩),.pointer (some ⟨q,0,none⟩),.pointer (some ⟨q2,0,none⟩)] w [Res.blk b 52 (V.c v),Res.blk q 24 c.c,Res.blk q2 22 [Value.int .u64 (z)]] (fun x=>True) (fun x=>.int .i64 0) (fun x=>[]) (fun x=>[Res.blk b 52 (V.c { v with bal:=IntKind.u64.wrap (v.bal-burnV v.bal c) }),Res.blk q 24 c.c,Res.blk q2 22 [Value.int .u64 (burnV v.bal c)]]):=by
 refine g_st Tryz.func171 25 hw ?_
 refine rn [1,3,0,8] ?_
 refine dreg [12] mixed rfl ?_
 refine rn [23,0,2,23,1,6,23,2,4,23,3,5,23,4,4,23,5,5,23,6,4,23,7,5] ?_
 refine dop 8 rfl (zI rfl (fun w1 hw1=>amount_any v.bal c.pnum c.pden w1 hvb hpn hpd hnd) rfl ?_)
 refine rn [23,9,2,23,10,40,24,11,40] ?_
 refine dop 12 rfl (zJ rfl rfl rfl rfl rfl rfl rfl ?_)
 refine zF (b:=q2) [Value.int .u64 (burnV v.bal c)] (by rw[burnV_eq hnd];rfl) ?_
 refine rn [28,7,8] ?_
 refine dreg [8] mixed rfl ?_
 refine rn [23,0,2,23,1,6,23,2,4,23,3,5,23,4,5,23,5,57,24,6,6,23,7,4] ?_
 refine dop 8 rfl (zJ rfl rfl rfl rfl rfl rfl rfl ?_)
 refine zF (b:=b) (V.c { v with bal:=IntKind.u64.wrap (v.bal-burnV v.bal c) }) (by simp[splice,V.c]) ?_
 refine rn [28,7,1,3,0,11] ?_
 exact fin1 rfl (.tmp rfl) (fun w' hw' => ⟨(),(by exact trivial),rfl,zA w' hw'⟩) _ (.inl rfl)
theorem acc_ap (v:V) (e:Int) (a b:List Value):applyC ([⟨243,a,fun v _=>((acR e v).1,(acR e v).2,())⟩,⟨248,b,fun v _=>((evR 2 v).1,(evR 2 v).2,())⟩]:List (Chg Unit)) v ()=((accV v e).1,(accV v e).2,()):=by
 unfold accV
 by_cases h1:latB [e]=false
 ·rw[if_pos h1];simp[applyC,acR,h1]
 ·rw[if_neg h1]
  by_cases h2:nxt v.st 2=0
  ·rw[if_pos h2];simp[applyC,acR,evR,h1,h2]
  ·rw[if_neg h2];simp[applyC,acR,evR,h1,h2]
theorem sP (v:V) (e:Int) (w:World) (he:I64 e) (hok:okP v ()):Pur Tryz.prog 166 [v.v,.int .i64 e] w (.tuple [V.v (accV v e).1,.int .i64 (accV v e).2].toArray):=by
 refine g_st Tryz.func166 15 (WOK.start [] _) ?_
 refine rn [1] ?_
 refine g_op (g_box (c:=V.c v) rfl rfl rfl fun b2=>?_)
 refine g_op (g_box rfl rfl rfl fun b3=>?_)
 refine g_op (zK rfl fun b4=>?_)
 refine rn [3,0,1,52,3,0,8] ?_
 refine dreg [7] mixed rfl ?_
 refine rn [23,0,45,23,1,2] ?_
 refine dop 2 rfl (zG [] rfl (fun w1 hw1 ho1=>by have h7:=uD (2) w1;exact h7) rfl ?_)
 rintro b10 _
 refine ii ?_
 refine dop 3 rfl (g_lit rfl rfl rfl rfl rfl fun b11=>?_)
 refine zF (b:=b11) [Value.func (.func 243) #[] [Value.pointer (some ⟨b3,0,none⟩)].toArray,Value.func (.func 248) #[] [Value.pointer (some ⟨b10,0,none⟩)].toArray] rfl ?_
 refine dop 4 rfl (zG _ rfl (fun w1 hw1 ho1=>by
  have h7:=Own2.unstar (Ls:=[Res.blk b3 3 [Value.int .i64 (e)],Res.blk b10 3 [Value.int .i64 (2)]]) (Ls1:=fun _=>[Res.blk b3 3 [Value.int .i64 (e)],Res.blk b10 3 [Value.int .i64 (2)]]) (fun hw2=>xH (fun z9:Unit=>Res.star [Res.blk b3 3 [Value.int .i64 (e)],Res.blk b10 3 [Value.int .i64 (2)]]) okP ([(⟨243,[Value.pointer (some ⟨b3,0,none⟩)],fun v _=>((acR e v).1,(acR e v).2,())⟩:Chg Unit),(⟨248,[Value.pointer (some ⟨b10,0,none⟩)],fun v _=>((evR 2 v).1,(evR 2 v).2,())⟩:Chg Unit)]:List (Chg Unit)) v () b11 w1 hw2 (by
   intro c9 hc9
   simp only[List.mem_cons,List.not_mem_nil,or_false] at hc9
   rcases hc9 with rfl|rfl
   · exact⟨by kernel_rfl,fun v9 s9 h9 h0=>(by show okP (acR e v9).1 ();unfold acR;split<;>exact h9),fun b9 v9 s9 w9 hw9 h9=>Chg.go_of hw9 inferInstance inferInstance (fun w8 hw8=>acc1_any b9 b3 v9 e w8 hw8 he)⟩
   · exact⟨by kernel_rfl,fun v9 s9 h9 h0=>okP_ev h9,fun b9 v9 s9 w9 hw9 h9=>Chg.go_of hw9 inferInstance inferInstance (fun w8 hw8=>ev1_any b9 b10 v9 2 w8 hw8 (by decide) h9.1)⟩) hok (Rd.star (Rd.ofBlk (b:=b11) (T:=285) (c:=[Value.func (.func 243) #[] [Value.pointer (some ⟨b3,0,none⟩)].toArray,Value.func (.func 248) #[] [Value.pointer (some ⟨b10,0,none⟩)].toArray]) hw1 rfl (by simp) rfl)) (by simp)) ho1
  exact h7) rfl ?_)
 rintro⟨⟩ _
 refine ii ?_
 refine rn [23,5,40,23,6,40] ?_
 refine dop 7 rfl (zQ rfl rfl rfl rfl rfl ?_)
 refine rn [24,8,3,28,7,11] ?_
 exact fin2 rfl (.cellw rfl rfl) (.tmp rfl) (fun w' hw' => ⟨by rw[←show(applyC _ v ()).1=(accV v e).1 from by rw[acc_ap v e [Value.pointer (some ⟨b3,0,none⟩)] [Value.pointer (some ⟨b10,0,none⟩)]],←show(applyC _ v ()).2.1=(accV v e).2 from by rw[acc_ap v e [Value.pointer (some ⟨b3,0,none⟩)] [Value.pointer (some ⟨b10,0,none⟩)]]];rfl,hw'.upd⟩) _ (.inl rfl)
theorem asn_ap (v:V) (e:Int) (c:C) (a b:List Value):applyC ([⟨281,a,fun v _=>((asR e v).1,(asR e v).2,())⟩,⟨249,b,fun v _=>((dlR e c.unb v).1,(dlR e c.unb v).2,())⟩]:List (Chg Unit)) v ()=((asnV v e c).1,(asnV v e c).2,()):=by
 unfold asnV
 by_cases h1:v.st≠3∨v.ex≠-1
 ·rw[if_pos h1]
  have hr:asR e v=(v,8):=if_pos h1
  simp[applyC,hr]
 ·rw[if_neg h1]
  have hr:asR e v=({ v with ex:=e },0):=if_neg h1
  by_cases h2:latB [e,c.unb]=false
  ·rw[if_pos h2];simp[applyC,hr,dlR,h2]
  ·rw[if_neg h2];simp[applyC,hr,dlR,h2]
theorem assign_any (v:V) (e:Int) (c:C) (w:World) (he:I64 e) (hd:I64 c.unb) (hok:okP v ()):Pur Tryz.prog 230 [v.v,.int .i64 e,c.v] w (.tuple [V.v (asnV v e c).1,.int .i64 (asnV v e c).2].toArray):=by
 refine g_st Tryz.func230 20 (WOK.start [] _) ?_
 refine rn [1] ?_
 refine g_op (g_box (c:=V.c v) rfl rfl rfl fun b3=>?_)
 refine g_op (g_box rfl rfl rfl fun b4=>?_)
 refine g_op (g_box (c:=C.c c) rfl rfl rfl fun b5=>?_)
 refine g_op (zK rfl fun b6=>?_)
 refine rn [3,0,1,52,3,0,8] ?_
 refine dreg [10] mixed rfl ?_
 refine rn [23,0,45,23,1,2,23,2,5,23,3,4,23,4,5] ?_
 refine dop 5 rfl (zG [] rfl (fun w1 hw1 ho1=>by have h7:=sC (e) (c.unb) w1;exact h7) rfl ?_)
 rintro⟨b15,p15⟩ _
 refine ii ?_
 refine dop 6 rfl (g_lit rfl rfl rfl rfl rfl fun b16=>?_)
 refine zF (b:=b16) [Value.func (.func 281) #[] [Value.pointer (some ⟨b4,0,none⟩)].toArray,Value.func (.func 249) #[] [Value.pointer (some ⟨b15,0,none⟩),Value.pointer (some ⟨p15,0,none⟩)].toArray] rfl ?_
 refine dop 7 rfl (zG _ rfl (fun w1 hw1 ho1=>by
  have h7:=Own2.unstar (Ls:=[Res.blk b4 3 [Value.int .i64 (e)],Res.blk b15 3 [Value.int .i64 (e)],Res.blk p15 3 [Value.int .i64 (c.unb)]]) (Ls1:=fun _=>[Res.blk b4 3 [Value.int .i64 (e)],Res.blk b15 3 [Value.int .i64 (e)],Res.blk p15 3 [Value.int .i64 (c.unb)]]) (fun hw2=>xH (fun z9:Unit=>Res.star [Res.blk b4 3 [Value.int .i64 (e)],Res.blk b15 3 [Value.int .i64 (e)],Res.blk p15 3 [Value.int .i64 (c.unb)]]) okP ([(⟨281,[Value.pointer (some ⟨b4,0,none⟩)],fun v _=>((asR e v).1,(asR e v).2,())⟩:Chg Unit),(⟨249,[Value.pointer (some ⟨b15,0,none⟩),Value.pointer (some ⟨p15,0,none⟩)],fun v _=>((dlR e c.unb v).1,(dlR e c.unb v).2,())⟩:Chg Unit)]:List (Chg Unit)) v () b16 w1 hw2 (by
   intro c9 hc9
   simp only[List.mem_cons,List.not_mem_nil,or_false] at hc9
   rcases hc9 with rfl|rfl
   · exact⟨by kernel_rfl,fun v9 s9 h9 h0=>(by show okP (asR e v9).1 ();unfold asR;split<;>exact h9),fun b9 v9 s9 w9 hw9 h9=>Chg.go_of hw9 inferInstance inferInstance (fun w8 hw8=>asn1_any b9 b4 v9 e w8 hw8)⟩
   · exact⟨by kernel_rfl,fun v9 s9 h9 h0=>(by show okP (dlR e c.unb v9).1 ();unfold dlR;split<;>exact h9),fun b9 v9 s9 w9 hw9 h9=>Chg.go_of hw9 inferInstance inferInstance (fun w8 hw8=>del1_any b9 b15 p15 v9 e c.unb w8 hw8 he hd)⟩) hok (Rd.star (Rd.ofBlk (b:=b16) (T:=285) (c:=[Value.func (.func 281) #[] [Value.pointer (some ⟨b4,0,none⟩)].toArray,Value.func (.func 249) #[] [Value.pointer (some ⟨b15,0,none⟩),Value.pointer (some ⟨p15,0,none⟩)].toArray]) hw1 rfl (by simp) rfl)) (by simp)) ho1
  exact h7) rfl ?_)
 rintro⟨⟩ _
 refine ii ?_
 refine rn [23,8,40,23,9,40] ?_
 refine dop 10 rfl (zQ rfl rfl rfl rfl rfl ?_)
 refine rn [24,11,3,28,7,11] ?_
 exact fin2 rfl (.cellw rfl rfl) (.tmp rfl) (fun w' hw' => ⟨by rw[←show(applyC _ v ()).1=(asnV v e c).1 from by rw[asn_ap v e c [Value.pointer (some ⟨b4,0,none⟩)] [Value.pointer (some ⟨b15,0,none⟩),Value.pointer (some ⟨p15,0,none⟩)]],←show(applyC _ v ()).2.1=(asnV v e c).2 from by rw[asn_ap v e c [Value.pointer (some ⟨b4,0,none⟩)] [Value.pointer (some ⟨b15,0,none⟩),Value.pointer (some ⟨p15,0,none⟩)]]];rfl,hw'.upd⟩) _ (.inl rfl)
theorem tC (v:V) (e:Int) (a b:List Value):applyC ([⟨248,a,fun v _=>((evR 5 v).1,(evR 5 v).2,())⟩,⟨240,b,fun v _=>((duR e v).1,(duR e v).2,())⟩]:List (Chg Unit)) v ()=((payV v e).1,(payV v e).2.2,()):=by
 unfold payV
 by_cases h1:nxt v.st 5=0
 ·rw[if_pos h1];simp[applyC,evR,h1]
 ·rw[if_neg h1]
  by_cases h2:e<v.wd
  ·rw[if_pos h2];simp[applyC,evR,duR,h1,h2]
  ·rw[if_neg h2];simp[applyC,evR,duR,h1,h2]
theorem qQ (v:V) (e:Int):(payV v e).2.1=if(payV v e).2.2=0 then v.bal else 0:=by
 unfold payV
 repeat' split
 all_goals simp_all
theorem pay_any9 (v:V) (e:Int) (w:World) (hok:okP v ()):Pur Tryz.prog 160 [v.v,.int .i64 e] w (.tuple [V.v (payV v e).1,.int .u64 (payV v e).2.1,.int .i64 (payV v e).2.2].toArray):=by
 refine g_st Tryz.func160 26 (WOK.start [] _) ?_
 refine rn [1] ?_
 refine g_op (g_box (c:=V.c v) rfl rfl rfl fun b2=>?_)
 refine g_op (g_box rfl rfl rfl fun b3=>?_)
 refine g_op (zK rfl fun b4=>?_)
 refine rn [3,3,0,1,52,3] ?_
 have hok4:∀(b13:Nat),∀c9∈([(⟨248,[Value.pointer (some ⟨b13,0,none⟩)],fun v _=>((evR 5 v).1,(evR 5 v).2,())⟩:Chg Unit),(⟨240,[Value.pointer (some ⟨b3,0,none⟩)],fun v _=>((duR e v).1,(duR e v).2,())⟩:Chg Unit)]:List (Chg Unit)),c9.OK (fun z9:Unit=>Res.star [Res.blk b13 3 [Value.int .i64 (5)],Res.blk b3 3 [Value.int .i64 (e)]]) okP:=fun b13=>(by
   intro c9 hc9
   simp only[List.mem_cons,List.not_mem_nil,or_false] at hc9
   rcases hc9 with rfl|rfl
   · exact⟨by kernel_rfl,fun v9 s9 h9 h0=>okP_ev h9,fun b9 v9 s9 w9 hw9 h9=>Chg.go_of hw9 inferInstance inferInstance (fun w8 hw8=>ev1_any b9 b13 v9 5 w8 hw8 (by decide) h9.1)⟩
   · exact⟨by kernel_rfl,fun v9 s9 h9 h0=>(by show okP (duR e v9).1 ();unfold duR;split;exact h9;exact⟨h9.1,by simp⟩),fun b9 v9 s9 w9 hw9 h9=>Chg.go_of hw9 inferInstance inferInstance (fun w8 hw8=>pay1_any b9 b3 v9 e w8 hw8)⟩)
 refine rn [0,8] ?_
 refine dreg [9] mixed rfl ?_
 refine rn [23,0,45,23,2,2] ?_
 refine dj [2,4,5,6] (fun(x:Nat)=>[(8,.pointer (some ⟨x,0,none⟩)),(9,.int .i64 (payV v e).2.2)]) (fun(x:Nat)=>[Res.blk x 52 (V.c (payV v e).1),Res.blk b2 52 (V.c v),Res.blk b4 52 [Value.int .u64 0,.int .i64 0,.bool false,.int .i64 0,.int .i64 0,.int .i64 0,.int .i64 0]]) ?_ ?_
 ·refine yG [1,8] (by kernel_rfl) (by simp) zB ⟨dpick rfl (zG [] rfl (fun w1 hw1 ho1=>by have h7:=uD (5) w1;exact h7) rfl ?_),dpick rfl (zK rfl fun b8=>?_),trivial⟩
  ·rintro b13 _
   refine ii ?_
   refine yG [3,8] (by kernel_rfl) (by simp) zB ⟨dpick rfl (g_lit rfl rfl rfl rfl rfl fun b15=>?_),dpick rfl (zK rfl fun b8=>?_),trivial⟩
   ·refine zF (b:=b15) [Value.func (.func 248) #[] [Value.pointer (some ⟨b13,0,none⟩)].toArray,Value.func (.func 240) #[] [Value.pointer (some ⟨b3,0,none⟩)].toArray] rfl ?_
    refine yG [4,8] (by kernel_rfl) (by simp) zB ⟨dpick rfl (zG _ rfl (fun w1 hw1 ho1=>by
     have h7:=Own2.unstar (Ls:=[Res.blk b13 3 [Value.int .i64 (5)],Res.blk b3 3 [Value.int .i64 (e)]]) (Ls1:=fun _=>[Res.blk b13 3 [Value.int .i64 (5)],Res.blk b3 3 [Value.int .i64 (e)]]) (fun hw2=>xH (fun z9:Unit=>Res.star [Res.blk b13 3 [Value.int .i64 (5)],Res.blk b3 3 [Value.int .i64 (e)]]) okP ([(⟨248,[Value.pointer (some ⟨b13,0,none⟩)],fun v _=>((evR 5 v).1,(evR 5 v).2,())⟩:Chg Unit),(⟨240,[Value.pointer (some ⟨b3,0,none⟩)],fun v _=>((duR e v).1,(duR e v).2,())⟩:Chg Unit)]:List (Chg Unit)) v () b15 w1 hw2 (hok4 b13) hok (Rd.star (Rd.ofBlk (b:=b15) (T:=285) (c:=[Value.func (.func 248) #[] [Value.pointer (some ⟨b13,0,none⟩)].toArray,Value.func (.func 240) #[] [Value.pointer (some ⟨b3,0,none⟩)].toArray]) hw1 rfl (by simp) rfl)) (by simp)) ho1
     exact h7) rfl ?_),dpick rfl (zK rfl fun b8=>?_),trivial⟩
    ·rintro⟨⟩ _
     refine ii ?_
     refine rn [23,5,2,23,6,40] ?_
     refine g_val 17 (v' := V.v (payV v e).1) rfl (by rw[tC v e [Value.pointer (some ⟨b13,0,none⟩)] [Value.pointer (some ⟨b3,0,none⟩)]]) ?_
     refine rn [24,7,40] ?_
     refine g_val 18 (v' := .int .i64 (payV v e).2.2) rfl (by rw[tC v e [Value.pointer (some ⟨b13,0,none⟩)] [Value.pointer (some ⟨b3,0,none⟩)]]) ?_
     refine dop 8 rfl (zK rfl fun b8=>?_)
     refine dop 9 rfl (zQ rfl rfl rfl rfl rfl ?_)
     refine rn [24,10,3,28] ?_
     exact g_jn b8
    ·refine dop 4 rfl (zG _ rfl (fun w1 hw1 ho1=>by
      have h7:=Own2.unstar (Ls:=[Res.blk b13 3 [Value.int .i64 (5)],Res.blk b3 3 [Value.int .i64 (e)]]) (Ls1:=fun _=>[Res.blk b13 3 [Value.int .i64 (5)],Res.blk b3 3 [Value.int .i64 (e)]]) (fun hw2=>xH (fun z9:Unit=>Res.star [Res.blk b13 3 [Value.int .i64 (5)],Res.blk b3 3 [Value.int .i64 (e)]]) okP ([(⟨248,[Value.pointer (some ⟨b13,0,none⟩)],fun v _=>((evR 5 v).1,(evR 5 v).2,())⟩:Chg Unit),(⟨240,[Value.pointer (some ⟨b3,0,none⟩)],fun v _=>((duR e v).1,(duR e v).2,())⟩:Chg Unit)]:List (Chg Unit)) v () b15 w1 hw2 (hok4 b13) hok (Rd.star (Rd.ofBlk (b:=b15) (T:=285) (c:=[Value.func (.func 248) #[] [Value.pointer (some ⟨b13,0,none⟩)].toArray,Value.func (.func 240) #[] [Value.pointer (some ⟨b3,0,none⟩)].toArray]) hw1 rfl (by simp) rfl)) (by simp)) ho1
      exact h7) rfl ?_)
     rintro⟨⟩ _
     refine ii ?_
     refine rn [23,5,2,23,6,40] ?_
     refine g_val 17 (v' := V.v (payV v e).1) rfl (by rw[tC v e [Value.pointer (some ⟨b13,0,none⟩)] [Value.pointer (some ⟨b3,0,none⟩)]]) ?_
     refine rn [24,7,40] ?_
     refine g_val 18 (v' := .int .i64 (payV v e).2.2) rfl (by rw[tC v e [Value.pointer (some ⟨b13,0,none⟩)] [Value.pointer (some ⟨b3,0,none⟩)]]) ?_
     refine dop 9 rfl (zQ rfl rfl rfl rfl rfl ?_)
     refine rn [24,10,3,28] ?_
     exact g_jn b8
   ·refine dop 3 rfl (g_lit rfl rfl rfl rfl rfl fun b15=>?_)
    refine zF (b:=b15) [Value.func (.func 248) #[] [Value.pointer (some ⟨b13,0,none⟩)].toArray,Value.func (.func 240) #[] [Value.pointer (some ⟨b3,0,none⟩)].toArray] rfl ?_
    refine dop 4 rfl (zG _ rfl (fun w1 hw1 ho1=>by
     have h7:=Own2.unstar (Ls:=[Res.blk b13 3 [Value.int .i64 (5)],Res.blk b3 3 [Value.int .i64 (e)]]) (Ls1:=fun _=>[Res.blk b13 3 [Value.int .i64 (5)],Res.blk b3 3 [Value.int .i64 (e)]]) (fun hw2=>xH (fun z9:Unit=>Res.star [Res.blk b13 3 [Value.int .i64 (5)],Res.blk b3 3 [Value.int .i64 (e)]]) okP ([(⟨248,[Value.pointer (some ⟨b13,0,none⟩)],fun v _=>((evR 5 v).1,(evR 5 v).2,())⟩:Chg Unit),(⟨240,[Value.pointer (some ⟨b3,0,none⟩)],fun v _=>((duR e v).1,(duR e v).2,())⟩:Chg Unit)]:List (Chg Unit)) v () b15 w1 hw2 (hok4 b13) hok (Rd.star (Rd.ofBlk (b:=b15) (T:=285) (c:=[Value.func (.func 248) #[] [Value.pointer (some ⟨b13,0,none⟩)].toArray,Value.func (.func 240) #[] [Value.pointer (some ⟨b3,0,none⟩)].toArray]) hw1 rfl (by simp) rfl)) (by simp)) ho1
     exact h7) rfl ?_)
    rintro⟨⟩ _
    refine ii ?_
    refine rn [23,5,2,23,6,40] ?_
    refine g_val 17 (v' := V.v (payV v e).1) rfl (by rw[tC v e [Value.pointer (some ⟨b13,0,none⟩)] [Value.pointer (some ⟨b3,0,none⟩)]]) ?_
    refine rn [24,7,40] ?_
    refine g_val 18 (v' := .int .i64 (payV v e).2.2) rfl (by rw[tC v e [Value.pointer (some ⟨b13,0,none⟩)] [Value.pointer (some ⟨b3,0,none⟩)]]) ?_
    refine dop 9 rfl (zQ rfl rfl rfl rfl rfl ?_)
    refine rn [24,10,3,28] ?_
    exact g_jn b8
  ·refine dop 1 rfl (zG [] rfl (fun w1 hw1 ho1=>by have h7:=uD (5) w1;exact h7) rfl ?_)
   rintro b13 _
   refine ii ?_
   refine dop 3 rfl (g_lit rfl rfl rfl rfl rfl fun b15=>?_)
   refine zF (b:=b15) [Value.func (.func 248) #[] [Value.pointer (some ⟨b13,0,none⟩)].toArray,Value.func (.func 240) #[] [Value.pointer (some ⟨b3,0,none⟩)].toArray] rfl ?_
   refine dop 4 rfl (zG _ rfl (fun w1 hw1 ho1=>by
    have h7:=Own2.unstar (Ls:=[Res.blk b13 3 [Value.int .i64 (5)],Res.blk b3 3 [Value.int .i64 (e)]]) (Ls1:=fun _=>[Res.blk b13 3 [Value.int .i64 (5)],Res.blk b3 3 [Value.int .i64 (e)]]) (fun hw2=>xH (fun z9:Unit=>Res.star [Res.blk b13 3 [Value.int .i64 (5)],Res.blk b3 3 [Value.int .i64 (e)]]) okP ([(⟨248,[Value.pointer (some ⟨b13,0,none⟩)],fun v _=>((evR 5 v).1,(evR 5 v).2,())⟩:Chg Unit),(⟨240,[Value.pointer (some ⟨b3,0,none⟩)],fun v _=>((duR e v).1,(duR e v).2,())⟩:Chg Unit)]:List (Chg Unit)) v () b15 w1 hw2 (hok4 b13) hok (Rd.star (Rd.ofBlk (b:=b15) (T:=285) (c:=[Value.func (.func 248) #[] [Value.pointer (some ⟨b13,0,none⟩)].toArray,Value.func (.func 240) #[] [Value.pointer (some ⟨b3,0,none⟩)].toArray]) hw1 rfl (by simp) rfl)) (by simp)) ho1
    exact h7) rfl ?_)
   rintro⟨⟩ _
   refine ii ?_
   refine rn [23,5,2,23,6,40] ?_
   refine g_val 17 (v' := V.v (payV v e).1) rfl (by rw[tC v e [Value.pointer (some ⟨b13,0,none⟩)] [Value.pointer (some ⟨b3,0,none⟩)]]) ?_
   refine rn [24,7,40] ?_
   refine g_val 18 (v' := .int .i64 (payV v e).2.2) rfl (by rw[tC v e [Value.pointer (some ⟨b13,0,none⟩)] [Value.pointer (some ⟨b3,0,none⟩)]]) ?_
   refine dop 9 rfl (zQ rfl rfl rfl rfl rfl ?_)
   refine rn [24,10,3,28] ?_
   exact g_jn b8
 ·rintro b8
  refine rn [7,8,1,2,51,0] ?_
  refine zC rfl (fun h1=>?_) (fun h1=>?_)
  ·have hc:¬(payV v e).2.2=0:=by simpa using h1
   refine rn [1,45,2,33,3,3,0,11,13] ?_
   exact fin3 rfl (.cellw rfl rfl) (.tmp rfl) (.tmp rfl) (fun w' hw' => ⟨by rw[qQ,if_neg hc];rfl,hw'.upd⟩) _ (.inl rfl)
  ·have hc:(payV v e).2.2=0:=by simpa using h1
   refine rn [12,7,8] ?_
   refine dreg [0,2,3] mixed rfl ?_
   refine rn [24,1,4] ?_
   refine yG [0,2] (by kernel_rfl) (by simp) zB ⟨dpick rfl (G.quiet (xO rfl rfl) rfl ?_),dpick rfl (G.quiet (yY rfl rfl) rfl ?_),trivial⟩
   ·refine yG [2,3] (by kernel_rfl) (by simp) zB ⟨dpick rfl (G.quiet (yY rfl rfl) rfl ?_),dpick rfl (zQ rfl rfl rfl rfl rfl ?_),trivial⟩
    ·refine dtail 3 rfl (zQ rfl rfl rfl rfl rfl ?_)
     refine rn [24,4,3,24,5,3,28,7,11] ?_
     exact fin3 rfl (.cellw rfl rfl) (.tmp rfl) (.tmp rfl) (fun w' hw' => ⟨by rw[qQ,if_pos hc,hc];rfl,hw'.upd⟩) _ (.inl rfl)
    ·refine dtail 2 rfl (G.quiet (yY rfl rfl) rfl ?_)
     refine rn [24,4,3,24,5,3,28,7,11] ?_
     exact fin3 rfl (.cellw rfl rfl) (.tmp rfl) (.tmp rfl) (fun w' hw' => ⟨by rw[qQ,if_pos hc,hc];rfl,hw'.upd⟩) _ (.inl rfl)
   ·refine dtail 0 rfl (G.quiet (xO rfl rfl) rfl ?_)
    refine dtail 3 rfl (zQ rfl rfl rfl rfl rfl ?_)
    refine rn [24,4,3,24,5,3,28,7,11] ?_
    exact fin3 rfl (.cellw rfl rfl) (.tmp rfl) (.tmp rfl) (fun w' hw' => ⟨by rw[qQ,if_pos hc,hc];rfl,hw'.upd⟩) _ (.inl rfl)
theorem wA (v:V) (e:Int) (c:C) (a1 a2 a3 a4:List Value):applyC ([⟨170,a1,fun v s=>((mkR e v).1,(mkR e v).2,s)⟩,⟨248,a2,fun v s=>((evR 7 v).1,(evR 7 v).2,s)⟩,⟨249,a3,fun v s=>((dlR e c.sld v).1,(dlR e c.sld v).2,s)⟩,⟨171,a4,fun v _=>((buR c v).1,0,(buR c v).2)⟩]:List (Chg Int)) v 0=((slaV v e c).1,(slaV v e c).2.2,(slaV v e c).2.1):=by
 unfold slaV
 by_cases h1:v.sl=true
 ·rw[if_pos h1];simp[applyC,mkR,h1]
 ·rw[if_neg h1]
  by_cases h2:nxt v.st 7=0
  ·rw[if_pos h2];simp[applyC,mkR,evR,h1,h2]
  ·rw[if_neg h2]
   by_cases h3:latB [e,c.sld]=false
   ·rw[if_pos h3];simp[applyC,mkR,evR,dlR,h1,h2,h3]
   ·rw[if_neg h3];simp[applyC,mkR,evR,dlR,buR,h1,h2,h3]
theorem rM (v:V) (e:Int) (c:C) (w:World) (he:I64 e) (hd:I64 c.sld) (hok:okP v ()) (hpn:0≤c.pnum) (hpd:1≤c.pden∧c.pden≤4294967296) (hnd:c.pnum≤c.pden):Pur Tryz.prog 111 [v.v,.int .i64 e,c.v] w (.tuple [V.v (slaV v e c).1,.int .u64 (slaV v e c).2.1,.int .i64 (slaV v e c).2.2].toArray):=by
 refine g_st Tryz.func111 32 (WOK.start [] _) ?_
 refine rn [1] ?_
 refine g_op (g_box (c:=V.c v) rfl rfl rfl fun b3=>?_)
 refine g_op (g_box rfl rfl rfl fun b4=>?_)
 refine g_op (g_box (c:=C.c c) rfl rfl rfl fun b5=>?_)
 refine g_op (zK rfl fun b6=>?_)
 refine rn [3,3,0,1] ?_
 refine g_op (zK rfl fun bz=>?_)
 refine rn [0,1,52,3,0,1,52,3] ?_
 have hok4:∀(b19 b23 p23:Nat),∀c9∈([(⟨170,[Value.pointer (some ⟨b4,0,none⟩)],fun v s=>((mkR e v).1,(mkR e v).2,s)⟩:Chg Int),(⟨248,[Value.pointer (some ⟨b19,0,none⟩)],fun v s=>((evR 7 v).1,(evR 7 v).2,s)⟩:Chg Int),(⟨249,[Value.pointer (some ⟨b23,0,none⟩),Value.pointer (some ⟨p23,0,none⟩)],fun v s=>((dlR e c.sld v).1,(dlR e c.sld v).2,s)⟩:Chg Int),(⟨171,[Value.pointer (some ⟨b5,0,none⟩),Value.pointer (some ⟨bz,0,none⟩)],fun v _=>((buR c v).1,0,(buR c v).2)⟩:Chg Int)]:List (Chg Int)),c9.OK (fun z9:Int=>Res.star [Res.blk b4 3 [Value.int .i64 (e)],Res.blk b19 3 [Value.int .i64 (7)],Res.blk b23 3 [Value.int .i64 (e)],Res.blk p23 3 [Value.int .i64 (c.sld)],Res.blk b5 24 c.c,Res.blk bz 22 [Value.int .u64 (z9)]]) okP:=fun b19 b23 p23=>(by
   intro c9 hc9
   simp only[List.mem_cons,List.not_mem_nil,or_false] at hc9
   rcases hc9 with rfl|rfl|rfl|rfl
   · exact⟨by kernel_rfl,fun v9 s9 h9 h0=>(by show okP (mkR e v9).1 s9;unfold mkR;split<;>exact h9),fun b9 v9 s9 w9 hw9 h9=>Chg.go_of hw9 inferInstance inferInstance (fun w8 hw8=>sla1_any b9 b4 v9 e w8 hw8)⟩
   · exact⟨by kernel_rfl,fun v9 s9 h9 h0=>okP_ev (v:=v9) h9,fun b9 v9 s9 w9 hw9 h9=>Chg.go_of hw9 inferInstance inferInstance (fun w8 hw8=>ev1_any b9 b19 v9 7 w8 hw8 (by decide) h9.1)⟩
   · exact⟨by kernel_rfl,fun v9 s9 h9 h0=>(by show okP (dlR e c.sld v9).1 s9;unfold dlR;split<;>exact h9),fun b9 v9 s9 w9 hw9 h9=>Chg.go_of hw9 inferInstance inferInstance (fun w8 hw8=>del1_any b9 b23 p23 v9 e c.sld w8 hw8 he hd)⟩
   · exact⟨by kernel_rfl,fun v9 s9 h9 h0=>⟨h9.1,by unfold buR;simp only[IntKind.wrap_u64];omega⟩,fun b9 v9 s9 w9 hw9 h9=>Chg.go_of hw9 inferInstance inferInstance (fun w8 hw8=>sla2_any b9 b5 bz v9 c s9 w8 hw8 h9.2 hpn hpd hnd)⟩)
 refine rn [0,8] ?_
 refine dregL (L0:=[Res.blk b3 52 (V.c v),Res.blk b4 3 [Value.int .i64 (e)],Res.blk b5 24 c.c]) [14] mixed rfl zB ?_
 refine rn [23,0,45,23,1,2,23,3,5,23,4,4,23,5,5,23,7,2] ?_
 refine dj [6,7,8,9] (fun(x:Nat)=>[(12,.pointer (some ⟨x,0,none⟩)),(13,.int .i64 (slaV v e c).2.2)]) (fun(x:Nat)=>[Res.blk x 52 (V.c (slaV v e c).1),Res.blk bz 22 [Value.int .u64 (slaV v e c).2.1],Res.blk b6 52 [Value.int .u64 0,.int .i64 0,.bool false,.int .i64 0,.int .i64 0,.int .i64 0,.int .i64 0]]) ?_ ?_
 ·refine yG [2,13] (by kernel_rfl) (by simp) zB ⟨dpick rfl (zG [] rfl (fun w1 hw1 ho1=>by have h7:=uD (7) w1;exact h7) rfl ?_),dpick rfl (zK rfl fun b12=>?_),trivial⟩
  ·rintro b19 _
   refine ii ?_
   refine yG [6,13] (by kernel_rfl) (by simp) zB ⟨dpick rfl (zG [] rfl (fun w1 hw1 ho1=>by have h7:=sC (e) (c.sld) w1;exact h7) rfl ?_),dpick rfl (zK rfl fun b12=>?_),trivial⟩
   ·rintro⟨b23,p23⟩ _
    refine ii ?_
    refine yG [8,13] (by kernel_rfl) (by simp) zB ⟨dpick rfl (g_lit rfl rfl rfl rfl rfl fun b25=>?_),dpick rfl (zK rfl fun b12=>?_),trivial⟩
    ·refine zF (b:=b25) [Value.func (.func 170) #[] [Value.pointer (some ⟨b4,0,none⟩)].toArray,Value.func (.func 248) #[] [Value.pointer (some ⟨b19,0,none⟩)].toArray,Value.func (.func 249) #[] [Value.pointer (some ⟨b23,0,none⟩),Value.pointer (some ⟨p23,0,none⟩)].toArray,Value.func (.func 171) #[] [Value.pointer (some ⟨b5,0,none⟩),Value.pointer (some ⟨bz,0,none⟩)].toArray] rfl ?_
     refine yG [9,13] (by kernel_rfl) (by simp) zB ⟨dpick rfl (zG _ rfl (fun w1 hw1 ho1=>by
      have h7:=Own2.unstar (Ls:=[Res.blk b4 3 [Value.int .i64 (e)],Res.blk b19 3 [Value.int .i64 (7)],Res.blk b23 3 [Value.int .i64 (e)],Res.blk p23 3 [Value.int .i64 (c.sld)],Res.blk b5 24 c.c,Res.blk bz 22 [Value.int .u64 (0)]]) (Ls1:=fun _=>[Res.blk b4 3 [Value.int .i64 (e)],Res.blk b19 3 [Value.int .i64 (7)],Res.blk b23 3 [Value.int .i64 (e)],Res.blk p23 3 [Value.int .i64 (c.sld)],Res.blk b5 24 c.c,Res.blk bz 22 [Value.int .u64 ((applyC ([(⟨170,[Value.pointer (some ⟨b4,0,none⟩)],fun v s=>((mkR e v).1,(mkR e v).2,s)⟩:Chg Int),(⟨248,[Value.pointer (some ⟨b19,0,none⟩)],fun v s=>((evR 7 v).1,(evR 7 v).2,s)⟩:Chg Int),(⟨249,[Value.pointer (some ⟨b23,0,none⟩),Value.pointer (some ⟨p23,0,none⟩)],fun v s=>((dlR e c.sld v).1,(dlR e c.sld v).2,s)⟩:Chg Int),(⟨171,[Value.pointer (some ⟨b5,0,none⟩),Value.pointer (some ⟨bz,0,none⟩)],fun v _=>((buR c v).1,0,(buR c v).2)⟩:Chg Int)]:List (Chg Int)) v 0).2.2)]]) (fun hw2=>xH (fun z9:Int=>Res.star [Res.blk b4 3 [Value.int .i64 (e)],Res.blk b19 3 [Value.int .i64 (7)],Res.blk b23 3 [Value.int .i64 (e)],Res.blk p23 3 [Value.int .i64 (c.sld)],Res.blk b5 24 c.c,Res.blk bz 22 [Value.int .u64 (z9)]]) okP ([(⟨170,[Value.pointer (some ⟨b4,0,none⟩)],fun v s=>((mkR e v).1,(mkR e v).2,s)⟩:Chg Int),(⟨248,[Value.pointer (some ⟨b19,0,none⟩)],fun v s=>((evR 7 v).1,(evR 7 v).2,s)⟩:Chg Int),(⟨249,[Value.pointer (some ⟨b23,0,none⟩),Value.pointer (some ⟨p23,0,none⟩)],fun v s=>((dlR e c.sld v).1,(dlR e c.sld v).2,s)⟩:Chg Int),(⟨171,[Value.pointer (some ⟨b5,0,none⟩),Value.pointer (some ⟨bz,0,none⟩)],fun v _=>((buR c v).1,0,(buR c v).2)⟩:Chg Int)]:List (Chg Int)) v 0 b25 w1 hw2 (hok4 b19 b23 p23) hok (Rd.star (Rd.ofBlk (b:=b25) (T:=285) (c:=[Value.func (.func 170) #[] [Value.pointer (some ⟨b4,0,none⟩)].toArray,Value.func (.func 248) #[] [Value.pointer (some ⟨b19,0,none⟩)].toArray,Value.func (.func 249) #[] [Value.pointer (some ⟨b23,0,none⟩),Value.pointer (some ⟨p23,0,none⟩)].toArray,Value.func (.func 171) #[] [Value.pointer (some ⟨b5,0,none⟩),Value.pointer (some ⟨bz,0,none⟩)].toArray]) hw1 rfl (by simp) rfl)) (by simp)) ho1
      exact h7) rfl ?_),dpick rfl (zK rfl fun b12=>?_),trivial⟩
     ·rintro⟨⟩ _
      refine ii ?_
      refine zF (b:=bz) [Value.int .u64 (slaV v e c).2.1] (by rw[wA v e c [Value.pointer (some ⟨b4,0,none⟩)] [Value.pointer (some ⟨b19,0,none⟩)] [Value.pointer (some ⟨b23,0,none⟩),Value.pointer (some ⟨p23,0,none⟩)] [Value.pointer (some ⟨b5,0,none⟩),Value.pointer (some ⟨bz,0,none⟩)]]) ?_
      refine rn [23,10,2,23,11,40] ?_
      refine g_val 27 (v' := V.v (slaV v e c).1) rfl (by rw[wA v e c [Value.pointer (some ⟨b4,0,none⟩)] [Value.pointer (some ⟨b19,0,none⟩)] [Value.pointer (some ⟨b23,0,none⟩),Value.pointer (some ⟨p23,0,none⟩)] [Value.pointer (some ⟨b5,0,none⟩),Value.pointer (some ⟨bz,0,none⟩)]]) ?_
      refine rn [24,12,40] ?_
      refine g_val 28 (v' := .int .i64 (slaV v e c).2.2) rfl (by rw[wA v e c [Value.pointer (some ⟨b4,0,none⟩)] [Value.pointer (some ⟨b19,0,none⟩)] [Value.pointer (some ⟨b23,0,none⟩),Value.pointer (some ⟨p23,0,none⟩)] [Value.pointer (some ⟨b5,0,none⟩),Value.pointer (some ⟨bz,0,none⟩)]]) ?_
      refine dop 13 rfl (zK rfl fun b12=>?_)
      refine dop 14 rfl (zQ rfl rfl rfl rfl rfl ?_)
      refine rn [24,15,3,28] ?_
      exact g_jn b12
     ·refine dop 9 rfl (zG _ rfl (fun w1 hw1 ho1=>by
       have h7:=Own2.unstar (Ls:=[Res.blk b4 3 [Value.int .i64 (e)],Res.blk b19 3 [Value.int .i64 (7)],Res.blk b23 3 [Value.int .i64 (e)],Res.blk p23 3 [Value.int .i64 (c.sld)],Res.blk b5 24 c.c,Res.blk bz 22 [Value.int .u64 (0)]]) (Ls1:=fun _=>[Res.blk b4 3 [Value.int .i64 (e)],Res.blk b19 3 [Value.int .i64 (7)],Res.blk b23 3 [Value.int .i64 (e)],Res.blk p23 3 [Value.int .i64 (c.sld)],Res.blk b5 24 c.c,Res.blk bz 22 [Value.int .u64 ((applyC ([(⟨170,[Value.pointer (some ⟨b4,0,none⟩)],fun v s=>((mkR e v).1,(mkR e v).2,s)⟩:Chg Int),(⟨248,[Value.pointer (some ⟨b19,0,none⟩)],fun v s=>((evR 7 v).1,(evR 7 v).2,s)⟩:Chg Int),(⟨249,[Value.pointer (some ⟨b23,0,none⟩),Value.pointer (some ⟨p23,0,none⟩)],fun v s=>((dlR e c.sld v).1,(dlR e c.sld v).2,s)⟩:Chg Int),(⟨171,[Value.pointer (some ⟨b5,0,none⟩),Value.pointer (some ⟨bz,0,none⟩)],fun v _=>((buR c v).1,0,(buR c v).2)⟩:Chg Int)]:List (Chg Int)) v 0).2.2)]]) (fun hw2=>xH (fun z9:Int=>Res.star [Res.blk b4 3 [Value.int .i64 (e)],Res.blk b19 3 [Value.int .i64 (7)],Res.blk b23 3 [Value.int .i64 (e)],Res.blk p23 3 [Value.int .i64 (c.sld)],Res.blk b5 24 c.c,Res.blk bz 22 [Value.int .u64 (z9)]]) okP ([(⟨170,[Value.pointer (some ⟨b4,0,none⟩)],fun v s=>((mkR e v).1,(mkR e v).2,s)⟩:Chg Int),(⟨248,[Value.pointer (some ⟨b19,0,none⟩)],fun v s=>((evR 7 v).1,(evR 7 v).2,s)⟩:Chg Int),(⟨249,[Value.pointer (some ⟨b23,0,none⟩),Value.pointer (some ⟨p23,0,none⟩)],fun v s=>((dlR e c.sld v).1,(dlR e c.sld v).2,s)⟩:Chg Int),(⟨171,[Value.pointer (some ⟨b5,0,none⟩),Value.pointer (some ⟨bz,0,none⟩)],fun v _=>((buR c v).1,0,(buR c v).2)⟩:Chg Int)]:List (Chg Int)) v 0 b25 w1 hw2 (hok4 b19 b23 p23) hok (Rd.star (Rd.ofBlk (b:=b25) (T:=285) (c:=[Value.func (.func 170) #[] [Value.pointer (some ⟨b4,0,none⟩)].toArray,Value.func (.func 248) #[] [Value.pointer (some ⟨b19,0,none⟩)].toArray,Value.func (.func 249) #[] [Value.pointer (some ⟨b23,0,none⟩),Value.pointer (some ⟨p23,0,none⟩)].toArray,Value.func (.func 171) #[] [Value.pointer (some ⟨b5,0,none⟩),Value.pointer (some ⟨bz,0,none⟩)].toArray]) hw1 rfl (by simp) rfl)) (by simp)) ho1
       exact h7) rfl ?_)
      rintro⟨⟩ _
      refine ii ?_
      refine zF (b:=bz) [Value.int .u64 (slaV v e c).2.1] (by rw[wA v e c [Value.pointer (some ⟨b4,0,none⟩)] [Value.pointer (some ⟨b19,0,none⟩)] [Value.pointer (some ⟨b23,0,none⟩),Value.pointer (some ⟨p23,0,none⟩)] [Value.pointer (some ⟨b5,0,none⟩),Value.pointer (some ⟨bz,0,none⟩)]]) ?_
      refine rn [23,10,2,23,11,40] ?_
      refine g_val 27 (v' := V.v (slaV v e c).1) rfl (by rw[wA v e c [Value.pointer (some ⟨b4,0,none⟩)] [Value.pointer (some ⟨b19,0,none⟩)] [Value.pointer (some ⟨b23,0,none⟩),Value.pointer (some ⟨p23,0,none⟩)] [Value.pointer (some ⟨b5,0,none⟩),Value.pointer (some ⟨bz,0,none⟩)]]) ?_
      refine rn [24,12,40] ?_
      refine g_val 28 (v' := .int .i64 (slaV v e c).2.2) rfl (by rw[wA v e c [Value.pointer (some ⟨b4,0,none⟩)] [Value.pointer (some ⟨b19,0,none⟩)] [Value.pointer (some ⟨b23,0,none⟩),Value.pointer (some ⟨p23,0,none⟩)] [Value.pointer (some ⟨b5,0,none⟩),Value.pointer (some ⟨bz,0,none⟩)]]) ?_
      refine dop 14 rfl (zQ rfl rfl rfl rfl rfl ?_)
      refine rn [24,15,3,28] ?_
      exact g_jn b12
    ·refine dop 8 rfl (g_lit rfl rfl rfl rfl rfl fun b25=>?_)
     refine zF (b:=b25) [Value.func (.func 170) #[] [Value.pointer (some ⟨b4,0,none⟩)].toArray,Value.func (.func 248) #[] [Value.pointer (some ⟨b19,0,none⟩)].toArray,Value.func (.func 249) #[] [Value.pointer (some ⟨b23,0,none⟩),Value.pointer (some ⟨p23,0,none⟩)].toArray,Value.func (.func 171) #[] [Value.pointer (some ⟨b5,0,none⟩),Value.pointer (some ⟨bz,0,none⟩)].toArray] rfl ?_
     refine dop 9 rfl (zG _ rfl (fun w1 hw1 ho1=>by
      have h7:=Own2.unstar (Ls:=[Res.blk b4 3 [Value.int .i64 (e)],Res.blk b19 3 [Value.int .i64 (7)],Res.blk b23 3 [Value.int .i64 (e)],Res.blk p23 3 [Value.int .i64 (c.sld)],Res.blk b5 24 c.c,Res.blk bz 22 [Value.int .u64 (0)]]) (Ls1:=fun _=>[Res.blk b4 3 [Value.int .i64 (e)],Res.blk b19 3 [Value.int .i64 (7)],Res.blk b23 3 [Value.int .i64 (e)],Res.blk p23 3 [Value.int .i64 (c.sld)],Res.blk b5 24 c.c,Res.blk bz 22 [Value.int .u64 ((applyC ([(⟨170,[Value.pointer (some ⟨b4,0,none⟩)],fun v s=>((mkR e v).1,(mkR e v).2,s)⟩:Chg Int),(⟨248,[Value.pointer (some ⟨b19,0,none⟩)],fun v s=>((evR 7 v).1,(evR 7 v).2,s)⟩:Chg Int),(⟨249,[Value.pointer (some ⟨b23,0,none⟩),Value.pointer (some ⟨p23,0,none⟩)],fun v s=>((dlR e c.sld v).1,(dlR e c.sld v).2,s)⟩:Chg Int),(⟨171,[Value.pointer (some ⟨b5,0,none⟩),Value.pointer (some ⟨bz,0,none⟩)],fun v _=>((buR c v).1,0,(buR c v).2)⟩:Chg Int)]:List (Chg Int)) v 0).2.2)]]) (fun hw2=>xH (fun z9:Int=>Res.star [Res.blk b4 3 [Value.int .i64 (e)],Res.blk b19 3 [Value.int .i64 (7)],Res.blk b23 3 [Value.int .i64 (e)],Res.blk p23 3 [Value.int .i64 (c.sld)],Res.blk b5 24 c.c,Res.blk bz 22 [Value.int .u64 (z9)]]) okP ([(⟨170,[Value.pointer (some ⟨b4,0,none⟩)],fun v s=>((mkR e v).1,(mkR e v).2,s)⟩:Chg Int),(⟨248,[Value.pointer (some ⟨b19,0,none⟩)],fun v s=>((evR 7 v).1,(evR 7 v).2,s)⟩:Chg Int),(⟨249,[Value.pointer (some ⟨b23,0,none⟩),Value.pointer (some ⟨p23,0,none⟩)],fun v s=>((dlR e c.sld v).1,(dlR e c.sld v).2,s)⟩:Chg Int),(⟨171,[Value.pointer (some ⟨b5,0,none⟩),Value.pointer (some ⟨bz,0,none⟩)],fun v _=>((buR c v).1,0,(buR c v).2)⟩:Chg Int)]:List (Chg Int)) v 0 b25 w1 hw2 (hok4 b19 b23 p23) hok (Rd.star (Rd.ofBlk (b:=b25) (T:=285) (c:=[Value.func (.func 170) #[] [Value.pointer (some ⟨b4,0,none⟩)].toArray,Value.func (.func 248) #[] [Value.pointer (some ⟨b19,0,none⟩)].toArray,Value.func (.func 249) #[] [Value.pointer (some ⟨b23,0,none⟩),Value.pointer (some ⟨p23,0,none⟩)].toArray,Value.func (.func 171) #[] [Value.pointer (some ⟨b5,0,none⟩),Value.pointer (some ⟨bz,0,none⟩)].toArray]) hw1 rfl (by simp) rfl)) (by simp)) ho1
      exact h7) rfl ?_)
     rintro⟨⟩ _
     refine ii ?_
     refine zF (b:=bz) [Value.int .u64 (slaV v e c).2.1] (by rw[wA v e c [Value.pointer (some ⟨b4,0,none⟩)] [Value.pointer (some ⟨b19,0,none⟩)] [Value.pointer (some ⟨b23,0,none⟩),Value.pointer (some ⟨p23,0,none⟩)] [Value.pointer (some ⟨b5,0,none⟩),Value.pointer (some ⟨bz,0,none⟩)]]) ?_
     refine rn [23,10,2,23,11,40] ?_
     refine g_val 27 (v' := V.v (slaV v e c).1) rfl (by rw[wA v e c [Value.pointer (some ⟨b4,0,none⟩)] [Value.pointer (some ⟨b19,0,none⟩)] [Value.pointer (some ⟨b23,0,none⟩),Value.pointer (some ⟨p23,0,none⟩)] [Value.pointer (some ⟨b5,0,none⟩),Value.pointer (some ⟨bz,0,none⟩)]]) ?_
     refine rn [24,12,40] ?_
     refine g_val 28 (v' := .int .i64 (slaV v e c).2.2) rfl (by rw[wA v e c [Value.pointer (some ⟨b4,0,none⟩)] [Value.pointer (some ⟨b19,0,none⟩)] [Value.pointer (some ⟨b23,0,none⟩),Value.pointer (some ⟨p23,0,none⟩)] [Value.pointer (some ⟨b5,0,none⟩),Value.pointer (some ⟨bz,0,none⟩)]]) ?_
     refine dop 14 rfl (zQ rfl rfl rfl rfl rfl ?_)
     refine rn [24,15,3,28] ?_
     exact g_jn b12
   ·refine dop 6 rfl (zG [] rfl (fun w1 hw1 ho1=>by have h7:=sC (e) (c.sld) w1;exact h7) rfl ?_)
    rintro⟨b23,p23⟩ _
    refine ii ?_
    refine dop 8 rfl (g_lit rfl rfl rfl rfl rfl fun b25=>?_)
    refine zF (b:=b25) [Value.func (.func 170) #[] [Value.pointer (some ⟨b4,0,none⟩)].toArray,Value.func (.func 248) #[] [Value.pointer (some ⟨b19,0,none⟩)].toArray,Value.func (.func 249) #[] [Value.pointer (some ⟨b23,0,none⟩),Value.pointer (some ⟨p23,0,none⟩)].toArray,Value.func (.func 171) #[] [Value.pointer (some ⟨b5,0,none⟩),Value.pointer (some ⟨bz,0,none⟩)].toArray] rfl ?_
    refine dop 9 rfl (zG _ rfl (fun w1 hw1 ho1=>by
     have h7:=Own2.unstar (Ls:=[Res.blk b4 3 [Value.int .i64 (e)],Res.blk b19 3 [Value.int .i64 (7)],Res.blk b23 3 [Value.int .i64 (e)],Res.blk p23 3 [Value.int .i64 (c.sld)],Res.blk b5 24 c.c,Res.blk bz 22 [Value.int .u64 (0)]]) (Ls1:=fun _=>[Res.blk b4 3 [Value.int .i64 (e)],Res.blk b19 3 [Value.int .i64 (7)],Res.blk b23 3 [Value.int .i64 (e)],Res.blk p23 3 [Value.int .i64 (c.sld)],Res.blk b5 24 c.c,Res.blk bz 22 [Value.int .u64 ((applyC ([(⟨170,[Value.pointer (some ⟨b4,0,none⟩)],fun v s=>((mkR e v).1,(mkR e v).2,s)⟩:Chg Int),(⟨248,[Value.pointer (some ⟨b19,0,none⟩)],fun v s=>((evR 7 v).1,(evR 7 v).2,s)⟩:Chg Int),(⟨249,[Value.pointer (some ⟨b23,0,none⟩),Value.pointer (some ⟨p23,0,none⟩)],fun v s=>((dlR e c.sld v).1,(dlR e c.sld v).2,s)⟩:Chg Int),(⟨171,[Value.pointer (some ⟨b5,0,none⟩),Value.pointer (some ⟨bz,0,none⟩)],fun v _=>((buR c v).1,0,(buR c v).2)⟩:Chg Int)]:List (Chg Int)) v 0).2.2)]]) (fun hw2=>xH (fun z9:Int=>Res.star [Res.blk b4 3 [Value.int .i64 (e)],Res.blk b19 3 [Value.int .i64 (7)],Res.blk b23 3 [Value.int .i64 (e)],Res.blk p23 3 [Value.int .i64 (c.sld)],Res.blk b5 24 c.c,Res.blk bz 22 [Value.int .u64 (z9)]]) okP ([(⟨170,[Value.pointer (some ⟨b4,0,none⟩)],fun v s=>((mkR e v).1,(mkR e v).2,s)⟩:Chg Int),(⟨248,[Value.pointer (some ⟨b19,0,none⟩)],fun v s=>((evR 7 v).1,(evR 7 v).2,s)⟩:Chg Int),(⟨249,[Value.pointer (some ⟨b23,0,none⟩),Value.pointer (some ⟨p23,0,none⟩)],fun v s=>((dlR e c.sld v).1,(dlR e c.sld v).2,s)⟩:Chg Int),(⟨171,[Value.pointer (some ⟨b5,0,none⟩),Value.pointer (some ⟨bz,0,none⟩)],fun v _=>((buR c v).1,0,(buR c v).2)⟩:Chg Int)]:List (Chg Int)) v 0 b25 w1 hw2 (hok4 b19 b23 p23) hok (Rd.star (Rd.ofBlk (b:=b25) (T:=285) (c:=[Value.func (.func 170) #[] [Value.pointer (some ⟨b4,0,none⟩)].toArray,Value.func (.func 248) #[] [Value.pointer (some ⟨b19,0,none⟩)].toArray,Value.func (.func 249) #[] [Value.pointer (some ⟨b23,0,none⟩),Value.pointer (some ⟨p23,0,none⟩)].toArray,Value.func (.func 171) #[] [Value.pointer (some ⟨b5,0,none⟩),Value.pointer (some ⟨bz,0,none⟩)].toArray]) hw1 rfl (by simp) rfl)) (by simp)) ho1
     exact h7) rfl ?_)
    rintro⟨⟩ _
    refine ii ?_
    refine zF (b:=bz) [Value.int .u64 (slaV v e c).2.1] (by rw[wA v e c [Value.pointer (some ⟨b4,0,none⟩)] [Value.pointer (some ⟨b19,0,none⟩)] [Value.pointer (some ⟨b23,0,none⟩),Value.pointer (some ⟨p23,0,none⟩)] [Value.pointer (some ⟨b5,0,none⟩),Value.pointer (some ⟨bz,0,none⟩)]]) ?_
    refine rn [23,10,2,23,11,40] ?_
    refine g_val 27 (v' := V.v (slaV v e c).1) rfl (by rw[wA v e c [Value.pointer (some ⟨b4,0,none⟩)] [Value.pointer (some ⟨b19,0,none⟩)] [Value.pointer (some ⟨b23,0,none⟩),Value.pointer (some ⟨p23,0,none⟩)] [Value.pointer (some ⟨b5,0,none⟩),Value.pointer (some ⟨bz,0,none⟩)]]) ?_
    refine rn [24,12,40] ?_
    refine g_val 28 (v' := .int .i64 (slaV v e c).2.2) rfl (by rw[wA v e c [Value.pointer (some ⟨b4,0,none⟩)] [Value.pointer (some ⟨b19,0,none⟩)] [Value.pointer (some ⟨b23,0,none⟩),Value.pointer (some ⟨p23,0,none⟩)] [Value.pointer (some ⟨b5,0,none⟩),Value.pointer (some ⟨bz,0,none⟩)]]) ?_
    refine dop 14 rfl (zQ rfl rfl rfl rfl rfl ?_)
    refine rn [24,15,3,28] ?_
    exact g_jn b12
  ·refine dop 2 rfl (zG [] rfl (fun w1 hw1 ho1=>by have h7:=uD (7) w1;exact h7) rfl ?_)
   rintro b19 _
   refine ii ?_
   refine dop 6 rfl (zG [] rfl (fun w1 hw1 ho1=>by have h7:=sC (e) (c.sld) w1;exact h7) rfl ?_)
   rintro⟨b23,p23⟩ _
   refine ii ?_
   refine dop 8 rfl (g_lit rfl rfl rfl rfl rfl fun b25=>?_)
   refine zF (b:=b25) [Value.func (.func 170) #[] [Value.pointer (some ⟨b4,0,none⟩)].toArray,Value.func (.func 248) #[] [Value.pointer (some ⟨b19,0,none⟩)].toArray,Value.func (.func 249) #[] [Value.pointer (some ⟨b23,0,none⟩),Value.pointer (some ⟨p23,0,none⟩)].toArray,Value.func (.func 171) #[] [Value.pointer (some ⟨b5,0,none⟩),Value.pointer (some ⟨bz,0,none⟩)].toArray] rfl ?_
   refine dop 9 rfl (zG _ rfl (fun w1 hw1 ho1=>by
    have h7:=Own2.unstar (Ls:=[Res.blk b4 3 [Value.int .i64 (e)],Res.blk b19 3 [Value.int .i64 (7)],Res.blk b23 3 [Value.int .i64 (e)],Res.blk p23 3 [Value.int .i64 (c.sld)],Res.blk b5 24 c.c,Res.blk bz 22 [Value.int .u64 (0)]]) (Ls1:=fun _=>[Res.blk b4 3 [Value.int .i64 (e)],Res.blk b19 3 [Value.int .i64 (7)],Res.blk b23 3 [Value.int .i64 (e)],Res.blk p23 3 [Value.int .i64 (c.sld)],Res.blk b5 24 c.c,Res.blk bz 22 [Value.int .u64 ((applyC ([(⟨170,[Value.pointer (some ⟨b4,0,none⟩)],fun v s=>((mkR e v).1,(mkR e v).2,s)⟩:Chg Int),(⟨248,[Value.pointer (some ⟨b19,0,none⟩)],fun v s=>((evR 7 v).1,(evR 7 v).2,s)⟩:Chg Int),(⟨249,[Value.pointer (some ⟨b23,0,none⟩),Value.pointer (some ⟨p23,0,none⟩)],fun v s=>((dlR e c.sld v).1,(dlR e c.sld v).2,s)⟩:Chg Int),(⟨171,[Value.pointer (some ⟨b5,0,none⟩),Value.pointer (some ⟨bz,0,none⟩)],fun v _=>((buR c v).1,0,(buR c v).2)⟩:Chg Int)]:List (Chg Int)) v 0).2.2)]]) (fun hw2=>xH (fun z9:Int=>Res.star [Res.blk b4 3 [Value.int .i64 (e)],Res.blk b19 3 [Value.int .i64 (7)],Res.blk b23 3 [Value.int .i64 (e)],Res.blk p23 3 [Value.int .i64 (c.sld)],Res.blk b5 24 c.c,Res.blk bz 22 [Value.int .u64 (z9)]]) okP ([(⟨170,[Value.pointer (some ⟨b4,0,none⟩)],fun v s=>((mkR e v).1,(mkR e v).2,s)⟩:Chg Int),(⟨248,[Value.pointer (some ⟨b19,0,none⟩)],fun v s=>((evR 7 v).1,(evR 7 v).2,s)⟩:Chg Int),(⟨249,[Value.pointer (some ⟨b23,0,none⟩),Value.pointer (some ⟨p23,0,none⟩)],fun v s=>((dlR e c.sld v).1,(dlR e c.sld v).2,s)⟩:Chg Int),(⟨171,[Value.pointer (some ⟨b5,0,none⟩),Value.pointer (some ⟨bz,0,none⟩)],fun v _=>((buR c v).1,0,(buR c v).2)⟩:Chg Int)]:List (Chg Int)) v 0 b25 w1 hw2 (hok4 b19 b23 p23) hok (Rd.star (Rd.ofBlk (b:=b25) (T:=285) (c:=[Value.func (.func 170) #[] [Value.pointer (some ⟨b4,0,none⟩)].toArray,Value.func (.func 248) #[] [Value.pointer (some ⟨b19,0,none⟩)].toArray,Value.func (.func 249) #[] [Value.pointer (some ⟨b23,0,none⟩),Value.pointer (some ⟨p23,0,none⟩)].toArray,Value.func (.func 171) #[] [Value.pointer (some ⟨b5,0,none⟩),Value.pointer (some ⟨bz,0,none⟩)].toArray]) hw1 rfl (by simp) rfl)) (by simp)) ho1
    exact h7) rfl ?_)
   rintro⟨⟩ _
   refine ii ?_
   refine zF (b:=bz) [Value.int .u64 (slaV v e c).2.1] (by rw[wA v e c [Value.pointer (some ⟨b4,0,none⟩)] [Value.pointer (some ⟨b19,0,none⟩)] [Value.pointer (some ⟨b23,0,none⟩),Value.pointer (some ⟨p23,0,none⟩)] [Value.pointer (some ⟨b5,0,none⟩),Value.pointer (some ⟨bz,0,none⟩)]]) ?_
   refine rn [23,10,2,23,11,40] ?_
   refine g_val 27 (v' := V.v (slaV v e c).1) rfl (by rw[wA v e c [Value.pointer (some ⟨b4,0,none⟩)] [Value.pointer (some ⟨b19,0,none⟩)] [Value.pointer (some ⟨b23,0,none⟩),Value.pointer (some ⟨p23,0,none⟩)] [Value.pointer (some ⟨b5,0,none⟩),Value.pointer (some ⟨bz,0,none⟩)]]) ?_
   refine rn [24,12,40] ?_
   refine g_val 28 (v' := .int .i64 (slaV v e c).2.2) rfl (by rw[wA v e c [Value.pointer (some ⟨b4,0,none⟩)] [Value.pointer (some ⟨b19,0,none⟩)] [Value.pointer (some ⟨b23,0,none⟩),Value.pointer (some ⟨p23,0,none⟩)] [Value.pointer (some ⟨b5,0,none⟩),Value.pointer (some ⟨bz,0,none⟩)]]) ?_
   refine dop 14 rfl (zQ rfl rfl rfl rfl rfl ?_)
   refine rn [24,15,3,28] ?_
   exact g_jn b12
 ·rintro b12
  refine rn [7,8] ?_
  refine dreg [0,1,3] mixed rfl ?_
  refine rn [24,2,2] ?_
  refine yG [0,1] (by kernel_rfl) (by simp) zB ⟨dpick rfl (G.quiet (xO rfl rfl) rfl ?_),dpick rfl (G.quiet (yY rfl rfl) rfl ?_),trivial⟩
  ·refine yG [1,3] (by kernel_rfl) (by simp) zB ⟨dpick rfl (G.quiet (yY rfl rfl) rfl ?_),dpick rfl (zQ rfl rfl rfl rfl rfl ?_),trivial⟩
   ·refine dtail 3 rfl (zQ rfl rfl rfl rfl rfl ?_)
    refine rn [24,4,3,24,5,3,28,7,11] ?_
    exact fin3 rfl (.cellw rfl rfl) (.tmp rfl) (.tmp rfl) (fun w' hw' => ⟨by rfl,hw'.upd⟩) _ (.inl rfl)
   ·refine dtail 1 rfl (G.quiet (yY rfl rfl) rfl ?_)
    refine rn [24,4,3,24,5,3,28,7,11] ?_
    exact fin3 rfl (.cellw rfl rfl) (.tmp rfl) (.tmp rfl) (fun w' hw' => ⟨by rfl,hw'.upd⟩) _ (.inl rfl)
  ·refine dtail 0 rfl (G.quiet (xO rfl rfl) rfl ?_)
   refine dtail 3 rfl (zQ rfl rfl rfl rfl rfl ?_)
   refine rn [24,4,3,24,5,3,28,7,11] ?_
   exact fin3 rfl (.cellw rfl rfl) (.tmp rfl) (.tmp rfl) (fun w' hw' => ⟨by rfl,hw'.upd⟩) _ (.inl rfl)
theorem wO (y lo hi:Int) (w:World) : Pur Tryz.prog 206 [.int .i64 y,.int .i64 lo,.int .i64 hi] w (.bool (decide (lo≤y) && decide (y≤hi))):=by
 refine g_st Tryz.func206 15 (WOK.start [] _) ?_
 refine rn [1,3,0,1,2,2,56,2] ?_
 refine zU 10 rfl (fun h1=>?_) (fun h1=>?_)
 ·refine rn [22,2,22,2,22,56,41,3,0,11] ?_
  exact fin1 rfl (.tmp rfl) (fun w' hw' => ⟨by first|(simp_all;done)|(simp_all;omega),hw'.upd⟩) _ (.inl rfl)
 ·refine rn [21,21,21,42,3,0,11] ?_
  exact fin1 rfl (.tmp rfl) (fun w' hw' => ⟨by first|(simp_all;done)|(simp_all;omega),hw'.upd⟩) _ (.inl rfl)
theorem rF (y lo hi:Int) (w:World) : Pur Tryz.prog 211 [.int .u64 y,.int .u64 lo,.int .u64 hi] w (.bool (decide (lo≤y) && decide (y≤hi))):=by
 refine g_st Tryz.func211 15 (WOK.start [] _) ?_
 refine rn [1,3,0,1,2,2,56,2] ?_
 refine zU 10 rfl (fun h1=>?_) (fun h1=>?_)
 ·refine rn [22,2,22,2,22,56,41,3,0,11] ?_
  exact fin1 rfl (.tmp rfl) (fun w' hw' => ⟨by first|(simp_all;done)|(simp_all;omega),hw'.upd⟩) _ (.inl rfl)
 ·refine rn [21,21,21,42,3,0,11] ?_
  exact fin1 rfl (.tmp rfl) (fun w' hw' => ⟨by first|(simp_all;done)|(simp_all;omega),hw'.upd⟩) _ (.inl rfl)
theorem cnd1 (c:C) (w:World) (hc:chk c=0) (hk:Cok c):Pur Tryz.prog 205 [c.v] w (.bool true):=by
 refine g_st Tryz.func205 6 (WOK.start [] _) ?_
 refine rn [1] ?_
 refine g_op (g_box (c:=C.c c) rfl rfl rfl fun b1=>?_)
 refine rn [3,0,1,4,5] ?_
 refine g_op (zI rfl (fun w1 hw1=>wO _ _ _ w1) rfl ?_)
 refine rn [3,0,11] ?_
 exact fin1 rfl (.tmp rfl) (fun w' hw' => ⟨by have h9:=zT hc 1 (by omega) (by omega);simp[rightB,btw] at h9;simp<;>omega,hw'.upd⟩) _ (.inl rfl)
theorem cnd2 (c:C) (w:World) (hc:chk c=0) (hk:Cok c):Pur Tryz.prog 207 [c.v] w (.bool true):=by
 refine g_st Tryz.func207 6 (WOK.start [] _) ?_
 refine rn [1] ?_
 refine g_op (g_box (c:=C.c c) rfl rfl rfl fun b1=>?_)
 refine rn [3,0,1,4,5] ?_
 refine g_op (zI rfl (fun w1 hw1=>wO _ _ _ w1) rfl ?_)
 refine rn [3,0,11] ?_
 exact fin1 rfl (.tmp rfl) (fun w' hw' => ⟨by have h9:=zT hc 2 (by omega) (by omega);simp[rightB,btw] at h9;simp<;>omega,hw'.upd⟩) _ (.inl rfl)
theorem cnd3 (c:C) (w:World) (hc:chk c=0) (hk:Cok c):Pur Tryz.prog 208 [c.v] w (.bool true):=by
 refine g_st Tryz.func208 6 (WOK.start [] _) ?_
 refine rn [1] ?_
 refine g_op (g_box (c:=C.c c) rfl rfl rfl fun b1=>?_)
 refine rn [3,0,1,4,5,55,3,0,11] ?_
 exact fin1 rfl (.tmp rfl) (fun w' hw' => ⟨by have h9:=zT hc 3 (by omega) (by omega);simp[rightB,btw] at h9;simp<;>omega,hw'.upd⟩) _ (.inl rfl)
theorem cnd4 (c:C) (w:World) (hc:chk c=0) (hk:Cok c):Pur Tryz.prog 209 [c.v] w (.bool true):=by
 refine g_st Tryz.func209 8 (WOK.start [] _) ?_
 refine rn [1] ?_
 refine g_op (g_box (c:=C.c c) rfl rfl rfl fun b1=>?_)
 refine rn [3,0,1,4,5,4,5,53,3,0,11] ?_
 exact fin1 rfl (.tmp rfl) (fun w' hw' => ⟨by have h9:=zT hc 4 (by omega) (by omega);simp[rightB,btw] at h9;simp<;>omega,hw'.upd⟩) _ (.inl rfl)
theorem cnd5 (c:C) (w:World) (hc:chk c=0) (hk:Cok c):Pur Tryz.prog 210 [c.v] w (.bool true):=by
 refine g_st Tryz.func210 8 (WOK.start [] _) ?_
 refine rn [1] ?_
 refine g_op (g_box (c:=C.c c) rfl rfl rfl fun b1=>?_)
 refine rn [3,0,1,4,5,4,5] ?_
 refine g_op (zI rfl (fun w1 hw1=>rF _ _ _ w1) rfl ?_)
 refine rn [3,0,11] ?_
 exact fin1 rfl (.tmp rfl) (fun w' hw' => ⟨by have h9:=zT hc 5 (by omega) (by omega);simp[rightB,btw] at h9;simp<;>omega,hw'.upd⟩) _ (.inl rfl)
theorem cnd6 (c:C) (w:World) (hc:chk c=0) (hk:Cok c):Pur Tryz.prog 212 [c.v] w (.bool true):=by
 refine g_st Tryz.func212 8 (WOK.start [] _) ?_
 refine rn [1] ?_
 refine g_op (g_box (c:=C.c c) rfl rfl rfl fun b1=>?_)
 refine rn [3,0,1,4,5,4,5] ?_
 refine g_op (zI rfl (fun w1 hw1=>rF _ _ _ w1) rfl ?_)
 refine rn [3,0,11] ?_
 exact fin1 rfl (.tmp rfl) (fun w' hw' => ⟨by have h9:=zT hc 6 (by omega) (by omega);simp[rightB,btw] at h9;simp<;>omega,hw'.upd⟩) _ (.inl rfl)
theorem cnd7 (c:C) (w:World) (hc:chk c=0) (hk:Cok c):Pur Tryz.prog 213 [c.v] w (.bool true):=by
 refine g_st Tryz.func213 10 (WOK.start [] _) ?_
 refine rn [1] ?_
 refine g_op (g_box (c:=C.c c) rfl rfl rfl fun b1=>?_)
 refine rn [3,0,1,4,5,4,5,4,5] ?_
 refine g_op (zI rfl (fun w1 hw1=>rF _ _ _ w1) rfl ?_)
 refine rn [3,0,11] ?_
 exact fin1 rfl (.tmp rfl) (fun w' hw' => ⟨by have h9:=zT hc 7 (by omega) (by omega);simp[rightB,btw] at h9;simp<;>omega,hw'.upd⟩) _ (.inl rfl)
theorem cnd8 (c:C) (w:World) (hc:chk c=0) (hk:Cok c):Pur Tryz.prog 214 [c.v] w (.bool true):=by
 refine g_st Tryz.func214 6 (WOK.start [] _) ?_
 refine rn [1] ?_
 refine g_op (g_box (c:=C.c c) rfl rfl rfl fun b1=>?_)
 refine rn [3,0,1,4,5] ?_
 refine g_op (zI rfl (fun w1 hw1=>rF _ _ _ w1) rfl ?_)
 refine rn [3,0,11] ?_
 exact fin1 rfl (.tmp rfl) (fun w' hw' => ⟨by have h9:=zT hc 8 (by omega) (by omega);simp[rightB,btw] at h9;simp<;>omega,hw'.upd⟩) _ (.inl rfl)
theorem cnd9 (c:C) (w:World) (hc:chk c=0) (hk:Cok c):Pur Tryz.prog 215 [c.v] w (.bool true):=by
 refine g_st Tryz.func215 6 (WOK.start [] _) ?_
 refine rn [1] ?_
 refine g_op (g_box (c:=C.c c) rfl rfl rfl fun b1=>?_)
 refine rn [3,0,1,4,5,55,3,0,11] ?_
 exact fin1 rfl (.tmp rfl) (fun w' hw' => ⟨by have h9:=zT hc 9 (by omega) (by omega);simp[rightB,btw] at h9;simp<;>omega,hw'.upd⟩) _ (.inl rfl)
theorem cnd10 (c:C) (w:World) (hc:chk c=0) (hk:Cok c):Pur Tryz.prog 216 [c.v] w (.bool true):=by
 refine g_st Tryz.func216 6 (WOK.start [] _) ?_
 refine rn [1] ?_
 refine g_op (g_box (c:=C.c c) rfl rfl rfl fun b1=>?_)
 refine rn [3,0,1,4,5,56,3,0,11] ?_
 exact fin1 rfl (.tmp rfl) (fun w' hw' => ⟨by have h9:=zT hc 10 (by omega) (by omega);simp[rightB,btw] at h9;simp<;>omega,hw'.upd⟩) _ (.inl rfl)
theorem cnd11 (c:C) (w:World) (hc:chk c=0) (hk:Cok c):Pur Tryz.prog 217 [c.v] w (.bool true):=by
 refine g_st Tryz.func217 6 (WOK.start [] _) ?_
 refine rn [1] ?_
 refine g_op (g_box (c:=C.c c) rfl rfl rfl fun b1=>?_)
 refine rn [3,0,1,4,5] ?_
 refine g_op (zI rfl (fun w1 hw1=>wO _ _ _ w1) rfl ?_)
 refine rn [3,0,11] ?_
 exact fin1 rfl (.tmp rfl) (fun w' hw' => ⟨by have h9:=zT hc 11 (by omega) (by omega);simp[rightB,btw] at h9;simp<;>omega,hw'.upd⟩) _ (.inl rfl)
theorem cnd12 (c:C) (w:World) (hc:chk c=0) (hk:Cok c):Pur Tryz.prog 218 [c.v] w (.bool true):=by
 refine g_st Tryz.func218 9 (WOK.start [] _) ?_
 have g1:=hk.vis;have g2:=hk.pays;have g3:=hk.unb
 refine rn [1] ?_
 refine g_op (g_box (c:=C.c c) rfl rfl rfl fun b1=>?_)
 refine rn [3,0,1,4,5,4,5] ?_
 refine s_q (yJ (z:=c.unb+1) rfl rfl (wi64 (by omega) (by omega))) rfl ?_
 refine g_op (zI rfl (fun w1 hw1=>wO _ _ _ w1) rfl ?_)
 refine rn [3,0,11] ?_
 exact fin1 rfl (.tmp rfl) (fun w' hw' => ⟨by have h9:=zT hc 12 (by omega) (by omega);simp[rightB,btw] at h9;simp<;>omega,hw'.upd⟩) _ (.inl rfl)
theorem cnd13 (c:C) (w:World) (hc:chk c=0) (hk:Cok c):Pur Tryz.prog 219 [c.v] w (.bool true):=by
 refine g_st Tryz.func219 6 (WOK.start [] _) ?_
 refine rn [1] ?_
 refine g_op (g_box (c:=C.c c) rfl rfl rfl fun b1=>?_)
 refine rn [3,0,1,4,5] ?_
 refine g_op (zI rfl (fun w1 hw1=>wO _ _ _ w1) rfl ?_)
 refine rn [3,0,11] ?_
 exact fin1 rfl (.tmp rfl) (fun w' hw' => ⟨by have h9:=zT hc 13 (by omega) (by omega);simp[rightB,btw] at h9;simp<;>omega,hw'.upd⟩) _ (.inl rfl)
theorem cnd14 (c:C) (w:World) (hc:chk c=0) (hk:Cok c):Pur Tryz.prog 220 [c.v] w (.bool true):=by
 refine g_st Tryz.func220 6 (WOK.start [] _) ?_
 refine rn [1] ?_
 refine g_op (g_box (c:=C.c c) rfl rfl rfl fun b1=>?_)
 refine rn [3,0,1,4,5] ?_
 refine g_op (zI rfl (fun w1 hw1=>wO _ _ _ w1) rfl ?_)
 refine rn [3,0,11] ?_
 exact fin1 rfl (.tmp rfl) (fun w' hw' => ⟨by have h9:=zT hc 14 (by omega) (by omega);simp[rightB,btw] at h9;simp<;>omega,hw'.upd⟩) _ (.inl rfl)
theorem cnd15 (c:C) (w:World) (hc:chk c=0) (hk:Cok c):Pur Tryz.prog 221 [c.v] w (.bool true):=by
 refine g_st Tryz.func221 6 (WOK.start [] _) ?_
 refine rn [1] ?_
 refine g_op (g_box (c:=C.c c) rfl rfl rfl fun b1=>?_)
 refine rn [3,0,1,4,5] ?_
 refine g_op (zI rfl (fun w1 hw1=>wO _ _ _ w1) rfl ?_)
 refine rn [3,0,11] ?_
 exact fin1 rfl (.tmp rfl) (fun w' hw' => ⟨by have h9:=zT hc 15 (by omega) (by omega);simp[rightB,btw] at h9;simp<;>omega,hw'.upd⟩) _ (.inl rfl)
theorem cnd16 (c:C) (w:World) (hc:chk c=0) (hk:Cok c):Pur Tryz.prog 222 [c.v] w (.bool true):=by
 refine g_st Tryz.func222 6 (WOK.start [] _) ?_
 refine rn [1] ?_
 refine g_op (g_box (c:=C.c c) rfl rfl rfl fun b1=>?_)
 refine rn [3,0,1,4,5] ?_
 refine g_op (zI rfl (fun w1 hw1=>wO _ _ _ w1) rfl ?_)
 refine rn [3,0,11] ?_
 exact fin1 rfl (.tmp rfl) (fun w' hw' => ⟨by have h9:=zT hc 16 (by omega) (by omega);simp[rightB,btw] at h9;simp<;>omega,hw'.upd⟩) _ (.inl rfl)
theorem cnd17 (c:C) (w:World) (hc:chk c=0) (hk:Cok c):Pur Tryz.prog 223 [c.v] w (.bool true):=by
 refine g_st Tryz.func223 12 (WOK.start [] _) ?_
 have g1:=hk.vis;have g2:=hk.pays;have g3:=hk.unb
 refine rn [1] ?_
 refine g_op (g_box (c:=C.c c) rfl rfl rfl fun b1=>?_)
 refine rn [3,0,1,4,5,4,5,4,5,58] ?_
 refine s_q (yZ (z:=min c.vis c.pays-1) rfl rfl (wi64 (by omega) (by omega))) rfl ?_
 refine g_op (zI rfl (fun w1 hw1=>wO _ _ _ w1) rfl ?_)
 refine rn [3,0,11] ?_
 exact fin1 rfl (.tmp rfl) (fun w' hw' => ⟨by have h9:=zT hc 17 (by omega) (by omega);simp[rightB,btw] at h9;simp<;>omega,hw'.upd⟩) _ (.inl rfl)
theorem cnd18 (c:C) (w:World) (hc:chk c=0) (hk:Cok c):Pur Tryz.prog 224 [c.v] w (.bool true):=by
 refine g_st Tryz.func224 6 (WOK.start [] _) ?_
 refine rn [1] ?_
 refine g_op (g_box (c:=C.c c) rfl rfl rfl fun b1=>?_)
 refine rn [3,0,1,4,5] ?_
 refine g_op (zI rfl (fun w1 hw1=>wO _ _ _ w1) rfl ?_)
 refine rn [3,0,11] ?_
 exact fin1 rfl (.tmp rfl) (fun w' hw' => ⟨by have h9:=zT hc 18 (by omega) (by omega);simp[rightB,btw] at h9;simp<;>omega,hw'.upd⟩) _ (.inl rfl)
theorem cnd19 (c:C) (w:World) (hc:chk c=0) (hk:Cok c):Pur Tryz.prog 225 [c.v] w (.bool true):=by
 refine g_st Tryz.func225 8 (WOK.start [] _) ?_
 refine rn [1] ?_
 refine g_op (g_box (c:=C.c c) rfl rfl rfl fun b1=>?_)
 refine rn [3,0,1,4,5,4,5,56,3,0,11] ?_
 exact fin1 rfl (.tmp rfl) (fun w' hw' => ⟨by have h9:=zT hc 19 (by omega) (by omega);simp[rightB,btw] at h9;simp<;>omega,hw'.upd⟩) _ (.inl rfl)
theorem cnd20 (c:C) (w:World) (hc:chk c=0) (hk:Cok c):Pur Tryz.prog 226 [c.v] w (.bool true):=by
 refine g_st Tryz.func226 6 (WOK.start [] _) ?_
 refine rn [1] ?_
 refine g_op (g_box (c:=C.c c) rfl rfl rfl fun b1=>?_)
 refine rn [3,0,1,4,5] ?_
 refine g_op (zI rfl (fun w1 hw1=>rF _ _ _ w1) rfl ?_)
 refine rn [3,0,11] ?_
 exact fin1 rfl (.tmp rfl) (fun w' hw' => ⟨by have h9:=zT hc 20 (by omega) (by omega);simp[rightB,btw] at h9;simp<;>omega,hw'.upd⟩) _ (.inl rfl)
def cndF:List Nat:=[205,207,208,209,210,212,213,214,215,216,217,218,219,220,221,222,223,224,225,226]
def cndV:List Value:=cndF.map fun f=>.func (.func f) #[] #[]
theorem cnd_all {c:C} (hc:chk c=0) (hk:Cok c):∀f∈cndF,hasBody Tryz.prog f=true∧∀w,Pur Tryz.prog f [c.v] w (.bool true):=by
 intro f hf
 simp only[cndF,List.mem_cons,List.not_mem_nil,or_false] at hf
 rcases hf with rfl|rfl|rfl|rfl|rfl|rfl|rfl|rfl|rfl|rfl|rfl|rfl|rfl|rfl|rfl|rfl|rfl|rfl|rfl|rfl
 ·exact⟨by kernel_rfl,fun w=>cnd1 c w hc hk⟩
 ·exact⟨by kernel_rfl,fun w=>cnd2 c w hc hk⟩
 ·exact⟨by kernel_rfl,fun w=>cnd3 c w hc hk⟩
 ·exact⟨by kernel_rfl,fun w=>cnd4 c w hc hk⟩
 ·exact⟨by kernel_rfl,fun w=>cnd5 c w hc hk⟩
 ·exact⟨by kernel_rfl,fun w=>cnd6 c w hc hk⟩
 ·exact⟨by kernel_rfl,fun w=>cnd7 c w hc hk⟩
 ·exact⟨by kernel_rfl,fun w=>cnd8 c w hc hk⟩
 ·exact⟨by kernel_rfl,fun w=>cnd9 c w hc hk⟩
 ·exact⟨by kernel_rfl,fun w=>cnd10 c w hc hk⟩
 ·exact⟨by kernel_rfl,fun w=>cnd11 c w hc hk⟩
 ·exact⟨by kernel_rfl,fun w=>cnd12 c w hc hk⟩
 ·exact⟨by kernel_rfl,fun w=>cnd13 c w hc hk⟩
 ·exact⟨by kernel_rfl,fun w=>cnd14 c w hc hk⟩
 ·exact⟨by kernel_rfl,fun w=>cnd15 c w hc hk⟩
 ·exact⟨by kernel_rfl,fun w=>cnd16 c w hc hk⟩
 ·exact⟨by kernel_rfl,fun w=>cnd17 c w hc hk⟩
 ·exact⟨by kernel_rfl,fun w=>cnd18 c w hc hk⟩
 ·exact⟨by kernel_rfl,fun w=>cnd19 c w hc hk⟩
 ·exact⟨by kernel_rfl,fun w=>cnd20 c w hc hk⟩
theorem cnd_get {i:Nat} (h:i<20):∃f∈cndF,cndV[i]?=some (.func (.func f) #[] #[]):=⟨cndF[i]'h,List.getElem_mem _,by unfold cndV;rw[List.getElem?_map,List.getElem?_eq_getElem (show i<cndF.length from h)];rfl⟩
theorem conds_any (w:World) : Pur Tryz.prog 143 [] w (.agg cndV.toArray):=by
 refine g_st Tryz.func143 22 (WOK.start [] _) ?_
 refine rn [1] ?_
 refine g_op (zK rfl fun b0=>?_)
 refine rn [0,1,49,49,49,49,49,49,49,49,49,49,49,49,49,49,49,49,49,49,49,49,49,33,0,11] ?_
 exact fin1 rfl (.cellw rfl rfl) (fun w' hw' => ⟨by rfl,hw'.upd⟩) _ (.inl rfl)
theorem cchk_any (c:C) (w:World) (hc:chk c=0) (hk:Cok c):Pur Tryz.prog 87 [c.v] w (.int .i64 0):=by
 refine g_st Tryz.func87 18 (WOK.start [] _) ?_
 refine rn [1] ?_
 refine g_op (g_box (c:=C.c c) rfl rfl rfl fun b1=>?_)
 refine rn [3,0,8,1] ?_
 refine g_op (zI rfl (fun w1 hw1=>conds_any w1) rfl ?_)
 refine rn [2,0,14] ?_
 refine g_lk [1,2,5] (fun(x:Nat)=>[(6,.int .i64 ((x:Nat):Int))]) (fun(x:Nat)=>[Res.blk b1 24 c.c]) (fun(x:Nat)=>x≤20) (fun(x:Nat)=>20-x) 0 (by(try dsimp only);exact Nat.zero_le _) ?_
 rintro k le_k
 replace le_k:k≤20:=le_k
 refine rn [1,46,0,8] ?_
 refine zC rfl (fun h1=>?_) (fun h1=>?_)
 ·have lt_k:k<20:=by have h9:=of_decide_eq_true h1;omega
  obtain⟨f,hf,hfv⟩:=cnd_get lt_k
  refine rn [12,7,8,14,1,2] ?_
  refine s_q (q_idxagg1 (i:=k) rfl rfl rfl lt_k hfv) rfl ?_
  refine g_op (zK rfl fun b4=>?_)
  refine rn [3,33,0,1,4,5,45] ?_
  refine g_op (g_purevE (hb:=⟨(cnd_all hc hk f hf).1⟩) (f:=f) rfl rfl (fun w1 hw1=>(cnd_all hc hk f hf).2 w1) rfl ?_)
  refine rn [48] ?_
  refine yC 14 (b:=false) rfl (rfl) ?_
  refine rn [0,20,12,15,7,10,43,2,9] ?_
  exact g_ag (k+1) (by(try dsimp only);exact(by first|exact lt_k|omega))
 ·have eq_k:k=20:=by have h9:=of_decide_eq_false h1;omega
  refine rn [16] ?_
  refine zD (zD (zN ?_))
  refine rn [7,1,3,0,11] ?_
  exact fin1 rfl (.tmp rfl) (fun w' hw' => ⟨by rfl,hw'.upd⟩) _ (.inl rfl)
theorem cvalid_any (c:C) (w:World) (hc:chk c=0) (hk:Cok c):Pur Tryz.prog 32 [c.v] w (.bool true):=by
 refine g_st Tryz.func32 6 (WOK.start [] _) ?_
 refine rn [1] ?_
 refine g_op (g_box (c:=C.c c) rfl rfl rfl fun b1=>?_)
 refine rn [3,0,1,45] ?_
 refine g_op (zI rfl (fun w1 hw1=>cchk_any c w1 hc hk) rfl ?_)
 refine rn [44,3,0,11] ?_
 exact fin1 rfl (.tmp rfl) (fun w' hw' => ⟨by rfl,hw'.upd⟩) _ (.inl rfl)
end Go.Proofs.YtdddiilocbbkkaaGreat
