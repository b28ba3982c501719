/- TopModel, part 11. No condition. -/
import Derived.Test.YtdddiilocbbkkaaGreatTN10
set_option linter.unusedVariables false
set_option linter.unusedSimpArgs false
namespace Go.Proofs.YtdddiilocbbkkaaGreat
open Go.RowKit Go.Eg
set_option maxHeartbeats 4000000
set_option synthInstance.maxSize 3000
set_option maxRecDepth 100000
theorem Rd.star {w:World} {Ls:List Res} {A:bU} {n k:Nat} {els:List (List Value)} (h:Rd w Ls A n k els):Rd w [.star Ls] A n k els:=⟨h.old,by rw[vR];exact h.away⟩
def okP {σ:Type} (v:V) (_:σ):Prop:=(0≤v.st∧v.st≤7)∧0≤v.bal∧v.bal≤18446744073709551615
theorem kl (s e:Int):0≤nxt s e∧nxt s e≤7:=by
 unfold nxt
 repeat' split
 all_goals omega
theorem oF {e:Nat} {v:V} (h:okP v ()):okP (evR e v).1 ():=by
 unfold evR;split
 ·exact h
 exact⟨kl _ _,h.2⟩
theorem An {b:Int} {c:C} (h:c.pnum≤c.pden):eM b c=b*c.pnum/c.pden:=by unfold eM;rw[bY aK]
theorem wa (b q q2:Nat) (v:V) (c:C) (z:Int) (w:World) (hw:W0 [Res.blk b 52 (V.c v),Res.blk q 24 c.c,Res.blk q2 22 [aJ (z)]] w) (hvb:0≤v.bal∧v.bal≤18446744073709551615) (J5:0≤c.pnum) (S9:1≤c.pden∧c.pden≤4294967296) (hnd:c.pnum≤c.pden):au (ι:=Unit) Tryz.prog 171 [aG b,aG q,aG q2] w [Res.blk b 52 (V.c v),Res.blk q 24 c.c,Res.blk q2 22 [aJ (z)]] (fun x=>True) (fun x=>.int .i64 0) (fun x=>[]) (fun x=>[Res.blk b 52 (V.c { v with bal:=IntKind.u64.wrap (v.bal-eM v.bal c) }),Res.blk q 24 c.c,Res.blk q2 22 [aJ (eM v.bal c)]]):=by
 refine Γ Tryz.func171 25 hw ?_;refine SZ ?_;refine bn [12] an rfl (Rz ?_);refine dop 8 rfl (zH rfl (fun w1 a6=>oz v.bal c.pnum c.pden w1 hvb J5 S9 hnd) rfl (rn [23,9,2,23,10,40,24,11,40] ?_));refine dop 12 rfl (zI rfl rfl rfl rfl rfl rfl rfl ?_);refine zF (b:=q2) [aJ (eM v.bal c)] (by rw[An hnd];rfl) (rn [28,7,8] ?_);refine bn [8] an rfl (rn [23,0,2,23,1,6,23,2,4,23,3,5,23,4,5,23,5,57,24,6,6,23,7,4] ?_);refine dop 8 rfl (zI rfl rfl rfl rfl rfl rfl rfl ?_);refine zF (b:=b) (V.c { v with bal:=IntKind.u64.wrap (v.bal-eM v.bal c) }) (by simp[ay,V.c]) (rn [28,7,1,3,0,11] ?_);exact dD rfl rfl fun w' a5=>⟨(),aQ,rfl,zA w' a5⟩
theorem BP (v:V) (e:Int) (a b:List Value):dS ([⟨243,a,fun v _=>((acR e v).1,(acR e v).2,())⟩,⟨248,b,fun v _=>((evR 2 v).1,(evR 2 v).2,())⟩]:List (Chg Unit)) v ()=((cy v e).1,(cy v e).2,()):=by
 unfold cy;by_cases h1:eN [e]=false
 ·rw[bZ h1];simp[dS,acR,h1]
 rw[bY h1];by_cases h2:nxt v.st 2=0
 ·rw[bZ h2];simp[dS,acR,evR,h1,h2]
 rw[bY h2];simp[dS,acR,evR,h1,h2]
theorem rN (v:V) (e:Int) (w:World) (he:I64 e) (i6:okP v ()):Pur Tryz.prog 166 [v.v,aH e] w (.tuple [V.v (cy v e).1,aH (cy v e).2].toArray):=by
 refine Γ Tryz.func166 15 (WOK.start [] _) ?_;refine Ri ?_;refine aa (aq (c:=V.c v) rfl rfl rfl fun b2=>?_);refine aa (aq rfl rfl rfl fun b3=>?_);refine aa (zK rfl fun b4=>rn [3,0,1,52,3,0,8] ?_);refine bn [7] an rfl (rn [23,0,45,23,1,2] ?_);refine dop 2 rfl (zJ [] rfl (fun w1 a6 a8=>by have h7:=uO (2) w1;exact h7) rfl ?_);rintro t4 _;refine ii ?_;refine dop 3 rfl (bg rfl rfl rfl rfl rfl fun p5=>?_);refine zF (b:=p5) [Value.func (.func 243) #[] [aG b3].toArray,Value.func (.func 248) #[] [aG t4].toArray] rfl ?_;refine dop 4 rfl (zJ _ rfl (fun w1 a6 a8=>by
  have h7:=au.unstar (Ls:=[Res.blk b3 3 [aH (e)],Res.blk t4 3 [aH (2)]]) (Ls1:=fun _=>[Res.blk b3 3 [aH (e)],Res.blk t4 3 [aH (2)]]) (fun u2=>xN (fun z9:Unit=>Res.star [Res.blk b3 3 [aH (e)],Res.blk t4 3 [aH (2)]]) okP ([(⟨243,[aG b3],fun v _=>((acR e v).1,(acR e v).2,())⟩:Chg Unit),(⟨248,[aG t4],fun v _=>((evR 2 v).1,(evR 2 v).2,())⟩:Chg Unit)]:List (Chg Unit)) v () p5 w1 u2 (by
   intro c9 p4;simp only[cH,cE,or_false] at p4;rcases p4 with rfl|rfl
   · exact⟨aL,fun v9 s9 h9 h0=>(by show okP (acR e v9).1 ();unfold acR;split<;>exact h9),fun b9 v9 s9 w9 B4 h9=>Chg.go_of B4 inferInstance inferInstance (fun w8 H6=>BQ b9 b3 v9 e w8 H6 he)⟩
   · exact⟨aL,fun v9 s9 h9 h0=>oF h9,fun b9 v9 s9 w9 B4 h9=>Chg.go_of B4 inferInstance inferInstance (fun w8 H6=>lF b9 t4 v9 2 w8 H6 aO h9.1)⟩) i6 (Rd.star (Rd.ofBlk (b:=p5) (T:=285) (c:=[Value.func (.func 243) #[] [aG b3].toArray,Value.func (.func 248) #[] [aG t4].toArray]) a6 rfl aM rfl)) aM) a8
  exact h7) rfl ?_)
 rintro⟨⟩ _;refine ii (rn [23,5,40,23,6,40] ?_);refine dop 7 rfl (zT rfl rfl rfl rfl rfl (rn [24,8,3,28,7,11] ?_));exact dH rfl (.cellw rfl rfl) (.tmp rfl) fun w' a5=>⟨by rw[←show(dS _ v ()).1=(cy v e).1 from by rw[BP v e [aG b3] [aG t4]],←show(dS _ v ()).2.1=(cy v e).2 from by rw[BP v e [aG b3] [aG t4]]];rfl,a5.upd⟩
theorem BD (v:V) (e:Int) (c:C) (a b:List Value):dS ([⟨281,a,fun v _=>((asR e v).1,(asR e v).2,())⟩,⟨249,b,fun v _=>((dlR e c.unb v).1,(dlR e c.unb v).2,())⟩]:List (Chg Unit)) v ()=((eS v e c).1,(eS v e c).2,()):=by
 unfold eS;by_cases h1:v.st≠3∨v.ex≠-1
 ·rw[bZ h1];have hr:asR e v=(v,8):=bZ h1;simp[dS,hr]
 rw[bY h1];have hr:asR e v=({ v with ex:=e },0):=bY h1;by_cases h2:eN [e,c.unb]=false
 ·rw[bZ h2];simp[dS,hr,dlR,h2]
 rw[bY h2];simp[dS,hr,dlR,h2]
theorem jI (v:V) (e:Int) (c:C) (w:World) (he:I64 e) (hd:I64 c.unb) (i6:okP v ()):Pur Tryz.prog 230 [v.v,aH e,c.v] w (.tuple [V.v (eS v e c).1,aH (eS v e c).2].toArray):=by
 refine Γ Tryz.func230 20 (WOK.start [] _) ?_;refine Ri ?_;refine aa (aq (c:=V.c v) rfl rfl rfl fun b3=>?_);refine aa (aq rfl rfl rfl fun b4=>?_);refine aa (aq (c:=C.c c) rfl rfl rfl fun b5=>?_);refine aa (zK rfl fun b6=>rn [3,0,1,52,3,0,8] ?_);refine bn [10] an rfl (rn [23,0,45,23,1,2,23,2,5,23,3,4,23,4,5] ?_);refine dop 5 rfl (zJ [] rfl (fun w1 a6 a8=>by have h7:=sO (e) (c.unb) w1;exact h7) rfl ?_);rintro⟨s6,Y7⟩ _;refine ii ?_;refine dop 6 rfl (bg rfl rfl rfl rfl rfl fun I2=>?_);refine zF (b:=I2) [Value.func (.func 281) #[] [aG b4].toArray,Value.func (.func 249) #[] [aG s6,aG Y7].toArray] rfl ?_;refine dop 7 rfl (zJ _ rfl (fun w1 a6 a8=>by
  have h7:=au.unstar (Ls:=[Res.blk b4 3 [aH (e)],Res.blk s6 3 [aH (e)],Res.blk Y7 3 [aH (c.unb)]]) (Ls1:=fun _=>[Res.blk b4 3 [aH (e)],Res.blk s6 3 [aH (e)],Res.blk Y7 3 [aH (c.unb)]]) (fun u2=>xN (fun z9:Unit=>Res.star [Res.blk b4 3 [aH (e)],Res.blk s6 3 [aH (e)],Res.blk Y7 3 [aH (c.unb)]]) okP ([(⟨281,[aG b4],fun v _=>((asR e v).1,(asR e v).2,())⟩:Chg Unit),(⟨249,[aG s6,aG Y7],fun v _=>((dlR e c.unb v).1,(dlR e c.unb v).2,())⟩:Chg Unit)]:List (Chg Unit)) v () I2 w1 u2 (by
   intro c9 p4;simp only[cH,cE,or_false] at p4;rcases p4 with rfl|rfl
   · exact⟨aL,fun v9 s9 h9 h0=>(by show okP (asR e v9).1 ();unfold asR;split<;>exact h9),fun b9 v9 s9 w9 B4 h9=>Chg.go_of B4 inferInstance inferInstance (fun w8 H6=>BE b9 b4 v9 e w8 H6)⟩
   · exact⟨aL,fun v9 s9 h9 h0=>(by show okP (dlR e c.unb v9).1 ();unfold dlR;split<;>exact h9),fun b9 v9 s9 w9 B4 h9=>Chg.go_of B4 inferInstance inferInstance (fun w8 H6=>nK b9 s6 Y7 v9 e c.unb w8 H6 he hd)⟩) i6 (Rd.star (Rd.ofBlk (b:=I2) (T:=285) (c:=[Value.func (.func 281) #[] [aG b4].toArray,Value.func (.func 249) #[] [aG s6,aG Y7].toArray]) a6 rfl aM rfl)) aM) a8
  exact h7) rfl ?_)
 rintro⟨⟩ _;refine ii (rn [23,8,40,23,9,40] ?_);refine dop 10 rfl (zT rfl rfl rfl rfl rfl (rn [24,11,3,28,7,11] ?_));exact dH rfl (.cellw rfl rfl) (.tmp rfl) fun w' a5=>⟨by rw[←show(dS _ v ()).1=(eS v e c).1 from by rw[BD v e c [aG b4] [aG s6,aG Y7]],←show(dS _ v ()).2.1=(eS v e c).2 from by rw[BD v e c [aG b4] [aG s6,aG Y7]]];rfl,a5.upd⟩
theorem tO (v:V) (e:Int) (a b:List Value):dS ([⟨248,a,fun v _=>((evR 5 v).1,(evR 5 v).2,())⟩,⟨240,b,fun v _=>((duR e v).1,(duR e v).2,())⟩]:List (Chg Unit)) v ()=((db v e).1,(db v e).2.2,()):=by
 unfold db;by_cases h1:nxt v.st 5=0
 ·rw[bZ h1];simp[dS,evR,h1]
 rw[bY h1];by_cases h2:e<v.wd
 ·rw[bZ h2];simp[dS,evR,duR,h1,h2]
 rw[bY h2];simp[dS,evR,duR,h1,h2]
theorem gV (v:V) (e:Int):(db v e).2.1=if(db v e).2.2=0 then v.bal else 0:=by
 unfold db
 repeat' split
 all_goals simp_all
theorem iV (v:V) (e:Int) (w:World) (i6:okP v ()):Pur Tryz.prog 160 [v.v,aH e] w (.tuple [V.v (db v e).1,aJ (db v e).2.1,aH (db v e).2.2].toArray):=by
 refine Γ Tryz.func160 26 (WOK.start [] _) ?_;refine Ri ?_;refine aa (aq (c:=V.c v) rfl rfl rfl fun b2=>?_);refine aa (aq rfl rfl rfl fun b3=>?_);refine aa (zK rfl fun b4=>rn [3,3,0,1,52,3] ?_);have G0:∀(j3:Nat),∀c9∈([(⟨248,[aG j3],fun v _=>((evR 5 v).1,(evR 5 v).2,())⟩:Chg Unit),(⟨240,[aG b3],fun v _=>((duR e v).1,(duR e v).2,())⟩:Chg Unit)]:List (Chg Unit)),c9.OK (fun z9:Unit=>Res.star [Res.blk j3 3 [aH (5)],Res.blk b3 3 [aH (e)]]) okP:=fun j3=>(by
   intro c9 p4;simp only[cH,cE,or_false] at p4;rcases p4 with rfl|rfl
   · exact⟨aL,fun v9 s9 h9 h0=>oF h9,fun b9 v9 s9 w9 B4 h9=>Chg.go_of B4 inferInstance inferInstance (fun w8 H6=>lF b9 j3 v9 5 w8 H6 aO h9.1)⟩
   · exact⟨aL,fun v9 s9 h9 h0=>(by show okP (duR e v9).1 ();unfold duR;split;exact h9;exact⟨h9.1,aM⟩),fun b9 v9 s9 w9 B4 h9=>Chg.go_of B4 inferInstance inferInstance (fun w8 H6=>yy b9 b3 v9 e w8 H6)⟩)
 refine Sw ?_;refine bn [9] an rfl (rn [23,0,45,23,2,2] ?_);refine dj [2,4,5,6] (fun(x:Nat)=>[(8,aG x),(9,aH (db v e).2.2)]) (fun(x:Nat)=>[Res.blk x 52 (V.c (db v e).1),Res.blk b2 52 (V.c v),Res.blk b4 52 [aJ 0,aH 0,.bool false,aH 0,aH 0,aH 0,aH 0]]) ?_ ?_
 ·refine yJ [1,8] aL aM zG ⟨bu rfl (zJ [] rfl (fun w1 a6 a8=>by have h7:=uO (5) w1;exact h7) rfl ?_),bu rfl (zK rfl fun b8=>?_),trivial⟩
  ·rintro j3 _;refine ii ?_;refine yJ [3,8] aL aM zG ⟨bu rfl (bg rfl rfl rfl rfl rfl fun s6=>?_),bu rfl (zK rfl fun b8=>?_),trivial⟩
   ·refine zF (b:=s6) [Value.func (.func 248) #[] [aG j3].toArray,Value.func (.func 240) #[] [aG b3].toArray] rfl ?_;refine yJ [4,8] aL aM zG ⟨bu rfl (zJ _ rfl (fun w1 a6 a8=>by
     have h7:=au.unstar (Ls:=[Res.blk j3 3 [aH (5)],Res.blk b3 3 [aH (e)]]) (Ls1:=fun _=>[Res.blk j3 3 [aH (5)],Res.blk b3 3 [aH (e)]]) (fun u2=>xN (fun z9:Unit=>Res.star [Res.blk j3 3 [aH (5)],Res.blk b3 3 [aH (e)]]) okP ([(⟨248,[aG j3],fun v _=>((evR 5 v).1,(evR 5 v).2,())⟩:Chg Unit),(⟨240,[aG b3],fun v _=>((duR e v).1,(duR e v).2,())⟩:Chg Unit)]:List (Chg Unit)) v () s6 w1 u2 (G0 j3) i6 (Rd.star (Rd.ofBlk (b:=s6) (T:=285) (c:=[Value.func (.func 248) #[] [aG j3].toArray,Value.func (.func 240) #[] [aG b3].toArray]) a6 rfl aM rfl)) aM) a8;exact h7) rfl ?_),bu rfl (zK rfl fun b8=>?_),trivial⟩
    ·rintro⟨⟩ _;refine ii (rn [23,5,2,23,6,40] ?_);refine ae 17 (v' := V.v (db v e).1) rfl (by rw[tO v e [aG j3] [aG b3]]) (rn [24,7,40] ?_);refine ae 18 (v' := aH (db v e).2.2) rfl (by rw[tO v e [aG j3] [aG b3]]) ?_;refine dop 8 rfl (zK rfl fun b8=>?_);refine dop 9 rfl (zT rfl rfl rfl rfl rfl (rn [24,10,3,28] ?_));exact eL b8
    refine dop 4 rfl (zJ _ rfl (fun w1 a6 a8=>by
     have h7:=au.unstar (Ls:=[Res.blk j3 3 [aH (5)],Res.blk b3 3 [aH (e)]]) (Ls1:=fun _=>[Res.blk j3 3 [aH (5)],Res.blk b3 3 [aH (e)]]) (fun u2=>xN (fun z9:Unit=>Res.star [Res.blk j3 3 [aH (5)],Res.blk b3 3 [aH (e)]]) okP ([(⟨248,[aG j3],fun v _=>((evR 5 v).1,(evR 5 v).2,())⟩:Chg Unit),(⟨240,[aG b3],fun v _=>((duR e v).1,(duR e v).2,())⟩:Chg Unit)]:List (Chg Unit)) v () s6 w1 u2 (G0 j3) i6 (Rd.star (Rd.ofBlk (b:=s6) (T:=285) (c:=[Value.func (.func 248) #[] [aG j3].toArray,Value.func (.func 240) #[] [aG b3].toArray]) a6 rfl aM rfl)) aM) a8;exact h7) rfl ?_)
    rintro⟨⟩ _;refine ii (rn [23,5,2,23,6,40] ?_);refine ae 17 (v' := V.v (db v e).1) rfl (by rw[tO v e [aG j3] [aG b3]]) (rn [24,7,40] ?_);refine ae 18 (v' := aH (db v e).2.2) rfl (by rw[tO v e [aG j3] [aG b3]]) ?_;refine dop 9 rfl (zT rfl rfl rfl rfl rfl (rn [24,10,3,28] ?_));exact eL b8
   refine dop 3 rfl (bg rfl rfl rfl rfl rfl fun s6=>?_);refine zF (b:=s6) [Value.func (.func 248) #[] [aG j3].toArray,Value.func (.func 240) #[] [aG b3].toArray] rfl ?_;refine dop 4 rfl (zJ _ rfl (fun w1 a6 a8=>by
    have h7:=au.unstar (Ls:=[Res.blk j3 3 [aH (5)],Res.blk b3 3 [aH (e)]]) (Ls1:=fun _=>[Res.blk j3 3 [aH (5)],Res.blk b3 3 [aH (e)]]) (fun u2=>xN (fun z9:Unit=>Res.star [Res.blk j3 3 [aH (5)],Res.blk b3 3 [aH (e)]]) okP ([(⟨248,[aG j3],fun v _=>((evR 5 v).1,(evR 5 v).2,())⟩:Chg Unit),(⟨240,[aG b3],fun v _=>((duR e v).1,(duR e v).2,())⟩:Chg Unit)]:List (Chg Unit)) v () s6 w1 u2 (G0 j3) i6 (Rd.star (Rd.ofBlk (b:=s6) (T:=285) (c:=[Value.func (.func 248) #[] [aG j3].toArray,Value.func (.func 240) #[] [aG b3].toArray]) a6 rfl aM rfl)) aM) a8;exact h7) rfl ?_)
   rintro⟨⟩ _;refine ii (rn [23,5,2,23,6,40] ?_);refine ae 17 (v' := V.v (db v e).1) rfl (by rw[tO v e [aG j3] [aG b3]]) (rn [24,7,40] ?_);refine ae 18 (v' := aH (db v e).2.2) rfl (by rw[tO v e [aG j3] [aG b3]]) ?_;refine dop 9 rfl (zT rfl rfl rfl rfl rfl (rn [24,10,3,28] ?_));exact eL b8
  refine dop 1 rfl (zJ [] rfl (fun w1 a6 a8=>by have h7:=uO (5) w1;exact h7) rfl ?_);rintro j3 _;refine ii ?_;refine dop 3 rfl (bg rfl rfl rfl rfl rfl fun s6=>?_);refine zF (b:=s6) [Value.func (.func 248) #[] [aG j3].toArray,Value.func (.func 240) #[] [aG b3].toArray] rfl ?_;refine dop 4 rfl (zJ _ rfl (fun w1 a6 a8=>by
   have h7:=au.unstar (Ls:=[Res.blk j3 3 [aH (5)],Res.blk b3 3 [aH (e)]]) (Ls1:=fun _=>[Res.blk j3 3 [aH (5)],Res.blk b3 3 [aH (e)]]) (fun u2=>xN (fun z9:Unit=>Res.star [Res.blk j3 3 [aH (5)],Res.blk b3 3 [aH (e)]]) okP ([(⟨248,[aG j3],fun v _=>((evR 5 v).1,(evR 5 v).2,())⟩:Chg Unit),(⟨240,[aG b3],fun v _=>((duR e v).1,(duR e v).2,())⟩:Chg Unit)]:List (Chg Unit)) v () s6 w1 u2 (G0 j3) i6 (Rd.star (Rd.ofBlk (b:=s6) (T:=285) (c:=[Value.func (.func 248) #[] [aG j3].toArray,Value.func (.func 240) #[] [aG b3].toArray]) a6 rfl aM rfl)) aM) a8;exact h7) rfl ?_)
  rintro⟨⟩ _;refine ii (rn [23,5,2,23,6,40] ?_);refine ae 17 (v' := V.v (db v e).1) rfl (by rw[tO v e [aG j3] [aG b3]]) (rn [24,7,40] ?_);refine ae 18 (v' := aH (db v e).2.2) rfl (by rw[tO v e [aG j3] [aG b3]]) ?_;refine dop 9 rfl (zT rfl rfl rfl rfl rfl (rn [24,10,3,28] ?_));exact eL b8
 rintro b8;refine rn [7,8,1,2,51,0] ?_;refine zB rfl (fun h1=>?_) (fun h1=>?_)
 ·have hc:¬(db v e).2.2=0:=by simpa using h1
  refine rn [1,45,2,33,3,3,0,11,13] ?_;exact dI rfl (.cellw rfl rfl) (.tmp rfl) (.tmp rfl) fun w' a5=>⟨by rw[gV,bY hc];rfl,a5.upd⟩
 have hc:(db v e).2.2=0:=by simpa using h1
 refine RM ?_;refine bn [0,2,3] an rfl (rn [24,1,4] ?_);refine yJ [0,2] aL aM zG ⟨bu rfl (G.quiet (xT rfl rfl) rfl ?_),bu rfl (G.quiet (vO rfl rfl) rfl ?_),trivial⟩
 ·refine yJ [2,3] aL aM zG ⟨bu rfl (G.quiet (vO rfl rfl) rfl ?_),bu rfl (zT rfl rfl rfl rfl rfl ?_),trivial⟩
  ·refine fJ 3 rfl (zT rfl rfl rfl rfl rfl (Si ?_));exact dI rfl (.cellw rfl rfl) (.tmp rfl) (.tmp rfl) fun w' a5=>⟨by rw[gV,bZ hc,hc];rfl,a5.upd⟩
  refine fJ 2 rfl (G.quiet (vO rfl rfl) rfl (Si ?_));exact dI rfl (.cellw rfl rfl) (.tmp rfl) (.tmp rfl) fun w' a5=>⟨by rw[gV,bZ hc,hc];rfl,a5.upd⟩
 refine fJ 0 rfl (G.quiet (xT rfl rfl) rfl ?_);refine fJ 3 rfl (zT rfl rfl rfl rfl rfl (Si ?_));exact dI rfl (.cellw rfl rfl) (.tmp rfl) (.tmp rfl) fun w' a5=>⟨by rw[gV,bZ hc,hc];rfl,a5.upd⟩
theorem wC (v:V) (e:Int) (c:C) (a1 a2 a3 a4:List Value):dS ([⟨170,a1,fun v s=>((mkR e v).1,(mkR e v).2,s)⟩,⟨248,a2,fun v s=>((evR 7 v).1,(evR 7 v).2,s)⟩,⟨249,a3,fun v s=>((dlR e c.sld v).1,(dlR e c.sld v).2,s)⟩,⟨171,a4,fun v _=>((buR c v).1,0,(buR c v).2)⟩]:List (Chg Int)) v 0=((bh v e c).1,(bh v e c).2.2,(bh v e c).2.1):=by
 unfold bh;by_cases h1:v.sl=true
 ·rw[bZ h1];simp[dS,mkR,h1]
 rw[bY h1];by_cases h2:nxt v.st 7=0
 ·rw[bZ h2];simp[dS,mkR,evR,h1,h2]
 rw[bY h2];by_cases h3:eN [e,c.sld]=false
 ·rw[bZ h3];simp[dS,mkR,evR,dlR,h1,h2,h3]
 rw[bY h3];simp[dS,mkR,evR,dlR,buR,h1,h2,h3]
theorem qR (v:V) (e:Int) (c:C) (w:World) (he:I64 e) (hd:I64 c.sld) (i6:okP v ()) (J5:0≤c.pnum) (S9:1≤c.pden∧c.pden≤4294967296) (hnd:c.pnum≤c.pden):Pur Tryz.prog 111 [v.v,aH e,c.v] w (.tuple [V.v (bh v e c).1,aJ (bh v e c).2.1,aH (bh v e c).2.2].toArray):=by
 refine Γ Tryz.func111 32 (WOK.start [] _) ?_;refine Ri ?_;refine aa (aq (c:=V.c v) rfl rfl rfl fun b3=>?_);refine aa (aq rfl rfl rfl fun b4=>?_);refine aa (aq (c:=C.c c) rfl rfl rfl fun b5=>?_);refine aa (zK rfl fun b6=>rn [3,3,0,1] ?_);refine aa (zK rfl fun bz=>rn [0,1,52,3,0,1,52,3] ?_);have G0:∀(j2 m0 o0:Nat),∀c9∈([(⟨170,[aG b4],fun v s=>((mkR e v).1,(mkR e v).2,s)⟩:Chg Int),(⟨248,[aG j2],fun v s=>((evR 7 v).1,(evR 7 v).2,s)⟩:Chg Int),(⟨249,[aG m0,aG o0],fun v s=>((dlR e c.sld v).1,(dlR e c.sld v).2,s)⟩:Chg Int),(⟨171,[aG b5,aG bz],fun v _=>((buR c v).1,0,(buR c v).2)⟩:Chg Int)]:List (Chg Int)),c9.OK (fun z9:Int=>Res.star [Res.blk b4 3 [aH (e)],Res.blk j2 3 [aH (7)],Res.blk m0 3 [aH (e)],Res.blk o0 3 [aH (c.sld)],Res.blk b5 24 c.c,Res.blk bz 22 [aJ (z9)]]) okP:=fun j2 m0 o0=>(by
   intro c9 p4;simp only[cH,cE,or_false] at p4;rcases p4 with rfl|rfl|rfl|rfl
   · exact⟨aL,fun v9 s9 h9 h0=>(by show okP (mkR e v9).1 s9;unfold mkR;split<;>exact h9),fun b9 v9 s9 w9 B4 h9=>Chg.go_of B4 inferInstance inferInstance (fun w8 H6=>we b9 b4 v9 e w8 H6)⟩
   · exact⟨aL,fun v9 s9 h9 h0=>oF (v:=v9) h9,fun b9 v9 s9 w9 B4 h9=>Chg.go_of B4 inferInstance inferInstance (fun w8 H6=>lF b9 j2 v9 7 w8 H6 aO h9.1)⟩
   · exact⟨aL,fun v9 s9 h9 h0=>(by show okP (dlR e c.sld v9).1 s9;unfold dlR;split<;>exact h9),fun b9 v9 s9 w9 B4 h9=>Chg.go_of B4 inferInstance inferInstance (fun w8 H6=>nK b9 m0 o0 v9 e c.sld w8 H6 he hd)⟩
   · exact⟨aL,fun v9 s9 h9 h0=>⟨h9.1,by unfold buR;simp only[cF];omega⟩,fun b9 v9 s9 w9 B4 h9=>Chg.go_of B4 inferInstance inferInstance (fun w8 H6=>wa b9 b5 bz v9 c s9 w8 H6 h9.2 J5 S9 hnd)⟩)
 refine Sw ?_;refine dR (L0:=[Res.blk b3 52 (V.c v),Res.blk b4 3 [aH (e)],Res.blk b5 24 c.c]) [14] an rfl zG (rn [23,0,45,23,1,2,23,3,5,23,4,4,23,5,5,23,7,2] ?_);refine dj [6,7,8,9] (fun(x:Nat)=>[(12,aG x),(13,aH (bh v e c).2.2)]) (fun(x:Nat)=>[Res.blk x 52 (V.c (bh v e c).1),Res.blk bz 22 [aJ (bh v e c).2.1],Res.blk b6 52 [aJ 0,aH 0,.bool false,aH 0,aH 0,aH 0,aH 0]]) ?_ ?_
 ·refine yJ [2,13] aL aM zG ⟨bu rfl (zJ [] rfl (fun w1 a6 a8=>by have h7:=uO (7) w1;exact h7) rfl ?_),bu rfl (zK rfl fun w7=>?_),trivial⟩
  ·rintro j2 _;refine ii ?_;refine yJ [6,13] aL aM zG ⟨bu rfl (zJ [] rfl (fun w1 a6 a8=>by have h7:=sO (e) (c.sld) w1;exact h7) rfl ?_),bu rfl (zK rfl fun w7=>?_),trivial⟩
   ·rintro⟨m0,o0⟩ _;refine ii ?_;refine yJ [8,13] aL aM zG ⟨bu rfl (bg rfl rfl rfl rfl rfl fun E2=>?_),bu rfl (zK rfl fun w7=>?_),trivial⟩
    ·refine zF (b:=E2) [Value.func (.func 170) #[] [aG b4].toArray,Value.func (.func 248) #[] [aG j2].toArray,Value.func (.func 249) #[] [aG m0,aG o0].toArray,Value.func (.func 171) #[] [aG b5,aG bz].toArray] rfl ?_;refine yJ [9,13] aL aM zG ⟨bu rfl (zJ _ rfl (fun w1 a6 a8=>by
      have h7:=au.unstar (Ls:=[Res.blk b4 3 [aH (e)],Res.blk j2 3 [aH (7)],Res.blk m0 3 [aH (e)],Res.blk o0 3 [aH (c.sld)],Res.blk b5 24 c.c,Res.blk bz 22 [aJ (0)]]) (Ls1:=fun _=>[Res.blk b4 3 [aH (e)],Res.blk j2 3 [aH (7)],Res.blk m0 3 [aH (e)],Res.blk o0 3 [aH (c.sld)],Res.blk b5 24 c.c,Res.blk bz 22 [aJ ((dS ([(⟨170,[aG b4],fun v s=>((mkR e v).1,(mkR e v).2,s)⟩:Chg Int),(⟨248,[aG j2],fun v s=>((evR 7 v).1,(evR 7 v).2,s)⟩:Chg Int),(⟨249,[aG m0,aG o0],fun v s=>((dlR e c.sld v).1,(dlR e c.sld v).2,s)⟩:Chg Int),(⟨171,[aG b5,aG bz],fun v _=>((buR c v).1,0,(buR c v).2)⟩:Chg Int)]:List (Chg Int)) v 0).2.2)]]) (fun u2=>xN (fun z9:Int=>Res.star [Res.blk b4 3 [aH (e)],Res.blk j2 3 [aH (7)],Res.blk m0 3 [aH (e)],Res.blk o0 3 [aH (c.sld)],Res.blk b5 24 c.c,Res.blk bz 22 [aJ (z9)]]) okP ([(⟨170,[aG b4],fun v s=>((mkR e v).1,(mkR e v).2,s)⟩:Chg Int),(⟨248,[aG j2],fun v s=>((evR 7 v).1,(evR 7 v).2,s)⟩:Chg Int),(⟨249,[aG m0,aG o0],fun v s=>((dlR e c.sld v).1,(dlR e c.sld v).2,s)⟩:Chg Int),(⟨171,[aG b5,aG bz],fun v _=>((buR c v).1,0,(buR c v).2)⟩:Chg Int)]:List (Chg Int)) v 0 E2 w1 u2 (G0 j2 m0 o0) i6 (Rd.star (Rd.ofBlk (b:=E2) (T:=285) (c:=[Value.func (.func 170) #[] [aG b4].toArray,Value.func (.func 248) #[] [aG j2].toArray,Value.func (.func 249) #[] [aG m0,aG o0].toArray,Value.func (.func 171) #[] [aG b5,aG bz].toArray]) a6 rfl aM rfl)) aM) a8;exact h7) rfl ?_),bu rfl (zK rfl fun w7=>?_),trivial⟩
     ·rintro⟨⟩ _;refine ii ?_;refine zF (b:=bz) [aJ (bh v e c).2.1] (by rw[wC v e c [aG b4] [aG j2] [aG m0,aG o0] [aG b5,aG bz]]) (rn [23,10,2,23,11,40] ?_);refine ae 27 (v' := V.v (bh v e c).1) rfl (by rw[wC v e c [aG b4] [aG j2] [aG m0,aG o0] [aG b5,aG bz]]) (rn [24,12,40] ?_);refine ae 28 (v' := aH (bh v e c).2.2) rfl (by rw[wC v e c [aG b4] [aG j2] [aG m0,aG o0] [aG b5,aG bz]]) ?_;refine dop 13 rfl (zK rfl fun w7=>?_);refine dop 14 rfl (zT rfl rfl rfl rfl rfl (rn [24,15,3,28] ?_));exact eL w7
     refine dop 9 rfl (zJ _ rfl (fun w1 a6 a8=>by
      have h7:=au.unstar (Ls:=[Res.blk b4 3 [aH (e)],Res.blk j2 3 [aH (7)],Res.blk m0 3 [aH (e)],Res.blk o0 3 [aH (c.sld)],Res.blk b5 24 c.c,Res.blk bz 22 [aJ (0)]]) (Ls1:=fun _=>[Res.blk b4 3 [aH (e)],Res.blk j2 3 [aH (7)],Res.blk m0 3 [aH (e)],Res.blk o0 3 [aH (c.sld)],Res.blk b5 24 c.c,Res.blk bz 22 [aJ ((dS ([(⟨170,[aG b4],fun v s=>((mkR e v).1,(mkR e v).2,s)⟩:Chg Int),(⟨248,[aG j2],fun v s=>((evR 7 v).1,(evR 7 v).2,s)⟩:Chg Int),(⟨249,[aG m0,aG o0],fun v s=>((dlR e c.sld v).1,(dlR e c.sld v).2,s)⟩:Chg Int),(⟨171,[aG b5,aG bz],fun v _=>((buR c v).1,0,(buR c v).2)⟩:Chg Int)]:List (Chg Int)) v 0).2.2)]]) (fun u2=>xN (fun z9:Int=>Res.star [Res.blk b4 3 [aH (e)],Res.blk j2 3 [aH (7)],Res.blk m0 3 [aH (e)],Res.blk o0 3 [aH (c.sld)],Res.blk b5 24 c.c,Res.blk bz 22 [aJ (z9)]]) okP ([(⟨170,[aG b4],fun v s=>((mkR e v).1,(mkR e v).2,s)⟩:Chg Int),(⟨248,[aG j2],fun v s=>((evR 7 v).1,(evR 7 v).2,s)⟩:Chg Int),(⟨249,[aG m0,aG o0],fun v s=>((dlR e c.sld v).1,(dlR e c.sld v).2,s)⟩:Chg Int),(⟨171,[aG b5,aG bz],fun v _=>((buR c v).1,0,(buR c v).2)⟩:Chg Int)]:List (Chg Int)) v 0 E2 w1 u2 (G0 j2 m0 o0) i6 (Rd.star (Rd.ofBlk (b:=E2) (T:=285) (c:=[Value.func (.func 170) #[] [aG b4].toArray,Value.func (.func 248) #[] [aG j2].toArray,Value.func (.func 249) #[] [aG m0,aG o0].toArray,Value.func (.func 171) #[] [aG b5,aG bz].toArray]) a6 rfl aM rfl)) aM) a8;exact h7) rfl ?_)
     rintro⟨⟩ _;refine ii ?_;refine zF (b:=bz) [aJ (bh v e c).2.1] (by rw[wC v e c [aG b4] [aG j2] [aG m0,aG o0] [aG b5,aG bz]]) (rn [23,10,2,23,11,40] ?_);refine ae 27 (v' := V.v (bh v e c).1) rfl (by rw[wC v e c [aG b4] [aG j2] [aG m0,aG o0] [aG b5,aG bz]]) (rn [24,12,40] ?_);refine ae 28 (v' := aH (bh v e c).2.2) rfl (by rw[wC v e c [aG b4] [aG j2] [aG m0,aG o0] [aG b5,aG bz]]) ?_;refine dop 14 rfl (zT rfl rfl rfl rfl rfl (rn [24,15,3,28] ?_));exact eL w7
    refine dop 8 rfl (bg rfl rfl rfl rfl rfl fun E2=>?_);refine zF (b:=E2) [Value.func (.func 170) #[] [aG b4].toArray,Value.func (.func 248) #[] [aG j2].toArray,Value.func (.func 249) #[] [aG m0,aG o0].toArray,Value.func (.func 171) #[] [aG b5,aG bz].toArray] rfl ?_;refine dop 9 rfl (zJ _ rfl (fun w1 a6 a8=>by
     have h7:=au.unstar (Ls:=[Res.blk b4 3 [aH (e)],Res.blk j2 3 [aH (7)],Res.blk m0 3 [aH (e)],Res.blk o0 3 [aH (c.sld)],Res.blk b5 24 c.c,Res.blk bz 22 [aJ (0)]]) (Ls1:=fun _=>[Res.blk b4 3 [aH (e)],Res.blk j2 3 [aH (7)],Res.blk m0 3 [aH (e)],Res.blk o0 3 [aH (c.sld)],Res.blk b5 24 c.c,Res.blk bz 22 [aJ ((dS ([(⟨170,[aG b4],fun v s=>((mkR e v).1,(mkR e v).2,s)⟩:Chg Int),(⟨248,[aG j2],fun v s=>((evR 7 v).1,(evR 7 v).2,s)⟩:Chg Int),(⟨249,[aG m0,aG o0],fun v s=>((dlR e c.sld v).1,(dlR e c.sld v).2,s)⟩:Chg Int),(⟨171,[aG b5,aG bz],fun v _=>((buR c v).1,0,(buR c v).2)⟩:Chg Int)]:List (Chg Int)) v 0).2.2)]]) (fun u2=>xN (fun z9:Int=>Res.star [Res.blk b4 3 [aH (e)],Res.blk j2 3 [aH (7)],Res.blk m0 3 [aH (e)],Res.blk o0 3 [aH (c.sld)],Res.blk b5 24 c.c,Res.blk bz 22 [aJ (z9)]]) okP ([(⟨170,[aG b4],fun v s=>((mkR e v).1,(mkR e v).2,s)⟩:Chg Int),(⟨248,[aG j2],fun v s=>((evR 7 v).1,(evR 7 v).2,s)⟩:Chg Int),(⟨249,[aG m0,aG o0],fun v s=>((dlR e c.sld v).1,(dlR e c.sld v).2,s)⟩:Chg Int),(⟨171,[aG b5,aG bz],fun v _=>((buR c v).1,0,(buR c v).2)⟩:Chg Int)]:List (Chg Int)) v 0 E2 w1 u2 (G0 j2 m0 o0) i6 (Rd.star (Rd.ofBlk (b:=E2) (T:=285) (c:=[Value.func (.func 170) #[] [aG b4].toArray,Value.func (.func 248) #[] [aG j2].toArray,Value.func (.func 249) #[] [aG m0,aG o0].toArray,Value.func (.func 171) #[] [aG b5,aG bz].toArray]) a6 rfl aM rfl)) aM) a8;exact h7) rfl ?_)
    rintro⟨⟩ _;refine ii ?_;refine zF (b:=bz) [aJ (bh v e c).2.1] (by rw[wC v e c [aG b4] [aG j2] [aG m0,aG o0] [aG b5,aG bz]]) (rn [23,10,2,23,11,40] ?_);refine ae 27 (v' := V.v (bh v e c).1) rfl (by rw[wC v e c [aG b4] [aG j2] [aG m0,aG o0] [aG b5,aG bz]]) (rn [24,12,40] ?_);refine ae 28 (v' := aH (bh v e c).2.2) rfl (by rw[wC v e c [aG b4] [aG j2] [aG m0,aG o0] [aG b5,aG bz]]) ?_;refine dop 14 rfl (zT rfl rfl rfl rfl rfl (rn [24,15,3,28] ?_));exact eL w7
   refine dop 6 rfl (zJ [] rfl (fun w1 a6 a8=>by have h7:=sO (e) (c.sld) w1;exact h7) rfl ?_);rintro⟨m0,o0⟩ _;refine ii ?_;refine dop 8 rfl (bg rfl rfl rfl rfl rfl fun E2=>?_);refine zF (b:=E2) [Value.func (.func 170) #[] [aG b4].toArray,Value.func (.func 248) #[] [aG j2].toArray,Value.func (.func 249) #[] [aG m0,aG o0].toArray,Value.func (.func 171) #[] [aG b5,aG bz].toArray] rfl ?_;refine dop 9 rfl (zJ _ rfl (fun w1 a6 a8=>by
    have h7:=au.unstar (Ls:=[Res.blk b4 3 [aH (e)],Res.blk j2 3 [aH (7)],Res.blk m0 3 [aH (e)],Res.blk o0 3 [aH (c.sld)],Res.blk b5 24 c.c,Res.blk bz 22 [aJ (0)]]) (Ls1:=fun _=>[Res.blk b4 3 [aH (e)],Res.blk j2 3 [aH (7)],Res.blk m0 3 [aH (e)],Res.blk o0 3 [aH (c.sld)],Res.blk b5 24 c.c,Res.blk bz 22 [aJ ((dS ([(⟨170,[aG b4],fun v s=>((mkR e v).1,(mkR e v).2,s)⟩:Chg Int),(⟨248,[aG j2],fun v s=>((evR 7 v).1,(evR 7 v).2,s)⟩:Chg Int),(⟨249,[aG m0,aG o0],fun v s=>((dlR e c.sld v).1,(dlR e c.sld v).2,s)⟩:Chg Int),(⟨171,[aG b5,aG bz],fun v _=>((buR c v).1,0,(buR c v).2)⟩:Chg Int)]:List (Chg Int)) v 0).2.2)]]) (fun u2=>xN (fun z9:Int=>Res.star [Res.blk b4 3 [aH (e)],Res.blk j2 3 [aH (7)],Res.blk m0 3 [aH (e)],Res.blk o0 3 [aH (c.sld)],Res.blk b5 24 c.c,Res.blk bz 22 [aJ (z9)]]) okP ([(⟨170,[aG b4],fun v s=>((mkR e v).1,(mkR e v).2,s)⟩:Chg Int),(⟨248,[aG j2],fun v s=>((evR 7 v).1,(evR 7 v).2,s)⟩:Chg Int),(⟨249,[aG m0,aG o0],fun v s=>((dlR e c.sld v).1,(dlR e c.sld v).2,s)⟩:Chg Int),(⟨171,[aG b5,aG bz],fun v _=>((buR c v).1,0,(buR c v).2)⟩:Chg Int)]:List (Chg Int)) v 0 E2 w1 u2 (G0 j2 m0 o0) i6 (Rd.star (Rd.ofBlk (b:=E2) (T:=285) (c:=[Value.func (.func 170) #[] [aG b4].toArray,Value.func (.func 248) #[] [aG j2].toArray,Value.func (.func 249) #[] [aG m0,aG o0].toArray,Value.func (.func 171) #[] [aG b5,aG bz].toArray]) a6 rfl aM rfl)) aM) a8;exact h7) rfl ?_)
   rintro⟨⟩ _;refine ii ?_;refine zF (b:=bz) [aJ (bh v e c).2.1] (by rw[wC v e c [aG b4] [aG j2] [aG m0,aG o0] [aG b5,aG bz]]) (rn [23,10,2,23,11,40] ?_);refine ae 27 (v' := V.v (bh v e c).1) rfl (by rw[wC v e c [aG b4] [aG j2] [aG m0,aG o0] [aG b5,aG bz]]) (rn [24,12,40] ?_);refine ae 28 (v' := aH (bh v e c).2.2) rfl (by rw[wC v e c [aG b4] [aG j2] [aG m0,aG o0] [aG b5,aG bz]]) ?_;refine dop 14 rfl (zT rfl rfl rfl rfl rfl (rn [24,15,3,28] ?_));exact eL w7
  refine dop 2 rfl (zJ [] rfl (fun w1 a6 a8=>by have h7:=uO (7) w1;exact h7) rfl ?_);rintro j2 _;refine ii ?_;refine dop 6 rfl (zJ [] rfl (fun w1 a6 a8=>by have h7:=sO (e) (c.sld) w1;exact h7) rfl ?_);rintro⟨m0,o0⟩ _;refine ii ?_;refine dop 8 rfl (bg rfl rfl rfl rfl rfl fun E2=>?_);refine zF (b:=E2) [Value.func (.func 170) #[] [aG b4].toArray,Value.func (.func 248) #[] [aG j2].toArray,Value.func (.func 249) #[] [aG m0,aG o0].toArray,Value.func (.func 171) #[] [aG b5,aG bz].toArray] rfl ?_;refine dop 9 rfl (zJ _ rfl (fun w1 a6 a8=>by
   have h7:=au.unstar (Ls:=[Res.blk b4 3 [aH (e)],Res.blk j2 3 [aH (7)],Res.blk m0 3 [aH (e)],Res.blk o0 3 [aH (c.sld)],Res.blk b5 24 c.c,Res.blk bz 22 [aJ (0)]]) (Ls1:=fun _=>[Res.blk b4 3 [aH (e)],Res.blk j2 3 [aH (7)],Res.blk m0 3 [aH (e)],Res.blk o0 3 [aH (c.sld)],Res.blk b5 24 c.c,Res.blk bz 22 [aJ ((dS ([(⟨170,[aG b4],fun v s=>((mkR e v).1,(mkR e v).2,s)⟩:Chg Int),(⟨248,[aG j2],fun v s=>((evR 7 v).1,(evR 7 v).2,s)⟩:Chg Int),(⟨249,[aG m0,aG o0],fun v s=>((dlR e c.sld v).1,(dlR e c.sld v).2,s)⟩:Chg Int),(⟨171,[aG b5,aG bz],fun v _=>((buR c v).1,0,(buR c v).2)⟩:Chg Int)]:List (Chg Int)) v 0).2.2)]]) (fun u2=>xN (fun z9:Int=>Res.star [Res.blk b4 3 [aH (e)],Res.blk j2 3 [aH (7)],Res.blk m0 3 [aH (e)],Res.blk o0 3 [aH (c.sld)],Res.blk b5 24 c.c,Res.blk bz 22 [aJ (z9)]]) okP ([(⟨170,[aG b4],fun v s=>((mkR e v).1,(mkR e v).2,s)⟩:Chg Int),(⟨248,[aG j2],fun v s=>((evR 7 v).1,(evR 7 v).2,s)⟩:Chg Int),(⟨249,[aG m0,aG o0],fun v s=>((dlR e c.sld v).1,(dlR e c.sld v).2,s)⟩:Chg Int),(⟨171,[aG b5,aG bz],fun v _=>((buR c v).1,0,(buR c v).2)⟩:Chg Int)]:List (Chg Int)) v 0 E2 w1 u2 (G0 j2 m0 o0) i6 (Rd.star (Rd.ofBlk (b:=E2) (T:=285) (c:=[Value.func (.func 170) #[] [aG b4].toArray,Value.func (.func 248) #[] [aG j2].toArray,Value.func (.func 249) #[] [aG m0,aG o0].toArray,Value.func (.func 171) #[] [aG b5,aG bz].toArray]) a6 rfl aM rfl)) aM) a8;exact h7) rfl ?_)
  rintro⟨⟩ _;refine ii ?_;refine zF (b:=bz) [aJ (bh v e c).2.1] (by rw[wC v e c [aG b4] [aG j2] [aG m0,aG o0] [aG b5,aG bz]]) (rn [23,10,2,23,11,40] ?_);refine ae 27 (v' := V.v (bh v e c).1) rfl (by rw[wC v e c [aG b4] [aG j2] [aG m0,aG o0] [aG b5,aG bz]]) (rn [24,12,40] ?_);refine ae 28 (v' := aH (bh v e c).2.2) rfl (by rw[wC v e c [aG b4] [aG j2] [aG m0,aG o0] [aG b5,aG bz]]) ?_;refine dop 14 rfl (zT rfl rfl rfl rfl rfl (rn [24,15,3,28] ?_));exact eL w7
 rintro w7;refine rn [7,8] ?_;refine bn [0,1,3] an rfl (rn [24,2,2] ?_);refine yJ [0,1] aL aM zG ⟨bu rfl (G.quiet (xT rfl rfl) rfl ?_),bu rfl (G.quiet (vO rfl rfl) rfl ?_),trivial⟩
 ·refine yJ [1,3] aL aM zG ⟨bu rfl (G.quiet (vO rfl rfl) rfl ?_),bu rfl (zT rfl rfl rfl rfl rfl ?_),trivial⟩
  ·refine fJ 3 rfl (zT rfl rfl rfl rfl rfl (Si ?_));exact dI rfl (.cellw rfl rfl) (.tmp rfl) (.tmp rfl) fun w' a5=>⟨aP,a5.upd⟩
  refine fJ 1 rfl (G.quiet (vO rfl rfl) rfl (Si ?_));exact dI rfl (.cellw rfl rfl) (.tmp rfl) (.tmp rfl) fun w' a5=>⟨aP,a5.upd⟩
 refine fJ 0 rfl (G.quiet (xT rfl rfl) rfl ?_);refine fJ 3 rfl (zT rfl rfl rfl rfl rfl (Si ?_));exact dI rfl (.cellw rfl rfl) (.tmp rfl) (.tmp rfl) fun w' a5=>⟨aP,a5.upd⟩
theorem wV (y lo hi:Int) (w:World) : Pur Tryz.prog 206 [aH y,aH lo,aH hi] w (.bool (decide (lo≤y) && decide (y≤hi))):=by
 refine Γ Tryz.func206 15 (WOK.start [] _) ?_;refine rn [1,3,0,1,2,2,56,2] ?_;refine zS 10 rfl (fun h1=>?_) (fun h1=>?_)
 ·refine rn [22,2,22,2,22,56,41,3,0,11] ?_;exact dD rfl rfl fun w' a5=>⟨by first|(simp_all;done)|(simp_all;omega),a5.upd⟩
 refine Sh ?_;exact dD rfl rfl fun w' a5=>⟨by first|(simp_all;done)|(simp_all;omega),a5.upd⟩
theorem qG (y lo hi:Int) (w:World) : Pur Tryz.prog 211 [aJ y,aJ lo,aJ hi] w (.bool (decide (lo≤y) && decide (y≤hi))):=by
 refine Γ Tryz.func211 15 (WOK.start [] _) ?_;refine rn [1,3,0,1,2,2,56,2] ?_;refine zS 10 rfl (fun h1=>?_) (fun h1=>?_)
 ·refine rn [22,2,22,2,22,56,41,3,0,11] ?_;exact dD rfl rfl fun w' a5=>⟨by first|(simp_all;done)|(simp_all;omega),a5.upd⟩
 refine Sh ?_;exact dD rfl rfl fun w' a5=>⟨by first|(simp_all;done)|(simp_all;omega),a5.upd⟩
theorem IC (c:C) (w:World) (hc:chk c=0) (hk:Cok c):Pur Tryz.prog 205 [c.v] w (.bool true):=by
 refine Γ Tryz.func205 6 (WOK.start [] _) ?_;refine Ri ?_;refine aa (aq (c:=C.c c) rfl rfl rfl fun b1=>SL ?_);refine aa (zH rfl (fun w1 a6=>wV _ _ _ w1) rfl (Rb ?_));exact dD rfl rfl fun w' a5=>⟨by have h9:=yC hc 1 aK aK;simp[ar,btw] at h9;simp<;>omega,a5.upd⟩
theorem IB (c:C) (w:World) (hc:chk c=0) (hk:Cok c):Pur Tryz.prog 207 [c.v] w (.bool true):=by
 refine Γ Tryz.func207 6 (WOK.start [] _) ?_;refine Ri ?_;refine aa (aq (c:=C.c c) rfl rfl rfl fun b1=>SL ?_);refine aa (zH rfl (fun w1 a6=>wV _ _ _ w1) rfl (Rb ?_));exact dD rfl rfl fun w' a5=>⟨by have h9:=yC hc 2 aK aK;simp[ar,btw] at h9;simp<;>omega,a5.upd⟩
theorem IA (c:C) (w:World) (hc:chk c=0) (hk:Cok c):Pur Tryz.prog 208 [c.v] w (.bool true):=by
 refine Γ Tryz.func208 6 (WOK.start [] _) ?_;refine Ri ?_;refine aa (aq (c:=C.c c) rfl rfl rfl fun b1=>rn [3,0,1,4,5,55,3,0,11] ?_);exact dD rfl rfl fun w' a5=>⟨by have h9:=yC hc 3 aK aK;simp[ar,btw] at h9;simp<;>omega,a5.upd⟩
theorem Hz (c:C) (w:World) (hc:chk c=0) (hk:Cok c):Pur Tryz.prog 209 [c.v] w (.bool true):=by
 refine Γ Tryz.func209 8 (WOK.start [] _) ?_;refine Ri ?_;refine aa (aq (c:=C.c c) rfl rfl rfl fun b1=>rn [3,0,1,4,5,4,5,53,3,0,11] ?_);exact dD rfl rfl fun w' a5=>⟨by have h9:=yC hc 4 aK aK;simp[ar,btw] at h9;simp<;>omega,a5.upd⟩
theorem Hy (c:C) (w:World) (hc:chk c=0) (hk:Cok c):Pur Tryz.prog 210 [c.v] w (.bool true):=by
 refine Γ Tryz.func210 8 (WOK.start [] _) ?_;refine Ri ?_;refine aa (aq (c:=C.c c) rfl rfl rfl fun b1=>rn [3,0,1,4,5,4,5] ?_);refine aa (zH rfl (fun w1 a6=>qG _ _ _ w1) rfl (Rb ?_));exact dD rfl rfl fun w' a5=>⟨by have h9:=yC hc 5 aK aK;simp[ar,btw] at h9;simp<;>omega,a5.upd⟩
theorem Hx (c:C) (w:World) (hc:chk c=0) (hk:Cok c):Pur Tryz.prog 212 [c.v] w (.bool true):=by
 refine Γ Tryz.func212 8 (WOK.start [] _) ?_;refine Ri ?_;refine aa (aq (c:=C.c c) rfl rfl rfl fun b1=>rn [3,0,1,4,5,4,5] ?_);refine aa (zH rfl (fun w1 a6=>qG _ _ _ w1) rfl (Rb ?_));exact dD rfl rfl fun w' a5=>⟨by have h9:=yC hc 6 aK aK;simp[ar,btw] at h9;simp<;>omega,a5.upd⟩
theorem Hw (c:C) (w:World) (hc:chk c=0) (hk:Cok c):Pur Tryz.prog 213 [c.v] w (.bool true):=by
 refine Γ Tryz.func213 10 (WOK.start [] _) ?_;refine Ri ?_;refine aa (aq (c:=C.c c) rfl rfl rfl fun b1=>rn [3,0,1,4,5,4,5,4,5] ?_);refine aa (zH rfl (fun w1 a6=>qG _ _ _ w1) rfl (Rb ?_));exact dD rfl rfl fun w' a5=>⟨by have h9:=yC hc 7 aK aK;simp[ar,btw] at h9;simp<;>omega,a5.upd⟩
theorem Hv (c:C) (w:World) (hc:chk c=0) (hk:Cok c):Pur Tryz.prog 214 [c.v] w (.bool true):=by
 refine Γ Tryz.func214 6 (WOK.start [] _) ?_;refine Ri ?_;refine aa (aq (c:=C.c c) rfl rfl rfl fun b1=>SL ?_);refine aa (zH rfl (fun w1 a6=>qG _ _ _ w1) rfl (Rb ?_));exact dD rfl rfl fun w' a5=>⟨by have h9:=yC hc 8 aK aK;simp[ar,btw] at h9;simp<;>omega,a5.upd⟩
theorem Hu (c:C) (w:World) (hc:chk c=0) (hk:Cok c):Pur Tryz.prog 215 [c.v] w (.bool true):=by
 refine Γ Tryz.func215 6 (WOK.start [] _) ?_;refine Ri ?_;refine aa (aq (c:=C.c c) rfl rfl rfl fun b1=>rn [3,0,1,4,5,55,3,0,11] ?_);exact dD rfl rfl fun w' a5=>⟨by have h9:=yC hc 9 aK aK;simp[ar,btw] at h9;simp<;>omega,a5.upd⟩
theorem Ga (c:C) (w:World) (hc:chk c=0) (hk:Cok c):Pur Tryz.prog 216 [c.v] w (.bool true):=by
 refine Γ Tryz.func216 6 (WOK.start [] _) ?_;refine Ri ?_;refine aa (aq (c:=C.c c) rfl rfl rfl fun b1=>rn [3,0,1,4,5,56,3,0,11] ?_);exact dD rfl rfl fun w' a5=>⟨by have h9:=yC hc 10 aK aK;simp[ar,btw] at h9;simp<;>omega,a5.upd⟩
theorem GZ (c:C) (w:World) (hc:chk c=0) (hk:Cok c):Pur Tryz.prog 217 [c.v] w (.bool true):=by
 refine Γ Tryz.func217 6 (WOK.start [] _) ?_;refine Ri ?_;refine aa (aq (c:=C.c c) rfl rfl rfl fun b1=>SL ?_);refine aa (zH rfl (fun w1 a6=>wV _ _ _ w1) rfl (Rb ?_));exact dD rfl rfl fun w' a5=>⟨by have h9:=yC hc 11 aK aK;simp[ar,btw] at h9;simp<;>omega,a5.upd⟩
theorem GY (c:C) (w:World) (hc:chk c=0) (hk:Cok c):Pur Tryz.prog 218 [c.v] w (.bool true):=by
 refine Γ Tryz.func218 9 (WOK.start [] _) ?_;have g1:=hk.vis;have g2:=hk.pays;have g3:=hk.unb;refine Ri ?_;refine aa (aq (c:=C.c c) rfl rfl rfl fun b1=>rn [3,0,1,4,5,4,5] ?_);refine s_q (yI (z:=c.unb+1) rfl rfl (dY aK aK)) rfl ?_;refine aa (zH rfl (fun w1 a6=>wV _ _ _ w1) rfl (Rb ?_));exact dD rfl rfl fun w' a5=>⟨by have h9:=yC hc 12 aK aK;simp[ar,btw] at h9;simp<;>omega,a5.upd⟩
theorem GX (c:C) (w:World) (hc:chk c=0) (hk:Cok c):Pur Tryz.prog 219 [c.v] w (.bool true):=by
 refine Γ Tryz.func219 6 (WOK.start [] _) ?_;refine Ri ?_;refine aa (aq (c:=C.c c) rfl rfl rfl fun b1=>SL ?_);refine aa (zH rfl (fun w1 a6=>wV _ _ _ w1) rfl (Rb ?_));exact dD rfl rfl fun w' a5=>⟨by have h9:=yC hc 13 aK aK;simp[ar,btw] at h9;simp<;>omega,a5.upd⟩
theorem GW (c:C) (w:World) (hc:chk c=0) (hk:Cok c):Pur Tryz.prog 220 [c.v] w (.bool true):=by
 refine Γ Tryz.func220 6 (WOK.start [] _) ?_;refine Ri ?_;refine aa (aq (c:=C.c c) rfl rfl rfl fun b1=>SL ?_);refine aa (zH rfl (fun w1 a6=>wV _ _ _ w1) rfl (Rb ?_));exact dD rfl rfl fun w' a5=>⟨by have h9:=yC hc 14 aK aK;simp[ar,btw] at h9;simp<;>omega,a5.upd⟩
theorem GV (c:C) (w:World) (hc:chk c=0) (hk:Cok c):Pur Tryz.prog 221 [c.v] w (.bool true):=by
 refine Γ Tryz.func221 6 (WOK.start [] _) ?_;refine Ri ?_;refine aa (aq (c:=C.c c) rfl rfl rfl fun b1=>SL ?_);refine aa (zH rfl (fun w1 a6=>wV _ _ _ w1) rfl (Rb ?_));exact dD rfl rfl fun w' a5=>⟨by have h9:=yC hc 15 aK aK;simp[ar,btw] at h9;simp<;>omega,a5.upd⟩
theorem GU (c:C) (w:World) (hc:chk c=0) (hk:Cok c):Pur Tryz.prog 222 [c.v] w (.bool true):=by
 refine Γ Tryz.func222 6 (WOK.start [] _) ?_;refine Ri ?_;refine aa (aq (c:=C.c c) rfl rfl rfl fun b1=>SL ?_);refine aa (zH rfl (fun w1 a6=>wV _ _ _ w1) rfl (Rb ?_));exact dD rfl rfl fun w' a5=>⟨by have h9:=yC hc 16 aK aK;simp[ar,btw] at h9;simp<;>omega,a5.upd⟩
theorem GTx (c:C) (w:World) (hc:chk c=0) (hk:Cok c):Pur Tryz.prog 223 [c.v] w (.bool true):=by
 refine Γ Tryz.func223 12 (WOK.start [] _) ?_;have g1:=hk.vis;have g2:=hk.pays;have g3:=hk.unb;refine Ri ?_;refine aa (aq (c:=C.c c) rfl rfl rfl fun b1=>rn [3,0,1,4,5,4,5,4,5,58] ?_);refine s_q (yN (z:=min c.vis c.pays-1) rfl rfl (dY aK aK)) rfl ?_;refine aa (zH rfl (fun w1 a6=>wV _ _ _ w1) rfl (Rb ?_));exact dD rfl rfl fun w' a5=>⟨by have h9:=yC hc 17 aK aK;simp[ar,btw] at h9;simp<;>omega,a5.upd⟩
theorem GS (c:C) (w:World) (hc:chk c=0) (hk:Cok c):Pur Tryz.prog 224 [c.v] w (.bool true):=by
 refine Γ Tryz.func224 6 (WOK.start [] _) ?_;refine Ri ?_;refine aa (aq (c:=C.c c) rfl rfl rfl fun b1=>SL ?_);refine aa (zH rfl (fun w1 a6=>wV _ _ _ w1) rfl (Rb ?_));exact dD rfl rfl fun w' a5=>⟨by have h9:=yC hc 18 aK aK;simp[ar,btw] at h9;simp<;>omega,a5.upd⟩
theorem GR (c:C) (w:World) (hc:chk c=0) (hk:Cok c):Pur Tryz.prog 225 [c.v] w (.bool true):=by
 refine Γ Tryz.func225 8 (WOK.start [] _) ?_;refine Ri ?_;refine aa (aq (c:=C.c c) rfl rfl rfl fun b1=>rn [3,0,1,4,5,4,5,56,3,0,11] ?_);exact dD rfl rfl fun w' a5=>⟨by have h9:=yC hc 19 aK aK;simp[ar,btw] at h9;simp<;>omega,a5.upd⟩
theorem GQ (c:C) (w:World) (hc:chk c=0) (hk:Cok c):Pur Tryz.prog 226 [c.v] w (.bool true):=by
 refine Γ Tryz.func226 6 (WOK.start [] _) ?_;refine Ri ?_;refine aa (aq (c:=C.c c) rfl rfl rfl fun b1=>SL ?_);refine aa (zH rfl (fun w1 a6=>qG _ _ _ w1) rfl (Rb ?_));exact dD rfl rfl fun w' a5=>⟨by have h9:=yC hc 20 aK aK;simp[ar,btw] at h9;simp<;>omega,a5.upd⟩
def ug:List Nat:=[205,207,208,209,210,212,213,214,215,216,217,218,219,220,221,222,223,224,225,226]
def FG:List Value:=ug.map fun f=>.func (.func f) #[] #[]
theorem rs {c:C} (hc:chk c=0) (hk:Cok c):∀f∈ug,gI Tryz.prog f=true∧∀w,Pur Tryz.prog f [c.v] w (.bool true):=by
 intro f hf;simp only[ug,cH,cE,or_false] at hf;rcases hf with rfl|rfl|rfl|rfl|rfl|rfl|rfl|rfl|rfl|rfl|rfl|rfl|rfl|rfl|rfl|rfl|rfl|rfl|rfl|rfl
 ·exact⟨aL,fun w=>IC c w hc hk⟩
 ·exact⟨aL,fun w=>IB c w hc hk⟩
 ·exact⟨aL,fun w=>IA c w hc hk⟩
 ·exact⟨aL,fun w=>Hz c w hc hk⟩
 ·exact⟨aL,fun w=>Hy c w hc hk⟩
 ·exact⟨aL,fun w=>Hx c w hc hk⟩
 ·exact⟨aL,fun w=>Hw c w hc hk⟩
 ·exact⟨aL,fun w=>Hv c w hc hk⟩
 ·exact⟨aL,fun w=>Hu c w hc hk⟩
 ·exact⟨aL,fun w=>Ga c w hc hk⟩
 ·exact⟨aL,fun w=>GZ c w hc hk⟩
 ·exact⟨aL,fun w=>GY c w hc hk⟩
 ·exact⟨aL,fun w=>GX c w hc hk⟩
 ·exact⟨aL,fun w=>GW c w hc hk⟩
 ·exact⟨aL,fun w=>GV c w hc hk⟩
 ·exact⟨aL,fun w=>GU c w hc hk⟩
 ·exact⟨aL,fun w=>GTx c w hc hk⟩
 ·exact⟨aL,fun w=>GS c w hc hk⟩
 ·exact⟨aL,fun w=>GR c w hc hk⟩
 exact⟨aL,fun w=>GQ c w hc hk⟩
theorem DB {i:Nat} (h:i<20):∃f∈ug,FG[i]?=some (.func (.func f) #[] #[]):=⟨ug[i]'h,cC _,by unfold FG;rw[List.getElem?_map,List.getElem?_eq_getElem (show i<ug.length from h)];rfl⟩
theorem uf (w:World) : Pur Tryz.prog 143 [] w (.agg FG.toArray):=by
 refine Γ Tryz.func143 22 (WOK.start [] _) ?_;refine Ri ?_;refine aa (zK rfl fun b0=>rn [0,1,49,49,49,49,49,49,49,49,49,49,49,49,49,49,49,49,49,49,49,49,49,33,0,11] ?_);exact dG rfl (.cellw rfl rfl) fun w' a5=>⟨aP,a5.upd⟩
theorem Am (c:C) (w:World) (hc:chk c=0) (hk:Cok c):Pur Tryz.prog 87 [c.v] w (aH 0):=by
 refine Γ Tryz.func87 18 (WOK.start [] _) ?_;refine Ri ?_;refine aa (aq (c:=C.c c) rfl rfl rfl fun b1=>rn [3,0,8,1] ?_);refine aa (zH rfl (fun w1 a6=>uf w1) rfl (rn [2,0,14] ?_));refine dP [1,2,5] (fun(x:Nat)=>[(6,aI x)]) (fun(x:Nat)=>[Res.blk b1 24 c.c]) (fun(x:Nat)=>x≤20) (fun(x:Nat)=>20-x) 0 aW ?_;rintro k f6;replace f6:k≤20:=f6;refine Rj ?_;refine zB rfl (fun h1=>?_) (fun h1=>?_)
 ·have f8:k<20:=by have h9:=bW h1;omega
  obtain⟨f,hf,hfv⟩:=DB f8;refine rn [12,7,8,14,1,2] ?_;refine s_q (tg (i:=k) rfl rfl rfl f8 hfv) rfl ?_;refine aa (zK rfl fun b4=>rn [3,33,0,1,4,5,45] ?_);refine aa (mu (hb:=⟨(rs hc hk f hf).1⟩) (f:=f) rfl rfl (fun w1 a6=>(rs hc hk f hf).2 w1) rfl (rn [48] ?_));refine zV 14 (b:=false) rfl (rfl) (rn [0,20,12,15,7,10,43,2,9] ?_);exact cr (k+1) aU
 have f9:k=20:=by have h9:=bX h1;omega
 refine Ru ?_;refine zE (zE (zQ (So ?_)));exact dD rfl rfl fun w' a5=>⟨aP,a5.upd⟩
theorem oZ (c:C) (w:World) (hc:chk c=0) (hk:Cok c):Pur Tryz.prog 32 [c.v] w (.bool true):=by
 refine Γ Tryz.func32 6 (WOK.start [] _) ?_;refine Ri ?_;refine aa (aq (c:=C.c c) rfl rfl rfl fun b1=>rn [3,0,1,45] ?_);refine aa (zH rfl (fun w1 a6=>Am c w1 hc hk) rfl (rn [44,3,0,11] ?_));exact dD rfl rfl fun w' a5=>⟨aP,a5.upd⟩
theorem Ag (ub b2 b3 n k:Nat) (w:World) (hw:W0 [Res.blk b2 96 [aG ub],Res.blk b3 3 [aI n],Res.blk ub 180 [aI k]] w) (hk:k<1000000) (hn:0<n∧n≤1000000):au (ι:=Unit) Tryz.prog 287 [aG b2,aG b3] w [Res.blk b2 96 [aG ub],Res.blk b3 3 [aI n],Res.blk ub 180 [aI k]] (fun x=>True) (fun x=>.int .i64 ((k%n:Nat):Int)) (fun x=>[]) (fun x=>[Res.blk b2 96 [aG ub],Res.blk b3 3 [aI n],Res.blk ub 180 [aI ((k%n+1)%n)]]):=by
 refine Γ Tryz.func287 18 hw ?_;have hm:=cW k hn.1;refine SZ ?_;refine bn [] an rfl (rn [23,0,5,23,1,6,23,2,4,23,3,5,23,4,5] ?_);refine dq 5 rfl (wA (a:=k) (b:=n) rfl rfl aR) (rn [23,6,3,27,7,8] ?_);refine bn [7] an rfl (rn [23,0,5,23,1,2,23,2,43,23,3,5] ?_);refine dq 4 rfl (wA (a:=((k%n)+1)) (b:=n) rfl rfl aR) (rn [24,5,6,23,6,4] ?_);refine dop 7 rfl (zI rfl rfl rfl rfl rfl rfl rfl ?_);refine zF (b:=ub) [aI ((k%n+1)%n)] (by simp[ay]) (rn [28,7,1,2,3,0,11] ?_);exact dD rfl rfl fun w' a5=>⟨(),aQ,rfl,zA w' a5⟩
theorem uc (ub n:Nat) (w:World) : au (ι:=(Nat × Nat)) Tryz.prog 239 [aG ub,aI n] w [] (fun x=>True) (fun x=>.func (.func 287) #[] [aG x.1,aG x.2].toArray) (fun x=>[Res.blk x.1 96 [aG ub],Res.blk x.2 3 [aI n]]) (fun x=>[]):=by
 refine Γ Tryz.func239 6 (WOK.start (fps []) _) ?_;refine Ri ?_;refine aa (aq rfl rfl rfl fun b2=>?_);refine aa (aq rfl rfl rfl fun b3=>SA ?_);exact dD rfl rfl fun w' a5=>⟨(b2,b3),aQ,rfl,zA w' a5⟩
theorem lW {rd:List Bool} {n pays k at_ made:Nat} {paid:List Int} (h:paid.length=pays):swp rd n pays k at_ paid made=(at_,paid,made):=by
 cases k with
 | zero=>rfl
 | succ k=>rw[swp,bZ h]
theorem qP {rd:List Bool} {n pays K at_ made:Nat} {paid:List Int} (h:¬paid.length=pays) (hk:made<K):swp rd n pays (K-made) at_ paid made=swp rd n pays (K-(made+1)) ((at_%n+1)%n) (if rd[at_%n]?=some true then paid++[((at_%n:Nat):Int)] else paid) (made+1):=by
 obtain⟨k,hk⟩:∃k,K-made=k+1:=⟨K-made-1,aK⟩
 rw[hk,swp,bY h,show K-(made+1)=k by omega]
theorem sk (ub k:Nat) (A:bU) (n cap:Nat) (rd:List Bool) (vis pays:Int) (w:World) (hw:W0 [Res.blk ub 180 [aI k]] w) (hk:k≤4096) (hrd:Rd w [Res.blk ub 180 [aI k]] A n 1 (rd.map aF)) (hb:n≤4096):au (ι:=(bU × Nat)) Tryz.prog 159 [aG ub,.slice A n cap,aH vis,aH pays] w [Res.blk ub 180 [aI k]] (fun x=>True) (fun x=>.tuple [.slice x.1 (dJ k rd vis pays).2.1.length x.2,aI ((dJ k rd vis pays).2.2)].toArray) (fun x=>[Res.row x.1 ((dJ k rd vis pays).2.1).length x.2 3 1 (((dJ k rd vis pays).2.1).map aC)]) (fun x=>[Res.blk ub 180 [aI ((dJ k rd vis pays).1)]]):=by
 refine Γ Tryz.func159 53 hw ?_;have hn:n=rd.length:=by have:=hrd.old.len;simpa using this
 refine rn [1,3,3,0] ?_;refine qt (rn [1,2,47,3,0,8,1,2,50,2,22,2,22,44,42,2] ?_);refine zS 23 rfl (fun h1=>?_) (fun h1=>?_)
 ·have hn1:n=0:=by have h9:=bW h1;omega
  have hR:(dJ k rd vis pays)=(k,[],0):=by unfold dJ;rw[bZ (.inl aK)]
  refine rn [21,21,41,0,19,1,3,3,0,11] ?_;refine zD (vQ ?_);refine zY none 3 1 (([]:List Int).map aC) rfl ?_;exact dE rfl rfl rfl fun w' a5=>⟨((none:bU),0),aQ,by rw[hR];rfl,by rw[hR];exact zA w' a5⟩
 have hn0:0<n:=by have h9:=bX h1;omega
 refine rn [22,2,22,46,42,0] ?_;refine zB rfl (fun h2=>?_) (fun h2=>?_)
 ·have hR:(dJ k rd vis pays)=(k,[],0):=by unfold dJ;rw[bZ (.inr (bW h2))]
  refine rn [1,3,3,0,11] ?_;refine zD (vQ ?_);refine zY none 3 1 (([]:List Int).map aC) rfl ?_;exact dE rfl rfl rfl fun w' a5=>⟨((none:bU),0),aQ,by rw[hR];rfl,by rw[hR];exact zA w' a5⟩
 have hp0:1≤pays:=by have h9:=bX h2;omega
 obtain⟨P,hP⟩:∃q:Nat,pays=q:=⟨pays.toNat,aK⟩
 refine ae 3 (v' := aI P) rfl (by rw[hP]) ?_;obtain⟨K,hK⟩:∃q:Nat,(min vis (rd.length:Int)).toNat=q:=⟨_,rfl⟩
 have hR0:(dJ k rd vis pays)=swp rd n P (K-0) k [] 0:=by unfold dJ;rw[bY aK,hK,hn,show pays.toNat=P by omega];rfl
 have hKn:K≤n:=by omega
 have hm0:=cW k hn0;refine SQ ?_;refine aa (zJ [] rfl (fun w1 a6 a8=>by have h7:=uc ub n w1;exact h7) rfl ?_);rintro⟨b2,b3⟩ _;refine ii (rn [3,0,1,3] ?_);refine xA 12 3 1 rfl fun Az1 capz1 hcz1=>?_;refine zC (A:=Az1) (([]:List Int).map aC) rfl (rn [0,1,3,0,8] ?_);refine qv (rn [7,8,14] ?_);refine dP [1,2,3,8,9,10,11] (fun(x:Nat × List Int × Nat × bU × Nat)=>[(12,.slice x.2.2.2.1 (x.2.1).length x.2.2.2.2),(13,aI x.2.2.1)]) (fun(x:Nat × List Int × Nat × bU × Nat)=>[Res.row x.2.2.2.1 (x.2.1).length x.2.2.2.2 3 1 ((x.2.1).map aC),Res.blk b2 96 [aG ub],Res.blk b3 3 [aI n],Res.blk ub 180 [aI x.1]]) (fun(x:Nat × List Int × Nat × bU × Nat)=>x.1≤4096∧(x.2.1).length≤x.2.2.1∧x.2.2.1≤K∧(dJ k rd vis pays)=swp rd n P (K-x.2.2.1) x.1 x.2.1 x.2.2.1) (fun(x:Nat × List Int × Nat × bU × Nat)=>K-x.2.2.1) (k,([]:List Int),0,Az1,capz1) (by(try dsimp only);exact⟨hk,aM,aK,hR0⟩) ?_;rintro⟨k1,p1,m1,A1,j6⟩ ⟨w5,Z8,hmK,hs⟩;replace w5:k1≤4096:=w5;replace Z8:(p1).length≤m1:=Z8;replace hmK:m1≤K:=hmK;replace hs:(dJ k rd vis pays)=swp rd n P (K-m1) k1 p1 m1:=hs;refine yB (L' := [Res.row A1 (p1).length j6 3 1 ((p1).map aC),Res.blk b2 96 [aG ub],Res.blk b3 3 [aI n],Res.blk ub 180 [aI k1]]) rfl ?_;refine ae 12 (v' := .slice A1 (p1).length j6) rfl rfl ?_;refine ae 13 (v' := aI m1) rfl rfl (rn [8,1,2,2,2,58,46,0] ?_);refine zB rfl (fun h3=>?_) (fun h3=>?_)
 ·have N7:m1<K:=by have h9:=bW h3;omega
  have hm1:=cW k1 hn0;have hm2:=cW (k1%n+1) hn0;refine rn [12,7,8,14,8,1,2,47,2,44,0] ?_;refine zB rfl (fun h4=>?_) (fun h4=>?_)
  ·have hR:(dJ k rd vis pays)=(k1,p1,m1):=by rw[hs];exact lW (by have h9:=bW h4;omega)
   refine Ru ?_;refine zE (rK rfl (zE (zE (zQ (rn [7,1,2,2,3,3,0,11] ?_)))));refine vQ ?_;exact dE rfl rfl rfl fun w' a5=>⟨(A1,j6),aQ,by rw[hR],by rw[hR];exact zA w' a5⟩
  have B7:¬p1.length=P:=by have h9:=bX h4;omega
  refine Sx ?_;refine aa (xV [Res.blk b2 96 [aG ub],Res.blk b3 3 [aI n],Res.blk ub 180 [aI k1]] rfl rfl (fun w1 a6 a8=>by have h7:=Ag ub b2 b3 n k1 w1 a8 aK ⟨hn0,aK⟩;exact h7) rfl ?_);rintro⟨⟩ _;refine ii (Sr ?_);refine s_q (zM (i:=(k1%n)) rfl rfl rfl hrd.rdb aS) rfl ?_;refine s_q (zX (i:=(k1%n)) (o:=0) rfl hrd.rdb (zP aK) rfl rfl) rfl (rn [0] ?_);refine zB rfl (fun h5=>?_) (fun h5=>?_)
  ·have hrx:rd[k1%n]?=some true:=by rw[List.getElem?_eq_getElem aK];simpa using h5
   refine rn [10,2,2] ?_;refine aa (bg rfl rfl rfl rfl rfl fun b49=>?_);refine zF (b:=b49) ((([(((k1%n):Nat):Int)]:List Int).map aC).flatten) rfl ?_;refine aa (zW (A:=A1) (els:=(p1).map aC) (news:=(([(((k1%n):Nat):Int)]:List Int).map aC)) rfl rfl (InL.rdb (b:=b49) rfl aM rfl) (zZ (c:=aC) (by intro x;simp[Value.oneCell']) _) aK rfl fun A50 cap50=>⟨_,inferInstance,?_⟩);refine zC (A:=A50) (((p1++[(((k1%n):Nat):Int)])).map aC) (by first|rfl|exact cA.symm|(simp;done)) ?_;refine zR (A:=A50) (p1++[((k1%n:Nat):Int)]).length aM ?_;refine ae 50 (v' := .slice A50 (p1++[((k1%n:Nat):Int)]).length cap50) rfl aM (Rt ?_);exact cr (((k1%n+1)%n),(p1++[((k1%n:Nat):Int)]),(m1+1),A50,cap50) (by(try dsimp only);exact⟨aK,aV,aK,(by rw[qP B7 N7,bZ hrx] at hs;exact hs)⟩)
  have hrx:¬rd[k1%n]?=some true:=by rw[List.getElem?_eq_getElem aK];simpa using h5
  refine RP ?_;exact cr (((k1%n+1)%n),p1,(m1+1),A1,j6) (by(try dsimp only);exact⟨aK,aK,aK,(by rw[qP B7 N7,bY hrx] at hs;exact hs)⟩)
 have L5:m1=K:=by have h9:=bX h3;omega
 have hR:(dJ k rd vis pays)=(k1,p1,m1):=by rw[hs,L5,Nat.sub_self];rfl
 refine Ru ?_;refine zE (zE (zQ (rn [7,1,2,2,3,3,0,11] ?_)));refine vQ ?_;exact dE rfl rfl rfl fun w' a5=>⟨(A1,j6),aQ,by rw[hR],by rw[hR];exact zA w' a5⟩
theorem xj (rb:Nat) (g:RG) (v:V) (w:World) (hw:W0 [RgB rb g,RgW g,Res.im g.m] w) (hg:g.Rep) (hv:v.ok) (hlt:g.l.length<g.cp) (hb:(g.l.map V.bal).sum+v.bal≤18446744073709551615):au (ι:=RG) Tryz.prog 106 [aG rb,.agg v.c.toArray] w [RgB rb g,RgW g,Res.im g.m] (fun x=>x.Rep∧x.l=g.l++[v]∧x.cp=g.cp) (fun x=>.tuple [aI (g.l.length),aH 0].toArray) (fun x=>[]) (fun x=>[RgB rb x,RgW x,Res.im x.m]):=by
 refine tX Tryz.func106 rfl 51 rfl aM (fps [RgB rb g,RgW g,Res.im g.m]) [RgB rb g,RgW g,Res.im g.m] hw _ rfl ?_;have q7:=hg.cp;have hvb:=hv.bal;have ht0:0≤RG.t g:=by rw[hg.t];exact xH fun x hx=>by obtain⟨y,hy,rfl⟩:=cG.1 hx;exact(hg.ok y hy).bal.1
 refine Ri ?_;refine aa (aq rfl rfl rfl fun b3=>rn [3,3,0,8,1,2,50,0,20,12,7,8,8] ?_);refine bn [] an rfl (rn [23,0,2,23,1,6,23,2,4,23,3,5,23,4,47,23,5,2,23,6,6,23,7,4,23,8,5,23,9,44] ?_);refine zV 19 (b:=false) rfl aV (rn [27,7,20,12,7,8,8] ?_);refine bn [] an rfl (Rk ?_);refine dop 6 rfl (bg rfl rfl rfl rfl rfl fun b27=>?_);refine zF (b:=b27) ((([g.t,v.bal]:List Int).map aD).flatten) rfl ?_;refine dop 7 rfl (zH rfl (fun w1 a6=>vZ (some ⟨b27,0,none⟩) (2) (2) (([g.t,v.bal]:List Int)) w1 (Rdb.toOld (InL.rdb (b:=b27) (els:=(([g.t,v.bal]:List Int)).map aD) rfl aM rfl) a6) (by intro x hx;simp at hx;have:=hg.t;have:=hg.mx;rcases hx with rfl|rfl<;>omega) bB) rfl ?_);refine rn [23,8,2,23,9,40,23,10,40,23,11,3,23,12,3,27,7,1,2,48,0] ?_;refine zB rfl (fun h1=>?_) (fun h1=>?_)
 ·exfalso;have h9:=h1;have h8:eI [RG.t g,v.bal]=true:=(qM (by have h7:=hg.t;simp;omega)).1;rw[h8] at h9;simp at h9
 refine rn [12,7,1,2,45] ?_;refine aa (ky (fst:=[]) (cap:=[]) rfl rfl (Sw ?_));refine dR (L0:=[Res.blk rb 167 [aI g.cp,.slice g.A g.l.length g.k,aJ g.a,aJ g.t,.map (some g.m)],Res.blk b3 52 v.c]) [10] an rfl zG (rn [23,0,2,23,1,2,23,2,6,23,3,4,23,4,5,23,5,45] ?_);refine dop 6 rfl (bg rfl rfl rfl rfl rfl fun b41=>?_);refine zF (b:=b41) ((([v]:List V).map V.c).flatten) rfl ?_;refine dop 7 rfl (zW (A:=g.A) (els:=(g.l).map V.c) (news:=(([v]:List V).map V.c)) rfl rfl (InL.rdb (b:=b41) rfl (by simp[V.c]) rfl) (zZ (c:=V.c) (by intro x;simp[V.c,Value.oneCell']) _) (by have:=hg.cp;omega) rfl fun A42 cap42=>⟨_,inferInstance,?_⟩);refine zC (A:=A42) (((g.l++[v])).map V.c) (by first|rfl|exact cA.symm|(simp;done)) ?_;refine zR (A:=A42) (g.l++[v]).length aM ?_;refine ae 42 (v' := .slice A42 (g.l++[v]).length cap42) rfl aM (rn [24,8,6,23,9,4] ?_);refine dop 10 rfl (zI rfl rfl rfl rfl rfl rfl rfl ?_);refine zF (b:=rb) [aI g.cp,.slice A42 (g.l++[v]).length cap42,aJ g.a,aJ g.t,.map (some g.m)] (by simp[ay]) (rn [28,7,1,2,6,4,5,47] ?_);refine s_q (yN (z:=((g.l.length:Nat):Int)) rfl rfl (by simp;rw[dY aK aK])) rfl (rn [3,3,0,11] ?_);refine GI [RgB rb (RG.mk g.cp A42 cap42 (g.l++[v]) g.a g.t g.m),RgW (RG.mk g.cp A42 cap42 (g.l++[v]) g.a g.t g.m),Res.im (RG.m (RG.mk g.cp A42 cap42 (g.l++[v]) g.a g.t g.m))] (fun w1 a6 a8=>by have h7:=jA rb (RG.mk g.cp A42 cap42 (g.l++[v]) g.a g.t g.m) v true w1 a8 hv;exact h7) ?_ _ (.inl rfl);rintro⟨⟩ _;refine⟨_,_,inferInstance,inferInstance,?_⟩;exact De rfl (.tmp rfl) (.tmp rfl) (fun w' a5 => ⟨(RG.cnt (RG.mk g.cp A42 cap42 (g.l++[v]) g.a g.t g.m) (sgn v true) v),⟨RG.add_rep hg hlt hv hb,rfl,rfl⟩,rfl,by have h9:=zG (L' := [RgB rb (RG.cnt (RG.mk g.cp A42 cap42 (g.l++[v]) g.a g.t g.m) (sgn v true) v),RgW (RG.cnt (RG.mk g.cp A42 cap42 (g.l++[v]) g.a g.t g.m) (sgn v true) v),Res.im (RG.m (RG.cnt (RG.mk g.cp A42 cap42 (g.l++[v]) g.a g.t g.m) (sgn v true) v))]) w' a5;exact h9⟩)
theorem xI (rb:Nat) (g:RG) (i:Int) (v:V) (w:World) (hw:W0 [RgB rb g,RgW g,Res.im g.m] w) (hg:g.Rep) (hv:v.ok) (hb:∀n:Nat,i=n→(h:n<g.l.length)→(g.l.map V.bal).sum-(g.l[n]).bal+v.bal≤18446744073709551615):au (ι:=RG) Tryz.prog 113 [.agg #[aG rb],aH i,.agg v.c.toArray] w [RgB rb g,RgW g,Res.im g.m] (fun x=>x.Rep∧x.l=dT g.l i v∧x.cp=g.cp) (fun x=>.tuple #[]) (fun x=>[]) (fun x=>[RgB rb x,RgW x,Res.im x.m]):=by
 refine Γ Tryz.func113 11 hw ?_;refine Ri ?_;refine aa (aq (c:=[aG rb]) rfl rfl rfl fun b3=>?_);refine aa (aq rfl rfl rfl fun b5=>rn [0,10,4,5,2,45] ?_);refine aa (zJ _ rfl (fun w1 a6 a8=>by have h7:=wpx rb g (i) (v) w1 a8 hg hv hb;exact h7) rfl ?_);rintro g10 ⟨r10,l10,c10⟩;refine ii (rn [9] ?_);exact dF rfl fun w' a5=>⟨g10,(by exact⟨r10,by rw[l10];rfl,c10⟩),rfl,zA w' a5⟩
theorem Ft {v:V} {z:Int} (h:v.ok) (hz:0≤z∧z≤7):({ v with st:=z }:V).ok:=⟨h.bal,by simp only;omega,h.rq,h.ex,h.wd,h.dl⟩
theorem vm {l:List V} {n:Nat} (h:n<l.length) (hm:(l.map V.bal).sum≤18446744073709551615) {v:V} (hv:v.bal=(l[n]).bal):(l.map V.bal).sum-(l[n]).bal+v.bal≤18446744073709551615:=by rw[hv];omega
theorem pG (rb:Nat) (g:RG) (i:Int) (e:Nat) (w:World) (hw:W0 [RgB rb g,RgW g,Res.im g.m] w) (hg:g.Rep) (he:e<8) (D8:∀v∈RG.l g,0≤v.st∧v.st≤7):au (ι:=RG) Tryz.prog 148 [.agg #[aG rb],aH i,aH (e:Int)] w [RgB rb g,RgW g,Res.im g.m] (fun x=>x.Rep∧x.l=evV g.l i (e:Int)∧x.cp=g.cp) (fun x=>.bool (ax g.l i && decide ((nxt (ab g.l i).st (e:Int))≠0))) (fun x=>[]) (fun x=>[RgB rb x,RgW x,Res.im x.m]):=by
 refine Γ Tryz.func148 37 hw ?_;refine Ri ?_;refine aa (aq (c:=[aG rb]) rfl rfl rfl fun b3=>rn [3,0,1,4,5,2] ?_);refine aa (zN _ rfl (fun w1 a6 a8=>by exact wB rb g (i) w1 a8) rfl ?_);refine Sn ?_;refine aa (zK rfl fun b7=>rn [33,3,0,1] ?_);have hst1:0≤(ab g.l i).st∧(ab g.l i).st≤7:=by
   rcases Bool.eq_false_or_eq_true (ax g.l i) with h|h
   · exact D8 _ (by have h9:=bW h;obtain⟨q,rfl⟩:∃q:Nat,i=q:=⟨i.toNat,aK⟩;rw[yK aK];exact cC _)
   · rw[wW h];decide
 refine rn [4,5,2] ?_;refine aa (zH rfl (fun w1 a6=>by have h7:=ma ((ab g.l i).st).toNat ((e:Int)).toNat w1 aK aK;rw[Int.toNat_of_nonneg (show 0≤(ab g.l i).st by omega),Int.toNat_of_nonneg (show 0≤(e:Int) by omega)] at h7;exact h7) rfl ?_);refine Sc ?_;refine zS 27 rfl (fun h1=>?_) (fun h1=>?_)
 ·have hh:ax g.l i=false:=by simpa using h1
  refine Sk ?_;exact dD rfl rfl fun w' a5=>⟨g,(by(try dsimp only);exact⟨hg,by unfold evV;rw[bY (by first|(rw[hh];simp;done)|(rw[hn];simp;done)|simp_all)],rfl⟩),by first|(rw[hh];rfl)|(rw[hn];simp),zA w' a5⟩
 have hh:ax g.l i=true:=by simpa using h1
 refine rn [22,2,22,48,42,0] ?_;refine zB rfl (fun h2=>?_) (fun h2=>?_)
 ·have hn:(nxt (ab g.l i).st (e:Int))=0:=by simpa using h2
  refine Re ?_;exact dD rfl rfl fun w' a5=>⟨g,(by(try dsimp only);exact⟨hg,by unfold evV;rw[bY (by first|(rw[hh];simp;done)|(rw[hn];simp;done)|simp_all)],rfl⟩),by first|(rw[hh];rfl)|(rw[hn];simp),zA w' a5⟩
 have hn:¬(nxt (ab g.l i).st (e:Int))=0:=by simpa using h2
 refine rn [12,7,1,2,4] ?_;refine aa (zI rfl rfl rfl rfl rfl rfl rfl ?_);refine zF (b:=b7) (V.c { ab g.l i with st:=nxt (ab g.l i).st (e:Int) }) (by simp[ay,V.c]) ?_;obtain⟨q9,hqi⟩:∃q:Nat,i=q:=⟨i.toNat,by have h9:=bW hh;omega⟩
 have hq9:q9<g.l.length:=by have h9:=bW hh;omega
 have I9:ab g.l i=g.l[q9]:=by rw[hqi];exact yK hq9
 refine rn [0,1,45,2,45] ?_;refine aa (zJ _ rfl (fun w1 a6 a8=>by have h7:=xI rb g (i) ({ ab g.l i with st:=nxt (ab g.l i).st (e:Int) }) w1 a8 hg (by rw[I9];exact Ft (hg.ok _ (cC hq9)) (kl _ _)) (fun n hn2 h=>vm h hg.mx (by obtain rfl:q9=n:=aK;simp only[I9]));exact h7) rfl ?_);rintro g36 ⟨r36,l36,c36⟩;refine ii (RA ?_);exact dD rfl rfl fun w' a5=>⟨g36,(by exact⟨r36,by rw[l36];unfold evV dT;rw[bZ hh,bZ ⟨hh,hn⟩],c36⟩),by rw[hh,cX hn];rfl,zA w' a5⟩
theorem tD (rb:Nat) (g:RG) (w:World) (hw:W0 [RgB rb g,RgW g,Res.im g.m] w) (hg:g.Rep):au (ι:=(bU × Nat)) Tryz.prog 153 [.agg #[aG rb]] w [RgB rb g,RgW g,Res.im g.m] (fun x=>True) (fun x=>.slice x.1 (g.l.map V.bal).length x.2) (fun x=>[Res.row x.1 (g.l.map V.bal).length x.2 22 1 ((g.l.map V.bal).map aD)]) (fun x=>[RgB rb g,RgW g,Res.im g.m]):=by
 refine Γ Tryz.func153 21 hw ?_;have q1:=hg.le;have q2:=hg.cp;refine Ri ?_;refine aa (aq (c:=[aG rb]) rfl rfl rfl fun b1=>rn [3,0,1,3] ?_);refine xA 3 22 1 rfl fun Az1 capz1 hcz1=>?_;refine zC (A:=Az1) (([]:List Int).map aD) rfl (rn [0,8,1,4,5] ?_);refine aa (zJ _ rfl (fun w1 a6 a8=>by have h7:=uI rb g w1 a8 hg;exact h7) rfl ?_);rintro⟨A8,D7⟩ _;refine ii (SK ?_);refine zC (A:=Az1) (((g.l.map V.bal).take 0).map aD) aM ?_;refine dP [2,8,9] (fun(x:Nat × bU × Nat)=>[(3,.slice x.2.1 x.1 x.2.2),(10,aI x.1)]) (fun(x:Nat × bU × Nat)=>[Res.row x.2.1 x.1 x.2.2 22 1 (((g.l.map V.bal).take x.1).map aD),Res.row A8 g.l.length D7 52 7 (g.l.map V.c),RgB rb g,RgW g,Res.im g.m]) (fun(x:Nat × bU × Nat)=>x.1≤g.l.length) (fun(x:Nat × bU × Nat)=>g.l.length-x.1) (0,Az1,capz1) aW ?_;rintro⟨k,A1,j6⟩ f6;replace f6:k≤g.l.length:=f6;refine yB (L' := [Res.row A1 k j6 22 1 (((g.l.map V.bal).take k).map aD),Res.row A8 g.l.length D7 52 7 (g.l.map V.c),RgB rb g,RgW g,Res.im g.m]) rfl ?_;refine ae 3 (v' := .slice A1 k j6) rfl rfl ?_;refine ae 10 (v' := aI k) rfl rfl (Rj ?_);refine zB rfl (fun h1=>?_) (fun h1=>?_)
 ·have f8:k<g.l.length:=by have h9:=bW h1;omega
  refine Ry ?_;refine s_q (zM (i:=k) rfl rfl rfl (ird (A:=A8)) aN) rfl ?_;refine s_q (zU (i:=k) rfl (ird (A:=A8)) (zP aT) rfl) rfl ?_;refine aa (zK rfl fun b5=>rn [33,0,10,2,4,5] ?_);refine aa (bg rfl rfl rfl rfl rfl fun M5=>?_);refine zF (b:=M5) ((([g.l[k].bal]:List Int).map aD).flatten) rfl ?_;refine aa (zW (A:=A1) (els:=(((g.l.map V.bal).take k)).map aD) (news:=(([g.l[k].bal]:List Int).map aD)) rfl rfl (InL.rdb (b:=M5) rfl aM rfl) (zZ (c:=aD) (by intro x;simp[Value.oneCell']) _) aK rfl fun A18 cap18=>⟨_,inferInstance,?_⟩);refine zC (A:=A18) (((((g.l.map V.bal).take k)++[g.l[k].bal])).map aD) (by first|rfl|exact cA.symm|(simp;done)) ?_;refine zC (A:=A18) (((g.l.map V.bal).take (k+1)).map aD) (by rw[←cB (show k<(g.l.map V.bal).length by simpa using f8)];simp) (Rx ?_);exact cr ((k+1),A18,cap18) aU
 have f9:k=g.l.length:=by have h9:=bX h1;omega
 subst f9;refine Ru ?_;refine zE (zE (zQ (Rl ?_)));refine zC (A:=A1) ((g.l.map V.bal).map aD) (by rw[cP aM]) ?_;refine zR (A:=A1) (g.l.map V.bal).length aM ?_;exact dD rfl rfl fun w' a5=>⟨(A1,j6),aQ,aM,zA w' a5⟩
theorem oE (A:bU) (n cap:Nat) (l:List V) (r:Rq) (w:World) (hl:Old w A n 7 (l.map V.c)) (hb:n≤1000000):Pur Tryz.prog 119 [.slice A n cap,.agg r.c.toArray] w (aH (fS l r.i r.m)):=by
 refine Γ Tryz.func119 30 (WOK.start [] _) ?_;have hn:n=l.length:=by simpa using hl.len
 refine Ri ?_;refine aa (aq (c:=Rq.c r) rfl rfl rfl fun b3=>rn [3,0,8,14,1,4,5,46,2] ?_);refine zS 9 rfl (fun h1=>?_) (fun h1=>?_)
 ·have hh:ax l r.i=false:=cY (by have h9:=bW h1;omega);refine rn [21,21,21,21,21,41,3,0,19,1,3,0,11] ?_;refine zL (zD ?_);exact dD rfl rfl fun w' a5=>⟨by unfold fS;first|(rw[bZ hh];done)|(rw[bY (by rw[hh];simp),bZ h0];done)|(rw[bY (by rw[hh];simp),bY h0,z8,yK hil];simp_all),a5.upd⟩
 refine rn [22,4,22,5,22,2,22,47,22,53,42,3,0] ?_;refine zB rfl (fun h2=>?_) (fun h2=>?_)
 ·have hh:ax l r.i=false:=cY (by have h9:=bW h2;omega);refine RN ?_;refine zL (zD ?_);exact dD rfl rfl fun w' a5=>⟨by unfold fS;first|(rw[bZ hh];done)|(rw[bY (by rw[hh];simp),bZ h0];done)|(rw[bY (by rw[hh];simp),bY h0,z8,yK hil];simp_all),a5.upd⟩
 have hh:ax l r.i=true:=cX (by have h8:=bX h1;have h9:=bX h2;omega);obtain⟨ni,z8⟩:∃q:Nat,r.i=q:=⟨r.i.toNat,by have h9:=bW hh;omega⟩
 have hil:ni<l.length:=by have h9:=bW hh;omega
 refine rn [1,45,4,5,49] ?_;refine s_q (pz rfl rfl rfl) rfl (rn [3,0] ?_);refine zB rfl (fun h3=>?_) (fun h3=>?_)
 ·have h0:r.m=0:=by simpa using h3
  refine RN ?_;refine zL (zD ?_);exact dD rfl rfl fun w' a5=>⟨by unfold fS;first|(rw[bZ hh];done)|(rw[bY (by rw[hh];simp),bZ h0];done)|(rw[bY (by rw[hh];simp),bY h0,z8,yK hil];simp_all),a5.upd⟩
 have h0:¬r.m=0:=by simpa using h3
 refine rn [1,2,4,5] ?_;refine s_q (zM (i:=ni) rfl rfl z8 (hl.rdb rfl) aK) rfl (Nd ?_);refine s_q (zX (i:=ni) (o:=1) rfl (hl.rdb rfl) (zP hil) rfl rfl) rfl (rn [51,3,0] ?_);refine zB rfl (fun h4=>?_) (fun h4=>?_)
 ·refine RN ?_;refine zL (zD ?_);exact dD rfl rfl fun w' a5=>⟨by unfold fS;first|(rw[bZ hh];done)|(rw[bY (by rw[hh];simp),bZ h0];done)|(rw[bY (by rw[hh];simp),bY h0,z8,yK hil];simp_all),a5.upd⟩
 refine SS ?_;exact dD rfl rfl fun w' a5=>⟨by unfold fS;first|(rw[bZ hh];done)|(rw[bY (by rw[hh];simp),bZ h0];done)|(rw[bY (by rw[hh];simp),bY h0,z8,yK hil];simp_all),a5.upd⟩
theorem uR (W:List Int) (e:Int):∀(n:Nat) (q:LL) (m:M) (out:List As),∃a b:Nat,(dw W e n q m out).1=out++((q.f.take a).map (fun i=>As.mk i 0 (e+1))++(q.v.take b).map (fun i=>As.mk i 1 (e+1)))
  ∧ a≤q.f.length∧b≤q.v.length∧(0<b→a=q.f.length)∧(dw W e n q m out).2.1=⟨q.f.drop a,q.v.drop b⟩
 | 0,q,m,out=>⟨0,0,by simp[dw],aK,aK,aK,by simp[dw]⟩
 | n+1,q,m,out=>by
  by_cases hB:dQ q=false
  ·refine⟨0,0,?_,aK,aK,aK,?_⟩<;>rw[hQ hB]<;>simp
  replace hB:dQ q=true:=by simpa using hB
  by_cases hT:m.bal<ofW W (cd q)
  ·refine⟨0,0,?_,aK,aK,aK,?_⟩<;>rw[pN hB hT]<;>simp
  rw[ja hB hT];obtain⟨f,v⟩:=q;cases f with
  | cons x f =>
   obtain⟨a,b,h1,h2,h3,h4,h5⟩:=uR W e n (de ⟨x :: f,v⟩) (m.take (ofW W (cd ⟨x :: f,v⟩))) (out++[⟨cd ⟨x :: f,v⟩,dL ⟨x :: f,v⟩,e+1⟩]);simp only[de] at h1 h2 h3 h4 h5;refine⟨a+1,b,?_,by simp;omega,h3,fun hb=>by simp;exact h4 hb,?_⟩
   ·simp only[de];rw[h1];simp[cd,dL]
   simp only[de];rw[h5];simp
  | nil =>
   cases v with
   | nil=>simp[dQ] at hB
   | cons y v =>
    obtain⟨a,b,h1,h2,h3,h4,h5⟩:=uR W e n (de ⟨[],y :: v⟩) (m.take (ofW W (cd ⟨[],y :: v⟩))) (out++[⟨cd ⟨[],y :: v⟩,dL ⟨[],y :: v⟩,e+1⟩]);simp only[de,List.tail_cons] at h1 h2 h3 h4 h5;refine⟨a,b+1,?_,h2,by simp;omega,fun _=>by simp at h2 ⊢;omega,?_⟩
    ·simp only[de,List.tail_cons];rw[h1];simp[cd,dL]
    simp only[de,List.tail_cons];rw[h5];simp
theorem vl {rd:List Bool} {n pays:Nat} (hn:0<n) (a0:Nat):∀(k at_:Nat) (paid:List Int) (made:Nat),at_%n=(a0+made)%n→made+k≤n→(∀x∈paid,∃j,j<made∧x=(((a0+j)%n:Nat):Int)∧rd[(a0+j)%n]?=some true)→paid.Nodup →
  (∀x∈(swp rd n pays k at_ paid made).2.1,∃j:Nat,x=j∧rd[j]?=some true)∧(swp rd n pays k at_ paid made).2.1.Nodup
 | 0,at_,paid,made,_,_,hp,hd=>⟨fun x hx=>by obtain⟨j,_,h1,h2⟩:=hp x hx;exact⟨_,h1,h2⟩,hd⟩
 | k+1,at_,paid,made,ha,hk,hp,hd=>by
  unfold swp;split
  ·exact⟨fun x hx=>by obtain⟨j,_,h1,h2⟩:=hp x hx;exact⟨_,h1,h2⟩,hd⟩
  have B7:∀j,j<made→(a0+j)%n≠(a0+made)%n:=fun j hj hc=>by
   have h1:=Nat.sub_mod_eq_zero_of_mod_eq hc.symm;rw[show a0+made-(a0+j)=made-j by omega,Nat.mod_eq_of_lt aK] at h1;omega
  refine vl hn a0 k _ _ _ ?_ aK ?_ ?_
  ·rw[Nat.mod_mod,ha,Nat.mod_add_mod,Nat.add_assoc]
  ·intro x hx;split at hx
   ·rename_i hr;rcases cK.1 hx with hx|hx
    ·obtain⟨j,h1,h2,h3⟩:=hp x hx;exact⟨j,aK,h2,h3⟩
    simp only[cH,cE,or_false] at hx;exact⟨made,aK,by rw[hx,ha],by rw[←ha];exact hr⟩
   obtain⟨j,h1,h2,h3⟩:=hp x hx;exact⟨j,aK,h2,h3⟩
  split
  ·refine List.nodup_append.2 ⟨hd,aM,fun x hx y hy=>?_⟩;simp only[cH,cE,or_false] at hy;obtain⟨j,h1,h2,_⟩:=hp x hx;rw[hy,h2,ha];exact fun hc=>B7 j h1 (by exact_mod_cast hc)
  exact hd
theorem rR (at_:Nat) (rd:List Bool) (visits pays:Int):(∀x∈(dJ at_ rd visits pays).2.1,∃j:Nat,x=j∧rd[j]?=some true)∧(dJ at_ rd visits pays).2.1.Nodup:=by
 unfold dJ;split
 ·simp
 exact vl aK at_ _ _ _ _ aM aK aM aM
theorem xF {l:List V} {i:Int} (h:ax l i=true):∃k:Nat,i=k∧k<l.length:=by
 have h:=bW h;exact⟨i.toNat,aK,aK⟩
theorem gZ {l:List V} {k:Nat} (h:k<l.length):ax l (k:Int)=true:=cX aK
theorem AM (l:List V) (k:Nat) (v:V) (j:Int):ax (l.set k v) j=ax l j:=by simp[ax]
theorem Ci {l:List V} {k:Nat} (h:k<l.length) (v:V) (j:Int):ab (l.set k v) j=if j=k then v else ab l j:=by
 unfold ab;by_cases hj:0≤j
 ·rw[bZ hj,bZ hj,List.getElem?_set];by_cases e:k=j.toNat
  ·rw[bZ e,bZ h,bZ aK];rfl
  rw[bY e,bY aK]
 rw[bY hj,bY hj,bY aK]
theorem wK (l:List V) (i:Int) (v:V):(dT l i v).length=l.length:=by unfold dT;split<;>simp
theorem ij (l:List V) (i:Int) (v:V) (j:Int):ax (dT l i v) j=ax l j:=by unfold dT;split<;>simp[ax]
theorem yZ (l:List V) (i:Int) (v:V) (j:Int):ab (dT l i v) j=if ax l i=true∧j=i then v else ab l j:=by
 unfold dT;by_cases h:ax l i=true
 ·obtain⟨k,rfl,hk⟩:=xF h;rw[bZ h,Int.toNat_natCast,Ci hk];by_cases e:j=k
  ·rw[bZ e,bZ ⟨h,e⟩]
  rw[bY e,bY (fun hc=>e hc.2)]
 rw[bY h,bY (fun hc=>h hc.1)]
theorem ir (l:List V) (i e:Int):evV l i e=if nxt (ab l i).st e≠0 then dT l i { ab l i with st:=nxt (ab l i).st e } else l:=by
 unfold evV dT;by_cases h:ax l i=true<;>by_cases h2:nxt (ab l i).st e≠0<;>simp[h,h2]
theorem oO (l:List V) (i e:Int):(evV l i e).length=l.length:=by
 rw[ir];split
 ·exact wK _ _ _
 rfl
theorem AL (l:List V) (i e j:Int):ax (evV l i e) j=ax l j:=by unfold ax;rw[oO]
theorem iY {e:Int} (he:1≤e∧e≤5) (s:Int):nxt s e=if s=e then e+1 else 0:=by
 unfold nxt;rw[bY aK,bY aK];by_cases h:s=e
 ·rw[bZ ⟨he.1,he.2,h⟩,bZ h,h]
 rw[bY aK,bY h]
theorem oR {e:Int} (he:1≤e∧e≤5) (l:List V) (i j:Int):ab (evV l i e) j=if j=i∧ax l j=true∧(ab l j).st=e then { ab l j with st:=e+1 } else ab l j:=by
 rw[ir,iY he];by_cases h:(ab l i).st=e
 ·rw[bZ h,bZ aK,yZ];by_cases h2:ax l i=true∧j=i
  ·obtain⟨h2,rfl⟩:=h2;rw[bZ ⟨h2,rfl⟩,bZ ⟨rfl,h2,h⟩]
  rw[bY h2,bY (show¬(j=i∧ax l j=true∧(ab l j).st=e) from fun hc=>h2 ⟨hc.1 ▸ hc.2.1,hc.1⟩)]
 rw[bY h,bY aK,bY (show¬(j=i∧ax l j=true∧(ab l j).st=e) from fun hc=>h (hc.1 ▸ hc.2.2))]
theorem vX {e:Int} (he:1≤e∧e≤5):∀(is:List Int) (l:List V),(is.foldl (fun l i=>evV l i e) l).length=l.length ∧
  ∀j,ab (is.foldl (fun l i=>evV l i e) l) j=if j∈is∧ax l j=true∧(ab l j).st=e then { ab l j with st:=e+1 } else ab l j
 | [],l=>⟨rfl,fun j=>by simp⟩
 | i :: is,l=>by
  obtain⟨h1,h2⟩:=vX he is (evV l i e);refine⟨by rw[cR,h1,oO],fun j=>?_⟩;rw[cR,h2 j,AL];have hg:=oR he l i j;by_cases hj:j=i∧ax l j=true∧(ab l j).st=e
  ·rw[bZ hj] at hg;rw[hg,bY (by rintro⟨_,_,h⟩;simp only at h;omega),bZ ⟨by simp[hj.1],hj.2⟩]
  rw[bY hj] at hg;rw[hg];by_cases hm:j∈is∧ax l j=true∧(ab l j).st=e
  ·rw[bZ hm,bZ ⟨by simp[hm.1],hm.2⟩]
  rw[bY hm,bY];rintro⟨h1,h2⟩;rcases cH.1 h1 with h|h
  ·exact hj ⟨h,h2⟩
  exact hm ⟨h,h2⟩
theorem ke {bo:List En} {e i:Int} (h:0≤e∧e≤1099511627776):fP bo e i=bo++[⟨e,i⟩]:=bZ (cX h)
theorem vb {e:Int} (he:1≤e∧e≤5) (l:List V) (i j:Int):(ab (evV l i e) j).wd=(ab l j).wd:=by
 rw[oR he];split<;>rfl
theorem EC {e:Int} {l:List V} {bo:List En} {i:Int} (h:e<(ab l i).wd):fi e (l,bo) i=(l,fP bo (ab l i).wd i):=bZ h
theorem EB {e:Int} {l:List V} {bo:List En} {i:Int} (h:¬e<(ab l i).wd):fi e (l,bo) i=(evV l i 4,bo):=bY h
theorem iI {e:Int} (he:0≤e):∀(is:List Int) (l:List V) (bo:List En),(∀j,(ab l j).wd≤1099511627776) →
  (is.foldl (fi e) (l,bo)).1.length=l.length ∧
  (∀j,ab (is.foldl (fi e) (l,bo)).1 j=if j∈is∧ax l j=true∧(ab l j).wd≤e∧(ab l j).st=4 then { ab l j with st:=5 } else ab l j) ∧
  (is.foldl (fi e) (l,bo)).2=bo++(is.filter fun i=>decide (e<(ab l i).wd)).map fun i=>⟨(ab l i).wd,i⟩
 | [],l,bo,_=>⟨rfl,fun j=>by simp,aM⟩
 | i :: is,l,bo,hw=>by
  rw[cR];by_cases hi:e<(ab l i).wd
  ·obtain⟨h1,h2,h3⟩:=iI he is l (fP bo (ab l i).wd i) hw;rw[EC hi];refine⟨h1,fun j=>?_,?_⟩
   ·rw[h2 j];by_cases hj:j=i
    ·subst hj;rw[bY aK,bY aK]
    simp[hj]
   rw[h3,ke ⟨aK,hw i⟩,List.filter_cons,bZ (cX hi),cV,cJ,List.singleton_append]
  have a5 : ∀j,(ab (evV l i 4) j).wd≤1099511627776:=fun j=>by rw[vb aK];exact hw j
  obtain⟨h1,h2,h3⟩:=iI he is (evV l i 4) bo a5;rw[EB hi];refine⟨by rw[h1,oO],fun j=>?_,?_⟩
  ·rw[h2 j,AL,vb aK];have hg:=oR (e:=4) aK l i j;by_cases hj:j=i∧ax l j=true∧(ab l j).st=4
   ·rw[bZ hj] at hg;rw[hg,bY (by rintro⟨_,_,_,h⟩;simp at h),bZ ⟨by simp[hj.1],hj.2.1,by rw[hj.1];omega,hj.2.2⟩];rfl
   rw[bY hj] at hg;rw[hg];by_cases hm:j∈is∧ax l j=true∧(ab l j).wd≤e∧(ab l j).st=4
   ·rw[bZ hm,bZ ⟨by simp[hm.1],hm.2⟩]
   rw[bY hm,bY];rintro⟨h1,h2,h3,h4⟩;rcases cH.1 h1 with h|h
   ·exact hj ⟨h,h2,h4⟩
   exact hm ⟨h,h2,h3,h4⟩
  rw[h3,List.filter_cons,bY (by simpa using hi)];simp only[vb (show(1:Int)≤4∧(4:Int)≤5 by omega)]
theorem vV {l:List V} {i:Int} (h:ax l i=true):ab l i∈l:=by
 obtain⟨k,rfl,hk⟩:=xF h;rw[yK hk];exact cC hk
theorem wJ {l:List V} {v:V} (h:v∈l):∃i,ax l i=true∧ab l i=v:=by
 obtain⟨k,hk,rfl⟩:=List.getElem_of_mem h;exact⟨k,gZ hk,yK hk⟩
theorem DN {p:V→Prop} {l:List V}:(∀v∈l,p v)↔∀i,ax l i=true→p (ab l i) :=
 ⟨fun h i hi=>h _ (vV hi),fun h v hv=>by obtain⟨i,hi,rfl⟩:=wJ hv;exact h i hi⟩
theorem oQ {l:List V} {i:Int} (h:ax l i=false):(ab l i).st=0:=by rw[wW h];rfl
theorem yL {l:List V} {i:Int} (h:(ab l i).st≠0):ax l i=true:=by
 rcases Bool.eq_false_or_eq_true (ax l i) with h1|h1
 ·exact h1
 exact absurd (oQ h1) h
theorem xJ {l l' : List V} (h:l'.length=l.length) (i:Int):ax l' i=ax l i:=by unfold ax;rw[h]
structure VO (v:V):Prop where
 b:0≤v.bal
 s:1≤v.st∧v.st≤7
 r:-1≤v.rq∧v.rq≤1099511627776
 x:-1≤v.ex∧v.ex≤1099511627776
 w:-1≤v.wd∧v.wd≤1099511627776
 d:-1≤v.dl∧v.dl≤1099511627776
structure Sm (l l' : List V):Prop where
 st:∀i,3≤(ab l' i).st→(ab l' i).st≤5→ab l i=ab l' i
 ts:∀i,(ab l i).st=3∨(ab l i).st=4→ab l' i=ab l i
 nx:∀i,(ab l' i).st=1∨(ab l' i).st=2→(ab l' i).ex=-1∨((ab l i).st=1∨(ab l i).st=2)∧(ab l' i).ex=(ab l i).ex
structure et (ep:Int) (l:List V) (q:LL) (bo:List En) (lv:List Int):Prop where
 lnd:(q.f++q.v).Nodup
 lan:∀i,i∈q.f++q.v↔(ab l i).st=3∧(ab l i).ex=-1
 vnd:lv.Nodup
 lvs:∀i,i∈lv↔(ab l i).st=3∧(ab l i).ex≠-1
 lex:∀i∈lv,(ab l i).ex=ep+1
 bnd:(bo.map En.i).Nodup
 bon:∀i,i∈bo.map En.i↔(ab l i).st=4∨(ab l i).st=3∧(ab l i).ex≠-1
 bep:∀x∈bo,ep+1≤x.e∧x.e≤(ab l x.i).wd∧((ab l x.i).st=3→ep+2≤x.e)
 nex:∀i,(ab l i).st=1∨(ab l i).st=2→(ab l i).ex=-1
 rdy:∀i,(ab l i).st=5→(ab l i).wd≤ep
theorem Sm.iff {l l' : List V} (h:Sm l l') (p:V→Prop) (i:Int) (n:Int) (hn:n=3∨n=4):((ab l' i).st=n∧p (ab l' i))↔((ab l i).st=n∧p (ab l i)):=by
 constructor
 ·rintro⟨h1,h2⟩;rw[h.st i aK aK];exact⟨h1,h2⟩
 rintro⟨h1,h2⟩;rw[h.ts i aK];exact⟨h1,h2⟩
theorem Sm.iff1 {l l' : List V} (h:Sm l l') (i:Int) (n:Int) (hn:n=3∨n=4):(ab l' i).st=n↔(ab l i).st=n:=by
 have:=h.iff (fun _=>True) i n hn;simpa using this
theorem et.sm {ep:Int} {l l' : List V} {q:LL} {bo:List En} {lv:List Int} (h:et ep l q bo lv) (hs:Sm l l'):et ep l' q bo lv:=by
 have h3:∀i,(ab l i).st=3∨(ab l i).st=4→ab l' i=ab l i:=hs.ts;refine⟨h.lnd,fun i=>?_,h.vnd,fun i=>?_,fun i hi=>?_,h.bnd,fun i=>?_,fun x hx=>?_,fun i hi=>?_,fun i hi=>?_⟩
 ·rw[h.lan i,hs.iff (fun v=>v.ex=-1) i 3 (.inl rfl)]
 ·rw[h.lvs i,hs.iff (fun v=>v.ex≠-1) i 3 (.inl rfl)]
 ·rw[h3 i (.inl ((h.lvs i).1 hi).1)];exact h.lex i hi
 ·rw[h.bon i,hs.iff (fun v=>v.ex≠-1) i 3 (.inl rfl),hs.iff1 i 4 (.inr rfl)]
 ·have h4:=(h.bon x.i).1 (cG.2 ⟨x,hx,rfl⟩);rw[h3 x.i (by rcases h4 with h4|h4;exact .inr h4;exact .inl h4.1)];exact h.bep x hx
 ·rcases hs.nx i hi with h4|⟨h4,h5⟩
  ·exact h4
  rw[h5];exact h.nex i h4
 rw[←hs.st i aK aK];exact h.rdy i (by rw[hs.st i aK aK];exact hi)
theorem Sm.of {l l' : List V} (h:∀j,ab l' j=ab l j∨((ab l j).st≠3∧(ab l j).st≠4∧(ab l' j).st≠3∧(ab l' j).st≠4∧(ab l' j).st≠5∧((ab l' j).st=1∨(ab l' j).st=2→(ab l' j).ex=-1∨((ab l j).st=1∨(ab l j).st=2)∧(ab l' j).ex=(ab l j).ex))):Sm l l' := by
 refine⟨fun i h1 h2=>?_,fun i h1=>?_,fun i h1=>?_⟩
 ·rcases h i with h3|h3
  ·exact h3.symm
  omega
 ·rcases h i with h3|h3
  ·exact h3
  omega
 rcases h i with h3|h3
 ·exact .inr ⟨by rw[←h3];exact h1,by rw[h3]⟩
 exact h3.2.2.2.2.2 h1
theorem ku (l:List V) (v:V) (j:Int):ab (l++[v]) j=if j=(l.length:Int) then v else ab l j:=by
 unfold ab;by_cases hj:0≤j
 ·rw[bZ hj,bZ hj];obtain⟨k,rfl⟩:∃k:Nat,j=k:=⟨j.toNat,aK⟩
  simp only[Int.toNat_natCast];by_cases hk:k<l.length
  ·rw[List.getElem?_append_left hk,bY aK]
  rw[List.getElem?_append_right aK];by_cases Y0:k=l.length
  ·subst Y0;simp
  rw[bY aK,List.getElem?_eq_none aV,List.getElem?_eq_none aK]
 rw[bY hj,bY hj,bY aK]
theorem Sm.app {l:List V} {v:V} (h:v.st=1) (hx:v.ex=-1):Sm l (l++[v]):=Sm.of fun j=>by
 rw[ku];split
 ·rename_i e;have h0:(ab l j).st=0:=oQ (by rw[e];exact cY aK)
  right
  refine⟨aK,aK,aK,aK,aK,fun _=>.inl hx⟩
 exact .inl rfl
theorem pI {l:List V} {i:Int} {v:V} (h:v.bal=(ab l i).bal):bx (dT l i v)=bx l:=by
 unfold dT;split
 ·rename_i hh;obtain⟨k,rfl,hk⟩:=xF hh;rw[yK hk] at h;simp only[Int.toNat_natCast,bx,dA,h];apply List.ext_getElem?;intro j;rw[List.getElem?_set];split
  ·rename_i hj;subst hj;simp[hk]
  rfl
 rfl
theorem vK (l:List V) (i:Int) (v:V) (h:ax l i=true):(bx (dT l i v)).sum=(bx l).sum-(ab l i).bal+v.bal:=by
 obtain⟨k,rfl,hk⟩:=xF h;unfold dT;rw[bZ h,yK hk];exact po hk v
theorem sc (l:List V) (i e:Int):bx (evV l i e)=bx l:=by
 rw[ir];split
 ·exact pI rfl
 rfl
theorem xR (e:Int):∀(is:List Int) (l:List V),bx (is.foldl (fun l i=>evV l i e) l)=bx l
 | [],_=>rfl
 | i :: is,l=>by rw[cR,xR e is,sc]
theorem qK (e:Int):∀(is:List Int) (s:List V × List En),bx (is.foldl (fi e) s).1=bx s.1
 | [],_=>rfl
 | i :: is,s=>by
  rw[cR,qK e is];unfold fi;split
  ·rfl
  exact sc _ _ _
structure Mid (e d:Int) (l:List V) (q:LL) (bo:List En):Prop where
 lnd:(q.f++q.v).Nodup
 lan:∀i,i∈q.f++q.v↔(ab l i).st=3
 lax:∀i,(ab l i).st=3→(ab l i).ex=-1
 bnd:(bo.map En.i).Nodup
 bon:∀i,i∈bo.map En.i↔(ab l i).st=4
 bep:∀x∈bo,d≤x.e∧x.e≤(ab l x.i).wd
 nex:∀i,(ab l i).st=1∨(ab l i).st=2→(ab l i).ex=-1
 rdy:∀i,(ab l i).st=5→(ab l i).wd≤e
theorem vS {e:Int} (he:1≤e∧e≤5) (is:List Int) (l:List V) (j:Int) :
  ab (is.foldl (fun l i=>evV l i e) l) j=if j∈is∧(ab l j).st=e then { ab l j with st:=e+1 } else ab l j:=by
 rw[(vX he is l).2 j];by_cases h:(ab l j).st=e
 ·have hh:ax l j=true:=yL aK;simp[hh]
 simp[h]
theorem et.mid {e:Int} {l:List V} {q:LL} {bo:List En} {lv:List Int} (h:et (e-1) l q bo lv):Mid e e (lv.foldl (fun l i=>evV l i 3) l) q bo:=by
 have g:=vS (e:=3) aK lv l;have g3:∀j,(ab l j).st=3→(ab l j).ex≠-1→ab (lv.foldl (fun l i=>evV l i 3) l) j={ ab l j with st:=4 }:=fun j h1 h2=>by rw[g j,bZ ⟨(h.lvs j).2 ⟨h1,h2⟩,h1⟩];rfl
 have g0:∀j,¬((ab l j).st=3∧(ab l j).ex≠-1)→ab (lv.foldl (fun l i=>evV l i 3) l) j=ab l j:=fun j h1=>by rw[g j,bY (fun hc=>h1 ((h.lvs j).1 hc.1))]
 refine⟨h.lnd,fun i=>?_,fun i hi=>?_,h.bnd,fun i=>?_,fun x hx=>?_,fun i hi=>?_,fun i hi=>?_⟩
 ·rw[h.lan i];by_cases hc:(ab l i).st=3∧(ab l i).ex≠-1
  ·rw[g3 i hc.1 hc.2];simp[hc]
  rw[g0 i hc];constructor
  ·exact fun h1=>h1.1
  exact fun h1=>⟨h1,Classical.byContradiction fun h2=>hc ⟨h1,h2⟩⟩
 ·by_cases hc:(ab l i).st=3∧(ab l i).ex≠-1
  ·rw[g3 i hc.1 hc.2] at hi;simp at hi
  rw[g0 i hc] at hi ⊢;exact Classical.byContradiction fun h2=>hc ⟨hi,h2⟩
 ·rw[h.bon i];by_cases hc:(ab l i).st=3∧(ab l i).ex≠-1
  ·rw[g3 i hc.1 hc.2];simp[hc]
  rw[g0 i hc];constructor
  ·rintro(h1|h1)
   ·exact h1
   exact absurd h1 hc
  exact .inl
 ·obtain⟨h1,h2,h3⟩:=h.bep x hx;by_cases hc:(ab l x.i).st=3∧(ab l x.i).ex≠-1
  ·rw[g3 x.i hc.1 hc.2];exact⟨by have:=h3 hc.1;omega,h2⟩
  rw[g0 x.i hc];exact⟨aK,h2⟩
 ·by_cases hc:(ab l i).st=3∧(ab l i).ex≠-1
  ·rw[g3 i hc.1 hc.2] at hi;simp at hi
  rw[g0 i hc] at hi ⊢;exact h.nex i hi
 by_cases hc:(ab l i).st=3∧(ab l i).ex≠-1
 ·rw[g3 i hc.1 hc.2] at hi;simp at hi
 rw[g0 i hc] at hi ⊢;have:=h.rdy i hi;omega
theorem fy {e:Int} {bo:List En} {j:Int}:j∈cv e bo↔∃x∈bo,x.e=e∧x.i=j:=by
 simp only[cv,cG,List.mem_filter,decide_eq_true_eq];constructor
 ·rintro⟨x,⟨h1,h2⟩,h3⟩;exact⟨x,h1,h2,h3⟩
 rintro⟨x,h1,h2,h3⟩;exact⟨x,⟨h1,h2⟩,h3⟩
theorem fv {e:Int} {bo:List En} {x:En}:x∈cu e bo↔x∈bo∧x.e≠e:=by simp[cu]
structure Rip (e:Int) (l l' : List V) (bo:List En):Prop where
 len:l'.length=l.length
 got:∀j,ab l' j=if j∈cv e bo∧(ab l j).wd≤e∧(ab l j).st=4 then { ab l j with st:=5 } else ab l j
theorem Mid.rip {e:Int} (he:0≤e) {l:List V} {q:LL} {bo:List En} (h:Mid e e l q bo) (hw:∀j,(ab l j).wd≤1099511627776) :
  Rip e l (eQ e (l,bo)).1 bo∧Mid e (e+1) (eQ e (l,bo)).1 q (eQ e (l,bo)).2:=by
 obtain⟨h1,h2,h3⟩:=iI he (cv e bo) l (cu e bo) hw;have g:∀j,ab (eQ e (l,bo)).1 j=if j∈cv e bo∧(ab l j).wd≤e∧(ab l j).st=4 then { ab l j with st:=5 } else ab l j:=fun j=>by
  show ab ((cv e bo).foldl (fi e) (l,cu e bo)).1 j=_;rw[h2 j];by_cases h4:(ab l j).st=4
  ·have hh:ax l j=true:=yL aK;simp[hh,h4]
  simp[h4]
 have hb:(eQ e (l,bo)).2=cu e bo++((cv e bo).filter fun i=>decide (e<(ab l i).wd)).map fun i=>⟨(ab l i).wd,i⟩:=h3;have hmap:((eQ e (l,bo)).2).map En.i=(cu e bo).map En.i++(cv e bo).filter fun i=>decide (e<(ab l i).wd):=by
  rw[hb,cA,List.map_map]
  congr 1
  have:(En.i ∘ fun i=>(⟨(ab l i).wd,i⟩:En))=id:=rfl;rw[this,List.map_id]
 have gst:∀j,(ab (eQ e (l,bo)).1 j).st≠4→(ab (eQ e (l,bo)).1 j).st≠5→ab (eQ e (l,bo)).1 j=ab l j:=fun j h4 h5=>by
  rw[g j] at h4 h5 ⊢;split at h4<;>simp_all
 have ge4:∀j,(ab l j).st≠4→ab (eQ e (l,bo)).1 j=ab l j:=fun j h4=>by
  rw[g j,bY (fun hc=>h4 hc.2.2)]
 have uniq:∀x∈bo,∀y∈bo,x.i=y.i→x=y:=fun x hx y hy hxy=>by
  obtain⟨a,ha,rfl⟩:=List.getElem_of_mem hx;obtain⟨b,hb,rfl⟩:=List.getElem_of_mem hy;have hn:=List.pairwise_iff_getElem.1 h.bnd;rcases Nat.lt_trichotomy a b with hlt|J8|hlt
  ·exact absurd (by rw[List.getElem_map,List.getElem_map];exact hxy) (hn a b (by simpa using ha) (by simpa using hb) hlt)
  ·subst J8;rfl
  exact absurd (by rw[List.getElem_map,List.getElem_map];exact hxy.symm) (hn b a (by simpa using hb) (by simpa using ha) hlt)
 have mem4:∀i,i∈(eQ e (l,bo)).2.map En.i↔(ab (eQ e (l,bo)).1 i).st=4:=fun i=>by
  rw[hmap,cK];constructor
  ·rintro(h4|h4)
   ·obtain⟨x,hx,rfl⟩:=cG.1 h4;obtain⟨D5,Z4⟩:=fv.1 hx;have h5:(ab l x.i).st=4:=(h.bon x.i).1 (cG.2 ⟨x,D5,rfl⟩);rw[g x.i,bY]
    ·exact h5
    rintro⟨hc,_,_⟩;obtain⟨y,hy,hye,hyi⟩:=fy.1 hc;have:=uniq y hy x D5 hyi;subst this;exact Z4 hye
   obtain⟨h5,h6⟩:=List.mem_filter.1 h4;have h6:=bW h6;obtain⟨y,hy,hye,rfl⟩:=fy.1 h5;have h7:(ab l y.i).st=4:=(h.bon y.i).1 (cG.2 ⟨y,hy,rfl⟩);rw[g y.i,bY aK];exact h7
  intro h4;have h5:(ab l i).st=4:=by
   rw[g i] at h4;split at h4
   ·simp at h4
   exact h4
  obtain⟨x,hx,rfl⟩:=cG.1 ((h.bon i).2 h5);by_cases hxe:x.e=e
  ·right
   refine List.mem_filter.2 ⟨fy.2 ⟨x,hx,hxe,rfl⟩,cX ?_⟩;refine Classical.byContradiction fun hc=>?_;rw[g x.i,bZ ⟨fy.2 ⟨x,hx,hxe,rfl⟩,aK,h5⟩] at h4;simp at h4
  exact .inl (cG.2 ⟨x,fv.2 ⟨hx,hxe⟩,rfl⟩)
 refine⟨⟨h1,g⟩,h.lnd,fun i=>?_,fun i hi=>?_,?_,mem4,fun x hx=>?_,fun i hi=>?_,fun i hi=>?_⟩
 ·rw[h.lan i];constructor
  ·intro h4;rw[ge4 i aK];exact h4
  intro h4;rw[gst i aK aK] at h4;exact h4
 ·have hg:=gst i aK aK;rw[hg] at hi ⊢;exact h.lax i hi
 ·rw[hmap];have hd:(cv e bo).Nodup:=by
   unfold cv;exact(List.filter_sublist.map En.i).nodup h.bnd
  have hk:((cu e bo).map En.i).Nodup:=(List.filter_sublist.map En.i).nodup h.bnd;refine List.nodup_append.2 ⟨hk,List.filter_sublist.nodup hd,fun a ha b hb hab=>?_⟩;obtain⟨x,hx,rfl⟩:=cG.1 ha;obtain⟨y,hy,hye,hyi⟩:=fy.1 (List.mem_filter.1 hb).1;have:=uniq x (fv.1 hx).1 y hy (hab.trans hyi.symm);subst this;exact(fv.1 hx).2 hye
 ·have h4:=(mem4 x.i).1 (cG.2 ⟨x,hx,rfl⟩);have h5:ab (eQ e (l,bo)).1 x.i=ab l x.i:=by
   rw[g x.i] at h4 ⊢;split at h4
   ·simp at h4
   rename_i hc;rw[bY hc]
  rw[h5];rw[hb] at hx;rcases cK.1 hx with hx|hx
  ·obtain⟨D5,Z4⟩:=fv.1 hx;have:=h.bep x D5;omega
  obtain⟨i,hi,rfl⟩:=cG.1 hx;have:=bW (List.mem_filter.1 hi).2;exact⟨by show e+1≤(ab l i).wd;omega,Int.le_refl _⟩
 ·have hg:=gst i aK aK;rw[hg] at hi ⊢;exact h.nex i hi
 rw[g i] at hi ⊢;split
 ·rename_i hc;exact hc.2.1
 rename_i hc;rw[bY hc] at hi;exact h.rdy i hi
def asV (e:Int) (c:C) (v:V):V:={ v with ex:=e,wd:=max v.wd (e+c.unb) }
theorem FM {v:V} {e:Int} {c:C} (h3:v.st=3) (hx:v.ex=-1) (he:0≤e) (hu:0≤c.unb) (hb:e+c.unb≤1099511627776):eS v e c=(asV e c v,0):=by
 have hl:eN [e,c.unb]=true:=by
  unfold eN;refine cX ⟨fun x hx=>?_,by simpa using hb⟩;simp at hx;rcases hx with rfl|rfl<;>assumption
 have hv:eh [e,c.unb]=e+c.unb:=by unfold eh;rw[bZ hl];simp
 unfold eS asV;rw[bY aK,bY (by rw[hl];simp),hv]
theorem jJ {e:Int} {c:C} (he:0≤e) (hu:0≤c.unb) (hb:e+c.unb≤1099511627776):∀(ag:List As) (l:List V) (bo:List En) (lv:List Int),(∀a∈ag,a.e=e∧(ab l a.i).st=3∧(ab l a.i).ex=-1)→(ag.map As.i).Nodup→(∀j,(ab l j).wd≤1099511627776) →
  (ag.foldl (eJ c) (l,bo,lv)).1.length=l.length∧(∀j,ab (ag.foldl (eJ c) (l,bo,lv)).1 j=if j∈ag.map As.i then asV e c (ab l j) else ab l j) ∧
  (ag.foldl (eJ c) (l,bo,lv)).2.1=bo++ag.map (fun a=>⟨(asV e c (ab l a.i)).wd,a.i⟩)∧(ag.foldl (eJ c) (l,bo,lv)).2.2=lv++ag.map As.i∧bx (ag.foldl (eJ c) (l,bo,lv)).1=bx l
 | [],l,bo,lv,_,_,_=>⟨rfl,fun j=>by simp,aM,aM,rfl⟩
 | a :: ag,l,bo,lv,ha,hn,hw=>by
  obtain⟨h1,h2,h3⟩:=ha a aM;simp only[cV,List.nodup_cons] at hn;have hh:ax l a.i=true:=yL aK;have e1:eJ c (l,bo,lv) a=(dT l a.i (asV e c (ab l a.i)),bo++[⟨(asV e c (ab l a.i)).wd,a.i⟩],lv++[a.i]):=by
   have hq:=FM (c:=c) h2 h3 he hu hb;unfold eJ;simp only[h1,hq];rw[ke (by have:=hw a.i;simp only[asV];omega)]
  have B7:∀b∈ag,ab (dT l a.i (asV e c (ab l a.i))) b.i=ab l b.i:=fun b H0 => by
   rw[yZ,bY];rintro⟨_,hc⟩;exact hn.1 (by rw[←hc];exact cG.2 ⟨b,H0,rfl⟩)
  obtain⟨g1,g2,g3,g4,g5⟩:=jJ he hu hb ag (dT l a.i (asV e c (ab l a.i))) (bo++[⟨(asV e c (ab l a.i)).wd,a.i⟩]) (lv++[a.i]) (fun b H0 => by rw[B7 b H0];exact ha b (by simp[H0])) hn.2 (fun j=>by
   rw[yZ];split
   ·have:=hw a.i;simp only[asV];omega
   exact hw j)
  rw[cR,e1];refine⟨by rw[g1,wK],fun j=>?_,?_,?_,?_⟩
  ·rw[g2 j,yZ];by_cases hj:j=a.i
   ·subst hj;rw[bY hn.1,bZ ⟨hh,rfl⟩,bZ aM]
   rw[bY (show¬(ax l a.i=true∧j=a.i) from fun hc=>hj hc.2)];simp[hj]
  ·rw[g3,cV,cJ,List.singleton_append]
   congr 2
   exact List.map_congr_left fun b H0 => by rw[B7 b H0]
  ·rw[g4];simp
  rw[g5];exact pI rfl
theorem wY (W:List Int) (e lim:Int) (q:LL) (m:M):∃a b:Nat,(Ξ W e lim q m).1=(q.f.take a).map (fun i=>As.mk i 0 (e+1))++(q.v.take b).map (fun i=>As.mk i 1 (e+1))
  ∧ a≤q.f.length∧b≤q.v.length∧(0<b→a=q.f.length)∧(Ξ W e lim q m).2.1=⟨q.f.drop a,q.v.drop b⟩:=by
 obtain⟨a,b,h⟩:=uR W e (fI q+1) q (m.grant lim) [];exact⟨a,b,by simpa[Ξ] using h.1,h.2⟩
theorem CT (xs:List Int) (c e:Int):(xs.map (fun i=>As.mk i c e)).map As.i=xs:=by
 rw[List.map_map];have:(As.i ∘ fun i=>As.mk i c e)=id:=rfl;rw[this,List.map_id]
theorem pV {f v:List Int} (a b:Nat) (h:(f++v).Nodup):(f.take a++v.take b).Nodup∧(f.drop a++v.drop b).Nodup∧(∀i,i∈f++v↔i∈f.take a++v.take b∨i∈f.drop a++v.drop b)∧∀i∈f.take a++v.take b,i∉f.drop a++v.drop b:=by
 have hp:(f++v).Perm ((f.take a++v.take b)++(f.drop a++v.drop b)):=by
  conv=>lhs;rw[←List.take_append_drop a f,←List.take_append_drop b v]
  rw[cJ,cJ];refine List.Perm.append_left _ ?_;rw[←cJ,←cJ];exact List.Perm.append_right _ List.perm_append_comm
 have hn:=hp.nodup_iff.1 h;obtain⟨h1,h2,h3⟩:=List.nodup_append.1 hn;exact⟨h1,h2,fun i=>by rw[hp.mem_iff,cK],fun i hi hc=>h3 i hi i hc rfl⟩
structure Asg (e:Int) (c:C) (l l' : List V) (ag:List As):Prop where
 len:l'.length=l.length
 got:∀j,ab l' j=if j∈ag.map As.i then asV (e+1) c (ab l j) else ab l j
 as3:∀j∈ag.map As.i,(ab l j).st=3∧(ab l j).ex=-1
 bal:bx l' = bx l
theorem Mid.asg {e:Int} (he:0≤e) {c:C} (hu:1≤c.unb) (hb:e+1+c.unb≤1099511627776) {l:List V} {q:LL} {bo:List En} (h:Mid e (e+1) l q bo) (hw:∀j,(ab l j).wd≤1099511627776) (W:List Int) (lim:Int) (m:M) :
  Asg e c l ((Ξ W e lim q m).1.foldl (eJ c) (l,bo,[])).1 (Ξ W e lim q m).1 ∧
  et e ((Ξ W e lim q m).1.foldl (eJ c) (l,bo,[])).1 (Ξ W e lim q m).2.1 ((Ξ W e lim q m).1.foldl (eJ c) (l,bo,[])).2.1 ((Ξ W e lim q m).1.foldl (eJ c) (l,bo,[])).2.2:=by
 obtain⟨a,b,h1,h2,h3,h4,h5⟩:=wY W e lim q m;generalize (Ξ W e lim q m).1=ag at h1 ⊢;generalize (Ξ W e lim q m).2.1=q' at h5 ⊢;have hI:ag.map As.i=q.f.take a++q.v.take b:=by rw[h1,cA,CT,CT]
 have hE:∀x∈ag,x.e=e+1:=fun x hx=>by
  rw[h1] at hx;rcases cK.1 hx with hx|hx<;>(obtain⟨i,_,rfl⟩:=cG.1 hx;rfl)
 obtain⟨n1,n2,n3,n4⟩:=pV a b h.lnd;have h3' : ∀j∈ag.map As.i,(ab l j).st=3∧(ab l j).ex=-1:=fun j hj=>by
  have:(ab l j).st=3:=(h.lan j).1 ((n3 j).2 (.inl (hI ▸ hj)));exact⟨this,h.lax j this⟩
 obtain⟨g1,g2,g3,g4,g5⟩:=jJ (e:=e+1) (c:=c) aK aK hb ag l bo [] (fun x hx=>⟨hE x hx,h3' x.i (cG.2 ⟨x,hx,rfl⟩)⟩) (hI ▸ n1) hw;refine⟨⟨g1,g2,h3',g5⟩,?_⟩;have gn:∀j,j∉ag.map As.i→ab (ag.foldl (eJ c) (l,bo,[])).1 j=ab l j:=fun j hj=>by rw[g2 j,bY hj]
 have gy:∀j,j∈ag.map As.i→ab (ag.foldl (eJ c) (l,bo,[])).1 j=asV (e+1) c (ab l j):=fun j hj=>by rw[g2 j,bZ hj]
 have not3:∀j,(ab l j).st≠3→j∉ag.map As.i:=fun j hj hc=>hj (h3' j hc).1;have hbm:(ag.foldl (eJ c) (l,bo,[])).2.1.map En.i=bo.map En.i++ag.map As.i:=by
  rw[g3,cA,List.map_map];rfl
 have st4:∀i,(ab (ag.foldl (eJ c) (l,bo,[])).1 i).st=(ab l i).st:=fun i=>by
  rw[g2 i];split<;>rfl
 rw[show(ag.foldl (eJ c) (l,bo,[])).2.2=ag.map As.i by rw[g4];rfl];refine⟨?_,fun i=>?_,hI ▸ n1,fun i=>?_,fun i hi=>?_,?_,fun i=>?_,fun x hx=>?_,fun i hi=>?_,fun i hi=>?_⟩
 ·rw[h5];exact n2
 ·rw[h5,st4];constructor
  ·intro hi;have h3:(ab l i).st=3:=(h.lan i).1 ((n3 i).2 (.inr hi));refine⟨h3,?_⟩;rw[gn i (fun hc=>n4 i (hI ▸ hc) hi)];exact h.lax i h3
  rintro⟨hs,hx⟩;rcases(n3 i).1 ((h.lan i).2 hs) with hi|hi
  ·rw[gy i (hI ▸ hi)] at hx;simp only[asV] at hx;omega
  exact hi
 ·rw[st4];constructor
  ·intro hi;exact⟨(h3' i hi).1,by rw[gy i hi];simp only[asV];omega⟩
  rintro⟨hs,hx⟩;refine Classical.byContradiction fun hc=>hx ?_;rw[gn i hc];exact h.lax i hs
 ·rw[gy i hi];rfl
 ·rw[hbm];refine List.nodup_append.2 ⟨h.bnd,hI ▸ n1,fun x hx y hy hxy=>?_⟩;have:=(h.bon x).1 hx;have:=(h3' y hy).1;subst hxy;omega
 ·rw[hbm,cK,st4];constructor
  ·rintro(hi|hi)
   ·exact .inl ((h.bon i).1 hi)
   exact .inr ⟨(h3' i hi).1,by rw[gy i hi];simp only[asV];omega⟩
  rintro(hi|⟨hs,hx⟩)
  ·exact .inl ((h.bon i).2 hi)
  refine .inr (Classical.byContradiction fun hc=>hx ?_);rw[gn i hc];exact h.lax i hs
 ·rw[g3] at hx;rcases cK.1 hx with hx|hx
  ·have h6:(ab l x.i).st=4:=(h.bon x.i).1 (cG.2 ⟨x,hx,rfl⟩);rw[gn x.i (not3 x.i aK)];have:=h.bep x hx;exact⟨this.1,this.2,fun hc=>by omega⟩
  obtain⟨y,hy,rfl⟩:=cG.1 hx;rw[gy y.i (cG.2 ⟨y,hy,rfl⟩)];simp only[asV];exact⟨aK,aK,fun _=>by omega⟩
 ·rw[st4] at hi;rw[gn i (not3 i aK)];exact h.nex i hi
 rw[st4] at hi;rw[gn i (not3 i aK)];exact h.rdy i hi
theorem Sm.act (is:List Int) (l:List V):Sm l (is.foldl (fun l i=>evV l i 1) l):=Sm.of fun j=>by
 rw[vS (e:=1) aK];split
 ·rename_i h
  right
  refine⟨aK,aK,?_⟩;simp only;exact⟨aK,aK,aK,fun _=>.inr ⟨.inl h.2,trivial⟩⟩
 exact .inl rfl
theorem sd {l:List V} {i:Int} (h:ax l i=true):atV l i=ab l i:=by
 obtain⟨k,rfl,hk⟩:=xF h;rw[yK hk];simp[atV,hk]
structure K2 (l l' : List V):Prop where
 len:l'.length=l.length
 got:∀j,ab l' j=ab l j∨((ab l j).st=2∧∃b s,ab l' j={ ab l j with bal:=b,st:=s }∧0≤b∧(s=2∨s=7))
theorem K2.refl (l:List V):K2 l l:=⟨rfl,fun _=>.inl rfl⟩
theorem K2.ne {l l' : List V} (h:K2 l l') {j:Int} (hj:(ab l j).st≠2):ab l' j=ab l j:=(h.got j).resolve_right fun hc=>hj hc.1
theorem K2.trans {a b c:List V} (h:K2 a b) (h' : K2 b c):K2 a c:=⟨h'.len.trans h.len,fun j=>by
 rcases h.got j with h1|⟨h1,x,s,h2,h3,h4⟩
 ·rcases h'.got j with h5|⟨h5,y,t,h6,h7,h8⟩
  ·exact .inl (h5.trans h1)
  rw[h1] at h5 h6;exact .inr ⟨h5,y,t,h6,h7,h8⟩
 rcases h'.got j with h5|⟨h5,y,t,h6,h7,h8⟩
 ·exact .inr ⟨h1,x,s,h5.trans h2,h3,h4⟩
 rw[h2] at h6;exact .inr ⟨h1,y,t,h6,h7,h8⟩⟩
theorem K2.sm {l l' : List V} (h:K2 l l'):Sm l l' := Sm.of fun j=>by
 rcases h.got j with h1|⟨h1,x,s,h2,h3,h4⟩
 ·exact .inl h1
 right
 rw[h2];simp only;refine⟨aK,aK,aK,aK,aK,fun _=>.inr ⟨.inr h1,trivial⟩⟩
theorem K2.set {l:List V} {i:Int} {v:V} {b s:Int} (h:(ab l i).st=2) (hv:v={ ab l i with bal:=b,st:=s }) (hb:0≤b) (hs:s=2∨s=7):K2 l (dT l i v):=⟨wK _ _ _,fun j=>by
 rw[yZ];split
 ·rename_i e;rw[e.2];exact .inr ⟨h,b,s,hv,hb,hs⟩
 exact .inl rfl⟩
theorem K2.vo {l l' : List V} (h:K2 l l') (hv:∀i,ax l i=true→VO (ab l i)):∀i,ax l' i=true→VO (ab l' i):=fun i hi=>by
 rw[xJ h.len] at hi;have:=hv i hi;rcases h.got i with h1|⟨h1,x,s,h2,h3,h4⟩
 ·rw[h1];exact this
 rw[h2];exact⟨h3,by simp only;omega,this.r,this.x,this.w,this.d⟩
theorem CN {l:List V} {i j:Int} (hi:ax l i=true) (hj:ax l j=true):mvN l i.toNat j.toNat=dT (dT l i { ab l i with bal:=0,st:=7 }) j { ab l j with bal:=IntKind.u64.wrap ((ab l j).bal+(ab l i).bal) }:=by
 have h1:=hi;have h2:=hj;obtain⟨a,rfl,ha⟩:=xF hi;obtain⟨b,rfl,hb⟩:=xF hj;unfold dT;rw[bZ h1,bZ (by rw[AM];exact h2),yK ha,yK hb];simp only[mvN,Int.toNat_natCast,sV ha,sV hb]
theorem Cf {l:List V} {i j:Int} {c:C} (h:dN l i j c=0):ax l i=true∧ax l j=true∧i≠j∧(ab l i).st=2∧(ab l j).st=2∧(ab l i).bal+(ab l j).bal≤18446744073709551615:=by
 obtain⟨h1,h2,h3,h4,h5,h6⟩:=nr h;have hi:ax l i=true:=cX ⟨h1,h2⟩;have hj:ax l j=true:=cX ⟨h3,h4⟩;rw[sd hi,sd hj] at h6;have h7:=nN h6;exact⟨hi,hj,h5,h7.1,h7.2.1,h7.2.2.2.2.1⟩
theorem K2.step {c:C} {s:List V × List Bool} {p:PP} (hv:∀i,ax s.1 i=true→VO (ab s.1 i)):K2 s.1 (dy c s p).1∧(bx (dy c s p).1).sum=(bx s.1).sum:=by
 unfold dy;simp only;by_cases h:iX s.1 p c=true
 ·rw[bZ h];obtain⟨h1,h2,h3,h4,h5,h6⟩:=Cf (bW h);have hw:IntKind.u64.wrap ((ab s.1 p.b).bal+(ab s.1 p.a).bal)=(ab s.1 p.b).bal+(ab s.1 p.a).bal:=by
   have:=(hv _ h1).b;have:=(hv _ h2).b;rw[cF];omega
  rw[CN h1 h2,hw];have B7:ab (dT s.1 p.a { ab s.1 p.a with bal:=0,st:=7 }) p.b=ab s.1 p.b:=by rw[yZ,bY (fun hc=>h3 hc.2.symm)]
  have hb2:ax (dT s.1 p.a { ab s.1 p.a with bal:=0,st:=7 }) p.b=true:=by rw[ij];exact h2
  constructor
  ·refine(K2.set (b:=0) (s:=7) h4 rfl aK (.inr rfl)).trans (K2.set (b:=(ab s.1 p.b).bal+(ab s.1 p.a).bal) (s:=2) (by rw[B7];exact h5) ?_ (by have:=(hv _ h1).b;have:=(hv _ h2).b;omega) (.inl rfl));rw[B7];generalize ab s.1 p.b=x at h5 ⊢;cases x;simp only at h5 ⊢;rw[h5]
  rw[vK _ _ _ hb2,B7,vK _ _ _ h1];simp only;omega
 rw[bY h];exact⟨K2.refl _,rfl⟩
theorem K2.fold {c:C}:∀(q:List PP) (s:List V × List Bool),(∀i,ax s.1 i=true→VO (ab s.1 i))→K2 s.1 (q.foldl (dy c) s).1∧(bx (q.foldl (dy c) s).1).sum=(bx s.1).sum
 | [],s,_=>⟨K2.refl _,rfl⟩
 | p :: q,s,hv=>by
  obtain⟨h1,h2⟩:=K2.step (c:=c) (p:=p) hv;obtain⟨h3,h4⟩:=K2.fold (c:=c) q (dy c s p) (h1.vo hv);rw[cR];exact⟨h1.trans h3,h4.trans h2⟩
theorem K2.runM {c:C} {l:List V} (q:List PP) (hv:∀i,ax l i=true→VO (ab l i)):K2 l (runM c l q).1∧(bx (runM c l q).1).sum=(bx l).sum:=K2.fold q (l,[]) hv
theorem gY {l:List V} {r:Rq}:inB l r↔ax l r.i=true:=by unfold inB ax;rw[decide_eq_true_iff]
theorem CH (c:C) (l:List V) (r:Rq):jP c l r=dT l r.i (apV (ab l r.i) r.m c):=by
 by_cases h:inB l r
 ·have hh:=gY.1 h;obtain⟨k,hk,hl⟩:=xF hh;unfold dT;rw[qB hk hl,bZ hh,hk,yK hl];rfl
 rw[tQ h];unfold dT;rw[bY (fun hc=>h (gY.2 hc))]
theorem gW (c:C) (l:List V) (paid:List Y) (r:Rq):gJ c l paid r=if ax l r.i=true then paid++[⟨r.i,min r.m (dm (ab l r.i) c),false⟩] else paid:=by
 by_cases h:inB l r
 ·have hh:=gY.1 h;obtain⟨k,hk,hl⟩:=xF hh;rw[qA hk hl,bZ hh,hk,yK hl]
 rw[tP h,bY (fun hc=>h (gY.2 hc))]
theorem jH {v:V} {c:C} (h:VO v) (hm:v.bal≤18446744073709551615) (hc:0≤c.minb):0≤dm v c∧dm v c≤v.bal∧(v.st≠2→dm v c=0):=by
 have:=h.b;unfold dm;split
 ·exact⟨aK,aK,fun _=>rfl⟩
 rename_i h1;split
 ·exact⟨aK,aK,fun _=>rfl⟩
 rw[cF];refine⟨aK,aK,fun hc=>absurd (.inl hc) h1⟩
def eG (ps:List Y):Int:=(ps.map Y.a).sum
theorem hG (a b:List Y):eG (a++b)=eG a+eG b:=by simp[eG]
theorem lX (ps:List Y):eG (pos ps)=eG ps:=by
 induction ps with
 | nil=>rfl
 | cons y ps ih =>
  unfold pos at ih ⊢;rw[List.filter_cons];split
  ·simp only[eG,cV,dB] at ih ⊢;omega
  rename_i h;have h0:y.a=0:=by simpa using h
  simp only[eG,cV,dB] at ih ⊢;omega
theorem ic:∀{l:List Int},(∀x∈l,0≤x)→∀x∈l,x≤l.sum
 | [],_,x,hx=>by simp at hx
 | a :: l,h,x,hx=>by
  have h0:=xH (l:=l) fun y hy=>h y (by simp[hy]);have h1:=h a aM;rw[dB];rcases cH.1 hx with rfl|hx
  ·omega
  have:=ic (l:=l) (fun y hy=>h y (by simp[hy])) x hx;omega
theorem tF {l:List V} (hv:∀i,ax l i=true→VO (ab l i)) {i:Int} (hi:ax l i=true):(ab l i).bal≤(bx l).sum:=by
 refine ic (fun x hx=>?_) _ (cG.2 ⟨_,vV hi,rfl⟩);obtain⟨v,hv',rfl⟩:=cG.1 hx;obtain⟨j,hj,rfl⟩:=wJ hv';exact(hv j hj).b
theorem K2.pstep {c:C} {s:List V × List Y} {r:Rq} (hv:∀i,ax s.1 i=true→VO (ab s.1 i)) (hm:(bx s.1).sum≤18446744073709551615) (hc:0≤c.minb) (hr:0≤r.m) :
  K2 s.1 (eY c s r).1∧(bx (eY c s r).1).sum+eG (eY c s r).2=(bx s.1).sum+eG s.2∧((∀y∈s.2,0≤y.a∧y.f=false∧ax s.1 y.i=true)→∀y∈(eY c s r).2,0≤y.a∧y.f=false∧ax s.1 y.i=true):=by
 unfold eY;simp only;rw[CH,gW];by_cases hh:ax s.1 r.i=true
 ·have h1:=hv _ hh;have h2:=tF hv hh;obtain⟨a1,a2,a3⟩:=jH h1 aK hc;have hp:0≤min r.m (dm (ab s.1 r.i) c)∧min r.m (dm (ab s.1 r.i) c)≤(ab s.1 r.i).bal:=by omega
  have hw:IntKind.u64.wrap ((ab s.1 r.i).bal-min r.m (dm (ab s.1 r.i) c))=(ab s.1 r.i).bal-min r.m (dm (ab s.1 r.i) c):=by rw[cF];omega
  have hap:apV (ab s.1 r.i) r.m c={ ab s.1 r.i with bal:=(ab s.1 r.i).bal-min r.m (dm (ab s.1 r.i) c) }:=by unfold apV;rw[hw]
  rw[bZ hh];refine⟨?_,?_,fun h y hy=>?_⟩
  ·by_cases h2:(ab s.1 r.i).st=2
   ·refine K2.set (b:=(ab s.1 r.i).bal-min r.m (dm (ab s.1 r.i) c)) (s:=2) h2 ?_ aK (.inl rfl);rw[hap];generalize ab s.1 r.i=x at h2 ⊢;cases x;simp only at h2 ⊢;rw[h2]
   refine⟨wK _ _ _,fun j=>.inl ?_⟩;rw[yZ];split
   ·rename_i e;rw[hap,e.2];have h0:=a3 h2;have h5:(ab s.1 r.i).bal-min r.m (dm (ab s.1 r.i) c)=(ab s.1 r.i).bal:=by omega
    rw[h5]
   rfl
  ·rw[vK _ _ _ hh,hap,hG];simp only[eG,cV,List.map_nil,dB,List.sum_nil];omega
  rcases cK.1 hy with hy|hy
  ·exact h y hy
  simp only[cH,cE,or_false] at hy;subst hy;exact⟨hp.1,rfl,hh⟩
 rw[bY hh];have:dT s.1 r.i (apV (ab s.1 r.i) r.m c)=s.1:=by unfold dT;rw[bY hh]
 rw[this];exact⟨K2.refl _,rfl,fun h=>h⟩
theorem K2.pfold {c:C} (hc:0≤c.minb):∀(q:List Rq) (s:List V × List Y),(∀r∈q,0≤r.m)→(∀i,ax s.1 i=true→VO (ab s.1 i))→(bx s.1).sum≤18446744073709551615→(∀y∈s.2,0≤y.a) →
  K2 s.1 (q.foldl (eY c) s).1∧(bx (q.foldl (eY c) s).1).sum+eG (q.foldl (eY c) s).2=(bx s.1).sum+eG s.2∧((∀y∈s.2,0≤y.a∧y.f=false∧ax s.1 y.i=true)→∀y∈(q.foldl (eY c) s).2,0≤y.a∧y.f=false∧ax s.1 y.i=true)
 | [],s,_,_,_,_=>⟨K2.refl _,rfl,fun h=>h⟩
 | r :: q,s,hq,hv,hm,hs=>by
  obtain⟨h1,h2,h3⟩:=K2.pstep (s:=s) (r:=r) hv hm hc (hq r aM);have h0:∀y∈(eY c s r).2,0≤y.a:=fun y hy=>by
   unfold eY at hy;simp only at hy;rw[gW] at hy;split at hy
   ·rename_i hh;rcases cK.1 hy with hy|hy
    ·exact hs y hy
    simp only[cH,cE,or_false] at hy;subst hy;obtain⟨a1,_,_⟩:=jH (hv _ hh) (by have:=tF hv hh;omega) hc;have:=hq r aM;simp only;omega
   exact hs y hy
  have hs2:eG s.2≤eG (eY c s r).2:=by
   unfold eY;simp only;rw[gW];split
   ·rename_i hh;obtain⟨a1,_,_⟩:=jH (hv _ hh) (by have:=tF hv hh;omega) hc;have:=hq r aM;rw[hG];simp only[eG,cV,List.map_nil,dB,List.sum_nil];omega
   exact Int.le_refl _
  obtain⟨g1,g2,g3⟩:=K2.pfold hc q (eY c s r) (fun x hx=>hq x (by simp[hx])) (h1.vo hv) aK h0;rw[cR];refine⟨h1.trans g1,aK,fun h y hy=>?_⟩;have:=g3 (fun z hz=>by
   have:=h3 h z hz;exact⟨this.1,this.2.1,by rw[xJ h1.len];exact this.2.2⟩) y hy
  exact⟨this.1,this.2.1,by rw[←xJ h1.len];exact this.2.2⟩
theorem K2.run {c:C} (hc:0≤c.minb) {l:List V} (q:List Rq) (hq:∀r∈q,0≤r.m) (hv:∀i,ax l i=true→VO (ab l i)) (hm:(bx l).sum≤18446744073709551615) :
  K2 l (run c l q).1∧(bx (run c l q).1).sum+eG (run c l q).2=(bx l).sum∧∀y∈(run c l q).2,0≤y.a∧y.f=false∧ax l y.i=true:=by
 obtain⟨h1,h2,h3⟩:=K2.pfold hc q (l,[]) hq hv hm aM;exact⟨h1,by simpa[eG,Go.Proofs.YtdddiilocbbkkaaGreat.run] using h2,h3 aM⟩
theorem EU {v:V} {e:Int} (h:v.st=5) (hw:v.wd≤e):db v e=({ v with st:=6,bal:=0 },v.bal,0):=by
 unfold db;have:nxt v.st 5=6:=by rw[iY aK,bZ h];rfl
 rw[this,bY aK,bY aK]
theorem wR {l0:List V} {e:Int}:∀(is:List Int) (l:List V) (ps:List Y),is.Nodup→(∀i∈is,(ab l0 i).st=5∧(ab l0 i).wd≤e∧ab l i=ab l0 i) →
  (is.foldl (cx l0 e) (l,ps)).1.length=l.length∧(∀j,ab (is.foldl (cx l0 e) (l,ps)).1 j=if j∈is then { ab l0 j with st:=6,bal:=0 } else ab l j) ∧
  (is.foldl (cx l0 e) (l,ps)).2=ps++is.map (fun i=>⟨i,(ab l0 i).bal,true⟩)∧(bx (is.foldl (cx l0 e) (l,ps)).1).sum+eG (is.foldl (cx l0 e) (l,ps)).2=(bx l).sum+eG ps
 | [],l,ps,_,_=>⟨rfl,fun j=>by simp,aM,rfl⟩
 | i :: is,l,ps,hn,h=>by
  obtain⟨h1,h2,h3⟩:=h i aM;rw[List.nodup_cons] at hn;have hh:ax l i=true:=yL (by rw[h3];omega);have e1:cx l0 e (l,ps) i=(dT l i { ab l0 i with st:=6,bal:=0 },ps++[⟨i,(ab l0 i).bal,true⟩]):=by
   unfold cx;rw[EU h1 h2]
  have B7:∀j∈is,ab (dT l i { ab l0 i with st:=6,bal:=0 }) j=ab l j:=fun j hj=>by
   rw[yZ,bY];rintro⟨_,rfl⟩;exact hn.1 hj
  obtain⟨g1,g2,g3,g4⟩:=wR (l0:=l0) (e:=e) is (dT l i { ab l0 i with st:=6,bal:=0 }) (ps++[⟨i,(ab l0 i).bal,true⟩]) hn.2 (fun j hj=>by
   obtain⟨k1,k2,k3⟩:=h j (by simp[hj]);exact⟨k1,k2,by rw[B7 j hj,k3]⟩)
  rw[cR,e1];refine⟨by rw[g1,wK],fun j=>?_,?_,?_⟩
  ·rw[g2 j,yZ];by_cases hj:j=i
   ·subst hj;rw[bY hn.1,bZ ⟨hh,rfl⟩,bZ aM]
   rw[bY (show¬(ax l i=true∧j=i) from fun hc=>hj hc.2)];simp[hj]
  ·rw[g3];simp
  rw[g4,vK _ _ _ hh,hG,h3];simp only[eG,cV,List.map_nil,dB,List.sum_nil];omega
structure Cmo (c:C):Prop where
 qsize:1≤c.qsize∧c.qsize≤4096
 mind:1≤c.mind∧c.mind≤c.maxd
 maxd:c.maxd≤c.supc∧c.supc≤1152921504606846976
 minb:1≤c.minb∧c.minb≤c.mind
 maxb:c.maxd≤c.maxb∧c.maxb≤c.supc
 quot:1≤c.quot
 rlen:1≤c.rlen∧c.rlen≤4096
 merg:0≤c.merg∧c.merg≤4096
 pnum:c.pnum≤c.pden
 pden:1≤c.pden∧c.pden≤4294967296
theorem yM {c:C} (h:chk c=0):Cmo c:=by
 have h2:=yC h 2 aK aK;have h3:=yC h 3 aK aK;have h4:=yC h 4 aK aK;have h5:=yC h 5 aK aK;have h6:=yC h 6 aK aK;have h7:=yC h 7 aK aK;have h9:=yC h 9 aK aK;have P7:=yC h 13 aK aK;have h18:=yC h 18 aK aK;have h19:=yC h 19 aK aK;have h20:=yC h 20 aK aK;simp[ar,btw] at h2 h3 h4 h5 h6 h7 h9 P7 h18 h19 h20;exact⟨h2,⟨h3,h4⟩,h5,h6,h7,h9,P7,h18,h19,h20⟩
structure Inv (s:Eg):Prop where
 cc:chk s.c=0
 ck:s.c.ok
 blk:s.blk≤1000000000
 cap:(s.l.length:Int)≤s.c.capa
 vo:∀i,ax s.l i=true→VO (ab s.l i)
 sum:(bx s.l).sum=s.dep-s.paid-s.burn
 led:LOk s.c.supc s.dep s.paid s.burn
 qf:s.q.f.length≤s.c.qsize.toNat∧s.q.v.length≤s.c.qsize.toNat
 pe:s.pend.length≤s.c.qsize.toNat
 mg:s.mg.length≤s.c.qsize.toNat
 pt:s.pt.length≤s.c.qsize.toNat
 pm:∀r∈s.pt,0≤r.m
 cur:s.cur≤4096
 m:s.m.ok
 e:et s.ep s.l s.q s.bo s.lv
theorem Inv.cok {s:Eg} (h:Inv s):Cok s.c:=lL h.cc h.ck
theorem AZ (s:Eg):0≤s.ep:=Int.natCast_nonneg _
theorem Aa (s:Eg):s.ep≤s.blk:=by
 have h:=Nat.div_le_self s.blk s.c.elen.toNat
 unfold Eg.ep;generalize s.blk/s.c.elen.toNat=q at h ⊢;omega
theorem Inv.epb {s:Eg} (h:Inv s):0≤s.ep∧s.ep≤1000000000:=by have:=AZ s;have:=Aa s;have:=h.blk;omega
theorem HN {e:Int} (h:0≤e∧e≤1000000000):eN [e]=true:=by
 unfold eN;refine cX ⟨fun x hx=>?_,by simp;omega⟩;simp at hx;omega
theorem GB {e d:Int} (h:0≤e∧e≤1000000000) (hd:0≤d∧d≤1048576):eN [e,d]=true∧eh [e,d]=e+d:=by
 have hb:eN [e,d]=true:=by
  unfold eN;refine cX ⟨fun x hx=>?_,by simp;omega⟩;simp at hx;omega
 exact⟨hb,by unfold eh;rw[bZ hb];simp⟩
theorem Cc (l:List Int):0≤eh l∧eh l≤1099511627776:=by
 unfold eh;split
 ·rename_i h;have h:=bW h;exact⟨xH h.1,h.2⟩
 omega
theorem DL (e a b:Int) (c:C) (l:List Int):0≤ez e a b c l∧ez e a b c l≤1099511627776:=by
 unfold ez;split
 ·exact Cc _
 omega
theorem VO.z_wd (l:List V) (hv:∀i,ax l i=true→VO (ab l i)) (j:Int):(ab l j).wd≤1099511627776:=by
 rcases Bool.eq_false_or_eq_true (ax l j) with h|h
 ·exact(hv j h).w.2
 rw[wW h];simp[V.z]
theorem pix {l:List V} {i:Int} {v:V} (hv:∀i,ax l i=true→VO (ab l i)) (h:VO v):∀j,ax (dT l i v) j=true→VO (ab (dT l i v) j):=fun j hj=>by
 rw[ij] at hj;rw[yZ];split
 ·exact h
 exact hv j hj
theorem xU {l:List V} {i:Int} (h:ax l i=true) (v:V):l.set i.toNat v=dT l i v:=by unfold dT;rw[bZ h]
theorem iZ {f v:List Int} {i:Int} (h:(f++v).Nodup) (hi:i∉f++v):(f++[i]++v).Nodup∧(f++(v++[i])).Nodup:=by
 have h1:(i :: (f++v)).Nodup:=List.nodup_cons.2 ⟨hi,h⟩;constructor
 ·refine List.Perm.nodup_iff ?_ |>.1 h1
  rw[cJ];exact List.perm_middle.symm
 refine List.Perm.nodup_iff ?_ |>.1 h1
 rw[←cJ];exact(List.perm_append_comm (l₁:=[i]) (l₂:=f++v))
theorem mS {sz:Nat} {cl i:Int} {q:LL} (hc:cl=0∨cl=1) (hf:eW sz cl q≠0):cg sz cl i q=if cl=0 then⟨q.f++[i],q.v⟩ else⟨q.f,q.v++[i]⟩:=by
 unfold cg;unfold eW at hf;rcases hc with rfl|rfl
 ·simp only[if_true] at hf ⊢;rw[bZ aK]
 simp only[show¬((1:Int)=0) from by decide,if_false,if_true] at hf ⊢;rw[bZ aK]
theorem et.push {ep:Int} {l:List V} {q:LL} {bo:List En} {lv:List Int} (h:et ep l q bo lv) {i:Int} {v:V} (hi:(ab l i).st=2) (hv:v.st=3) (hx:v.ex=(ab l i).ex) {sz:Nat} {cl:Int} (hc:cl=0∨cl=1) (hf:eW sz cl q≠0) :
  et ep (dT l i v) (cg sz cl i q) bo lv:=by
 have hh:ax l i=true:=yL aK;have D5:v.ex=-1:=hx.trans (h.nex i (.inr hi));have g:∀j,ab (dT l i v) j=if j=i then v else ab l j:=fun j=>by rw[yZ];simp[hh]
 have gn:∀j,j≠i→ab (dT l i v) j=ab l j:=fun j hj=>by rw[g j,bY hj]
 have gi:ab (dT l i v) i=v:=by rw[g i,bZ rfl]
 have hnq:i∉q.f++q.v:=fun hc=>by have:=((h.lan i).1 hc).1;omega
 have hmem:∀j,j∈(cg sz cl i q).f++(cg sz cl i q).v↔j=i∨j∈q.f++q.v:=fun j=>by
  rw[mS hc hf];split<;>simp[cK]<;>(constructor<;>intro hq<;>rcases hq with hq|hq|hq<;>simp[hq])
 refine⟨?_,fun j=>?_,h.vnd,fun j=>?_,fun j hj=>?_,h.bnd,fun j=>?_,fun x hx=>?_,fun j hj=>?_,fun j hj=>?_⟩
 ·rw[mS hc hf];split
  ·exact(iZ h.lnd hnq).1
  exact(iZ h.lnd hnq).2
 ·rw[hmem j];by_cases hj:j=i
  ·subst hj;rw[gi];simp[hv,D5]
  rw[gn j hj,←h.lan j];simp[hj]
 ·by_cases hj:j=i
  ·subst hj;rw[gi];constructor
   ·intro hc;have:=((h.lvs j).1 hc).1;omega
   intro hc;exact absurd D5 hc.2
  rw[gn j hj];exact h.lvs j
 ·rw[gn j (fun hc=>by subst hc;have:=((h.lvs j).1 hj).1;omega)];exact h.lex j hj
 ·by_cases hj:j=i
  ·subst hj;rw[gi];constructor
   ·intro hc;have:=(h.bon j).1 hc;omega
   intro hc;rcases hc with hc|hc
   ·omega
   exact absurd D5 hc.2
  rw[gn j hj];exact h.bon j
 ·rw[gn x.i (fun hc=>by have:=(h.bon x.i).1 (cG.2 ⟨x,hx,rfl⟩);rw[hc] at this;omega)];exact h.bep x hx
 ·by_cases D6:j=i
  ·subst D6;rw[gi] at hj;omega
  rw[gn j D6] at hj ⊢;exact h.nex j hj
 by_cases D6:j=i
 ·subst D6;rw[gi] at hj;omega
 rw[gn j D6] at hj ⊢;exact h.rdy j hj
theorem et.sl34 {ep:Int} {l:List V} {q:LL} {bo:List En} {lv:List Int} (h:et ep l q bo lv) {i:Int} {v:V} (hi:(ab l i).st=3∨(ab l i).st=4) (hv:v.st=(ab l i).st) (hx:v.ex=(ab l i).ex) (hw:(ab l i).wd≤v.wd) :
  et ep (dT l i v) q bo lv:=by
 have hh:ax l i=true:=yL aK;have g:∀j,(ab (dT l i v) j).st=(ab l j).st∧(ab (dT l i v) j).ex=(ab l j).ex∧(ab l j).wd≤(ab (dT l i v) j).wd:=fun j=>by
  rw[yZ];split
  ·rename_i e;rw[e.2];exact⟨hv,hx,hw⟩
  exact⟨rfl,rfl,Int.le_refl _⟩
 have gn:∀j,(ab l j).st≠3→(ab l j).st≠4→ab (dT l i v) j=ab l j:=fun j h1 h2=>by
  rw[yZ,bY];rintro⟨_,rfl⟩;omega
 refine⟨h.lnd,fun j=>?_,h.vnd,fun j=>?_,fun j hj=>?_,h.bnd,fun j=>?_,fun x hx=>?_,fun j hj=>?_,fun j hj=>?_⟩
 ·rw[(g j).1,(g j).2.1];exact h.lan j
 ·rw[(g j).1,(g j).2.1];exact h.lvs j
 ·rw[(g j).2.1];exact h.lex j hj
 ·rw[(g j).1,(g j).2.1];exact h.bon j
 ·have:=h.bep x hx;have:=(g x.i).2.2;rw[(g x.i).1];exact⟨aK,aK,aK⟩
 ·rw[(g j).1] at hj;rw[(g j).2.1];exact h.nex j hj
 rw[(g j).1] at hj;rw[gn j aK aK];exact h.rdy j hj
theorem et.sl5 {ep:Int} {l:List V} {q:LL} {bo:List En} {lv:List Int} (h:et ep l q bo lv) {i:Int} {v:V} (hi:(ab l i).st=5) (hv:v.st=4) (hw:ep+1≤v.wd) :
  et ep (dT l i v) q (bo++[⟨v.wd,i⟩]) lv:=by
 have hh:ax l i=true:=yL aK;have g:∀j,ab (dT l i v) j=if j=i then v else ab l j:=fun j=>by rw[yZ];simp[hh]
 have gn:∀j,j≠i→ab (dT l i v) j=ab l j:=fun j hj=>by rw[g j,bY hj]
 have gi:ab (dT l i v) i=v:=by rw[g i,bZ rfl]
 have nb:i∉bo.map En.i:=fun hc=>by have:=(h.bon i).1 hc;omega
 refine⟨h.lnd,fun j=>?_,h.vnd,fun j=>?_,fun j hj=>?_,?_,fun j=>?_,fun x hx=>?_,fun j hj=>?_,fun j hj=>?_⟩
 ·by_cases hj:j=i
  ·subst hj;rw[gi,h.lan j];omega
  rw[gn j hj];exact h.lan j
 ·by_cases hj:j=i
  ·subst hj;rw[gi,h.lvs j];omega
  rw[gn j hj];exact h.lvs j
 ·rw[gn j (fun hc=>by subst hc;have:=((h.lvs j).1 hj).1;omega)];exact h.lex j hj
 ·rw[cA];refine List.nodup_append.2 ⟨h.bnd,aM,fun a ha b hb hab=>?_⟩;simp at hb;subst hb;subst hab;exact nb ha
 ·rw[cA,cK,h.bon j];by_cases hj:j=i
  ·subst hj;rw[gi];simp[hv]
  rw[gn j hj];simp[hj]
 ·rcases cK.1 hx with hx|hx
  ·have h1:x.i≠i:=fun hc=>nb (by rw[←hc];exact cG.2 ⟨x,hx,rfl⟩);rw[gn x.i h1];exact h.bep x hx
  simp only[cH,cE,or_false] at hx;subst hx;simp only[gi];exact⟨hw,Int.le_refl _,fun hc=>by omega⟩
 ·by_cases D6:j=i
  ·subst D6;rw[gi] at hj;omega
  rw[gn j D6] at hj ⊢;exact h.nex j hj
 by_cases D6:j=i
 ·subst D6;rw[gi] at hj;omega
 rw[gn j D6] at hj ⊢;exact h.rdy j hj
theorem et.ep_eq {ep ep' : Int} {l:List V} {q:LL} {bo:List En} {lv:List Int} (h:et ep l q bo lv) (e:ep=ep'):et ep' l q bo lv:=e ▸ h
theorem BA (l:List V) (v:V):(bx (l++[v])).sum=(bx l).sum+v.bal:=by simp[bx]
theorem Ae {s:Eg} (h:Inv s) {o:Op} (ho:0≤o.a∧o.a≤18446744073709551615):Inv (dz s o).1:=by
 unfold dz;split
 ·exact h
 split
 ·exact h
 split
 ·exact h
 split
 ·exact h
 rename_i h1 h2 h3 h4;have hl:eR s.c.supc s.dep s.paid s.burn o.a=0:=Classical.byContradiction h4;unfold eR at hl;have y2:=h.led;obtain⟨l1,l2,l3,l4,l5,l6⟩:=y2;split at hl
 ·omega
 split at hl
 ·omega
 rename_i h5 h6;refine⟨h.cc,h.ck,h.blk,?_,fun i hi=>?_,?_,⟨l1,l2,by show s.paid+s.burn≤s.dep+o.a;omega,by show s.dep+o.a≤_;omega,by show s.dep+o.a-s.paid-s.burn≤s.c.supc;omega,l6⟩,h.qf,?_,h.mg,h.pt,h.pm,h.cur,h.m,h.e.sm (Sm.app rfl rfl)⟩
 ·show(((s.l++_).length:Nat):Int)≤_;simp only[cQ,List.length_singleton];omega
 ·show VO (ab (s.l++_) i);rw[ku];split
  ·exact⟨ho.1,aM,aM,aM,aM,aM⟩
  rename_i B7;refine h.vo i ?_;have hi:ax (s.l++[_]) i=true:=hi;unfold ax at hi ⊢;have hi:=bW hi;simp at hi;exact cX aK
 ·show(bx (s.l++[_])).sum=s.dep+o.a-s.paid-s.burn;rw[BA,h.sum];simp only;omega
 show(s.pend++[_]).length≤_;simp only[cQ,List.length_singleton];omega
theorem pd {v:V} {e:Int} (he:0≤e∧e≤1000000000):cy v e=if nxt v.st 2=0 then(V.z,8) else({ v with rq:=e,st:=nxt v.st 2 },0):=by
 unfold cy;rw[bY (by rw[HN he];simp)]
theorem HM {s:Int} (h:nxt s 2≠0):s=2∧nxt s 2=3:=by
 rw[iY aK] at h ⊢;by_cases hs:s=2
 ·rw[bZ hs];exact⟨hs,rfl⟩
 rw[bY hs] at h;exact absurd rfl h
theorem rI {s:Eg} (h:Inv s) {cl i:Int} (hc:cl=0∨cl=1):Inv (Θ s cl i).1:=by
 unfold Θ;split
 ·exact h
 split
 ·exact h
 split
 ·exact h
 split
 ·exact h
 rename_i h1 h2 h3 h4;have hh:ax s.l i=true:=by simpa using h1
 have he:=h.epb;have ha:(cy (ab s.l i) s.ep).2=0:=Classical.byContradiction h2;rw[pd he] at ha;have hn:nxt (ab s.l i).st 2≠0:=fun hc=>by rw[bZ hc] at ha;simp at ha
 obtain⟨h5,h6⟩:=HM hn;have hv:(cy (ab s.l i) s.ep).1={ ab s.l i with rq:=s.ep,st:=3 }:=by rw[pd he,bY hn,h6]
 have hb:=DL s.ep (df (fh s.l (bq cl s.q))) (cy (ab s.l i) s.ep).1.bal s.c [s.c.unb,dU s.c];have s7:=h.vo i hh;simp only[xU hh];generalize ez s.ep (df (fh s.l (bq cl s.q))) (cy (ab s.l i) s.ep).1.bal s.c [s.c.unb,dU s.c]=d at hb ⊢;rw[hv];have hq:=sG (sz:=s.c.qsize.toNat) cl i h.qf;refine⟨h.cc,h.ck,h.blk,by show((dT _ _ _).length:Int)≤_;rw[wK];exact h.cap,pix h.vo ⟨s7.b,aM,by simp only;omega,s7.x,s7.w,by simp only;omega⟩,?_,h.led,hq,h.pe,h.mg,h.pt,h.pm,h.cur,h.m,?_⟩
 ·show(bx (dT _ _ _)).sum=_;exact(congrArg List.sum (pI aP)).trans h.sum
 exact h.e.push h5 aP aP hc h3
theorem gh {b:Int} {c:C} (h0:0≤b) (hn:0≤c.pnum) (hd:1≤c.pden):0≤eM b c∧eM b c≤b:=by
 unfold eM;split
 ·omega
 rename_i h;constructor
 ·exact Int.ediv_nonneg (Int.mul_nonneg h0 hn) aK
 have:b*c.pnum≤b*c.pden:=Int.mul_le_mul_of_nonneg_left aK h0;have h9:=Int.ediv_le_ediv (a:=b*c.pnum) (b:=b*c.pden) (c:=c.pden) aK this;rwa [Int.mul_ediv_cancel _ aK] at h9
theorem HL {s:Int} (h:nxt s 7≠0):(s=2∨s=3∨s=4∨s=5)∧nxt s 7=if s=2∨s=3 then 3 else 4:=by
 unfold nxt at h ⊢;rw[bZ rfl] at h ⊢;by_cases h1:s=2∨s=3
 ·rw[bZ h1,bZ h1];exact⟨aK,rfl⟩
 rw[bY h1] at h ⊢;rw[bY h1];by_cases h2:s=4∨s=5
 ·rw[bZ h2];exact⟨aK,rfl⟩
 rw[bY h2] at h;exact absurd rfl h
theorem vx {v:V} {e:Int} {c:C} (he:0≤e∧e≤1000000000) (hc:0≤c.sld∧c.sld≤1048576) (h0:0≤v.bal) (hm:v.bal≤18446744073709551615) (hn:0≤c.pnum) (hd:1≤c.pden) :
  bh v e c=if v.sl=true then(V.z,0,9) else if nxt v.st 7=0 then(V.z,0,8) else({ v with bal:=v.bal-eM v.bal c,st:=nxt v.st 7,sl:=true,rq:=if v.st=2 then e else v.rq,wd:=max v.wd (e+c.sld),dl:=-1 },eM v.bal c,0):=by
 obtain⟨h1,h2⟩:=GB he hc;have hb:=gh h0 hn hd;unfold bh;rw[h2,bY (show¬(eN [e,c.sld]=false) by rw[h1];simp),cF,Int.emod_eq_of_lt aK aK]
theorem rB {s:Eg} (h:Inv s) {i:Int}:Inv (Φ s i).1:=by
 have hk:=h.cok;have he:=h.epb;have hck:=h.ck;unfold Φ;split
 ·exact h
 rename_i h1;have hh:ax s.l i=true:=by simpa using h1
 have s7:=h.vo i hh;have H9:=tF h.vo hh;have t6:=h.sum;obtain⟨l1,l2,l3,l4,l5,l6⟩:=h.led;have J5:0≤s.c.pnum:=hck.pnum.1;have S9:1≤s.c.pden:=(yM h.cc).pden.1;have hsl:0≤s.c.sld∧s.c.sld≤1048576:=by have:=hk.sld;have:=hk.unb;omega
 have J8:=vx (v:=ab s.l i) (c:=s.c) he hsl s7.b aK J5 S9;have F8:=gh (c:=s.c) s7.b J5 S9;simp only;split
 ·exact h
 split
 ·exact h
 split
 ·exact h
 rename_i h2 h3 h4;have h4:(bh (ab s.l i) s.ep s.c).2.2=0:=Classical.byContradiction h4;rw[J8] at h4;have hs:¬(ab s.l i).sl=true:=fun hc=>by rw[bZ hc] at h4;simp at h4
 rw[bY hs] at h4 J8;have hn:nxt (ab s.l i).st 7≠0:=fun hc=>by rw[bZ hc] at h4;simp at h4
 rw[bY hn] at J8;obtain⟨h5,h6⟩:=HL hn;have hbk:dW s.dep s.paid s.burn (eM (ab s.l i).bal s.c)=0:=by unfold dW;rw[bY aK]
 rw[J8];simp only;rw[hbk,bZ rfl,xU hh];have hvo' : VO { ab s.l i with bal:=(ab s.l i).bal-eM (ab s.l i).bal s.c,st:=nxt (ab s.l i).st 7,sl:=true,rq:=if(ab s.l i).st=2 then s.ep else(ab s.l i).rq,wd:=max (ab s.l i).wd (s.ep+s.c.sld),dl:=-1 }:=by
  have:=s7.w;have:=s7.r;refine⟨by simp only;omega,by simp only;rw[h6];split<;>omega,by simp only;split<;>omega,s7.x,by simp only;omega,aM⟩
 generalize hw:({ ab s.l i with bal:=(ab s.l i).bal-eM (ab s.l i).bal s.c,st:=nxt (ab s.l i).st 7,sl:=true,rq:=if(ab s.l i).st=2 then s.ep else(ab s.l i).rq,wd:=max (ab s.l i).wd (s.ep+s.c.sld),dl:=-1 }:V)=w at hvo';have w1:w.bal=(ab s.l i).bal-eM (ab s.l i).bal s.c:=by rw[←hw]
 have w2:w.st=if(ab s.l i).st=2∨(ab s.l i).st=3 then 3 else 4:=by rw[←hw];exact h6
 have w3:w.wd=max (ab s.l i).wd (s.ep+s.c.sld):=by rw[←hw]
 have w4:w.ex=(ab s.l i).ex:=by rw[←hw]
 have X4:∀q bo,(q.f.length≤s.c.qsize.toNat∧q.v.length≤s.c.qsize.toNat)→et s.ep (dT s.l i w) q bo s.lv→Inv { s with l:=dT s.l i w,burn:=s.burn+eM (ab s.l i).bal s.c,q:=q,bo:=bo }:=fun q bo hq hE =>
  ⟨h.cc,h.ck,h.blk,by show((dT _ _ _).length:Int)≤_;rw[wK];exact h.cap,pix h.vo hvo',by show(bx (dT _ _ _)).sum=s.dep-s.paid-(s.burn+_);rw[vK _ _ _ hh,w1];omega,
   ⟨l1,by show 0≤s.burn+_;omega,by show s.paid+(s.burn+eM (ab s.l i).bal s.c)≤s.dep;omega,l4,by show s.dep-s.paid-(s.burn+eM (ab s.l i).bal s.c)≤s.c.supc;omega,l6⟩,hq,h.pe,h.mg,h.pt,h.pm,h.cur,h.m,hE⟩
 by_cases c2:(ab s.l i).st=2
 ·rw[bZ c2,bY (show¬(ab s.l i).st=5 by omega)];have hf:eW s.c.qsize.toNat 0 s.q≠0:=fun hc=>h3 ⟨c2,hc⟩;exact X4 _ _ (sG _ _ h.qf) (h.e.push c2 (by rw[w2,bZ (.inl c2)]) w4 (.inl rfl) hf)
 rw[bY c2];by_cases c5:(ab s.l i).st=5
 ·rw[bZ c5,←w3,ke (by have:=hvo'.w;omega)];exact X4 _ _ h.qf (h.e.sl5 c5 (by rw[w2,bY aK]) (by have:=hk.sld;have:=hk.unb;omega))
 rw[bY c5];refine X4 _ _ h.qf (h.e.sl34 aK ?_ w4 aK);rw[w2];split<;>omega
theorem ue {s:Eg} (h:Inv s) {i t:Int}:Inv (dk s i t).1:=by
 unfold dk;split
 ·exact h
 split
 ·exact h
 exact⟨h.cc,h.ck,h.blk,h.cap,h.vo,h.sum,h.led,h.qf,h.pe,by show(s.mg++[_]).length≤_;simp only[cQ,List.length_singleton];omega,h.pt,h.pm,h.cur,h.m,h.e⟩
theorem ti {s:Eg} (h:Inv s) {i a:Int} (ha:0≤a):Inv (dh s i a).1:=by
 unfold dh;split
 ·exact h
 split
 ·exact h
 refine⟨h.cc,h.ck,h.blk,h.cap,h.vo,h.sum,h.led,h.qf,h.pe,h.mg,by show(s.pt++[_]).length≤_;simp only[cQ,List.length_singleton];omega,fun r hr=>?_,h.cur,h.m,h.e⟩;rcases cK.1 hr with hr|hr
 ·exact h.pm r hr
 simp only[cH,cE,or_false] at hr;subst hr;exact ha
theorem lV {e:Int} (he:1≤e∧e≤5) (is:List Int) {l:List V} (hv:∀i,ax l i=true→VO (ab l i)):∀i,ax (is.foldl (fun l i=>evV l i e) l) i=true→VO (ab (is.foldl (fun l i=>evV l i e) l) i):=fun i hi=>by
 rw[xJ (vX he is l).1] at hi;rw[vS he];have:=hv i hi;split
 ·exact⟨this.b,by simp only;omega,this.r,this.x,this.w,this.d⟩
 exact this
theorem vr {W:List Int} {e lim:Int} {q:LL} {m:M} (hW:∀x∈W,0≤x) (hl:0≤lim) (h:m.ok):(Ξ W e lim q m).2.2.ok:=(ld hW hl h).2
theorem qN:∀{l:List V},(∀v∈l,0≤v.bal)→0≤dZ l∧dZ l≤(bx l).sum
 | [],_=>⟨Int.le_refl _,Int.le_refl _⟩
 | v :: l,h=>by
  have ih:=qN (l:=l) fun x hx=>h x (by simp[hx]);have h0:=h v aM;simp only[dZ,bx,cV,dB] at ih ⊢;split<;>omega
theorem jC {a m q:Int} (ha:0≤a) (hm:0≤m):0≤dK a m q:=by
 unfold dK;split
 ·exact hm
 omega
structure Bdy (s:Eg) where
 l1:List V
 l2:List V
 b2:List En
 ag:List As
 l3:List V
 l4:List V
 l5:List V
 f1:l1=s.lv.foldl (fun l i=>evV l i 3) s.l
 f2:Rip s.ep l1 l2 s.bo
 f3:Asg s.ep s.c l2 l3 ag
 f4:∃is:List Int,l4=is.foldl (fun l i=>evV l i 1) l3
 f5:K2 l4 l5
 d1:Mid s.ep s.ep l1 s.q s.bo
 d2:Mid s.ep (s.ep+1) l2 s.q b2
 hl:(dO s).1.l=l5
 ha:(dO s).2=ag
 hs:∃a b:Nat,ag=(s.q.f.take a).map (fun i=>As.mk i 0 (s.ep+1))++(s.q.v.take b).map (fun i=>As.mk i 1 (s.ep+1))∧a≤s.q.f.length∧b≤s.q.v.length∧(0<b→a=s.q.f.length)
theorem Aw {s:Eg} (hcc:chk s.c=0) (hck:s.c.ok) (u6:s.blk≤1000000000) (j5:(s.l.length:Int)≤s.c.capa) (s7:∀i,ax s.l i=true→VO (ab s.l i)) (t6:(bx s.l).sum=s.dep-s.paid-s.burn) (y2:LOk s.c.supc s.dep s.paid s.burn)
  (y8:s.q.f.length≤s.c.qsize.toNat∧s.q.v.length≤s.c.qsize.toNat) (X6:s.pend.length≤s.c.qsize.toNat) (hmg:s.mg.length≤s.c.qsize.toNat) (hpt:s.pt.length≤s.c.qsize.toNat) (hpm:∀r∈s.pt,0≤r.m) (hcur:s.cur≤4096) (hm:s.m.ok) (hE:et (s.ep-1) s.l s.q s.bo s.lv) :
  Nonempty (Bdy s)∧Inv (dO s).1:=by
 have hk:=lL hcc hck;have J9:0≤s.ep∧s.ep≤1000000000:=by have:=AZ s;have:=Aa s;omega
 have d1:Mid s.ep s.ep (s.lv.foldl (fun l i=>evV l i 3) s.l) s.q s.bo:=hE.mid;have v1:=lV (e:=3) aK s.lv s7;have n1:(s.lv.foldl (fun l i=>evV l i 3) s.l).length=s.l.length:=(vX aK _ _).1;have s1:bx (s.lv.foldl (fun l i=>evV l i 3) s.l)=bx s.l:=xR 3 _ _;unfold dO;simp only;generalize hl1:s.lv.foldl (fun l i=>evV l i 3) s.l=l1 at d1 v1 n1 s1 ⊢;obtain⟨f2,d2⟩:=d1.rip J9.1 (VO.z_wd l1 v1);have s2:bx (eQ s.ep (l1,s.bo)).1=bx l1:=qK s.ep _ _;generalize hr:eQ s.ep (l1,s.bo)=r at f2 d2 s2 ⊢;obtain⟨l2,b2⟩:=r;simp only at f2 d2 s2 ⊢;have n2:=f2.len;have v2:∀i,ax l2 i=true→VO (ab l2 i):=fun i hi=>by
  rw[xJ f2.len] at hi;have:=v1 i hi;rw[f2.got];split
  ·exact⟨this.b,aM,this.r,this.x,this.w,this.d⟩
  exact this
 have hWn:∀x∈bx l2,0≤x:=fun x hx=>by
  obtain⟨v,hv,rfl⟩:=cG.1 hx;obtain⟨j,hj,rfl⟩:=wJ hv;exact(v2 j hj).b
 have T1:0≤ee s.c l2:=jC (qN fun v hv=>hWn _ (cG.2 ⟨v,hv,rfl⟩)).1 hck.minch.1;obtain⟨f3,e3⟩:=d2.asg (e:=s.ep) J9.1 (c:=s.c) hk.unb.1 (by have:=hk.unb;omega) (VO.z_wd l2 v2) (bx l2) (ee s.c l2) s.m;have hsh:=wY (bx l2) s.ep (ee s.c l2) s.q s.m;have O3:=qQ (W:=bx l2) (e:=s.ep) (lim:=ee s.c l2) (m:=s.m) y8;have o6:=vr (W:=bx l2) (e:=s.ep) (lim:=ee s.c l2) (q:=s.q) hWn T1 hm;generalize D8:Ξ (bx l2) s.ep (ee s.c l2) s.q s.m=st at f3 e3 hsh O3 o6 ⊢;generalize hfa:st.1.foldl (eJ s.c) (l2,b2,[])=A at f3 e3 ⊢;obtain⟨l3,b3,v3⟩:=A;simp only at f3 e3 ⊢;have v3' : ∀i,ax l3 i=true→VO (ab l3 i):=fun i hi=>by
  rw[xJ f3.len] at hi;have h1:=v2 i hi;have hu:=hk.unb;rw[f3.got];split
  ·exact⟨h1.b,h1.s,h1.r,by simp only[asV];omega,by have:=h1.w;simp only[asV];omega,h1.d⟩
  exact h1
 generalize hac:dd (ee s.c l2) (bx l3) s.pend 0 true=ac;have acl:ac.length≤s.pend.length:=by rw[←hac];exact sT _ _ _ _ _
 have v4:=lV (e:=1) aK ac v3';have n4:(ac.foldl (fun l i=>evV l i 1) l3).length=l3.length:=(vX aK _ _).1;have s4:bx (ac.foldl (fun l i=>evV l i 1) l3)=bx l3:=xR 1 _ _;have m4:=Sm.act ac l3;generalize hl4:ac.foldl (fun l i=>evV l i 1) l3=l4 at v4 n4 s4 m4 ⊢;obtain⟨f5,s5⟩:=K2.runM (c:=s.c) (s.mg.take s.c.merg.toNat) v4;have hE5:=(e3.sm m4).sm f5.sm;generalize hl5:(runM s.c l4 (s.mg.take s.c.merg.toNat)).1=l5 at f5 s5 hE5 ⊢;obtain⟨a,b,g1,g2,g3,g4,g5⟩:=hsh;refine⟨⟨⟨l1,l2,b2,st.1,l3,l4,l5,hl1.symm,f2,f3,⟨ac,hl4.symm⟩,f5,d1,d2,?_,?_,⟨a,b,g1,g2,g3,g4⟩⟩⟩,?_⟩
 ·unfold dO;simp only[hl1,hr,D8,hfa,hac,hl4,hl5]
 ·unfold dO;simp only[hl1,hr,D8]
 refine⟨hcc,hck,u6,by show(l5.length:Int)≤_;rw[f5.len,n4,f3.len,n2,n1];exact j5,f5.vo v4,by show(bx l5).sum=_;rw[s5,s4,f3.bal,s2,s1];exact t6,y2,O3,by show(s.pend.drop _).length≤_;simp only[cS];omega,by show(s.mg.drop _).length≤_;simp only[cS];omega,hpt,hpm,hcur,o6,hE5⟩
theorem gR {s:Eg} (hc:1≤s.c.elen):({ s with blk:=s.blk+1 }:Eg).ep=if(s.blk+1)%s.c.elen.toNat=0 then s.ep+1 else s.ep:=by
 unfold Eg.ep;simp only;have hp:0<s.c.elen.toNat:=by omega
 generalize s.c.elen.toNat=k at hp ⊢;rw[Nat.succ_div];by_cases h:k∣s.blk+1
 ·rw[bZ h,bZ (Nat.mod_eq_zero_of_dvd h)];omega
 rw[bY h,bY (fun hc=>h (Nat.dvd_of_mod_eq_zero hc))];omega
def fC (s:Eg):Eg × List As:=if(s.blk+1)%s.c.elen.toNat=0 then dO { s with blk:=s.blk+1 } else({ s with blk:=s.blk+1 },[])
theorem wH (s:Eg):dg s=((dV (fC s).1).1,⟨7,0,-1,(dV (fC s).1).1.blk,(dV (fC s).1).1.ep,-1,(fC s).2,(dV (fC s).1).2.1,(dV (fC s).1).2.2⟩):=rfl
theorem uX {s:Eg} (h:Inv s) (hb:s.blk<1000000000):Inv (fC s).1∧((s.blk+1)%s.c.elen.toNat=0→Nonempty (Bdy { s with blk:=s.blk+1 })):=by
 have J9:=gR (s:=s) h.cok.elen.1;unfold fC;by_cases hc:(s.blk+1)%s.c.elen.toNat=0
 ·rw[bZ hc] at J9 ⊢;have:=Aw (s:={ s with blk:=s.blk+1 }) h.cc h.ck (by show s.blk+1≤_;omega) h.cap h.vo h.sum h.led h.qf h.pe h.mg h.pt h.pm h.cur h.m (by rw[J9];exact h.e.ep_eq aK);exact⟨this.2,fun _=>this.1⟩
 rw[bY hc] at J9 ⊢;exact⟨⟨h.cc,h.ck,by show s.blk+1≤_;omega,h.cap,h.vo,h.sum,h.led,h.qf,h.pe,h.mg,h.pt,h.pm,h.cur,h.m,by rw[J9];exact h.e⟩,fun h=>absurd h hc⟩
theorem mh {d u:Int}:∀(ps:List Y) (p:Int),(∀y∈ps,0≤y.a)→eG ps≤d-p-u→ps.foldl (fD d u) p=p+eG ps
 | [],p,_,_=>by simp[eG]
 | y :: ps,p,h,hs=>by
  have h0:=h y aM;have h1:0≤eG ps:=xH fun x hx=>by
   obtain⟨z,hz,rfl⟩:=cG.1 hx;exact h z (by simp[hz])
  have e1:eG (y :: ps)=y.a+eG ps:=by simp[eG]
  rw[e1] at hs ⊢;have hb:fD d u p y=p+y.a:=by
   unfold fD dW;rw[bY (show¬d-p-u<y.a by omega),bZ rfl]
  rw[cR,hb,mh ps (p+y.a) (fun z hz=>h z (by simp[hz])) aK];omega
theorem pn {rd:List Bool} {n pays:Nat} (hn:0<n) (hm:n≤4096):∀(k at_:Nat) (paid:List Int) (made:Nat),at_≤4096→(swp rd n pays k at_ paid made).1≤4096
 | 0,_,_,_,h=>h
 | k+1,at_,paid,made,h=>by
  unfold swp;split
  ·exact h
  exact pn hn hm k _ _ _ (by have:=cW (at_%n+1) hn;omega)
theorem jX {at_:Nat} {rd:List Bool} {visits pays:Int} (hm:rd.length≤4096) (h:at_≤4096):(dJ at_ rd visits pays).1≤4096:=by
 unfold dJ;split
 ·exact h
 exact pn aK hm _ _ _ _ h
theorem gU {l:List V} {j:Nat} (h:(l.map fun v=>decide (v.st=5))[j]?=some true):(ab l j).st=5:=by
 rw[List.getElem?_map] at h;obtain⟨v,hv,h1⟩:=cO.1 h;obtain⟨hj,rfl⟩:=List.getElem?_eq_some_iff.1 hv;rw[yK hj];exact bW h1
structure Pay (s:Eg) where
 l1:List V
 ps:List Y
 is:List Int
 f1:K2 s.l l1
 fp:∀y∈ps,0≤y.a∧y.f=false∧ax s.l y.i=true
 nd:is.Nodup
 i5:∀i∈is,(ab l1 i).st=5
 len:(dV s).1.l.length=s.l.length
 got:∀j,ab (dV s).1.l j=if j∈is then { ab l1 j with st:=6,bal:=0 } else ab l1 j
 pay:(dV s).2.1=ps++is.map (fun i=>⟨i,(ab l1 i).bal,true⟩)
theorem qY {s:Eg} (h:Inv s):Nonempty (Pay s)∧Inv (dV s).1∧(dV s).1.ep=s.ep∧(dV s).1.blk=s.blk∧(dV s).1.q=s.q∧(dV s).1.c=s.c:=by
 have hck:=h.ck;have hk:=h.cok;obtain⟨l1,l2,l3,l4,l5,l6⟩:=h.led;have t6:=h.sum;obtain⟨f1,s1,p1⟩:=K2.run (c:=s.c) hck.minb.1 (s.pt.take s.c.parts.toNat) (fun r hr=>h.pm r (cD hr)) h.vo aK;unfold dV;simp only;generalize hr:run s.c s.l (s.pt.take s.c.parts.toNat)=r at f1 s1 p1 ⊢;obtain⟨la,ra⟩:=r;simp only at f1 s1 p1 ⊢;have v1:=f1.vo h.vo;have O3:la.length≤4096:=by have:=f1.len;have:=h.cap;have:=hk.capa;omega
 obtain⟨w1,w2⟩:=rR s.cur (la.map fun v=>decide (v.st=5)) (s.c.vis-((s.pt.take s.c.parts.toNat).length:Nat)) (s.c.pays-((pos ra).length:Nat));have w3:=jX (at_:=s.cur) (rd:=la.map fun v=>decide (v.st=5)) (visits:=s.c.vis-((s.pt.take s.c.parts.toNat).length:Nat)) (pays:=s.c.pays-((pos ra).length:Nat)) (by simpa using O3) h.cur;generalize hw:dJ s.cur (la.map fun v=>decide (v.st=5)) (s.c.vis-((s.pt.take s.c.parts.toNat).length:Nat)) (s.c.pays-((pos ra).length:Nat))=w at w1 w2 w3 ⊢;have i5:∀i∈w.2.1,(ab la i).st=5:=fun i hi=>by
  obtain⟨j,rfl,hj⟩:=w1 i hi;exact gU hj
 have hEa:=h.e.sm f1.sm;obtain⟨g1,g2,g3,g4⟩:=wR (l0:=la) (e:=s.ep) w.2.1 la (pos ra) w2 (fun i hi=>⟨i5 i hi,hEa.rdy i (i5 i hi),rfl⟩);generalize hf:w.2.1.foldl (cx la s.ep) (la,pos ra)=f at g1 g2 g3 g4 ⊢;obtain⟨lf,pf⟩:=f;simp only at g1 g2 g3 g4 ⊢;rw[lX] at g4;have vf:∀i,ax lf i=true→VO (ab lf i):=fun i hi=>by
  rw[xJ g1] at hi;have:=v1 i hi;rw[g2 i];split
  ·exact⟨aM,aM,this.r,this.x,this.w,this.d⟩
  exact this
 have pnn:∀y∈pf,0≤y.a:=fun y hy=>by
  rw[g3] at hy;rcases cK.1 hy with hy|hy
  ·exact(p1 y (List.mem_filter.1 hy).1).1
  obtain⟨i,hi,rfl⟩:=cG.1 hy;exact(v1 i (yL (by have:=i5 i hi;omega))).b
 have hnn:0≤(bx lf).sum:=xH fun x hx=>by
  obtain⟨v,hv,rfl⟩:=cG.1 hx;obtain⟨j,hj,rfl⟩:=wJ hv;exact(vf j hj).b
 have hps:0≤eG pf:=xH fun x hx=>by obtain⟨z,hz,rfl⟩:=cG.1 hx;exact pnn z hz
 have hpaid:=mh (d:=s.dep) (u:=s.burn) pf s.paid pnn aK;have smf:Sm la lf:=Sm.of fun j=>by
  rw[g2 j];split
  ·rename_i hj;have:=i5 j hj
   right;simp only;omega
  exact .inl rfl
 have hEf:=hEa.sm smf;refine⟨⟨⟨la,pos ra,w.2.1,f1,fun y hy=>p1 y (List.mem_filter.1 hy).1,w2,i5,?_,?_,?_⟩⟩,?_,by first|rfl|trivial,by first|rfl|trivial,by first|rfl|trivial,by first|rfl|trivial⟩
 ·unfold dV;simp only[hr,hw,hf];rw[g1,f1.len]
 ·unfold dV;simp only[hr,hw,hf];exact g2
 ·unfold dV;simp only[hr,hw,hf];exact g3
 rw[hpaid];exact⟨h.cc,h.ck,h.blk,by show(lf.length:Int)≤_;rw[g1,f1.len];exact h.cap,vf,by show(bx lf).sum=s.dep-(s.paid+eG pf)-s.burn;omega,⟨by show 0≤s.paid+eG pf;omega,l2,by show s.paid+eG pf+s.burn≤s.dep;omega,l4,by show s.dep-(s.paid+eG pf)-s.burn≤s.c.supc;omega,l6⟩,h.qf,h.pe,h.mg,
  by show(s.pt.drop _).length≤_;have:=h.pt;simp only[cS];omega,fun r hr=>h.pm r (cL hr),w3,h.m,hEf⟩
theorem si {s:Eg} (h:Inv s) (hb:s.blk<1000000000):Inv (dg s).1:=by
 rw[wH];exact(qY (uX h hb).1).2.1
structure OpR (o:Op):Prop where
 a:0≤o.a∧o.a≤18446744073709551615
theorem BO {s:Eg} (h:Inv s) {o:Op} (ho:OpR o):Inv (fF s o).1:=by
 unfold fF;split
 ·exact Ae h ho.a
 split
 ·exact rI h (.inr rfl)
 split
 ·exact rI h (.inl rfl)
 split
 ·exact rB h
 split
 ·exact ue h
 split
 ·exact ti h ho.a.1
 exact h
theorem ou {s:Eg} (h:Inv s) (hb:s.blk<1000000000) {o:Op} (ho:OpR o):Inv (ao s o).1:=by
 unfold ao;split
 ·exact si h hb
 exact BO h ho
theorem tS {c:C} (hc:chk c=0) (hk:c.ok):Inv (Δ c):=by
 have hn:∀i:Int,(ab [] i).st=0:=fun i=>oQ (cY aM);have hm:=yM hc;have he:(Δ c).ep=0:=by unfold Eg.ep Δ;simp
 refine⟨hc,hk,by simp[Δ],by have:=(lL hc hk).capa;simp[Δ];omega,fun i hi=>?_,by simp[Δ,bx],⟨by simp[Δ],by simp[Δ],by simp[Δ],by simp[Δ],by have:=hm.maxd;have:=hm.mind;simp[Δ];omega,by have:=hm.maxd;simp[Δ];omega⟩,by simp[Δ],by simp[Δ],by simp[Δ],by simp[Δ],by simp[Δ],by simp[Δ],Gd,?_⟩
 ·have:=bW hi;simp[Δ] at this;omega
 rw[he];refine⟨by simp[Δ],fun i=>?_,by simp[Δ],fun i=>?_,by simp[Δ],by simp[Δ],fun i=>?_,by simp[Δ],fun i hi=>?_,fun i hi=>?_⟩
 ·have:=hn i;simp[Δ,this]
 ·have:=hn i;simp[Δ,this]
 ·have:=hn i;simp[Δ,this]
 ·have:=hn i;simp only[Δ] at hi;omega
 have:=hn i;simp only[Δ] at hi;omega
end Go.Proofs.YtdddiilocbbkkaaGreat
