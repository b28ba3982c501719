/- Part 16 of the proof of TopModel. No condition. -/
import Derived.Test.YtdddiilocbbkkaaGreatTM15
set_option linter.unusedVariables false
set_option linter.unusedSimpArgs false
namespace Go.Proofs.YtdddiilocbbkkaaGreat
open Go.RowKit Go.Eg
set_option maxHeartbeats 4000000
set_option synthInstance.maxSize 3000
set_option maxRecDepth 100000
theorem Rd.star {w:World} {Ls:List Res} {A:bU} {n k:Nat} {els:List (List Value)} (h:Rd w Ls A n k els):Rd w [.star Ls] A n k els:=⟨h.old,by rw[vR];exact h.away⟩
def okP {σ:Type} (v:V) (_:σ):Prop:=(0<=v.st/\v.st<=7)/\0<=v.bal/\v.bal<=18446744073709551615
theorem kl (s e:Int):0<=nxt s e/\nxt s e<=7:=by
 unfold nxt
 repeat' split
 all_goals omega
theorem oF {e:Nat} {v:V} (h:okP v ()):okP (evR e v).1 ():=by
 unfold evR;split
 ·exact h
 exact⟨kl _ _,h.2⟩
theorem An {b:Int} {c:C} (h:c.pnum<=c.pden):eM b c=b*c.pnum/c.pden:=by unfold eM;rw[bY aK]
theorem wa (b q q2:Nat) (v:V) (c:C) (z:Int) (w:World) (hw:W0 [Res.blk b 52 (V.c v),Res.blk q 24 c.c,Res.blk q2 22 [aJ (z)]] w) (hvb:0<=v.bal/\v.bal<=18446744073709551615) (J5:0<=c.pnum) (S9:1<=c.pden/\c.pden<=4294967296) (hnd:c.pnum<=c.pden):au (ι:=Unit) Tryz.prog 171 [aG b,aG q,aG q2] w [Res.blk b 52 (V.c v),Res.blk q 24 c.c,Res.blk q2 22 [aJ (z)]] (fun x=>True) (fun x=>.int .i64 0) (fun x=>[]) (fun x=>[Res.blk b 52 (V.c { v with bal:=IntKind.u64.wrap (v.bal-eM v.bal c) }),Res.blk q 24 c.c,Res.blk q2 22 [aJ (eM v.bal c)]]):=by
 refine am Tryz.func171 25 hw ?_;refine SZ ?_;refine bn [12] an rfl (Rz ?_);refine dop 8 rfl (zH rfl (fun w1 a6=>oz v.bal c.pnum c.pden w1 hvb J5 S9 hnd) rfl (rn [23,9,2,23,10,40,24,11,40] ?_));refine dop 12 rfl (zI rfl rfl rfl rfl rfl rfl rfl ?_);refine zF (b:=q2) [aJ (eM v.bal c)] (by rw[An hnd];rfl) (rn [28,7,8] ?_);refine bn [8] an rfl (rn [23,0,2,23,1,6,23,2,4,23,3,5,23,4,5,23,5,57,24,6,6,23,7,4] ?_);refine dop 8 rfl (zI rfl rfl rfl rfl rfl rfl rfl ?_);refine zF (b:=b) (V.c { v with bal:=IntKind.u64.wrap (v.bal-eM v.bal c) }) (by simp[ay,V.c]) (rn [28,7,1,3,0,11] ?_);exact dD rfl rfl fun w' a5=>⟨(),aQ,rfl,zA w' a5⟩
theorem BP (v:V) (e:Int) (a b:List Value):dS ([⟨243,a,fun v _=>((acR e v).1,(acR e v).2,())⟩,⟨248,b,fun v _=>((evR 2 v).1,(evR 2 v).2,())⟩]:List (Chg Unit)) v ()=((cy v e).1,(cy v e).2,()):=by
 unfold cy;by_cases h1:eN [e]=false
 ·rw[bZ h1];simp[dS,acR,h1]
 rw[bY h1];by_cases h2:nxt v.st 2=0
 ·rw[bZ h2];simp[dS,acR,evR,h1,h2]
 rw[bY h2];simp[dS,acR,evR,h1,h2]
theorem rN (v:V) (e:Int) (w:World) (he:I64 e) (i6:okP v ()):Pur Tryz.prog 166 [v.v,aH e] w (.tuple [V.v (cy v e).1,aH (cy v e).2].toArray):=by
 refine am Tryz.func166 15 (WOK.start [] _) ?_;refine Ri ?_;refine aa (aq (c:=V.c v) rfl rfl rfl fun b2=>?_);refine aa (aq rfl rfl rfl fun b3=>?_);refine aa (zK rfl fun b4=>rn [3,0,1,52,3,0,8] ?_);refine bn [7] an rfl (rn [23,0,45,23,1,2] ?_);refine dop 2 rfl (zJ [] rfl (fun w1 a6 a8=>by have h7:=uO (2) w1;exact h7) rfl ?_);rintro t4 _;refine ii ?_;refine dop 3 rfl (bg rfl rfl rfl rfl rfl fun p5=>?_);refine zF (b:=p5) [Value.func (.func 243) #[] [aG b3].toArray,Value.func (.func 248) #[] [aG t4].toArray] rfl ?_;refine dop 4 rfl (zJ _ rfl (fun w1 a6 a8=>by
  have h7:=au.unstar (Ls:=[Res.blk b3 3 [aH (e)],Res.blk t4 3 [aH (2)]]) (Ls1:=fun _=>[Res.blk b3 3 [aH (e)],Res.blk t4 3 [aH (2)]]) (fun u2=>xN (fun z9:Unit=>Res.star [Res.blk b3 3 [aH (e)],Res.blk t4 3 [aH (2)]]) okP ([(⟨243,[aG b3],fun v _=>((acR e v).1,(acR e v).2,())⟩:Chg Unit),(⟨248,[aG t4],fun v _=>((evR 2 v).1,(evR 2 v).2,())⟩:Chg Unit)]:List (Chg Unit)) v () p5 w1 u2 (by
   intro c9 p4;simp only[cH,cE,or_false] at p4;rcases p4 with rfl|rfl
   · exact⟨aL,fun v9 s9 h9 h0=>(by show okP (acR e v9).1 ();unfold acR;split<;>exact h9),fun b9 v9 s9 w9 B4 h9=>Chg.go_of B4 inferInstance inferInstance (fun w8 H6=>BQ b9 b3 v9 e w8 H6 he)⟩
   · exact⟨aL,fun v9 s9 h9 h0=>oF h9,fun b9 v9 s9 w9 B4 h9=>Chg.go_of B4 inferInstance inferInstance (fun w8 H6=>lF b9 t4 v9 2 w8 H6 aO h9.1)⟩) i6 (Rd.star (Rd.ofBlk (b:=p5) (T:=285) (c:=[Value.func (.func 243) #[] [aG b3].toArray,Value.func (.func 248) #[] [aG t4].toArray]) a6 rfl aM rfl)) aM) a8
  exact h7) rfl ?_)
 rintro⟨⟩ _;refine ii (rn [23,5,40,23,6,40] ?_);refine dop 7 rfl (zT rfl rfl rfl rfl rfl (rn [24,8,3,28,7,11] ?_));exact dH rfl (.cellw rfl rfl) (.tmp rfl) fun w' a5=>⟨by rw[←show(dS _ v ()).1=(cy v e).1 from by rw[BP v e [aG b3] [aG t4]],←show(dS _ v ()).2.1=(cy v e).2 from by rw[BP v e [aG b3] [aG t4]]];rfl,a5.upd⟩
theorem BD (v:V) (e:Int) (c:C) (a b:List Value):dS ([⟨281,a,fun v _=>((asR e v).1,(asR e v).2,())⟩,⟨249,b,fun v _=>((dlR e c.unb v).1,(dlR e c.unb v).2,())⟩]:List (Chg Unit)) v ()=((eS v e c).1,(eS v e c).2,()):=by
 unfold eS;by_cases h1:v.st≠3\/v.ex≠-1
 ·rw[bZ h1];have hr:asR e v=(v,8):=bZ h1;simp[dS,hr]
 rw[bY h1];have hr:asR e v=({ v with ex:=e },0):=bY h1;by_cases h2:eN [e,c.unb]=false
 ·rw[bZ h2];simp[dS,hr,dlR,h2]
 rw[bY h2];simp[dS,hr,dlR,h2]
theorem jI (v:V) (e:Int) (c:C) (w:World) (he:I64 e) (hd:I64 c.unb) (i6:okP v ()):Pur Tryz.prog 230 [v.v,aH e,c.v] w (.tuple [V.v (eS v e c).1,aH (eS v e c).2].toArray):=by
 refine am Tryz.func230 20 (WOK.start [] _) ?_;refine Ri ?_;refine aa (aq (c:=V.c v) rfl rfl rfl fun b3=>?_);refine aa (aq rfl rfl rfl fun b4=>?_);refine aa (aq (c:=C.c c) rfl rfl rfl fun b5=>?_);refine aa (zK rfl fun b6=>rn [3,0,1,52,3,0,8] ?_);refine bn [10] an rfl (rn [23,0,45,23,1,2,23,2,5,23,3,4,23,4,5] ?_);refine dop 5 rfl (zJ [] rfl (fun w1 a6 a8=>by have h7:=sO (e) (c.unb) w1;exact h7) rfl ?_);rintro⟨s6,Y7⟩ _;refine ii ?_;refine dop 6 rfl (bg rfl rfl rfl rfl rfl fun I2=>?_);refine zF (b:=I2) [Value.func (.func 281) #[] [aG b4].toArray,Value.func (.func 249) #[] [aG s6,aG Y7].toArray] rfl ?_;refine dop 7 rfl (zJ _ rfl (fun w1 a6 a8=>by
  have h7:=au.unstar (Ls:=[Res.blk b4 3 [aH (e)],Res.blk s6 3 [aH (e)],Res.blk Y7 3 [aH (c.unb)]]) (Ls1:=fun _=>[Res.blk b4 3 [aH (e)],Res.blk s6 3 [aH (e)],Res.blk Y7 3 [aH (c.unb)]]) (fun u2=>xN (fun z9:Unit=>Res.star [Res.blk b4 3 [aH (e)],Res.blk s6 3 [aH (e)],Res.blk Y7 3 [aH (c.unb)]]) okP ([(⟨281,[aG b4],fun v _=>((asR e v).1,(asR e v).2,())⟩:Chg Unit),(⟨249,[aG s6,aG Y7],fun v _=>((dlR e c.unb v).1,(dlR e c.unb v).2,())⟩:Chg Unit)]:List (Chg Unit)) v () I2 w1 u2 (by
   intro c9 p4;simp only[cH,cE,or_false] at p4;rcases p4 with rfl|rfl
   · exact⟨aL,fun v9 s9 h9 h0=>(by show okP (asR e v9).1 ();unfold asR;split<;>exact h9),fun b9 v9 s9 w9 B4 h9=>Chg.go_of B4 inferInstance inferInstance (fun w8 H6=>BE b9 b4 v9 e w8 H6)⟩
   · exact⟨aL,fun v9 s9 h9 h0=>(by show okP (dlR e c.unb v9).1 ();unfold dlR;split<;>exact h9),fun b9 v9 s9 w9 B4 h9=>Chg.go_of B4 inferInstance inferInstance (fun w8 H6=>nK b9 s6 Y7 v9 e c.unb w8 H6 he hd)⟩) i6 (Rd.star (Rd.ofBlk (b:=I2) (T:=285) (c:=[Value.func (.func 281) #[] [aG b4].toArray,Value.func (.func 249) #[] [aG s6,aG Y7].toArray]) a6 rfl aM rfl)) aM) a8
  exact h7) rfl ?_)
 rintro⟨⟩ _;refine ii (rn [23,8,40,23,9,40] ?_);refine dop 10 rfl (zT rfl rfl rfl rfl rfl (rn [24,11,3,28,7,11] ?_));exact dH rfl (.cellw rfl rfl) (.tmp rfl) fun w' a5=>⟨by rw[←show(dS _ v ()).1=(eS v e c).1 from by rw[BD v e c [aG b4] [aG s6,aG Y7]],←show(dS _ v ()).2.1=(eS v e c).2 from by rw[BD v e c [aG b4] [aG s6,aG Y7]]];rfl,a5.upd⟩
theorem tO (v:V) (e:Int) (a b:List Value):dS ([⟨248,a,fun v _=>((evR 5 v).1,(evR 5 v).2,())⟩,⟨240,b,fun v _=>((duR e v).1,(duR e v).2,())⟩]:List (Chg Unit)) v ()=((db v e).1,(db v e).2.2,()):=by
 unfold db;by_cases h1:nxt v.st 5=0
 ·rw[bZ h1];simp[dS,evR,h1]
 rw[bY h1];by_cases h2:e<v.wd
 ·rw[bZ h2];simp[dS,evR,duR,h1,h2]
 rw[bY h2];simp[dS,evR,duR,h1,h2]
theorem gV (v:V) (e:Int):(db v e).2.1=if(db v e).2.2=0 then v.bal else 0:=by
 unfold db
 repeat' split
 all_goals simp_all
theorem iV (v:V) (e:Int) (w:World) (i6:okP v ()):Pur Tryz.prog 160 [v.v,aH e] w (.tuple [V.v (db v e).1,aJ (db v e).2.1,aH (db v e).2.2].toArray):=by
 refine am Tryz.func160 26 (WOK.start [] _) ?_;refine Ri ?_;refine aa (aq (c:=V.c v) rfl rfl rfl fun b2=>?_);refine aa (aq rfl rfl rfl fun b3=>?_);refine aa (zK rfl fun b4=>rn [3,3,0,1,52,3] ?_);have G0:∀(j3:Nat),∀c9∈([(⟨248,[aG j3],fun v _=>((evR 5 v).1,(evR 5 v).2,())⟩:Chg Unit),(⟨240,[aG b3],fun v _=>((duR e v).1,(duR e v).2,())⟩:Chg Unit)]:List (Chg Unit)),c9.OK (fun z9:Unit=>Res.star [Res.blk j3 3 [aH (5)],Res.blk b3 3 [aH (e)]]) okP:=fun j3=>(by
   intro c9 p4;simp only[cH,cE,or_false] at p4;rcases p4 with rfl|rfl
   · exact⟨aL,fun v9 s9 h9 h0=>oF h9,fun b9 v9 s9 w9 B4 h9=>Chg.go_of B4 inferInstance inferInstance (fun w8 H6=>lF b9 j3 v9 5 w8 H6 aO h9.1)⟩
   · exact⟨aL,fun v9 s9 h9 h0=>(by show okP (duR e v9).1 ();unfold duR;split;exact h9;exact⟨h9.1,aM⟩),fun b9 v9 s9 w9 B4 h9=>Chg.go_of B4 inferInstance inferInstance (fun w8 H6=>yy b9 b3 v9 e w8 H6)⟩)
 refine Sw ?_;refine bn [9] an rfl (rn [23,0,45,23,2,2] ?_);refine dj [2,4,5,6] (fun(x:Nat)=>[(8,aG x),(9,aH (db v e).2.2)]) (fun(x:Nat)=>[Res.blk x 52 (V.c (db v e).1),Res.blk b2 52 (V.c v),Res.blk b4 52 [aJ 0,aH 0,.bool false,aH 0,aH 0,aH 0,aH 0]]) ?_ ?_
 ·refine yJ [1,8] aL aM zG ⟨bu rfl (zJ [] rfl (fun w1 a6 a8=>by have h7:=uO (5) w1;exact h7) rfl ?_),bu rfl (zK rfl fun b8=>?_),trivial⟩
  ·rintro j3 _;refine ii ?_;refine yJ [3,8] aL aM zG ⟨bu rfl (bg rfl rfl rfl rfl rfl fun s6=>?_),bu rfl (zK rfl fun b8=>?_),trivial⟩
   ·refine zF (b:=s6) [Value.func (.func 248) #[] [aG j3].toArray,Value.func (.func 240) #[] [aG b3].toArray] rfl ?_;refine yJ [4,8] aL aM zG ⟨bu rfl (zJ _ rfl (fun w1 a6 a8=>by
     have h7:=au.unstar (Ls:=[Res.blk j3 3 [aH (5)],Res.blk b3 3 [aH (e)]]) (Ls1:=fun _=>[Res.blk j3 3 [aH (5)],Res.blk b3 3 [aH (e)]]) (fun u2=>xN (fun z9:Unit=>Res.star [Res.blk j3 3 [aH (5)],Res.blk b3 3 [aH (e)]]) okP ([(⟨248,[aG j3],fun v _=>((evR 5 v).1,(evR 5 v).2,())⟩:Chg Unit),(⟨240,[aG b3],fun v _=>((duR e v).1,(duR e v).2,())⟩:Chg Unit)]:List (Chg Unit)) v () s6 w1 u2 (G0 j3) i6 (Rd.star (Rd.ofBlk (b:=s6) (T:=285) (c:=[Value.func (.func 248) #[] [aG j3].toArray,Value.func (.func 240) #[] [aG b3].toArray]) a6 rfl aM rfl)) aM) a8;exact h7) rfl ?_),bu rfl (zK rfl fun b8=>?_),trivial⟩
    ·rintro⟨⟩ _;refine ii (rn [23,5,2,23,6,40] ?_);refine ae 17 (v' := V.v (db v e).1) rfl (by rw[tO v e [aG j3] [aG b3]]) (rn [24,7,40] ?_);refine ae 18 (v' := aH (db v e).2.2) rfl (by rw[tO v e [aG j3] [aG b3]]) ?_;refine dop 8 rfl (zK rfl fun b8=>?_);refine dop 9 rfl (zT rfl rfl rfl rfl rfl (rn [24,10,3,28] ?_));exact eL b8
    refine dop 4 rfl (zJ _ rfl (fun w1 a6 a8=>by
     have h7:=au.unstar (Ls:=[Res.blk j3 3 [aH (5)],Res.blk b3 3 [aH (e)]]) (Ls1:=fun _=>[Res.blk j3 3 [aH (5)],Res.blk b3 3 [aH (e)]]) (fun u2=>xN (fun z9:Unit=>Res.star [Res.blk j3 3 [aH (5)],Res.blk b3 3 [aH (e)]]) okP ([(⟨248,[aG j3],fun v _=>((evR 5 v).1,(evR 5 v).2,())⟩:Chg Unit),(⟨240,[aG b3],fun v _=>((duR e v).1,(duR e v).2,())⟩:Chg Unit)]:List (Chg Unit)) v () s6 w1 u2 (G0 j3) i6 (Rd.star (Rd.ofBlk (b:=s6) (T:=285) (c:=[Value.func (.func 248) #[] [aG j3].toArray,Value.func (.func 240) #[] [aG b3].toArray]) a6 rfl aM rfl)) aM) a8;exact h7) rfl ?_)
    rintro⟨⟩ _;refine ii (rn [23,5,2,23,6,40] ?_);refine ae 17 (v' := V.v (db v e).1) rfl (by rw[tO v e [aG j3] [aG b3]]) (rn [24,7,40] ?_);refine ae 18 (v' := aH (db v e).2.2) rfl (by rw[tO v e [aG j3] [aG b3]]) ?_;refine dop 9 rfl (zT rfl rfl rfl rfl rfl (rn [24,10,3,28] ?_));exact eL b8
   refine dop 3 rfl (bg rfl rfl rfl rfl rfl fun s6=>?_);refine zF (b:=s6) [Value.func (.func 248) #[] [aG j3].toArray,Value.func (.func 240) #[] [aG b3].toArray] rfl ?_;refine dop 4 rfl (zJ _ rfl (fun w1 a6 a8=>by
    have h7:=au.unstar (Ls:=[Res.blk j3 3 [aH (5)],Res.blk b3 3 [aH (e)]]) (Ls1:=fun _=>[Res.blk j3 3 [aH (5)],Res.blk b3 3 [aH (e)]]) (fun u2=>xN (fun z9:Unit=>Res.star [Res.blk j3 3 [aH (5)],Res.blk b3 3 [aH (e)]]) okP ([(⟨248,[aG j3],fun v _=>((evR 5 v).1,(evR 5 v).2,())⟩:Chg Unit),(⟨240,[aG b3],fun v _=>((duR e v).1,(duR e v).2,())⟩:Chg Unit)]:List (Chg Unit)) v () s6 w1 u2 (G0 j3) i6 (Rd.star (Rd.ofBlk (b:=s6) (T:=285) (c:=[Value.func (.func 248) #[] [aG j3].toArray,Value.func (.func 240) #[] [aG b3].toArray]) a6 rfl aM rfl)) aM) a8;exact h7) rfl ?_)
   rintro⟨⟩ _;refine ii (rn [23,5,2,23,6,40] ?_);refine ae 17 (v' := V.v (db v e).1) rfl (by rw[tO v e [aG j3] [aG b3]]) (rn [24,7,40] ?_);refine ae 18 (v' := aH (db v e).2.2) rfl (by rw[tO v e [aG j3] [aG b3]]) ?_;refine dop 9 rfl (zT rfl rfl rfl rfl rfl (rn [24,10,3,28] ?_));exact eL b8
  refine dop 1 rfl (zJ [] rfl (fun w1 a6 a8=>by have h7:=uO (5) w1;exact h7) rfl ?_);rintro j3 _;refine ii ?_;refine dop 3 rfl (bg rfl rfl rfl rfl rfl fun s6=>?_);refine zF (b:=s6) [Value.func (.func 248) #[] [aG j3].toArray,Value.func (.func 240) #[] [aG b3].toArray] rfl ?_;refine dop 4 rfl (zJ _ rfl (fun w1 a6 a8=>by
   have h7:=au.unstar (Ls:=[Res.blk j3 3 [aH (5)],Res.blk b3 3 [aH (e)]]) (Ls1:=fun _=>[Res.blk j3 3 [aH (5)],Res.blk b3 3 [aH (e)]]) (fun u2=>xN (fun z9:Unit=>Res.star [Res.blk j3 3 [aH (5)],Res.blk b3 3 [aH (e)]]) okP ([(⟨248,[aG j3],fun v _=>((evR 5 v).1,(evR 5 v).2,())⟩:Chg Unit),(⟨240,[aG b3],fun v _=>((duR e v).1,(duR e v).2,())⟩:Chg Unit)]:List (Chg Unit)) v () s6 w1 u2 (G0 j3) i6 (Rd.star (Rd.ofBlk (b:=s6) (T:=285) (c:=[Value.func (.func 248) #[] [aG j3].toArray,Value.func (.func 240) #[] [aG b3].toArray]) a6 rfl aM rfl)) aM) a8;exact h7) rfl ?_)
  rintro⟨⟩ _;refine ii (rn [23,5,2,23,6,40] ?_);refine ae 17 (v' := V.v (db v e).1) rfl (by rw[tO v e [aG j3] [aG b3]]) (rn [24,7,40] ?_);refine ae 18 (v' := aH (db v e).2.2) rfl (by rw[tO v e [aG j3] [aG b3]]) ?_;refine dop 9 rfl (zT rfl rfl rfl rfl rfl (rn [24,10,3,28] ?_));exact eL b8
 rintro b8;refine rn [7,8,1,2,51,0] ?_;refine zB rfl (fun h1=>?_) (fun h1=>?_)
 ·have hc:¬(db v e).2.2=0:=by simpa using h1
  refine rn [1,45,2,33,3,3,0,11,13] ?_;exact dI rfl (.cellw rfl rfl) (.tmp rfl) (.tmp rfl) fun w' a5=>⟨by rw[gV,bY hc];rfl,a5.upd⟩
 have hc:(db v e).2.2=0:=by simpa using h1
 refine RM ?_;refine bn [0,2,3] an rfl (rn [24,1,4] ?_);refine yJ [0,2] aL aM zG ⟨bu rfl (G.quiet (xT rfl rfl) rfl ?_),bu rfl (G.quiet (vO rfl rfl) rfl ?_),trivial⟩
 ·refine yJ [2,3] aL aM zG ⟨bu rfl (G.quiet (vO rfl rfl) rfl ?_),bu rfl (zT rfl rfl rfl rfl rfl ?_),trivial⟩
  ·refine fJ 3 rfl (zT rfl rfl rfl rfl rfl (Si ?_));exact dI rfl (.cellw rfl rfl) (.tmp rfl) (.tmp rfl) fun w' a5=>⟨by rw[gV,bZ hc,hc];rfl,a5.upd⟩
  refine fJ 2 rfl (G.quiet (vO rfl rfl) rfl (Si ?_));exact dI rfl (.cellw rfl rfl) (.tmp rfl) (.tmp rfl) fun w' a5=>⟨by rw[gV,bZ hc,hc];rfl,a5.upd⟩
 refine fJ 0 rfl (G.quiet (xT rfl rfl) rfl ?_);refine fJ 3 rfl (zT rfl rfl rfl rfl rfl (Si ?_));exact dI rfl (.cellw rfl rfl) (.tmp rfl) (.tmp rfl) fun w' a5=>⟨by rw[gV,bZ hc,hc];rfl,a5.upd⟩
theorem wC (v:V) (e:Int) (c:C) (a1 a2 a3 a4:List Value):dS ([⟨170,a1,fun v s=>((mkR e v).1,(mkR e v).2,s)⟩,⟨248,a2,fun v s=>((evR 7 v).1,(evR 7 v).2,s)⟩,⟨249,a3,fun v s=>((dlR e c.sld v).1,(dlR e c.sld v).2,s)⟩,⟨171,a4,fun v _=>((buR c v).1,0,(buR c v).2)⟩]:List (Chg Int)) v 0=((bh v e c).1,(bh v e c).2.2,(bh v e c).2.1):=by
 unfold bh;by_cases h1:v.sl=true
 ·rw[bZ h1];simp[dS,mkR,h1]
 rw[bY h1];by_cases h2:nxt v.st 7=0
 ·rw[bZ h2];simp[dS,mkR,evR,h1,h2]
 rw[bY h2];by_cases h3:eN [e,c.sld]=false
 ·rw[bZ h3];simp[dS,mkR,evR,dlR,h1,h2,h3]
 rw[bY h3];simp[dS,mkR,evR,dlR,buR,h1,h2,h3]
theorem qR (v:V) (e:Int) (c:C) (w:World) (he:I64 e) (hd:I64 c.sld) (i6:okP v ()) (J5:0<=c.pnum) (S9:1<=c.pden/\c.pden<=4294967296) (hnd:c.pnum<=c.pden):Pur Tryz.prog 111 [v.v,aH e,c.v] w (.tuple [V.v (bh v e c).1,aJ (bh v e c).2.1,aH (bh v e c).2.2].toArray):=by
 refine am Tryz.func111 32 (WOK.start [] _) ?_;refine Ri ?_;refine aa (aq (c:=V.c v) rfl rfl rfl fun b3=>?_);refine aa (aq rfl rfl rfl fun b4=>?_);refine aa (aq (c:=C.c c) rfl rfl rfl fun b5=>?_);refine aa (zK rfl fun b6=>rn [3,3,0,1] ?_);refine aa (zK rfl fun bz=>rn [0,1,52,3,0,1,52,3] ?_);have G0:∀(j2 m0 o0:Nat),∀c9∈([(⟨170,[aG b4],fun v s=>((mkR e v).1,(mkR e v).2,s)⟩:Chg Int),(⟨248,[aG j2],fun v s=>((evR 7 v).1,(evR 7 v).2,s)⟩:Chg Int),(⟨249,[aG m0,aG o0],fun v s=>((dlR e c.sld v).1,(dlR e c.sld v).2,s)⟩:Chg Int),(⟨171,[aG b5,aG bz],fun v _=>((buR c v).1,0,(buR c v).2)⟩:Chg Int)]:List (Chg Int)),c9.OK (fun z9:Int=>Res.star [Res.blk b4 3 [aH (e)],Res.blk j2 3 [aH (7)],Res.blk m0 3 [aH (e)],Res.blk o0 3 [aH (c.sld)],Res.blk b5 24 c.c,Res.blk bz 22 [aJ (z9)]]) okP:=fun j2 m0 o0=>(by
   intro c9 p4;simp only[cH,cE,or_false] at p4;rcases p4 with rfl|rfl|rfl|rfl
   · exact⟨aL,fun v9 s9 h9 h0=>(by show okP (mkR e v9).1 s9;unfold mkR;split<;>exact h9),fun b9 v9 s9 w9 B4 h9=>Chg.go_of B4 inferInstance inferInstance (fun w8 H6=>we b9 b4 v9 e w8 H6)⟩
   · exact⟨aL,fun v9 s9 h9 h0=>oF (v:=v9) h9,fun b9 v9 s9 w9 B4 h9=>Chg.go_of B4 inferInstance inferInstance (fun w8 H6=>lF b9 j2 v9 7 w8 H6 aO h9.1)⟩
   · exact⟨aL,fun v9 s9 h9 h0=>(by show okP (dlR e c.sld v9).1 s9;unfold dlR;split<;>exact h9),fun b9 v9 s9 w9 B4 h9=>Chg.go_of B4 inferInstance inferInstance (fun w8 H6=>nK b9 m0 o0 v9 e c.sld w8 H6 he hd)⟩
   · exact⟨aL,fun v9 s9 h9 h0=>⟨h9.1,by unfold buR;simp only[cF];omega⟩,fun b9 v9 s9 w9 B4 h9=>Chg.go_of B4 inferInstance inferInstance (fun w8 H6=>wa b9 b5 bz v9 c s9 w8 H6 h9.2 J5 S9 hnd)⟩)
 refine Sw ?_;refine dR (L0:=[Res.blk b3 52 (V.c v),Res.blk b4 3 [aH (e)],Res.blk b5 24 c.c]) [14] an rfl zG (rn [23,0,45,23,1,2,23,3,5,23,4,4,23,5,5,23,7,2] ?_);refine dj [6,7,8,9] (fun(x:Nat)=>[(12,aG x),(13,aH (bh v e c).2.2)]) (fun(x:Nat)=>[Res.blk x 52 (V.c (bh v e c).1),Res.blk bz 22 [aJ (bh v e c).2.1],Res.blk b6 52 [aJ 0,aH 0,.bool false,aH 0,aH 0,aH 0,aH 0]]) ?_ ?_
 ·refine yJ [2,13] aL aM zG ⟨bu rfl (zJ [] rfl (fun w1 a6 a8=>by have h7:=uO (7) w1;exact h7) rfl ?_),bu rfl (zK rfl fun w7=>?_),trivial⟩
  ·rintro j2 _;refine ii ?_;refine yJ [6,13] aL aM zG ⟨bu rfl (zJ [] rfl (fun w1 a6 a8=>by have h7:=sO (e) (c.sld) w1;exact h7) rfl ?_),bu rfl (zK rfl fun w7=>?_),trivial⟩
   ·rintro⟨m0,o0⟩ _;refine ii ?_;refine yJ [8,13] aL aM zG ⟨bu rfl (bg rfl rfl rfl rfl rfl fun E2=>?_),bu rfl (zK rfl fun w7=>?_),trivial⟩
    ·refine zF (b:=E2) [Value.func (.func 170) #[] [aG b4].toArray,Value.func (.func 248) #[] [aG j2].toArray,Value.func (.func 249) #[] [aG m0,aG o0].toArray,Value.func (.func 171) #[] [aG b5,aG bz].toArray] rfl ?_;refine yJ [9,13] aL aM zG ⟨bu rfl (zJ _ rfl (fun w1 a6 a8=>by
      have h7:=au.unstar (Ls:=[Res.blk b4 3 [aH (e)],Res.blk j2 3 [aH (7)],Res.blk m0 3 [aH (e)],Res.blk o0 3 [aH (c.sld)],Res.blk b5 24 c.c,Res.blk bz 22 [aJ (0)]]) (Ls1:=fun _=>[Res.blk b4 3 [aH (e)],Res.blk j2 3 [aH (7)],Res.blk m0 3 [aH (e)],Res.blk o0 3 [aH (c.sld)],Res.blk b5 24 c.c,Res.blk bz 22 [aJ ((dS ([(⟨170,[aG b4],fun v s=>((mkR e v).1,(mkR e v).2,s)⟩:Chg Int),(⟨248,[aG j2],fun v s=>((evR 7 v).1,(evR 7 v).2,s)⟩:Chg Int),(⟨249,[aG m0,aG o0],fun v s=>((dlR e c.sld v).1,(dlR e c.sld v).2,s)⟩:Chg Int),(⟨171,[aG b5,aG bz],fun v _=>((buR c v).1,0,(buR c v).2)⟩:Chg Int)]:List (Chg Int)) v 0).2.2)]]) (fun u2=>xN (fun z9:Int=>Res.star [Res.blk b4 3 [aH (e)],Res.blk j2 3 [aH (7)],Res.blk m0 3 [aH (e)],Res.blk o0 3 [aH (c.sld)],Res.blk b5 24 c.c,Res.blk bz 22 [aJ (z9)]]) okP ([(⟨170,[aG b4],fun v s=>((mkR e v).1,(mkR e v).2,s)⟩:Chg Int),(⟨248,[aG j2],fun v s=>((evR 7 v).1,(evR 7 v).2,s)⟩:Chg Int),(⟨249,[aG m0,aG o0],fun v s=>((dlR e c.sld v).1,(dlR e c.sld v).2,s)⟩:Chg Int),(⟨171,[aG b5,aG bz],fun v _=>((buR c v).1,0,(buR c v).2)⟩:Chg Int)]:List (Chg Int)) v 0 E2 w1 u2 (G0 j2 m0 o0) i6 (Rd.star (Rd.ofBlk (b:=E2) (T:=285) (c:=[Value.func (.func 170) #[] [aG b4].toArray,Value.func (.func 248) #[] [aG j2].toArray,Value.func (.func 249) #[] [aG m0,aG o0].toArray,Value.func (.func 171) #[] [aG b5,aG bz].toArray]) a6 rfl aM rfl)) aM) a8;exact h7) rfl ?_),bu rfl (zK rfl fun w7=>?_),trivial⟩
     ·rintro⟨⟩ _;refine ii ?_;refine zF (b:=bz) [aJ (bh v e c).2.1] (by rw[wC v e c [aG b4] [aG j2] [aG m0,aG o0] [aG b5,aG bz]]) (rn [23,10,2,23,11,40] ?_);refine ae 27 (v' := V.v (bh v e c).1) rfl (by rw[wC v e c [aG b4] [aG j2] [aG m0,aG o0] [aG b5,aG bz]]) (rn [24,12,40] ?_);refine ae 28 (v' := aH (bh v e c).2.2) rfl (by rw[wC v e c [aG b4] [aG j2] [aG m0,aG o0] [aG b5,aG bz]]) ?_;refine dop 13 rfl (zK rfl fun w7=>?_);refine dop 14 rfl (zT rfl rfl rfl rfl rfl (rn [24,15,3,28] ?_));exact eL w7
     refine dop 9 rfl (zJ _ rfl (fun w1 a6 a8=>by
      have h7:=au.unstar (Ls:=[Res.blk b4 3 [aH (e)],Res.blk j2 3 [aH (7)],Res.blk m0 3 [aH (e)],Res.blk o0 3 [aH (c.sld)],Res.blk b5 24 c.c,Res.blk bz 22 [aJ (0)]]) (Ls1:=fun _=>[Res.blk b4 3 [aH (e)],Res.blk j2 3 [aH (7)],Res.blk m0 3 [aH (e)],Res.blk o0 3 [aH (c.sld)],Res.blk b5 24 c.c,Res.blk bz 22 [aJ ((dS ([(⟨170,[aG b4],fun v s=>((mkR e v).1,(mkR e v).2,s)⟩:Chg Int),(⟨248,[aG j2],fun v s=>((evR 7 v).1,(evR 7 v).2,s)⟩:Chg Int),(⟨249,[aG m0,aG o0],fun v s=>((dlR e c.sld v).1,(dlR e c.sld v).2,s)⟩:Chg Int),(⟨171,[aG b5,aG bz],fun v _=>((buR c v).1,0,(buR c v).2)⟩:Chg Int)]:List (Chg Int)) v 0).2.2)]]) (fun u2=>xN (fun z9:Int=>Res.star [Res.blk b4 3 [aH (e)],Res.blk j2 3 [aH (7)],Res.blk m0 3 [aH (e)],Res.blk o0 3 [aH (c.sld)],Res.blk b5 24 c.c,Res.blk bz 22 [aJ (z9)]]) okP ([(⟨170,[aG b4],fun v s=>((mkR e v).1,(mkR e v).2,s)⟩:Chg Int),(⟨248,[aG j2],fun v s=>((evR 7 v).1,(evR 7 v).2,s)⟩:Chg Int),(⟨249,[aG m0,aG o0],fun v s=>((dlR e c.sld v).1,(dlR e c.sld v).2,s)⟩:Chg Int),(⟨171,[aG b5,aG bz],fun v _=>((buR c v).1,0,(buR c v).2)⟩:Chg Int)]:List (Chg Int)) v 0 E2 w1 u2 (G0 j2 m0 o0) i6 (Rd.star (Rd.ofBlk (b:=E2) (T:=285) (c:=[Value.func (.func 170) #[] [aG b4].toArray,Value.func (.func 248) #[] [aG j2].toArray,Value.func (.func 249) #[] [aG m0,aG o0].toArray,Value.func (.func 171) #[] [aG b5,aG bz].toArray]) a6 rfl aM rfl)) aM) a8;exact h7) rfl ?_)
     rintro⟨⟩ _;refine ii ?_;refine zF (b:=bz) [aJ (bh v e c).2.1] (by rw[wC v e c [aG b4] [aG j2] [aG m0,aG o0] [aG b5,aG bz]]) (rn [23,10,2,23,11,40] ?_);refine ae 27 (v' := V.v (bh v e c).1) rfl (by rw[wC v e c [aG b4] [aG j2] [aG m0,aG o0] [aG b5,aG bz]]) (rn [24,12,40] ?_);refine ae 28 (v' := aH (bh v e c).2.2) rfl (by rw[wC v e c [aG b4] [aG j2] [aG m0,aG o0] [aG b5,aG bz]]) ?_;refine dop 14 rfl (zT rfl rfl rfl rfl rfl (rn [24,15,3,28] ?_));exact eL w7
    refine dop 8 rfl (bg rfl rfl rfl rfl rfl fun E2=>?_);refine zF (b:=E2) [Value.func (.func 170) #[] [aG b4].toArray,Value.func (.func 248) #[] [aG j2].toArray,Value.func (.func 249) #[] [aG m0,aG o0].toArray,Value.func (.func 171) #[] [aG b5,aG bz].toArray] rfl ?_;refine dop 9 rfl (zJ _ rfl (fun w1 a6 a8=>by
     have h7:=au.unstar (Ls:=[Res.blk b4 3 [aH (e)],Res.blk j2 3 [aH (7)],Res.blk m0 3 [aH (e)],Res.blk o0 3 [aH (c.sld)],Res.blk b5 24 c.c,Res.blk bz 22 [aJ (0)]]) (Ls1:=fun _=>[Res.blk b4 3 [aH (e)],Res.blk j2 3 [aH (7)],Res.blk m0 3 [aH (e)],Res.blk o0 3 [aH (c.sld)],Res.blk b5 24 c.c,Res.blk bz 22 [aJ ((dS ([(⟨170,[aG b4],fun v s=>((mkR e v).1,(mkR e v).2,s)⟩:Chg Int),(⟨248,[aG j2],fun v s=>((evR 7 v).1,(evR 7 v).2,s)⟩:Chg Int),(⟨249,[aG m0,aG o0],fun v s=>((dlR e c.sld v).1,(dlR e c.sld v).2,s)⟩:Chg Int),(⟨171,[aG b5,aG bz],fun v _=>((buR c v).1,0,(buR c v).2)⟩:Chg Int)]:List (Chg Int)) v 0).2.2)]]) (fun u2=>xN (fun z9:Int=>Res.star [Res.blk b4 3 [aH (e)],Res.blk j2 3 [aH (7)],Res.blk m0 3 [aH (e)],Res.blk o0 3 [aH (c.sld)],Res.blk b5 24 c.c,Res.blk bz 22 [aJ (z9)]]) okP ([(⟨170,[aG b4],fun v s=>((mkR e v).1,(mkR e v).2,s)⟩:Chg Int),(⟨248,[aG j2],fun v s=>((evR 7 v).1,(evR 7 v).2,s)⟩:Chg Int),(⟨249,[aG m0,aG o0],fun v s=>((dlR e c.sld v).1,(dlR e c.sld v).2,s)⟩:Chg Int),(⟨171,[aG b5,aG bz],fun v _=>((buR c v).1,0,(buR c v).2)⟩:Chg Int)]:List (Chg Int)) v 0 E2 w1 u2 (G0 j2 m0 o0) i6 (Rd.star (Rd.ofBlk (b:=E2) (T:=285) (c:=[Value.func (.func 170) #[] [aG b4].toArray,Value.func (.func 248) #[] [aG j2].toArray,Value.func (.func 249) #[] [aG m0,aG o0].toArray,Value.func (.func 171) #[] [aG b5,aG bz].toArray]) a6 rfl aM rfl)) aM) a8;exact h7) rfl ?_)
    rintro⟨⟩ _;refine ii ?_;refine zF (b:=bz) [aJ (bh v e c).2.1] (by rw[wC v e c [aG b4] [aG j2] [aG m0,aG o0] [aG b5,aG bz]]) (rn [23,10,2,23,11,40] ?_);refine ae 27 (v' := V.v (bh v e c).1) rfl (by rw[wC v e c [aG b4] [aG j2] [aG m0,aG o0] [aG b5,aG bz]]) (rn [24,12,40] ?_);refine ae 28 (v' := aH (bh v e c).2.2) rfl (by rw[wC v e c [aG b4] [aG j2] [aG m0,aG o0] [aG b5,aG bz]]) ?_;refine dop 14 rfl (zT rfl rfl rfl rfl rfl (rn [24,15,3,28] ?_));exact eL w7
   refine dop 6 rfl (zJ [] rfl (fun w1 a6 a8=>by have h7:=sO (e) (c.sld) w1;exact h7) rfl ?_);rintro⟨m0,o0⟩ _;refine ii ?_;refine dop 8 rfl (bg rfl rfl rfl rfl rfl fun E2=>?_);refine zF (b:=E2) [Value.func (.func 170) #[] [aG b4].toArray,Value.func (.func 248) #[] [aG j2].toArray,Value.func (.func 249) #[] [aG m0,aG o0].toArray,Value.func (.func 171) #[] [aG b5,aG bz].toArray] rfl ?_;refine dop 9 rfl (zJ _ rfl (fun w1 a6 a8=>by
    have h7:=au.unstar (Ls:=[Res.blk b4 3 [aH (e)],Res.blk j2 3 [aH (7)],Res.blk m0 3 [aH (e)],Res.blk o0 3 [aH (c.sld)],Res.blk b5 24 c.c,Res.blk bz 22 [aJ (0)]]) (Ls1:=fun _=>[Res.blk b4 3 [aH (e)],Res.blk j2 3 [aH (7)],Res.blk m0 3 [aH (e)],Res.blk o0 3 [aH (c.sld)],Res.blk b5 24 c.c,Res.blk bz 22 [aJ ((dS ([(⟨170,[aG b4],fun v s=>((mkR e v).1,(mkR e v).2,s)⟩:Chg Int),(⟨248,[aG j2],fun v s=>((evR 7 v).1,(evR 7 v).2,s)⟩:Chg Int),(⟨249,[aG m0,aG o0],fun v s=>((dlR e c.sld v).1,(dlR e c.sld v).2,s)⟩:Chg Int),(⟨171,[aG b5,aG bz],fun v _=>((buR c v).1,0,(buR c v).2)⟩:Chg Int)]:List (Chg Int)) v 0).2.2)]]) (fun u2=>xN (fun z9:Int=>Res.star [Res.blk b4 3 [aH (e)],Res.blk j2 3 [aH (7)],Res.blk m0 3 [aH (e)],Res.blk o0 3 [aH (c.sld)],Res.blk b5 24 c.c,Res.blk bz 22 [aJ (z9)]]) okP ([(⟨170,[aG b4],fun v s=>((mkR e v).1,(mkR e v).2,s)⟩:Chg Int),(⟨248,[aG j2],fun v s=>((evR 7 v).1,(evR 7 v).2,s)⟩:Chg Int),(⟨249,[aG m0,aG o0],fun v s=>((dlR e c.sld v).1,(dlR e c.sld v).2,s)⟩:Chg Int),(⟨171,[aG b5,aG bz],fun v _=>((buR c v).1,0,(buR c v).2)⟩:Chg Int)]:List (Chg Int)) v 0 E2 w1 u2 (G0 j2 m0 o0) i6 (Rd.star (Rd.ofBlk (b:=E2) (T:=285) (c:=[Value.func (.func 170) #[] [aG b4].toArray,Value.func (.func 248) #[] [aG j2].toArray,Value.func (.func 249) #[] [aG m0,aG o0].toArray,Value.func (.func 171) #[] [aG b5,aG bz].toArray]) a6 rfl aM rfl)) aM) a8;exact h7) rfl ?_)
   rintro⟨⟩ _;refine ii ?_;refine zF (b:=bz) [aJ (bh v e c).2.1] (by rw[wC v e c [aG b4] [aG j2] [aG m0,aG o0] [aG b5,aG bz]]) (rn [23,10,2,23,11,40] ?_);refine ae 27 (v' := V.v (bh v e c).1) rfl (by rw[wC v e c [aG b4] [aG j2] [aG m0,aG o0] [aG b5,aG bz]]) (rn [24,12,40] ?_);refine ae 28 (v' := aH (bh v e c).2.2) rfl (by rw[wC v e c [aG b4] [aG j2] [aG m0,aG o0] [aG b5,aG bz]]) ?_;refine dop 14 rfl (zT rfl rfl rfl rfl rfl (rn [24,15,3,28] ?_));exact eL w7
  refine dop 2 rfl (zJ [] rfl (fun w1 a6 a8=>by have h7:=uO (7) w1;exact h7) rfl ?_);rintro j2 _;refine ii ?_;refine dop 6 rfl (zJ [] rfl (fun w1 a6 a8=>by have h7:=sO (e) (c.sld) w1;exact h7) rfl ?_);rintro⟨m0,o0⟩ _;refine ii ?_;refine dop 8 rfl (bg rfl rfl rfl rfl rfl fun E2=>?_);refine zF (b:=E2) [Value.func (.func 170) #[] [aG b4].toArray,Value.func (.func 248) #[] [aG j2].toArray,Value.func (.func 249) #[] [aG m0,aG o0].toArray,Value.func (.func 171) #[] [aG b5,aG bz].toArray] rfl ?_;refine dop 9 rfl (zJ _ rfl (fun w1 a6 a8=>by
   have h7:=au.unstar (Ls:=[Res.blk b4 3 [aH (e)],Res.blk j2 3 [aH (7)],Res.blk m0 3 [aH (e)],Res.blk o0 3 [aH (c.sld)],Res.blk b5 24 c.c,Res.blk bz 22 [aJ (0)]]) (Ls1:=fun _=>[Res.blk b4 3 [aH (e)],Res.blk j2 3 [aH (7)],Res.blk m0 3 [aH (e)],Res.blk o0 3 [aH (c.sld)],Res.blk b5 24 c.c,Res.blk bz 22 [aJ ((dS ([(⟨170,[aG b4],fun v s=>((mkR e v).1,(mkR e v).2,s)⟩:Chg Int),(⟨248,[aG j2],fun v s=>((evR 7 v).1,(evR 7 v).2,s)⟩:Chg Int),(⟨249,[aG m0,aG o0],fun v s=>((dlR e c.sld v).1,(dlR e c.sld v).2,s)⟩:Chg Int),(⟨171,[aG b5,aG bz],fun v _=>((buR c v).1,0,(buR c v).2)⟩:Chg Int)]:List (Chg Int)) v 0).2.2)]]) (fun u2=>xN (fun z9:Int=>Res.star [Res.blk b4 3 [aH (e)],Res.blk j2 3 [aH (7)],Res.blk m0 3 [aH (e)],Res.blk o0 3 [aH (c.sld)],Res.blk b5 24 c.c,Res.blk bz 22 [aJ (z9)]]) okP ([(⟨170,[aG b4],fun v s=>((mkR e v).1,(mkR e v).2,s)⟩:Chg Int),(⟨248,[aG j2],fun v s=>((evR 7 v).1,(evR 7 v).2,s)⟩:Chg Int),(⟨249,[aG m0,aG o0],fun v s=>((dlR e c.sld v).1,(dlR e c.sld v).2,s)⟩:Chg Int),(⟨171,[aG b5,aG bz],fun v _=>((buR c v).1,0,(buR c v).2)⟩:Chg Int)]:List (Chg Int)) v 0 E2 w1 u2 (G0 j2 m0 o0) i6 (Rd.star (Rd.ofBlk (b:=E2) (T:=285) (c:=[Value.func (.func 170) #[] [aG b4].toArray,Value.func (.func 248) #[] [aG j2].toArray,Value.func (.func 249) #[] [aG m0,aG o0].toArray,Value.func (.func 171) #[] [aG b5,aG bz].toArray]) a6 rfl aM rfl)) aM) a8;exact h7) rfl ?_)
  rintro⟨⟩ _;refine ii ?_;refine zF (b:=bz) [aJ (bh v e c).2.1] (by rw[wC v e c [aG b4] [aG j2] [aG m0,aG o0] [aG b5,aG bz]]) (rn [23,10,2,23,11,40] ?_);refine ae 27 (v' := V.v (bh v e c).1) rfl (by rw[wC v e c [aG b4] [aG j2] [aG m0,aG o0] [aG b5,aG bz]]) (rn [24,12,40] ?_);refine ae 28 (v' := aH (bh v e c).2.2) rfl (by rw[wC v e c [aG b4] [aG j2] [aG m0,aG o0] [aG b5,aG bz]]) ?_;refine dop 14 rfl (zT rfl rfl rfl rfl rfl (rn [24,15,3,28] ?_));exact eL w7
 rintro w7;refine rn [7,8] ?_;refine bn [0,1,3] an rfl (rn [24,2,2] ?_);refine yJ [0,1] aL aM zG ⟨bu rfl (G.quiet (xT rfl rfl) rfl ?_),bu rfl (G.quiet (vO rfl rfl) rfl ?_),trivial⟩
 ·refine yJ [1,3] aL aM zG ⟨bu rfl (G.quiet (vO rfl rfl) rfl ?_),bu rfl (zT rfl rfl rfl rfl rfl ?_),trivial⟩
  ·refine fJ 3 rfl (zT rfl rfl rfl rfl rfl (Si ?_));exact dI rfl (.cellw rfl rfl) (.tmp rfl) (.tmp rfl) fun w' a5=>⟨aP,a5.upd⟩
  refine fJ 1 rfl (G.quiet (vO rfl rfl) rfl (Si ?_));exact dI rfl (.cellw rfl rfl) (.tmp rfl) (.tmp rfl) fun w' a5=>⟨aP,a5.upd⟩
 refine fJ 0 rfl (G.quiet (xT rfl rfl) rfl ?_);refine fJ 3 rfl (zT rfl rfl rfl rfl rfl (Si ?_));exact dI rfl (.cellw rfl rfl) (.tmp rfl) (.tmp rfl) fun w' a5=>⟨aP,a5.upd⟩
theorem wV (y lo hi:Int) (w:World) : Pur Tryz.prog 206 [aH y,aH lo,aH hi] w (.bool (decide (lo<=y) && decide (y<=hi))):=by
 refine am Tryz.func206 15 (WOK.start [] _) ?_;refine rn [1,3,0,1,2,2,56,2] ?_;refine zS 10 rfl (fun h1=>?_) (fun h1=>?_)
 ·refine rn [22,2,22,2,22,56,41,3,0,11] ?_;exact dD rfl rfl fun w' a5=>⟨by first|(simp_all;done)|(simp_all;omega),a5.upd⟩
 refine Sh ?_;exact dD rfl rfl fun w' a5=>⟨by first|(simp_all;done)|(simp_all;omega),a5.upd⟩
theorem qG (y lo hi:Int) (w:World) : Pur Tryz.prog 211 [aJ y,aJ lo,aJ hi] w (.bool (decide (lo<=y) && decide (y<=hi))):=by
 refine am Tryz.func211 15 (WOK.start [] _) ?_;refine rn [1,3,0,1,2,2,56,2] ?_;refine zS 10 rfl (fun h1=>?_) (fun h1=>?_)
 ·refine rn [22,2,22,2,22,56,41,3,0,11] ?_;exact dD rfl rfl fun w' a5=>⟨by first|(simp_all;done)|(simp_all;omega),a5.upd⟩
 refine Sh ?_;exact dD rfl rfl fun w' a5=>⟨by first|(simp_all;done)|(simp_all;omega),a5.upd⟩
theorem IC (c:C) (w:World) (hc:chk c=0) (hk:Cok c):Pur Tryz.prog 205 [c.v] w (.bool true):=by
 refine am Tryz.func205 6 (WOK.start [] _) ?_;refine Ri ?_;refine aa (aq (c:=C.c c) rfl rfl rfl fun b1=>SL ?_);refine aa (zH rfl (fun w1 a6=>wV _ _ _ w1) rfl (Rb ?_));exact dD rfl rfl fun w' a5=>⟨by have h9:=yC hc 1 aK aK;simp[ar,btw] at h9;simp<;>omega,a5.upd⟩
theorem IB (c:C) (w:World) (hc:chk c=0) (hk:Cok c):Pur Tryz.prog 207 [c.v] w (.bool true):=by
 refine am Tryz.func207 6 (WOK.start [] _) ?_;refine Ri ?_;refine aa (aq (c:=C.c c) rfl rfl rfl fun b1=>SL ?_);refine aa (zH rfl (fun w1 a6=>wV _ _ _ w1) rfl (Rb ?_));exact dD rfl rfl fun w' a5=>⟨by have h9:=yC hc 2 aK aK;simp[ar,btw] at h9;simp<;>omega,a5.upd⟩
theorem IA (c:C) (w:World) (hc:chk c=0) (hk:Cok c):Pur Tryz.prog 208 [c.v] w (.bool true):=by
 refine am Tryz.func208 6 (WOK.start [] _) ?_;refine Ri ?_;refine aa (aq (c:=C.c c) rfl rfl rfl fun b1=>rn [3,0,1,4,5,55,3,0,11] ?_);exact dD rfl rfl fun w' a5=>⟨by have h9:=yC hc 3 aK aK;simp[ar,btw] at h9;simp<;>omega,a5.upd⟩
theorem Hz (c:C) (w:World) (hc:chk c=0) (hk:Cok c):Pur Tryz.prog 209 [c.v] w (.bool true):=by
 refine am Tryz.func209 8 (WOK.start [] _) ?_;refine Ri ?_;refine aa (aq (c:=C.c c) rfl rfl rfl fun b1=>rn [3,0,1,4,5,4,5,53,3,0,11] ?_);exact dD rfl rfl fun w' a5=>⟨by have h9:=yC hc 4 aK aK;simp[ar,btw] at h9;simp<;>omega,a5.upd⟩
theorem Hy (c:C) (w:World) (hc:chk c=0) (hk:Cok c):Pur Tryz.prog 210 [c.v] w (.bool true):=by
 refine am Tryz.func210 8 (WOK.start [] _) ?_;refine Ri ?_;refine aa (aq (c:=C.c c) rfl rfl rfl fun b1=>rn [3,0,1,4,5,4,5] ?_);refine aa (zH rfl (fun w1 a6=>qG _ _ _ w1) rfl (Rb ?_));exact dD rfl rfl fun w' a5=>⟨by have h9:=yC hc 5 aK aK;simp[ar,btw] at h9;simp<;>omega,a5.upd⟩
theorem Hx (c:C) (w:World) (hc:chk c=0) (hk:Cok c):Pur Tryz.prog 212 [c.v] w (.bool true):=by
 refine am Tryz.func212 8 (WOK.start [] _) ?_;refine Ri ?_;refine aa (aq (c:=C.c c) rfl rfl rfl fun b1=>rn [3,0,1,4,5,4,5] ?_);refine aa (zH rfl (fun w1 a6=>qG _ _ _ w1) rfl (Rb ?_));exact dD rfl rfl fun w' a5=>⟨by have h9:=yC hc 6 aK aK;simp[ar,btw] at h9;simp<;>omega,a5.upd⟩
theorem Hw (c:C) (w:World) (hc:chk c=0) (hk:Cok c):Pur Tryz.prog 213 [c.v] w (.bool true):=by
 refine am Tryz.func213 10 (WOK.start [] _) ?_;refine Ri ?_;refine aa (aq (c:=C.c c) rfl rfl rfl fun b1=>rn [3,0,1,4,5,4,5,4,5] ?_);refine aa (zH rfl (fun w1 a6=>qG _ _ _ w1) rfl (Rb ?_));exact dD rfl rfl fun w' a5=>⟨by have h9:=yC hc 7 aK aK;simp[ar,btw] at h9;simp<;>omega,a5.upd⟩
theorem Hv (c:C) (w:World) (hc:chk c=0) (hk:Cok c):Pur Tryz.prog 214 [c.v] w (.bool true):=by
 refine am Tryz.func214 6 (WOK.start [] _) ?_;refine Ri ?_;refine aa (aq (c:=C.c c) rfl rfl rfl fun b1=>SL ?_);refine aa (zH rfl (fun w1 a6=>qG _ _ _ w1) rfl (Rb ?_));exact dD rfl rfl fun w' a5=>⟨by have h9:=yC hc 8 aK aK;simp[ar,btw] at h9;simp<;>omega,a5.upd⟩
theorem Hu (c:C) (w:World) (hc:chk c=0) (hk:Cok c):Pur Tryz.prog 215 [c.v] w (.bool true):=by
 refine am Tryz.func215 6 (WOK.start [] _) ?_;refine Ri ?_;refine aa (aq (c:=C.c c) rfl rfl rfl fun b1=>rn [3,0,1,4,5,55,3,0,11] ?_);exact dD rfl rfl fun w' a5=>⟨by have h9:=yC hc 9 aK aK;simp[ar,btw] at h9;simp<;>omega,a5.upd⟩
theorem Ga (c:C) (w:World) (hc:chk c=0) (hk:Cok c):Pur Tryz.prog 216 [c.v] w (.bool true):=by
 refine am Tryz.func216 6 (WOK.start [] _) ?_;refine Ri ?_;refine aa (aq (c:=C.c c) rfl rfl rfl fun b1=>rn [3,0,1,4,5,56,3,0,11] ?_);exact dD rfl rfl fun w' a5=>⟨by have h9:=yC hc 10 aK aK;simp[ar,btw] at h9;simp<;>omega,a5.upd⟩
theorem GZ (c:C) (w:World) (hc:chk c=0) (hk:Cok c):Pur Tryz.prog 217 [c.v] w (.bool true):=by
 refine am Tryz.func217 6 (WOK.start [] _) ?_;refine Ri ?_;refine aa (aq (c:=C.c c) rfl rfl rfl fun b1=>SL ?_);refine aa (zH rfl (fun w1 a6=>wV _ _ _ w1) rfl (Rb ?_));exact dD rfl rfl fun w' a5=>⟨by have h9:=yC hc 11 aK aK;simp[ar,btw] at h9;simp<;>omega,a5.upd⟩
theorem GY (c:C) (w:World) (hc:chk c=0) (hk:Cok c):Pur Tryz.prog 218 [c.v] w (.bool true):=by
 refine am Tryz.func218 9 (WOK.start [] _) ?_;have g1:=hk.vis;have g2:=hk.pays;have g3:=hk.unb;refine Ri ?_;refine aa (aq (c:=C.c c) rfl rfl rfl fun b1=>rn [3,0,1,4,5,4,5] ?_);refine s_q (yI (z:=c.unb+1) rfl rfl (dY aK aK)) rfl ?_;refine aa (zH rfl (fun w1 a6=>wV _ _ _ w1) rfl (Rb ?_));exact dD rfl rfl fun w' a5=>⟨by have h9:=yC hc 12 aK aK;simp[ar,btw] at h9;simp<;>omega,a5.upd⟩
theorem GX (c:C) (w:World) (hc:chk c=0) (hk:Cok c):Pur Tryz.prog 219 [c.v] w (.bool true):=by
 refine am Tryz.func219 6 (WOK.start [] _) ?_;refine Ri ?_;refine aa (aq (c:=C.c c) rfl rfl rfl fun b1=>SL ?_);refine aa (zH rfl (fun w1 a6=>wV _ _ _ w1) rfl (Rb ?_));exact dD rfl rfl fun w' a5=>⟨by have h9:=yC hc 13 aK aK;simp[ar,btw] at h9;simp<;>omega,a5.upd⟩
theorem GW (c:C) (w:World) (hc:chk c=0) (hk:Cok c):Pur Tryz.prog 220 [c.v] w (.bool true):=by
 refine am Tryz.func220 6 (WOK.start [] _) ?_;refine Ri ?_;refine aa (aq (c:=C.c c) rfl rfl rfl fun b1=>SL ?_);refine aa (zH rfl (fun w1 a6=>wV _ _ _ w1) rfl (Rb ?_));exact dD rfl rfl fun w' a5=>⟨by have h9:=yC hc 14 aK aK;simp[ar,btw] at h9;simp<;>omega,a5.upd⟩
theorem GV (c:C) (w:World) (hc:chk c=0) (hk:Cok c):Pur Tryz.prog 221 [c.v] w (.bool true):=by
 refine am Tryz.func221 6 (WOK.start [] _) ?_;refine Ri ?_;refine aa (aq (c:=C.c c) rfl rfl rfl fun b1=>SL ?_);refine aa (zH rfl (fun w1 a6=>wV _ _ _ w1) rfl (Rb ?_));exact dD rfl rfl fun w' a5=>⟨by have h9:=yC hc 15 aK aK;simp[ar,btw] at h9;simp<;>omega,a5.upd⟩
theorem GU (c:C) (w:World) (hc:chk c=0) (hk:Cok c):Pur Tryz.prog 222 [c.v] w (.bool true):=by
 refine am Tryz.func222 6 (WOK.start [] _) ?_;refine Ri ?_;refine aa (aq (c:=C.c c) rfl rfl rfl fun b1=>SL ?_);refine aa (zH rfl (fun w1 a6=>wV _ _ _ w1) rfl (Rb ?_));exact dD rfl rfl fun w' a5=>⟨by have h9:=yC hc 16 aK aK;simp[ar,btw] at h9;simp<;>omega,a5.upd⟩
theorem GT (c:C) (w:World) (hc:chk c=0) (hk:Cok c):Pur Tryz.prog 223 [c.v] w (.bool true):=by
 refine am Tryz.func223 12 (WOK.start [] _) ?_;have g1:=hk.vis;have g2:=hk.pays;have g3:=hk.unb;refine Ri ?_;refine aa (aq (c:=C.c c) rfl rfl rfl fun b1=>rn [3,0,1,4,5,4,5,4,5,58] ?_);refine s_q (yN (z:=min c.vis c.pays-1) rfl rfl (dY aK aK)) rfl ?_;refine aa (zH rfl (fun w1 a6=>wV _ _ _ w1) rfl (Rb ?_));exact dD rfl rfl fun w' a5=>⟨by have h9:=yC hc 17 aK aK;simp[ar,btw] at h9;simp<;>omega,a5.upd⟩
theorem GS (c:C) (w:World) (hc:chk c=0) (hk:Cok c):Pur Tryz.prog 224 [c.v] w (.bool true):=by
 refine am Tryz.func224 6 (WOK.start [] _) ?_;refine Ri ?_;refine aa (aq (c:=C.c c) rfl rfl rfl fun b1=>SL ?_);refine aa (zH rfl (fun w1 a6=>wV _ _ _ w1) rfl (Rb ?_));exact dD rfl rfl fun w' a5=>⟨by have h9:=yC hc 18 aK aK;simp[ar,btw] at h9;simp<;>omega,a5.upd⟩
theorem GR (c:C) (w:World) (hc:chk c=0) (hk:Cok c):Pur Tryz.prog 225 [c.v] w (.bool true):=by
 refine am Tryz.func225 8 (WOK.start [] _) ?_;refine Ri ?_;refine aa (aq (c:=C.c c) rfl rfl rfl fun b1=>rn [3,0,1,4,5,4,5,56,3,0,11] ?_);exact dD rfl rfl fun w' a5=>⟨by have h9:=yC hc 19 aK aK;simp[ar,btw] at h9;simp<;>omega,a5.upd⟩
theorem GQ (c:C) (w:World) (hc:chk c=0) (hk:Cok c):Pur Tryz.prog 226 [c.v] w (.bool true):=by
 refine am Tryz.func226 6 (WOK.start [] _) ?_;refine Ri ?_;refine aa (aq (c:=C.c c) rfl rfl rfl fun b1=>SL ?_);refine aa (zH rfl (fun w1 a6=>qG _ _ _ w1) rfl (Rb ?_));exact dD rfl rfl fun w' a5=>⟨by have h9:=yC hc 20 aK aK;simp[ar,btw] at h9;simp<;>omega,a5.upd⟩
def ug:List Nat:=[205,207,208,209,210,212,213,214,215,216,217,218,219,220,221,222,223,224,225,226]
def FG:List Value:=ug.map fun f=>.func (.func f) #[] #[]
theorem rs {c:C} (hc:chk c=0) (hk:Cok c):∀f∈ug,gI Tryz.prog f=true/\∀w,Pur Tryz.prog f [c.v] w (.bool true):=by
 intro f hf;simp only[ug,cH,cE,or_false] at hf;rcases hf with rfl|rfl|rfl|rfl|rfl|rfl|rfl|rfl|rfl|rfl|rfl|rfl|rfl|rfl|rfl|rfl|rfl|rfl|rfl|rfl
 ·exact⟨aL,fun w=>IC c w hc hk⟩
 ·exact⟨aL,fun w=>IB c w hc hk⟩
 ·exact⟨aL,fun w=>IA c w hc hk⟩
 ·exact⟨aL,fun w=>Hz c w hc hk⟩
 ·exact⟨aL,fun w=>Hy c w hc hk⟩
 ·exact⟨aL,fun w=>Hx c w hc hk⟩
 ·exact⟨aL,fun w=>Hw c w hc hk⟩
 ·exact⟨aL,fun w=>Hv c w hc hk⟩
 ·exact⟨aL,fun w=>Hu c w hc hk⟩
 ·exact⟨aL,fun w=>Ga c w hc hk⟩
 ·exact⟨aL,fun w=>GZ c w hc hk⟩
 ·exact⟨aL,fun w=>GY c w hc hk⟩
 ·exact⟨aL,fun w=>GX c w hc hk⟩
 ·exact⟨aL,fun w=>GW c w hc hk⟩
 ·exact⟨aL,fun w=>GV c w hc hk⟩
 ·exact⟨aL,fun w=>GU c w hc hk⟩
 ·exact⟨aL,fun w=>GT c w hc hk⟩
 ·exact⟨aL,fun w=>GS c w hc hk⟩
 ·exact⟨aL,fun w=>GR c w hc hk⟩
 exact⟨aL,fun w=>GQ c w hc hk⟩
theorem DB {i:Nat} (h:i<20):∃f∈ug,FG[i]?=some (.func (.func f) #[] #[]):=⟨ug[i]'h,cC _,by unfold FG;rw[List.getElem?_map,List.getElem?_eq_getElem (show i<ug.length from h)];rfl⟩
theorem uf (w:World) : Pur Tryz.prog 143 [] w (.agg FG.toArray):=by
 refine am Tryz.func143 22 (WOK.start [] _) ?_;refine Ri ?_;refine aa (zK rfl fun b0=>rn [0,1,49,49,49,49,49,49,49,49,49,49,49,49,49,49,49,49,49,49,49,49,49,33,0,11] ?_);exact dG rfl (.cellw rfl rfl) fun w' a5=>⟨aP,a5.upd⟩
theorem Am (c:C) (w:World) (hc:chk c=0) (hk:Cok c):Pur Tryz.prog 87 [c.v] w (aH 0):=by
 refine am Tryz.func87 18 (WOK.start [] _) ?_;refine Ri ?_;refine aa (aq (c:=C.c c) rfl rfl rfl fun b1=>rn [3,0,8,1] ?_);refine aa (zH rfl (fun w1 a6=>uf w1) rfl (rn [2,0,14] ?_));refine dP [1,2,5] (fun(x:Nat)=>[(6,aI x)]) (fun(x:Nat)=>[Res.blk b1 24 c.c]) (fun(x:Nat)=>x<=20) (fun(x:Nat)=>20-x) 0 aW ?_;rintro k f6;replace f6:k<=20:=f6;refine Rj ?_;refine zB rfl (fun h1=>?_) (fun h1=>?_)
 ·have f8:k<20:=by have h9:=bW h1;omega
  obtain⟨f,hf,hfv⟩:=DB f8;refine rn [12,7,8,14,1,2] ?_;refine s_q (tg (i:=k) rfl rfl rfl f8 hfv) rfl ?_;refine aa (zK rfl fun b4=>rn [3,33,0,1,4,5,45] ?_);refine aa (mu (hb:=⟨(rs hc hk f hf).1⟩) (f:=f) rfl rfl (fun w1 a6=>(rs hc hk f hf).2 w1) rfl (rn [48] ?_));refine zV 14 (b:=false) rfl (rfl) (rn [0,20,12,15,7,10,43,2,9] ?_);exact cr (k+1) aU
 have f9:k=20:=by have h9:=bX h1;omega
 refine Ru ?_;refine zE (zE (zQ (So ?_)));exact dD rfl rfl fun w' a5=>⟨aP,a5.upd⟩
theorem oZ (c:C) (w:World) (hc:chk c=0) (hk:Cok c):Pur Tryz.prog 32 [c.v] w (.bool true):=by
 refine am Tryz.func32 6 (WOK.start [] _) ?_;refine Ri ?_;refine aa (aq (c:=C.c c) rfl rfl rfl fun b1=>rn [3,0,1,45] ?_);refine aa (zH rfl (fun w1 a6=>Am c w1 hc hk) rfl (rn [44,3,0,11] ?_));exact dD rfl rfl fun w' a5=>⟨aP,a5.upd⟩
end Go.Proofs.YtdddiilocbbkkaaGreat
