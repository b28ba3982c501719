/- TopModel, part 16. No condition. -/
import Derived.Test.YtdddiilocbbkkaaGreatTN15
set_option linter.unusedVariables false
set_option linter.unusedSimpArgs false
namespace Go.Proofs.YtdddiilocbbkkaaGreat
open Go.RowKit Go.Eg
set_option maxHeartbeats 4000000
set_option synthInstance.maxSize 3000
set_option maxRecDepth 100000
structure RX where
 r:Rc
 O:bU
 oc:Nat
 pA:bU
 pc:Nat
def RX.c (x:RX):List Value:=[aH x.r.k,aH x.r.code,aH x.r.i,aH x.r.blk,aH x.r.ep,aH x.r.dl,.slice x.O x.r.ag.length x.oc,.slice x.pA x.r.ps.length x.pc,aH x.r.vis]
def RX.rows (x:RX):List Res:=[.row x.O x.r.ag.length x.oc 55 3 (x.r.ag.map As.cs),.row x.pA x.r.ps.length x.pc 50 3 (x.r.ps.map Y.c)]
def lg (t:Eg × List Rc) (y:Op):Eg × List Rc:=((ao t.1 y).1,t.2++[(ao t.1 y).2])
def da (s:Eg) (l:List Op) (k:Nat):Eg × List Rc:=(l.take k).foldl lg (s,[])
def aw (s:Eg) (l:List Op):Eg × List Rc:=l.foldl lg (s,[])
theorem vD {s:Eg} {l:List Op} {k:Nat} (h:k<l.length):da s l (k+1)=lg (da s l k) l[k]:=wT _ _ h
theorem vM (s:Eg) (l:List Op):da s l l.length=aw s l:=by unfold da aw;rw[cI]
theorem ov (s:Eg) (y:Op):(ao s y).1.blk≤s.blk+1:=by
 unfold ao;split
 ·rw[gu];exact cM _
 unfold fF
 repeat' split
 ·show(dz s y).1.blk≤_;rw[lI];exact Nat.le_succ _
 ·show(Θ s 1 y.i).1.blk≤_;rw[vH];exact Nat.le_succ _
 ·show(Θ s 0 y.i).1.blk≤_;rw[vH];exact Nat.le_succ _
 ·show(Φ s y.i).1.blk≤_;rw[qS];exact Nat.le_succ _
 ·show(dk s y.i y.t).1.blk≤_;rw[jB];exact Nat.le_succ _
 ·show(dh s y.i y.a).1.blk≤_;rw[iW];exact Nat.le_succ _
 exact Nat.le_succ _
theorem vL {s:Eg} {l:List Op} (hi:Inv s) (hl:∀y∈l,y.ok) (hb:s.blk+l.length<1000000000):∀k,k≤l.length→Inv (da s l k).1∧(da s l k).1.blk≤s.blk+k∧(da s l k).1.c=s.c∧(da s l k).2.length=k
 | 0,_=>⟨hi,cM _,rfl,rfl⟩
 | k+1,h=>by
  obtain⟨h1,h2,h3,h4⟩:=vL hi hl hb k aK;rw[vD aK];have ho:=hl _ (cC (show k<l.length by omega));exact⟨ou h1 aK ⟨ho.a⟩,Nat.le_trans (ov _ _) aK,(nQ _ _).trans h3,by show((da s l k).2++[_]).length=_;simp[h4]⟩
theorem og (p q:Value) (w:World):Dh (ι:=Unit) Tryz.prog 124 [p,q] w [] (fun _=>True) (fun _=>.tuple #[]) (fun _=>[]) (fun _=>[]):=by
 refine callsDIn_of_wpSIn Tryz.func124 rfl trivial fun c₀ cs hu=>?_;apply wpSIn_seq;apply wpSIn_region;simp[wpOpsSIn,go_sem,recoverD,hu,Exit.thenS];refine wpSIn_of_wpIn rfl ?_;have D8:St ⟨[],w,13,[],none⟩ [(5,.nilIface)] [] { tmps := #[p,q]++(Array.replicate 11 undef).setIfInBounds 3 Value.nilIface,defers:=[] } w:=by
  refine⟨rfl,aM,fun k v hk=>?_,WOK.start _ _⟩;simp[Eg.look] at hk;obtain⟨rfl,rfl⟩:=hk;simp
 refine(?_:G ⟨[],w,13,[],none⟩ [(5,.nilIface)] [] _) _ _ D8;refine rn [14,1] ?_;refine s_q (EK ⟨#[],aL⟩ rfl) rfl (rn [0,19,10,3,9,15] ?_);intro a w' hs;cases c₀
 simp_all[bodyPostS,results]
 exact⟨hs.defers,hs.wok⟩
theorem Au (c:C) (w:World) (hc:chk c=0) (hk:c.ok):au (ι:=(EP × EG)) Tryz.prog 125 [c.v] w [] (fun x=>x.2.Rep (Δ c)) (fun x=>.pointer (some ⟨x.1.eb,0,none⟩)) (fun x=>[Eng x.1 x.2 (Δ c)]) (fun x=>[]):=by
 refine Γ Tryz.func125 15 (WOK.start (fps []) _) ?_;refine Ri ?_;refine aa (aq (c:=C.c c) rfl rfl rfl fun b1=>rn [3,0,1,45] ?_);refine aa (zJ [] rfl (fun w1 a6 a8=>by have h7:=Ec c w1 hc hk;exact h7) rfl ?_);rintro⟨p7,a7⟩ r7;refine ii ?_;simp only at r7;refine rn [2,40,40,3,3,0,8,1,2,51] ?_;refine zV 11 (b:=false) rfl (rfl) (rn [0,20,12,7,1,2,3,0,11] ?_);exact dD rfl rfl fun w' a5=>⟨(p7,a7),(by exact r7),rfl,zA w' a5⟩
theorem wo (ep:Value) (q:Nat) (A:bU) (cap:Nat) (xs:List RX) (y:RX) (w:World) (hw:W0 [Res.blk q 58 [dC A xs.length cap],Res.row A xs.length cap 47 9 (xs.map RX.c)] w) (hn:xs.length≤1000000):au (ι:=(bU × Nat)) Tryz.prog 69 [ep,.agg y.c.toArray,aG q] w [Res.blk q 58 [dC A xs.length cap],Res.row A xs.length cap 47 9 (xs.map RX.c)] (fun x=>True) (fun x=>.bool true) (fun x=>[]) (fun x=>[Res.blk q 58 [dC x.1 (xs++[y]).length x.2],Res.row x.1 (xs++[y]).length x.2 47 9 ((xs++[y]).map RX.c)]):=by
 refine Γ Tryz.func69 10 hw ?_;refine Ri ?_;refine aa (aq (c:=RX.c y) rfl rfl rfl fun b4=>rn [3,0,1,5,45] ?_);refine aa (bg rfl rfl rfl rfl rfl fun b8=>?_);refine zF (b:=b8) ((([y]:List RX).map RX.c).flatten) rfl ?_;refine aa (zW (A:=A) (els:=(xs).map RX.c) (news:=(([y]:List RX).map RX.c)) rfl rfl (InL.rdb (b:=b8) rfl (by simp[RX.c]) rfl) (zZ (c:=RX.c) (by intro x;simp[RX.c,Value.oneCell']) _) aR rfl fun A9 cap9=>⟨_,inferInstance,?_⟩);refine zC (A:=A9) (((xs++[y])).map RX.c) (by first|rfl|exact cA.symm|(simp;done)) ?_;refine aa (zI rfl rfl rfl rfl rfl rfl rfl (RA ?_));refine zR (A:=A9) (xs++[y]).length aM ?_;refine zF (b:=q) [dC A9 (xs++[y]).length cap9] (by simp[ay]) ?_;exact dD rfl rfl fun w' a5=>⟨(A9,cap9),aQ,rfl,zA w' a5⟩
structure PX where
 p:EP
 a:EG
 sn:SN
 A:bU
 c:Nat
 xs:List RX
theorem iT (c:C) (lA:bU) (ln lC:Nat) (l:List Op) (q:Nat) (w:World) (hw:W0 [Res.blk q 58 [dC none 0 0]] w) (hc:chk c=0) (hk:c.ok) (hrd:Rd w [Res.blk q 58 [dC none 0 0]] lA ln 4 (l.map Op.c)) (hl:∀y∈l,y.ok) (hln:l.length≤1000000):au (ι:=PX) Tryz.prog 67 [c.v,.slice lA ln lC,.func (.func 69) #[] [aG q].toArray] w [Res.blk q 58 [dC none 0 0]] (fun x=>x.a.Rep (aw (Δ c) l).1∧x.xs.map RX.r=(aw (Δ c) l).2) (fun x=>.tuple [.agg ([aI (((aw (Δ c) l).1).blk),aH ((aw (Δ c) l).1).ep,.slice x.sn.vA ((aw (Δ c) l).1).l.length x.sn.vc,aJ ((aw (Δ c) l).1).dep,aJ ((aw (Δ c) l).1).paid,aJ ((aw (Δ c) l).1).burn,aJ (dZ ((aw (Δ c) l).1).l),.slice x.sn.pA ((aw (Δ c) l).1).pend.length x.sn.pc,.slice x.sn.fA ((aw (Δ c) l).1).q.f.length x.sn.fc,.slice x.sn.oA ((aw (Δ c) l).1).q.v.length x.sn.oc,.slice x.sn.mA ((aw (Δ c) l).1).mg.length x.sn.mc,.slice x.sn.rA ((aw (Δ c) l).1).pt.length x.sn.rc,aI (((aw (Δ c) l).1).cur),aJ ((aw (Δ c) l).1).m.bal,aI (((aw (Δ c) l).1).bo.length)]).toArray,aH 0].toArray) (fun x=>[Eng x.p x.a (aw (Δ c) l).1,Res.row x.sn.vA (((aw (Δ c) l).1).l).length x.sn.vc 52 7 ((((aw (Δ c) l).1).l).map V.c),Res.row x.sn.pA (((aw (Δ c) l).1).pend).length x.sn.pc 3 1 ((((aw (Δ c) l).1).pend).map aC),Res.row x.sn.fA (((aw (Δ c) l).1).q.f).length x.sn.fc 3 1 ((((aw (Δ c) l).1).q.f).map aC),Res.row x.sn.oA (((aw (Δ c) l).1).q.v).length x.sn.oc 3 1 ((((aw (Δ c) l).1).q.v).map aC),Res.row x.sn.mA (((aw (Δ c) l).1).mg).length x.sn.mc 106 2 ((((aw (Δ c) l).1).mg).map PP.c),Res.row x.sn.rA (((aw (Δ c) l).1).pt).length x.sn.rc 110 2 ((((aw (Δ c) l).1).pt).map Rq.c),Res.row x.A (x.xs).length x.c 47 9 ((x.xs).map RX.c),Res.star ((x.xs).flatMap RX.rows)]) (fun x=>[Res.blk q 58 [dC x.A (x.xs).length x.c]]):=by
 refine tX Tryz.func67 rfl 30 rfl aM (fps [Res.blk q 58 [dC none 0 0]]) [Res.blk q 58 [dC none 0 0]] hw _ rfl ?_;have hm:ln=l.length:=by have:=hrd.old.len;simpa using this
 have H9:(Δ c).blk+l.length<1000000000:=by show 0+l.length<_;omega
 refine Ri ?_;refine aa (aq rfl rfl rfl fun b3=>?_);refine aa (zK rfl fun b6=>?_);refine aa (zK rfl fun b7=>rn [0,1,52] ?_);refine aa (ky (fst:=[]) (cap:=[aG b6,aG b7]) rfl rfl (rn [0,1,45] ?_));refine aa (zJ [] rfl (fun w1 a6 a8=>by have h7:=Au c w1 hc hk;exact h7) rfl ?_);rintro⟨Y8,a13⟩ r13;refine ii ?_;simp only at r13;refine Su ?_;refine zF (b:=b7) [aH 0] aP ?_;refine zF (b:=b6) [aH 0,aH 0,.slice none 0 0,aJ 0,aJ 0,aJ 0,aJ 0,.slice none 0 0,.slice none 0 0,.slice none 0 0,.slice none 0 0,.slice none 0 0,aH 0,aJ 0,aH 0] aP ?_;refine zF (b:=q) [dC none ([]:List RX).length 0] aP ?_;refine zY none 47 9 (([]:List RX).map RX.c) aP ?_;refine mv ?_;refine yB (L' := [Res.star (([]:List RX).flatMap RX.rows),Res.row none ([]:List RX).length 0 47 9 (([]:List RX).map RX.c),Eng Y8 a13 (da (Δ c) l 0).1,Res.blk b7 29 [aH 0],Res.blk b6 42 [aH 0,aH 0,.slice none 0 0,aJ 0,aJ 0,aJ 0,aJ 0,.slice none 0 0,.slice none 0 0,.slice none 0 0,.slice none 0 0,.slice none 0 0,aH 0,aJ 0,aH 0],Res.blk b3 24 c.c,Res.blk q 58 [dC none ([]:List RX).length 0]]) aP ?_;refine dP [2,6,7,8,14,15] (fun(x:Nat × EG × bU × Nat × List RX)=>[(16,aI x.1)]) (fun(x:Nat × EG × bU × Nat × List RX)=>[Res.blk b6 42 [aH 0,aH 0,.slice none 0 0,aJ 0,aJ 0,aJ 0,aJ 0,.slice none 0 0,.slice none 0 0,.slice none 0 0,.slice none 0 0,.slice none 0 0,aH 0,aJ 0,aH 0],Res.blk b7 29 [aH 0],Eng Y8 x.2.1 (da (Δ c) l x.1).1,Res.blk q 58 [dC x.2.2.1 (x.2.2.2.2).length x.2.2.2.1],Res.row x.2.2.1 (x.2.2.2.2).length x.2.2.2.1 47 9 ((x.2.2.2.2).map RX.c),Res.star ((x.2.2.2.2).flatMap RX.rows)]) (fun(x:Nat × EG × bU × Nat × List RX)=>x.1≤ln∧EG.Rep x.2.1 (da (Δ c) l x.1).1∧(x.2.2.2.2).map RX.r=(da (Δ c) l x.1).2) (fun(x:Nat × EG × bU × Nat × List RX)=>ln-x.1) (0,a13,none,0,[]) (by(try dsimp only);exact⟨cN _,r13,rfl⟩) ?_;rintro⟨k,a9,A9,c9,xs⟩ ⟨f6,j7,C3⟩;replace f6:k≤ln:=f6;replace j7:EG.Rep a9 (da (Δ c) l k).1:=j7;replace C3:(xs).map RX.r=(da (Δ c) l k).2:=C3;refine yB (L' := [Res.blk b6 42 [aH 0,aH 0,.slice none 0 0,aJ 0,aJ 0,aJ 0,aJ 0,.slice none 0 0,.slice none 0 0,.slice none 0 0,.slice none 0 0,.slice none 0 0,aH 0,aJ 0,aH 0],Res.blk b7 29 [aH 0],Eng Y8 a9 (da (Δ c) l k).1,Res.blk q 58 [dC A9 (xs).length c9],Res.row A9 (xs).length c9 47 9 ((xs).map RX.c),Res.star ((xs).flatMap RX.rows)]) rfl ?_;refine ae 16 (v' := aI k) rfl rfl ?_;obtain⟨I3,hb9,p4,j8⟩:=vL (tS hc hk) hl H9 k aK;have hxl:xs.length=k:=by rw[←j8,←C3];simp
 have K0:(Δ c).blk=0:=rfl;refine Rj ?_;refine zB rfl (fun h1=>?_) (fun h1=>?_)
 ·have f8:k<ln:=by have h9:=bW h1;omega
  have X9:k<l.length:=by omega
  obtain⟨yk,D4⟩:∃z,z=l[k]:=⟨_,rfl⟩
  have hyo:yk.ok:=D4 ▸ hl _ (cC X9);have D9:(da (Δ c) l (k+1))=lg (da (Δ c) l k) yk:=by rw[D4];exact vD X9
  refine Ry ?_;refine s_q (zM (i:=k) rfl rfl rfl hrd.rdb aN) rfl ?_;refine s_q (zU (i:=k) rfl hrd.rdb (zP aX) rfl) rfl ?_;refine aa (zK rfl fun t4=>rn [33] ?_);refine zF (b:=t4) (Op.c yk) (by rw[D4]) (rn [0,1,2,2,2,45] ?_);refine aa (zJ _ rfl (fun w1 a6 a8=>by have h7:=BG Y8 a9 (da (Δ c) l k).1 yk w1 a8 I3 j7 hyo aK;exact h7) rfl ?_);rintro B3 r24;refine ii ?_;refine aa (xV [Res.blk q 58 [dC A9 xs.length c9],Res.row A9 xs.length c9 47 9 (xs.map RX.c)] rfl rfl (fun w1 a6 a8=>by have h7:=wo (aG Y8.eb) q A9 c9 xs (⟨(ao (da (Δ c) l k).1 yk).2,B3.O,B3.oc,B3.pA,B3.pc⟩:RX) w1 a8 aK;exact h7) rfl ?_);rintro⟨A25,D0⟩ _;refine ii (rn [48,0,20,12,15,7,10,43,2,9] ?_);refine kA (xs.flatMap RX.rows) [Res.row B3.O (ao (da (Δ c) l k).1 yk).2.ag.length B3.oc 55 3 ((ao (da (Δ c) l k).1 yk).2.ag.map As.cs),Res.row B3.pA (ao (da (Δ c) l k).1 yk).2.ps.length B3.pc 50 3 ((ao (da (Δ c) l k).1 yk).2.ps.map Y.c)] ?_;refine yB (L' := [Res.star ((xs++[(⟨(ao (da (Δ c) l k).1 yk).2,B3.O,B3.oc,B3.pA,B3.pc⟩:RX)]).flatMap RX.rows),Res.blk t4 35 yk.c,Res.blk b6 42 [aH 0,aH 0,.slice none 0 0,aJ 0,aJ 0,aJ 0,aJ 0,.slice none 0 0,.slice none 0 0,.slice none 0 0,.slice none 0 0,.slice none 0 0,aH 0,aJ 0,aH 0],Res.blk b7 29 [aH 0],Eng Y8 B3.a (da (Δ c) l (k+1)).1,Res.blk q 58 [dC A25 (xs++[(⟨(ao (da (Δ c) l k).1 yk).2,B3.O,B3.oc,B3.pA,B3.pc⟩:RX)]).length D0],Res.row A25 (xs++[(⟨(ao (da (Δ c) l k).1 yk).2,B3.O,B3.oc,B3.pA,B3.pc⟩:RX)]).length D0 47 9 ((xs++[(⟨(ao (da (Δ c) l k).1 yk).2,B3.O,B3.oc,B3.pA,B3.pc⟩:RX)]).map RX.c)]) (by rw[D9,List.flatMap_append,List.flatMap_cons,List.flatMap_nil,cZ];rfl) ?_;exact cr ((k+1),B3.a,A25,D0,(xs++[(⟨(ao (da (Δ c) l k).1 yk).2,B3.O,B3.oc,B3.pA,B3.pc⟩:RX)])) (by(try dsimp only);exact⟨aN,(by rw[D9];exact r24),(by rw[D9,cA,C3];rfl)⟩)
 have f9:k=ln:=by have h9:=bX h1;omega
 subst f9;obtain⟨hiE,_,_,_⟩:=vL (tS hc hk) hl H9 k aK;have hE:(da (Δ c) l k)=aw (Δ c) l:=by rw[hm];exact vM _ _
 rw[hE] at j7 C3 hiE;rw[hE];refine Ru ?_;refine zE (zE (zQ (rn [7,1,2] ?_)));refine aa (zJ _ rfl (fun w1 a6 a8=>by have h7:=Bf Y8 a9 (aw (Δ c) l).1 w1 a8 hiE j7;exact h7) rfl ?_);rintro C5 _;refine ii (rn [33] ?_);refine aa (zI rfl rfl rfl rfl rfl rfl rfl (rn [0,11] ?_));refine Hp [] (fun w1 a6 a8=>og _ _ w1) ?_ _ (.inl rfl);rintro⟨⟩ _;refine⟨_,_,inferInstance,inferInstance,?_⟩;exact De rfl (.cellw rfl rfl) (.cell1 rfl rfl) (fun w' a5 => ⟨(⟨Y8,a9,C5,A9,c9,xs⟩:PX),⟨j7,C3⟩,rfl,by have h9:=zG (L' := [Eng Y8 a9 (aw (Δ c) l).1,Res.row C5.vA (((aw (Δ c) l).1).l).length C5.vc 52 7 ((((aw (Δ c) l).1).l).map V.c),Res.row C5.pA (((aw (Δ c) l).1).pend).length C5.pc 3 1 ((((aw (Δ c) l).1).pend).map aC),Res.row C5.fA (((aw (Δ c) l).1).q.f).length C5.fc 3 1 ((((aw (Δ c) l).1).q.f).map aC),Res.row C5.oA (((aw (Δ c) l).1).q.v).length C5.oc 3 1 ((((aw (Δ c) l).1).q.v).map aC),Res.row C5.mA (((aw (Δ c) l).1).mg).length C5.mc 106 2 ((((aw (Δ c) l).1).mg).map PP.c),Res.row C5.rA (((aw (Δ c) l).1).pt).length C5.rc 110 2 ((((aw (Δ c) l).1).pt).map Rq.c),Res.row A9 (xs).length c9 47 9 ((xs).map RX.c),Res.star ((xs).flatMap RX.rows),Res.blk q 58 [dC A9 (xs).length c9]]) w' a5;exact h9⟩)
theorem Bw {bs:List Nat} (hb:∀b∈bs,b<256) {k:Nat} (hk:k≤8):rdN (bs.take k)<18446744073709551616:=by
 rcases Nat.le_total k bs.length with h|h
 ·exact Nat.lt_of_lt_of_le (iM hb k h) (Nat.pow_le_pow_right aO hk)
 have h1:=iM hb bs.length (cM _);rw[cP h];rw[cI] at h1;exact Nat.lt_of_lt_of_le h1 (Nat.le_trans (Nat.pow_le_pow_right (n:=256) (j:=8) aO aK) aO)
theorem rO (z:Int):-9223372036854775808≤IntKind.i64.wrap z∧IntKind.i64.wrap z≤9223372036854775807:=by rw[IntKind.wrap_i64];omega
theorem Bh {j:Nat} {y:Op} {v:Int} (hy:y.ok) (hv:0≤v∧v≤18446744073709551615):(gN j y v).ok:=by
 unfold gN;split
 ·exact⟨hy.k,hy.i,hy.t,hv⟩
 ·exact⟨hy.k,rO _,hy.t,hy.a⟩
 exact⟨hy.k,hy.i,rO _,hy.a⟩
theorem rm:∀(js:List Nat) (t:Op × List Nat),t.1.ok→(∀b∈t.2,b<256)→(js.foldl oY t).1.ok
 | [],_,h,_=>h
 | j :: js,t,h,hb=>rm js (oY t j) (Bh h ⟨Int.natCast_nonneg _,by have:=Bw hb (gw j).2;omega⟩) fun b hbm=>hb b (cL hbm)
theorem uw:zO.ok:=by constructor<;>simp[zO]
theorem Cy {bs:List Nat} (hb:∀b∈bs,b<256) (p:Nat):(eA bs p).1.ok:=by
 unfold eA;split
 ·rename_i hp;split
  ·exact uw
  split
  ·exact uw
  have h1:=hb _ (cC hp);refine rm _ _ ⟨by simp only;omega,aM,aM,aM⟩ fun b hbm=>hb b (cL hbm)
 exact uw
theorem qJ {bs:List Nat} (hb:∀b∈bs,b<256):∀(k p:Nat),∀y∈fq bs k p,y.ok
 | 0,_,_,h=>by simp[fq] at h
 | k+1,p,y,h=>by
  unfold fq at h;split at h
  ·rcases cH.1 h with rfl|h
   ·exact Cy hb p
   exact qJ hb k _ y h
  simp at h
theorem lq (c:C) (A:bU) (n cap:Nat) (bs:List Nat) (w:World) (hc:chk c=0) (hk:c.ok) (hrd:Rd w [] A n 1 (bs.map aE)) (j5:n≤cap) (hn:n≤1000000) (hby:∀b∈bs,b<256):au (ι:=PX) Tryz.prog 16 [c.v,.slice A n cap] w [] (fun x=>x.a.Rep (aw (Δ c) (ct bs)).1∧x.xs.map RX.r=(aw (Δ c) (ct bs)).2) (fun x=>.tuple [.agg (([dC x.A (x.xs).length x.c]++[aI (((aw (Δ c) (ct bs)).1).blk),aH ((aw (Δ c) (ct bs)).1).ep,.slice x.sn.vA ((aw (Δ c) (ct bs)).1).l.length x.sn.vc,aJ ((aw (Δ c) (ct bs)).1).dep,aJ ((aw (Δ c) (ct bs)).1).paid,aJ ((aw (Δ c) (ct bs)).1).burn,aJ (dZ ((aw (Δ c) (ct bs)).1).l),.slice x.sn.pA ((aw (Δ c) (ct bs)).1).pend.length x.sn.pc,.slice x.sn.fA ((aw (Δ c) (ct bs)).1).q.f.length x.sn.fc,.slice x.sn.oA ((aw (Δ c) (ct bs)).1).q.v.length x.sn.oc,.slice x.sn.mA ((aw (Δ c) (ct bs)).1).mg.length x.sn.mc,.slice x.sn.rA ((aw (Δ c) (ct bs)).1).pt.length x.sn.rc,aI (((aw (Δ c) (ct bs)).1).cur),aJ ((aw (Δ c) (ct bs)).1).m.bal,aI (((aw (Δ c) (ct bs)).1).bo.length)])).toArray,aH 0].toArray) (fun x=>[Eng x.p x.a (aw (Δ c) (ct bs)).1,Res.row x.sn.vA (((aw (Δ c) (ct bs)).1).l).length x.sn.vc 52 7 ((((aw (Δ c) (ct bs)).1).l).map V.c),Res.row x.sn.pA (((aw (Δ c) (ct bs)).1).pend).length x.sn.pc 3 1 ((((aw (Δ c) (ct bs)).1).pend).map aC),Res.row x.sn.fA (((aw (Δ c) (ct bs)).1).q.f).length x.sn.fc 3 1 ((((aw (Δ c) (ct bs)).1).q.f).map aC),Res.row x.sn.oA (((aw (Δ c) (ct bs)).1).q.v).length x.sn.oc 3 1 ((((aw (Δ c) (ct bs)).1).q.v).map aC),Res.row x.sn.mA (((aw (Δ c) (ct bs)).1).mg).length x.sn.mc 106 2 ((((aw (Δ c) (ct bs)).1).mg).map PP.c),Res.row x.sn.rA (((aw (Δ c) (ct bs)).1).pt).length x.sn.rc 110 2 ((((aw (Δ c) (ct bs)).1).pt).map Rq.c),Res.row x.A (x.xs).length x.c 47 9 ((x.xs).map RX.c),Res.star ((x.xs).flatMap RX.rows)]) (fun x=>[]):=by
 refine Γ Tryz.func16 21 (WOK.start (fps []) _) ?_;have hm:n=bs.length:=by have:=hrd.old.len;simpa using this
 have hdl:=qI bs;refine Ri ?_;refine aa (aq (c:=C.c c) rfl rfl rfl fun b2=>?_);refine aa (zK rfl fun b4=>rn [3,0,1] ?_);refine aa (zK rfl fun b6=>?_);refine zF (b:=b6) [dC none 0 0] aP (Sw ?_);refine dR (L0:=[Res.blk b2 24 c.c]) [9] an rfl zG (rn [23,0,45,23,1,2,23,3,52] ?_);refine yJ [2,8] aL aM zG ⟨bu rfl (zJ [] rfl (fun w1 a6 a8=>by have h7:=lj A (n) (cap) bs w1 (Rd.ofRd a6 hrd aK) j5 aK hby;exact h7) rfl ?_),bu rfl (zK rfl fun b7=>?_),trivial⟩
 ·rintro⟨A12,D1⟩ _;refine ii ?_;refine yJ [4,8] aL aM zG ⟨bu rfl (zJ _ rfl (fun w1 a6 a8=>by have h7:=iT c A12 ((ct bs).length) (D1) (ct bs) b6 w1 a8 hc hk (Rd.ofRow (A:=A12) a6) (qJ hby _ _) aK;exact h7) rfl ?_),bu rfl (zK rfl fun b7=>?_),trivial⟩
  ·rintro⟨p9,a9,t5,A9,c9,xs⟩ ⟨j7,C3⟩;refine ii ?_;simp only at j7 C3;refine rn [23,5,2,23,6,40,24,7,40] ?_;refine dop 8 rfl (zK rfl fun b7=>?_);refine dop 9 rfl (zT rfl rfl rfl rfl rfl (rn [24,10,3,28,7,1,5,45] ?_));refine s_q (yF (c:=([dC A9 (xs).length c9]++[aI (((aw (Δ c) (ct bs)).1).blk),aH ((aw (Δ c) (ct bs)).1).ep,.slice t5.vA ((aw (Δ c) (ct bs)).1).l.length t5.vc,aJ ((aw (Δ c) (ct bs)).1).dep,aJ ((aw (Δ c) (ct bs)).1).paid,aJ ((aw (Δ c) (ct bs)).1).burn,aJ (dZ ((aw (Δ c) (ct bs)).1).l),.slice t5.pA ((aw (Δ c) (ct bs)).1).pend.length t5.pc,.slice t5.fA ((aw (Δ c) (ct bs)).1).q.f.length t5.fc,.slice t5.oA ((aw (Δ c) (ct bs)).1).q.v.length t5.oc,.slice t5.mA ((aw (Δ c) (ct bs)).1).mg.length t5.mc,.slice t5.rA ((aw (Δ c) (ct bs)).1).pt.length t5.rc,aI (((aw (Δ c) (ct bs)).1).cur),aJ ((aw (Δ c) (ct bs)).1).m.bal,aI (((aw (Δ c) (ct bs)).1).bo.length)])) rfl aL) rfl (rn [2,33,3,0,11] ?_);exact dH rfl (.cellw rfl rfl) (.tmp rfl) fun w' a5=>⟨(⟨p9,a9,t5,A9,c9,xs⟩:PX),(by first|exact⟨j7,C3⟩|(dsimp only;exact⟨j7,C3⟩)),rfl,zA w' a5⟩
  refine dop 4 rfl (zJ _ rfl (fun w1 a6 a8=>by have h7:=iT c A12 ((ct bs).length) (D1) (ct bs) b6 w1 a8 hc hk (Rd.ofRow (A:=A12) a6) (qJ hby _ _) aK;exact h7) rfl ?_);rintro⟨p9,a9,t5,A9,c9,xs⟩ ⟨j7,C3⟩;refine ii ?_;simp only at j7 C3;refine rn [23,5,2,23,6,40,24,7,40] ?_;refine dop 9 rfl (zT rfl rfl rfl rfl rfl (rn [24,10,3,28,7,1,5,45] ?_));refine s_q (yF (c:=([dC A9 (xs).length c9]++[aI (((aw (Δ c) (ct bs)).1).blk),aH ((aw (Δ c) (ct bs)).1).ep,.slice t5.vA ((aw (Δ c) (ct bs)).1).l.length t5.vc,aJ ((aw (Δ c) (ct bs)).1).dep,aJ ((aw (Δ c) (ct bs)).1).paid,aJ ((aw (Δ c) (ct bs)).1).burn,aJ (dZ ((aw (Δ c) (ct bs)).1).l),.slice t5.pA ((aw (Δ c) (ct bs)).1).pend.length t5.pc,.slice t5.fA ((aw (Δ c) (ct bs)).1).q.f.length t5.fc,.slice t5.oA ((aw (Δ c) (ct bs)).1).q.v.length t5.oc,.slice t5.mA ((aw (Δ c) (ct bs)).1).mg.length t5.mc,.slice t5.rA ((aw (Δ c) (ct bs)).1).pt.length t5.rc,aI (((aw (Δ c) (ct bs)).1).cur),aJ ((aw (Δ c) (ct bs)).1).m.bal,aI (((aw (Δ c) (ct bs)).1).bo.length)])) rfl aL) rfl (rn [2,33,3,0,11] ?_);exact dH rfl (.cellw rfl rfl) (.tmp rfl) fun w' a5=>⟨(⟨p9,a9,t5,A9,c9,xs⟩:PX),(by first|exact⟨j7,C3⟩|(dsimp only;exact⟨j7,C3⟩)),rfl,zA w' a5⟩
 refine dop 2 rfl (zJ [] rfl (fun w1 a6 a8=>by have h7:=lj A (n) (cap) bs w1 (Rd.ofRd a6 hrd aK) j5 aK hby;exact h7) rfl ?_);rintro⟨A12,D1⟩ _;refine ii ?_;refine dop 4 rfl (zJ _ rfl (fun w1 a6 a8=>by have h7:=iT c A12 ((ct bs).length) (D1) (ct bs) b6 w1 a8 hc hk (Rd.ofRow (A:=A12) a6) (qJ hby _ _) aK;exact h7) rfl ?_);rintro⟨p9,a9,t5,A9,c9,xs⟩ ⟨j7,C3⟩;refine ii ?_;simp only at j7 C3;refine rn [23,5,2,23,6,40,24,7,40] ?_;refine dop 9 rfl (zT rfl rfl rfl rfl rfl (rn [24,10,3,28,7,1,5,45] ?_));refine s_q (yF (c:=([dC A9 (xs).length c9]++[aI (((aw (Δ c) (ct bs)).1).blk),aH ((aw (Δ c) (ct bs)).1).ep,.slice t5.vA ((aw (Δ c) (ct bs)).1).l.length t5.vc,aJ ((aw (Δ c) (ct bs)).1).dep,aJ ((aw (Δ c) (ct bs)).1).paid,aJ ((aw (Δ c) (ct bs)).1).burn,aJ (dZ ((aw (Δ c) (ct bs)).1).l),.slice t5.pA ((aw (Δ c) (ct bs)).1).pend.length t5.pc,.slice t5.fA ((aw (Δ c) (ct bs)).1).q.f.length t5.fc,.slice t5.oA ((aw (Δ c) (ct bs)).1).q.v.length t5.oc,.slice t5.mA ((aw (Δ c) (ct bs)).1).mg.length t5.mc,.slice t5.rA ((aw (Δ c) (ct bs)).1).pt.length t5.rc,aI (((aw (Δ c) (ct bs)).1).cur),aJ ((aw (Δ c) (ct bs)).1).m.bal,aI (((aw (Δ c) (ct bs)).1).bo.length)])) rfl aL) rfl (rn [2,33,3,0,11] ?_);exact dH rfl (.cellw rfl rfl) (.tmp rfl) fun w' a5=>⟨(⟨p9,a9,t5,A9,c9,xs⟩:PX),(by first|exact⟨j7,C3⟩|(dsimp only;exact⟨j7,C3⟩)),rfl,zA w' a5⟩
def c1R:C:={ Cw with elen:=1 }
def mU:List Op:=([⟨1,0,0,20⟩,⟨7,0,0,0⟩,⟨2,0,0,0⟩]++List.replicate 4 ⟨7,0,0,0⟩:List Op)
def bsR:List Nat:=mU.flatMap wrB
theorem CI:∀y∈mU,y.ok∧okE y=true:=by
 intro y hy;have h:y=⟨1,0,0,20⟩∨y=⟨7,0,0,0⟩∨y=⟨2,0,0,0⟩:=by
  simp[mU] at hy;rcases hy with h|h|h|h
  ·exact .inl h
  ·exact .inr (.inl h)
  ·exact .inr (.inr h)
  exact .inr (.inl h)
 rcases h with rfl|rfl|rfl
 ·exact⟨by constructor<;>simp,by decide +kernel⟩
 ·exact⟨by constructor<;>simp,by decide +kernel⟩
 exact⟨by constructor<;>simp,by decide +kernel⟩
theorem FI:∀b∈bsR,b<256:=fun b hb=>by
 obtain⟨y,_,hb⟩:=List.mem_flatMap.1 hb;exact uy b hb
theorem DD:chk c1R=0:=by decide +kernel
theorem FH:c1R.ok:=by constructor<;>simp[c1R,Cw]
theorem Dv:(aw (Δ c1R) (ct bsR)).1.paid=20∧(aw (Δ c1R) (ct bsR)).1.ep=5∧(aw (Δ c1R) (ct bsR)).2.length=7:=by decide +kernel
theorem iC (w:World) : Pur Tryz.prog 9 [] w (.bool true):=by
 refine Γ Tryz.func9 47 (WOK.start [] _) ?_;refine rn [1,3,0,1] ?_;refine aa (zH rfl (fun w hw=>Ad w) rfl ?_);refine aa (zK rfl fun b1=>rn [33,0,1,4] ?_);refine aa (zI rfl rfl rfl rfl rfl rfl rfl ?_);refine zF (b:=b1) (C.c c1R) aP (rn [0,1,49,49,49] ?_);refine aa (bg rfl rfl rfl rfl rfl fun w7=>?_);refine zF (b:=w7) ((([(Op.mk 1 0 0 20),(Op.mk 7 0 0 0),(Op.mk 2 0 0 0)]:List Op).map Op.c).flatten) rfl ?_;refine aa (zJ [] rfl (fun w1 a6 a8=>by have h7:=sg 4 w1 aK;exact h7) rfl ?_);rintro⟨A13,p8⟩ _;refine ii ?_;refine xW (b:=w7) 4 3 (([(Op.mk 1 0 0 20),(Op.mk 7 0 0 0),(Op.mk 2 0 0 0)]:List Op).map Op.c) (yA (c:=Op.c) (fun _=>rfl) _) rfl rfl aO ?_;refine aa (zW (A:=(some ⟨w7,0,none⟩)) (els:=(([(Op.mk 1 0 0 20),(Op.mk 7 0 0 0),(Op.mk 2 0 0 0)]:List Op)).map Op.c) (news:=(((List.replicate 4 (Op.mk 7 0 0 0))).map Op.c)) rfl rfl (ird (A:=A13)) (zZ (c:=Op.c) (by intro x;simp[Op.c,Value.oneCell']) _) bL rfl fun A14 v6=>⟨_,inferInstance,?_⟩);refine zC (A:=A14) (((([(Op.mk 1 0 0 20),(Op.mk 7 0 0 0),(Op.mk 2 0 0 0)]:List Op)++(List.replicate 4 (Op.mk 7 0 0 0)))).map Op.c) (by first|rfl|exact cA.symm|(simp;done)) ?_;refine zC (A:=A14) (mU.map Op.c) aP ?_;refine zR (A:=A14) mU.length aP ?_;refine ae 14 (v' := .slice A14 mU.length v6) rfl aP ?_;refine aa (zJ [] rfl (fun w1 a6 a8=>by have h7:=wh A14 (mU.length) (v6) mU w1 (Rd.ofRow (A:=A14) a6) aO CI;exact h7) rfl ?_);rintro⟨A15,N3⟩ _;refine ii ?_;refine zC (A:=A15) (bsR.map aE) aP ?_;refine zR (A:=A15) bsR.length aP ?_;refine ae 15 (v' := .tuple [.slice A15 bsR.length N3,.bool true].toArray) rfl aP ?_;have H9:bsR.length≤1000:=by decide +kernel
 refine rn [2,40,40,3,3,0,1,45,2] ?_;refine aa (zJ [] rfl (fun w1 a6 a8=>by have h7:=lq c1R A15 (bsR.length) (N3) bsR w1 DD FH (Rd.ofRow (A:=A15) a6) (iH (A:=A15) a6) aK FI;exact h7) rfl ?_);rintro⟨p21,a21,sn21,A21,c21,xs⟩ ⟨j7,C3⟩;refine ii ?_;simp only at j7 C3;have hxl:xs.length=7:=by rw[←Dv.2.2,←C3];simp
 refine Sn ?_;refine aa (zK rfl fun b4=>rn [33,3,0,1,2,2,22,2,22,44] ?_);refine zV 27 (b:=true) rfl (rfl) (rn [41,2,22,4,22,4,22,5,22,44] ?_);refine zV 33 (b:=true) rfl (by rw[Dv.1];rfl) (rn [41,2,22,4,22,4,22,5,22,44] ?_);refine zV 39 (b:=true) rfl (by rw[Dv.2.1];rfl) (rn [41,2,22,4,22,5,22,47,22,44] ?_);refine zV 45 (b:=true) rfl (by rw[hxl];rfl) (rn [41,3,0,11] ?_);exact dD rfl rfl fun w' a5=>⟨aP,a5.upd⟩
def fz (c:C) (n:Nat):Bool:=decide (chk c=0∧c.capa≤100∧c.vis≤200∧c.pays≤200∧c.merg≤200∧c.qsize≤200∧n≤400)
theorem rL {c:C} {n:Nat} (h:¬(chk c=0∧c.capa≤100∧c.vis≤200∧c.pays≤200∧c.merg≤200∧c.qsize≤200∧n≤400)):(if fz c n=true then(1:Int) else 0)=0:=by
 unfold fz;rw[cY h];rfl
theorem AV (c:C) (A:bU) (n cap:Nat) (w:World) : Pur Tryz.prog 8 [c.v,.slice A n cap] w (aH (if fz c n=true then 1 else 0)):=by
 refine Γ Tryz.func8 38 (WOK.start [] _) ?_;refine Ri ?_;refine aa (aq rfl rfl rfl fun b2=>rn [3,0,8,1,45] ?_);refine aa (zH rfl (fun w hw=>DC _ w) rfl (rn [51,2] ?_));refine zS 8 rfl (fun h1=>?_) (fun h1=>?_)
 ·have h0:(if fz c n=true then(1:Int) else 0)=0:=rL (fun hc=>by have h9:=h1;simp at h9;exact h9 hc.1);refine rn [21,21,21,41,2,21,21,21,41,2,21,21,21,41,2,21,21,21,41,2,21,21,21,41,2,21,21,21,41,0,19,1,3,0,11,13] ?_;exact dD rfl rfl fun w' a5=>⟨by first|rw[h0]|rw[o7],a5.upd⟩
 have f0:=h1;refine SM ?_;refine zS 13 rfl (fun h2=>?_) (fun h2=>?_)
 ·have h0:(if fz c n=true then(1:Int) else 0)=0:=rL (fun hc=>by have h9:=h2;simp at h9;have h8:=hc.2.1;omega);refine rn [21,21,21,41,2,21,21,21,41,2,21,21,21,41,2,21,21,21,41,2,21,21,21,41,0,19,1,3,0,11,13] ?_;exact dD rfl rfl fun w' a5=>⟨by first|rw[h0]|rw[o7],a5.upd⟩
 have f1:=h2;refine SM ?_;refine zS 18 rfl (fun h3=>?_) (fun h3=>?_)
 ·have h0:(if fz c n=true then(1:Int) else 0)=0:=rL (fun hc=>by have h9:=h3;simp at h9;have h8:=hc.2.2.1;omega);refine rn [21,21,21,41,2,21,21,21,41,2,21,21,21,41,2,21,21,21,41,0,19,1,3,0,11,13] ?_;exact dD rfl rfl fun w' a5=>⟨by first|rw[h0]|rw[o7],a5.upd⟩
 have f2:=h3;refine SM ?_;refine zS 23 rfl (fun h4=>?_) (fun h4=>?_)
 ·have h0:(if fz c n=true then(1:Int) else 0)=0:=rL (fun hc=>by have h9:=h4;simp at h9;have h8:=hc.2.2.2.1;omega);refine rn [21,21,21,41,2,21,21,21,41,2,21,21,21,41,0,19,1,3,0,11,13] ?_;exact dD rfl rfl fun w' a5=>⟨by first|rw[h0]|rw[o7],a5.upd⟩
 have f3:=h4;refine SM ?_;refine zS 28 rfl (fun h5=>?_) (fun h5=>?_)
 ·have h0:(if fz c n=true then(1:Int) else 0)=0:=rL (fun hc=>by have h9:=h5;simp at h9;have h8:=hc.2.2.2.2.1;omega);refine rn [21,21,21,41,2,21,21,21,41,0,19,1,3,0,11,13] ?_;exact dD rfl rfl fun w' a5=>⟨by first|rw[h0]|rw[o7],a5.upd⟩
 have f4:=h5;refine SM ?_;refine zS 33 rfl (fun h6=>?_) (fun h6=>?_)
 ·have h0:(if fz c n=true then(1:Int) else 0)=0:=rL (fun hc=>by have h9:=h6;simp at h9;have h8:=hc.2.2.2.2.2.1;omega);refine rn [21,21,21,41,0,19,1,3,0,11,13] ?_;exact dD rfl rfl fun w' a5=>⟨by first|rw[h0]|rw[o7],a5.upd⟩
 have f5:=h6;refine rn [22,2,22,47,22,55,42,0] ?_;refine zB rfl (fun h7=>?_) (fun h7=>?_)
 ·have h0:(if fz c n=true then(1:Int) else 0)=0:=rL (fun hc=>by have h9:=h7;simp at h9;have h8:=hc.2.2.2.2.2.2;omega);refine Re ?_;exact dD rfl rfl fun w' a5=>⟨by first|rw[h0]|rw[o7],a5.upd⟩
 have o7:(if fz c n=true then(1:Int) else 0)=1:=by unfold fz;rw[cX];rfl;simp at f0 f1 f2 f3 f4 f5;have h9:=h7;simp at h9;exact⟨f0,aK,aK,aK,aK,aK,aK⟩
 refine rn [12,7,1,3,0,11] ?_;exact dD rfl rfl fun w' a5=>⟨by first|rw[h0]|rw[o7],a5.upd⟩
theorem yv {s:Eg} (h:Inv s):(dV s).1.ep=s.ep:=(qY h).2.2.1
theorem DJ (s:Eg):(dO s).1.ep=s.ep:=rfl
theorem BM {s:Eg} (h:Inv s) (hb:s.blk<1000000000) (y:Op):∃a b:Nat,(ao s y).2.ag=(s.q.f.take a).map (fun i=>As.mk i 0 ((ao s y).2.ep+1))++(s.q.v.take b).map (fun i=>As.mk i 1 ((ao s y).2.ep+1))∧a≤s.q.f.length∧b≤s.q.v.length∧(0<b→a=s.q.f.length):=by
 unfold ao;split
 ·rw[wH];obtain⟨hm,hB⟩:=uX h hb;have J9:=yv hm;simp only;rw[J9];by_cases hc:(s.blk+1)%s.c.elen.toNat=0
  ·obtain⟨B⟩:=hB hc;have H7:fC s=dO { s with blk:=s.blk+1 }:=bZ hc;obtain⟨a,b,g1,g2,g3,g4⟩:=B.hs;refine⟨a,b,?_,g2,g3,g4⟩;rw[H7,B.ha,DJ];exact g1
  have H7:fC s=({ s with blk:=s.blk+1 },[]):=bY hc;refine⟨0,0,?_,cN _,cN _,aK⟩;rw[H7];simp
 refine⟨0,0,?_,cN _,cN _,aK⟩;have:((fF s y).1,rcp s y (fF s y).2).2.ag=[]:=by
  show(rcp s y (fF s y).2).ag=[]
  unfold rcp;split<;>rfl
 rw[this];simp
theorem Ex {c:C} {n:Nat} (h:decide ((if fz c n=true then(1:Int) else 0)=0)=false):fz c n=true:=by
 by_cases hf:fz c n=true
 ·exact hf
 rw[bY hf] at h;simp at h
theorem iox {l0:List V} {e:Int}:∀(is:List Int) (s:List V × List Y),(is.foldl (cx l0 e) s).2.length=s.2.length+is.length
 | [],_=>rfl
 | i :: is,s=>by rw[cR,iox is];simp[cx];omega
theorem yu {s:Eg} (h:Inv s):(dV s).2.1.length≤10000:=by
 have hk:=h.cok;have hq:=(yM h.cc).qsize;obtain⟨l1,l2,l3,l4,l5,l6⟩:=h.led;have t6:=h.sum;obtain⟨f1,s1,p1⟩:=K2.run (c:=s.c) h.ck.minb.1 (s.pt.take s.c.parts.toNat) (fun r hr=>h.pm r (cD hr)) h.vo aK;have hpt:=h.pt;have j5:=h.cap;have q7:=hk.capa;have h1:(pos (run s.c s.l (s.pt.take s.c.parts.toNat)).2).length≤(s.pt.take s.c.parts.toNat).length:=Nat.le_trans (List.length_filter_le _ _) (nl _ _ _);have h2:(s.pt.take s.c.parts.toNat).length≤s.pt.length:=by simp;omega
 unfold dV;simp only;rw[iox];obtain⟨w1,w2⟩:=rR s.cur ((run s.c s.l (s.pt.take s.c.parts.toNat)).1.map fun v=>decide (v.st=5)) (s.c.vis-((s.pt.take s.c.parts.toNat).length:Nat)) (s.c.pays-((pos (run s.c s.l (s.pt.take s.c.parts.toNat)).2).length:Nat));have h3:=wP (l:=(run s.c s.l (s.pt.take s.c.parts.toNat)).1) w2 (fun i hi=>by
  obtain⟨j,rfl,hj⟩:=w1 i hi;have:=gU hj;exact yL aK)
 have h4:=f1.len;simp only at h3 ⊢;omega
theorem EO {s:Eg} (h:Inv s) (hb:s.blk<1000000000) (y:Op):(ao s y).2.ps.length≤10000:=by
 unfold ao;split
 ·rw[wH];exact yu (uX h hb).1
 have:(rcp s y (fF s y).2).ps=[]:=by unfold rcp;split<;>rfl
 simp only;rw[this];simp
def rl (z:Int) (c:C):C:={ c with rlen:=z }
theorem wi (r:Rc) (O1 O2 P1 P2:bU) (c1 c2 d1 d2:Nat) (w:World) (e1_:Rd w [] O1 r.ag.length 3 (r.ag.map As.cs)) (e2_:Rd w [] O2 r.ag.length 3 (r.ag.map As.cs)) (e3_:Rd w [] P1 r.ps.length 3 (r.ps.map Y.c)) (e4_:Rd w [] P2 r.ps.length 3 (r.ps.map Y.c)) (hn:r.ag.length≤1000000∧r.ps.length≤1000000):Pur Tryz.prog 22 [.agg (RX.c ⟨r,O1,c1,P1,d1⟩).toArray,.agg (RX.c ⟨r,O2,c2,P2,d2⟩).toArray] w (.bool true):=by
 refine Γ Tryz.func22 108 (WOK.start (fps []) _) ?_;refine Ri ?_;refine aa (aq rfl rfl rfl fun b2=>?_);refine aa (aq rfl rfl rfl fun b3=>rn [3,0,8,1,4,5,4,5,51] ?_);refine zV 11 (b:=false) rfl aM (rn [2,22,4,22,5,22,4,22,5,22,51] ?_);refine zV 17 (b:=false) rfl aM (Sb ?_);refine zV 24 (b:=false) rfl aM (Sb ?_);refine zV 31 (b:=false) rfl aM (Sb ?_);refine zV 38 (b:=false) rfl aM (Sb ?_);refine zV 45 (b:=false) rfl aM (Sb ?_);refine zV 52 (b:=false) rfl aM (rn [42,2,22,4,22,5,22,47,22,4,22,5,22,47,22,51] ?_);refine zV 61 (b:=false) rfl aM (rn [42,2,22,4,22,5,22,47,22,4,22,5,22,47,22,51] ?_);refine zV 70 (b:=false) rfl aM (rn [42,0,20,12,7,8,1,3,0,14] ?_);refine dP [2,3,4] (fun(x:Nat)=>[(5,aI x)]) (fun(x:Nat)=>[Res.blk b2 47 (RX.c ⟨r,O1,c1,P1,d1⟩),Res.blk b3 47 (RX.c ⟨r,O2,c2,P2,d2⟩)]) (fun(x:Nat)=>x≤r.ag.length) (fun(x:Nat)=>r.ag.length-x) 0 aW ?_;rintro k f6;replace f6:k≤r.ag.length:=f6;refine rn [8,1,2,4,5] ?_;refine ae 74 (v' := .slice O1 r.ag.length c1) rfl (rfl) (rn [47,46,0] ?_);refine zB rfl (fun h1=>?_) (fun h1=>?_)
 ·have f8:k<r.ag.length:=by have h9:=bW h1;omega
  refine Sg ?_;refine bn [] an rfl (rn [23,0,4,23,1,5,23,2,2] ?_);refine dq 3 rfl (zM (i:=k) rfl rfl rfl e1_.rdb aN) ?_;refine dq 4 rfl (zU (i:=k) rfl e1_.rdb (zP aX) rfl) (rn [23,5,4,23,6,5,23,7,2] ?_);refine dq 8 rfl (zM (i:=k) rfl rfl rfl e2_.rdb aN) ?_;refine dq 9 rfl (zU (i:=k) rfl e2_.rdb (zP aX) rfl) ?_;refine dq 10 rfl (yn rfl rfl rfl) ?_;refine zV 89 (b:=false) rfl aM (SF ?_);exact cr (k+1) aU
 have f9:k=r.ag.length:=by have h9:=bX h1;omega
 refine Ru ?_;refine zE (zE (zQ (rn [7,8,1,3,0,14] ?_)));refine dP [2,3,4] (fun(x:Nat)=>[(6,aI x)]) (fun(x:Nat)=>[Res.blk b2 47 (RX.c ⟨r,O1,c1,P1,d1⟩),Res.blk b3 47 (RX.c ⟨r,O2,c2,P2,d2⟩)]) (fun(x:Nat)=>x≤r.ps.length) (fun(x:Nat)=>r.ps.length-x) 0 aW ?_;rintro k f6;replace f6:k≤r.ps.length:=f6;refine rn [8,1,2,4,5] ?_;refine ae 92 (v' := .slice P1 r.ps.length d1) rfl (rfl) (rn [47,46,0] ?_);refine zB rfl (fun h2=>?_) (fun h2=>?_)
 ·have f8:k<r.ps.length:=by have h9:=bW h2;omega
  refine Sg ?_;refine bn [] an rfl (rn [23,0,4,23,1,5,23,2,2] ?_);refine dq 3 rfl (zM (i:=k) rfl rfl rfl e3_.rdb aN) ?_;refine dq 4 rfl (zU (i:=k) rfl e3_.rdb (zP aX) rfl) (rn [23,5,4,23,6,5,23,7,2] ?_);refine dq 8 rfl (zM (i:=k) rfl rfl rfl e4_.rdb aN) ?_;refine dq 9 rfl (zU (i:=k) rfl e4_.rdb (zP aX) rfl) ?_;refine dq 10 rfl (yn rfl rfl rfl) ?_;refine zV 107 (b:=false) rfl aM (SF ?_);exact cr (k+1) aU
 have f9:k=r.ps.length:=by have h9:=bX h2;omega
 refine Ru ?_;refine zE (zE (zQ (So ?_)));exact dD rfl rfl fun w' a5=>⟨aP,a5.upd⟩
def gk (l:List V) (is:List Int):Int:=(is.map fun i=>(ab l i).bal).sum
theorem sf (l:List V) (i:Int) (is:List Int):gk l (i :: is)=(ab l i).bal+gk l is:=by simp[gk]
theorem gQ:∀(is:List Int) (l:List V),is.Nodup→(∀i,0≤(ab l i).bal)→gk l is≤(bx l).sum
 | [],l,_,h=>xH fun x hx=>by
  obtain⟨v,hv,rfl⟩:=cG.1 hx;obtain⟨j,_,rfl⟩:=wJ hv;exact h j
 | i :: is,l,hn,h=>by
  obtain⟨h1,h2⟩:=List.nodup_cons.1 hn;have h0:=h i;rw[sf];rcases Bool.eq_false_or_eq_true (ax l i) with hi|hi
  ·have ih:=gQ is (dT l i { ab l i with bal:=0 }) h2 (fun j=>by
    rw[yZ];split
    ·exact Int.le_refl _
    exact h j)
   have e1:gk (dT l i { ab l i with bal:=0 }) is=gk l is:=by
    unfold gk;congr 1;apply List.map_congr_left;intro j hj;rw[yZ,bY (fun hc:ax l i=true∧j=i=>h1 (hc.2 ▸ hj))]
   rw[e1,vK l i _ hi] at ih;simp only at ih;omega
  have ih:=gQ is l h2 h;rw[wW hi];simp only[V.z];omega
theorem BB {s:Eg} (h:Inv s) (i:Int):0≤(ab s.l i).bal:=by
 rcases Bool.eq_false_or_eq_true (ax s.l i) with hi|hi
 ·exact(h.vo i hi).b
 rw[wW hi];exact Int.le_refl _
theorem tR {s:Eg} (h:Inv s):okV s.l:=fun x hx=>by
 obtain⟨j,hj,rfl⟩:=wJ hx;have h1:=gQ [j] s.l aM (BB h);have h2:gk s.l [j]=(ab s.l j).bal:=by simp[gk]
 have h3:=BB h j;have h4:=h.sum;obtain⟨l1,l2,l3,l4,l5,l6⟩:=h.led;have h5:=(yM h.cc).maxd.2;omega
theorem EM {P:Program} {κ:Cx} {e:Env} {L:List Res} {d:Tmp} {ty:TypeId} {s:String} {af:Array Edge} {gd:Option (Nat × Bool)} {x y:Operand} {T T' a:Nat} (hx:ev e x=some (aJ (a:Int))) (hy:ev e y=some (aJ 1)) (ha:a<18446744073709551616):cf P κ e L ⟨some d,.binOp .and T x y T',ty,s,af,gd⟩ (aJ ((a%2:Nat):Int)):=fun ac w he _=>by
 have h:=bits_and_u64_nat a 1 ha aK;have e1:a &&& 1=a%2:=Nat.and_two_pow_sub_one_eq_mod a 1;rw[e1] at h;have h1:bits .and .u64 (a:Int) 1=((a%2:Nat):Int):=h;simp only[execOp,he.ev hx,he.ev hy];simp[eqGuard_at_int,binOp_and,intBits_and,h1]
def mdP (a b k:Nat):Nat:=a*(b/2 ^ (64-k))
theorem qm {a b:Nat} (hb:b<18446744073709551616):mdP a b 0=0:=by
 unfold mdP;rw[Nat.div_eq_of_lt (by simpa using hb)];simp
theorem CS (a b:Nat) {k:Nat} (hk:k<64):mdP a b (k+1)=mdP a b k+mdP a b k+(if b/2 ^ (63-k)%2=1 then a else 0):=by
 unfold mdP;have e1:b/2 ^ (64-k)=b/2 ^ (63-k)/2:=by rw[Nat.div_div_eq_div_mul,←Nat.pow_succ,show(63-k).succ=64-k by omega]
 rw[e1,show 64-(k+1)=63-k by omega];generalize b/2 ^ (63-k)=x;have h:=Nat.div_add_mod x 2;split
 ·rename_i h1;rw[h1] at h;have:a*x=a*(2*(x/2)+1):=by rw[h]
  rw[this,Nat.mul_add,Nat.mul_one,Nat.mul_left_comm];omega
 have h1:x%2=0:=by omega
 rw[h1] at h;have:a*x=a*(2*(x/2)):=by rw[show 2*(x/2)=x by omega]
 rw[this,Nat.mul_left_comm];omega
theorem Ed (a b:Nat):mdP a b 64=a*b:=by simp[mdP]
theorem Fz {a b d:Nat} (F8:b≤d) (hd:0<d) (k:Nat):mdP a b k/d≤a:=by
 have h1:mdP a b k≤a*d:=Nat.mul_le_mul_left a (Nat.le_trans (Nat.div_le_self _ _) F8);have h2:=Nat.div_le_div_right (c:=d) h1;rwa [Nat.mul_div_cancel _ hd] at h2
theorem Ac {x y d:Nat} (hd:0<d):(x+y)/d=(if x%d+y%d<d then x/d+y/d else x/d+y/d+1)∧(x+y)%d=(if x%d+y%d<d then x%d+y%d else x%d+y%d-d):=by
 have hx:=Nat.div_add_mod x d;have hy:=Nat.div_add_mod y d;have h1:=cW x hd;have h2:=cW y hd;split
 ·rename_i h;have e:x+y=d*(x/d+y/d)+(x%d+y%d):=by rw[Nat.mul_add];omega
  constructor
  ·rw[e,Nat.mul_add_div hd,Nat.div_eq_of_lt h];rfl
  rw[e,Nat.mul_add_mod,Nat.mod_eq_of_lt h]
 have e:x+y=d*(x/d+y/d+1)+(x%d+y%d-d):=by rw[Nat.mul_add,Nat.mul_add,Nat.mul_one];omega
 constructor
 ·rw[e,Nat.mul_add_div hd,Nat.div_eq_of_lt (show x%d+y%d-d<d by omega)]
 rw[e,Nat.mul_add_mod,Nat.mod_eq_of_lt (show x%d+y%d-d<d by omega)]
theorem qU (a e:Int) (w:World) (ha:-1000≤a∧a≤1000):Pur Tryz.prog 256 [aH a,aH e] w (aH (nxt a e)):=by
 refine Γ Tryz.func256 38 (WOK.start [] _) ?_;refine rn [1,3,0,8,1,2,44,0] ?_;refine zB rfl (fun h1=>?_) (fun h1=>?_)
 ·refine rn [8,1,2,44,2] ?_;refine zS 9 rfl (fun h2=>?_) (fun h2=>?_)
  ·refine rn [21,21,41,0,19,1,3,0,11] ?_;refine zD (zD ?_);exact dD rfl rfl fun w' a5=>⟨by unfold nxt;first|rfl|(simp_all;done)|(simp_all;omega)|(simp_all<;>intros<;>omega),a5.upd⟩
  refine rn [22,2,22,44,42,0] ?_;refine zB rfl (fun h3=>?_) (fun h3=>?_)
  ·refine RN ?_;refine zD (zD ?_);exact dD rfl rfl fun w' a5=>⟨by unfold nxt;first|rfl|(simp_all;done)|(simp_all;omega)|(simp_all<;>intros<;>omega),a5.upd⟩
  refine rn [12,7,8,1,2,44,2] ?_;refine zS 15 rfl (fun h4=>?_) (fun h4=>?_)
  ·refine rn [21,21,41,0,19,1,3,0,11] ?_;refine zD (zD ?_);exact dD rfl rfl fun w' a5=>⟨by unfold nxt;first|rfl|(simp_all;done)|(simp_all;omega)|(simp_all<;>intros<;>omega),a5.upd⟩
  refine rn [22,2,22,44,42,0] ?_;refine zB rfl (fun h5=>?_) (fun h5=>?_)
  ·refine RN ?_;refine zD (zD ?_);exact dD rfl rfl fun w' a5=>⟨by unfold nxt;first|rfl|(simp_all;done)|(simp_all;omega)|(simp_all<;>intros<;>omega),a5.upd⟩
  refine rn [12,7,1,3,0,11,13] ?_;exact dD rfl rfl fun w' a5=>⟨by unfold nxt;first|rfl|(simp_all;done)|(simp_all;omega)|(simp_all<;>intros<;>omega),a5.upd⟩
 refine rn [12,7,8,1,2,44,2] ?_;refine zS 21 rfl (fun h6=>?_) (fun h6=>?_)
 ·refine rn [22,2,22,44,41,0] ?_;refine zB rfl (fun h7=>?_) (fun h7=>?_)
  ·refine Re ?_;exact dD rfl rfl fun w' a5=>⟨by unfold nxt;first|rfl|(simp_all;done)|(simp_all;omega)|(simp_all<;>intros<;>omega),a5.upd⟩
  refine rn [12,7,8,1,2,53,2] ?_;refine zS 27 rfl (fun h8=>?_) (fun h8=>?_)
  ·refine rn [22,2,22,56,41,2] ?_;refine zS 31 rfl (fun h9=>?_) (fun h9=>?_)
   ·refine rn [22,2,22,2,22,44,41,0] ?_;refine zB rfl (fun K3=>?_) (fun K3=>?_)
    ·refine Nb ?_;refine s_q (yI (z:=a+1) rfl rfl (by rw[dY aK aK])) rfl (rn [3,0,11,13] ?_);exact dD rfl rfl fun w' a5=>⟨by unfold nxt;first|rfl|(simp_all;done)|(simp_all;omega)|(simp_all<;>intros<;>omega),a5.upd⟩
    refine rn [12,7,1,3,0,11] ?_;exact dD rfl rfl fun w' a5=>⟨by unfold nxt;first|rfl|(simp_all;done)|(simp_all;omega)|(simp_all<;>intros<;>omega),a5.upd⟩
   refine rn [21,21,21,42,0,20,12,7,1,3,0,11] ?_;exact dD rfl rfl fun w' a5=>⟨by unfold nxt;first|rfl|(simp_all;done)|(simp_all;omega)|(simp_all<;>intros<;>omega),a5.upd⟩
  refine rn [21,21,42,2,21,21,21,42,0,20,12,7,1,3,0,11] ?_;exact dD rfl rfl fun w' a5=>⟨by unfold nxt;first|rfl|(simp_all;done)|(simp_all;omega)|(simp_all<;>intros<;>omega),a5.upd⟩
 refine rn [21,21,42,0,20,12,7,8,1,2,53,2] ?_;refine zS 27 rfl (fun K1=>?_) (fun K1=>?_)
 ·refine rn [22,2,22,56,41,2] ?_;refine zS 31 rfl (fun P8=>?_) (fun P8=>?_)
  ·refine rn [22,2,22,2,22,44,41,0] ?_;refine zB rfl (fun P7=>?_) (fun P7=>?_)
   ·refine Nb ?_;refine s_q (yI (z:=a+1) rfl rfl (by rw[dY aK aK])) rfl (rn [3,0,11,13] ?_);exact dD rfl rfl fun w' a5=>⟨by unfold nxt;first|rfl|(simp_all;done)|(simp_all;omega)|(simp_all<;>intros<;>omega),a5.upd⟩
   refine rn [12,7,1,3,0,11] ?_;exact dD rfl rfl fun w' a5=>⟨by unfold nxt;first|rfl|(simp_all;done)|(simp_all;omega)|(simp_all<;>intros<;>omega),a5.upd⟩
  refine rn [21,21,21,42,0,20,12,7,1,3,0,11] ?_;exact dD rfl rfl fun w' a5=>⟨by unfold nxt;first|rfl|(simp_all;done)|(simp_all;omega)|(simp_all<;>intros<;>omega),a5.upd⟩
 refine rn [21,21,42,2,21,21,21,42,0,20,12,7,1,3,0,11] ?_;exact dD rfl rfl fun w' a5=>⟨by unfold nxt;first|rfl|(simp_all;done)|(simp_all;omega)|(simp_all<;>intros<;>omega),a5.upd⟩
theorem jh (q r x d:Nat) (w:World) (hr:r<d) (hx:x<d) (hd:d<18446744073709551616) (hq:(if r+x<d then q else q+1)<18446744073709551616):Pur Tryz.prog 323 [aJ ((q:Nat):Int),aJ ((r:Nat):Int),aJ ((x:Nat):Int),aJ ((d:Nat):Int)] w (.tuple [aJ (((if r+x<d then q else q+1):Nat):Int),aJ (((if r+x<d then r+x else r+x-d):Nat):Int),.bool true].toArray):=by
 refine Γ Tryz.func323 30 (WOK.start [] _) ?_;refine rn [1,3,3,3,0,8,1,2,2,2] ?_;refine s_q (yN (z:=((d-x:Nat):Int)) rfl rfl (by rw[ey aK aK];omega)) rfl (rn [46,0] ?_);refine zB rfl (fun h1=>?_) (fun h1=>?_)
 ·refine rn [1,2,2,2] ?_;refine s_q (yI (z:=((r+x:Nat):Int)) rfl rfl (by have h9:=h1;simp at h9;rw[ey aK aK];omega)) rfl (rn [3,3,3,0,11,13] ?_);exact dI rfl (.tmp rfl) (.tmp rfl) (.tmp rfl) fun w' a5=>⟨by have h9:=h1;simp at h9;rw[bZ (show r+x<d by omega),bZ (show r+x<d by omega)],a5.upd⟩
 refine rn [12,7,8,1,2] ?_;refine aa (zH rfl (fun w1 a6=>qE w1) rfl (rn [44] ?_));refine zV 22 (b:=false) rfl (cY (by have h9:=h1;simp at h9;rw[bY aK] at hq;omega)) (rn [0,20,12,7,1,2] ?_);refine s_q (yI (z:=((q+1:Nat):Int)) rfl rfl (by have h9:=h1;simp at h9;rw[bY aK] at hq;rw[ey aK aK];omega)) rfl (rn [2,2,2] ?_);refine s_q (yN (z:=((d-x:Nat):Int)) rfl rfl (by rw[ey aK aK];omega)) rfl ?_;refine s_q (yN (z:=((r+x-d:Nat):Int)) rfl rfl (by have h9:=h1;simp at h9;rw[ey aK aK];omega)) rfl (rn [3,3,3,0,11] ?_);exact dI rfl (.tmp rfl) (.tmp rfl) (.tmp rfl) fun w' a5=>⟨by have h9:=h1;simp at h9;rw[bY (show¬r+x<d by omega),bY (show¬r+x<d by omega)],a5.upd⟩
theorem mB (a b d:Nat) (w:World) (ha:a<18446744073709551616) (hb:b<18446744073709551616) (hd:d<18446744073709551616) (hd0:0<d) (F8:b≤d):Pur Tryz.prog 301 [aJ ((a:Nat):Int),aJ ((b:Nat):Int),aJ ((d:Nat):Int)] w (.tuple [aJ ((a*b/d:Nat):Int),.bool true].toArray):=by
 refine Γ Tryz.func301 64 (WOK.start [] _) ?_;refine rn [1,3,3,0,8,1,2,44] ?_;refine zV 14 (b:=false) rfl (cY aK) (rn [0,20,12,7,1,3,0,1,3,0,8,1,3,0,14] ?_);refine ae 8 (v' := aJ ((mdP a b 0/d:Nat):Int)) rfl (by rw[qm hb];simp) ?_;refine ae 9 (v' := aJ ((mdP a b 0%d:Nat):Int)) rfl (by rw[qm hb];simp) ?_;refine ae 10 (v' := aH (63-((0:Nat):Int))) rfl aP ?_;refine dP [0,1,2,6,7] (fun(x:Nat)=>[(8,aJ ((mdP a b x/d:Nat):Int)),(9,aJ ((mdP a b x%d:Nat):Int)),(10,aH (63-((x:Nat):Int)))]) (fun(x:Nat)=>[]) (fun(x:Nat)=>x≤64) (fun(x:Nat)=>64-x) 0 aW ?_;rintro k f6;replace f6:k≤64:=f6;refine rn [8,1,2,53,0] ?_;refine zB rfl (fun h1=>?_) (fun h1=>?_)
 ·have f8:k<64:=by have h9:=bW h1;omega
  have hm1:=Fz F8 hd0 (a:=a) (k+1);have hs:=CS a b f8;have hs1:=Ac (x:=mdP a b k) (y:=mdP a b k) hd0;have hs2:=Ac (x:=mdP a b k+mdP a b k) (y:=a) hd0;have o6:(mdP a b k+mdP a b k)/d≤mdP a b (k+1)/d:=Nat.div_le_div_right aK;have hge:mdP a b k/d+mdP a b k/d≤(mdP a b k+mdP a b k)/d:=by rw[hs1.1];split<;>omega
  have hge2:(mdP a b k+mdP a b k)/d+a/d≤((mdP a b k+mdP a b k)+a)/d:=by rw[hs2.1];split<;>omega
  have z1:=Int.natCast_nonneg (mdP a b k/d);have z2:=Int.natCast_nonneg ((mdP a b k+mdP a b k)/d);have z3:=Int.natCast_nonneg (a/d);have z4:=Nat.div_le_self a d;have z5:=cW a hd0;have z6:=Int.natCast_nonneg (a%d);refine rn [12,7,8,14,8,1,2] ?_;refine aa (zH rfl (fun w1 a6=>qE w1) rfl ?_);refine s_q (fj rfl rfl aO) rfl ?_;refine ae 21 (v' := aJ 9223372036854775807) rfl aP (rn [55] ?_);refine zV 22 (b:=false) rfl (cY aK) (rn [0,20,12,7,1,2] ?_);refine s_q (uB (z:=((mdP a b k/d+mdP a b k/d:Nat):Int)) rfl rfl (by rw[ey aK aK];omega)) rfl (rn [3,0,1,2,2,2,2] ?_);refine aa (zH rfl (fun w1 a6=>jh (mdP a b k/d+mdP a b k/d) (mdP a b k%d) (mdP a b k%d) d w1 (cW _ hd0) (cW _ hd0) hd (by rw[←hs1.1];omega)) rfl ?_);refine ae 30 (v' := .tuple [aJ (((mdP a b k+mdP a b k)/d:Nat):Int),aJ (((mdP a b k+mdP a b k)%d:Nat):Int),.bool true].toArray) rfl (by rw[hs1.1,hs1.2]) (rn [2,40,40,40,3,3,0,1,2,2] ?_);refine ae 35 (v' := aI (63-k)) rfl (by congr 1;omega) ?_;refine s_q (uA (a:=b) (n:=63-k) rfl rfl aK) rfl ?_;refine s_q (EM (a:=b/2 ^ (63-k)) rfl rfl (Nat.lt_of_le_of_lt (Nat.div_le_self _ _) hb)) rfl (rn [44,0] ?_);refine zB rfl (fun h2=>?_) (fun h2=>?_)
  ·have hbit:b/2 ^ (63-k)%2=1:=by have h9:=bW h2;omega
   rw[bZ hbit] at hs;have w5:mdP a b (k+1)=(mdP a b k+mdP a b k)+a:=hs;have hm2:((mdP a b k+mdP a b k)+a)/d≤a:=w5 ▸ hm1;refine Sf ?_;refine s_q (fj rfl rfl aK) rfl ?_;refine ae 41 (v' := aJ ((a/d:Nat):Int)) rfl (by rw[show((a:Nat):Int).tdiv ((d:Nat):Int)=((a/d:Nat):Int) from rfl,ey aK aK]) (rn [3,0,8,1,2] ?_);refine aa (zH rfl (fun w1 a6=>qE w1) rfl (SD ?_));refine s_q (yN (z:=((18446744073709551615-(mdP a b k+mdP a b k)/d:Nat):Int)) rfl rfl (by rw[ey aK aK];omega)) rfl (rn [55] ?_);refine zV 46 (b:=false) rfl (cY aK) (rn [0,20,12,7,1,2,2] ?_);refine s_q (yI (z:=(((mdP a b k+mdP a b k)/d+a/d:Nat):Int)) rfl rfl (by rw[ey aK aK];omega)) rfl (rn [3,0,1,2,2,2,2] ?_);refine s_q (mI rfl rfl aK) rfl ?_;refine ae 55 (v' := aJ ((a%d:Nat):Int)) rfl (by rw[show((a:Nat):Int).tmod ((d:Nat):Int)=((a%d:Nat):Int) from rfl]) (SD ?_);refine aa (zH rfl (fun w1 a6=>jh ((mdP a b k+mdP a b k)/d+a/d) ((mdP a b k+mdP a b k)%d) (a%d) d w1 (cW _ hd0) (cW _ hd0) hd (by rw[←hs2.1];omega)) rfl ?_);refine ae 57 (v' := .tuple [aJ ((((mdP a b k+mdP a b k)+a)/d:Nat):Int),aJ ((((mdP a b k+mdP a b k)+a)%d:Nat):Int),.bool true].toArray) rfl (by rw[hs2.1,hs2.2]) (rn [2,40,40,40,3,3,3,0,1,2,48,0,20,12,15,7,10,2] ?_);refine s_q (yN (z:=63-((k+1:Nat):Int)) rfl rfl (by rw[dY aK aK];omega)) rfl (rn [3,9] ?_);refine ae 8 (v' := aJ ((mdP a b (k+1)/d:Nat):Int)) rfl (by rw[w5]) ?_;refine ae 9 (v' := aJ ((mdP a b (k+1)%d:Nat):Int)) rfl (by rw[w5]) ?_;refine ae 10 (v' := aH (63-((k+1:Nat):Int))) rfl (by first|rfl|(congr 1;omega)) ?_;exact cr (k+1) aU
  have hbit:¬b/2 ^ (63-k)%2=1:=by have h9:=bX h2;omega
  rw[bY hbit] at hs;have s8:mdP a b (k+1)=(mdP a b k+mdP a b k):=by omega
  refine rn [12,15,7,10,2] ?_;refine s_q (yN (z:=63-((k+1:Nat):Int)) rfl rfl (by rw[dY aK aK];omega)) rfl (rn [3,9] ?_);refine ae 8 (v' := aJ ((mdP a b (k+1)/d:Nat):Int)) rfl (by rw[s8]) ?_;refine ae 9 (v' := aJ ((mdP a b (k+1)%d:Nat):Int)) rfl (by rw[s8]) ?_;refine ae 10 (v' := aH (63-((k+1:Nat):Int))) rfl (by first|rfl|(congr 1;omega)) ?_;exact cr (k+1) aU
 have f9:k=64:=by have h9:=bX h1;omega
 refine Ru ?_;refine zE (zE (zQ (SI ?_)));exact dE rfl rfl rfl fun w' a5=>⟨by rw[f9,Ed],a5.upd⟩
def LdC (c d p b:Int):List Value:=[aJ c,aJ d,aJ p,aJ b]
theorem kT {x:Int} (h:0≤x∧x≤18446744073709551615):∃n:Nat,x=n∧n<18446744073709551616:=⟨x.toNat,aK,aK⟩
theorem ns (e:Int) (w:World) : Pur Tryz.prog 255 [aH e] w (.bool (eN [e])):=by
 refine Γ Tryz.func255 10 (WOK.start [] _) ?_;refine rn [1,3,0,1,2,53,2] ?_;refine zS 5 rfl (fun h1=>?_) (fun h1=>?_)
 ·refine rn [22,2] ?_;refine ff rfl rfl (zH rfl (fun w1 a6=>ie w1) rfl (rn [22,56,41,3,0,11] ?_));exact dD rfl rfl fun w' a5=>⟨by unfold eN;first|(simp_all;done)|(simp_all;omega),a5.upd⟩
 refine Sh ?_;exact dD rfl rfl fun w' a5=>⟨by unfold eN;first|(simp_all;done)|(simp_all;omega),a5.upd⟩
theorem pS (a b d:Int) (w:World) (ha:0≤a∧a≤18446744073709551615) (hb:0≤b) (F8:b≤d) (hd:1≤d∧d≤18446744073709551615):Pur Tryz.prog 261 [aJ a,aJ b,aJ d] w (.tuple [aJ (a*b/d),.bool true].toArray):=by
 refine Γ Tryz.func261 21 (WOK.start [] _) ?_;obtain⟨a,rfl,ha9⟩:=kT ha;obtain⟨b,rfl,hb9⟩:=kT (x:=b) ⟨hb,aK⟩;obtain⟨d,rfl,hd9⟩:=kT (x:=d) aK;refine rn [1,3,3,0,8,1,2,44] ?_;refine zV 9 (b:=false) rfl (cY aK) (rn [2,22,2,22,2,22,55] ?_);refine zV 13 (b:=false) rfl (cY aK) (rn [42,0,20,12,7,1,2,2,2] ?_);refine aa (zH rfl (fun w1 a6=>mB a b d w1 ha9 hb9 hd9 aK aK) rfl (rn [40,40,3,3,0,11] ?_));exact dE rfl rfl rfl fun w' a5=>⟨aP,a5.upd⟩
theorem pT (v:V) (e:Int) (w:World) (hs:-1000≤v.st∧v.st≤1000):Pur Tryz.prog 189 [v.v,aH e] w (.tuple [V.v (cy v e).1,aH (cy v e).2].toArray):=by
 refine Γ Tryz.func189 22 (WOK.start [] _) ?_;refine Ri ?_;refine aa (aq rfl rfl rfl fun b2=>?_);refine aa (zK rfl fun b4=>rn [3,0,8,1,2] ?_);refine aa (zH rfl (fun w1 a6=>ns (e) w1) rfl (rn [48,0] ?_));refine zB rfl (fun h1=>?_) (fun h1=>?_)
 ·refine rn [1,49,33,3,0,11,13] ?_;exact dH rfl (.cellw rfl rfl) (.tmp rfl) fun w' a5=>⟨by unfold cy;rw[bZ (by have h9:=h1;simpa using h9)];rfl,a5.upd⟩
 have hl:eN [e]=true:=by have h9:=h1;simpa using h9
 refine rn [12,7,1,4,5] ?_;refine aa (zH rfl (fun w1 a6=>qU ((v).st) (2) w1 (by have:=hs;omega)) rfl ?_);refine rn [3,0,8,1,2,44,0] ?_;refine zB rfl (fun h2=>?_) (fun h2=>?_)
 ·refine rn [1,49,33,3,0,11,13] ?_;exact dH rfl (.cellw rfl rfl) (.tmp rfl) fun w' a5=>⟨by unfold cy;rw[bY (by rw[hl];simp),bZ (by have h9:=bW h2;exact h9)];rfl,a5.upd⟩
 refine rn [12,7,1,2,4] ?_;refine aa (zI rfl rfl rfl rfl rfl rfl rfl (rn [0,1,2,4] ?_));refine aa (zI rfl rfl rfl rfl rfl rfl rfl (rn [0,1,45,33,3,0,11] ?_));exact dH rfl (.cellw rfl rfl) (.tmp rfl) fun w' a5=>⟨by unfold cy;rw[bY (by rw[hl];simp),bY (by have h9:=bX h2;exact h9)];rfl,a5.upd⟩
theorem pR (v:V) (e:Int) (c:C) (w:World) (he:I64 e) (hu:0≤c.unb∧c.unb≤1048576):Pur Tryz.prog 266 [v.v,aH e,c.v] w (.tuple [V.v (eS v e c).1,aH (eS v e c).2].toArray):=by
 refine Γ Tryz.func266 38 (WOK.start [] _) ?_;refine Ri ?_;refine aa (aq rfl rfl rfl fun b3=>?_);refine aa (aq rfl rfl rfl fun b5=>?_);refine aa (zK rfl fun b6=>rn [3,0,8,1,4,5,51,2] ?_);refine zS 13 rfl (fun h1=>?_) (fun h1=>?_)
 ·have k1:v.st≠3:=by have h9:=h1;simpa using h9
  refine rn [21,21,21,41,0,19,1,49,33,3,0,11,13] ?_;exact dH rfl (.cellw rfl rfl) (.tmp rfl) fun w' a5=>⟨by rw[show eS v e c=(V.z,8) from bZ (.inl k1)];rfl,a5.upd⟩
 have k1:v.st=3:=by have h9:=h1;simpa using h9
 refine rn [22,4,22,5,22,51,42,0] ?_;refine zB rfl (fun h2=>?_) (fun h2=>?_)
 ·have k2:v.ex≠-1:=by have h9:=h2;simpa using h9
  refine rn [1,49,33,3,0,11,13] ?_;exact dH rfl (.cellw rfl rfl) (.tmp rfl) fun w' a5=>⟨by rw[show eS v e c=(V.z,8) from bZ (.inr k2)];rfl,a5.upd⟩
 have k2:v.ex=-1:=by have h9:=h2;simpa using h9
 refine rn [12,7,1,2,4,5] ?_;refine aa (bg rfl rfl rfl rfl rfl fun m0=>?_);refine zF (b:=m0) ((([(c).unb]:List Int).map aC).flatten) rfl ?_;refine aa (zH rfl (fun w1 a6=>rC _ (some ⟨m0,0,none⟩) (1) (1) (([(c).unb]:List Int)) w1 he (Rdb.toOld (InL.rdb (b:=m0) (els:=(([(c).unb]:List Int)).map aC) rfl aM rfl) a6) (by intro x hx;simp at hx;subst hx;unfold I64;omega) bL) rfl ?_);refine Ro ?_;refine zB rfl (fun h3=>?_) (fun h3=>?_)
 ·have k3:eN [e,c.unb]=false:=by have h9:=h3;simpa using h9
  refine rn [1,49,33,3,0,11,13] ?_;exact dH rfl (.cellw rfl rfl) (.tmp rfl) fun w' a5=>⟨by rw[show eS v e c=(V.z,10) from(bY (by simp[k1,k2])).trans (bZ k3)];rfl,a5.upd⟩
 have k3:eN [e,c.unb]=true:=by have h9:=h3;simpa using h9
 refine rn [12,7,1,2,4] ?_;refine aa (zI rfl rfl rfl rfl rfl rfl rfl (rn [0,1,4,5,2,59,4] ?_));refine aa (zI rfl rfl rfl rfl rfl rfl rfl (rn [0,1,45,33,3,0,11] ?_));exact dH rfl (.cellw rfl rfl) (.tmp rfl) fun w' a5=>⟨by rw[show eS v e c=({ v with ex:=e,wd:=max v.wd (eh [e,c.unb]) },0) from(bY (by simp[k1,k2])).trans (bY (by rw[k3];simp))];rfl,a5.upd⟩
theorem iF (v:V) (e:Int) (c:C) (w:World) (hs:-1000≤v.st∧v.st≤1000) (hb:0≤v.bal∧v.bal≤18446744073709551615) (he:I64 e) (hu:0≤c.sld∧c.sld≤1048576) (J5:0≤c.pnum) (S9:c.pnum≤c.pden∧(1≤c.pden∧c.pden≤18446744073709551615)):Pur Tryz.prog 194 [v.v,aH e,c.v] w (.tuple [V.v (bh v e c).1,aJ (bh v e c).2.1,aH (bh v e c).2.2].toArray):=by
 refine Γ Tryz.func194 65 (WOK.start [] _) ?_;refine Ri ?_;refine aa (aq rfl rfl rfl fun b3=>?_);refine aa (aq rfl rfl rfl fun b5=>?_);refine aa (zK rfl fun b6=>rn [3,3,0,8,1,4,5,0] ?_);refine zB rfl (fun h1=>?_) (fun h1=>?_)
 ·have k1:v.sl=true:=h1;refine Sv ?_;exact dI rfl (.cellw rfl rfl) (.tmp rfl) (.tmp rfl) fun w' a5=>⟨by rw[show bh v e c=(V.z,0,9) from bZ k1];rfl,a5.upd⟩
 have k1:v.sl=false:=h1;refine rn [12,7,1,4,5] ?_;refine aa (zH rfl (fun w1 a6=>qU ((v).st) (7) w1 hs) rfl (rn [3,0,8,1,2,44,0] ?_));refine zB rfl (fun h2=>?_) (fun h2=>?_)
 ·have k2:nxt v.st 7=0:=bW h2;refine Sv ?_;exact dI rfl (.cellw rfl rfl) (.tmp rfl) (.tmp rfl) fun w' a5=>⟨by rw[show bh v e c=(V.z,0,8) from(bY (by rw[k1];simp)).trans (bZ k2)];rfl,a5.upd⟩
 have k2:¬nxt v.st 7=0:=bX h2;refine rn [12,7,1,2,4,5] ?_;refine aa (bg rfl rfl rfl rfl rfl fun b27=>?_);refine zF (b:=b27) ((([(c).sld]:List Int).map aC).flatten) rfl ?_;refine aa (zH rfl (fun w1 a6=>rC _ (some ⟨b27,0,none⟩) (1) (1) (([(c).sld]:List Int)) w1 he (Rdb.toOld (InL.rdb (b:=b27) (els:=(([(c).sld]:List Int)).map aC) rfl aM rfl) a6) (by intro x hx;simp at hx;subst hx;unfold I64;omega) bL) rfl ?_);refine Ro ?_;refine zB rfl (fun h3=>?_) (fun h3=>?_)
 ·have k3:eN [e,c.sld]=false:=by have h9:=h3;simpa using h9
  refine Sv ?_;exact dI rfl (.cellw rfl rfl) (.tmp rfl) (.tmp rfl) fun w' a5=>⟨by rw[show bh v e c=(V.z,0,10) from(bY (by rw[k1];simp)).trans ((bY k2).trans (bZ k3))];rfl,a5.upd⟩
 have k3:eN [e,c.sld]=true:=by have h9:=h3;simpa using h9
 refine rn [12,7,8,1,4,5,44,0] ?_;refine zB rfl (fun h4=>?_) (fun h4=>?_)
 ·have k4:v.st=2:=bW h4;refine rn [10,2,4] ?_;refine aa (zI rfl rfl rfl rfl rfl rfl rfl (rn [0,1,4,5,4,5,4,5] ?_));refine aa (zH rfl (fun w1 a6=>pS v.bal c.pnum c.pden w1 hb J5 S9.1 S9.2) rfl (rn [2,40,40,3,3,0,1,4,5,2,57,4] ?_));refine aa (zI rfl rfl rfl rfl rfl rfl rfl (rn [0,1,2,4] ?_));refine aa (zI rfl rfl rfl rfl rfl rfl rfl (rn [0,1,4] ?_));refine aa (zI rfl rfl rfl rfl rfl rfl rfl (rn [0,1,4,5,2,59,4] ?_));refine aa (zI rfl rfl rfl rfl rfl rfl rfl (rn [0,1,4] ?_));refine aa (zI rfl rfl rfl rfl rfl rfl rfl (rn [0,1,45,2,33,3,3,0,11] ?_));exact dI rfl (.cellw rfl rfl) (.tmp rfl) (.tmp rfl) fun w' a5=>⟨by have e1:eM v.bal c=v.bal*c.pnum/c.pden:=bY aK;have e2:bh v e c=({ v with bal:=IntKind.u64.wrap (v.bal-eM v.bal c),st:=nxt v.st 7,sl:=true,rq:=e,wd:=max v.wd (eh [e,c.sld]),dl:=-1 },eM v.bal c,0):=(by unfold bh;rw[bY (by rw[k1];simp),bY k2,bY (by rw[k3];simp),bZ k4]);rw[e2,e1];rfl,a5.upd⟩
 have k4:¬v.st=2:=bX h4;refine rn [12,7,1,4,5,4,5,4,5] ?_;refine aa (zH rfl (fun w1 a6=>pS v.bal c.pnum c.pden w1 hb J5 S9.1 S9.2) rfl (rn [2,40,40,3,3,0,1,4,5,2,57,4] ?_));refine aa (zI rfl rfl rfl rfl rfl rfl rfl (rn [0,1,2,4] ?_));refine aa (zI rfl rfl rfl rfl rfl rfl rfl (rn [0,1,4] ?_));refine aa (zI rfl rfl rfl rfl rfl rfl rfl (rn [0,1,4,5,2,59,4] ?_));refine aa (zI rfl rfl rfl rfl rfl rfl rfl (rn [0,1,4] ?_));refine aa (zI rfl rfl rfl rfl rfl rfl rfl (rn [0,1,45,2,33,3,3,0,11] ?_));exact dI rfl (.cellw rfl rfl) (.tmp rfl) (.tmp rfl) fun w' a5=>⟨by have e1:eM v.bal c=v.bal*c.pnum/c.pden:=bY aK;have e2:bh v e c=({ v with bal:=IntKind.u64.wrap (v.bal-eM v.bal c),st:=nxt v.st 7,sl:=true,rq:=v.rq,wd:=max v.wd (eh [e,c.sld]),dl:=-1 },eM v.bal c,0):=(by unfold bh;rw[bY (by rw[k1];simp),bY k2,bY (by rw[k3];simp),bY k4]);rw[e2,e1];rfl,a5.upd⟩
theorem Fw (s:Int):nxt s 5=if s=5 then 6 else 0:=by
 unfold nxt;split
 ·omega
 split
 ·omega
 split
 ·rename_i h;rw[bZ h.2.2];omega
 rename_i h;rw[bY (fun hc=>h ⟨aK,aK,hc⟩)]
theorem iG (v:V) (e:Int) (w:World) : Pur Tryz.prog 202 [v.v,aH e] w (.tuple [V.v (db v e).1,aJ (db v e).2.1,aH (db v e).2.2].toArray):=by
 refine Γ Tryz.func202 24 (WOK.start [] _) ?_;refine Ri ?_;refine aa (aq rfl rfl rfl fun b2=>?_);refine aa (zK rfl fun b4=>rn [3,3,0,8,1,4,5,51,2] ?_);refine zS 11 rfl (fun h1=>?_) (fun h1=>?_)
 ·have k1:nxt v.st 5=0:=by have h9:=h1;rw[Fw,bY (by simpa using h9)]
  refine rn [21,21,21,21,41,0,19,1,49,33,3,3,0,11,13] ?_;exact dI rfl (.cellw rfl rfl) (.tmp rfl) (.tmp rfl) fun w' a5=>⟨by rw[show db v e=(V.z,0,8) from bZ k1];rfl,a5.upd⟩
 have k1:v.st=5:=by have h9:=h1;simpa using h9
 have k5:nxt v.st 5=6:=by rw[Fw,bZ k1]
 refine rn [22,2,22,4,22,5,22,46,42,0] ?_;refine zB rfl (fun h2=>?_) (fun h2=>?_)
 ·have k2:e<v.wd:=bW h2;refine Sv ?_;exact dI rfl (.cellw rfl rfl) (.tmp rfl) (.tmp rfl) fun w' a5=>⟨by rw[show db v e=(V.z,0,8) from(bY (by rw[k5];decide)).trans (bZ k2)];rfl,a5.upd⟩
 have k2:¬e<v.wd:=bX h2;refine rn [12,7,1,4,5,3,0,1,4] ?_;refine aa (zI rfl rfl rfl rfl rfl rfl rfl (rn [0,1,4] ?_));refine aa (zI rfl rfl rfl rfl rfl rfl rfl (rn [0,1,45,2,33,3,3,0,11] ?_));exact dI rfl (.cellw rfl rfl) (.tmp rfl) (.tmp rfl) fun w' a5=>⟨by have e2:db v e=({ v with st:=6,bal:=0 },v.bal,0):=(by unfold db;rw[k5,bY aO,bY k2]);rw[e2];rfl,a5.upd⟩
theorem sZ (lb:Nat) (cap d p u:Int) (w:World) (hw:W0 [Res.blk lb 138 (LdC cap (d) (p) (u))] w) (hl:LOk cap d p u):du Tryz.prog 254 [aG lb] w [Res.blk lb 138 (LdC cap (d) (p) (u))] (aJ (d-p-u)):=by
 refine Γ Tryz.func254 17 hw ?_;refine SZ ?_;refine bn [] an rfl (RJ ?_);refine dq 8 rfl (yN (z:=d-p) rfl rfl (by have:=hl.hp;have:=hl.hu;have:=hl.hd;have:=hl.hm;rw[ey aK aK])) (rn [23,9,2,23,10,6,23,11,4,23,12,5] ?_);refine dq 13 rfl (yN (z:=d-p-u) rfl rfl (by have:=hl.hp;have:=hl.hu;have:=hl.hd;have:=hl.hm;rw[ey aK aK])) (rn [23,14,3,27,7,11] ?_);exact dD rfl rfl fun w' a5=>⟨(),trivial,rfl,zA w' a5⟩
theorem xa (lb:Nat) (cap d p u:Int) (x:Int) (w:World) (hw:W0 [Res.blk lb 138 (LdC cap (d) (p) (u))] w) (hl:LOk cap d p u) (hx:0≤x∧x≤18446744073709551615):au (ι:=Unit) Tryz.prog 187 [aG lb,aJ x] w [Res.blk lb 138 (LdC cap (d) (p) (u))] (fun _=>True) (fun _=>.int .i64 (eR cap d p u x)) (fun _=>[]) (fun _=>[Res.blk lb 138 (LdC cap ((if eR cap d p u x=0 then d+x else d)) (p) (u))]):=by
 refine Γ Tryz.func187 43 hw ?_;refine Sq ?_;refine aa (zN _ rfl (fun w1 a6 a8=>by exact sZ lb cap d p u w1 a8 hl) rfl ?_);refine SD ?_;refine aa (bg rfl rfl rfl rfl rfl fun j3=>?_);refine zF (b:=j3) ((([(d-p-u),x]:List Int).map aD).flatten) rfl ?_;refine aa (zH rfl (fun w1 a6=>tI (some ⟨j3,0,none⟩) (2) (2) (([(d-p-u),x]:List Int)) w1 (Rdb.toOld (InL.rdb (b:=j3) (els:=(([(d-p-u),x]:List Int)).map aD) rfl aM rfl) a6) (by intro y hy;simp at hy;have:=hl.hp;have:=hl.hu;have:=hl.hd;have:=hl.hm;rcases hy with rfl|rfl<;>omega) bB) rfl ?_);refine Sc ?_;refine zS 19 rfl (fun h1=>?_) (fun h1=>?_)
 ·have k1:eR cap d p u x=4:=by have h9:=h1;have f1:=hl.hc;have f2:=hl.hcm;simp[eI] at h9;unfold eR;rw[bZ aK]
  refine rn [21,21,21,21,21,21,41,0,19,1,3,0,11,13] ?_;refine zF (b:=lb) (LdC cap (if eR cap d p u x=0 then d+x else d) p u) (by rw[k1];rfl) ?_;exact dD rfl rfl fun w' a5=>⟨(),aQ,by rw[k1],zA w' a5⟩
 have k1:d-p-u+x≤18446744073709551615:=by have h9:=h1;simp[eI] at h9;omega
 have k3:df [d-p-u,x]=d-p-u+x:=by unfold df;rw[bZ aV];simp
 refine rn [22,2,22,2,22,6,22,4,22,5,22,55,42,0] ?_;refine zB rfl (fun h2=>?_) (fun h2=>?_)
 ·have k2:eR cap d p u x=4:=by have h9:=bW h2;rw[k3] at h9;unfold eR;rw[bZ aK]
  refine Re ?_;refine zF (b:=lb) (LdC cap (if eR cap d p u x=0 then d+x else d) p u) (by rw[k2];rfl) ?_;exact dD rfl rfl fun w' a5=>⟨(),aQ,by rw[k2],zA w' a5⟩
 have k2:¬cap-(d-p-u)<x:=by have h9:=bX h2;rw[k3] at h9;omega
 refine rn [12,7,1,2,6,4,5,2] ?_;refine aa (bg rfl rfl rfl rfl rfl fun b33=>?_);refine zF (b:=b33) ((([d,x]:List Int).map aD).flatten) rfl ?_;refine aa (zH rfl (fun w1 a6=>tI (some ⟨b33,0,none⟩) (2) (2) (([d,x]:List Int)) w1 (Rdb.toOld (InL.rdb (b:=b33) (els:=(([d,x]:List Int)).map aD) rfl aM rfl) a6) (by intro y hy;simp at hy;have:=hl.hp;have:=hl.hu;have:=hl.hd;have:=hl.hm;rcases hy with rfl|rfl<;>omega) bB) rfl ?_);refine Ro ?_;refine zB rfl (fun h3=>?_) (fun h3=>?_)
 ·have k4:eR cap d p u x=10:=by have h9:=h3;simp[eI] at h9;unfold eR;rw[bY k2,bZ aK]
  refine Re ?_;refine zF (b:=lb) (LdC cap (if eR cap d p u x=0 then d+x else d) p u) (by rw[k4];rfl) ?_;exact dD rfl rfl fun w' a5=>⟨(),aQ,by rw[k4],zA w' a5⟩
 have k4:d+x≤18446744073709551615:=by have h9:=h3;simp[eI] at h9;omega
 have k5:df [d,x]=d+x:=by unfold df;rw[bZ aV];simp
 have k6:eR cap d p u x=0:=by unfold eR;rw[bY k2,bY aK]
 refine rn [12,7,1,2,2,6,4] ?_;refine aa (zI rfl rfl rfl rfl rfl rfl rfl (RA ?_));refine zF (b:=lb) (LdC cap (if eR cap d p u x=0 then d+x else d) p u) (by rw[k6,bZ rfl,←k5];rfl) ?_;exact dD rfl rfl fun w' a5=>⟨(),aQ,by rw[k6],zA w' a5⟩
theorem sv (lb:Nat) (cap d p u:Int) (x:Int) (w:World) (hw:W0 [Res.blk lb 138 (LdC cap (d) (p) (u))] w) (hl:LOk cap d p u) (hx:0≤x∧x≤18446744073709551615):au (ι:=Unit) Tryz.prog 203 [aG lb,aJ x] w [Res.blk lb 138 (LdC cap (d) (p) (u))] (fun _=>True) (fun _=>.int .i64 (dW d p u x)) (fun _=>[]) (fun _=>[Res.blk lb 138 (LdC cap (d) ((if dW d p u x=0 then p+x else p)) (u))]):=by
 refine Γ Tryz.func203 18 hw ?_;refine rn [1,3,0,8,1,2,2] ?_;refine aa (zN _ rfl (fun w1 a6 a8=>by exact sZ lb cap d p u w1 a8 hl) rfl ?_);refine rn [55,0] ?_;refine zB rfl (fun h1=>?_) (fun h1=>?_)
 ·have k1:dW d p u x=3:=bZ (bW h1);refine Re ?_;refine zF (b:=lb) (LdC cap (d) ((if dW d p u x=0 then p+x else p)) (u)) (by rw[k1];rfl) ?_;exact dD rfl rfl fun w' a5=>⟨(),aQ,by rw[k1],zA w' a5⟩
 have k2:¬d-p-u<x:=bX h1;have k1:dW d p u x=0:=bY k2;refine rn [12,7,1,2,2,6,4,5,2] ?_;refine s_q (yI (z:=p+x) rfl rfl (by have:=hl.hp;have:=hl.hu;have:=hl.hd;have:=hl.hm;rw[ey aK aK])) rfl (SY ?_);refine aa (zI rfl rfl rfl rfl rfl rfl rfl (RA ?_));refine zF (b:=lb) (LdC cap (d) ((if dW d p u x=0 then p+x else p)) (u)) (by rw[k1];rfl) ?_;exact dD rfl rfl fun w' a5=>⟨(),aQ,by rw[k1],zA w' a5⟩
theorem jg (lb:Nat) (cap d p u:Int) (x:Int) (w:World) (hw:W0 [Res.blk lb 138 (LdC cap (d) (p) (u))] w) (hl:LOk cap d p u) (hx:0≤x∧x≤18446744073709551615):au (ι:=Unit) Tryz.prog 195 [aG lb,aJ x] w [Res.blk lb 138 (LdC cap (d) (p) (u))] (fun _=>True) (fun _=>.int .i64 (dW d p u x)) (fun _=>[]) (fun _=>[Res.blk lb 138 (LdC cap (d) (p) ((if dW d p u x=0 then u+x else u)))]):=by
 refine Γ Tryz.func195 18 hw ?_;refine rn [1,3,0,8,1,2,2] ?_;refine aa (zN _ rfl (fun w1 a6 a8=>by exact sZ lb cap d p u w1 a8 hl) rfl ?_);refine rn [55,0] ?_;refine zB rfl (fun h1=>?_) (fun h1=>?_)
 ·have k1:dW d p u x=3:=bZ (bW h1);refine Re ?_;refine zF (b:=lb) (LdC cap (d) (p) ((if dW d p u x=0 then u+x else u))) (by rw[k1];rfl) ?_;exact dD rfl rfl fun w' a5=>⟨(),aQ,by rw[k1],zA w' a5⟩
 have k2:¬d-p-u<x:=bX h1;have k1:dW d p u x=0:=bY k2;refine rn [12,7,1,2,2,6,4,5,2] ?_;refine s_q (yI (z:=u+x) rfl rfl (by have:=hl.hp;have:=hl.hu;have:=hl.hd;have:=hl.hm;rw[ey aK aK])) rfl (SY ?_);refine aa (zI rfl rfl rfl rfl rfl rfl rfl (RA ?_));refine zF (b:=lb) (LdC cap (d) (p) ((if dW d p u x=0 then u+x else u))) (by rw[k1];rfl) ?_;exact dD rfl rfl fun w' a5=>⟨(),aQ,by rw[k1],zA w' a5⟩
theorem lP (x:V) (c:C):0≤dm x c:=by
 unfold dm;split
 ·omega
 split
 ·omega
 rw[cF];omega
theorem qa {l:List Y} {y:Y}:pos (l++[y])=pos l++(if y.a=0 then [] else [y]):=by
 unfold pos;rw[List.filter_append];by_cases h:y.a=0<;>simp[h]
theorem lwx (A B:bU) (n cap capq P:Nat) (l:List V) (q:List Rq) (c:C) (w:World) (hl:Rd w [] A n 7 (l.map V.c)) (hq:Rd w [] B q.length 2 (q.map Rq.c)) (hcq:q.length≤capq) (hb:n≤1000000) (hbq:q.length≤1000000) (hP:c.parts=((P:Nat):Int)) (i6:∀x∈q,0≤x.m):au (ι:=(bU × Nat × bU × Nat)) Tryz.prog 199 [.slice A n cap,.slice B q.length capq,c.v] w [] (fun x=>True) (fun x=>.tuple [.slice x.1 l.length x.2.1,.slice x.2.2.1 (pos (run c l (q.take (min q.length P))).2).length x.2.2.2,aI (min q.length P)].toArray) (fun x=>[Res.row x.1 l.length x.2.1 52 7 ((run c l (q.take (min q.length P))).1.map V.c),Res.row x.2.2.1 (pos (run c l (q.take (min q.length P))).2).length x.2.2.2 50 3 ((pos (run c l (q.take (min q.length P))).2).map Y.c)]) (fun x=>[]):=by
 refine Γ Tryz.func199 80 (WOK.start (fps []) _) ?_;have hln:n=l.length:=by have:=hl.old.len;simpa using this
 refine Ri ?_;refine aa (aq rfl rfl rfl fun b5=>rn [3,3,3,0,1] ?_);refine aa (bg rfl rfl rfl rfl rfl fun I2=>?_);refine xL (t:=16) (T:=52) (k:=7) rfl fun A16 y6 hc16=>?_;refine zC (A:=A16) (([]:List V).map V.c) rfl (SD ?_);refine aa (zW (A:=A16) (els:=(([]:List V)).map V.c) (news:=((l).map V.c)) rfl rfl hl.rdb (zZ (c:=V.c) (by intro x;simp[V.c,Value.oneCell']) _) aR rfl fun A18 cap18=>⟨_,inferInstance,?_⟩);refine zC (A:=A18) ((l).map V.c) (by first|rfl|exact cA.symm|(simp;done)) ?_;refine zR (A:=A18) (n) aM ?_;refine ae 18 (v' := .slice A18 (n) cap18) rfl aM (rn [3,0,1,3] ?_);refine xA 10 50 3 rfl fun Az1 capz1 hcz1=>?_;refine zC (A:=Az1) (([]:List Y).map Y.c) rfl (rn [0,1,3,0,8,1,3,0,14] ?_);refine zC (A:=A18) ((run c l (q.take 0)).1.map V.c) (by simp[run]) ?_;refine zR (A:=A18) l.length (by first|rfl|omega|(simp;omega)) ?_;refine ae 9 (v' := .slice A18 l.length cap18) rfl (by first|rfl|rw[hln]|(simp;omega)) ?_;refine zC (A:=Az1) ((pos (run c l (q.take 0)).2).map Y.c) (by simp[run,pos]) ?_;refine ae 10 (v' := .slice Az1 (pos (run c l (q.take 0)).2).length capz1) rfl (by simp[run,pos]) ?_;refine zR (A:=Az1) (pos (run c l (q.take 0)).2).length (by simp[run,pos]) ?_;refine dP [1,5,6,7,8] (fun(x:Nat × bU × Nat × bU × Nat)=>[(9,.slice x.2.1 l.length x.2.2.1),(10,.slice x.2.2.2.1 (pos (run c l (q.take x.1)).2).length x.2.2.2.2),(11,aI x.1),(12,aI x.1)]) (fun(x:Nat × bU × Nat × bU × Nat)=>[Res.blk b5 24 c.c,Res.row x.2.1 l.length x.2.2.1 52 7 (((run c l (q.take x.1)).1).map V.c),Res.row x.2.2.2.1 (pos (run c l (q.take x.1)).2).length x.2.2.2.2 50 3 ((pos (run c l (q.take x.1)).2).map Y.c)]) (fun(x:Nat × bU × Nat × bU × Nat)=>x.1≤(min q.length P)) (fun(x:Nat × bU × Nat × bU × Nat)=>(min q.length P)-x.1) (0,A18,cap18,Az1,capz1) bF ?_;rintro⟨k,A1,j6,B1,y3⟩ f6;replace f6:k≤(min q.length P):=f6;refine yB (L' := [Res.blk b5 24 c.c,Res.row A1 l.length j6 52 7 (((run c l (q.take k)).1).map V.c),Res.row B1 (pos (run c l (q.take k)).2).length y3 50 3 ((pos (run c l (q.take k)).2).map Y.c)]) rfl ?_;refine ae 9 (v' := .slice A1 l.length j6) rfl rfl ?_;refine ae 10 (v' := .slice B1 (pos (run c l (q.take k)).2).length y3) rfl rfl ?_;refine ae 11 (v' := aI k) rfl rfl ?_;refine ae 12 (v' := aI k) rfl rfl ?_;have Z8:=EQx (run c l (q.take k)).2;have hr1:=lk c l (q.take k);have hr2:(q.take k).length≤k:=List.length_take_le _ _;have hr4:=uS c l (q.take k);refine rn [8,1,2,2,47,46,2] ?_;refine zS 23 rfl (fun h1=>?_) (fun h1=>?_)
 ·refine rn [22,2,22,4,22,5,22,46,41,0] ?_;refine zB rfl (fun h2=>?_) (fun h2=>?_)
  ·have v8:k<q.length:=by simp at h1;omega
   have lt_M:k<(min q.length P):=by simp[hP] at h2;omega
   refine rn [12,7,8,14,1,2,43,3,0,1,2,2] ?_;refine s_q (zM (i:=k) rfl rfl rfl hq.rdb aS) rfl ?_;refine s_q (zU (i:=k) rfl hq.rdb (zP bD) rfl) rfl ?_;refine aa (zK rfl fun j3=>rn [33,0,8,1,4,5,46,2] ?_);refine zS 40 rfl (fun h3=>?_) (fun h3=>?_)
   ·have K8:¬inB (run c l (q.take k)).1 (q[k]):=fun h=>by simp at h3;exact absurd h.1 aK
    refine rn [21,21,21,21,21,41,0,19,16] ?_;refine zE (zQ (rn [7,10,2,43,3,9] ?_));have e1:(run c l (q.take k)).1=(run c l (q.take (k+1))).1:=by rw[lp v8,tQ K8]
    have e2:(run c l (q.take k)).2=(run c l (q.take (k+1))).2:=by rw[lmx v8,tP K8]
    rw[e1,e2];exact cr ((k+1),A1,j6,B1,y3) bF
   refine rn [22,4,22,5,22,2,22,47,22,53,42,0] ?_;refine zB rfl (fun h4=>?_) (fun h4=>?_)
   ·have K8:¬inB (run c l (q.take k)).1 (q[k]):=fun h=>by simp at h4;exact absurd h.2 (by rw[hr4];omega)
    refine Ru ?_;refine zE (zQ (rn [7,10,2,43,3,9] ?_));have e1:(run c l (q.take k)).1=(run c l (q.take (k+1))).1:=by rw[lp v8,tQ K8]
    have e2:(run c l (q.take k)).2=(run c l (q.take (k+1))).2:=by rw[lmx v8,tP K8]
    rw[e1,e2];exact cr ((k+1),A1,j6,B1,y3) bF
   obtain⟨ix,T3⟩:∃ix:Nat,(q[k]).i=ix:=⟨(q[k]).i.toNat,by simp at h3;omega⟩
   have hx:ix<(run c l (q.take k)).1.length:=by rw[hr4];simp at h4;omega
   have D5:ix<l.length:=by omega
   refine rn [12,7,1,2,4,5] ?_;refine ae 49 (v' := aI ix) rfl (by rw[T3]) ?_;refine s_q (zM (i:=ix) rfl rfl rfl (InRow.rdb (A:=A1) (els:=((run c l (q.take k)).1).map V.c) (by simp[uS]) (yA (c:=V.c) (fun _=>rfl) _)) aS) rfl ?_;refine s_q (zU (i:=ix) rfl (InRow.rdb (A:=A1) (els:=((run c l (q.take k)).1).map V.c) (by simp[uS]) (yA (c:=V.c) (fun _=>rfl) _)) (zP aT) rfl) rfl ?_;refine aa (zK rfl fun G4=>rn [33,0,8] ?_);refine bn [] an rfl (rn [23,0,4,23,1,5,23,2,45,23,3,45] ?_);refine dop 4 rfl (zH rfl (fun w hw=>oB _ _ w) rfl (rn [23,5,58,23,6,3,27,7,1,4,5,2,57,4] ?_));refine aa (zI rfl rfl rfl rfl rfl rfl rfl ?_);refine zF (b:=G4) (V.c (apV ((run c l (q.take k)).1)[ix] ((q[k]).m) c)) (by simp[apV,qL,ay,V.c]) (rn [0,1,2,4,5] ?_);refine ae 65 (v' := aI ix) rfl (by rw[T3]) (rn [45] ?_);refine aa (zJ [] rfl (fun w1 a6 a8=>by have h7:=rG A1 (l.length) (j6) ((run c l (q.take k)).1) (ix) ((apV ((run c l (q.take k)).1)[ix] ((q[k]).m) c)) w1 (Rd.ofRow (A:=A1) a6) aZ bI;exact h7) rfl ?_);rintro⟨A67,M8⟩ _;refine ii (rn [3,0,1,2,55,0] ?_);refine zB rfl (fun h5=>?_) (fun h5=>?_)
   ·refine rn [10,2,4,5] ?_;refine ae 72 (v' := aI ix) rfl (by rw[T3]) (rn [2,49] ?_);refine aa (bg rfl rfl rfl rfl rfl fun b75=>?_);refine zF (b:=b75) ((([(Y.mk ((ix:Nat):Int) (min ((q[k]).m) (eK ((run c l (q.take k)).1)[ix] c)) false)]:List Y).map Y.c).flatten) rfl ?_;refine aa (zW (A:=B1) (els:=((pos (run c l (q.take k)).2)).map Y.c) (news:=(([(Y.mk ((ix:Nat):Int) (min ((q[k]).m) (eK ((run c l (q.take k)).1)[ix] c)) false)]:List Y).map Y.c)) rfl rfl (InL.rdb (b:=b75) rfl (by simp[Y.c]) rfl) (zZ (c:=Y.c) (by intro x;simp[Y.c,Value.oneCell']) _) aR rfl fun A76 M7=>⟨_,inferInstance,?_⟩);refine zC (A:=A76) ((((pos (run c l (q.take k)).2)++[(Y.mk ((ix:Nat):Int) (min ((q[k]).m) (eK ((run c l (q.take k)).1)[ix] c)) false)])).map Y.c) (by first|rfl|exact cA.symm|(simp;done)) (Rt ?_);have e1:((run c l (q.take k)).1).set ix (apV ((run c l (q.take k)).1)[ix] ((q[k]).m) c)=(run c l (q.take (k+1))).1:=by rw[lp v8,qB T3 hx]
    have e2:pos (run c l (q.take k)).2++[(Y.mk ((ix:Nat):Int) (min ((q[k]).m) (eK ((run c l (q.take k)).1)[ix] c)) false)]=pos (run c l (q.take (k+1))).2:=by rw[lmx v8,qA T3 hx,qa,qL];rw[bY (show¬min ((q[k]).m) (eK ((run c l (q.take k)).1)[ix] c)=0 by simp at h5;omega)]
    have e3:(pos (run c l (q.take k)).2).length+1=(pos (run c l (q.take (k+1))).2).length:=by rw[←e2];simp
    rw[e1,e3,e2,uS c l (q.take (k+1))];exact cr ((k+1),A67,M8,A76,M7) bF
   refine RP ?_;have e1:((run c l (q.take k)).1).set ix (apV ((run c l (q.take k)).1)[ix] ((q[k]).m) c)=(run c l (q.take (k+1))).1:=by rw[lp v8,qB T3 hx]
   have hnn:=lP (((run c l (q.take k)).1)[ix]) c;rw[qL] at hnn;have hm0:=i6 (q[k]) (cC _);have e2:pos (run c l (q.take k)).2=pos (run c l (q.take (k+1))).2:=by rw[lmx v8,qA T3 hx,qa,qL];rw[bZ (show min ((q[k]).m) (eK ((run c l (q.take k)).1)[ix] c)=0 by simp at h5;omega)];simp
   rw[e1,e2,uS c l (q.take (k+1))];exact cr ((k+1),A67,M8,B1,y3) bF
  have f9:k=(min q.length P):=by simp[hP] at h2;simp at h1;omega
  refine Ru ?_;refine zE (zE (zQ (SO ?_)));exact dI rfl (.tmp rfl) (.tmp rfl) (.tmp rfl) fun w' a5=>⟨(A1,j6,B1,y3),aQ,by rw[←f9],by rw[←f9];exact zA w' a5⟩
 have f9:k=(min q.length P):=by simp at h1;omega
 refine rn [21,21,21,21,42,0,20,16] ?_;refine zE (zE (zQ (SO ?_)));exact dI rfl (.tmp rfl) (.tmp rfl) (.tmp rfl) fun w' a5=>⟨(A1,j6,B1,y3),aQ,by rw[←f9],by rw[←f9];exact zA w' a5⟩
theorem kZ (A:bU) (n cap:Nat) (l:List V) (r:Rq) (w:World) (hl:Old w A n 7 (l.map V.c)) (hb:n≤1000000):Pur Tryz.prog 196 [.slice A n cap,.agg (Rq.c r).toArray] w (aH (fS l r.i r.m)):=by
 refine Γ Tryz.func196 25 (WOK.start [] _) ?_;have hn:n=l.length:=by simpa using hl.len
 refine Ri ?_;refine aa (aq rfl rfl rfl fun b3=>rn [3,0,8,1,4,5,46,2] ?_);refine zS 8 rfl (fun h1=>?_) (fun h1=>?_)
 ·have k1:ax l r.i=false:=cY (by have h9:=bW h1;omega);refine rn [21,21,21,21,21,41,0,19,1,3,0,11,13] ?_;exact dD rfl rfl fun w' a5=>⟨by rw[fS,bZ k1],a5.upd⟩
 have k0:=bX h1;refine rn [22,4,22,5,22,2,22,47,22,53,42,0] ?_;refine zB rfl (fun h2=>?_) (fun h2=>?_)
 ·have k1:ax l r.i=false:=cY (by have h9:=bW h2;omega);refine Re ?_;exact dD rfl rfl fun w' a5=>⟨by rw[fS,bZ k1],a5.upd⟩
 have k1:ax l r.i=true:=cX (by have h9:=bX h2;omega);obtain⟨ix,T3,hil⟩:=xF k1;refine rn [12,7,8,1,4,5,44,0] ?_;refine zB rfl (fun h3=>?_) (fun h3=>?_)
 ·have k2:r.m=0:=bW h3;refine Re ?_;exact dD rfl rfl fun w' a5=>⟨by rw[fS,bY (by rw[k1];simp),bZ k2],a5.upd⟩
 have k2:¬r.m=0:=bX h3;refine rn [12,7,8,1,2,4,5] ?_;refine ae 20 (v' := aI ix) rfl (by rw[T3]) ?_;refine s_q (zM (i:=ix) rfl rfl rfl (hl.rdb rfl) bO) rfl (Nd ?_);refine s_q (zX (i:=ix) (o:=1) rfl (hl.rdb rfl) (zP (by first|exact bO|omega|(simp_all;done)|(simp_all;omega))) rfl rfl) rfl (rn [51,0] ?_);refine zB rfl (fun h4=>?_) (fun h4=>?_)
 ·have k3:(ab l r.i).st≠2:=by have h9:=h4;rw[T3,yK hil];simpa using h9
  refine Re ?_;exact dD rfl rfl fun w' a5=>⟨by rw[fS,bY (by rw[k1];simp),bY k2,bZ k3],a5.upd⟩
 have k3:¬(ab l r.i).st≠2:=by have h9:=h4;rw[T3,yK hil];simpa using h9
 refine rn [12,7,1,3,0,11] ?_;exact dD rfl rfl fun w' a5=>⟨by rw[fS,bY (by rw[k1];simp),bY k2,bY k3],a5.upd⟩
theorem nox (a0 V P:Nat) (B:bU) (bc:Nat) (rl:List Bool) (w:World) (hrd:Rd w [] B rl.length 1 (rl.map aF)) (h0:a0≤4096) (hV:1≤V∧V≤4096) (hP:1≤P∧P≤4096) (hb:rl.length≤4096):au (ι:=(bU × Nat)) Tryz.prog 200 [aI a0,.slice B rl.length bc,aI V,aI P] w [] (fun x=>True) (fun x=>.tuple [.slice x.1 (dJ a0 rl ((V:Nat):Int) ((P:Nat):Int)).2.1.length x.2,aI ((dJ a0 rl ((V:Nat):Int) ((P:Nat):Int)).2.2),aI ((dJ a0 rl ((V:Nat):Int) ((P:Nat):Int)).1)].toArray) (fun x=>[Res.row x.1 ((dJ a0 rl ((V:Nat):Int) ((P:Nat):Int)).2.1).length x.2 3 1 (((dJ a0 rl ((V:Nat):Int) ((P:Nat):Int)).2.1).map aC)]) (fun x=>[]):=by
 refine Γ Tryz.func200 61 (WOK.start (fps []) _) ?_;refine rn [1,3,3,3,0,1,2,47,3,0,8,1,2,44,2] ?_;refine zS 18 rfl (fun h1=>?_) (fun h1=>?_)
 ·have hR:(dJ a0 rl ((V:Nat):Int) ((P:Nat):Int))=(a0,[],0):=by have h9:=bW h1;unfold dJ;rw[bZ (.inl aK)]
  refine rn [21,21,41,2,21,21,41,0,19,1,2,3,3,3,0,11,13] ?_;refine zY none 3 1 (([]:List Int).map aC) rfl ?_;exact dI rfl (.tmp rfl) (.tmp rfl) (.tmp rfl) fun w' a5=>⟨((none:bU),0),aQ,by rw[hR];rfl,by rw[hR];exact zA w' a5⟩
 have hn0:0<rl.length:=by have h9:=bX h1;omega
 refine rn [22,2,22,46,42,2] ?_;refine zS 22 rfl (fun h2=>?_) (fun h2=>?_)
 ·exfalso;have h9:=bW h2;omega
 refine rn [22,2,22,46,42,0] ?_;refine zB rfl (fun h3=>?_) (fun h3=>?_)
 ·exfalso;have h9:=bW h3;omega
 obtain⟨K,hK⟩:∃q:Nat,(min ((V:Nat):Int) (rl.length:Int)).toNat=q:=⟨_,rfl⟩
 have hKn:K=min V rl.length:=by omega
 have hm0:=cW a0 hn0;have hR0:(dJ a0 rl ((V:Nat):Int) ((P:Nat):Int))=swp rl rl.length P (K-0) (a0%rl.length) [] 0:=by
   have e1:(dJ a0 rl ((V:Nat):Int) ((P:Nat):Int))=swp rl rl.length P (K-0) a0 [] 0:=by unfold dJ;rw[bY aK,hK,show((P:Nat):Int).toNat=P from rfl];rfl
   rw[e1,qP (at_:=a0) aV aK,qP (at_:=a0%rl.length) aV aK,Nat.mod_mod]
 refine SQ ?_;refine s_q (wA (a:=a0) (b:=rl.length) rfl rfl aK) rfl (rn [3,0,1,3] ?_);refine xA 12 3 1 rfl fun Az1 capz1 hcz1=>?_;refine zC (A:=Az1) (([]:List Int).map aC) rfl (rn [0,1,3,0,8,14] ?_);refine dP [1,2,3,8,9,10,11] (fun(x:Nat × List Int × Nat × bU × Nat)=>[(12,.slice x.2.2.2.1 (x.2.1).length x.2.2.2.2),(13,aI x.2.2.1),(0,aI x.1)]) (fun(x:Nat × List Int × Nat × bU × Nat)=>[Res.row x.2.2.2.1 (x.2.1).length x.2.2.2.2 3 1 ((x.2.1).map aC)]) (fun(x:Nat × List Int × Nat × bU × Nat)=>x.1<rl.length∧((x.2.1).length≤x.2.2.1∧(x.2.1).length≤P)∧x.2.2.1≤K∧(dJ a0 rl ((V:Nat):Int) ((P:Nat):Int))=swp rl rl.length P (K-x.2.2.1) x.1 x.2.1 x.2.2.1) (fun(x:Nat × List Int × Nat × bU × Nat)=>K-x.2.2.1) ((a0%rl.length),([]:List Int),0,Az1,capz1) (by(try dsimp only);exact⟨hm0,aM,aK,hR0⟩) ?_;rintro⟨k1,p1,m1,A1,j6⟩ ⟨w5,Z8,hmK,hs⟩;replace w5:k1<rl.length:=w5;replace Z8:(p1).length≤m1∧(p1).length≤P:=Z8;replace hmK:m1≤K:=hmK;replace hs:(dJ a0 rl ((V:Nat):Int) ((P:Nat):Int))=swp rl rl.length P (K-m1) k1 p1 m1:=hs;refine yB (L' := [Res.row A1 (p1).length j6 3 1 ((p1).map aC)]) rfl ?_;refine ae 12 (v' := .slice A1 (p1).length j6) rfl rfl ?_;refine ae 13 (v' := aI m1) rfl rfl ?_;refine ae 0 (v' := aI k1) rfl rfl (rn [8,1,2,2,46,2] ?_);refine zS 33 rfl (fun h4=>?_) (fun h4=>?_)
 ·have hy1:=bW h4;refine rn [22,2,22,2,22,46,41,2] ?_;refine zS 38 rfl (fun h5=>?_) (fun h5=>?_)
  ·have N7:m1<K:=by have h9:=bW h5;omega
   refine rn [22,2,22,47,22,2,22,46,41,0] ?_;refine zB rfl (fun h6=>?_) (fun h6=>?_)
   ·have B7:¬p1.length=P:=by have h9:=bW h6;omega
    have hkm:k1%rl.length=k1:=Nat.mod_eq_of_lt w5;refine rn [12,7,14,8,1,2,2] ?_;refine s_q (zM (i:=k1) rfl rfl rfl hrd.rdb aS) rfl ?_;refine s_q (zX (i:=k1) (o:=0) rfl hrd.rdb (zP aK) rfl rfl) rfl (rn [0] ?_);refine zB rfl (fun h7=>?_) (fun h7=>?_)
    ·have hrx:rl[k1]?=some true:=by rw[List.getElem?_eq_getElem w5];simpa using h7
     refine rn [10,2,2] ?_;refine aa (bg rfl rfl rfl rfl rfl fun b50=>?_);refine zF (b:=b50) ((([((k1:Nat):Int)]:List Int).map aC).flatten) rfl ?_;refine aa (zW (A:=A1) (els:=(p1).map aC) (news:=(([((k1:Nat):Int)]:List Int).map aC)) rfl rfl (InL.rdb (b:=b50) rfl aM rfl) (zZ (c:=aC) (by intro x;simp[Value.oneCell']) _) aR rfl fun A51 cap51=>⟨_,inferInstance,?_⟩);refine zC (A:=A51) (((p1++[((k1:Nat):Int)])).map aC) (by first|rfl|exact cA.symm|(simp;done)) ?_;refine zR (A:=A51) (p1++[((k1:Nat):Int)]).length aM ?_;refine ae 51 (v' := .slice A51 (p1++[((k1:Nat):Int)]).length cap51) rfl aM (rn [3,0,1,2,43,2] ?_);refine s_q (wA (a:=(k1+1)) (b:=rl.length) rfl rfl aK) rfl (rn [3,0,10,2,43,3,9,15] ?_);exact xX (((k1+1)%rl.length),(p1++[((k1:Nat):Int)]),(m1+1),A51,cap51) (by(try dsimp only);exact⟨(cW _ aK),aV,aK,(by rw[qP B7 N7,hkm,bZ hrx] at hs;exact hs)⟩) bK (by repeat(first|exact trivial|refine⟨rfl,?_⟩)) zG
    have hrx:¬rl[k1]?=some true:=by rw[List.getElem?_eq_getElem w5];simpa using h7
    refine rn [12,7,1,2,43,2] ?_;refine s_q (wA (a:=(k1+1)) (b:=rl.length) rfl rfl aK) rfl (rn [3,0,10,2,43,3,9,15] ?_);exact xX (((k1+1)%rl.length),p1,(m1+1),A1,j6) (by(try dsimp only);exact⟨(cW _ aK),aK,aK,(by rw[qP B7 N7,hkm,bY hrx] at hs;exact hs)⟩) bK (by repeat(first|exact trivial|refine⟨rfl,?_⟩)) zG
   have h8:=bX h6;have hle:p1.length≤P:=Z8.2;have hR:(dJ a0 rl ((V:Nat):Int) ((P:Nat):Int))=(k1,p1,m1):=by rw[hs];exact lW aK
   refine Ru ?_;refine zE (zE (zQ (SO ?_)));exact dI rfl (.tmp rfl) (.tmp rfl) (.tmp rfl) fun w' a5=>⟨(A1,j6),aQ,by rw[hR],by rw[hR];exact zA w' a5⟩
  have L5:m1=K:=by have h9:=bX h5;omega
  have hR:(dJ a0 rl ((V:Nat):Int) ((P:Nat):Int))=(k1,p1,m1):=by rw[hs];rw[L5,Nat.sub_self];rfl
  refine rn [21,21,21,21,42,0,20,16] ?_;refine zE (zE (zQ (SO ?_)));exact dI rfl (.tmp rfl) (.tmp rfl) (.tmp rfl) fun w' a5=>⟨(A1,j6),aQ,by rw[hR],by rw[hR];exact zA w' a5⟩
 have L5:m1=K:=by have h9:=bX h4;omega
 have hR:(dJ a0 rl ((V:Nat):Int) ((P:Nat):Int))=(k1,p1,m1):=by rw[hs];rw[L5,Nat.sub_self];rfl
 refine rn [21,21,21,42,2,21,21,21,21,42,0,20,16] ?_;refine zE (zE (zQ (SO ?_)));exact dI rfl (.tmp rfl) (.tmp rfl) (.tmp rfl) fun w' a5=>⟨(A1,j6),aQ,by rw[hR],by rw[hR];exact zA w' a5⟩
structure SP where
 sb:Nat
 lb:Nat
 xb:Nat
 mb:Nat
structure SG where
 vA:bU
 vc:Nat
 pA:bU
 pc:Nat
 fA:bU
 fc:Nat
 oA:bU
 oc:Nat
 mA:bU
 mc:Nat
 rA:bU
 rc:Nat
structure SG.Ok (g:SG) (s:Eg):Prop where
 p:s.pend.length≤g.pc
 f:s.q.f.length≤g.fc
 o:s.q.v.length≤g.oc
 m:s.mg.length≤g.mc
 r:s.pt.length≤g.rc
def SC (p:SP) (g:SG) (s:Eg):List Value:=[aH s.c.capa,aH s.c.qsize,aJ s.c.mind,aJ s.c.maxd,aJ s.c.supc,aJ s.c.minb,aJ s.c.maxb,aJ s.c.minch,aJ s.c.quot,aJ s.c.fcap,aH s.c.unb,aH s.c.sld,aH s.c.rlen,aH s.c.elen,aH s.c.vis,aH s.c.pays,aH s.c.parts,aH s.c.merg,aJ s.c.pnum,aJ s.c.pden,aI s.blk,aH s.ep,.slice g.vA s.l.length g.vc,aG p.lb,.slice g.pA s.pend.length g.pc,aG p.xb,.slice g.mA s.mg.length g.mc,.slice g.rA s.pt.length g.rc,aI s.cur,aG p.mb]
abbrev RSL (p:SP) (g:SG) (s:Eg):List Res:=[Res.blk p.sb 147 (SC p g s),Res.blk p.lb 138 (LdC s.c.supc s.dep s.paid s.burn),Res.blk p.xb 141 [dC g.fA (s.q).f.length g.fc,dC g.oA (s.q).v.length g.oc,aI s.c.qsize.toNat],Res.ro g.fA (s.q).f.length 1 ((s.q).f.map aC),Res.ro g.oA (s.q).v.length 1 ((s.q).v.map aC),Res.blk p.mb 144 (R.c (R.of s.m)),Res.row g.vA s.l.length g.vc 52 7 (s.l.map V.c),Res.ro g.pA s.pend.length 1 (s.pend.map aC),Res.ro g.mA s.mg.length 2 (s.mg.map PP.c),Res.ro g.rA s.pt.length 2 (s.pt.map Rq.c)]
def rjX (k code:Int) (s:Eg):RX:=⟨⟨k,code,-1,s.blk,s.ep,-1,[],[],0⟩,none,0,none,0⟩
def acX (k i dl:Int) (s:Eg):RX:=⟨⟨k,0,i,s.blk,s.ep,dl,[],[],0⟩,none,0,none,0⟩
def rcX (s:Eg) (y:Op) (x:Rs):RX:=⟨rcp s y x,none,0,none,0⟩
theorem rD {s:Eg} {y:Op} {x:Rs} (h:x.code≠0):rcX s y x=rjX y.k x.code s:=by unfold rcX rcp rjX;rw[bZ h]
abbrev rcZ (b:Nat):Res:=Res.blk b 47 [aH 0,aH 0,aH 0,aH 0,aH 0,aH 0,dC none 0 0,dC none 0 0,aH 0]
theorem xD (p:SP) (g:SG) (s:Eg) (k code:Int) (w:World) (hw:W0 [Res.blk p.sb 147 (SC p g s)] w) : du Tryz.prog 132 [aG p.sb,aH k,aH code] w [Res.blk p.sb 147 (SC p g s)] (.agg (RX.c (rjX k code s)).toArray):=by
 refine Γ Tryz.func132 18 hw ?_;refine Ri ?_;refine aa (zK rfl fun b6=>Sw ?_);refine bn [11] an rfl (rn [23,0,2,23,1,2,23,2,2,23,3,6,23,4,4,23,5,5,23,6,2,23,7,6,23,8,4,23,9,5] ?_);refine dq 10 rfl (yF (c:=RX.c (rjX k code s)) rfl aL) ?_;refine dop 11 rfl (zT rfl rfl rfl rfl rfl (Nc ?_));exact dG rfl (.cellw rfl rfl) fun w' a5=>⟨(),trivial,rfl,zA w' a5⟩
theorem sY (p:SP) (g:SG) (s:Eg) (k i dl:Int) (w:World) (hw:W0 [Res.blk p.sb 147 (SC p g s)] w) : du Tryz.prog 188 [aG p.sb,aH k,aH i,aH dl] w [Res.blk p.sb 147 (SC p g s)] (.agg (RX.c (acX k i dl s)).toArray):=by
 refine Γ Tryz.func188 21 hw ?_;refine Ri ?_;refine aa (zK rfl fun b8=>Sw ?_);refine bn [12] an rfl (rn [23,0,2,23,1,2,23,2,2,23,3,6,23,4,4,23,5,5,23,6,2,23,7,6,23,8,4,23,9,5,23,10,2] ?_);refine dq 11 rfl (yF (c:=RX.c (acX k i dl s)) rfl aL) ?_;refine dop 12 rfl (zT rfl rfl rfl rfl rfl (Nc ?_));exact dG rfl (.cellw rfl rfl) fun w' a5=>⟨(),trivial,rfl,zA w' a5⟩
theorem rH (p:SP) (g:SG) (s:Eg) (n:Nat) (e:Int) (w:World) (hw:W0 [Res.blk p.sb 147 (SC p g s),Res.row g.vA s.l.length g.vc 52 7 (s.l.map V.c)] w) (hn:n<s.l.length) (hl:s.l.length≤4096) (D8:-1000≤(ab s.l n).st∧(ab s.l n).st≤1000):au (ι:=(bU × Nat)) Tryz.prog 263 [aG p.sb,aI n,aH e] w [Res.blk p.sb 147 (SC p g s),Res.row g.vA s.l.length g.vc 52 7 (s.l.map V.c)] (fun x=>True) (fun x=>.tuple #[]) (fun x=>[]) (fun x=>[Res.blk p.sb 147 (SC p { g with vA:=x.1,vc:=x.2 } { s with l:=s.l.set n { ab s.l n with st:=nxt (ab s.l n).st e } }),Res.row x.1 (s.l.set n { ab s.l n with st:=nxt (ab s.l n).st e }).length x.2 52 7 ((s.l.set n { ab s.l n with st:=nxt (ab s.l n).st e }).map V.c)]):=by
 refine Γ Tryz.func263 29 hw ?_;refine rn [1,2,6,4,5,2] ?_;refine s_q (zM (i:=n) rfl rfl rfl (ird (A:=g.vA)) (by first|exact hn|omega)) rfl ?_;refine s_q (zU (i:=n) rfl (ird (A:=g.vA)) (zP aT) rfl) rfl ?_;refine aa (zK rfl fun b6=>rn [33] ?_);refine zF (b:=b6) (V.c (ab s.l n)) (by rw[yK hn]) (rn [0,1,4,5,2] ?_);refine aa (zH rfl (fun w1 a6=>qU (((ab s.l n)).st) (e) w1 D8) rfl (Nd ?_));refine aa (zI rfl rfl rfl rfl rfl rfl rfl ?_);refine zF (b:=b6) (V.c { ab s.l n with st:=nxt (ab s.l n).st e }) aP (rn [0] ?_);refine bn [10] an rfl (rn [23,0,2,23,1,2,23,2,6,23,3,4,23,4,5,23,5,2,23,6,45] ?_);refine dop 7 rfl (zJ [] rfl (fun w1 a6 a8=>by have h7:=rG g.vA (s.l.length) (g.vc) (s.l) (n) (({ ab s.l n with st:=nxt (ab s.l n).st e }:V)) w1 (Rd.ofRow (A:=g.vA) a6) aZ bI;exact h7) rfl ?_);rintro⟨A26,N1⟩ _;refine ii (rn [24,8,6,23,9,4] ?_);refine dop 10 rfl (zI rfl rfl rfl rfl rfl rfl rfl (Nf ?_));refine zF (b:=p.sb) (SC p { g with vA:=A26,vc:=N1 } { s with l:=s.l.set n { ab s.l n with st:=nxt (ab s.l n).st e } }) aP ?_;exact dF rfl fun w' a5=>⟨(A26,N1),aQ,rfl,zA w' a5⟩
end Go.Proofs.YtdddiilocbbkkaaGreat
