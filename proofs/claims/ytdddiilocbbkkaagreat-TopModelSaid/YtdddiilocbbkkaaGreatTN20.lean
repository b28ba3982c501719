/- TopModel, part 20. No condition. -/
import Derived.Test.YtdddiilocbbkkaaGreatTN19
set_option linter.unusedVariables false
set_option linter.unusedSimpArgs false
namespace Go.Proofs.YtdddiilocbbkkaaGreat
open Go.RowKit Go.Eg
set_option maxHeartbeats 4000000
set_option synthInstance.maxSize 3000
set_option maxRecDepth 100000
structure MX where
 g:SG
 A:bU
 c:Nat
 xs:List RX
theorem zm (p:SP) (g:SG) (s:Eg) (lA:bU) (n lC:Nat) (l:List Op) (w:World) (hw:WOK (fps (RSL p g s)) w (RSL p g s) w) (hi:Inv s) (hg:g.Ok s) (J5:Pnd s.l s.pend) (hrd:Rd w (RSL p g s) lA n 4 (l.map Op.c)) (hl:∀y∈l,y.ok) (H9:s.blk+l.length<1000000000) (hq2:s.c.qsize≤200) (X8:l.length≤1000000):au (ι:=MX) Tryz.prog 18 [aG p.sb,.slice lA n lC] w (RSL p g s) (fun x=>x.g.Ok (aw s l).1∧x.xs.map RX.r=(aw s l).2) (fun x=>.slice x.A x.xs.length x.c) (fun x=>[Res.row x.A (x.xs).length x.c 47 9 ((x.xs).map RX.c),Res.star (x.xs.flatMap RX.rows)]) (fun x=>RSL p x.g (aw s l).1):=by
 refine Γ Tryz.func18 23 hw ?_;have hm:n=l.length:=by have:=hrd.old.len;simpa using this
 refine Sy ?_;refine zY none 47 9 (([]:List RX).map RX.c) aP ?_;refine zR (A:=none) ([]:List RX).length aP ?_;refine mv ?_;refine yB (L' := (Res.star (([]:List RX).flatMap RX.rows) :: Res.row none ([]:List RX).length 0 47 9 (([]:List RX).map RX.c) :: RSL p g (da s l 0).1)) aP ?_;refine dP [0,1,4] (fun(x:Nat × SG × bU × Nat × List RX)=>[(5,.slice x.2.2.1 (x.2.2.2.2).length x.2.2.2.1),(6,aI x.1)]) (fun(x:Nat × SG × bU × Nat × List RX)=>(Res.row x.2.2.1 (x.2.2.2.2).length x.2.2.2.1 47 9 ((x.2.2.2.2).map RX.c) :: Res.star ((x.2.2.2.2).flatMap RX.rows) :: RSL p x.2.1 (da s l x.1).1)) (fun(x:Nat × SG × bU × Nat × List RX)=>x.1≤n∧SG.Ok x.2.1 (da s l x.1).1∧(x.2.2.2.2).map RX.r=(da s l x.1).2) (fun(x:Nat × SG × bU × Nat × List RX)=>n-x.1) (0,g,none,0,[]) (by(try dsimp only);exact⟨cN _,hg,rfl⟩) ?_;rintro⟨k,g9,A9,c9,xs⟩ ⟨f6,hg9,C3⟩;replace f6:k≤n:=f6;replace hg9:SG.Ok g9 (da s l k).1:=hg9;replace C3:(xs).map RX.r=(da s l k).2:=C3;refine yB (L' := (Res.row A9 (xs).length c9 47 9 ((xs).map RX.c) :: Res.star ((xs).flatMap RX.rows) :: RSL p g9 (da s l k).1)) rfl ?_;refine ae 5 (v' := .slice A9 (xs).length c9) rfl rfl ?_;refine ae 6 (v' := aI k) rfl rfl ?_;obtain⟨I3,hb9,p4,j8⟩:=vL hi hl H9 k aK;have z7:=lr hi hl H9 J5 k aK;have hxl:xs.length=k:=by rw[←j8,←C3];simp
 refine Rw ?_;refine zB rfl (fun h1=>?_) (fun h1=>?_)
 ·have f8:k<n:=by have h9:=bW h1;omega
  have X9:k<l.length:=by omega
  obtain⟨yk,D4⟩:∃z,z=l[k]:=⟨_,rfl⟩
  have hyo:yk.ok:=D4 ▸ hl _ (cC X9);have D9:(da s l (k+1))=lg (da s l k) yk:=by rw[D4];exact vD X9
  refine rn [12,7,8,14,10,2,2,2,2] ?_;refine s_q (zM (i:=k) rfl rfl rfl hrd.rdb aN) rfl ?_;refine s_q (zU (i:=k) rfl hrd.rdb (zP aX) rfl) rfl ?_;refine ae 18 (v' := Op.v yk) rfl (by rw[D4];rfl) ?_;refine aa (zJ (RSL p g9 (da s l k).1) rfl (fun w1 a6 a8=>by have h7:=oM p g9 (da s l k).1 yk w1 a8 I3 hg9 hyo z7 aK (by rw[p4];exact hq2);exact h7) rfl ?_);rintro u5 N5;refine ii ?_;refine aa (bg rfl rfl rfl rfl rfl fun N4=>?_);refine zF (b:=N4) ((([(⟨(ao (da s l k).1 yk).2,u5.O,u5.oc,u5.pA,u5.pc⟩:RX)]:List RX).map RX.c).flatten) rfl ?_;refine aa (zW (A:=A9) (els:=(xs).map RX.c) (news:=(([(⟨(ao (da s l k).1 yk).2,u5.O,u5.oc,u5.pA,u5.pc⟩:RX)]:List RX).map RX.c)) rfl rfl (InL.rdb (b:=N4) rfl (by simp[RX.c]) rfl) (zZ (c:=RX.c) (by intro x;simp[RX.c,Value.oneCell']) _) aR rfl fun A21 N2=>⟨_,inferInstance,?_⟩);refine zC (A:=A21) (((xs++[(⟨(ao (da s l k).1 yk).2,u5.O,u5.oc,u5.pA,u5.pc⟩:RX)])).map RX.c) (by first|rfl|exact cA.symm|(simp;done)) (Rt ?_);refine zR (A:=A21) (xs++[(⟨(ao (da s l k).1 yk).2,u5.O,u5.oc,u5.pA,u5.pc⟩:RX)]).length aM ?_;refine ae 5 (v' := .slice A21 (xs++[(⟨(ao (da s l k).1 yk).2,u5.O,u5.oc,u5.pA,u5.pc⟩:RX)]).length N2) rfl aM ?_;refine kA (xs.flatMap RX.rows) [Res.row u5.O (ao (da s l k).1 yk).2.ag.length u5.oc 55 3 ((ao (da s l k).1 yk).2.ag.map As.cs),Res.row u5.pA (ao (da s l k).1 yk).2.ps.length u5.pc 50 3 ((ao (da s l k).1 yk).2.ps.map Y.c)] ?_;refine Es (Res.star (xs.flatMap RX.rows++[Res.row u5.O (ao (da s l k).1 yk).2.ag.length u5.oc 55 3 ((ao (da s l k).1 yk).2.ag.map As.cs),Res.row u5.pA (ao (da s l k).1 yk).2.ps.length u5.pc 50 3 ((ao (da s l k).1 yk).2.ps.map Y.c)])) (Res.star ((xs++[(⟨(ao (da s l k).1 yk).2,u5.O,u5.oc,u5.pA,u5.pc⟩:RX)]).flatMap RX.rows)) (by rw[List.flatMap_append,List.flatMap_cons,List.flatMap_nil,cZ];rfl) ?_;rw[show(ao (da s l k).1 yk).1=(da s l (k+1)).1 from(congrArg Prod.fst D9).symm];exact cr ((k+1),u5.g,A21,N2,(xs++[(⟨(ao (da s l k).1 yk).2,u5.O,u5.oc,u5.pA,u5.pc⟩:RX)])) (by(try dsimp only);exact⟨aN,(by rw[D9];exact N5),(by rw[D9,cA,C3];rfl)⟩)
 have f9:k=n:=by have h9:=bX h1;omega
 have hE:(da s l k)=aw s l:=by rw[f9,hm];exact vM _ _
 rw[hE] at hg9 C3;refine yB (L' := Res.row A9 xs.length c9 47 9 (xs.map RX.c) :: Res.star (xs.flatMap RX.rows) :: RSL p g9 (aw s l).1) (by rw[hE]) (Ru ?_);refine zE (zE (zQ (Rl ?_)));exact dD rfl rfl fun w' a5=>⟨(⟨g9,A9,c9,xs⟩:MX),(by exact⟨hg9,C3⟩),rfl,zA w' a5⟩
section
variable {P:Program} {κ:Cx} {e:Env} {L:List Res} {d:Tmp} {ty:TypeId} {s:String} {af:Array Edge} {gd:Option (Nat × Bool)} {x y:Operand} {T T' : Nat}
theorem DY {t:ByteArray} {i:Nat} (hT:P.underlying T=some .string) (hx:ev e x=some (.string t)) (hy:ev e y=some (aH (i:Int))) (h:i<t.size):cf P κ e L ⟨some d,.index T x y,ty,s,af,gd⟩ (.int .u8 (((t[i]'h).toNat:Nat):Int)):=fun ac w he _=>by
 have hr:=run_index_string (P:=P) w T t .i64 (i:Int) hT;rw[dif_pos ⟨aK,aK⟩] at hr;simp only[Int.toNat_natCast] at hr;simp only[execOp,he.ev hx,he.ev hy];simp[hr]
theorem EJ {a b:ByteArray} {r:Bool} (hx:ev e x=some (.string a)) (hy:ev e y=some (.string b)) (hr:(a.toList == b.toList)=r):cf P κ e L ⟨some d,.binOp .eql T x y T',ty,s,af,gd⟩ (.bool r):=fun ac w he _=>by
 subst hr;simp[execOp,he.ev hx,he.ev hy,eqGuard_at_string,binOp_string_eql]
end
def chO:Nat→UInt8
 | 0=>97
 | 1=>105
 | _=>116
def opS (k:Int):ByteArray:=if ef k=true then⟨((be k).map chO).toArray⟩ else⟨#[63]⟩
theorem eE {k:Int} (h:k=1):Value.string ⟨#[97]⟩=Value.string (opS k):=by subst h;rfl
theorem eD {k:Int} (h:k=2∨k=3∨k=4):Value.string ⟨#[105]⟩=Value.string (opS k):=by rcases h with rfl|rfl|rfl<;>rfl
theorem yW {k:Int} (h:k=5):Value.string ⟨#[105,116]⟩=Value.string (opS k):=by subst h;rfl
theorem yX {k:Int} (h:k=6):Value.string ⟨#[105,97]⟩=Value.string (opS k):=by subst h;rfl
theorem eC {k:Int} (h:k=7):Value.string ⟨#[]⟩=Value.string (opS k):=by subst h;rfl
theorem eB {k:Int} (h:¬(1≤k∧k≤7)):Value.string ⟨#[63]⟩=Value.string (opS k):=by
 have:ef k=false:=cY h;unfold opS;rw[this];rfl
theorem qC {k:Int} (h:ef k=true):(opS k).size=(be k).length:=by
 unfold opS;rw[bZ h];show(((be k).map chO).toArray).size=_;simp
theorem qh {k:Int} (h:ef k=true) {i:Nat} (hi:i<(opS k).size) (hl:i<(be k).length):(opS k)[i]=chO (be k)[i]:=by
 have e:opS k=⟨((be k).map chO).toArray⟩:=by unfold opS;rw[bZ h]
 generalize opS k=b at e hi;subst e;show(((be k).map chO).toArray)[i]=_;simp
theorem EW (k:Int):((opS k).toList == (ByteArray.mk #[63]).toList) = !ef k:=by
 rw[ByteArray.toList_eq,ByteArray.toList_eq];by_cases h:1≤k∧k≤7
 ·have h2:ef k=true:=cX h;rw[h2];rcases(show k=1∨k=2∨k=3∨k=4∨k=5∨k=6∨k=7 by omega) with rfl|rfl|rfl|rfl|rfl|rfl|rfl<;>rfl
 have h2:ef k=false:=cY h;unfold opS;rw[h2];rfl
theorem jpx (k:Int) (w:World) : Pur Tryz.prog 122 [aH k] w (.string (opS k)):=by
 refine Γ Tryz.func122 16 (WOK.start [] _) ?_;refine rn [1,3,0,8,1,2,0,14,1,44,3,0] ?_;refine zB rfl (fun h1=>?_) (fun h1=>?_)
 ·have q4:=bW h1;refine RN ?_;refine zL (zD ?_);exact dD rfl rfl fun w' a5=>⟨by first|exact eE aK|exact(eE aK).symm|exact eD aK|exact(eD aK).symm|exact yW aK|exact(yW aK).symm|exact yX aK|exact(yX aK).symm|exact eC aK|exact(eC aK).symm|exact eB aK|exact(eB aK).symm,a5.upd⟩
 have q4:=bX h1;refine rn [8,1,44,3,0] ?_;refine zB rfl (fun h2=>?_) (fun h2=>?_)
 ·have q6:=bW h2;refine rn [12,7] ?_;refine zB rfl (fun h3=>?_) (fun h3=>?_)
  ·have q6:=bW h3;refine RN ?_;refine zL (zD ?_);exact dD rfl rfl fun w' a5=>⟨by first|exact eE aK|exact(eE aK).symm|exact eD aK|exact(eD aK).symm|exact yW aK|exact(yW aK).symm|exact yX aK|exact(yX aK).symm|exact eC aK|exact(eC aK).symm|exact eB aK|exact(eB aK).symm,a5.upd⟩
  have q6:=bX h3;refine Rr ?_;refine zB rfl (fun h4=>?_) (fun h4=>?_)
  ·have q10:=bW h4;refine RN ?_;refine zL (zD ?_);exact dD rfl rfl fun w' a5=>⟨by first|exact eE aK|exact(eE aK).symm|exact eD aK|exact(eD aK).symm|exact yW aK|exact(yW aK).symm|exact yX aK|exact(yX aK).symm|exact eC aK|exact(eC aK).symm|exact eB aK|exact(eB aK).symm,a5.upd⟩
  have q10:=bX h4;refine Rr ?_;refine zB rfl (fun h5=>?_) (fun h5=>?_)
  ·have q12:=bW h5;refine RN ?_;refine zL (zD ?_);exact dD rfl rfl fun w' a5=>⟨by first|exact eE aK|exact(eE aK).symm|exact eD aK|exact(eD aK).symm|exact yW aK|exact(yW aK).symm|exact yX aK|exact(yX aK).symm|exact eC aK|exact(eC aK).symm|exact eB aK|exact(eB aK).symm,a5.upd⟩
  have q12:=bX h5;refine Rr ?_;refine zB rfl (fun h6=>?_) (fun h6=>?_)
  ·have q14:=bW h6;refine RN ?_;refine zL (zD ?_);exact dD rfl rfl fun w' a5=>⟨by first|exact eE aK|exact(eE aK).symm|exact eD aK|exact(eD aK).symm|exact yW aK|exact(yW aK).symm|exact yX aK|exact(yX aK).symm|exact eC aK|exact(eC aK).symm|exact eB aK|exact(eB aK).symm,a5.upd⟩
  have q14:=bX h6;refine SS ?_;exact dD rfl rfl fun w' a5=>⟨by first|exact eE aK|exact(eE aK).symm|exact eD aK|exact(eD aK).symm|exact yW aK|exact(yW aK).symm|exact yX aK|exact(yX aK).symm|exact eC aK|exact(eC aK).symm|exact eB aK|exact(eB aK).symm,a5.upd⟩
 have q6:=bX h2;refine Rr ?_;refine zB rfl (fun h7=>?_) (fun h7=>?_)
 ·have q6:=bW h7;refine rn [12,7] ?_;refine zB rfl (fun h8=>?_) (fun h8=>?_)
  ·have q6:=bW h8;refine RN ?_;refine zL (zD ?_);exact dD rfl rfl fun w' a5=>⟨by first|exact eE aK|exact(eE aK).symm|exact eD aK|exact(eD aK).symm|exact yW aK|exact(yW aK).symm|exact yX aK|exact(yX aK).symm|exact eC aK|exact(eC aK).symm|exact eB aK|exact(eB aK).symm,a5.upd⟩
  have q6:=bX h8;refine Rr ?_;refine zB rfl (fun h9=>?_) (fun h9=>?_)
  ·have q10:=bW h9;refine RN ?_;refine zL (zD ?_);exact dD rfl rfl fun w' a5=>⟨by first|exact eE aK|exact(eE aK).symm|exact eD aK|exact(eD aK).symm|exact yW aK|exact(yW aK).symm|exact yX aK|exact(yX aK).symm|exact eC aK|exact(eC aK).symm|exact eB aK|exact(eB aK).symm,a5.upd⟩
  have q10:=bX h9;refine Rr ?_;refine zB rfl (fun K3=>?_) (fun K3=>?_)
  ·have q12:=bW K3;refine RN ?_;refine zL (zD ?_);exact dD rfl rfl fun w' a5=>⟨by first|exact eE aK|exact(eE aK).symm|exact eD aK|exact(eD aK).symm|exact yW aK|exact(yW aK).symm|exact yX aK|exact(yX aK).symm|exact eC aK|exact(eC aK).symm|exact eB aK|exact(eB aK).symm,a5.upd⟩
  have q12:=bX K3;refine Rr ?_;refine zB rfl (fun K1=>?_) (fun K1=>?_)
  ·have q14:=bW K1;refine RN ?_;refine zL (zD ?_);exact dD rfl rfl fun w' a5=>⟨by first|exact eE aK|exact(eE aK).symm|exact eD aK|exact(eD aK).symm|exact yW aK|exact(yW aK).symm|exact yX aK|exact(yX aK).symm|exact eC aK|exact(eC aK).symm|exact eB aK|exact(eB aK).symm,a5.upd⟩
  have q14:=bX K1;refine SS ?_;exact dD rfl rfl fun w' a5=>⟨by first|exact eE aK|exact(eE aK).symm|exact eD aK|exact(eD aK).symm|exact yW aK|exact(yW aK).symm|exact yX aK|exact(yX aK).symm|exact eC aK|exact(eC aK).symm|exact eB aK|exact(eB aK).symm,a5.upd⟩
 have q6:=bX h7;refine rn [10,44,3,0] ?_;refine zB rfl (fun P8=>?_) (fun P8=>?_)
 ·have q6:=bW P8;refine RN ?_;refine zL (zD ?_);exact dD rfl rfl fun w' a5=>⟨by first|exact eE aK|exact(eE aK).symm|exact eD aK|exact(eD aK).symm|exact yW aK|exact(yW aK).symm|exact yX aK|exact(yX aK).symm|exact eC aK|exact(eC aK).symm|exact eB aK|exact(eB aK).symm,a5.upd⟩
 have q6:=bX P8;refine Rr ?_;refine zB rfl (fun P7=>?_) (fun P7=>?_)
 ·have q10:=bW P7;refine RN ?_;refine zL (zD ?_);exact dD rfl rfl fun w' a5=>⟨by first|exact eE aK|exact(eE aK).symm|exact eD aK|exact(eD aK).symm|exact yW aK|exact(yW aK).symm|exact yX aK|exact(yX aK).symm|exact eC aK|exact(eC aK).symm|exact eB aK|exact(eB aK).symm,a5.upd⟩
 have q10:=bX P7;refine Rr ?_;refine zB rfl (fun Y3=>?_) (fun Y3=>?_)
 ·have q12:=bW Y3;refine RN ?_;refine zL (zD ?_);exact dD rfl rfl fun w' a5=>⟨by first|exact eE aK|exact(eE aK).symm|exact eD aK|exact(eD aK).symm|exact yW aK|exact(yW aK).symm|exact yX aK|exact(yX aK).symm|exact eC aK|exact(eC aK).symm|exact eB aK|exact(eB aK).symm,a5.upd⟩
 have q12:=bX Y3;refine Rr ?_;refine zB rfl (fun Y2=>?_) (fun Y2=>?_)
 ·have q14:=bW Y2;refine RN ?_;refine zL (zD ?_);exact dD rfl rfl fun w' a5=>⟨by first|exact eE aK|exact(eE aK).symm|exact eD aK|exact(eD aK).symm|exact yW aK|exact(yW aK).symm|exact yX aK|exact(yX aK).symm|exact eC aK|exact(eC aK).symm|exact eB aK|exact(eB aK).symm,a5.upd⟩
 have q14:=bX Y2;refine SS ?_;exact dD rfl rfl fun w' a5=>⟨by first|exact eE aK|exact(eE aK).symm|exact eD aK|exact(eD aK).symm|exact yW aK|exact(yW aK).symm|exact yX aK|exact(yX aK).symm|exact eC aK|exact(eC aK).symm|exact eB aK|exact(eB aK).symm,a5.upd⟩
theorem IT {j:Nat} (h:(((chO j).toNat:Nat):Int)=97):szO j=8:=by
 match j with
 | 0=>rfl
 | 1=>exact absurd h aO
 | j+2=>exact absurd h (show¬(((116:UInt8).toNat:Nat):Int)=97 by decide)
theorem IRx {j:Nat} (h:¬(((chO j).toNat:Nat):Int)=97):szO j=2:=by
 match j with
 | 0=>exact absurd rfl h
 | j+1=>rfl
theorem nf (k:Int) (w:World) : Pur Tryz.prog 121 [aH k] w (aI (szK k)):=by
 refine Γ Tryz.func121 25 (WOK.start [] _) ?_;refine Sq ?_;refine aa (zH rfl (fun w1 a6=>jpx (k) w1) rfl (rn [3,0,8,1,2] ?_));refine s_q (EJ rfl rfl (EW k)) rfl (rn [0] ?_);refine zB rfl (fun h1=>?_) (fun h1=>?_)
 ·have hB:ef k=false:=by simpa using h1
  refine Re ?_;exact dD rfl rfl fun w' a5=>⟨by unfold szK;rw[hB];rfl,a5.upd⟩
 have hB:ef k=true:=by simpa using h1
 refine rn [12,7,1,3,0,8,1,3,0,14] ?_;refine ae 4 (v' := aI (1+(((be k).take 0).map szO).sum)) rfl aP ?_;refine dP [2,3] (fun(x:Nat)=>[(4,aI (1+(((be k).take x).map szO).sum)),(5,aI x)]) (fun(x:Nat)=>[]) (fun(x:Nat)=>x≤(be k).length) (fun(x:Nat)=>(be k).length-x) 0 aW ?_;rintro i y1;replace y1:i≤(be k).length:=y1;have o5:=wE (be k) i;have T0:=vP k;have X5:=qC hB;refine rn [8,1,2,2] ?_;refine s_q (jn aL rfl) rfl ?_;refine ae 12 (v' := aI ((be k).length)) rfl (by rw[qC hB]) (rn [46,0] ?_);refine zB rfl (fun h2=>?_) (fun h2=>?_)
 ·have H5:i<(be k).length:=by have h9:=bW h2;omega
  refine SV ?_;refine s_q (DY (i:=i) aL rfl rfl aK) rfl ?_;refine ae 18 (v' := .int .u8 (((chO (be k)[i]).toNat:Nat):Int)) rfl (by rw[qh hB aK H5]) (rn [44,0] ?_);refine zB rfl (fun h3=>?_) (fun h3=>?_)
  ·have hj8:szO (be k)[i]=8:=IT (bW h3);refine rn [10,2] ?_;refine s_q (xP (a:=(1+(((be k).take i).map szO).sum)) (b:=8) rfl rfl aR) rfl (Rt ?_);refine ae 4 (v' := aI (1+(((be k).take (i+1)).map szO).sum)) rfl (by rw[yV H5,hj8];congr 1) ?_;exact cr (i+1) aU
  have D6:szO (be k)[i]=2:=IRx (bX h3);refine rn [10,2] ?_;refine s_q (xP (a:=(1+(((be k).take i).map szO).sum)) (b:=2) rfl rfl aR) rfl (Rt ?_);refine ae 4 (v' := aI (1+(((be k).take (i+1)).map szO).sum)) rfl (by rw[yV H5,D6];congr 1) ?_;exact cr (i+1) aU
 have F6:i=(be k).length:=by have h9:=bX h2;omega
 refine Ru ?_;refine zE (zE (zQ (Rl ?_)));exact dD rfl rfl fun w' a5=>⟨by unfold szK;rw[bZ hB,F6,cI],a5.upd⟩
theorem qO (A:bU) (n cap:Nat) (bs:List Nat) (w:World) (hrd:Rd w [] A n 1 (bs.map aE)) (hn8:n≤8) (hby:∀b∈bs,b<256):Pur Tryz.prog 123 [.slice A n cap] w (aJ ((rdN bs:Nat):Int)):=by
 refine Γ Tryz.func123 20 (WOK.start [] _) ?_;have hm:n=bs.length:=by have:=hrd.old.len;simpa using this
 refine Sy ?_;refine ae 3 (v' := aJ (((rdN (bs.take 0)):Nat):Int)) rfl aP ?_;refine dP [0,2] (fun(x:Nat)=>[(3,aJ (((rdN (bs.take x)):Nat):Int)),(4,aI x)]) (fun(x:Nat)=>[]) (fun(x:Nat)=>x≤n) (fun(x:Nat)=>n-x) 0 aW ?_;rintro i y1;replace y1:i≤n:=y1;refine Rw ?_;refine zB rfl (fun h1=>?_) (fun h1=>?_)
 ·have H5:i<n:=by have h9:=bW h1;omega
  have hbs:i<bs.length:=by omega
  have hb9:=hby _ (cC hbs);have j8:=iM hby i aK;have z7:=Fm (k:=i) aK;have hq9:rdN (bs.take i)*256<18446744073709551616-255:=by
    have h8:(rdN (bs.take i)+1)*256≤256 ^ i*256:=Nat.mul_le_mul_right _ j8;omega
  have o5:=iL hbs;refine rn [12,7,8,14,10,2] ?_;refine s_q (uB (z:=(((rdN (bs.take i))*256:Nat):Int)) rfl rfl (by rw[ey aK aK];omega)) rfl (rn [2,2] ?_);refine s_q (zM (i:=i) rfl rfl rfl hrd.rdb aN) rfl ?_;refine s_q (zX (i:=i) (o:=0) rfl hrd.rdb (zP aN) rfl rfl) rfl ?_;refine s_q (yS (z:=((bs[i]:Nat):Int)) rfl (ey aK aK)) rfl ?_;refine s_q (yI (z:=(((rdN (bs.take (i+1))):Nat):Int)) rfl rfl (by rw[ey aK aK];omega)) rfl (Rt ?_);exact cr (i+1) aU
 have F6:i=n:=by have h9:=bX h1;omega
 refine Ru ?_;refine zE (zE (zQ (Rl ?_)));exact dD rfl rfl fun w' a5=>⟨by rw[F6,hm,cI],a5.upd⟩
theorem IS {j:Nat} (hj:j≤2) (h:(((chO j).toNat:Nat):Int)=105):j=1:=by
 rcases(show j=0∨j=1∨j=2 by omega) with rfl|rfl|rfl
 ·exact absurd h aO
 ·rfl
 exact absurd h aO
theorem IQ {j:Nat} (hj:j≤2) (h:(((chO j).toNat:Nat):Int)=116):j=2:=by
 rcases(show j=0∨j=1∨j=2 by omega) with rfl|rfl|rfl
 ·exact absurd h aO
 ·exact absurd h aO
 rfl
theorem IU {j:Nat} (hj:j≤2) (h1:¬(((chO j).toNat:Nat):Int)=105) (h2:¬(((chO j).toNat:Nat):Int)=116):j=0:=by
 rcases(show j=0∨j=1∨j=2 by omega) with rfl|rfl|rfl
 ·rfl
 ·exact absurd rfl h1
 exact absurd rfl h2
theorem kI {js:List Nat} {s:Op × List Nat}:∀k,k≤js.length→(eT js s k).2=s.2.drop ((js.take k).map szO).sum
 | 0,_=>by simp[eT]
 | k+1,h=>by
  rw[sP aK,yV aK];show(eT js s k).2.drop _=_;rw[kI k aK,List.drop_drop]
theorem xc (A:bU) (n cap p:Nat) (bs:List Nat) (w:World) (hrd:Rd w [] A n 1 (bs.map aE)) (j5:n≤cap) (hn:n≤1000000) (hpm:p≤2000000) (hby:∀b∈bs,b<256):Pur Tryz.prog 66 [.slice A n cap,aH (p:Int)] w (.tuple [.agg (Op.c (eA bs p).1).toArray,aI ((eA bs p).2.1),.bool (eA bs p).2.2].toArray):=by
 refine Γ Tryz.func66 93 (WOK.start [] _) ?_;have hm:n=bs.length:=by have:=hrd.old.len;simpa using this
 refine Ri ?_;refine aa (zK rfl fun b4=>rn [3,3,0,8,1,2,46,2] ?_);refine zS 15 rfl (fun h1=>?_) (fun h1=>?_)
 ·exfalso;have h9:=bW h1;omega
 refine RU ?_;refine zB rfl (fun h2=>?_) (fun h2=>?_)
 ·have hp:¬p<bs.length:=by have h9:=bW h2;omega
  have hD:eA bs p=(zO,0,false):=by unfold eA;rw[dif_neg hp]
  refine Sv ?_;exact dI rfl (.cellw rfl rfl) (.tmp rfl) (.tmp rfl) fun w' a5=>⟨by rw[hD];rfl,a5.upd⟩
 have hp:p<bs.length:=by have h9:=bX h2;omega
 obtain⟨kb,T2⟩:∃z,z=bs[p]:=⟨_,rfl⟩
 have hb9:kb<256:=T2 ▸ hby _ (cC hp);have X5:=vk ((kb:Nat):Int);refine SQ ?_;refine s_q (zM (i:=p) rfl rfl rfl hrd.rdb aS) rfl ?_;refine s_q (zX (i:=p) (o:=0) rfl hrd.rdb (zP aN) rfl rfl) rfl ?_;refine ae 25 (v' := .int .u8 ((kb:Nat):Int)) rfl (by rw[T2]) ?_;refine s_q (yS (z:=((kb:Nat):Int)) rfl (dY aK aK)) rfl (RR ?_);refine aa (zH rfl (fun w1 a6=>nf (((kb:Nat):Int)) w1) rfl (rn [3,0,8,1,2,44,0] ?_));refine zB rfl (fun h3=>?_) (fun h3=>?_)
 ·have hs:szK ((kb:Nat):Int)=0:=by have h9:=bW h3;omega
  have hD:eA bs p=(zO,p+1,true):=by unfold eA;rw[dif_pos hp,←T2,bZ hs]
  refine rn [1,49,2,43,33,3,3,0,11,13] ?_;exact dI rfl (.cellw rfl rfl) (.tmp rfl) (.tmp rfl) fun w' a5=>⟨by rw[hD];rfl,a5.upd⟩
 have hs:¬szK ((kb:Nat):Int)=0:=by have h9:=bX h3;omega
 refine rn [12,7,8,1,2,47,2] ?_;refine s_q (tJ (a:=n) (b:=p) rfl rfl aR aR) rfl (rn [2,46,0] ?_);refine zB rfl (fun h4=>?_) (fun h4=>?_)
 ·have ht:bs.length-p<szK ((kb:Nat):Int):=by have h9:=bW h4;omega
  have hD:eA bs p=(zO,bs.length,true):=by unfold eA;rw[dif_pos hp,←T2,bY hs,bZ ht]
  refine rn [1,49,2,47,33,3,3,0,11,13] ?_;exact dI rfl (.cellw rfl rfl) (.tmp rfl) (.tmp rfl) fun w' a5=>⟨by rw[hD,hm];rfl,a5.upd⟩
 have ht:¬bs.length-p<szK ((kb:Nat):Int):=by have h9:=bX h4;omega
 have hD:eA bs p=(Cz kb (bs.drop (p+1)),p+szK ((kb:Nat):Int),true):=by unfold eA;rw[dif_pos hp,←T2,bY hs,bY ht]
 have hB:ef ((kb:Nat):Int)=true:=by unfold szK at hs;split at hs<;>simp_all
 have t6:((be ((kb:Nat):Int)).map szO).sum≤(bs.drop (p+1)).length:=by unfold szK at ht;rw[bZ hB] at ht;simp only[cS];omega
 have P5:=qC hB;refine Sx ?_;refine s_q (yF (c:=Op.c ⟨((kb:Nat):Int),0,0,0⟩) rfl aL) rfl ?_;refine aa (zK rfl fun b9=>rn [33] ?_);refine zF (b:=b9) (Op.c (eT (be ((kb:Nat):Int)) ((⟨((kb:Nat):Int),0,0,0⟩:Op),bs.drop (p+1)) 0).1) aP (rn [0,1,2,43,3,0,1,2] ?_);refine aa (zH rfl (fun w1 a6=>jpx (((kb:Nat):Int)) w1) rfl (rn [3,0,8,1,3,0,14] ?_));refine ae 10 (v' := aI (p+1+(((be ((kb:Nat):Int)).take 0).map szO).sum)) rfl aP ?_;refine dP [0,4,5,6,9,11] (fun(x:Nat)=>[(10,aI (p+1+(((be ((kb:Nat):Int)).take x).map szO).sum)),(12,aI x)]) (fun(x:Nat)=>[Res.blk b4 35 [aH 0,aH 0,aH 0,aJ 0],Res.blk b9 35 (Op.c (eT (be ((kb:Nat):Int)) ((⟨((kb:Nat):Int),0,0,0⟩:Op),bs.drop (p+1)) x).1)]) (fun(x:Nat)=>x≤(be ((kb:Nat):Int)).length) (fun(x:Nat)=>(be ((kb:Nat):Int)).length-x) 0 aW ?_;rintro k f6;replace f6:k≤(be ((kb:Nat):Int)).length:=f6;obtain⟨j8,o5⟩:=iz (js:=(be ((kb:Nat):Int))) (s:=((⟨((kb:Nat):Int),0,0,0⟩:Op),bs.drop (p+1))) k aK t6;have hol9:=vP ((kb:Nat):Int);have hd9:(eT (be ((kb:Nat):Int)) ((⟨((kb:Nat):Int),0,0,0⟩:Op),bs.drop (p+1)) k).2=bs.drop (p+1+(((be ((kb:Nat):Int)).take k).map szO).sum):=by rw[kI k aK,List.drop_drop]
 rw[cS] at j8;have hld:=congrArg List.length hd9;rw[cS] at hld;refine rn [8,1,2,2] ?_;refine s_q (jn aL rfl) rfl ?_;refine ae 51 (v' := aI ((be ((kb:Nat):Int)).length)) rfl (by rw[qC hB]) (rn [46,0] ?_);refine zB rfl (fun h5=>?_) (fun h5=>?_)
 ·have f8:k<(be ((kb:Nat):Int)).length:=by have h9:=bW h5;omega
  have P5:=o5 f8;obtain⟨jk,G8⟩:∃z,z=(be ((kb:Nat):Int))[k]:=⟨_,rfl⟩
  have D6:jk≤2:=G8 ▸ kh _ _ (cC f8);rw[←G8] at P5;have D9:(eT (be ((kb:Nat):Int)) ((⟨((kb:Nat):Int),0,0,0⟩:Op),bs.drop (p+1)) (k+1)).1=gN jk (eT (be ((kb:Nat):Int)) ((⟨((kb:Nat):Int),0,0,0⟩:Op),bs.drop (p+1)) k).1 ((rdN ((bs.drop (p+1+(((be ((kb:Nat):Int)).take k).map szO).sum)).take (szO jk)):Nat):Int):=by rw[sP f8,←G8];show gN jk (eT (be ((kb:Nat):Int)) ((⟨((kb:Nat):Int),0,0,0⟩:Op),bs.drop (p+1)) k).1 ((rdN ((eT (be ((kb:Nat):Int)) ((⟨((kb:Nat):Int),0,0,0⟩:Op),bs.drop (p+1)) k).2.take (szO jk)):Nat):Int)=_;rw[hd9]
  have S5:∀z,(p+1+(((be ((kb:Nat):Int)).take k).map szO).sum)+z≤bs.length→Rd w [] (cz A cap (p+1+(((be ((kb:Nat):Int)).take k).map szO).sum) 1) ((p+1+(((be ((kb:Nat):Int)).take k).map szO).sum)+z-(p+1+(((be ((kb:Nat):Int)).take k).map szO).sum)) 1 (((bs.drop (p+1+(((be ((kb:Nat):Int)).take k).map szO).sum)).take z).map aE):=fun z hz=>by
    have h9:=hrd.sub (cap:=cap) (l:=(p+1+(((be ((kb:Nat):Int)).take k).map szO).sum)) (m:=(p+1+(((be ((kb:Nat):Int)).take k).map szO).sum)+z) aK aK j5;rw[Nat.add_sub_cancel_left] at h9 ⊢;rw[←List.map_drop,←List.map_take] at h9;exact h9
  have hbz:∀z,∀b∈((bs.drop (p+1+(((be ((kb:Nat):Int)).take k).map szO).sum)).take z),b<256:=fun z b hb=>hby b (cL (cD hb));refine SV ?_;refine s_q (DY (i:=k) aL rfl rfl aK) rfl ?_;refine ae 57 (v' := .int .u8 (((chO jk).toNat:Nat):Int)) rfl (by rw[qh hB aK f8,G8]) (rn [0,14,1,44,3,0] ?_);refine zB rfl (fun h6=>?_) (fun h6=>?_)
  ·have hj:jk=1:=IS D6 (bW h6);have hzz:szO jk=2:=by rw[hj];rfl
   refine rn [1,2,2,2] ?_;refine s_q (xP (a:=(p+1+(((be ((kb:Nat):Int)).take k).map szO).sum)) (b:=2) rfl rfl aR) rfl ?_;refine s_q (rE (l:=(p+1+(((be ((kb:Nat):Int)).take k).map szO).sum)) (h:=(p+1+(((be ((kb:Nat):Int)).take k).map szO).sum)+2) rfl rfl rfl rfl rfl aK aK) rfl ?_;refine aa (zH rfl (fun w1 a6=>qO (cz A cap (p+1+(((be ((kb:Nat):Int)).take k).map szO).sum) 1) ((p+1+(((be ((kb:Nat):Int)).take k).map szO).sum)+2-(p+1+(((be ((kb:Nat):Int)).take k).map szO).sum)) (cap-(p+1+(((be ((kb:Nat):Int)).take k).map szO).sum)) ((bs.drop (p+1+(((be ((kb:Nat):Int)).take k).map szO).sum)).take 2) w1 (Rd.ofRd (L0:=[]) a6 (S5 2 aK) aK) aK (hbz _)) rfl (rn [62,4] ?_));refine aa (zI rfl rfl rfl rfl rfl rfl rfl ?_);refine zF (b:=b9) (Op.c (eT (be ((kb:Nat):Int)) ((⟨((kb:Nat):Int),0,0,0⟩:Op),bs.drop (p+1)) (k+1)).1) (by rw[D9,hj];rfl) (rn [0,10,2] ?_);refine s_q (xP (a:=(p+1+(((be ((kb:Nat):Int)).take k).map szO).sum)) (b:=2) rfl rfl aR) rfl (rn [3,9,15,15,7,10,2,43,3,9] ?_);refine ae 10 (v' := aI (p+1+(((be ((kb:Nat):Int)).take (k+1)).map szO).sum)) rfl (congrArg (fun z:Nat=>aH (z:Int)) (by rw[yV f8,←G8,hj];rfl)) ?_;exact cr (k+1) aU
  have hn1:=bX h6;refine Rr ?_;refine zB rfl (fun h7=>?_) (fun h7=>?_)
  ·have hj:jk=2:=IQ D6 (bW h7);have hzz:szO jk=2:=by rw[hj];rfl
   refine rn [1,2,2,2] ?_;refine s_q (xP (a:=(p+1+(((be ((kb:Nat):Int)).take k).map szO).sum)) (b:=2) rfl rfl aR) rfl ?_;refine s_q (rE (l:=(p+1+(((be ((kb:Nat):Int)).take k).map szO).sum)) (h:=(p+1+(((be ((kb:Nat):Int)).take k).map szO).sum)+2) rfl rfl rfl rfl rfl aK aK) rfl ?_;refine aa (zH rfl (fun w1 a6=>qO (cz A cap (p+1+(((be ((kb:Nat):Int)).take k).map szO).sum) 1) ((p+1+(((be ((kb:Nat):Int)).take k).map szO).sum)+2-(p+1+(((be ((kb:Nat):Int)).take k).map szO).sum)) (cap-(p+1+(((be ((kb:Nat):Int)).take k).map szO).sum)) ((bs.drop (p+1+(((be ((kb:Nat):Int)).take k).map szO).sum)).take 2) w1 (Rd.ofRd (L0:=[]) a6 (S5 2 aK) aK) aK (hbz _)) rfl (rn [62,4] ?_));refine aa (zI rfl rfl rfl rfl rfl rfl rfl ?_);refine zF (b:=b9) (Op.c (eT (be ((kb:Nat):Int)) ((⟨((kb:Nat):Int),0,0,0⟩:Op),bs.drop (p+1)) (k+1)).1) (by rw[D9,hj];rfl) (rn [0,10,2] ?_);refine s_q (xP (a:=(p+1+(((be ((kb:Nat):Int)).take k).map szO).sum)) (b:=2) rfl rfl aR) rfl (rn [3,9,15,15,7,10,2,43,3,9] ?_);refine ae 10 (v' := aI (p+1+(((be ((kb:Nat):Int)).take (k+1)).map szO).sum)) rfl (congrArg (fun z:Nat=>aH (z:Int)) (by rw[yV f8,←G8,hj];rfl)) ?_;exact cr (k+1) aU
  have hj:jk=0:=IU D6 hn1 (bX h7);have hzz:szO jk=8:=by rw[hj];rfl
  refine rn [1,2,2,2] ?_;refine s_q (xP (a:=(p+1+(((be ((kb:Nat):Int)).take k).map szO).sum)) (b:=8) rfl rfl aR) rfl ?_;refine s_q (rE (l:=(p+1+(((be ((kb:Nat):Int)).take k).map szO).sum)) (h:=(p+1+(((be ((kb:Nat):Int)).take k).map szO).sum)+8) rfl rfl rfl rfl rfl aK aK) rfl ?_;refine aa (zH rfl (fun w1 a6=>qO (cz A cap (p+1+(((be ((kb:Nat):Int)).take k).map szO).sum) 1) ((p+1+(((be ((kb:Nat):Int)).take k).map szO).sum)+8-(p+1+(((be ((kb:Nat):Int)).take k).map szO).sum)) (cap-(p+1+(((be ((kb:Nat):Int)).take k).map szO).sum)) ((bs.drop (p+1+(((be ((kb:Nat):Int)).take k).map szO).sum)).take 8) w1 (Rd.ofRd (L0:=[]) a6 (S5 8 aK) aK) aK (hbz _)) rfl (Nd ?_));refine aa (zI rfl rfl rfl rfl rfl rfl rfl ?_);refine zF (b:=b9) (Op.c (eT (be ((kb:Nat):Int)) ((⟨((kb:Nat):Int),0,0,0⟩:Op),bs.drop (p+1)) (k+1)).1) (by rw[D9,hj];rfl) (rn [0,10,2] ?_);refine s_q (xP (a:=(p+1+(((be ((kb:Nat):Int)).take k).map szO).sum)) (b:=8) rfl rfl aR) rfl (rn [3,9,15,15,7,10,2,43,3,9] ?_);refine ae 10 (v' := aI (p+1+(((be ((kb:Nat):Int)).take (k+1)).map szO).sum)) rfl (congrArg (fun z:Nat=>aH (z:Int)) (by rw[yV f8,←G8,hj];rfl)) ?_;exact cr (k+1) aU
 have f9:k=(be ((kb:Nat):Int)).length:=by have h9:=bX h5;omega
 subst f9;have J0:(p+1+(((be ((kb:Nat):Int)).take (be ((kb:Nat):Int)).length).map szO).sum)=p+szK ((kb:Nat):Int):=by unfold szK;rw[bZ hB,cI];omega
 refine Ru ?_;refine zE (zE (zQ (rn [7,1,45,2,33,3,3,0,11] ?_)));exact dI rfl (.cellw rfl rfl) (.tmp rfl) (.tmp rfl) fun w' a5=>⟨by rw[hD,←J0];rfl,a5.upd⟩
theorem su (A:bU) (n cap:Nat) (bs:List Nat) (w:World) (hrd:Rd w [] A n 1 (bs.map aE)) (j5:n≤cap) (hn:n≤1000000) (hby:∀b∈bs,b<256):au (ι:=(bU × Nat)) Tryz.prog 15 [.slice A n cap] w [] (fun x=>True) (fun x=>.slice x.1 (ct bs).length x.2) (fun x=>[Res.row x.1 ((ct bs)).length x.2 35 4 (((ct bs)).map Op.c)]) (fun x=>[]):=by
 refine Γ Tryz.func15 25 (WOK.start (fps []) _) ?_;have hm:n=bs.length:=by have:=hrd.old.len;simpa using this
 refine rn [1,3,0,1,3] ?_;refine xA 3 35 4 rfl fun Az1 capz1 hcz1=>?_;refine zC (A:=Az1) (([]:List Op).map Op.c) rfl (rn [0,1,3,0,8,14] ?_);refine zC (A:=Az1) (([]:List Op).map Op.c) aP ?_;refine zR (A:=Az1) ([]:List Op).length aP ?_;refine dP [0,2] (fun(x:Nat × Nat × bU × Nat × List Op)=>[(3,.slice x.2.2.1 (x.2.2.2.2).length x.2.2.2.1),(4,aI x.1)]) (fun(x:Nat × Nat × bU × Nat × List Op)=>[Res.row x.2.2.1 (x.2.2.2.2).length x.2.2.2.1 35 4 ((x.2.2.2.2).map Op.c)]) (fun(x:Nat × Nat × bU × Nat × List Op)=>x.2.2.2.2++fq bs x.2.1 x.1=ct bs∧bs.length-x.1≤x.2.1∧x.1≤bs.length) (fun(x:Nat × Nat × bU × Nat × List Op)=>bs.length-x.1) (0,bs.length,Az1,capz1,[]) (by(try dsimp only);exact⟨rfl,aK,aK⟩) ?_;rintro⟨p,k,A9,c9,pre⟩ ⟨hd,hk,hp⟩;replace hd:pre++fq bs k p=ct bs:=hd;replace hk:bs.length-p≤k:=hk;replace hp:p≤bs.length:=hp;refine yB (L' := [Res.row A9 (pre).length c9 35 4 ((pre).map Op.c)]) rfl ?_;refine ae 3 (v' := .slice A9 (pre).length c9) rfl rfl ?_;refine ae 4 (v' := aI p) rfl rfl ?_;have hlp:=congrArg List.length hd;rw[cQ] at hlp;have hdl:=qI bs;refine Rw ?_;refine zB rfl (fun h1=>?_) (fun h1=>?_)
 ·have z7:p<bs.length:=by have h9:=bW h1;omega
  obtain⟨hin1,hin2,hin3⟩:=rk z7;obtain⟨k1,rfl⟩:∃z,k=z+1:=⟨k-1,aK⟩
  have hd9:(pre++[(eA bs p).1])++fq bs k1 (eA bs p).2.1=ct bs:=by rw[←hd,cJ,kJ z7];rfl
  refine rn [12,7,14,1,2,2] ?_;refine aa (zH rfl (fun w1 a6=>xc A n cap p bs w1 (Rd.ofRd (L0:=[]) a6 hrd aK) j5 hn aK hby) rfl (rn [2,40,40,40] ?_));refine aa (zK rfl fun b5=>rn [33] ?_);refine zF (b:=b5) (Op.c (eA bs p).1) aP (rn [3,3,0,1,2,45] ?_);refine aa (bg rfl rfl rfl rfl rfl fun v7=>?_);refine zF (b:=v7) ((([(eA bs p).1]:List Op).map Op.c).flatten) rfl ?_;refine aa (zW (A:=A9) (els:=(pre).map Op.c) (news:=(([(eA bs p).1]:List Op).map Op.c)) rfl rfl (InL.rdb (b:=v7) rfl (by simp[Op.c]) rfl) (zZ (c:=Op.c) (by intro x;simp[Op.c,Value.oneCell']) _) aR rfl fun A22 cap22=>⟨_,inferInstance,?_⟩);refine zC (A:=A22) (((pre++[(eA bs p).1])).map Op.c) (by first|rfl|exact cA.symm|(simp;done)) (rn [3,0,10,2,3,9,15] ?_);refine zR (A:=A22) (pre++[(eA bs p).1]).length aM ?_;refine ae 3 (v' := .slice A22 (pre++[(eA bs p).1]).length cap22) rfl aM ?_;exact cr ((eA bs p).2.1,k1,A22,cap22,(pre++[(eA bs p).1])) (by(try dsimp only);exact⟨hd9,aK,hin3⟩)
 have z7:¬p<bs.length:=by have h9:=bX h1;omega
 have F4:pre=ct bs:=by rw[←hd,nM z7,cZ]
 subst F4;refine Ru ?_;refine zE (zE (zQ (Rl ?_)));exact dD rfl rfl fun w' a5=>⟨(A9,c9),aQ,rfl,zA w' a5⟩
theorem AY (A B:bU) (c1 c2:Nat) (l:List Int) (w:World) (ha:Rd w [] A l.length 1 (l.map aC)) (hb:Rd w [] B l.length 1 (l.map aC)) (hn:l.length≤1000000):Pur Tryz.prog 75 [.slice A l.length c1,.slice B l.length c2] w (.bool true):=by
 refine Γ Tryz.func75 26 (WOK.start [] _) ?_;refine Sz ?_;refine zV 10 (b:=false) rfl aM (rn [0,20,12,7,8,1,2,47,2,0,14] ?_);refine dP [0,1,4,12] (fun(x:Nat)=>[(13,aI x)]) (fun(x:Nat)=>[]) (fun(x:Nat)=>x≤l.length) (fun(x:Nat)=>l.length-x) 0 aW ?_;rintro k f6;replace f6:k≤l.length:=f6;refine Rj ?_;refine zB rfl (fun h1=>?_) (fun h1=>?_)
 ·have f8:k<l.length:=by have h9:=bW h1;omega
  refine rn [12,7,8,14,1,2,3,0,8] ?_;refine bn [] an rfl (RV ?_);refine dq 2 rfl (zM (i:=k) rfl rfl rfl ha.rdb aN) ?_;refine dq 3 rfl (zX (i:=k) (o:=0) rfl ha.rdb (zP aX) rfl rfl) (SU ?_);refine dq 6 rfl (zM (i:=k) rfl rfl rfl hb.rdb aN) ?_;refine dq 7 rfl (zX (i:=k) (o:=0) rfl hb.rdb (zP aX) rfl rfl) (rn [23,8,51] ?_);refine zV 24 (b:=false) rfl aM (rn [27,7,20,12,15,7,10,43,2,9] ?_);exact cr (k+1) aU
 have f9:k=l.length:=by have h9:=bX h1;omega
 refine Ru ?_;refine zE (zE (zQ (So ?_)));exact dD rfl rfl fun w' a5=>⟨aP,a5.upd⟩
theorem GL (A B:bU) (c1 c2:Nat) (l:List PP) (w:World) (ha:Rd w [] A l.length 2 (l.map PP.c)) (hb:Rd w [] B l.length 2 (l.map PP.c)) (hn:l.length≤1000000):Pur Tryz.prog 76 [.slice A l.length c1,.slice B l.length c2] w (.bool true):=by
 refine Γ Tryz.func76 26 (WOK.start [] _) ?_;refine Sz ?_;refine zV 10 (b:=false) rfl aM (rn [0,20,12,7,8,1,2,47,2,0,14] ?_);refine dP [0,1,4,12] (fun(x:Nat)=>[(13,aI x)]) (fun(x:Nat)=>[]) (fun(x:Nat)=>x≤l.length) (fun(x:Nat)=>l.length-x) 0 aW ?_;rintro k f6;replace f6:k≤l.length:=f6;refine Rj ?_;refine zB rfl (fun h1=>?_) (fun h1=>?_)
 ·have f8:k<l.length:=by have h9:=bW h1;omega
  refine rn [12,7,8,14,1,2,3,0,8] ?_;refine bn [] an rfl (RV ?_);refine dq 2 rfl (zM (i:=k) rfl rfl rfl ha.rdb aN) ?_;refine dq 3 rfl (zU (i:=k) rfl ha.rdb (zP aX) rfl) (SU ?_);refine dq 6 rfl (zM (i:=k) rfl rfl rfl hb.rdb aN) ?_;refine dq 7 rfl (zU (i:=k) rfl hb.rdb (zP aX) rfl) ?_;refine dq 8 rfl (Fi rfl rfl rfl) ?_;refine zV 24 (b:=false) rfl aM (rn [27,7,20,12,15,7,10,43,2,9] ?_);exact cr (k+1) aU
 have f9:k=l.length:=by have h9:=bX h1;omega
 refine Ru ?_;refine zE (zE (zQ (So ?_)));exact dD rfl rfl fun w' a5=>⟨aP,a5.upd⟩
theorem GJ (A B:bU) (c1 c2:Nat) (l:List V) (w:World) (ha:Rd w [] A l.length 7 (l.map V.c)) (hb:Rd w [] B l.length 7 (l.map V.c)) (hn:l.length≤1000000):Pur Tryz.prog 73 [.slice A l.length c1,.slice B l.length c2] w (.bool true):=by
 refine Γ Tryz.func73 26 (WOK.start [] _) ?_;refine Sz ?_;refine zV 10 (b:=false) rfl aM (rn [0,20,12,7,8,1,3,0,14] ?_);refine dP [0,1,4] (fun(x:Nat)=>[(5,aI x)]) (fun(x:Nat)=>[]) (fun(x:Nat)=>x≤l.length) (fun(x:Nat)=>l.length-x) 0 aW ?_;rintro k f6;replace f6:k≤l.length:=f6;refine Rw ?_;refine zB rfl (fun h1=>?_) (fun h1=>?_)
 ·have f8:k<l.length:=by have h9:=bW h1;omega
  refine Sg ?_;refine bn [] an rfl (RV ?_);refine dq 2 rfl (zM (i:=k) rfl rfl rfl ha.rdb aN) ?_;refine dq 3 rfl (zU (i:=k) rfl ha.rdb (zP aX) rfl) (SU ?_);refine dq 6 rfl (zM (i:=k) rfl rfl rfl hb.rdb aN) ?_;refine dq 7 rfl (zU (i:=k) rfl hb.rdb (zP aX) rfl) ?_;refine dq 8 rfl (yn rfl rfl rfl) ?_;refine zV 25 (b:=false) rfl aM (SF ?_);exact cr (k+1) aU
 have f9:k=l.length:=by have h9:=bX h1;omega
 refine Ru ?_;refine zE (zE (zQ (So ?_)));exact dD rfl rfl fun w' a5=>⟨aP,a5.upd⟩
theorem wk (r:Rq) (w:World) : Pur Tryz.prog 72 [.agg (Rq.c r).toArray,.agg (Rq.c r).toArray] w (.bool true):=by
 refine Γ Tryz.func72 8 (WOK.start [] _) ?_;refine Ri ?_;refine aa (aq (c:=Rq.c r) rfl rfl rfl fun b2=>?_);refine aa (aq (c:=Rq.c r) rfl rfl rfl fun b3=>rn [3,0,1,45,45] ?_);refine s_q (pz rfl rfl rfl) rfl ?_;refine zV 7 (b:=true) rfl aM (Rb ?_);exact dD rfl rfl fun w' a5=>⟨aP,a5.upd⟩
theorem GK (A B:bU) (c1 c2:Nat) (l:List Rq) (w:World) (ha:Rd w [] A l.length 2 (l.map Rq.c)) (hb:Rd w [] B l.length 2 (l.map Rq.c)) (hn:l.length≤1000000):Pur Tryz.prog 71 [.slice A l.length c1,.slice B l.length c2,.func (.func 72) #[] #[]] w (.bool true):=by
 refine Γ Tryz.func71 32 (WOK.start [] _) ?_;refine Sz ?_;refine zV 14 (b:=false) rfl aM (rn [0,20,12,7,8,1,2,47,2,0,14] ?_);refine dP [1,2,6,15,16] (fun(x:Nat)=>[(17,aI x)]) (fun(x:Nat)=>[]) (fun(x:Nat)=>x≤l.length) (fun(x:Nat)=>l.length-x) 0 aW ?_;rintro k f6;replace f6:k≤l.length:=f6;refine Rj ?_;refine zB rfl (fun h1=>?_) (fun h1=>?_)
 ·have f8:k<l.length:=by have h9:=bW h1;omega
  refine rn [12,7,8,14,1,2] ?_;refine s_q (zM (i:=k) rfl rfl rfl ha.rdb aN) rfl ?_;refine s_q (zU (i:=k) rfl ha.rdb (zP aX) rfl) rfl ?_;refine aa (zK rfl fun b8=>rn [3,33,0,1,2,2] ?_);refine s_q (zM (i:=k) rfl rfl rfl hb.rdb aN) rfl ?_;refine s_q (zU (i:=k) rfl hb.rdb (zP aX) rfl) rfl ?_;refine aa (zK rfl fun b9=>rn [33,0,1,2,45,45] ?_);refine aa (uY rfl rfl (fun w1 a6=>wk l[k] w1) rfl (rn [48] ?_));refine zV 30 (b:=false) rfl aM (rn [0,20,12,15,7,10,43,2,9] ?_);exact cr (k+1) aU
 have f9:k=l.length:=by have h9:=bX h1;omega
 refine Ru ?_;refine zE (zE (zQ (So ?_)));exact dD rfl rfl fun w' a5=>⟨aP,a5.upd⟩
theorem sw (s:Int) (w:World) : Pur Tryz.prog 133 [aH s] w (.bool (decide (s=2∨s=3))):=by
 refine Γ Tryz.func133 9 (WOK.start [] _) ?_;refine rn [1,3,0,1,2,44,2] ?_;refine zS 5 rfl (fun h1=>?_) (fun h1=>?_)
 ·refine rn [21,21,41,3,0,11] ?_;exact dD rfl rfl fun w' a5=>⟨by first|rfl|(simp_all;done)|(simp_all;omega),a5.upd⟩
 refine rn [22,2,22,44,42,3,0,11] ?_;exact dD rfl rfl fun w' a5=>⟨by first|rfl|(simp_all;done)|(simp_all;omega),a5.upd⟩
theorem wm (A:bU) (cap:Nat) (l:List V) (w:World) (ha:Rd w [] A l.length 7 (l.map V.c)) (hn:l.length≤1000000):Pur Tryz.prog 74 [.slice A l.length cap] w (aJ (IntKind.u64.wrap (dZ l))):=by
 refine Γ Tryz.func74 25 (WOK.start [] _) ?_;refine Sy ?_;refine dP [0,2] (fun(x:Nat)=>[(3,aJ (IntKind.u64.wrap (dZ (l.take x)))),(4,aI x)]) (fun(x:Nat)=>[]) (fun(x:Nat)=>x≤l.length) (fun(x:Nat)=>l.length-x) 0 aW ?_;rintro k f6;replace f6:k≤l.length:=f6;refine Rw ?_;refine zB rfl (fun h1=>?_) (fun h1=>?_)
 ·have f8:k<l.length:=by have h9:=bW h1;omega
  refine SV ?_;refine s_q (zM (i:=k) rfl rfl rfl ha.rdb aN) rfl (Nd ?_);refine s_q (zX (i:=k) (o:=1) rfl ha.rdb (zP aX) rfl rfl) rfl ?_;refine aa (zH rfl (fun w1 a6=>sw _ w1) rfl (rn [0] ?_));refine zB rfl (fun h2=>?_) (fun h2=>?_)
  ·refine rn [10,2,2,2] ?_;refine s_q (zM (i:=k) rfl rfl rfl ha.rdb aN) rfl (Nd ?_);refine s_q (zX (i:=k) (o:=0) rfl ha.rdb (zP aX) rfl rfl) rfl (rn [54,3,9,15,7,10,2,43,3,9] ?_);have es:dZ (l.take (k+1))=dZ (l.take k)+(if eX l[k] then(l[k]).bal else 0):=by rw[←cB f8,uQ];simp[dZ]
   refine ae 3 (v' := aJ (IntKind.u64.wrap (dZ (l.take (k+1))))) rfl (by rw[es];first|(rw[bZ (show eX l[k]=true from h2)];simp only[cF];congr 1;omega)|(rw[bY (by rw[show eX l[k]=false from h2];simp)];simp)) ?_;exact cr (k+1) aU
  refine RP ?_;have es:dZ (l.take (k+1))=dZ (l.take k)+(if eX l[k] then(l[k]).bal else 0):=by rw[←cB f8,uQ];simp[dZ]
  refine ae 3 (v' := aJ (IntKind.u64.wrap (dZ (l.take (k+1))))) rfl (by rw[es];first|(rw[bZ (show eX l[k]=true from h2)];simp only[cF];congr 1;omega)|(rw[bY (by rw[show eX l[k]=false from h2];simp)];simp)) ?_;exact cr (k+1) aU
 have f9:k=l.length:=by have h9:=bX h1;omega
 refine Ru ?_;refine zE (zE (zQ (Rl ?_)));exact dD rfl rfl fun w' a5=>⟨by rw[f9,cI],a5.upd⟩
theorem Rd.inStar {S:List Nat} {w0 w:World} {L Ls:List Res} {A:bU} {n cap T k:Nat} {els:List (List Value)} [hs:Sub L [Res.star Ls]] (hw:WOK S w0 L w) (hr:Res.row A n cap T k els∈Ls):Rd w [] A n k els:=by
 obtain⟨rest,hp⟩:=hs.ex;have h0:(Res.star Ls).sat w:=(hw.perm hp).allsat _ aM;exact⟨kY (h0.1 _ hr),fun _ hm=>by simp[fps] at hm⟩
def RdX (w:World) (xs:List RX):Prop:=∀x∈xs,Rd w [] x.O x.r.ag.length 3 (x.r.ag.map As.cs)∧Rd w [] x.pA x.r.ps.length 3 (x.r.ps.map Y.c)
theorem RdX.inStar {S:List Nat} {w0 w:World} {L:List Res} {xs:List RX} [hs:Sub L [Res.star (xs.flatMap RX.rows)]] (hw:WOK S w0 L w):RdX w xs:=fun x hx =>
 ⟨Rd.inStar hw (List.mem_flatMap.2 ⟨x,hx,by simp[RX.rows]⟩:Res.row x.O x.r.ag.length x.oc 55 3 (x.r.ag.map As.cs)∈xs.flatMap RX.rows),Rd.inStar hw (List.mem_flatMap.2 ⟨x,hx,by simp[RX.rows]⟩:Res.row x.pA x.r.ps.length x.pc 50 3 (x.r.ps.map Y.c)∈xs.flatMap RX.rows)⟩
theorem RdX.mono {w w' : World} {L:List Res} {xs:List RX} [hs:Sub L []] (h:RdX w xs) (hw:WOK (fps []) w L w'):RdX w' xs:=fun x hx=>⟨Rd.ofRd (L0:=[]) hw (h x hx).1 aK,Rd.ofRd (L0:=[]) hw (h x hx).2 aK⟩
theorem Dt {xs ys:List RX} (h:ys.map RX.r=xs.map RX.r) {k:Nat} (hx:k<xs.length) (hy:k<ys.length):(ys[k]).r=(xs[k]).r:=by
 have h1:=congrArg (fun l:List Rc=>l[k]?) h;simp only[List.getElem?_map,List.getElem?_eq_getElem hx,List.getElem?_eq_getElem hy,Option.map_some,Option.some.injEq] at h1;exact h1
theorem uv (A B:bU) (c1 c2:Nat) (xs ys:List RX) (w:World) (ha:Rd w [] A xs.length 9 (xs.map RX.c)) (hb:Rd w [] B ys.length 9 (ys.map RX.c)) (hx:RdX w xs) (hy:RdX w ys) (he:ys.map RX.r=xs.map RX.r) (hn:xs.length≤1000000) (F8:∀x∈xs,x.r.ag.length≤1000000∧x.r.ps.length≤1000000):Pur Tryz.prog 19 [.slice A xs.length c1,.slice B ys.length c2] w (.bool true):=by
 refine Γ Tryz.func19 27 (WOK.start (fps []) _) ?_;have hyl:xs.length=ys.length:=by have h9:=congrArg List.length he;simpa using h9.symm
 refine Sz ?_;refine zV 10 (b:=false) rfl aV (rn [0,20,12,7,8,1,3,0,14] ?_);refine dP [0,1,4] (fun(x:Nat)=>[(5,aI x)]) (fun(x:Nat)=>[]) (fun(x:Nat)=>x≤xs.length) (fun(x:Nat)=>xs.length-x) 0 aW ?_;rintro k f6;replace f6:k≤xs.length:=f6;refine Rw ?_;refine zB rfl (fun h1=>?_) (fun h1=>?_)
 ·have f8:k<xs.length:=by have h9:=bW h1;omega
  have lk2:k<ys.length:=by omega
  obtain⟨xk,hxk⟩:∃z,z=xs[k]:=⟨_,rfl⟩
  obtain⟨yk,D4⟩:∃z,z=ys[k]:=⟨_,rfl⟩
  have hxm:xk∈xs:=hxk ▸ cC f8;have hym:yk∈ys:=D4 ▸ cC lk2;have hyr:yk.r=xk.r:=by rw[hxk,D4];exact Dt he f8 lk2
  refine Sg ?_;refine bn [] an rfl (RV ?_);refine dq 2 rfl (zM (i:=k) rfl rfl rfl ha.rdb aN) ?_;refine dq 3 rfl (zU (i:=k) rfl ha.rdb (zP aX) rfl) ?_;refine ae 20 (v' := .agg (RX.c ⟨xk.r,xk.O,xk.oc,xk.pA,xk.pc⟩).toArray) rfl (by rw[hxk]) (SU ?_);refine dq 6 rfl (zM (i:=k) rfl rfl rfl hb.rdb aN) ?_;refine dq 7 rfl (zU (i:=k) rfl hb.rdb (zP aX) rfl) ?_;refine ae 24 (v' := .agg (RX.c ⟨xk.r,yk.O,yk.oc,yk.pA,yk.pc⟩).toArray) rfl (by rw[←hyr,D4]) ?_;refine dop 8 rfl (zH rfl (fun w1 a6=>wi xk.r xk.O yk.O xk.pA yk.pA xk.oc yk.oc xk.pc yk.pc w1 (hx.mono a6 xk hxm).1 (by have h9:=(hy.mono a6 yk hym).1;rw[hyr] at h9;exact h9) (hx.mono a6 xk hxm).2 (by have h9:=(hy.mono a6 yk hym).2;rw[hyr] at h9;exact h9) (F8 xk hxm)) rfl ?_);refine rn [23,9,48] ?_;refine zV 26 (b:=false) rfl (rfl) (SF ?_);exact cr (k+1) aU
 have f9:k=xs.length:=by have h9:=bX h1;omega
 refine Ru ?_;refine zE (zE (zQ (So ?_)));exact dD rfl rfl fun w' a5=>⟨aP,a5.upd⟩
theorem DP {s:Eg} (h:Inv s):0≤dZ s.l∧dZ s.l≤18446744073709551615:=by
 have h1:=qN (l:=s.l) fun v hv=>by
  obtain⟨n,hn,rfl⟩:=List.getElem_of_mem hv;have h2:=(h.vo n (gZ hn)).b;rw[yK hn] at h2;omega
 have h2:=h.sum;have h3:=h.led;have h4:=h3.hp;have h5:=h3.hu;have h6:=h3.hm;omega
theorem zl (p:SP) (g:SG) (s:Eg) (w:World) (hw:W0 [Res.blk p.sb 147 (SC p g s),Res.row g.vA s.l.length g.vc 52 7 (s.l.map V.c)] w) (hl:s.l.length≤4096):du Tryz.prog 77 [aG p.sb] w [Res.blk p.sb 147 (SC p g s),Res.row g.vA s.l.length g.vc 52 7 (s.l.map V.c)] (aI (ubN s.l)):=CO p g s w hw hl
theorem ng (p:SP) (g:SG) (s:Eg) (x:SN) (w:World) (hw:WOK (fps (Res.row x.vA ((s).l).length x.vc 52 7 (((s).l).map V.c) :: Res.row x.pA ((s).pend).length x.pc 3 1 (((s).pend).map aC) :: Res.row x.fA ((s).q.f).length x.fc 3 1 (((s).q.f).map aC) :: Res.row x.oA ((s).q.v).length x.oc 3 1 (((s).q.v).map aC) :: Res.row x.mA ((s).mg).length x.mc 106 2 (((s).mg).map PP.c) :: Res.row x.rA ((s).pt).length x.rc 110 2 (((s).pt).map Rq.c) :: RSL p g s)) w (Res.row x.vA ((s).l).length x.vc 52 7 (((s).l).map V.c) :: Res.row x.pA ((s).pend).length x.pc 3 1 (((s).pend).map aC) :: Res.row x.fA ((s).q.f).length x.fc 3 1 (((s).q.f).map aC) :: Res.row x.oA ((s).q.v).length x.oc 3 1 (((s).q.v).map aC) :: Res.row x.mA ((s).mg).length x.mc 106 2 (((s).mg).map PP.c) :: Res.row x.rA ((s).pt).length x.rc 110 2 (((s).pt).map Rq.c) :: RSL p g s) w) (hi:Inv s):du Tryz.prog 20 [.agg ([aI ((s).blk),aH (s).ep,.slice x.vA (s).l.length x.vc,aJ (s).dep,aJ (s).paid,aJ (s).burn,aJ (dZ (s).l),.slice x.pA (s).pend.length x.pc,.slice x.fA (s).q.f.length x.fc,.slice x.oA (s).q.v.length x.oc,.slice x.mA (s).mg.length x.mc,.slice x.rA (s).pt.length x.rc,aI ((s).cur),aJ (s).m.bal,aI ((s).bo.length)]).toArray,aG p.sb] w (Res.row x.vA ((s).l).length x.vc 52 7 (((s).l).map V.c) :: Res.row x.pA ((s).pend).length x.pc 3 1 (((s).pend).map aC) :: Res.row x.fA ((s).q.f).length x.fc 3 1 (((s).q.f).map aC) :: Res.row x.oA ((s).q.v).length x.oc 3 1 (((s).q.v).map aC) :: Res.row x.mA ((s).mg).length x.mc 106 2 (((s).mg).map PP.c) :: Res.row x.rA ((s).pt).length x.rc 110 2 (((s).pt).map Rq.c) :: RSL p g s) (aH 1):=by
 refine Γ Tryz.func20 159 hw ?_;have o6:=yM hi.cc;have F9:=o6.qsize;have i6:=hi.cok;have q7:=i6.capa;have B8:=hi.cap;have X8:s.l.length≤4096:=by omega
 have y8:=hi.qf;have X6:=hi.pe;have F2:=hi.mg;have F1:=hi.pt;have u6:=hi.blk;have hac:=DP hi;have hwa:IntKind.u64.wrap (dZ s.l)=dZ s.l:=by rw[cF];omega
 have hub:=Dl hi;refine Ri ?_;refine aa (aq (c:=[aI ((s).blk),aH (s).ep,.slice x.vA (s).l.length x.vc,aJ (s).dep,aJ (s).paid,aJ (s).burn,aJ (dZ (s).l),.slice x.pA (s).pend.length x.pc,.slice x.fA (s).q.f.length x.fc,.slice x.oA (s).q.v.length x.oc,.slice x.mA (s).mg.length x.mc,.slice x.rA (s).pt.length x.rc,aI ((s).cur),aJ (s).m.bal,aI ((s).bo.length)]) rfl rfl rfl fun b2=>rn [3,0,8] ?_);refine bn [] an rfl (rn [23,0,4,23,1,5,23,2,2,23,3,6,23,4,4,23,5,5] ?_);refine dop 6 rfl (zH rfl (fun w1 a6=>GK x.rA g.rA x.rc g.rc s.pt w1 (Rd.ofRow (A:=x.rA) a6) (Rd.ofRo (A:=g.rA) a6 aK) aK) rfl (rn [23,7,3,27,7,8,8] ?_));refine bn [] an rfl (rn [23,0,4,23,1,5,23,2,2,23,3,6,23,4,4,23,5,5,23,6,51] ?_);refine zV 19 (b:=false) rfl aM (rn [23,7,2,26,8,4,26,9,5,26,10,2,26,11,6,26,12,4,26,13,5,26,14,51] ?_);refine zV 27 (b:=false) rfl aM (rn [23,15,42,23,16,2,26,17,4,26,18,5,26,19,2,26,20,6,26,21,4,26,22,5] ?_);refine oV 23 rfl rfl rfl (zH rfl (fun w1 a6=>GJ x.vA g.vA x.vc g.vc s.l w1 (Rd.ofRow (A:=x.vA) a6) (Rd.ofRow (A:=g.vA) a6) aK) rfl (rn [26,24,48] ?_));refine zV 37 (b:=false) rfl (rfl) (rn [23,25,42,23,26,2,26,27,4,26,28,5,26,29,2,26,30,6,26,31,4,26,32,5,26,33,6,26,34,4,26,35,5,26,36,51] ?_);refine zV 49 (b:=false) rfl aM (rn [23,37,42,23,38,2,26,39,4,26,40,5,26,41,2,26,42,6,26,43,4,26,44,5,26,45,6,26,46,4,26,47,5,26,48,51] ?_);refine zV 61 (b:=false) rfl aM (rn [23,49,42,23,50,2,26,51,4,26,52,5,26,53,2,26,54,6,26,55,4,26,56,5,26,57,6,26,58,4,26,59,5,26,60,51] ?_);refine zV 73 (b:=false) rfl aM (rn [23,61,42,23,62,2,26,63,4,26,64,5,26,65,2,26,66,6,26,67,4,26,68,5] ?_);refine oV 69 rfl rfl rfl (zH rfl (fun w1 a6=>wm g.vA g.vc s.l w1 (Rd.ofRow (A:=g.vA) a6) aK) rfl (rn [26,70,51] ?_));refine zV 83 (b:=false) rfl (by rw[hwa];simp) (rn [23,71,42,27,7,20,12,7,8,8] ?_);refine bn [] an rfl (rn [23,0,4,23,1,5,23,2,2,23,3,6,23,4,4,23,5,5] ?_);refine dop 6 rfl (zH rfl (fun w1 a6=>AY x.pA g.pA x.pc g.pc s.pend w1 (Rd.ofRow (A:=x.pA) a6) (Rd.ofRo (A:=g.pA) a6 aK) aK) rfl (rn [23,7,48] ?_));refine zV 92 (b:=false) rfl (rfl) (rn [23,8,2,26,9,4,26,10,5,26,11,2,26,12,6,26,13,4,26,14,5,26,15,6,26,16,4,26,17,5] ?_);refine oV 18 rfl rfl rfl (zH rfl (fun w1 a6=>AY x.fA g.fA x.fc g.fc s.q.f w1 (Rd.ofRow (A:=x.fA) a6) (Rd.ofRo (A:=g.fA) a6 aK) aK) rfl (rn [26,19,48] ?_));refine zV 104 (b:=false) rfl (rfl) (rn [23,20,42,23,21,2,26,22,4,26,23,5,26,24,2,26,25,6,26,26,4,26,27,5,26,28,6,26,29,4,26,30,5] ?_);refine oV 31 rfl rfl rfl (zH rfl (fun w1 a6=>AY x.oA g.oA x.oc g.oc s.q.v w1 (Rd.ofRow (A:=x.oA) a6) (Rd.ofRo (A:=g.oA) a6 aK) aK) rfl (rn [26,32,48] ?_));refine zV 117 (b:=false) rfl (rfl) (rn [23,33,42,23,34,2,26,35,4,26,36,5,26,37,2,26,38,6,26,39,4,26,40,5] ?_);refine oV 41 rfl rfl rfl (zH rfl (fun w1 a6=>GL x.mA g.mA x.mc g.mc s.mg w1 (Rd.ofRow (A:=x.mA) a6) (Rd.ofRo (A:=g.mA) a6 aK) aK) rfl (rn [26,42,48] ?_));refine zV 127 (b:=false) rfl (rfl) (rn [23,43,42,23,44,2,26,45,2,26,46,48] ?_);refine zV 131 (b:=false) rfl (rfl) (rn [23,47,42,27,7,20,12,7,8,8] ?_);refine bn [] an rfl (rn [23,0,4,23,1,5,23,2,2,23,3,6,23,4,4,23,5,5,23,6,51] ?_);refine zV 139 (b:=false) rfl aM (rn [23,7,2,26,8,4,26,9,5,26,10,2,26,11,6,26,12,4,26,13,5,26,14,6,26,15,4,26,16,5,26,17,51] ?_);refine zV 150 (b:=false) rfl (by simp[R.of]) (rn [23,18,42,23,19,2,26,20,4,26,21,5,26,22,2] ?_);refine oV 23 rfl rfl rfl (zN _ rfl (fun w1 a6 a8=>by have h7:=zl p g s w1 a8 aK;exact h7) rfl ?_);refine rn [26,24,51] ?_;refine zV 157 (b:=false) rfl (by rw[hub];simp) (rn [23,25,42,27,7,20,12,7,1,3,0,11] ?_);exact dD rfl rfl fun w' a5=>⟨(),trivial,rfl,by have h9:=zG (L' := (Res.row x.vA ((s).l).length x.vc 52 7 (((s).l).map V.c) :: Res.row x.pA ((s).pend).length x.pc 3 1 (((s).pend).map aC) :: Res.row x.fA ((s).q.f).length x.fc 3 1 (((s).q.f).map aC) :: Res.row x.oA ((s).q.v).length x.oc 3 1 (((s).q.v).map aC) :: Res.row x.mA ((s).mg).length x.mc 106 2 (((s).mg).map PP.c) :: Res.row x.rA ((s).pt).length x.rc 110 2 (((s).pt).map Rq.c) :: RSL p g s)) w' a5;exact h9⟩
theorem rU (s:Eg) (l:List Op):∀n,n≤l.length→(da s l n).2.length=n
 | 0,_=>rfl
 | n+1,h=>by
  rw[vD aK];show((da s l n).2++[_]).length=_;rw[cQ,rU s l n aK];rfl
theorem iD (s:Eg) (l:List Op):∀n,n≤l.length→∀(k:Nat) (h:k<n) (hk:k<l.length),(da s l n).2[k]?=some (ao (da s l k).1 l[k]).2
 | 0,_,k,h,_=>absurd h (Nat.not_lt_zero _)
 | n+1,hn,k,h,hk=>by
  rw[vD aK];show((da s l n).2++[_])[k]?=_;have hl:=rU s l n aK;rcases Nat.lt_or_ge k n with h1|h1
  ·rw[List.getElem?_append_left aK];exact iD s l n aK k h1 hk
  obtain rfl:k=n:=by omega
  rw[List.getElem?_append_right aK,hl,Nat.sub_self];rfl
theorem zs {s:Eg} {y:Op} (h:y.k=0):(ao s y).2.code=11:=by
 rw[rM aK];rfl
theorem Bl {s:Eg} {l:List Op} {xs:List RX} (h:xs.map RX.r=(aw s l).2) {k:Nat} (hk:k<xs.length) (hl:k<l.length) (h0:(l[k]).k=0):(xs[k]).r.code=11:=by
 have h1:=iD s l l.length (cM _) k hl hl;rw[vM,←h,List.getElem?_map,List.getElem?_eq_getElem hk,Option.map_some,Option.some.injEq] at h1;rw[h1];exact zs h0
theorem Ff {s:Eg} (h:Inv s) (hb:s.blk<1000000000) (hq:s.c.qsize≤200) (y:Op):(ao s y).2.ag.length≤1000000∧(ao s y).2.ps.length≤1000000:=by
 have h1:=EO h hb y;obtain⟨a,b,h2,h3,h4,_⟩:=BM h hb y;have h5:=h.qf;have h6:=congrArg List.length h2;simp only[cQ,cU,List.length_take] at h6;omega
theorem Du {s:Eg} {l:List Op} {xs:List RX} (hi:Inv s) (hl:∀y∈l,y.ok) (hb:s.blk+l.length<1000000000) (hq:s.c.qsize≤200) (h:xs.map RX.r=(aw s l).2):∀x∈xs,x.r.ag.length≤1000000∧x.r.ps.length≤1000000:=fun x hx=>by
 have O3:xs.length=l.length:=by have h1:=congrArg List.length h;rw[cU,←vM,rU s l _ (cM _)] at h1;exact h1
 obtain⟨k,hk,rfl⟩:=List.getElem_of_mem hx;have h1:=iD s l l.length (cM _) k aK aK;rw[vM,←h,List.getElem?_map,List.getElem?_eq_getElem hk,Option.map_some,Option.some.injEq] at h1;obtain⟨i1,i2,i3,_⟩:=vL hi hl hb k aK;rw[h1];exact Ff i1 aK (by rw[i3];exact hq) _
theorem Fs {P:Program} {w:World} {f:Nat} {T:Nat} {cs:List Value} (hu:P.underlying T=some (.int .u8)) (h:OKc P w f T cs):∃x:Nat,cs=aE x∧x<256:=by
 obtain⟨n,h1,h2,h3⟩:=OKc.int hu h;have h4:0≤n:=h2;have h5:n≤255:=h3;exact⟨n.toNat,by rw[h1];show [Value.int .u8 n]=[Value.int .u8 ((n.toNat:Nat):Int)];rw[Int.toNat_of_nonneg h4],aK⟩
end Go.Proofs.YtdddiilocbbkkaaGreat
