/- Part 28 of the proof of TopModel. No condition. -/
import Derived.Test.YtdddiilocbbkkaaGreatTM27
set_option linter.unusedVariables false
set_option linter.unusedSimpArgs false
namespace Go.Proofs.YtdddiilocbbkkaaGreat
open Go.RowKit Go.Eg
set_option maxHeartbeats 4000000
set_option synthInstance.maxSize 3000
set_option maxRecDepth 100000
def LdC (c d p b:Int):List Value:=[aJ c,aJ d,aJ p,aJ b]
theorem kT {x:Int} (h:0<=x/\x<=18446744073709551615):∃n:Nat,x=n/\n<18446744073709551616:=⟨x.toNat,aK,aK⟩
theorem ns (e:Int) (w:World) : Pur Tryz.prog 255 [aH e] w (.bool (eN [e])):=by
 refine am Tryz.func255 10 (WOK.start [] _) ?_;refine rn [1,3,0,1,2,53,2] ?_;refine zS 5 rfl (fun h1=>?_) (fun h1=>?_)
 ·refine rn [22,2] ?_;refine ff rfl rfl (zH rfl (fun w1 a6=>ie w1) rfl (rn [22,56,41,3,0,11] ?_));exact dD rfl rfl fun w' a5=>⟨by unfold eN;first|(simp_all;done)|(simp_all;omega),a5.upd⟩
 refine Sh ?_;exact dD rfl rfl fun w' a5=>⟨by unfold eN;first|(simp_all;done)|(simp_all;omega),a5.upd⟩
theorem pS (a b d:Int) (w:World) (ha:0<=a/\a<=18446744073709551615) (hb:0<=b) (F8:b<=d) (hd:1<=d/\d<=18446744073709551615):Pur Tryz.prog 261 [aJ a,aJ b,aJ d] w (.tuple [aJ (a*b/d),.bool true].toArray):=by
 refine am Tryz.func261 21 (WOK.start [] _) ?_;obtain⟨a,rfl,ha9⟩:=kT ha;obtain⟨b,rfl,hb9⟩:=kT (x:=b) ⟨hb,aK⟩;obtain⟨d,rfl,hd9⟩:=kT (x:=d) aK;refine rn [1,3,3,0,8,1,2,44] ?_;refine zV 9 (b:=false) rfl (cY aK) (rn [2,22,2,22,2,22,55] ?_);refine zV 13 (b:=false) rfl (cY aK) (rn [42,0,20,12,7,1,2,2,2] ?_);refine aa (zH rfl (fun w1 a6=>mB a b d w1 ha9 hb9 hd9 aK aK) rfl (rn [40,40,3,3,0,11] ?_));exact dE rfl rfl rfl fun w' a5=>⟨aP,a5.upd⟩
theorem pT (v:V) (e:Int) (w:World) (hs:-1000<=v.st/\v.st<=1000):Pur Tryz.prog 189 [v.v,aH e] w (.tuple [V.v (cy v e).1,aH (cy v e).2].toArray):=by
 refine am Tryz.func189 22 (WOK.start [] _) ?_;refine Ri ?_;refine aa (aq rfl rfl rfl fun b2=>?_);refine aa (zK rfl fun b4=>rn [3,0,8,1,2] ?_);refine aa (zH rfl (fun w1 a6=>ns (e) w1) rfl (rn [48,0] ?_));refine zB rfl (fun h1=>?_) (fun h1=>?_)
 ·refine rn [1,49,33,3,0,11,13] ?_;exact dH rfl (.cellw rfl rfl) (.tmp rfl) fun w' a5=>⟨by unfold cy;rw[bZ (by have h9:=h1;simpa using h9)];rfl,a5.upd⟩
 have hl:eN [e]=true:=by have h9:=h1;simpa using h9
 refine rn [12,7,1,4,5] ?_;refine aa (zH rfl (fun w1 a6=>qU ((v).st) (2) w1 (by have:=hs;omega)) rfl ?_);refine rn [3,0,8,1,2,44,0] ?_;refine zB rfl (fun h2=>?_) (fun h2=>?_)
 ·refine rn [1,49,33,3,0,11,13] ?_;exact dH rfl (.cellw rfl rfl) (.tmp rfl) fun w' a5=>⟨by unfold cy;rw[bY (by rw[hl];simp),bZ (by have h9:=bW h2;exact h9)];rfl,a5.upd⟩
 refine rn [12,7,1,2,4] ?_;refine aa (zI rfl rfl rfl rfl rfl rfl rfl (rn [0,1,2,4] ?_));refine aa (zI rfl rfl rfl rfl rfl rfl rfl (rn [0,1,45,33,3,0,11] ?_));exact dH rfl (.cellw rfl rfl) (.tmp rfl) fun w' a5=>⟨by unfold cy;rw[bY (by rw[hl];simp),bY (by have h9:=bX h2;exact h9)];rfl,a5.upd⟩
theorem pR (v:V) (e:Int) (c:C) (w:World) (he:I64 e) (hu:0<=c.unb/\c.unb<=1048576):Pur Tryz.prog 266 [v.v,aH e,c.v] w (.tuple [V.v (eS v e c).1,aH (eS v e c).2].toArray):=by
 refine am Tryz.func266 38 (WOK.start [] _) ?_;refine Ri ?_;refine aa (aq rfl rfl rfl fun b3=>?_);refine aa (aq rfl rfl rfl fun b5=>?_);refine aa (zK rfl fun b6=>rn [3,0,8,1,4,5,51,2] ?_);refine zS 13 rfl (fun h1=>?_) (fun h1=>?_)
 ·have k1:v.st≠3:=by have h9:=h1;simpa using h9
  refine rn [21,21,21,41,0,19,1,49,33,3,0,11,13] ?_;exact dH rfl (.cellw rfl rfl) (.tmp rfl) fun w' a5=>⟨by rw[show eS v e c=(V.z,8) from bZ (.inl k1)];rfl,a5.upd⟩
 have k1:v.st=3:=by have h9:=h1;simpa using h9
 refine rn [22,4,22,5,22,51,42,0] ?_;refine zB rfl (fun h2=>?_) (fun h2=>?_)
 ·have k2:v.ex≠-1:=by have h9:=h2;simpa using h9
  refine rn [1,49,33,3,0,11,13] ?_;exact dH rfl (.cellw rfl rfl) (.tmp rfl) fun w' a5=>⟨by rw[show eS v e c=(V.z,8) from bZ (.inr k2)];rfl,a5.upd⟩
 have k2:v.ex=-1:=by have h9:=h2;simpa using h9
 refine rn [12,7,1,2,4,5] ?_;refine aa (bg rfl rfl rfl rfl rfl fun m0=>?_);refine zF (b:=m0) ((([(c).unb]:List Int).map aC).flatten) rfl ?_;refine aa (zH rfl (fun w1 a6=>rC _ (some ⟨m0,0,none⟩) (1) (1) (([(c).unb]:List Int)) w1 he (Rdb.toOld (InL.rdb (b:=m0) (els:=(([(c).unb]:List Int)).map aC) rfl aM rfl) a6) (by intro x hx;simp at hx;subst hx;unfold I64;omega) bL) rfl ?_);refine Ro ?_;refine zB rfl (fun h3=>?_) (fun h3=>?_)
 ·have k3:eN [e,c.unb]=false:=by have h9:=h3;simpa using h9
  refine rn [1,49,33,3,0,11,13] ?_;exact dH rfl (.cellw rfl rfl) (.tmp rfl) fun w' a5=>⟨by rw[show eS v e c=(V.z,10) from(bY (by simp[k1,k2])).trans (bZ k3)];rfl,a5.upd⟩
 have k3:eN [e,c.unb]=true:=by have h9:=h3;simpa using h9
 refine rn [12,7,1,2,4] ?_;refine aa (zI rfl rfl rfl rfl rfl rfl rfl (rn [0,1,4,5,2,59,4] ?_));refine aa (zI rfl rfl rfl rfl rfl rfl rfl (rn [0,1,45,33,3,0,11] ?_));exact dH rfl (.cellw rfl rfl) (.tmp rfl) fun w' a5=>⟨by rw[show eS v e c=({ v with ex:=e,wd:=max v.wd (eh [e,c.unb]) },0) from(bY (by simp[k1,k2])).trans (bY (by rw[k3];simp))];rfl,a5.upd⟩
theorem iF (v:V) (e:Int) (c:C) (w:World) (hs:-1000<=v.st/\v.st<=1000) (hb:0<=v.bal/\v.bal<=18446744073709551615) (he:I64 e) (hu:0<=c.sld/\c.sld<=1048576) (J5:0<=c.pnum) (S9:c.pnum<=c.pden/\(1<=c.pden/\c.pden<=18446744073709551615)):Pur Tryz.prog 194 [v.v,aH e,c.v] w (.tuple [V.v (bh v e c).1,aJ (bh v e c).2.1,aH (bh v e c).2.2].toArray):=by
 refine am Tryz.func194 65 (WOK.start [] _) ?_;refine Ri ?_;refine aa (aq rfl rfl rfl fun b3=>?_);refine aa (aq rfl rfl rfl fun b5=>?_);refine aa (zK rfl fun b6=>rn [3,3,0,8,1,4,5,0] ?_);refine zB rfl (fun h1=>?_) (fun h1=>?_)
 ·have k1:v.sl=true:=h1;refine Sv ?_;exact dI rfl (.cellw rfl rfl) (.tmp rfl) (.tmp rfl) fun w' a5=>⟨by rw[show bh v e c=(V.z,0,9) from bZ k1];rfl,a5.upd⟩
 have k1:v.sl=false:=h1;refine rn [12,7,1,4,5] ?_;refine aa (zH rfl (fun w1 a6=>qU ((v).st) (7) w1 hs) rfl (rn [3,0,8,1,2,44,0] ?_));refine zB rfl (fun h2=>?_) (fun h2=>?_)
 ·have k2:nxt v.st 7=0:=bW h2;refine Sv ?_;exact dI rfl (.cellw rfl rfl) (.tmp rfl) (.tmp rfl) fun w' a5=>⟨by rw[show bh v e c=(V.z,0,8) from(bY (by rw[k1];simp)).trans (bZ k2)];rfl,a5.upd⟩
 have k2:¬nxt v.st 7=0:=bX h2;refine rn [12,7,1,2,4,5] ?_;refine aa (bg rfl rfl rfl rfl rfl fun b27=>?_);refine zF (b:=b27) ((([(c).sld]:List Int).map aC).flatten) rfl ?_;refine aa (zH rfl (fun w1 a6=>rC _ (some ⟨b27,0,none⟩) (1) (1) (([(c).sld]:List Int)) w1 he (Rdb.toOld (InL.rdb (b:=b27) (els:=(([(c).sld]:List Int)).map aC) rfl aM rfl) a6) (by intro x hx;simp at hx;subst hx;unfold I64;omega) bL) rfl ?_);refine Ro ?_;refine zB rfl (fun h3=>?_) (fun h3=>?_)
 ·have k3:eN [e,c.sld]=false:=by have h9:=h3;simpa using h9
  refine Sv ?_;exact dI rfl (.cellw rfl rfl) (.tmp rfl) (.tmp rfl) fun w' a5=>⟨by rw[show bh v e c=(V.z,0,10) from(bY (by rw[k1];simp)).trans ((bY k2).trans (bZ k3))];rfl,a5.upd⟩
 have k3:eN [e,c.sld]=true:=by have h9:=h3;simpa using h9
 refine rn [12,7,8,1,4,5,44,0] ?_;refine zB rfl (fun h4=>?_) (fun h4=>?_)
 ·have k4:v.st=2:=bW h4;refine rn [10,2,4] ?_;refine aa (zI rfl rfl rfl rfl rfl rfl rfl (rn [0,1,4,5,4,5,4,5] ?_));refine aa (zH rfl (fun w1 a6=>pS v.bal c.pnum c.pden w1 hb J5 S9.1 S9.2) rfl (rn [2,40,40,3,3,0,1,4,5,2,57,4] ?_));refine aa (zI rfl rfl rfl rfl rfl rfl rfl (rn [0,1,2,4] ?_));refine aa (zI rfl rfl rfl rfl rfl rfl rfl (rn [0,1,4] ?_));refine aa (zI rfl rfl rfl rfl rfl rfl rfl (rn [0,1,4,5,2,59,4] ?_));refine aa (zI rfl rfl rfl rfl rfl rfl rfl (rn [0,1,4] ?_));refine aa (zI rfl rfl rfl rfl rfl rfl rfl (rn [0,1,45,2,33,3,3,0,11] ?_));exact dI rfl (.cellw rfl rfl) (.tmp rfl) (.tmp rfl) fun w' a5=>⟨by have e1:eM v.bal c=v.bal*c.pnum/c.pden:=bY aK;have e2:bh v e c=({ v with bal:=IntKind.u64.wrap (v.bal-eM v.bal c),st:=nxt v.st 7,sl:=true,rq:=e,wd:=max v.wd (eh [e,c.sld]),dl:=-1 },eM v.bal c,0):=(by unfold bh;rw[bY (by rw[k1];simp),bY k2,bY (by rw[k3];simp),bZ k4]);rw[e2,e1];rfl,a5.upd⟩
 have k4:¬v.st=2:=bX h4;refine rn [12,7,1,4,5,4,5,4,5] ?_;refine aa (zH rfl (fun w1 a6=>pS v.bal c.pnum c.pden w1 hb J5 S9.1 S9.2) rfl (rn [2,40,40,3,3,0,1,4,5,2,57,4] ?_));refine aa (zI rfl rfl rfl rfl rfl rfl rfl (rn [0,1,2,4] ?_));refine aa (zI rfl rfl rfl rfl rfl rfl rfl (rn [0,1,4] ?_));refine aa (zI rfl rfl rfl rfl rfl rfl rfl (rn [0,1,4,5,2,59,4] ?_));refine aa (zI rfl rfl rfl rfl rfl rfl rfl (rn [0,1,4] ?_));refine aa (zI rfl rfl rfl rfl rfl rfl rfl (rn [0,1,45,2,33,3,3,0,11] ?_));exact dI rfl (.cellw rfl rfl) (.tmp rfl) (.tmp rfl) fun w' a5=>⟨by have e1:eM v.bal c=v.bal*c.pnum/c.pden:=bY aK;have e2:bh v e c=({ v with bal:=IntKind.u64.wrap (v.bal-eM v.bal c),st:=nxt v.st 7,sl:=true,rq:=v.rq,wd:=max v.wd (eh [e,c.sld]),dl:=-1 },eM v.bal c,0):=(by unfold bh;rw[bY (by rw[k1];simp),bY k2,bY (by rw[k3];simp),bY k4]);rw[e2,e1];rfl,a5.upd⟩
theorem Fw (s:Int):nxt s 5=if s=5 then 6 else 0:=by
 unfold nxt;split
 ·omega
 split
 ·omega
 split
 ·rename_i h;rw[bZ h.2.2];omega
 rename_i h;rw[bY (fun hc=>h ⟨aK,aK,hc⟩)]
theorem iG (v:V) (e:Int) (w:World) : Pur Tryz.prog 202 [v.v,aH e] w (.tuple [V.v (db v e).1,aJ (db v e).2.1,aH (db v e).2.2].toArray):=by
 refine am Tryz.func202 24 (WOK.start [] _) ?_;refine Ri ?_;refine aa (aq rfl rfl rfl fun b2=>?_);refine aa (zK rfl fun b4=>rn [3,3,0,8,1,4,5,51,2] ?_);refine zS 11 rfl (fun h1=>?_) (fun h1=>?_)
 ·have k1:nxt v.st 5=0:=by have h9:=h1;rw[Fw,bY (by simpa using h9)]
  refine rn [21,21,21,21,41,0,19,1,49,33,3,3,0,11,13] ?_;exact dI rfl (.cellw rfl rfl) (.tmp rfl) (.tmp rfl) fun w' a5=>⟨by rw[show db v e=(V.z,0,8) from bZ k1];rfl,a5.upd⟩
 have k1:v.st=5:=by have h9:=h1;simpa using h9
 have k5:nxt v.st 5=6:=by rw[Fw,bZ k1]
 refine rn [22,2,22,4,22,5,22,46,42,0] ?_;refine zB rfl (fun h2=>?_) (fun h2=>?_)
 ·have k2:e<v.wd:=bW h2;refine Sv ?_;exact dI rfl (.cellw rfl rfl) (.tmp rfl) (.tmp rfl) fun w' a5=>⟨by rw[show db v e=(V.z,0,8) from(bY (by rw[k5];decide)).trans (bZ k2)];rfl,a5.upd⟩
 have k2:¬e<v.wd:=bX h2;refine rn [12,7,1,4,5,3,0,1,4] ?_;refine aa (zI rfl rfl rfl rfl rfl rfl rfl (rn [0,1,4] ?_));refine aa (zI rfl rfl rfl rfl rfl rfl rfl (rn [0,1,45,2,33,3,3,0,11] ?_));exact dI rfl (.cellw rfl rfl) (.tmp rfl) (.tmp rfl) fun w' a5=>⟨by have e2:db v e=({ v with st:=6,bal:=0 },v.bal,0):=(by unfold db;rw[k5,bY aO,bY k2]);rw[e2];rfl,a5.upd⟩
theorem sZ (lb:Nat) (cap d p u:Int) (w:World) (hw:W0 [Res.blk lb 138 (LdC cap (d) (p) (u))] w) (hl:LOk cap d p u):du Tryz.prog 254 [aG lb] w [Res.blk lb 138 (LdC cap (d) (p) (u))] (aJ (d-p-u)):=by
 refine am Tryz.func254 17 hw ?_;refine SZ ?_;refine bn [] an rfl (RJ ?_);refine dq 8 rfl (yN (z:=d-p) rfl rfl (by have:=hl.hp;have:=hl.hu;have:=hl.hd;have:=hl.hm;rw[ey aK aK])) (rn [23,9,2,23,10,6,23,11,4,23,12,5] ?_);refine dq 13 rfl (yN (z:=d-p-u) rfl rfl (by have:=hl.hp;have:=hl.hu;have:=hl.hd;have:=hl.hm;rw[ey aK aK])) (rn [23,14,3,27,7,11] ?_);exact dD rfl rfl fun w' a5=>⟨(),trivial,rfl,zA w' a5⟩
theorem xa (lb:Nat) (cap d p u:Int) (x:Int) (w:World) (hw:W0 [Res.blk lb 138 (LdC cap (d) (p) (u))] w) (hl:LOk cap d p u) (hx:0<=x/\x<=18446744073709551615):au (ι:=Unit) Tryz.prog 187 [aG lb,aJ x] w [Res.blk lb 138 (LdC cap (d) (p) (u))] (fun _=>True) (fun _=>.int .i64 (eR cap d p u x)) (fun _=>[]) (fun _=>[Res.blk lb 138 (LdC cap ((if eR cap d p u x=0 then d+x else d)) (p) (u))]):=by
 refine am Tryz.func187 43 hw ?_;refine Sq ?_;refine aa (zN _ rfl (fun w1 a6 a8=>by exact sZ lb cap d p u w1 a8 hl) rfl ?_);refine SD ?_;refine aa (bg rfl rfl rfl rfl rfl fun j3=>?_);refine zF (b:=j3) ((([(d-p-u),x]:List Int).map aD).flatten) rfl ?_;refine aa (zH rfl (fun w1 a6=>tI (some ⟨j3,0,none⟩) (2) (2) (([(d-p-u),x]:List Int)) w1 (Rdb.toOld (InL.rdb (b:=j3) (els:=(([(d-p-u),x]:List Int)).map aD) rfl aM rfl) a6) (by intro y hy;simp at hy;have:=hl.hp;have:=hl.hu;have:=hl.hd;have:=hl.hm;rcases hy with rfl|rfl<;>omega) bB) rfl ?_);refine Sc ?_;refine zS 19 rfl (fun h1=>?_) (fun h1=>?_)
 ·have k1:eR cap d p u x=4:=by have h9:=h1;have f1:=hl.hc;have f2:=hl.hcm;simp[eI] at h9;unfold eR;rw[bZ aK]
  refine rn [21,21,21,21,21,21,41,0,19,1,3,0,11,13] ?_;refine zF (b:=lb) (LdC cap (if eR cap d p u x=0 then d+x else d) p u) (by rw[k1];rfl) ?_;exact dD rfl rfl fun w' a5=>⟨(),aQ,by rw[k1],zA w' a5⟩
 have k1:d-p-u+x<=18446744073709551615:=by have h9:=h1;simp[eI] at h9;omega
 have k3:df [d-p-u,x]=d-p-u+x:=by unfold df;rw[bZ aV];simp
 refine rn [22,2,22,2,22,6,22,4,22,5,22,55,42,0] ?_;refine zB rfl (fun h2=>?_) (fun h2=>?_)
 ·have k2:eR cap d p u x=4:=by have h9:=bW h2;rw[k3] at h9;unfold eR;rw[bZ aK]
  refine Re ?_;refine zF (b:=lb) (LdC cap (if eR cap d p u x=0 then d+x else d) p u) (by rw[k2];rfl) ?_;exact dD rfl rfl fun w' a5=>⟨(),aQ,by rw[k2],zA w' a5⟩
 have k2:¬cap-(d-p-u)<x:=by have h9:=bX h2;rw[k3] at h9;omega
 refine rn [12,7,1,2,6,4,5,2] ?_;refine aa (bg rfl rfl rfl rfl rfl fun b33=>?_);refine zF (b:=b33) ((([d,x]:List Int).map aD).flatten) rfl ?_;refine aa (zH rfl (fun w1 a6=>tI (some ⟨b33,0,none⟩) (2) (2) (([d,x]:List Int)) w1 (Rdb.toOld (InL.rdb (b:=b33) (els:=(([d,x]:List Int)).map aD) rfl aM rfl) a6) (by intro y hy;simp at hy;have:=hl.hp;have:=hl.hu;have:=hl.hd;have:=hl.hm;rcases hy with rfl|rfl<;>omega) bB) rfl ?_);refine Ro ?_;refine zB rfl (fun h3=>?_) (fun h3=>?_)
 ·have k4:eR cap d p u x=10:=by have h9:=h3;simp[eI] at h9;unfold eR;rw[bY k2,bZ aK]
  refine Re ?_;refine zF (b:=lb) (LdC cap (if eR cap d p u x=0 then d+x else d) p u) (by rw[k4];rfl) ?_;exact dD rfl rfl fun w' a5=>⟨(),aQ,by rw[k4],zA w' a5⟩
 have k4:d+x<=18446744073709551615:=by have h9:=h3;simp[eI] at h9;omega
 have k5:df [d,x]=d+x:=by unfold df;rw[bZ aV];simp
 have k6:eR cap d p u x=0:=by unfold eR;rw[bY k2,bY aK]
 refine rn [12,7,1,2,2,6,4] ?_;refine aa (zI rfl rfl rfl rfl rfl rfl rfl (RA ?_));refine zF (b:=lb) (LdC cap (if eR cap d p u x=0 then d+x else d) p u) (by rw[k6,bZ rfl,←k5];rfl) ?_;exact dD rfl rfl fun w' a5=>⟨(),aQ,by rw[k6],zA w' a5⟩
theorem sv (lb:Nat) (cap d p u:Int) (x:Int) (w:World) (hw:W0 [Res.blk lb 138 (LdC cap (d) (p) (u))] w) (hl:LOk cap d p u) (hx:0<=x/\x<=18446744073709551615):au (ι:=Unit) Tryz.prog 203 [aG lb,aJ x] w [Res.blk lb 138 (LdC cap (d) (p) (u))] (fun _=>True) (fun _=>.int .i64 (dW d p u x)) (fun _=>[]) (fun _=>[Res.blk lb 138 (LdC cap (d) ((if dW d p u x=0 then p+x else p)) (u))]):=by
 refine am Tryz.func203 18 hw ?_;refine rn [1,3,0,8,1,2,2] ?_;refine aa (zN _ rfl (fun w1 a6 a8=>by exact sZ lb cap d p u w1 a8 hl) rfl ?_);refine rn [55,0] ?_;refine zB rfl (fun h1=>?_) (fun h1=>?_)
 ·have k1:dW d p u x=3:=bZ (bW h1);refine Re ?_;refine zF (b:=lb) (LdC cap (d) ((if dW d p u x=0 then p+x else p)) (u)) (by rw[k1];rfl) ?_;exact dD rfl rfl fun w' a5=>⟨(),aQ,by rw[k1],zA w' a5⟩
 have k2:¬d-p-u<x:=bX h1;have k1:dW d p u x=0:=bY k2;refine rn [12,7,1,2,2,6,4,5,2] ?_;refine s_q (yI (z:=p+x) rfl rfl (by have:=hl.hp;have:=hl.hu;have:=hl.hd;have:=hl.hm;rw[ey aK aK])) rfl (SY ?_);refine aa (zI rfl rfl rfl rfl rfl rfl rfl (RA ?_));refine zF (b:=lb) (LdC cap (d) ((if dW d p u x=0 then p+x else p)) (u)) (by rw[k1];rfl) ?_;exact dD rfl rfl fun w' a5=>⟨(),aQ,by rw[k1],zA w' a5⟩
theorem jg (lb:Nat) (cap d p u:Int) (x:Int) (w:World) (hw:W0 [Res.blk lb 138 (LdC cap (d) (p) (u))] w) (hl:LOk cap d p u) (hx:0<=x/\x<=18446744073709551615):au (ι:=Unit) Tryz.prog 195 [aG lb,aJ x] w [Res.blk lb 138 (LdC cap (d) (p) (u))] (fun _=>True) (fun _=>.int .i64 (dW d p u x)) (fun _=>[]) (fun _=>[Res.blk lb 138 (LdC cap (d) (p) ((if dW d p u x=0 then u+x else u)))]):=by
 refine am Tryz.func195 18 hw ?_;refine rn [1,3,0,8,1,2,2] ?_;refine aa (zN _ rfl (fun w1 a6 a8=>by exact sZ lb cap d p u w1 a8 hl) rfl ?_);refine rn [55,0] ?_;refine zB rfl (fun h1=>?_) (fun h1=>?_)
 ·have k1:dW d p u x=3:=bZ (bW h1);refine Re ?_;refine zF (b:=lb) (LdC cap (d) (p) ((if dW d p u x=0 then u+x else u))) (by rw[k1];rfl) ?_;exact dD rfl rfl fun w' a5=>⟨(),aQ,by rw[k1],zA w' a5⟩
 have k2:¬d-p-u<x:=bX h1;have k1:dW d p u x=0:=bY k2;refine rn [12,7,1,2,2,6,4,5,2] ?_;refine s_q (yI (z:=u+x) rfl rfl (by have:=hl.hp;have:=hl.hu;have:=hl.hd;have:=hl.hm;rw[ey aK aK])) rfl (SY ?_);refine aa (zI rfl rfl rfl rfl rfl rfl rfl (RA ?_));refine zF (b:=lb) (LdC cap (d) (p) ((if dW d p u x=0 then u+x else u))) (by rw[k1];rfl) ?_;exact dD rfl rfl fun w' a5=>⟨(),aQ,by rw[k1],zA w' a5⟩
theorem lP (x:V) (c:C):0<=dm x c:=by
 unfold dm;split
 ·omega
 split
 ·omega
 rw[cF];omega
theorem qa {l:List Y} {y:Y}:pos (l++[y])=pos l++(if y.a=0 then [] else [y]):=by
 unfold pos;rw[List.filter_append];by_cases h:y.a=0<;>simp[h]
theorem lw (A B:bU) (n cap capq P:Nat) (l:List V) (q:List Rq) (c:C) (w:World) (hl:Rd w [] A n 7 (l.map V.c)) (hq:Rd w [] B q.length 2 (q.map Rq.c)) (hcq:q.length<=capq) (hb:n<=1000000) (hbq:q.length<=1000000) (hP:c.parts=((P:Nat):Int)) (i6:∀x∈q,0<=x.m):au (ι:=(bU × Nat × bU × Nat)) Tryz.prog 199 [.slice A n cap,.slice B q.length capq,c.v] w [] (fun x=>True) (fun x=>.tuple [.slice x.1 l.length x.2.1,.slice x.2.2.1 (pos (run c l (q.take (min q.length P))).2).length x.2.2.2,aI (min q.length P)].toArray) (fun x=>[Res.row x.1 l.length x.2.1 52 7 ((run c l (q.take (min q.length P))).1.map V.c),Res.row x.2.2.1 (pos (run c l (q.take (min q.length P))).2).length x.2.2.2 50 3 ((pos (run c l (q.take (min q.length P))).2).map Y.c)]) (fun x=>[]):=by
 refine am Tryz.func199 80 (WOK.start (fps []) _) ?_;have hln:n=l.length:=by have:=hl.old.len;simpa using this
 refine Ri ?_;refine aa (aq rfl rfl rfl fun b5=>rn [3,3,3,0,1] ?_);refine aa (bg rfl rfl rfl rfl rfl fun I2=>?_);refine xL (t:=16) (T:=52) (k:=7) rfl fun A16 y6 hc16=>?_;refine zC (A:=A16) (([]:List V).map V.c) rfl (SD ?_);refine aa (zW (A:=A16) (els:=(([]:List V)).map V.c) (news:=((l).map V.c)) rfl rfl hl.rdb (zZ (c:=V.c) (by intro x;simp[V.c,Value.oneCell']) _) aR rfl fun A18 cap18=>⟨_,inferInstance,?_⟩);refine zC (A:=A18) ((l).map V.c) (by first|rfl|exact cA.symm|(simp;done)) ?_;refine zR (A:=A18) (n) aM ?_;refine ae 18 (v' := .slice A18 (n) cap18) rfl aM (rn [3,0,1,3] ?_);refine xA 10 50 3 rfl fun Az1 capz1 hcz1=>?_;refine zC (A:=Az1) (([]:List Y).map Y.c) rfl (rn [0,1,3,0,8,1,3,0,14] ?_);refine zC (A:=A18) ((run c l (q.take 0)).1.map V.c) (by simp[run]) ?_;refine zR (A:=A18) l.length (by first|rfl|omega|(simp;omega)) ?_;refine ae 9 (v' := .slice A18 l.length cap18) rfl (by first|rfl|rw[hln]|(simp;omega)) ?_;refine zC (A:=Az1) ((pos (run c l (q.take 0)).2).map Y.c) (by simp[run,pos]) ?_;refine ae 10 (v' := .slice Az1 (pos (run c l (q.take 0)).2).length capz1) rfl (by simp[run,pos]) ?_;refine zR (A:=Az1) (pos (run c l (q.take 0)).2).length (by simp[run,pos]) ?_;refine dP [1,5,6,7,8] (fun(x:Nat × bU × Nat × bU × Nat)=>[(9,.slice x.2.1 l.length x.2.2.1),(10,.slice x.2.2.2.1 (pos (run c l (q.take x.1)).2).length x.2.2.2.2),(11,aI x.1),(12,aI x.1)]) (fun(x:Nat × bU × Nat × bU × Nat)=>[Res.blk b5 24 c.c,Res.row x.2.1 l.length x.2.2.1 52 7 (((run c l (q.take x.1)).1).map V.c),Res.row x.2.2.2.1 (pos (run c l (q.take x.1)).2).length x.2.2.2.2 50 3 ((pos (run c l (q.take x.1)).2).map Y.c)]) (fun(x:Nat × bU × Nat × bU × Nat)=>x.1<=(min q.length P)) (fun(x:Nat × bU × Nat × bU × Nat)=>(min q.length P)-x.1) (0,A18,cap18,Az1,capz1) bF ?_;rintro⟨k,A1,j6,B1,y3⟩ f6;replace f6:k<=(min q.length P):=f6;refine yB (L' := [Res.blk b5 24 c.c,Res.row A1 l.length j6 52 7 (((run c l (q.take k)).1).map V.c),Res.row B1 (pos (run c l (q.take k)).2).length y3 50 3 ((pos (run c l (q.take k)).2).map Y.c)]) rfl ?_;refine ae 9 (v' := .slice A1 l.length j6) rfl rfl ?_;refine ae 10 (v' := .slice B1 (pos (run c l (q.take k)).2).length y3) rfl rfl ?_;refine ae 11 (v' := aI k) rfl rfl ?_;refine ae 12 (v' := aI k) rfl rfl ?_;have Z8:=EQ (run c l (q.take k)).2;have hr1:=lk c l (q.take k);have hr2:(q.take k).length<=k:=List.length_take_le _ _;have hr4:=uS c l (q.take k);refine rn [8,1,2,2,47,46,2] ?_;refine zS 23 rfl (fun h1=>?_) (fun h1=>?_)
 ·refine rn [22,2,22,4,22,5,22,46,41,0] ?_;refine zB rfl (fun h2=>?_) (fun h2=>?_)
  ·have v8:k<q.length:=by simp at h1;omega
   have lt_M:k<(min q.length P):=by simp[hP] at h2;omega
   refine rn [12,7,8,14,1,2,43,3,0,1,2,2] ?_;refine s_q (zM (i:=k) rfl rfl rfl hq.rdb aS) rfl ?_;refine s_q (zU (i:=k) rfl hq.rdb (zP bD) rfl) rfl ?_;refine aa (zK rfl fun j3=>rn [33,0,8,1,4,5,46,2] ?_);refine zS 40 rfl (fun h3=>?_) (fun h3=>?_)
   ·have K8:¬inB (run c l (q.take k)).1 (q[k]):=fun h=>by simp at h3;exact absurd h.1 aK
    refine rn [21,21,21,21,21,41,0,19,16] ?_;refine zE (zQ (rn [7,10,2,43,3,9] ?_));have e1:(run c l (q.take k)).1=(run c l (q.take (k+1))).1:=by rw[lp v8,tQ K8]
    have e2:(run c l (q.take k)).2=(run c l (q.take (k+1))).2:=by rw[lm v8,tP K8]
    rw[e1,e2];exact cr ((k+1),A1,j6,B1,y3) bF
   refine rn [22,4,22,5,22,2,22,47,22,53,42,0] ?_;refine zB rfl (fun h4=>?_) (fun h4=>?_)
   ·have K8:¬inB (run c l (q.take k)).1 (q[k]):=fun h=>by simp at h4;exact absurd h.2 (by rw[hr4];omega)
    refine Ru ?_;refine zE (zQ (rn [7,10,2,43,3,9] ?_));have e1:(run c l (q.take k)).1=(run c l (q.take (k+1))).1:=by rw[lp v8,tQ K8]
    have e2:(run c l (q.take k)).2=(run c l (q.take (k+1))).2:=by rw[lm v8,tP K8]
    rw[e1,e2];exact cr ((k+1),A1,j6,B1,y3) bF
   obtain⟨ix,T3⟩:∃ix:Nat,(q[k]).i=ix:=⟨(q[k]).i.toNat,by simp at h3;omega⟩
   have hx:ix<(run c l (q.take k)).1.length:=by rw[hr4];simp at h4;omega
   have D5:ix<l.length:=by omega
   refine rn [12,7,1,2,4,5] ?_;refine ae 49 (v' := aI ix) rfl (by rw[T3]) ?_;refine s_q (zM (i:=ix) rfl rfl rfl (InRow.rdb (A:=A1) (els:=((run c l (q.take k)).1).map V.c) (by simp[uS]) (yA (c:=V.c) (fun _=>rfl) _)) aS) rfl ?_;refine s_q (zU (i:=ix) rfl (InRow.rdb (A:=A1) (els:=((run c l (q.take k)).1).map V.c) (by simp[uS]) (yA (c:=V.c) (fun _=>rfl) _)) (zP aT) rfl) rfl ?_;refine aa (zK rfl fun G4=>rn [33,0,8] ?_);refine bn [] an rfl (rn [23,0,4,23,1,5,23,2,45,23,3,45] ?_);refine dop 4 rfl (zH rfl (fun w hw=>oB _ _ w) rfl (rn [23,5,58,23,6,3,27,7,1,4,5,2,57,4] ?_));refine aa (zI rfl rfl rfl rfl rfl rfl rfl ?_);refine zF (b:=G4) (V.c (apV ((run c l (q.take k)).1)[ix] ((q[k]).m) c)) (by simp[apV,qL,ay,V.c]) (rn [0,1,2,4,5] ?_);refine ae 65 (v' := aI ix) rfl (by rw[T3]) (rn [45] ?_);refine aa (zJ [] rfl (fun w1 a6 a8=>by have h7:=rG A1 (l.length) (j6) ((run c l (q.take k)).1) (ix) ((apV ((run c l (q.take k)).1)[ix] ((q[k]).m) c)) w1 (Rd.ofRow (A:=A1) a6) aZ bI;exact h7) rfl ?_);rintro⟨A67,M8⟩ _;refine ii (rn [3,0,1,2,55,0] ?_);refine zB rfl (fun h5=>?_) (fun h5=>?_)
   ·refine rn [10,2,4,5] ?_;refine ae 72 (v' := aI ix) rfl (by rw[T3]) (rn [2,49] ?_);refine aa (bg rfl rfl rfl rfl rfl fun b75=>?_);refine zF (b:=b75) ((([(Y.mk ((ix:Nat):Int) (min ((q[k]).m) (eK ((run c l (q.take k)).1)[ix] c)) false)]:List Y).map Y.c).flatten) rfl ?_;refine aa (zW (A:=B1) (els:=((pos (run c l (q.take k)).2)).map Y.c) (news:=(([(Y.mk ((ix:Nat):Int) (min ((q[k]).m) (eK ((run c l (q.take k)).1)[ix] c)) false)]:List Y).map Y.c)) rfl rfl (InL.rdb (b:=b75) rfl (by simp[Y.c]) rfl) (zZ (c:=Y.c) (by intro x;simp[Y.c,Value.oneCell']) _) aR rfl fun A76 M7=>⟨_,inferInstance,?_⟩);refine zC (A:=A76) ((((pos (run c l (q.take k)).2)++[(Y.mk ((ix:Nat):Int) (min ((q[k]).m) (eK ((run c l (q.take k)).1)[ix] c)) false)])).map Y.c) (by first|rfl|exact cA.symm|(simp;done)) (Rt ?_);have e1:((run c l (q.take k)).1).set ix (apV ((run c l (q.take k)).1)[ix] ((q[k]).m) c)=(run c l (q.take (k+1))).1:=by rw[lp v8,qB T3 hx]
    have e2:pos (run c l (q.take k)).2++[(Y.mk ((ix:Nat):Int) (min ((q[k]).m) (eK ((run c l (q.take k)).1)[ix] c)) false)]=pos (run c l (q.take (k+1))).2:=by rw[lm v8,qA T3 hx,qa,qL];rw[bY (show¬min ((q[k]).m) (eK ((run c l (q.take k)).1)[ix] c)=0 by simp at h5;omega)]
    have e3:(pos (run c l (q.take k)).2).length+1=(pos (run c l (q.take (k+1))).2).length:=by rw[←e2];simp
    rw[e1,e3,e2,uS c l (q.take (k+1))];exact cr ((k+1),A67,M8,A76,M7) bF
   refine RP ?_;have e1:((run c l (q.take k)).1).set ix (apV ((run c l (q.take k)).1)[ix] ((q[k]).m) c)=(run c l (q.take (k+1))).1:=by rw[lp v8,qB T3 hx]
   have hnn:=lP (((run c l (q.take k)).1)[ix]) c;rw[qL] at hnn;have hm0:=i6 (q[k]) (cC _);have e2:pos (run c l (q.take k)).2=pos (run c l (q.take (k+1))).2:=by rw[lm v8,qA T3 hx,qa,qL];rw[bZ (show min ((q[k]).m) (eK ((run c l (q.take k)).1)[ix] c)=0 by simp at h5;omega)];simp
   rw[e1,e2,uS c l (q.take (k+1))];exact cr ((k+1),A67,M8,B1,y3) bF
  have f9:k=(min q.length P):=by simp[hP] at h2;simp at h1;omega
  refine Ru ?_;refine zE (zE (zQ (SO ?_)));exact dI rfl (.tmp rfl) (.tmp rfl) (.tmp rfl) fun w' a5=>⟨(A1,j6,B1,y3),aQ,by rw[←f9],by rw[←f9];exact zA w' a5⟩
 have f9:k=(min q.length P):=by simp at h1;omega
 refine rn [21,21,21,21,42,0,20,16] ?_;refine zE (zE (zQ (SO ?_)));exact dI rfl (.tmp rfl) (.tmp rfl) (.tmp rfl) fun w' a5=>⟨(A1,j6,B1,y3),aQ,by rw[←f9],by rw[←f9];exact zA w' a5⟩
theorem kZ (A:bU) (n cap:Nat) (l:List V) (r:Rq) (w:World) (hl:Old w A n 7 (l.map V.c)) (hb:n<=1000000):Pur Tryz.prog 196 [.slice A n cap,.agg (Rq.c r).toArray] w (aH (fS l r.i r.m)):=by
 refine am Tryz.func196 25 (WOK.start [] _) ?_;have hn:n=l.length:=by simpa using hl.len
 refine Ri ?_;refine aa (aq rfl rfl rfl fun b3=>rn [3,0,8,1,4,5,46,2] ?_);refine zS 8 rfl (fun h1=>?_) (fun h1=>?_)
 ·have k1:ax l r.i=false:=cY (by have h9:=bW h1;omega);refine rn [21,21,21,21,21,41,0,19,1,3,0,11,13] ?_;exact dD rfl rfl fun w' a5=>⟨by rw[fS,bZ k1],a5.upd⟩
 have k0:=bX h1;refine rn [22,4,22,5,22,2,22,47,22,53,42,0] ?_;refine zB rfl (fun h2=>?_) (fun h2=>?_)
 ·have k1:ax l r.i=false:=cY (by have h9:=bW h2;omega);refine Re ?_;exact dD rfl rfl fun w' a5=>⟨by rw[fS,bZ k1],a5.upd⟩
 have k1:ax l r.i=true:=cX (by have h9:=bX h2;omega);obtain⟨ix,T3,hil⟩:=xF k1;refine rn [12,7,8,1,4,5,44,0] ?_;refine zB rfl (fun h3=>?_) (fun h3=>?_)
 ·have k2:r.m=0:=bW h3;refine Re ?_;exact dD rfl rfl fun w' a5=>⟨by rw[fS,bY (by rw[k1];simp),bZ k2],a5.upd⟩
 have k2:¬r.m=0:=bX h3;refine rn [12,7,8,1,2,4,5] ?_;refine ae 20 (v' := aI ix) rfl (by rw[T3]) ?_;refine s_q (zM (i:=ix) rfl rfl rfl (hl.rdb rfl) bO) rfl (Nd ?_);refine s_q (zX (i:=ix) (o:=1) rfl (hl.rdb rfl) (zP (by first|exact bO|omega|(simp_all;done)|(simp_all;omega))) rfl rfl) rfl (rn [51,0] ?_);refine zB rfl (fun h4=>?_) (fun h4=>?_)
 ·have k3:(ab l r.i).st≠2:=by have h9:=h4;rw[T3,yK hil];simpa using h9
  refine Re ?_;exact dD rfl rfl fun w' a5=>⟨by rw[fS,bY (by rw[k1];simp),bY k2,bZ k3],a5.upd⟩
 have k3:¬(ab l r.i).st≠2:=by have h9:=h4;rw[T3,yK hil];simpa using h9
 refine rn [12,7,1,3,0,11] ?_;exact dD rfl rfl fun w' a5=>⟨by rw[fS,bY (by rw[k1];simp),bY k2,bY k3],a5.upd⟩
theorem no (a0 V P:Nat) (B:bU) (bc:Nat) (rl:List Bool) (w:World) (hrd:Rd w [] B rl.length 1 (rl.map aF)) (h0:a0<=4096) (hV:1<=V/\V<=4096) (hP:1<=P/\P<=4096) (hb:rl.length<=4096):au (ι:=(bU × Nat)) Tryz.prog 200 [aI a0,.slice B rl.length bc,aI V,aI P] w [] (fun x=>True) (fun x=>.tuple [.slice x.1 (dJ a0 rl ((V:Nat):Int) ((P:Nat):Int)).2.1.length x.2,aI ((dJ a0 rl ((V:Nat):Int) ((P:Nat):Int)).2.2),aI ((dJ a0 rl ((V:Nat):Int) ((P:Nat):Int)).1)].toArray) (fun x=>[Res.row x.1 ((dJ a0 rl ((V:Nat):Int) ((P:Nat):Int)).2.1).length x.2 3 1 (((dJ a0 rl ((V:Nat):Int) ((P:Nat):Int)).2.1).map aC)]) (fun x=>[]):=by
 refine am Tryz.func200 61 (WOK.start (fps []) _) ?_;refine rn [1,3,3,3,0,1,2,47,3,0,8,1,2,44,2] ?_;refine zS 18 rfl (fun h1=>?_) (fun h1=>?_)
 ·have hR:(dJ a0 rl ((V:Nat):Int) ((P:Nat):Int))=(a0,[],0):=by have h9:=bW h1;unfold dJ;rw[bZ (.inl aK)]
  refine rn [21,21,41,2,21,21,41,0,19,1,2,3,3,3,0,11,13] ?_;refine zY none 3 1 (([]:List Int).map aC) rfl ?_;exact dI rfl (.tmp rfl) (.tmp rfl) (.tmp rfl) fun w' a5=>⟨((none:bU),0),aQ,by rw[hR];rfl,by rw[hR];exact zA w' a5⟩
 have hn0:0<rl.length:=by have h9:=bX h1;omega
 refine rn [22,2,22,46,42,2] ?_;refine zS 22 rfl (fun h2=>?_) (fun h2=>?_)
 ·exfalso;have h9:=bW h2;omega
 refine rn [22,2,22,46,42,0] ?_;refine zB rfl (fun h3=>?_) (fun h3=>?_)
 ·exfalso;have h9:=bW h3;omega
 obtain⟨K,hK⟩:∃q:Nat,(min ((V:Nat):Int) (rl.length:Int)).toNat=q:=⟨_,rfl⟩
 have hKn:K=min V rl.length:=by omega
 have hm0:=cW a0 hn0;have hR0:(dJ a0 rl ((V:Nat):Int) ((P:Nat):Int))=swp rl rl.length P (K-0) (a0%rl.length) [] 0:=by
   have e1:(dJ a0 rl ((V:Nat):Int) ((P:Nat):Int))=swp rl rl.length P (K-0) a0 [] 0:=by unfold dJ;rw[bY aK,hK,show((P:Nat):Int).toNat=P from rfl];rfl
   rw[e1,qP (at_:=a0) aV aK,qP (at_:=a0%rl.length) aV aK,Nat.mod_mod]
 refine SQ ?_;refine s_q (wA (a:=a0) (b:=rl.length) rfl rfl aK) rfl (rn [3,0,1,3] ?_);refine xA 12 3 1 rfl fun Az1 capz1 hcz1=>?_;refine zC (A:=Az1) (([]:List Int).map aC) rfl (rn [0,1,3,0,8,14] ?_);refine dP [1,2,3,8,9,10,11] (fun(x:Nat × List Int × Nat × bU × Nat)=>[(12,.slice x.2.2.2.1 (x.2.1).length x.2.2.2.2),(13,aI x.2.2.1),(0,aI x.1)]) (fun(x:Nat × List Int × Nat × bU × Nat)=>[Res.row x.2.2.2.1 (x.2.1).length x.2.2.2.2 3 1 ((x.2.1).map aC)]) (fun(x:Nat × List Int × Nat × bU × Nat)=>x.1<rl.length/\((x.2.1).length<=x.2.2.1/\(x.2.1).length<=P)/\x.2.2.1<=K/\(dJ a0 rl ((V:Nat):Int) ((P:Nat):Int))=swp rl rl.length P (K-x.2.2.1) x.1 x.2.1 x.2.2.1) (fun(x:Nat × List Int × Nat × bU × Nat)=>K-x.2.2.1) ((a0%rl.length),([]:List Int),0,Az1,capz1) (by(try dsimp only);exact⟨hm0,aM,aK,hR0⟩) ?_;rintro⟨k1,p1,m1,A1,j6⟩ ⟨w5,Z8,hmK,hs⟩;replace w5:k1<rl.length:=w5;replace Z8:(p1).length<=m1/\(p1).length<=P:=Z8;replace hmK:m1<=K:=hmK;replace hs:(dJ a0 rl ((V:Nat):Int) ((P:Nat):Int))=swp rl rl.length P (K-m1) k1 p1 m1:=hs;refine yB (L' := [Res.row A1 (p1).length j6 3 1 ((p1).map aC)]) rfl ?_;refine ae 12 (v' := .slice A1 (p1).length j6) rfl rfl ?_;refine ae 13 (v' := aI m1) rfl rfl ?_;refine ae 0 (v' := aI k1) rfl rfl (rn [8,1,2,2,46,2] ?_);refine zS 33 rfl (fun h4=>?_) (fun h4=>?_)
 ·have hy1:=bW h4;refine rn [22,2,22,2,22,46,41,2] ?_;refine zS 38 rfl (fun h5=>?_) (fun h5=>?_)
  ·have N7:m1<K:=by have h9:=bW h5;omega
   refine rn [22,2,22,47,22,2,22,46,41,0] ?_;refine zB rfl (fun h6=>?_) (fun h6=>?_)
   ·have B7:¬p1.length=P:=by have h9:=bW h6;omega
    have hkm:k1%rl.length=k1:=Nat.mod_eq_of_lt w5;refine rn [12,7,14,8,1,2,2] ?_;refine s_q (zM (i:=k1) rfl rfl rfl hrd.rdb aS) rfl ?_;refine s_q (zX (i:=k1) (o:=0) rfl hrd.rdb (zP aK) rfl rfl) rfl (rn [0] ?_);refine zB rfl (fun h7=>?_) (fun h7=>?_)
    ·have hrx:rl[k1]?=some true:=by rw[List.getElem?_eq_getElem w5];simpa using h7
     refine rn [10,2,2] ?_;refine aa (bg rfl rfl rfl rfl rfl fun b50=>?_);refine zF (b:=b50) ((([((k1:Nat):Int)]:List Int).map aC).flatten) rfl ?_;refine aa (zW (A:=A1) (els:=(p1).map aC) (news:=(([((k1:Nat):Int)]:List Int).map aC)) rfl rfl (InL.rdb (b:=b50) rfl aM rfl) (zZ (c:=aC) (by intro x;simp[Value.oneCell']) _) aR rfl fun A51 cap51=>⟨_,inferInstance,?_⟩);refine zC (A:=A51) (((p1++[((k1:Nat):Int)])).map aC) (by first|rfl|exact cA.symm|(simp;done)) ?_;refine zR (A:=A51) (p1++[((k1:Nat):Int)]).length aM ?_;refine ae 51 (v' := .slice A51 (p1++[((k1:Nat):Int)]).length cap51) rfl aM (rn [3,0,1,2,43,2] ?_);refine s_q (wA (a:=(k1+1)) (b:=rl.length) rfl rfl aK) rfl (rn [3,0,10,2,43,3,9,15] ?_);exact xX (((k1+1)%rl.length),(p1++[((k1:Nat):Int)]),(m1+1),A51,cap51) (by(try dsimp only);exact⟨(cW _ aK),aV,aK,(by rw[qP B7 N7,hkm,bZ hrx] at hs;exact hs)⟩) bK (by repeat(first|exact trivial|refine⟨rfl,?_⟩)) zG
    have hrx:¬rl[k1]?=some true:=by rw[List.getElem?_eq_getElem w5];simpa using h7
    refine rn [12,7,1,2,43,2] ?_;refine s_q (wA (a:=(k1+1)) (b:=rl.length) rfl rfl aK) rfl (rn [3,0,10,2,43,3,9,15] ?_);exact xX (((k1+1)%rl.length),p1,(m1+1),A1,j6) (by(try dsimp only);exact⟨(cW _ aK),aK,aK,(by rw[qP B7 N7,hkm,bY hrx] at hs;exact hs)⟩) bK (by repeat(first|exact trivial|refine⟨rfl,?_⟩)) zG
   have h8:=bX h6;have hle:p1.length<=P:=Z8.2;have hR:(dJ a0 rl ((V:Nat):Int) ((P:Nat):Int))=(k1,p1,m1):=by rw[hs];exact lW aK
   refine Ru ?_;refine zE (zE (zQ (SO ?_)));exact dI rfl (.tmp rfl) (.tmp rfl) (.tmp rfl) fun w' a5=>⟨(A1,j6),aQ,by rw[hR],by rw[hR];exact zA w' a5⟩
  have L5:m1=K:=by have h9:=bX h5;omega
  have hR:(dJ a0 rl ((V:Nat):Int) ((P:Nat):Int))=(k1,p1,m1):=by rw[hs];rw[L5,Nat.sub_self];rfl
  refine rn [21,21,21,21,42,0,20,16] ?_;refine zE (zE (zQ (SO ?_)));exact dI rfl (.tmp rfl) (.tmp rfl) (.tmp rfl) fun w' a5=>⟨(A1,j6),aQ,by rw[hR],by rw[hR];exact zA w' a5⟩
 have L5:m1=K:=by have h9:=bX h4;omega
 have hR:(dJ a0 rl ((V:Nat):Int) ((P:Nat):Int))=(k1,p1,m1):=by rw[hs];rw[L5,Nat.sub_self];rfl
 refine rn [21,21,21,42,2,21,21,21,21,42,0,20,16] ?_;refine zE (zE (zQ (SO ?_)));exact dI rfl (.tmp rfl) (.tmp rfl) (.tmp rfl) fun w' a5=>⟨(A1,j6),aQ,by rw[hR],by rw[hR];exact zA w' a5⟩
structure SP where
 sb:Nat
 lb:Nat
 xb:Nat
 mb:Nat
structure SG where
 vA:bU
 vc:Nat
 pA:bU
 pc:Nat
 fA:bU
 fc:Nat
 oA:bU
 oc:Nat
 mA:bU
 mc:Nat
 rA:bU
 rc:Nat
structure SG.Ok (g:SG) (s:Eg):Prop where
 p:s.pend.length<=g.pc
 f:s.q.f.length<=g.fc
 o:s.q.v.length<=g.oc
 m:s.mg.length<=g.mc
 r:s.pt.length<=g.rc
def SC (p:SP) (g:SG) (s:Eg):List Value:=[aH s.c.capa,aH s.c.qsize,aJ s.c.mind,aJ s.c.maxd,aJ s.c.supc,aJ s.c.minb,aJ s.c.maxb,aJ s.c.minch,aJ s.c.quot,aJ s.c.fcap,aH s.c.unb,aH s.c.sld,aH s.c.rlen,aH s.c.elen,aH s.c.vis,aH s.c.pays,aH s.c.parts,aH s.c.merg,aJ s.c.pnum,aJ s.c.pden,aI s.blk,aH s.ep,.slice g.vA s.l.length g.vc,aG p.lb,.slice g.pA s.pend.length g.pc,aG p.xb,.slice g.mA s.mg.length g.mc,.slice g.rA s.pt.length g.rc,aI s.cur,aG p.mb]
abbrev RSL (p:SP) (g:SG) (s:Eg):List Res:=[Res.blk p.sb 147 (SC p g s),Res.blk p.lb 138 (LdC s.c.supc s.dep s.paid s.burn),Res.blk p.xb 141 [dC g.fA (s.q).f.length g.fc,dC g.oA (s.q).v.length g.oc,aI s.c.qsize.toNat],Res.ro g.fA (s.q).f.length 1 ((s.q).f.map aC),Res.ro g.oA (s.q).v.length 1 ((s.q).v.map aC),Res.blk p.mb 144 (R.c (R.of s.m)),Res.row g.vA s.l.length g.vc 52 7 (s.l.map V.c),Res.ro g.pA s.pend.length 1 (s.pend.map aC),Res.ro g.mA s.mg.length 2 (s.mg.map PP.c),Res.ro g.rA s.pt.length 2 (s.pt.map Rq.c)]
def rjX (k code:Int) (s:Eg):RX:=⟨⟨k,code,-1,s.blk,s.ep,-1,[],[],0⟩,none,0,none,0⟩
def acX (k i dl:Int) (s:Eg):RX:=⟨⟨k,0,i,s.blk,s.ep,dl,[],[],0⟩,none,0,none,0⟩
def rcX (s:Eg) (y:Op) (x:Rs):RX:=⟨rcp s y x,none,0,none,0⟩
theorem rD {s:Eg} {y:Op} {x:Rs} (h:x.code≠0):rcX s y x=rjX y.k x.code s:=by unfold rcX rcp rjX;rw[bZ h]
abbrev rcZ (b:Nat):Res:=Res.blk b 47 [aH 0,aH 0,aH 0,aH 0,aH 0,aH 0,dC none 0 0,dC none 0 0,aH 0]
theorem xD (p:SP) (g:SG) (s:Eg) (k code:Int) (w:World) (hw:W0 [Res.blk p.sb 147 (SC p g s)] w) : du Tryz.prog 132 [aG p.sb,aH k,aH code] w [Res.blk p.sb 147 (SC p g s)] (.agg (RX.c (rjX k code s)).toArray):=by
 refine am Tryz.func132 18 hw ?_;refine Ri ?_;refine aa (zK rfl fun b6=>Sw ?_);refine bn [11] an rfl (rn [23,0,2,23,1,2,23,2,2,23,3,6,23,4,4,23,5,5,23,6,2,23,7,6,23,8,4,23,9,5] ?_);refine dq 10 rfl (yF (c:=RX.c (rjX k code s)) rfl aL) ?_;refine dop 11 rfl (zT rfl rfl rfl rfl rfl (Nc ?_));exact dG rfl (.cellw rfl rfl) fun w' a5=>⟨(),trivial,rfl,zA w' a5⟩
theorem sY (p:SP) (g:SG) (s:Eg) (k i dl:Int) (w:World) (hw:W0 [Res.blk p.sb 147 (SC p g s)] w) : du Tryz.prog 188 [aG p.sb,aH k,aH i,aH dl] w [Res.blk p.sb 147 (SC p g s)] (.agg (RX.c (acX k i dl s)).toArray):=by
 refine am Tryz.func188 21 hw ?_;refine Ri ?_;refine aa (zK rfl fun b8=>Sw ?_);refine bn [12] an rfl (rn [23,0,2,23,1,2,23,2,2,23,3,6,23,4,4,23,5,5,23,6,2,23,7,6,23,8,4,23,9,5,23,10,2] ?_);refine dq 11 rfl (yF (c:=RX.c (acX k i dl s)) rfl aL) ?_;refine dop 12 rfl (zT rfl rfl rfl rfl rfl (Nc ?_));exact dG rfl (.cellw rfl rfl) fun w' a5=>⟨(),trivial,rfl,zA w' a5⟩
theorem rH (p:SP) (g:SG) (s:Eg) (n:Nat) (e:Int) (w:World) (hw:W0 [Res.blk p.sb 147 (SC p g s),Res.row g.vA s.l.length g.vc 52 7 (s.l.map V.c)] w) (hn:n<s.l.length) (hl:s.l.length<=4096) (D8:-1000<=(ab s.l n).st/\(ab s.l n).st<=1000):au (ι:=(bU × Nat)) Tryz.prog 263 [aG p.sb,aI n,aH e] w [Res.blk p.sb 147 (SC p g s),Res.row g.vA s.l.length g.vc 52 7 (s.l.map V.c)] (fun x=>True) (fun x=>.tuple #[]) (fun x=>[]) (fun x=>[Res.blk p.sb 147 (SC p { g with vA:=x.1,vc:=x.2 } { s with l:=s.l.set n { ab s.l n with st:=nxt (ab s.l n).st e } }),Res.row x.1 (s.l.set n { ab s.l n with st:=nxt (ab s.l n).st e }).length x.2 52 7 ((s.l.set n { ab s.l n with st:=nxt (ab s.l n).st e }).map V.c)]):=by
 refine am Tryz.func263 29 hw ?_;refine rn [1,2,6,4,5,2] ?_;refine s_q (zM (i:=n) rfl rfl rfl (ird (A:=g.vA)) (by first|exact hn|omega)) rfl ?_;refine s_q (zU (i:=n) rfl (ird (A:=g.vA)) (zP aT) rfl) rfl ?_;refine aa (zK rfl fun b6=>rn [33] ?_);refine zF (b:=b6) (V.c (ab s.l n)) (by rw[yK hn]) (rn [0,1,4,5,2] ?_);refine aa (zH rfl (fun w1 a6=>qU (((ab s.l n)).st) (e) w1 D8) rfl (Nd ?_));refine aa (zI rfl rfl rfl rfl rfl rfl rfl ?_);refine zF (b:=b6) (V.c { ab s.l n with st:=nxt (ab s.l n).st e }) aP (rn [0] ?_);refine bn [10] an rfl (rn [23,0,2,23,1,2,23,2,6,23,3,4,23,4,5,23,5,2,23,6,45] ?_);refine dop 7 rfl (zJ [] rfl (fun w1 a6 a8=>by have h7:=rG g.vA (s.l.length) (g.vc) (s.l) (n) (({ ab s.l n with st:=nxt (ab s.l n).st e }:V)) w1 (Rd.ofRow (A:=g.vA) a6) aZ bI;exact h7) rfl ?_);rintro⟨A26,N1⟩ _;refine ii (rn [24,8,6,23,9,4] ?_);refine dop 10 rfl (zI rfl rfl rfl rfl rfl rfl rfl (Nf ?_));refine zF (b:=p.sb) (SC p { g with vA:=A26,vc:=N1 } { s with l:=s.l.set n { ab s.l n with st:=nxt (ab s.l n).st e } }) aP ?_;exact dF rfl fun w' a5=>⟨(A26,N1),aQ,rfl,zA w' a5⟩
end Go.Proofs.YtdddiilocbbkkaaGreat
