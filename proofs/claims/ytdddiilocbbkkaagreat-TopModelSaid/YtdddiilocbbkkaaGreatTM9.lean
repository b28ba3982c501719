/- Part 9 of the proof of TopModel. No condition. -/
import Derived.Test.YtdddiilocbbkkaaGreatTM8
set_option linter.unusedVariables false
set_option linter.unusedSimpArgs false
namespace Go.Proofs.YtdddiilocbbkkaaGreat
open Go.RowKit Go.Eg
set_option maxHeartbeats 4000000
set_option synthInstance.maxSize 3000
set_option maxRecDepth 100000
def fd (ws l:List Int) (k:Nat):Int:=((l.take k).map (ofW ws)).sum
theorem so {ws l:List Int} {k:Nat} (hk:k<l.length):fd ws l (k+1)=fd ws l k+ofW ws l[k]:=by
 unfold fd;rw[←cB hk,cA,List.sum_append];simp
theorem Fg {lim:Int} {ws l:List Int} {k:Nat} (h:okU ws) (hk:k<l.length):fT lim (fd ws l k) (decide (k=0)) (ofW ws l[k]) true=(decide (k=0) || (eI ((l.take (k+1)).map (ofW ws)) && decide (df ((l.take (k+1)).map (ofW ws))<=lim)))/\df [fd ws l k,ofW ws l[k]]=df ((l.take (k+1)).map (ofW ws))/\eI [fd ws l k,ofW ws l[k]]=eI ((l.take (k+1)).map (ofW ws)):=by
 have e:([fd ws l k,ofW ws l[k]]:List Int).sum=((l.take (k+1)).map (ofW ws)).sum:=by
  have:=so (ws:=ws) hk;unfold fd at *;simp only[dB,List.sum_nil];omega
 have e1:df [fd ws l k,ofW ws l[k]]=df ((l.take (k+1)).map (ofW ws)):=by unfold df;rw[e]
 have e2:eI [fd ws l k,ofW ws l[k]]=eI ((l.take (k+1)).map (ofW ws)):=by unfold eI;rw[e]
 refine⟨?_,e1,e2⟩;unfold fT;rw[e1,e2,Bool.true_and]
theorem lu {lim:Int} {ws l:List Int} {k:Nat} (h:okU ws) (hk:k<l.length) (hb:k=0\/(eI ((l.take (k+1)).map (ofW ws))=true/\df ((l.take (k+1)).map (ofW ws))<=lim)) :
  dd lim ws (l.drop k) (fd ws l k) (decide (k=0))=l[k] :: dd lim ws (l.drop (k+1)) (fd ws l (k+1)) (decide (k+1=0)):=by
 obtain⟨b1,b2,b3⟩:=Fg (lim:=lim) h hk;have hB:fT lim (fd ws l k) (decide (k=0)) (ofW ws l[k]) true=true:=by
  rw[b1];rcases hb with hb|hb
  ·simp[hb]
  rw[hb.1,cX hb.2];simp
 have hf:eI ((l.take (k+1)).map (ofW ws))=true:=by
  rcases hb with rfl|hb
  ·have e0:fd ws l 0=0:=rfl;have:=qk h l[0];rw[←b3,e0];unfold eI;simp;omega
  exact hb.1
 rw[Az hk hB];have hs:fQ lim (fd ws l k) (decide (k=0)) (ofW ws l[k]) true=fd ws l (k+1):=by
  unfold fQ;rw[bZ hB,b2];unfold df;rw[bZ (by simpa[eI] using hf)];rfl
 have hF:fg lim (fd ws l k) (decide (k=0)) (ofW ws l[k]) true=decide (k+1=0):=by
  unfold fg;rw[bZ hB];simp
 rw[hs,hF]
theorem iE {lim:Int} {ws l:List Int} {k:Nat} (h:okU ws) (hk:k<l.length) (h0:k≠0) (hb:¬(eI ((l.take (k+1)).map (ofW ws))=true/\df ((l.take (k+1)).map (ofW ws))<=lim)) :
  dd lim ws (l.drop k) (fd ws l k) (decide (k=0))=[]:=by
 obtain⟨b1,_,_⟩:=Fg (lim:=lim) h hk;refine nP hk ?_;rw[b1];simp only[cY h0,Bool.false_or,Bool.and_eq_false_iff,decide_eq_false_iff_not];by_cases hx:eI ((l.take (k+1)).map (ofW ws))=true
 ·exact .inr fun hc=>hb ⟨hx,hc⟩
 exact .inl (by simpa using hx)
theorem nv {κ:Cx} {L:List Res} {A:bU} {cap:Nat} {l:List Int} {h:Nat} (hr:Rdb κ L A l.length 1 (l.map fun v:Int=>[aH v])) (hh:h<=l.length) (hc:l.length<=cap):Rdb κ L (cz A cap 0 1) h 1 ((l.take h).map fun v:Int=>[aH v]):=by
 have h8:=Rdb.sub hr (cap:=cap) (l:=0) (h:=h) (cN _) hh hc;rw[Nat.sub_zero,List.drop_zero,←List.map_take] at h8;exact h8
theorem ly (A:bU) (cap:Nat) (l:List Int) (lim:Int) (W:bU) (wn wc:Nat) (ws:List Int) (w:World) (j8:Old w A l.length 1 (l.map aC)) (hcl:l.length<=cap) (B4:Old w W wn 1 (ws.map aD)) (hokw:okU ws) (T1:0<=lim/\lim<=18446744073709551615) (hln:l.length<=900):Pur Tryz.prog 267 [.slice A l.length cap,aJ lim,.slice W wn wc] w (aI ((dd lim ws l 0 true).length)):=by
 refine am Tryz.func267 38 (WOK.start [] _) ?_;refine rn [1,3,0,1,3,0,8,14] ?_;refine dP [0,1,2,6] (fun(x:Nat)=>[(7,aI x)]) (fun(x:Nat)=>[]) (fun(x:Nat)=>x<=l.length/\(dd lim ws l 0 true)=l.take x++dd lim ws (l.drop x) (fd ws l x) (decide (x=0))) (fun(x:Nat)=>l.length-x) 0 (by(try dsimp only);exact⟨aK,rfl⟩) ?_;rintro k ⟨hk,C8⟩;replace hk:k<=l.length:=hk;replace C8:(dd lim ws l 0 true)=l.take k++dd lim ws (l.drop k) (fd ws l k) (decide (k=0)):=C8;refine Rw ?_;refine zB rfl (fun h1=>?_) (fun h1=>?_)
 ·have w5:k<l.length:=by have h9:=bW h1;omega
  refine rn [12,7,14,1,2,2,2,43] ?_;refine s_q (xC (h:=k+1) rfl rfl rfl aK) rfl ?_;refine aa (zH rfl (fun w1 a6=>pP W (cz A cap 0 1) (wn) (wc) ((k+1)) (cap) (ws) ((l.take (k+1))) w1 (Rdb.toOld (B4.rdb rfl) a6) (Rdb.toOld (nv (l:=l) (j8.rdb rfl) aK aK) a6) hokw bB) rfl (rn [2,40,40,3,3,0,8,1,2,55,2] ?_));refine zS 25 rfl (fun h2=>?_) (fun h2=>?_)
  ·have s8:k≠0:=by have h9:=bW h2;omega
   refine rn [22,2,22,48,22,2] ?_;refine zS 28 rfl (fun h3=>?_) (fun h3=>?_)
   ·have S6:=iE (lim:=lim) hokw w5 s8 (fun hc=>by have h9:=h3;rw[hc.1] at h9;exact absurd h9 aO);refine rn [21,21,21,22,41,41,0,19,1,2,3,0,11] ?_;refine zD (zL (zD (zL (zD ?_))));exact dD rfl rfl fun w' a5=>⟨by rw[C8,S6];simp;omega,a5.upd⟩
   have hfit:eI ((l.take (k+1)).map (ofW ws))=true:=by simpa using h3
   refine rn [22,2,22,2,22,55,22,42,41,0] ?_;refine zB rfl (fun h4=>?_) (fun h4=>?_)
   ·have S6:=iE (lim:=lim) hokw w5 s8 (fun hc=>by have h9:=bW h4;omega);refine rn [1,2,3,0,11] ?_;refine zD (zL (zD (zL (zD ?_))));exact dD rfl rfl fun w' a5=>⟨by rw[C8,S6];simp;omega,a5.upd⟩
   have I9:k=0\/(eI ((l.take (k+1)).map (ofW ws))=true/\df ((l.take (k+1)).map (ofW ws))<=lim):=.inr ⟨hfit,by have h9:=bX h4;omega⟩;refine rn [12,7,10,2,43,3,9,15] ?_;exact xX (k+1) (by(try dsimp only);exact⟨aK,(by rw[C8,lu hokw w5 I9,←cB w5,cJ];rfl)⟩) aK (by repeat(first|exact trivial|refine⟨rfl,?_⟩)) zG
  have I9:k=0\/(eI ((l.take (k+1)).map (ofW ws))=true/\df ((l.take (k+1)).map (ofW ws))<=lim):=.inl (by have h9:=bX h2;omega);refine rn [21,21,21] ?_;refine il rfl rfl rfl ?_;refine il rfl rfl rfl ?_;refine il rfl rfl rfl (rn [21,42,0,20,12,7,10,2,43,3,9,15] ?_);exact xX (k+1) (by(try dsimp only);exact⟨aK,(by rw[C8,lu hokw w5 I9,←cB w5,cJ];rfl)⟩) aK (by repeat(first|exact trivial|refine⟨rfl,?_⟩)) zG
 have Y0:k=l.length:=by have h9:=bX h1;omega
 refine Ru ?_;refine zE (zE (zQ (Rl ?_)));exact dD rfl rfl fun w' a5=>⟨by rw[C8,Y0,List.drop_length];simp[dd],a5.upd⟩
theorem sa (lim:Int) (ws:List Int):∀(l:List Int) (s:Int) (f:Bool),dd lim ws l s f=l.take (dd lim ws l s f).length
 | [],_,_=>by simp[dd]
 | i :: l,s,f=>by
  have ih:=sa lim ws l (fQ lim s f (ofW ws i) true) (fg lim s f (ofW ws i) true);by_cases h:fT lim s f (ofW ws i) true=true
  ·have e:dd lim ws (i :: l) s f=i :: dd lim ws l (fQ lim s f (ofW ws i) true) (fg lim s f (ofW ws i) true):=by rw[dd,bZ h]
   rw[e,cT,List.take_succ_cons,←ih]
  have e:dd lim ws (i :: l) s f=[]:=by rw[dd,bY h]
  rw[e];rfl
def vi:List (Nat × Int × Int × Int):=[(2,1,1,2),(4,2,2,3),(6,3,3,4),(8,4,4,5),(10,5,5,6),(12,2,6,7),(14,2,7,3),(16,3,7,3),(18,4,7,4),(20,5,7,4)]
def gD (j:Nat):Int × Int × Int:=(vi.lookup j).getD (1,1,2)
def gF (j:Nat):Value × Value:=(.agg [aH (gD j).1,aH (gD j).2.1].toArray,aH (gD j).2.2)
theorem Fa (j:Nat):gD j∈(1,1,2) :: vi.map (·.2):=by
 unfold gD;cases h:vi.lookup j with
 | none=>simp
 | some x =>
  have:=List.lookup_eq_some_iff.1 h;obtain⟨l1,l2,he,_⟩:=this;rw[he];simp
theorem Ei:∀r∈(1,1,2) :: vi.map (·.2),(keyOf Tryz.prog 374 (.agg [aH r.1,aH r.2.1].toArray)).isSome=true:=by
 intro r hr;simp only[vi,cV,List.map_nil,cH,cE,or_false] at hr;rcases hr with rfl|rfl|rfl|rfl|rfl|rfl|rfl|rfl|rfl|rfl|rfl<;>kernel_rfl
theorem kU (j:Nat):Key Tryz.prog 374 (gF j).1:=Option.isSome_iff_exists.1 (Ei _ (Fa j))
theorem FZ:∀i∈[2,4,6,8,10,12,14,16,18,20],∀j∈[2,4,6,8,10,12,14,16,18,20],i≠j->((gD i).1,(gD i).2.1)≠((gD j).1,(gD j).2.1):=by decide
theorem vj:∀i∈[2,4,6,8,10,12,14,16,18,20],∀j∈[2,4,6,8,10,12,14,16,18,20],i≠j->(gF i).1≠(gF j).1:=fun i hi j hj B7 h=>FZ i hi j hj B7 (by
 simp only[gF,Value.agg.injEq] at h;have h2:=congrArg Array.toList h;simp at h2;rw[h2.1,h2.2])
theorem jW (w:World) : au (ι:=Nat) Tryz.prog 273 [] w [] (fun x=>True) (fun x=>.map (some x)) (fun x=>[Res.mp x ([2,4,6,8,10,12,14,16,18,20].map gF)]) (fun x=>[]):=by
 refine am Tryz.func273 13 (WOK.start (fps []) _) ?_;refine SZ ?_;refine dR (L0:=[]) [] an rfl zG (rn [24,1,49,24,3,49,24,5,49,24,7,49,24,9,49,24,11,49,24,13,49,24,15,49,24,17,49,24,19,49] ?_);refine dop 0 rfl (sM rfl fun b1=>?_);refine ua (fuel:=2) (b:=b1) (mt:=371) [2,4,6,8,10,12,14,16,18,20] aO rfl aO gF (by
   intro j hj;simp only[cH,cE,or_false] at hj;rcases hj with rfl|rfl|rfl|rfl|rfl|rfl|rfl|rfl|rfl|rfl<;>exact⟨_,_,_,_,_,_,rfl,rfl,rfl,rfl⟩) (fun j _=>kU j) vj aL aL (fun D=>zG) ?_
 refine dls 23 2097151 (rn [24,21,2,24,22,3,27,7,11] ?_);exact dD rfl rfl fun w' a5=>⟨b1,aQ,by first|rfl|(simp_all;done),zA w' a5⟩
theorem EZ (w:World) : Pur Tryz.prog 227 [aH 2,aH 6] w (.tuple [aH 7,.bool true].toArray):=by
 refine am Tryz.func227 18 (WOK.start [] _) ?_;refine rn [1,3,3,0,1] ?_;refine aa (zJ [] rfl (fun w1 a6 a8=>by have h7:=jW w1;exact h7) rfl ?_);rintro b9 _;refine ii (rn [2,2,49] ?_);refine s_q (wI (b:=b9) (D:=[2,4,6,8,10,12,14,16,18,20].map gF) (v:=aH 7) rfl rfl (kU 12) (fun p hp=>by obtain⟨j,_,rfl⟩:=cG.1 hp;exact kU j) (cG.2 ⟨12,aO,rfl⟩) (fun p hp he=>by
   obtain⟨j,hj,rfl⟩:=cG.1 hp;rcases Classical.em (j=12) with h|h
   · subst h;rfl
   · exact absurd he (vj j hj 12 aO h))) rfl ?_
 refine Rv ?_;exact dE rfl rfl rfl fun w' a5=>⟨aP,a5.upd⟩
theorem oe (w:World) : au (ι:=Nat) Tryz.prog 251 [] w [] (fun x=>True) (fun x=>.slice (some ⟨x,0,none⟩) 3 3) (fun x=>[Res.blk x 354 [Value.func (.func 293) #[] #[],aH 8,.func (.func 294) #[] #[],aH 9,.func (.func 295) #[] #[],aH 3]]) (fun x=>[]):=by
 refine am Tryz.func251 5 (WOK.start (fps []) _) ?_;refine rn [1,3,0,1,49,49,49] ?_;refine aa (bg rfl rfl rfl rfl rfl fun b4=>?_);refine zF (b:=b4) [Value.func (.func 293) #[] #[],aH 8,.func (.func 294) #[] #[],aH 9,.func (.func 295) #[] #[],aH 3] rfl (Rb ?_);exact dD rfl rfl fun w' a5=>⟨b4,aQ,by first|rfl|(simp_all;done),zA w' a5⟩
def V0:V:=⟨0,0,false,0,0,0,0⟩
def tst (s d:V) (c:C):Nat->Bool
 | 0=>decide (s.st=2/\d.st=2)
 | 1 => !s.sl && !d.sl
 | _=>eI [s.bal,d.bal] && decide (df [s.bal,d.bal]<=c.maxb)
def dn (s d:V) (c:C):Int:=if tst s d c 0=false then 8 else if tst s d c 1=false then 9 else if tst s d c 2=false then 3 else 0
theorem Gh (s d:V) (c:C) (w:World) (hs:0<=s.bal/\s.bal<=18446744073709551615) (hd:0<=d.bal/\d.bal<=18446744073709551615):Pur Tryz.prog 293 [s.v,d.v,c.v] w (.bool (tst s d c 0)):=by
 refine am Tryz.func293 14 (WOK.start [] _) ?_;refine Ri ?_;refine aa (aq rfl rfl rfl fun b3=>?_);refine aa (aq rfl rfl rfl fun b4=>?_);refine aa (aq rfl rfl rfl fun b5=>rn [3,0,1,4,5,4,5,49,49] ?_);refine s_q (Fj rfl rfl rfl) rfl (Rb ?_);exact dD rfl rfl fun w' a5=>⟨by first|rfl|(simp[tst];done)|(simp_all[tst];done),a5.upd⟩
theorem Gg (s d:V) (c:C) (w:World) (hs:0<=s.bal/\s.bal<=18446744073709551615) (hd:0<=d.bal/\d.bal<=18446744073709551615):Pur Tryz.prog 294 [s.v,d.v,c.v] w (.bool (tst s d c 1)):=by
 refine am Tryz.func294 15 (WOK.start [] _) ?_;refine Ri ?_;refine aa (aq rfl rfl rfl fun b3=>?_);refine aa (aq rfl rfl rfl fun b4=>?_);refine aa (aq rfl rfl rfl fun b5=>rn [3,0,1,4,5,48,2] ?_);refine zS 10 rfl (fun h1=>?_) (fun h1=>?_)
 ·refine rn [22,4,22,5,22,48,41,3,0,11] ?_;exact dD rfl rfl fun w' a5=>⟨by first|rfl|(simp[tst];done)|(simp_all[tst];done),a5.upd⟩
 refine Sh ?_;exact dD rfl rfl fun w' a5=>⟨by first|rfl|(simp[tst];done)|(simp_all[tst];done),a5.upd⟩
theorem Gf (s d:V) (c:C) (w:World) (hs:0<=s.bal/\s.bal<=18446744073709551615) (hd:0<=d.bal/\d.bal<=18446744073709551615):Pur Tryz.prog 295 [s.v,d.v,c.v] w (.bool (tst s d c 2)):=by
 refine am Tryz.func295 25 (WOK.start [] _) ?_;refine Ri ?_;refine aa (aq rfl rfl rfl fun b3=>?_);refine aa (aq rfl rfl rfl fun b4=>?_);refine aa (aq rfl rfl rfl fun b5=>rn [3,0,1,4,5,4,5] ?_);refine aa (bg rfl rfl rfl rfl rfl fun G4=>?_);refine zF (b:=G4) ((([(s).bal,(d).bal]:List Int).map aD).flatten) rfl ?_;refine aa (zH rfl (fun w1 a6=>vZ (some ⟨G4,0,none⟩) (2) (2) (([(s).bal,(d).bal]:List Int)) w1 (Rdb.toOld (InL.rdb (b:=G4) (els:=(([(s).bal,(d).bal]:List Int)).map aD) rfl aM rfl) a6) (by first|assumption|(intro x hx;simp at hx;first|(rcases hx with rfl|rfl<;>omega)|(rcases hx with rfl|rfl|rfl<;>omega)|(subst hx;omega))) bB) rfl ?_);refine rn [2,40,40,3,3,0,1,2,2] ?_;refine zS 19 rfl (fun h1=>?_) (fun h1=>?_)
 ·refine rn [22,2,22,4,22,5,22,56,41,3,0,11] ?_;exact dD rfl rfl fun w' a5=>⟨by first|rfl|(simp[tst];done)|(simp_all[tst];done),a5.upd⟩
 refine rn [21,21,21,21,42,3,0,11] ?_;exact dD rfl rfl fun w' a5=>⟨by first|rfl|(simp[tst];done)|(simp_all[tst];done),a5.upd⟩
theorem kK (s d:V) (c:C) (w:World) (hs:0<=s.bal/\s.bal<=18446744073709551615) (hd:0<=d.bal/\d.bal<=18446744073709551615):Pur Tryz.prog 180 [s.v,d.v,c.v] w (aH (dn s d c)):=by
 refine am Tryz.func180 25 (WOK.start [] _) ?_;refine Ri ?_;refine aa (aq rfl rfl rfl fun b3=>?_);refine aa (aq rfl rfl rfl fun b4=>?_);refine aa (aq rfl rfl rfl fun b5=>rn [3,0,8,1] ?_);refine aa (zJ [] rfl (fun w1 a6 a8=>by have h7:=oe w1;exact h7) rfl ?_);rintro b9 _;refine ii (SK ?_);refine dP [3,4,5,6,9,10] (fun(x:Nat)=>[(11,aI x)]) (fun(x:Nat)=>[Res.blk b3 52 s.c,Res.blk b4 52 d.c,Res.blk b5 24 c.c,Res.blk b9 354 [Value.func (.func 293) #[] #[],aH 8,.func (.func 294) #[] #[],aH 9,.func (.func 295) #[] #[],aH 3]]) (fun(x:Nat)=>x<=3/\(∀j<x,tst s d c j=true)) (fun(x:Nat)=>3-x) 0 (by(try dsimp only);exact⟨aK,aM⟩) ?_;rintro k ⟨f6,pre⟩;replace f6:k<=3:=f6;replace pre:∀j<k,tst s d c j=true:=pre;refine Rj ?_;refine zB rfl (fun D5=>?_) (fun D5=>?_)
 ·have f8:k<3:=by have h9:=bW D5;omega
  refine Sg ?_;rcases(show k=0\/k=1\/k=2 by omega) with rfl|rfl|rfl
  ·refine rn [10] ?_;refine s_q (zM (i:=0) rfl rfl rfl (InL.rdb (b:=b9) (els:=[[Value.func (.func 293) #[] #[],aH 8],[.func (.func 294) #[] #[],aH 9],[.func (.func 295) #[] #[],aH 3]]) rfl aM rfl) aS) rfl ?_;refine s_q (zU (i:=0) rfl (InL.rdb (b:=b9) (els:=[[Value.func (.func 293) #[] #[],aH 8],[.func (.func 294) #[] #[],aH 9],[.func (.func 295) #[] #[],aH 3]]) rfl aM rfl) rfl rfl) rfl ?_;refine aa (zK rfl fun b8=>rn [33,0,1,4,5,45,45,45] ?_);refine aa (uY rfl rfl (fun w1 a6=>Gh s d c w1 hs hd) rfl (rn [48,0] ?_));refine zB rfl (fun Z4=>?_) (fun Z4=>?_)
   ·refine rn [1,4,5,3,0,11] ?_;refine zL (zD (zD (zL (zD ?_))));exact dD rfl rfl fun w' a5=>⟨by simp_all[dn],a5.upd⟩
   refine RK ?_;exact cr (0+1) (by(try dsimp only);exact⟨aK,(by intro j hj;rcases(show j=0 by omega) with rfl;all_goals first|assumption|(simpa using Z4))⟩)
  ·have p0:=pre 0 aK;refine rn [10] ?_;refine s_q (zM (i:=1) rfl rfl rfl (InL.rdb (b:=b9) (els:=[[Value.func (.func 293) #[] #[],aH 8],[.func (.func 294) #[] #[],aH 9],[.func (.func 295) #[] #[],aH 3]]) rfl aM rfl) aS) rfl ?_;refine s_q (zU (i:=1) rfl (InL.rdb (b:=b9) (els:=[[Value.func (.func 293) #[] #[],aH 8],[.func (.func 294) #[] #[],aH 9],[.func (.func 295) #[] #[],aH 3]]) rfl aM rfl) rfl rfl) rfl ?_;refine aa (zK rfl fun b8=>rn [33,0,1,4,5,45,45,45] ?_);refine aa (uY rfl rfl (fun w1 a6=>Gg s d c w1 hs hd) rfl (rn [48,0] ?_));refine zB rfl (fun hx3=>?_) (fun hx3=>?_)
   ·refine rn [1,4,5,3,0,11] ?_;refine zL (zD (zD (zL (zD ?_))));exact dD rfl rfl fun w' a5=>⟨by simp_all[dn],a5.upd⟩
   refine RK ?_;exact cr (1+1) (by(try dsimp only);exact⟨aK,(by intro j hj;rcases(show j=0\/j=1 by omega) with rfl|rfl;all_goals first|assumption|(simpa using hx3))⟩)
  have p0:=pre 0 aK;have p1:=pre 1 aK;refine rn [10] ?_;refine s_q (zM (i:=2) rfl rfl rfl (InL.rdb (b:=b9) (els:=[[Value.func (.func 293) #[] #[],aH 8],[.func (.func 294) #[] #[],aH 9],[.func (.func 295) #[] #[],aH 3]]) rfl aM rfl) aS) rfl ?_;refine s_q (zU (i:=2) rfl (InL.rdb (b:=b9) (els:=[[Value.func (.func 293) #[] #[],aH 8],[.func (.func 294) #[] #[],aH 9],[.func (.func 295) #[] #[],aH 3]]) rfl aM rfl) rfl rfl) rfl ?_;refine aa (zK rfl fun b8=>rn [33,0,1,4,5,45,45,45] ?_);refine aa (uY rfl rfl (fun w1 a6=>Gf s d c w1 hs hd) rfl (rn [48,0] ?_));refine zB rfl (fun hx4=>?_) (fun hx4=>?_)
  ·refine rn [1,4,5,3,0,11] ?_;refine zL (zD (zD (zL (zD ?_))));exact dD rfl rfl fun w' a5=>⟨by simp_all[dn],a5.upd⟩
  refine RK ?_;exact cr (2+1) (by(try dsimp only);exact⟨aK,(by intro j hj;rcases(show j=0\/j=1\/j=2 by omega) with rfl|rfl|rfl;all_goals first|assumption|(simpa using hx4))⟩)
 obtain rfl:k=3:=by have h9:=bX D5;omega
 have p0:=pre 0 aK;have p1:=pre 1 aK;have p2:=pre 2 aK;refine Ru ?_;refine zE (zE (zQ (So ?_)));exact dD rfl rfl fun w' a5=>⟨by simp_all[dn],a5.upd⟩
theorem ny (s d:V) (c:C) (w:World) (hs:0<=s.bal/\s.bal<=18446744073709551615) (hd:0<=d.bal/\d.bal<=18446744073709551615):Pur Tryz.prog 262 [s.v,d.v,c.v] w (aH (dn s d c)):=by
 refine am Tryz.func262 40 (WOK.start [] _) ?_;refine Ri ?_;refine aa (aq rfl rfl rfl fun b3=>?_);refine aa (aq rfl rfl rfl fun b4=>?_);refine aa (aq rfl rfl rfl fun b5=>rn [3,0,8,1,4,5,51,2] ?_);refine zS 12 rfl (fun h1=>?_) (fun h1=>?_)
 ·refine rn [21,21,21,41,0,19,1,3,0,11,13] ?_;exact dD rfl rfl fun w' a5=>⟨by first|(simp_all[dn,tst];done)|(simp_all[dn,tst];omega),a5.upd⟩
 refine rn [22,4,22,5,22,51,42,0] ?_;refine zB rfl (fun h2=>?_) (fun h2=>?_)
 ·refine Re ?_;exact dD rfl rfl fun w' a5=>⟨by first|(simp_all[dn,tst];done)|(simp_all[dn,tst];omega),a5.upd⟩
 refine rn [12,7,8,1,4,5,2] ?_;refine zS 19 rfl (fun h3=>?_) (fun h3=>?_)
 ·refine Sk ?_;exact dD rfl rfl fun w' a5=>⟨by first|(simp_all[dn,tst];done)|(simp_all[dn,tst];omega),a5.upd⟩
 refine rn [22,4,22,5,42,0] ?_;refine zB rfl (fun h4=>?_) (fun h4=>?_)
 ·refine Re ?_;exact dD rfl rfl fun w' a5=>⟨by first|(simp_all[dn,tst];done)|(simp_all[dn,tst];omega),a5.upd⟩
 refine rn [12,7,1,4,5,4,5] ?_;refine aa (bg rfl rfl rfl rfl rfl fun P0=>?_);refine zF (b:=P0) ((([(s).bal,(d).bal]:List Int).map aD).flatten) rfl ?_;refine aa (zH rfl (fun w1 a6=>tI (some ⟨P0,0,none⟩) (2) (2) (([(s).bal,(d).bal]:List Int)) w1 (Rdb.toOld (InL.rdb (b:=P0) (els:=(([(s).bal,(d).bal]:List Int)).map aD) rfl aM rfl) a6) (by first|assumption|(intro x hx;simp at hx;first|(rcases hx with rfl|rfl<;>omega)|(rcases hx with rfl|rfl|rfl<;>omega)|(subst hx;omega))) bB) rfl ?_);refine Sc ?_;refine zS 34 rfl (fun h5=>?_) (fun h5=>?_)
 ·refine Sp ?_;exact dD rfl rfl fun w' a5=>⟨by first|(simp_all[dn,tst];done)|(simp_all[dn,tst];omega),a5.upd⟩
 refine rn [22,2,22,4,22,5,22,55,42,0] ?_;refine zB rfl (fun h6=>?_) (fun h6=>?_)
 ·refine Re ?_;exact dD rfl rfl fun w' a5=>⟨by first|(simp_all[dn,tst];done)|(simp_all[dn,tst];omega),a5.upd⟩
 refine rn [12,7,1,3,0,11] ?_;exact dD rfl rfl fun w' a5=>⟨by first|(simp_all[dn,tst];done)|(simp_all[dn,tst];omega),a5.upd⟩
def apS (s d:V) (c:C):V:=if dn s d c=0 then { s with bal:=0,st:=7 } else V0
def apD (s d:V) (c:C):V:=if dn s d c=0 then { d with bal:=IntKind.u64.wrap (d.bal+s.bal) } else V0
theorem nN {s d:V} {c:C} (h:dn s d c=0):s.st=2/\d.st=2/\s.sl=false/\d.sl=false/\s.bal+d.bal<=18446744073709551615/\s.bal+d.bal<=c.maxb:=by
 unfold dn at h;split at h
 ·omega
 split at h
 ·omega
 split at h
 ·omega
 rename_i h1 h2 h3;simp only[tst,eI,df,dB,List.sum_nil,Int.add_zero,Bool.and_eq_false_iff,Bool.not_eq_false',decide_eq_false_iff_not,not_or,Decidable.not_not] at h1 h2 h3;obtain⟨h4,h5⟩:=h3;rw[bZ h4] at h5;refine⟨h1.1,h1.2,by simpa using h2.1,by simpa using h2.2,h4,h5⟩
theorem wG (s d:V) (c:C) (w:World) (hs:0<=s.bal/\s.bal<=18446744073709551615) (hd:0<=d.bal/\d.bal<=18446744073709551615):Pur Tryz.prog 233 [s.v,d.v,c.v] w (.tuple [V.v (apS s d c),V.v (apD s d c),aH (dn s d c)].toArray):=by
 refine am Tryz.func233 35 (WOK.start [] _) ?_;refine Ri ?_;refine aa (aq rfl rfl rfl fun b3=>?_);refine aa (aq rfl rfl rfl fun b4=>?_);refine aa (aq rfl rfl rfl fun b5=>?_);refine aa (zK rfl fun b6=>?_);refine aa (zK rfl fun b7=>rn [3,0,8,1,45,45,45] ?_);refine aa (zH rfl (fun w1 a6=>kK _ _ c w1 aN aN) rfl (rn [3,0,1,2,51,0] ?_));refine zB rfl (fun h1=>?_) (fun h1=>?_)
 ·refine Ri ?_;refine s_q (yF (c:=V0.c) rfl rfl) rfl ?_;refine s_q (yF (c:=V0.c) rfl rfl) rfl (rn [2,33,33,3,0,11,13] ?_);exact dI rfl (.cellw rfl rfl) (.cellw rfl rfl) (.tmp rfl) fun w' a5=>⟨by have h0:¬dn s d c=0:=(by simpa using h1);simp[apS,apD,bY h0,V.v],a5.upd⟩
 have h0:dn s d c=0:=by simpa using h1
 have hcs:=nN h0;refine rn [12,7,1,4,5,4,5,54,4] ?_;refine aa (zI rfl rfl rfl rfl rfl rfl rfl (rn [0,1,4] ?_));refine aa (zI rfl rfl rfl rfl rfl rfl rfl (rn [0,1,4,5] ?_));refine ae 28 (v' := aH 2) rfl (by rw[hcs.1]) ?_;refine aa (zH rfl (fun w1 a6=>EZ w1) rfl (rn [2,40,40,4] ?_));refine aa (zI rfl rfl rfl rfl rfl rfl rfl (Sw ?_));refine bn [0,1,2,3] an rfl ?_;refine yJ [0,1] aL aM zG ⟨bu rfl (G.quiet (xT rfl rfl) rfl ?_),bu rfl (G.quiet (xT rfl rfl) rfl ?_),trivial⟩
 ·refine yJ [1,2] aL aM zG ⟨bu rfl (G.quiet (xT rfl rfl) rfl ?_),bu rfl (zT rfl rfl rfl rfl rfl ?_),trivial⟩
  ·refine fJ 2 rfl (zT rfl rfl rfl rfl rfl ?_);refine fJ 3 rfl (zT rfl rfl rfl rfl rfl (rn [24,4,3,28,7,11] ?_));exact dI rfl (.cellw rfl rfl) (.cellw rfl rfl) (.tmp rfl) fun w' a5=>⟨by simp[apS,apD,bZ h0,h0,V.v,V.c,ay],a5.upd⟩
  refine fJ 1 rfl (G.quiet (xT rfl rfl) rfl ?_);refine fJ 3 rfl (zT rfl rfl rfl rfl rfl (rn [24,4,3,28,7,11] ?_));exact dI rfl (.cellw rfl rfl) (.cellw rfl rfl) (.tmp rfl) fun w' a5=>⟨by simp[apS,apD,bZ h0,h0,V.v,V.c,ay],a5.upd⟩
 refine fJ 0 rfl (G.quiet (xT rfl rfl) rfl ?_);refine fJ 2 rfl (zT rfl rfl rfl rfl rfl ?_);refine fJ 3 rfl (zT rfl rfl rfl rfl rfl (rn [24,4,3,28,7,11] ?_));exact dI rfl (.cellw rfl rfl) (.cellw rfl rfl) (.tmp rfl) fun w' a5=>⟨by simp[apS,apD,bZ h0,h0,V.v,V.c,ay],a5.upd⟩
def atV (l:List V) (i:Int):V:=(l[i.toNat]?).getD V0
theorem sU {l:List V} {k:Nat} {i:Int} (hi:i=(k:Int)) (h:k<l.length):atV l i=l[k]:=by
 subst hi;unfold atV;rw[Int.toNat_natCast,List.getElem?_eq_getElem h];rfl
def dN (l:List V) (i j:Int) (c:C):Int:=if i<0\/(l.length:Int)<=i\/j<0\/(l.length:Int)<=j then 7 else if i=j then 12 else dn (atV l i) (atV l j) c
def okV (l:List V):Prop:=∀x∈l,0<=x.bal/\x.bal<=18446744073709551615
theorem py (A:bU) (n cap:Nat) (l:List V) (i j:Int) (c:C) (w:World) (hl:Old w A n 7 (l.map V.c)) (i6:okV l) (hb:n<=1000000):Pur Tryz.prog 117 [.slice A n cap,aH i,aH j,c.v] w (aH (dN l i j c)):=by
 refine am Tryz.func117 39 (WOK.start [] _) ?_;have hn:n=l.length:=by simpa using hl.len
 refine Ri ?_;refine aa (aq rfl rfl rfl fun b7=>rn [3,0,8,1,2,2,49,2,0,14] ?_);refine dP [0,1,2,7,8,13] (fun(x:Nat)=>[(14,aI x)]) (fun(x:Nat)=>[Res.blk b7 24 c.c]) (fun(x:Nat)=>x<=2/\(0<x->0<=i/\i<(l.length:Int))/\(1<x->0<=j/\j<(l.length:Int))) (fun(x:Nat)=>2-x) 0 (by(try dsimp only);exact⟨aK,aK,aK⟩) ?_;rintro k ⟨f6,p0,p1⟩;replace f6:k<=2:=f6;replace p0:0<k->0<=i/\i<(l.length:Int):=p0;replace p1:1<k->0<=j/\j<(l.length:Int):=p1;refine Rj ?_;refine zB rfl (fun D5=>?_) (fun D5=>?_)
 ·have f8:k<2:=by have h9:=bW D5;omega
  refine Sg ?_;rcases(show k=0\/k=1 by omega) with rfl|rfl
  ·refine rn [10] ?_;refine s_q (rW (i:=0) (v:=aH i) rfl rfl rfl aO rfl) rfl (rn [3,0,1,2,46,2] ?_);refine zS 19 rfl (fun Z4=>?_) (fun Z4=>?_)
   ·refine rn [21,21,21,21,41,0,19,1,3,0,11] ?_;refine zL (zD (zD (zL (zD ?_))));exact dD rfl rfl fun w' a5=>⟨by first|(simp_all[dN];done)|(simp_all[dN];omega)|(unfold dN;rw[bZ bE])|(unfold dN;rw[bY aK,bZ bJ])|(unfold dN;rw[bY aK,bY bC,ei,ej]),a5.upd⟩
   refine RU ?_;refine zB rfl (fun hx3=>?_) (fun hx3=>?_)
   ·refine RN ?_;refine zL (zD (zD (zL (zD ?_))));exact dD rfl rfl fun w' a5=>⟨by first|(simp_all[dN];done)|(simp_all[dN];omega)|(unfold dN;rw[bZ bE])|(unfold dN;rw[bY aK,bZ bJ])|(unfold dN;rw[bY aK,bY bC,ei,ej]),a5.upd⟩
   refine RK ?_;exact cr (0+1) (by(try dsimp only);exact⟨aK,(by simp at Z4 hx3;omega),(by simp at Z4 hx3;omega)⟩)
  have q0:=p0 aK;refine rn [10] ?_;refine s_q (rW (i:=1) (v:=aH j) rfl rfl rfl aO rfl) rfl (rn [3,0,1,2,46,2] ?_);refine zS 19 rfl (fun hx4=>?_) (fun hx4=>?_)
  ·refine rn [21,21,21,21,41,0,19,1,3,0,11] ?_;refine zL (zD (zD (zL (zD ?_))));exact dD rfl rfl fun w' a5=>⟨by first|(simp_all[dN];done)|(simp_all[dN];omega)|(unfold dN;rw[bZ bE])|(unfold dN;rw[bY aK,bZ bJ])|(unfold dN;rw[bY aK,bY bC,ei,ej]),a5.upd⟩
  refine RU ?_;refine zB rfl (fun hx5=>?_) (fun hx5=>?_)
  ·refine RN ?_;refine zL (zD (zD (zL (zD ?_))));exact dD rfl rfl fun w' a5=>⟨by first|(simp_all[dN];done)|(simp_all[dN];omega)|(unfold dN;rw[bZ bE])|(unfold dN;rw[bY aK,bZ bJ])|(unfold dN;rw[bY aK,bY bC,ei,ej]),a5.upd⟩
  refine RK ?_;exact cr (1+1) (by(try dsimp only);exact⟨aK,(by simp at hx4 hx5;omega),(by simp at hx4 hx5;omega)⟩)
 obtain rfl:k=2:=by have h9:=bX D5;omega
 have q0:=p0 aK;have q1:=p1 aK;obtain⟨ni,z8⟩:∃k:Nat,i=k:=⟨i.toNat,aK⟩
 obtain⟨nj,O0⟩:∃k:Nat,j=k:=⟨j.toNat,aK⟩
 have hi:ni<l.length:=by omega
 have hj:nj<l.length:=by omega
 have ei:=sU z8 hi;have ej:=sU O0 hj;have bi:=i6 _ (cC hi);have bj:=i6 _ (cC hj);refine Ru ?_;refine zE (zE (zQ (rn [7,8,1,2,2,44,0] ?_)));refine zB rfl (fun hx6=>?_) (fun hx6=>?_)
 ·refine Re ?_;exact dD rfl rfl fun w' a5=>⟨by first|(simp_all[dN];done)|(simp_all[dN];omega)|(unfold dN;rw[bZ bE])|(unfold dN;rw[bY aK,bZ bJ])|(unfold dN;rw[bY aK,bY bC,ei,ej]),a5.upd⟩
 refine RM ?_;refine bn [] an rfl (RV ?_);refine ae 30 (v' := aI ni) rfl (by rw[z8]) ?_;refine dq 2 rfl (zM (i:=ni) rfl rfl rfl (hl.rdb rfl) aS) ?_;refine dq 3 rfl (zU (i:=ni) rfl (hl.rdb rfl) (zP bD) rfl) (SU ?_);refine ae 34 (v' := aI nj) rfl (by rw[O0]) ?_;refine dq 6 rfl (zM (i:=nj) rfl rfl rfl (hl.rdb rfl) aS) ?_;refine dq 7 rfl (zU (i:=nj) rfl (hl.rdb rfl) (zP bD) rfl) (rn [23,8,45] ?_);refine dop 9 rfl (zH rfl (fun w1 a6=>kK _ _ c w1 bi bj) rfl (rn [23,10,3,27,7,11] ?_));exact dD rfl rfl fun w' a5=>⟨by first|(simp_all[dN];done)|(simp_all[dN];omega)|(unfold dN;rw[bZ bE])|(unfold dN;rw[bY aK,bZ bJ])|(unfold dN;rw[bY aK,bY bC,ei,ej]),a5.upd⟩
theorem lz (A:bU) (n cap:Nat) (l:List V) (i j:Int) (c:C) (w:World) (hl:Old w A n 7 (l.map V.c)) (i6:okV l) (hb:n<=1000000):Pur Tryz.prog 197 [.slice A n cap,aH i,aH j,c.v] w (aH (dN l i j c)):=by
 refine am Tryz.func197 40 (WOK.start [] _) ?_;have hn:n=l.length:=by simpa using hl.len
 refine Ri ?_;refine aa (aq rfl rfl rfl fun b7=>rn [3,0,8,1,2,46,2] ?_);refine zS 11 rfl (fun h1=>?_) (fun h1=>?_)
 ·refine rn [21,21,41,2,21,21,21,21,41,2,21,21,21,21,41,0,19,1,3,0,11,13] ?_;exact dD rfl rfl fun w' a5=>⟨by first|(simp_all[dN];done)|(unfold dN;rw[bZ bE])|(unfold dN;rw[bY aK,bY (bX h5),ei,ej])|(unfold dN;rw[bY aK,bZ (bW h5)]),a5.upd⟩
 refine rn [22,2,22,46,42,2] ?_;refine zS 15 rfl (fun h2=>?_) (fun h2=>?_)
 ·refine rn [21,21,21,21,41,2,21,21,21,21,41,0,19,1,3,0,11,13] ?_;exact dD rfl rfl fun w' a5=>⟨by first|(simp_all[dN];done)|(unfold dN;rw[bZ bE])|(unfold dN;rw[bY aK,bY (bX h5),ei,ej])|(unfold dN;rw[bY aK,bZ (bW h5)]),a5.upd⟩
 refine rn [22,2,22,2,22,47,22,53,42,2] ?_;refine zS 21 rfl (fun h3=>?_) (fun h3=>?_)
 ·refine Sp ?_;exact dD rfl rfl fun w' a5=>⟨by first|(simp_all[dN];done)|(unfold dN;rw[bZ bE])|(unfold dN;rw[bY aK,bY (bX h5),ei,ej])|(unfold dN;rw[bY aK,bZ (bW h5)]),a5.upd⟩
 refine RU ?_;refine zB rfl (fun h4=>?_) (fun h4=>?_)
 ·refine Re ?_;exact dD rfl rfl fun w' a5=>⟨by first|(simp_all[dN];done)|(unfold dN;rw[bZ bE])|(unfold dN;rw[bY aK,bY (bX h5),ei,ej])|(unfold dN;rw[bY aK,bZ (bW h5)]),a5.upd⟩
 refine rn [12,7,8,1,2,2,44,0] ?_;refine zB rfl (fun h5=>?_) (fun h5=>?_)
 ·refine Re ?_;exact dD rfl rfl fun w' a5=>⟨by first|(simp_all[dN];done)|(unfold dN;rw[bZ bE])|(unfold dN;rw[bY aK,bY (bX h5),ei,ej])|(unfold dN;rw[bY aK,bZ (bW h5)]),a5.upd⟩
 simp at h1 h2 h3 h4;obtain⟨ni,z8⟩:∃k:Nat,i=k:=⟨i.toNat,aK⟩
 obtain⟨nj,O0⟩:∃k:Nat,j=k:=⟨j.toNat,aK⟩
 have hi:ni<l.length:=by omega
 have hj:nj<l.length:=by omega
 have ei:=sU z8 hi;have ej:=sU O0 hj;have bi:=i6 _ (cC hi);have bj:=i6 _ (cC hj);refine RM ?_;refine bn [] an rfl (RV ?_);refine ae 31 (v' := aI ni) rfl (by rw[z8]) ?_;refine dq 2 rfl (zM (i:=ni) rfl rfl rfl (hl.rdb rfl) aS) ?_;refine dq 3 rfl (zU (i:=ni) rfl (hl.rdb rfl) (zP bD) rfl) (SU ?_);refine ae 35 (v' := aI nj) rfl (by rw[O0]) ?_;refine dq 6 rfl (zM (i:=nj) rfl rfl rfl (hl.rdb rfl) aS) ?_;refine dq 7 rfl (zU (i:=nj) rfl (hl.rdb rfl) (zP bD) rfl) (rn [23,8,45] ?_);refine dop 9 rfl (zH rfl (fun w1 a6=>ny _ _ c w1 bi bj) rfl (rn [23,10,3,27,7,11] ?_));exact dD rfl rfl fun w' a5=>⟨by first|(simp_all[dN];done)|(unfold dN;rw[bZ bE])|(unfold dN;rw[bY aK,bY (bX h5),ei,ej])|(unfold dN;rw[bY aK,bZ (bW h5)]),a5.upd⟩
theorem lK (A:bU) (n cap:Nat) (l:List V) (w:World) (hrd:Rd w [] A n 7 (l.map V.c)) (j5:n<=1000000):au (ι:=(bU × Nat)) Tryz.prog 91 [.slice A n cap] w [] (fun x=>True) (fun x=>.slice x.1 l.length x.2) (fun x=>[Res.row x.1 l.length x.2 52 7 (l.map V.c)]) (fun x=>[]):=by
 refine am Tryz.func91 8 (WOK.start (fps []) _) ?_;have hn:n=l.length:=by have:=hrd.old.len;simpa using this
 refine rn [1,3,0,8,1,2] ?_;refine s_q (EI rfl rfl) rfl (rn [0] ?_);refine zB rfl (fun h1=>?_) (fun h1=>?_)
 ·refine Re ?_;have h0:A=none:=by simpa using h1
  have hl:l=[]:=by
    rcases Nat.eq_zero_or_pos n with h2|h2
    · exact List.eq_nil_of_length_eq_zero (by have:=hrd.old.len;simp at this;omega)
    · have:=(hrd.old.at_ h2).1;rw[h0] at this;simp at this
  subst hl;refine zY none 52 7 (([]:List V).map V.c) rfl ?_;exact dD rfl rfl fun w' a5=>⟨((none:bU),(0:Nat)),aQ,rfl,by have h9:=zG (L' := [Res.row none 0 0 52 7 (([]:List V).map V.c)]) w' a5;exact h9⟩
 refine rn [12,7,1] ?_;refine aa (bg rfl rfl rfl rfl rfl fun b5=>?_);refine xL (t:=5) (T:=52) (k:=7) rfl fun A5 cap5 hc5=>?_;refine zC (A:=A5) (([]:List V).map V.c) rfl (SD ?_);refine aa (zW (A:=A5) (els:=(([]:List V)).map V.c) (news:=((l).map V.c)) rfl rfl hrd.rdb (zZ (c:=V.c) (by intro x;simp[V.c,Value.oneCell']) _) aR rfl fun A7 t9=>⟨_,inferInstance,?_⟩);refine zC (A:=A7) ((l).map V.c) (by first|rfl|exact cA.symm|(simp;done)) ?_;refine zR (A:=A7) (n) aM ?_;refine ae 7 (v' := .slice A7 (n) t9) rfl aM (Rb ?_);exact dD rfl rfl fun w' a5=>⟨(A7,t9),aQ,by rw[←hn],by rw[←hn];exact zA w' a5⟩
theorem Fk (A:bU) (n cap:Nat) (l:List V) (i:Nat) (y:V) (w:World) (hrd:Rd w [] A n 7 (l.map V.c)) (j5:n<=1000000) (hi:i<l.length):au (ι:=(bU × Nat)) Tryz.prog 192 [.slice A n cap,aI i,y.v] w [] (fun x=>True) (fun x=>.slice x.1 (l.set i y).length x.2) (fun x=>[Res.row x.1 (l.set i y).length x.2 52 7 ((l.set i y).map V.c)]) (fun x=>[]):=by
 refine am Tryz.func192 16 (WOK.start (fps []) _) ?_;have hn:n=l.length:=by have:=hrd.old.len;simpa using this
 refine Ri ?_;refine aa (aq (c:=V.c y) rfl rfl rfl fun b5=>rn [3,0,1] ?_);refine aa (bg rfl rfl rfl rfl rfl fun b8=>?_);refine xL (t:=8) (T:=52) (k:=7) rfl fun A8 D7 H8=>?_;refine zC (A:=A8) (([]:List V).map V.c) rfl (SD ?_);refine aa (zW (A:=A8) (els:=(([]:List V)).map V.c) (news:=((l).map V.c)) rfl rfl hrd.rdb (zZ (c:=V.c) (by intro x;simp[V.c,Value.oneCell']) _) aR rfl fun A10 C1=>⟨_,inferInstance,?_⟩);refine zC (A:=A10) ((l).map V.c) (by first|rfl|exact cA.symm|(simp;done)) ?_;refine zR (A:=A10) (n) aM ?_;refine ae 10 (v' := .slice A10 (n) C1) rfl aM (rn [3,0,1,2,2,45] ?_);refine s_q (zM (i:=i) rfl rfl rfl (ird (A:=A10)) aS) rfl ?_;refine aa (yD (A:=A10) (i:=i) (o:=0) (cs' := V.c (y)) rfl rfl rfl rfl rfl (zP aT) aY rfl (yH rfl) ?_);refine zC (A:=A10) ((l.set i y).map V.c) (by simp only[dA]) (SJ ?_);exact dD rfl rfl fun w' a5=>⟨(A10,C1),aQ,by simp[hn],by rw[List.length_set,←hn];exact zA w' a5⟩
def atN (l:List V) (i:Nat):V:=(l[i]?).getD V0
theorem sV {l:List V} {i:Nat} (h:i<l.length):atN l i=l[i]:=by unfold atN;rw[List.getElem?_eq_getElem h];rfl
def mvN (l:List V) (i j:Nat):List V:=(l.set i { atN l i with bal:=0,st:=7 }).set j { atN l j with bal:=IntKind.u64.wrap ((atN l j).bal+(atN l i).bal) }
theorem ql (l:List V) (i j:Nat):(mvN l i j).length=l.length:=by simp[mvN]
def iX (l:List V) (p:PP) (c:C):Bool:=decide (dN l p.a p.b c=0)
def dy (c:C) (s:List V × List Bool) (p:PP):List V × List Bool:=(if iX s.1 p c then mvN s.1 p.a.toNat p.b.toNat else s.1,s.2++[iX s.1 p c])
def runM (c:C) (l:List V) (q:List PP):List V × List Bool:=q.foldl (dy c) (l,[])
theorem wF {c:C} {l:List V} {q:List PP} {k:Nat} (h:k<q.length):runM c l (q.take (k+1))=dy c (runM c l (q.take k)) q[k]:=by
 unfold runM;rw[←cB h,List.foldl_append];rfl
theorem kF (c:C):∀(q:List PP) (s:List V × List Bool),(q.foldl (dy c) s).1.length=s.1.length/\(q.foldl (dy c) s).2.length=s.2.length+q.length
 | [],_=>by simp
 | p :: q,s=>by
  rw[cR];obtain⟨h1,h2⟩:=kF c q (dy c s p);rw[h1,h2];refine⟨?_,by simp[dy];omega⟩;unfold dy;dsimp only;split
  ·exact ql _ _ _
  rfl
theorem yG (c:C) (l:List V) (q:List PP):(runM c l q).1.length=l.length/\(runM c l q).2.length=q.length:=by
 have:=kF c q (l,[]);simpa[runM] using this
theorem nr {l:List V} {i j:Int} {c:C} (h:dN l i j c=0):0<=i/\i<(l.length:Int)/\0<=j/\j<(l.length:Int)/\i≠j/\dn (atV l i) (atV l j) c=0:=by
 unfold dN at h;split at h
 ·omega
 split at h
 ·omega
 exact⟨aK,aK,aK,aK,by assumption,h⟩
theorem EX {l:List V} (h:okV l) {i j:Nat}:okV (mvN l i j):=by
 intro x hx;unfold mvN at hx;rcases List.mem_or_eq_of_mem_set hx with hx|hx
 ·rcases List.mem_or_eq_of_mem_set hx with hx|hx
  ·exact h x hx
  subst hx;simp
 subst hx;show 0<=IntKind.u64.wrap _/\IntKind.u64.wrap _<=_;rw[cF];omega
theorem mV (c:C):∀(q:List PP) (s:List V × List Bool),okV s.1->okV (q.foldl (dy c) s).1
 | [],_,h=>h
 | p :: q,s,h=>by
  rw[cR];refine mV c q _ ?_;unfold dy;dsimp only;split
  ·exact EX h
  exact h
theorem qj {c:C} {l:List V} (q:List PP) (h:okV l):okV (runM c l q).1:=mV c q (l,[]) h
theorem Bd {c:C} {s:List V} {p:PP} {ni nj:Nat} (ha:p.a=(ni:Int)) (hb:p.b=(nj:Int)) (hi:ni<s.length) (hj:nj<s.length) (h0:dn s[ni] s[nj] c=0):(s.set ni (apS s[ni] s[nj] c)).set nj (apD s[ni] s[nj] c)=mvN s p.a.toNat p.b.toNat:=by
 rw[ha,hb];simp only[Int.toNat_natCast,mvN,sV hi,sV hj,apS,apD,h0,if_true]
theorem zn (A:bU) (n cap:Nat) (l:List V) (i j:Nat) (w:World) (hl:Rd w [] A n 7 (l.map V.c)) (hb:n<=1000000) (hi:i<l.length) (hj:j<l.length):au (ι:=(bU × Nat)) Tryz.prog 307 [.slice A n cap,aI i,aI j] w [] (fun x=>True) (fun x=>.slice x.1 (mvN l i j).length x.2) (fun x=>[Res.row x.1 (mvN l i j).length x.2 52 7 ((mvN l i j).map V.c)]) (fun x=>[]):=by
 refine am Tryz.func307 32 (WOK.start (fps []) _) ?_;have hn:n=l.length:=by have:=hl.old.len;simpa using this
 refine Sf ?_;refine s_q (zM (i:=i) rfl rfl rfl hl.rdb aS) rfl ?_;refine s_q (zU (i:=i) rfl hl.rdb (zP bD) rfl) rfl ?_;refine aa (zK rfl fun b7=>rn [33,0,1,2,2] ?_);refine s_q (zM (i:=j) rfl rfl rfl hl.rdb aS) rfl ?_;refine s_q (zU (i:=j) rfl hl.rdb (zP bD) rfl) rfl ?_;refine aa (zK rfl fun b8=>rn [33,0,1,4,5,4,5,54,4] ?_);refine aa (zI rfl rfl rfl rfl rfl rfl rfl ?_);refine zF (b:=b8) (V.c { l[j] with bal:=IntKind.u64.wrap ((l[j]).bal+(l[i]).bal) }) (by simp[V.c,ay]) (rn [0,1,4] ?_);refine aa (zI rfl rfl rfl rfl rfl rfl rfl (rn [0,1,4] ?_));refine aa (zI rfl rfl rfl rfl rfl rfl rfl ?_);refine zF (b:=b7) (V.c { l[i] with bal:=0,st:=7 }) (by simp[V.c,ay]) (Sw ?_);refine bn [] an rfl (rn [23,0,2,23,1,2,23,2,45,23,4,2,23,5,45] ?_);refine dop 3 rfl (zJ [] rfl (fun w1 a6 a8=>by have h7:=Fk A (n) (cap) (l) (i) ({ l[i] with bal:=0,st:=7 }) w1 (Rd.ofRd a6 hl aK) aZ bI;exact h7) rfl ?_);rintro⟨A28,cap28⟩ _;refine ii ?_;refine dop 6 rfl (zJ [] rfl (fun w1 a6 a8=>by have h7:=Fk A28 (((l).set i ({ l[i] with bal:=0,st:=7 })).length) (cap28) (((l).set i ({ l[i] with bal:=0,st:=7 }))) (j) ({ l[j] with bal:=IntKind.u64.wrap ((l[j]).bal+(l[i]).bal) }) w1 (Rd.ofRow (A:=A28) a6) aZ bI;exact h7) rfl ?_);rintro⟨A31,cap31⟩ _;refine ii (rn [23,7,3,27,7,11] ?_);have em:(l.set i { l[i] with bal:=0,st:=7 }).set j { l[j] with bal:=IntKind.u64.wrap ((l[j]).bal+(l[i]).bal) }=mvN l i j:=by simp only[mvN,sV hi,sV hj]
 rw[em];exact dD rfl rfl fun w' a5=>⟨(A31,cap31),aQ,by first|rfl|(simp_all;done),zA w' a5⟩
end Go.Proofs.YtdddiilocbbkkaaGreat
