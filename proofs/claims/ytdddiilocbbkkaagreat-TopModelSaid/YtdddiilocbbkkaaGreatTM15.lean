/- Part 15 of the proof of TopModel. No condition. -/
import Derived.Test.YtdddiilocbbkkaaGreatTM14
set_option linter.unusedVariables false
set_option linter.unusedSimpArgs false
namespace Go.Proofs.YtdddiilocbbkkaaGreat
open Go.RowKit Go.Eg
set_option maxHeartbeats 4000000
set_option synthInstance.maxSize 3000
set_option maxRecDepth 100000
theorem HP:∀(a b:Nat),a<8->b<8->(keyOf Tryz.prog 374 (.agg [aH (a:Int),aH (b:Int)].toArray)).isSome=true:=by
 intro a b ha hb;rcases(show a=0\/a=1\/a=2\/a=3\/a=4\/a=5\/a=6\/a=7 by omega) with rfl|rfl|rfl|rfl|rfl|rfl|rfl|rfl <;>
 rcases(show b=0\/b=1\/b=2\/b=3\/b=4\/b=5\/b=6\/b=7 by omega) with rfl|rfl|rfl|rfl|rfl|rfl|rfl|rfl<;>kernel_rfl
def mZ:List Nat:=[2,4,6,8,10,12,14,16,18,20]
theorem CM:∀a:Nat,a<8->∀b:Nat,b<8->((∃j∈mZ,gD j=((a:Int),(b:Int),nxt a b))/\(∀j∈mZ,(gD j).1=(a:Int)->(gD j).2.1=(b:Int)->(gD j).2.2=nxt a b)/\nxt a b≠0)\/((∀j∈mZ,¬((gD j).1=(a:Int)/\(gD j).2.1=(b:Int)))/\nxt a b=0):=by decide +kernel
theorem nR {a b c d:Int} (h:Value.agg [aH a,aH b].toArray=.agg [aH c,aH d].toArray):a=c/\b=d:=by
 simpa using h
theorem zh (a b:Nat) (ha:a<8) (hb:b<8):((Value.agg [aH (a:Int),aH (b:Int)].toArray,aH (nxt a b))∈mZ.map gF/\(∀p∈mZ.map gF,p.1=.agg [aH (a:Int),aH (b:Int)].toArray->p.2=aH (nxt a b))/\decide (nxt a b≠0)=true) \/
  ((∀p∈mZ.map gF,p.1 ≠ .agg [aH (a:Int),aH (b:Int)].toArray)/\aH (nxt a b)=aH 0/\decide (nxt a b≠0)=false):=by
 rcases CM a ha b hb with⟨⟨j,hj,h1⟩,h2,h3⟩|⟨h1,h2⟩
 ·refine .inl ⟨cG.2 ⟨j,hj,by simp only[gF,h1]⟩,fun p hp he=>?_,cX h3⟩;obtain⟨i,hi,rfl⟩:=cG.1 hp;obtain⟨h4,h5⟩:=nR he;simp only[gF];rw[h2 i hi h4 h5]
 refine .inr ⟨fun p hp he=>?_,by rw[h2],by simp[h2]⟩;obtain⟨i,hi,rfl⟩:=cG.1 hp;exact h1 i hi (nR he)
theorem zi:∀p∈mZ.map gF,Key Tryz.prog 374 p.1:=fun p hp=>by obtain⟨j,_,rfl⟩:=cG.1 hp;exact kU j
theorem ma (a b:Nat) (w:World) (ha:a<8) (hb:b<8):Pur Tryz.prog 227 [aH (a:Int),aH (b:Int)] w (.tuple [aH (nxt a b),.bool (decide (nxt a b≠0))].toArray):=by
 refine am Tryz.func227 18 (WOK.start [] _) ?_;refine rn [1,3,3,0,1] ?_;refine aa (zJ [] rfl (fun w1 a6 a8=>by have h7:=jW w1;exact h7) rfl ?_);rintro b9 _;refine ii (rn [2,2,49] ?_);refine s_q (yo (b:=b9) (D:=mZ.map gF) (v:=aH (nxt a b)) (c:=decide (nxt a b≠0)) rfl rfl (Option.isSome_iff_exists.1 (HP a b ha hb)) zi (z:=aH 0) (fun _=>rfl) (zh a b ha hb)) rfl (Rv ?_);exact dE rfl rfl rfl fun w' a5=>⟨aP,a5.upd⟩
def ko (l:List Int):Int:=l.tail.foldl max (l.head?.getD 0)
theorem to {l:List Int} {k:Nat} (hk:k<l.length) (h0:0<k):max (ko (l.take k)) l[k]=ko (l.take (k+1)):=by
 cases l with
 | nil=>simp at hk
 | cons x l =>
  obtain⟨k,rfl⟩:∃q,k=q+1:=⟨k-1,aK⟩
  have hk' : k<l.length:=by simpa using hk
  simp only[ko,List.take_succ_cons,List.tail_cons,List.head?_cons,Option.getD_some,List.getElem_cons_succ];rw[←cB hk',List.foldl_append];rfl
theorem vw (A:bU) (n cap:Nat) (l:List Int) (w:World) (ha:Old w A n 1 (l.map aC)) (h1:1<=n) (hb:n<=1000):Pur Tryz.prog 292 [.slice A n cap] w (aH (ko l)):=by
 refine am Tryz.func292 25 (WOK.start [] _) ?_;have hn:n=l.length:=by simpa using ha.len
 have h0:0<l.length:=by omega
 refine rn [1,3,0,8,1,2,47,46,0] ?_;refine zB rfl (fun h1=>?_) (fun h1=>?_)
 ·exfalso;have h9:=bW h1;omega
 refine Sx ?_;refine s_q (zM (i:=0) rfl rfl rfl (ha.rdb rfl) aK) rfl ?_;refine s_q (zX (i:=0) (o:=0) rfl (ha.rdb rfl) (zP h0) rfl rfl) rfl (rn [3,0,8,1,3,0,14] ?_);refine ae 3 (v' := aH (ko (l.take 1))) rfl (by cases l with|nil=>simp at h0|cons x r=>rfl) ?_;refine dP [0,2] (fun(x:Nat)=>[(3,aH (ko (l.take x))),(4,aI x)]) (fun(x:Nat)=>[]) (fun(x:Nat)=>1<=x/\x<=l.length) (fun(x:Nat)=>l.length-x) 1 (by(try dsimp only);exact⟨aK,aK⟩) ?_;rintro k ⟨h1k,hkn⟩;replace h1k:1<=k:=h1k;replace hkn:k<=l.length:=hkn;refine Rw ?_;refine zB rfl (fun h2=>?_) (fun h2=>?_)
 ·have f8:k<l.length:=by have h9:=bW h2;omega
  refine rn [12,7,8,14,10,2,2,2] ?_;refine s_q (zM (i:=k) rfl rfl rfl (ha.rdb rfl) aS) rfl ?_;refine s_q (zX (i:=k) (o:=0) rfl (ha.rdb rfl) (zP aK) rfl rfl) rfl (rn [59] ?_);refine ae 23 (v' := aH (ko (l.take (k+1)))) rfl (by rw[to f8 aK]) (Rt ?_);exact cr (k+1) (by(try dsimp only);exact⟨aK,aK⟩)
 obtain rfl:k=l.length:=by have h9:=bX h2;omega
 refine Ru ?_;refine zE (zE (zQ (Rl ?_)));exact dD rfl rfl fun w' a5=>⟨by rw[cI],a5.upd⟩
theorem Ak (A:bU) (n cap:Nat) (l:List Int) (w:World) (ha:Old w A n 1 (l.map aC)) (h1:1<=n) (hb:n<=1000):Pur Tryz.prog 250 [.slice A n cap] w (aH (ko l)):=by
 refine am Tryz.func250 8 (WOK.start [] _) ?_;have hn:n=l.length:=by simpa using ha.len
 have h0:0<l.length:=by omega
 refine rn [1,3,0,8,1,2,47,44,0] ?_;refine zB rfl (fun h1=>?_) (fun h1=>?_)
 ·exfalso;have h9:=bW h1;omega
 refine Sx ?_;refine aa (zH rfl (fun w1 a6=>vw A n cap l w1 (Rdb.toOld (ha.rdb rfl) a6) aK aK) rfl (Rb ?_));exact dD rfl rfl fun w' a5=>⟨aP,a5.upd⟩
def acR (e:Int) (v:V):V × Int:=if eN [e]=false then(v,10) else({ v with rq:=e },0)
def evR (e:Nat) (v:V):V × Int:=if nxt v.st (e:Int)=0 then(v,8) else({ v with st:=nxt v.st (e:Int) },0)
def dlR (e d:Int) (v:V):V × Int:=if eN [e,d]=false then(v,10) else({ v with wd:=max v.wd (eh [e,d]) },0)
def asR (e:Int) (v:V):V × Int:=if v.st≠3\/v.ex≠-1 then(v,8) else({ v with ex:=e },0)
def mkR (e:Int) (v:V):V × Int:=if v.sl=true then(v,9) else({ v with sl:=true,rq:=if v.st=2 then e else v.rq,dl:=-1 },0)
def buR (c:C) (v:V):V × Int:=({ v with bal:=IntKind.u64.wrap (v.bal-eM v.bal c) },eM v.bal c)
def duR (e:Int) (v:V):V × Int:=if e<v.wd then(v,8) else({ v with bal:=0 },0)
theorem BQ (b q:Nat) (v:V) (e:Int) (w:World) (hw:W0 [Res.blk b 52 (V.c v),Res.blk q 3 [aH (e)]] w) (he:I64 e):au (ι:=Unit) Tryz.prog 243 [aG b,aG q] w [Res.blk b 52 (V.c v),Res.blk q 3 [aH (e)]] (fun x=>True) (fun x=>.int .i64 (acR e v).2) (fun x=>[]) (fun x=>[Res.blk b 52 (V.c (acR e v).1),Res.blk q 3 [aH (e)]]):=by
 refine am Tryz.func243 17 hw ?_;refine rn [1,3,0,8,1,5] ?_;refine aa (zN [] rfl (fun w1 a6 a8=>by exact pB (e) none 0 0 ([]:List Int) w1 he Rd.zero aM aK) rfl ?_);refine rn [2,40,40,3,3,0,1,2,48,0] ?_;refine zB rfl (fun h1=>?_) (fun h1=>?_)
 ·have hR:acR e v=(v,10):=by have h9:eN [e]=false:=(by simpa using h1);unfold acR;rw[bZ h9]
  refine Re ?_;exact dD rfl rfl fun w' a5=>⟨(),aQ,by rw[hR],by rw[hR];exact zA w' a5⟩
 have hR:acR e v=({ v with rq:=e },0):=by have h9:eN [e]=true:=(by simpa using h1);unfold acR;rw[bY (by rw[h9];simp)]
 refine rn [12,7,1,2,5,6,4] ?_;refine aa (zI rfl rfl rfl rfl rfl rfl rfl ?_);refine zF (b:=b) (V.c { v with rq:=e }) (by simp[ay,V.c]) (RA ?_);exact dD rfl rfl fun w' a5=>⟨(),aQ,by rw[hR],by rw[hR];exact zA w' a5⟩
theorem lF (b q:Nat) (v:V) (e:Nat) (w:World) (hw:W0 [Res.blk b 52 (V.c v),Res.blk q 3 [aH ((e:Int))]] w) (he:e<8) (hs:0<=v.st/\v.st<=7):au (ι:=Unit) Tryz.prog 248 [aG b,aG q] w [Res.blk b 52 (V.c v),Res.blk q 3 [aH ((e:Int))]] (fun x=>True) (fun x=>.int .i64 (evR e v).2) (fun x=>[]) (fun x=>[Res.blk b 52 (V.c (evR e v).1),Res.blk q 3 [aH ((e:Int))]]):=by
 refine am Tryz.func248 21 hw ?_;refine SZ ?_;refine bn [] an rfl (rn [23,0,2,23,1,6,23,2,4,23,3,5,23,4,5] ?_);refine dop 5 rfl (zH rfl (fun w1 a6=>by have h7:=ma (v.st).toNat ((e:Int)).toNat w1 aK aK;rw[Int.toNat_of_nonneg (show 0<=v.st by omega),Int.toNat_of_nonneg (show 0<=(e:Int) by omega)] at h7;exact h7) rfl ?_);refine rn [23,6,2,23,7,40,23,8,40,23,9,3,23,10,3,27,7,8,1,2,48,0] ?_;refine zB rfl (fun h1=>?_) (fun h1=>?_)
 ·have hR:evR e v=(v,8):=by have h9:nxt v.st (e:Int)=0:=(by simpa using h1);unfold evR;rw[bZ h9]
  refine Re ?_;exact dD rfl rfl fun w' a5=>⟨(),aQ,by rw[hR],by rw[hR];exact zA w' a5⟩
 have hR:evR e v=({ v with st:=nxt v.st (e:Int) },0):=by have h9:¬nxt v.st (e:Int)=0:=(by simpa using h1);unfold evR;rw[bY h9]
 refine rn [12,7,1,2,2,6,4] ?_;refine aa (zI rfl rfl rfl rfl rfl rfl rfl ?_);refine zF (b:=b) (V.c { v with st:=nxt v.st (e:Int) }) (by simp[ay,V.c]) (RA ?_);exact dD rfl rfl fun w' a5=>⟨(),aQ,by rw[hR],by rw[hR];exact zA w' a5⟩
theorem nK (b q q2:Nat) (v:V) (e d:Int) (w:World) (hw:W0 [Res.blk b 52 (V.c v),Res.blk q 3 [aH (e)],Res.blk q2 3 [aH (d)]] w) (he:I64 e) (hd:I64 d):au (ι:=Unit) Tryz.prog 249 [aG b,aG q,aG q2] w [Res.blk b 52 (V.c v),Res.blk q 3 [aH (e)],Res.blk q2 3 [aH (d)]] (fun x=>True) (fun x=>.int .i64 (dlR e d v).2) (fun x=>[]) (fun x=>[Res.blk b 52 (V.c (dlR e d v).1),Res.blk q 3 [aH (e)],Res.blk q2 3 [aH (d)]]):=by
 refine am Tryz.func249 26 hw ?_;refine rn [1,3,0,1,5,5] ?_;refine aa (bg rfl rfl rfl rfl rfl fun t4=>?_);refine zF (b:=t4) ((([d]:List Int).map aC).flatten) rfl ?_;refine aa (zN [] rfl (fun w1 a6 a8=>by exact pB (e) (some ⟨t4,0,none⟩) 1 1 ([d]:List Int) w1 he (Rd.ofBlk (b:=t4) (els:=([d]:List Int).map aC) a6 rfl aM rfl) (by intro x hx;simp at hx;rw[hx];exact hd) aK) rfl ?_);refine Ro ?_;refine zB rfl (fun h1=>?_) (fun h1=>?_)
 ·have hR:dlR e d v=(v,10):=by have h9:eN [e,d]=false:=(by simpa using h1);unfold dlR;rw[bZ h9]
  refine Re ?_;exact dD rfl rfl fun w' a5=>⟨(),aQ,by rw[hR],by rw[hR];exact zA w' a5⟩
 have hR:dlR e d v=({ v with wd:=max v.wd (eh [e,d]) },0):=by have h9:eN [e,d]=true:=(by simpa using h1);unfold dlR;rw[bY (by rw[h9];simp)]
 refine rn [12,7,1,2,2,6,4,5,2] ?_;refine aa (bg rfl rfl rfl rfl rfl fun H2=>?_);refine zF (b:=H2) ((([v.wd,(eh [e,d])]:List Int).map aC).flatten) rfl ?_;refine aa (zH rfl (fun w1 a6=>Ak (some ⟨H2,0,none⟩) 2 2 ([v.wd,(eh [e,d])]:List Int) w1 (Rdb.toOld (InL.rdb (b:=H2) (els:=(([v.wd,(eh [e,d])]:List Int).map aC)) rfl aM rfl) a6) aK aK) rfl (SY ?_));refine aa (zI rfl rfl rfl rfl rfl rfl rfl ?_);refine zF (b:=b) (V.c { v with wd:=max v.wd (eh [e,d]) }) (by simp[ay,V.c,ko]) (RA ?_);exact dD rfl rfl fun w' a5=>⟨(),aQ,by rw[hR],by rw[hR];exact zA w' a5⟩
theorem BE (b q:Nat) (v:V) (e:Int) (w:World) (hw:W0 [Res.blk b 52 (V.c v),Res.blk q 3 [aH (e)]] w) : au (ι:=Unit) Tryz.prog 281 [aG b,aG q] w [Res.blk b 52 (V.c v),Res.blk q 3 [aH (e)]] (fun x=>True) (fun x=>.int .i64 (asR e v).2) (fun x=>[]) (fun x=>[Res.blk b 52 (V.c (asR e v).1),Res.blk q 3 [aH (e)]]):=by
 refine am Tryz.func281 20 hw ?_;refine rn [1,3,0,8,1,2,6,4,5,51,2] ?_;refine zS 9 rfl (fun h1=>?_) (fun h1=>?_)
 ·have hR:asR e v=(v,8):=by unfold asR;rw[bZ bC]
  refine rn [21,21,21,21,21,41,0,19,1,3,0,11,13] ?_;exact dD rfl rfl fun w' a5=>⟨(),aQ,by rw[hR],by rw[hR];exact zA w' a5⟩
 refine rn [22,2,22,6,22,4,22,5,22,51,42,0] ?_;refine zB rfl (fun h2=>?_) (fun h2=>?_)
 ·have hR:asR e v=(v,8):=by unfold asR;rw[bZ bC]
  refine Re ?_;exact dD rfl rfl fun w' a5=>⟨(),aQ,by rw[hR],by rw[hR];exact zA w' a5⟩
 have hR:asR e v=({ v with ex:=e },0):=by unfold asR;rw[bY bC]
 refine rn [12,7,1,2,5,6,4] ?_;refine aa (zI rfl rfl rfl rfl rfl rfl rfl ?_);refine zF (b:=b) (V.c { v with ex:=e }) (by simp[ay,V.c]) (RA ?_);exact dD rfl rfl fun w' a5=>⟨(),aQ,by rw[hR],by rw[hR];exact zA w' a5⟩
theorem we (b q:Nat) (v:V) (e:Int) (w:World) (hw:W0 [Res.blk b 52 (V.c v),Res.blk q 3 [aH (e)]] w) : au (ι:=Unit) Tryz.prog 170 [aG b,aG q] w [Res.blk b 52 (V.c v),Res.blk q 3 [aH (e)]] (fun x=>True) (fun x=>.int .i64 (mkR e v).2) (fun x=>[]) (fun x=>[Res.blk b 52 (V.c (mkR e v).1),Res.blk q 3 [aH (e)]]):=by
 refine am Tryz.func170 23 hw ?_;refine rn [1,3,0,8,1,2,6,4,5,0] ?_;refine zB rfl (fun h1=>?_) (fun h1=>?_)
 ·have hR:mkR e v=(v,9):=by unfold mkR;rw[bZ (by simpa using h1)]
  refine Re ?_;exact dD rfl rfl fun w' a5=>⟨(),aQ,by rw[hR],by rw[hR];exact zA w' a5⟩
 have hR:mkR e v=({ v with sl:=true,rq:=if v.st=2 then e else v.rq,dl:=-1 },0):=by unfold mkR;rw[bY (by simpa using h1)]
 refine rn [12,7,8,1,2,6,4,5,44,0] ?_;refine zB rfl (fun h2=>?_) (fun h2=>?_)
 ·have h2:v.st=2:=by simpa using h2
  refine rn [10,2,5,6,4] ?_;refine aa (zI rfl rfl rfl rfl rfl rfl rfl ?_);refine zF (b:=b) (V.c { v with rq:=e }) (by simp[ay,V.c]) (rn [0,1,2,2,6,4] ?_);refine aa (zI rfl rfl rfl rfl rfl rfl rfl (SY ?_));refine aa (zI rfl rfl rfl rfl rfl rfl rfl ?_);refine zF (b:=b) (V.c { v with sl:=true,rq:=if v.st=2 then e else v.rq,dl:=-1 }) (by simp[ay,V.c,h2]) (RA ?_);exact dD rfl rfl fun w' a5=>⟨(),aQ,by rw[hR],by rw[hR];exact zA w' a5⟩
 have h2:¬v.st=2:=by simpa using h2
 refine rn [12,7,1,2,2,6,4] ?_;refine aa (zI rfl rfl rfl rfl rfl rfl rfl (SY ?_));refine aa (zI rfl rfl rfl rfl rfl rfl rfl ?_);refine zF (b:=b) (V.c { v with sl:=true,rq:=if v.st=2 then e else v.rq,dl:=-1 }) (by simp[ay,V.c,h2]) (RA ?_);exact dD rfl rfl fun w' a5=>⟨(),aQ,by rw[hR],by rw[hR];exact zA w' a5⟩
theorem yy (b q:Nat) (v:V) (e:Int) (w:World) (hw:W0 [Res.blk b 52 (V.c v),Res.blk q 3 [aH (e)]] w) : au (ι:=Unit) Tryz.prog 240 [aG b,aG q] w [Res.blk b 52 (V.c v),Res.blk q 3 [aH (e)]] (fun x=>True) (fun x=>.int .i64 (duR e v).2) (fun x=>[]) (fun x=>[Res.blk b 52 (V.c (duR e v).1),Res.blk q 3 [aH (e)]]):=by
 refine am Tryz.func240 13 hw ?_;refine rn [1,3,0,8,8] ?_;refine bn [] an rfl (rn [23,0,5,23,1,2,23,2,6,23,3,4,23,4,5,23,5,46,27,7] ?_);refine zB rfl (fun h1=>?_) (fun h1=>?_)
 ·have hR:duR e v=(v,8):=by unfold duR;rw[bZ (by simpa using h1)]
  refine Re ?_;exact dD rfl rfl fun w' a5=>⟨(),aQ,by rw[hR],by rw[hR];exact zA w' a5⟩
 have hR:duR e v=({ v with bal:=0 },0):=by unfold duR;rw[bY (by simpa using h1)]
 refine rn [12,7,1,2,6,4] ?_;refine aa (zI rfl rfl rfl rfl rfl rfl rfl ?_);refine zF (b:=b) (V.c { v with bal:=0 }) (by simp[ay,V.c]) (RA ?_);exact dD rfl rfl fun w' a5=>⟨(),aQ,by rw[hR],by rw[hR];exact zA w' a5⟩
theorem uO (e:Int) (w:World) : au (ι:=Nat) Tryz.prog 174 [aH e] w [] (fun x=>True) (fun x=>.func (.func 248) #[] [aG x].toArray) (fun x=>[Res.blk x 3 [aH (e)]]) (fun x=>[]):=by
 refine am Tryz.func174 4 (WOK.start (fps []) _) ?_;refine Ri ?_;refine aa (aq rfl rfl rfl fun b1=>SA ?_);exact dD rfl rfl fun w' a5=>⟨b1,aQ,rfl,zA w' a5⟩
theorem sO (e d:Int) (w:World) : au (ι:=(Nat × Nat)) Tryz.prog 175 [aH e,aH d] w [] (fun x=>True) (fun x=>.func (.func 249) #[] [aG x.1,aG x.2].toArray) (fun x=>[Res.blk x.1 3 [aH (e)],Res.blk x.2 3 [aH (d)]]) (fun x=>[]):=by
 refine am Tryz.func175 6 (WOK.start (fps []) _) ?_;refine Ri ?_;refine aa (aq rfl rfl rfl fun b2=>?_);refine aa (aq rfl rfl rfl fun b3=>SA ?_);exact dD rfl rfl fun w' a5=>⟨(b2,b3),aQ,rfl,zA w' a5⟩
structure Chg (σ:Type) where
 f:Nat
 cap:List Value
 run:V->σ->V × Int × σ
def Chg.val {σ:Type} (c:Chg σ):Value:=.func (.func c.f) #[] c.cap.toArray
def dS {σ:Type}:List (Chg σ)->V->σ->V × Int × σ
 | [],v,s=>(v,0,s)
 | c :: r,v,s=>if(c.run v s).2.1=0 then dS r (c.run v s).1 (c.run v s).2.2 else(V.z,(c.run v s).2.1,(c.run v s).2.2)
structure Chg.OK {σ:Type} (rr:σ->Res) (ok:V->σ->Prop) (c:Chg σ):Prop where
 hb:gI Tryz.prog c.f=true
 st:∀v s,ok v s->(c.run v s).2.1=0->ok (c.run v s).1 (c.run v s).2.2
 go:∀b v s w,WOK (fps [Res.blk b 52 v.c,rr s]) w [Res.blk b 52 v.c,rr s] w->ok v s->au (ι:=Unit) Tryz.prog c.f (aG b :: c.cap) w [Res.blk b 52 v.c,rr s] (fun _=>True) (fun _=>.int .i64 (c.run v s).2.1) (fun _=>[]) (fun _=>[Res.blk b 52 (c.run v s).1.c,rr (c.run v s).2.2])
theorem ut {σ:Type} {fs:List (Chg σ)} {k:Nat} (h:k<fs.length) {v:V} {s:σ} (h0:(fs[k].run v s).2.1=0):dS (fs.drop k) v s=dS (fs.drop (k+1)) (fs[k].run v s).1 (fs[k].run v s).2.2:=by
 rw[List.drop_eq_getElem_cons h,dS,bZ h0]
theorem ow {σ:Type} {fs:List (Chg σ)} {k:Nat} (h:k<fs.length) {v:V} {s:σ} (h0:¬(fs[k].run v s).2.1=0):dS (fs.drop k) v s=(V.z,(fs[k].run v s).2.1,(fs[k].run v s).2.2):=by
 rw[List.drop_eq_getElem_cons h,dS,bY h0]
theorem au.unstar {ι:Type} {P:Program} {f:FuncId} {args:List Value} {w:World} {Ls:List Res} {p:ι->Prop} {val:ι->Value} {Ls1:ι->List Res} (h:WOK (fps [Res.star Ls]) w [Res.star Ls] w->au P f args w [.star Ls] p val (fun _=>[]) (fun x=>[.star (Ls1 x)])) (hw:WOK (fps Ls) w Ls w) :
  au P f args w Ls p val (fun _=>[]) Ls1:=by
 have h1:WOK (fps [Res.star Ls]) w [Res.star Ls] w:=by rw[vR];exact WOK.closed (L:=[]) (by rw[cZ];exact hw)
 refine Ret.mono (h h1) fun v w' ⟨x,hp,hv,u2⟩=>⟨x,hp,hv,?_⟩
 rw[vR] at u2;have h3:WOK (fps Ls) w (Res.star (Ls1 x) :: []) w' := u2;have:=h3.opened;rwa [cZ] at this
theorem Chg.go_of {f:Nat} {args:List Value} {r0 r1:Res} {Lin Lrep Ls Ls1:List Res} {val:Value} {w:World} (hw:W0 [r0,.star Ls] w) (hs:Swap (r0 :: Ls) Lin Lrep (r1 :: Ls1)) (S5:Sub (r0 :: Ls) Lin)
  (h:∀w,WOK (fps Lin) w Lin w->au (ι:=Unit) Tryz.prog f args w Lin (fun _=>True) (fun _=>val) (fun _=>[]) (fun _=>Lrep)):au (ι:=Unit) Tryz.prog f args w [r0,.star Ls] (fun _=>True) (fun _=>val) (fun _=>[]) (fun _=>[r1,.star Ls1]) :=
 au.star (r1:=fun _=>r1) (Ls1:=fun _=>Ls1) (fun a6=>au.into (L' := fun _=>r1 :: Ls1) a6 (fun _=>hs) S5 (fun u2=>h w u2)) hw
theorem xN {σ:Type} (rr:σ->Res) (ok:V->σ->Prop) (fs:List (Chg σ)) (v:V) (s:σ) (q:Nat) (w:World) (hw:W0 [rr s] w) (hfs:∀c∈fs,c.OK rr ok) (i6:ok v s) (hr:Rd w [rr s] (some ⟨q,0,none⟩) fs.length 1 (fs.map (fun c:Chg σ=>[Chg.val c]))) (hfl:fs.length<=100):au (ι:=Unit) Tryz.prog 173 [v.v,.slice (some ⟨q,0,none⟩) fs.length fs.length] w [rr s] (fun x=>True) (fun x=>.tuple [V.v (dS fs v s).1,aH (dS fs v s).2.1].toArray) (fun x=>[]) (fun x=>[rr (dS fs v s).2.2]):=by
 refine am Tryz.func173 23 hw ?_;refine Ri ?_;refine aa (aq (c:=V.c v) rfl rfl rfl fun b2=>?_);refine aa (zK rfl fun b4=>Su ?_);refine zF (b:=b4) (V.c V.z) rfl ?_;refine dP [2,4,5,9,10] (fun(x:Nat × V × σ)=>[(11,aI x.1)]) (fun(x:Nat × V × σ)=>[Res.blk b4 52 (V.c V.z),Res.blk b2 52 (V.c x.2.1),rr x.2.2]) (fun(x:Nat × V × σ)=>x.1<=fs.length/\ok x.2.1 x.2.2/\dS (fs.drop x.1) x.2.1 x.2.2=dS fs v s) (fun(x:Nat × V × σ)=>fs.length-x.1) (0,v,s) (by(try dsimp only);exact⟨cN _,i6,rfl⟩) ?_;rintro⟨k,v1,s1⟩ ⟨f6,Z9,hap⟩;replace f6:k<=fs.length:=f6;replace Z9:ok v1 s1:=Z9;replace hap:dS (fs.drop k) v1 s1=dS fs v s:=hap;refine yB (L' := [Res.blk b4 52 (V.c V.z),Res.blk b2 52 (V.c v1),rr s1]) rfl ?_;refine ae 11 (v' := aI k) rfl rfl (Rj ?_);refine zB rfl (fun h1=>?_) (fun h1=>?_)
 ·have f8:k<fs.length:=by have h9:=bW h1;omega
  refine Ry ?_;refine s_q (zM (i:=k) rfl rfl rfl hr.rdb aN) rfl ?_;refine s_q (zX (i:=k) (o:=0) rfl hr.rdb (zP aN) rfl rfl) rfl (RR ?_);refine aa (xV (hb:=⟨(hfs _ (cC f8)).hb⟩) (f:=fs[k].f) (cap:=fs[k].cap) (fst:=[]) [Res.blk b2 52 v1.c,rr s1] rfl rfl (fun w1 a6 a8=>by have h7:=(hfs _ (cC f8)).go b2 v1 s1 w1 a8 Z9;exact h7) rfl ?_);rintro⟨⟩ _;refine ii (rn [3,0,1,2,51,0] ?_);refine zB rfl (fun h2=>?_) (fun h2=>?_)
  ·have hz:¬(fs[k].run v1 s1).2.1=0:=by simpa using h2
   have hR:=ow f8 hz;rw[hap] at hR;refine rn [1,49,2,33] ?_;refine zF (b:=b4) (V.c V.z) rfl (Rb ?_);refine zL (zD (zD (zL (zD ?_))));exact dH rfl (.cellw rfl rfl) (.tmp rfl) fun w' a5=>⟨(),aQ,by rw[hR];rfl,by rw[hR];exact zA w' a5⟩
  have hz:(fs[k].run v1 s1).2.1=0:=by simpa using h2
  refine RK ?_;exact cr ((k+1),(fs[k].run v1 s1).1,(fs[k].run v1 s1).2.2) (by(try dsimp only);exact⟨aN,((hfs _ (cC f8)).st v1 s1 Z9 hz),(by rw[←ut f8 hz];exact hap)⟩)
 have f9:k=fs.length:=by have h9:=bX h1;omega
 have hR:dS fs v s=(v1,0,s1):=by rw[←hap,f9,List.drop_length];rfl
 refine Ru ?_;refine zE (zE (zQ (rn [7,1,45,33] ?_)));refine zF (b:=b4) (V.c v1) (yH rfl) (Rb ?_);exact dH rfl (.cellw rfl rfl) (.tmp rfl) fun w' a5=>⟨(),aQ,by rw[hR];rfl,by rw[hR];exact zA w' a5⟩
theorem jt (x y:Nat) (w:World) (hx:x<18446744073709551616) (hy:y<18446744073709551616):Pur Tryz.prog 145 [aJ ((x:Nat):Int),aJ ((y:Nat):Int)] w (.tuple [aJ ((x*y/18446744073709551616:Nat):Int),aJ ((x*y%18446744073709551616:Nat):Int)].toArray):=by
 refine am Tryz.func145 51 (WOK.start [] _) ?_;obtain⟨bd,bt,bw,hhi⟩:=Lib.mul64_hi x y hx hy;have ba:=Lib.half_mul_le (a:=x/4294967296) (b:=y/4294967296) aK aK;have bb:=Lib.half_mul_le (a:=x/4294967296) (b:=y%4294967296) aK aK;have bc:=Lib.half_mul_le (a:=x%4294967296) (b:=y/4294967296) aK aK;refine rn [1,3,3,0,1,2] ?_;refine s_q (rZ (a:=x) rfl rfl hx) rfl (RR ?_);refine s_q (uU (a:=x) rfl rfl) rfl (RR ?_);refine s_q (rZ (a:=y) rfl rfl hy) rfl (RR ?_);refine s_q (uU (a:=y) rfl rfl) rfl (Sr ?_);refine s_q (qV (a:=(x%4294967296)) (b:=(y%4294967296)) rfl rfl bd) rfl (Sr ?_);refine s_q (qV (a:=(x/4294967296)) (b:=(y%4294967296)) rfl rfl aK) rfl (SD ?_);refine s_q (uU (a:=(x%4294967296)*(y%4294967296)) rfl rfl) rfl ?_;refine s_q (kc (a:=(x/4294967296)*(y%4294967296)) (b:=(x%4294967296)*(y%4294967296)/4294967296) rfl rfl bt) rfl (RR ?_);refine s_q (rZ (a:=((x/4294967296)*(y%4294967296)+(x%4294967296)*(y%4294967296)/4294967296)) rfl rfl bt) rfl (RR ?_);refine s_q (uU (a:=((x/4294967296)*(y%4294967296)+(x%4294967296)*(y%4294967296)/4294967296)) rfl rfl) rfl (rn [3,0,1,2,2,2] ?_);refine s_q (qV (a:=(x%4294967296)) (b:=(y/4294967296)) rfl rfl aK) rfl ?_;refine s_q (kc (a:=((x/4294967296)*(y%4294967296)+(x%4294967296)*(y%4294967296)/4294967296)%4294967296) (b:=(x%4294967296)*(y/4294967296)) rfl rfl bw) rfl (Sr ?_);refine s_q (qV (a:=(x/4294967296)) (b:=(y/4294967296)) rfl rfl aK) rfl (SD ?_);refine s_q (kc (a:=(x/4294967296)*(y/4294967296)) (b:=((x/4294967296)*(y%4294967296)+(x%4294967296)*(y%4294967296)/4294967296)/4294967296) rfl rfl aK) rfl (SD ?_);refine s_q (uU (a:=(((x/4294967296)*(y%4294967296)+(x%4294967296)*(y%4294967296)/4294967296)%4294967296+(x%4294967296)*(y/4294967296))) rfl rfl) rfl ?_;refine s_q (kc (a:=(x/4294967296)*(y/4294967296)+((x/4294967296)*(y%4294967296)+(x%4294967296)*(y%4294967296)/4294967296)/4294967296) (b:=(((x/4294967296)*(y%4294967296)+(x%4294967296)*(y%4294967296)/4294967296)%4294967296+(x%4294967296)*(y/4294967296))/4294967296) rfl rfl aK) rfl (Sr ?_);refine s_q (Bx (a:=x) (b:=y) rfl rfl) rfl (Rb ?_);exact dE rfl rfl rfl fun w' a5=>⟨by rw[←hhi],a5.upd⟩
theorem yp (x y:Nat) (w:World) (hx:x<18446744073709551616) (hy:y<18446744073709551616):Pur Tryz.prog 290 [aJ ((x:Nat):Int),aJ ((y:Nat):Int)] w (.agg #[aJ ((x*y/18446744073709551616:Nat):Int),aJ ((x*y%18446744073709551616:Nat):Int)]):=by
 refine am Tryz.func290 16 (WOK.start [] _) ?_;refine Ri ?_;refine aa (zK rfl fun b4=>SE ?_);refine aa (zH rfl (fun w1 a6=>jt x y w1 hx hy) rfl (rn [2,40,40,3,3,0,1,2,2,49,33,0,11] ?_));exact dG rfl (.cellw rfl rfl) fun w' a5=>⟨aP,a5.upd⟩
theorem tq (y:Nat) (w:World) (hx:y<18446744073709551616) (h0:1<=y):au (ι:=Nat) Tryz.prog 324 [aJ ((y:Nat):Int)] w [] (fun x=>dt y x/\x<=64) (fun x=>.int .i64 (x:Int)) (fun x=>[]) (fun x=>[]):=by
 refine am Tryz.func324 25 (WOK.start (fps []) _) ?_;refine rn [1,3,0,8,1,2,53,0] ?_;refine zB rfl (fun h1=>?_) (fun h1=>?_)
 ·have hc32:=bW h1;refine Nb ?_;refine s_q (uA (a:=y) (n:=32) rfl rfl aK) rfl (rn [3,0,10,3,0,8,1,2,53,0] ?_);refine zB rfl (fun h2=>?_) (fun h2=>?_)
  ·have hc16:=bW h2;refine Nb ?_;refine s_q (uA (a:=(y/2 ^ 32)) (n:=16) rfl rfl aK) rfl (rn [3,0,10,2] ?_);refine s_q (yI (z:=48) rfl rfl rfl) rfl (rn [3,0,8,1,2,53,0] ?_);refine zB rfl (fun h3=>?_) (fun h3=>?_)
   ·have H8:=bW h3;refine Nb ?_;refine s_q (uA (a:=((y/2 ^ 32)/2 ^ 16)) (n:=8) rfl rfl aK) rfl (rn [3,0,10,2] ?_);refine s_q (yI (z:=56) rfl rfl rfl) rfl (rn [3,0,1] ?_);have u7:0<(((y/2 ^ 32)/2 ^ 16)/2 ^ 8):=by simp_all;omega
    have j1:(((y/2 ^ 32)/2 ^ 16)/2 ^ 8)<256:=by simp_all;omega
    refine rn [2,2] ?_;refine s_q (yS (z:=(((((y/2 ^ 32)/2 ^ 16)/2 ^ 8):Nat):Int)) rfl (by rw[IntKind.wrap_u8];omega)) rfl ?_;refine s_q (tM (a:=(((y/2 ^ 32)/2 ^ 16)/2 ^ 8)) aL rfl rfl bH j1) rfl ?_;refine s_q (yS (z:=((eZ (((y/2 ^ 32)/2 ^ 16)/2 ^ 8):Nat):Int)) rfl (dY aK (by have h8:=(dt.of8 j1 u7).2;omega))) rfl ?_;refine s_q (yI (z:=56+((eZ (((y/2 ^ 32)/2 ^ 16)/2 ^ 8):Nat):Int)) rfl rfl (dY aK (by have h8:=(dt.of8 j1 u7).2;omega))) rfl (Rb ?_);exact dD rfl rfl fun w' a5=>⟨(eZ (((y/2 ^ 32)/2 ^ 16)/2 ^ 8)+8+16+32),(by(try dsimp only);exact⟨((((dt.of8 j1 u7).1).up 8).up 16).up 32,by have h8:=(dt.of8 j1 u7).2;omega⟩),by congr 1;omega,zA w' a5⟩
   have H8:=bX h3;refine rn [12,7,1] ?_;have u7:0<((y/2 ^ 32)/2 ^ 16):=by simp_all;omega
   have j1:((y/2 ^ 32)/2 ^ 16)<256:=by simp_all;omega
   refine rn [2,2] ?_;refine s_q (yS (z:=((((y/2 ^ 32)/2 ^ 16):Nat):Int)) rfl (by rw[IntKind.wrap_u8];omega)) rfl ?_;refine s_q (tM (a:=((y/2 ^ 32)/2 ^ 16)) aL rfl rfl bH j1) rfl ?_;refine s_q (yS (z:=((eZ ((y/2 ^ 32)/2 ^ 16):Nat):Int)) rfl (dY aK (by have h8:=(dt.of8 j1 u7).2;omega))) rfl ?_;refine s_q (yI (z:=48+((eZ ((y/2 ^ 32)/2 ^ 16):Nat):Int)) rfl rfl (dY aK (by have h8:=(dt.of8 j1 u7).2;omega))) rfl (Rb ?_);exact dD rfl rfl fun w' a5=>⟨(eZ ((y/2 ^ 32)/2 ^ 16)+16+32),(by(try dsimp only);exact⟨(((dt.of8 j1 u7).1).up 16).up 32,by have h8:=(dt.of8 j1 u7).2;omega⟩),by congr 1;omega,zA w' a5⟩
  have hc16:=bX h2;refine rn [12,7,8,1,2,53,0] ?_;refine zB rfl (fun h4=>?_) (fun h4=>?_)
  ·have H8:=bW h4;refine Nb ?_;refine s_q (uA (a:=(y/2 ^ 32)) (n:=8) rfl rfl aK) rfl (rn [3,0,10,2] ?_);refine s_q (yI (z:=40) rfl rfl rfl) rfl (rn [3,0,1] ?_);have u7:0<((y/2 ^ 32)/2 ^ 8):=by simp_all;omega
   have j1:((y/2 ^ 32)/2 ^ 8)<256:=by simp_all;omega
   refine rn [2,2] ?_;refine s_q (yS (z:=((((y/2 ^ 32)/2 ^ 8):Nat):Int)) rfl (by rw[IntKind.wrap_u8];omega)) rfl ?_;refine s_q (tM (a:=((y/2 ^ 32)/2 ^ 8)) aL rfl rfl bH j1) rfl ?_;refine s_q (yS (z:=((eZ ((y/2 ^ 32)/2 ^ 8):Nat):Int)) rfl (dY aK (by have h8:=(dt.of8 j1 u7).2;omega))) rfl ?_;refine s_q (yI (z:=40+((eZ ((y/2 ^ 32)/2 ^ 8):Nat):Int)) rfl rfl (dY aK (by have h8:=(dt.of8 j1 u7).2;omega))) rfl (Rb ?_);exact dD rfl rfl fun w' a5=>⟨(eZ ((y/2 ^ 32)/2 ^ 8)+8+32),(by(try dsimp only);exact⟨(((dt.of8 j1 u7).1).up 8).up 32,by have h8:=(dt.of8 j1 u7).2;omega⟩),by congr 1;omega,zA w' a5⟩
  have H8:=bX h4;refine rn [12,7,1] ?_;have u7:0<(y/2 ^ 32):=by simp_all;omega
  have j1:(y/2 ^ 32)<256:=by simp_all;omega
  refine rn [2,2] ?_;refine s_q (yS (z:=(((y/2 ^ 32):Nat):Int)) rfl (by rw[IntKind.wrap_u8];omega)) rfl ?_;refine s_q (tM (a:=(y/2 ^ 32)) aL rfl rfl bH j1) rfl ?_;refine s_q (yS (z:=((eZ (y/2 ^ 32):Nat):Int)) rfl (dY aK (by have h8:=(dt.of8 j1 u7).2;omega))) rfl ?_;refine s_q (yI (z:=32+((eZ (y/2 ^ 32):Nat):Int)) rfl rfl (dY aK (by have h8:=(dt.of8 j1 u7).2;omega))) rfl (Rb ?_);exact dD rfl rfl fun w' a5=>⟨(eZ (y/2 ^ 32)+32),(by(try dsimp only);exact⟨((dt.of8 j1 u7).1).up 32,by have h8:=(dt.of8 j1 u7).2;omega⟩),by congr 1;omega,zA w' a5⟩
 have hc32:=bX h1;refine rn [12,7,8,1,2,53,0] ?_;refine zB rfl (fun h5=>?_) (fun h5=>?_)
 ·have hc16:=bW h5;refine Nb ?_;refine s_q (uA (a:=y) (n:=16) rfl rfl aK) rfl (rn [3,0,10,2] ?_);refine s_q (yI (z:=16) rfl rfl rfl) rfl (rn [3,0,8,1,2,53,0] ?_);refine zB rfl (fun h6=>?_) (fun h6=>?_)
  ·have H8:=bW h6;refine Nb ?_;refine s_q (uA (a:=(y/2 ^ 16)) (n:=8) rfl rfl aK) rfl (rn [3,0,10,2] ?_);refine s_q (yI (z:=24) rfl rfl rfl) rfl (rn [3,0,1] ?_);have u7:0<((y/2 ^ 16)/2 ^ 8):=by simp_all;omega
   have j1:((y/2 ^ 16)/2 ^ 8)<256:=by simp_all;omega
   refine rn [2,2] ?_;refine s_q (yS (z:=((((y/2 ^ 16)/2 ^ 8):Nat):Int)) rfl (by rw[IntKind.wrap_u8];omega)) rfl ?_;refine s_q (tM (a:=((y/2 ^ 16)/2 ^ 8)) aL rfl rfl bH j1) rfl ?_;refine s_q (yS (z:=((eZ ((y/2 ^ 16)/2 ^ 8):Nat):Int)) rfl (dY aK (by have h8:=(dt.of8 j1 u7).2;omega))) rfl ?_;refine s_q (yI (z:=24+((eZ ((y/2 ^ 16)/2 ^ 8):Nat):Int)) rfl rfl (dY aK (by have h8:=(dt.of8 j1 u7).2;omega))) rfl (Rb ?_);exact dD rfl rfl fun w' a5=>⟨(eZ ((y/2 ^ 16)/2 ^ 8)+8+16),(by(try dsimp only);exact⟨(((dt.of8 j1 u7).1).up 8).up 16,by have h8:=(dt.of8 j1 u7).2;omega⟩),by congr 1;omega,zA w' a5⟩
  have H8:=bX h6;refine rn [12,7,1] ?_;have u7:0<(y/2 ^ 16):=by simp_all;omega
  have j1:(y/2 ^ 16)<256:=by simp_all;omega
  refine rn [2,2] ?_;refine s_q (yS (z:=(((y/2 ^ 16):Nat):Int)) rfl (by rw[IntKind.wrap_u8];omega)) rfl ?_;refine s_q (tM (a:=(y/2 ^ 16)) aL rfl rfl bH j1) rfl ?_;refine s_q (yS (z:=((eZ (y/2 ^ 16):Nat):Int)) rfl (dY aK (by have h8:=(dt.of8 j1 u7).2;omega))) rfl ?_;refine s_q (yI (z:=16+((eZ (y/2 ^ 16):Nat):Int)) rfl rfl (dY aK (by have h8:=(dt.of8 j1 u7).2;omega))) rfl (Rb ?_);exact dD rfl rfl fun w' a5=>⟨(eZ (y/2 ^ 16)+16),(by(try dsimp only);exact⟨((dt.of8 j1 u7).1).up 16,by have h8:=(dt.of8 j1 u7).2;omega⟩),by congr 1;omega,zA w' a5⟩
 have hc16:=bX h5;refine rn [12,7,8,1,2,53,0] ?_;refine zB rfl (fun h7=>?_) (fun h7=>?_)
 ·have H8:=bW h7;refine Nb ?_;refine s_q (uA (a:=y) (n:=8) rfl rfl aK) rfl (rn [3,0,10,2] ?_);refine s_q (yI (z:=8) rfl rfl rfl) rfl (rn [3,0,1] ?_);have u7:0<(y/2 ^ 8):=by simp_all;omega
  have j1:(y/2 ^ 8)<256:=by simp_all;omega
  refine rn [2,2] ?_;refine s_q (yS (z:=(((y/2 ^ 8):Nat):Int)) rfl (by rw[IntKind.wrap_u8];omega)) rfl ?_;refine s_q (tM (a:=(y/2 ^ 8)) aL rfl rfl bH j1) rfl ?_;refine s_q (yS (z:=((eZ (y/2 ^ 8):Nat):Int)) rfl (dY aK (by have h8:=(dt.of8 j1 u7).2;omega))) rfl ?_;refine s_q (yI (z:=8+((eZ (y/2 ^ 8):Nat):Int)) rfl rfl (dY aK (by have h8:=(dt.of8 j1 u7).2;omega))) rfl (Rb ?_);exact dD rfl rfl fun w' a5=>⟨(eZ (y/2 ^ 8)+8),(by(try dsimp only);exact⟨((dt.of8 j1 u7).1).up 8,by have h8:=(dt.of8 j1 u7).2;omega⟩),by congr 1;omega,zA w' a5⟩
 have H8:=bX h7;refine rn [12,7,1] ?_;have u7:0<y:=by simp_all;omega
 have j1:y<256:=by simp_all;omega
 refine rn [2,2] ?_;refine s_q (yS (z:=((y:Nat):Int)) rfl (by rw[IntKind.wrap_u8];omega)) rfl ?_;refine s_q (tM (a:=y) aL rfl rfl bH j1) rfl ?_;refine s_q (yS (z:=((eZ y:Nat):Int)) rfl (dY aK (by have h8:=(dt.of8 j1 u7).2;omega))) rfl ?_;refine s_q (yI (z:=0+((eZ y:Nat):Int)) rfl rfl (dY aK (by have h8:=(dt.of8 j1 u7).2;omega))) rfl (Rb ?_);exact dD rfl rfl fun w' a5=>⟨(eZ y),(by(try dsimp only);exact⟨(dt.of8 j1 u7).1,by have h8:=(dt.of8 j1 u7).2;omega⟩),by congr 1;omega,zA w' a5⟩
theorem zu (y:Nat) (w:World) (hx:y<18446744073709551616) (hy:1<=y):au (ι:=Nat) Tryz.prog 320 [aJ ((y:Nat):Int)] w [] (fun x=>BT y x) (fun x=>.int .i64 (x:Int)) (fun x=>[]) (fun x=>[]):=by
 refine am Tryz.func320 6 (WOK.start (fps []) _) ?_;refine Sq ?_;refine aa (zJ [] rfl (fun w1 a6 a8=>by have h7:=tq y w1 hx hy;exact h7) rfl ?_);rintro n4 h4;refine ii ?_;have h5:=h4.2;refine s_q (yN (z:=((64-n4:Nat):Int)) rfl rfl (by rw[dY aK aK];omega)) rfl (Rb ?_);exact dD rfl rfl fun w' a5=>⟨(64-n4),(by exact h4.1.nrm h4.2 hy),rfl,zA w' a5⟩
theorem Fb {s:Nat} (h:s<=64):IntKind.u64.wrap (64-(s:Int))=((64-s:Nat):Int):=by rw[cF];omega
theorem tx (hi lo y:Nat) (w:World) (hy:1<=y) (hy2:y<=4294967296) (hh:hi<y) (hl:lo<18446744073709551616):au (ι:=Int) Tryz.prog 291 [aJ ((hi:Nat):Int),aJ ((lo:Nat):Int),aJ ((y:Nat):Int)] w [] (fun x=>True) (fun x=>.tuple [aJ (((hi*18446744073709551616+lo)/y:Nat):Int),aJ x].toArray) (fun x=>[]) (fun x=>[]):=by
 refine am Tryz.func291 135 (WOK.start (fps []) _) ?_;refine rn [1,3,3,0,8,1,2,44] ?_;refine zV 20 (b:=false) rfl (GM hy) (rn [0,20,12,7,8,1,2,2,56] ?_);refine zV 24 (b:=false) rfl (GA hh) (rn [0,20,12,7,8,1,2,44,0] ?_);refine zB rfl (fun h1=>?_) (fun h1=>?_)
 ·have hz:hi=0:=by have h9:=bW h1;omega
  subst hz;refine rn [8] ?_;refine bn [] an rfl (RV ?_);refine dq 2 rfl (oC (a:=lo) (b:=y) rfl rfl hl hy) (rn [23,3,2,23,4,2] ?_);refine dq 5 rfl (mI rfl rfl aK) (rn [23,6,3,23,7,3,27,7,11,13] ?_);exact dE rfl rfl rfl fun w' a5=>⟨_,aQ,by first|rfl|(simp;rfl),zA w' a5⟩
 have hz:hi≠0:=by have h9:=bX h1;omega
 refine Sx ?_;refine aa (zJ [] rfl (fun w1 a6 a8=>by have h7:=zu y w1 aK hy;exact h7) rfl ?_);rintro s hs;refine ii ?_;obtain⟨v,U,R,D⟩:=FD hy hy2 hh hl hs;obtain⟨m1,m2,m3,m4,m5,m6⟩:=D.more;obtain⟨d1,d2,d3,d4,d5,d6,d7,d8,d9,d10,d11⟩:=D;have hs63:=hs.le;have S8:s<=64:=Nat.le_succ_of_le hs63;refine s_q (yS (z:=((s:Nat):Int)) rfl (ey (Int.natCast_nonneg _) (Int.ofNat_lt.2 (Nat.lt_of_le_of_lt hs63 aO)))) rfl (Sr ?_);refine s_q (ka (a:=y) (n:=s) rfl rfl S8) rfl ?_;refine ae 39 (v' := aJ ((v*4294967296:Nat):Int)) rfl (by rw[d2,Nat.mod_eq_of_lt m1]) (RR ?_);refine s_q (uU (a:=v*4294967296) rfl rfl) rfl ?_;refine ae 41 (v' := aJ ((v:Nat):Int)) rfl (by rw[Nat.mul_div_cancel _ aO]) (RR ?_);refine s_q (rZ (a:=v*4294967296) rfl rfl m1) rfl ?_;refine ae 43 (v' := aJ ((0:Nat):Int)) rfl (by rw[Nat.mul_mod_left]) (Sr ?_);refine s_q (ka (a:=hi) (n:=s) rfl rfl S8) rfl (rn [2,2] ?_);refine s_q (yN (z:=((64-s:Nat):Int)) rfl rfl (Fb S8)) rfl ?_;refine s_q (uA (a:=lo) (n:=64-s) rfl rfl (Nat.sub_le _ _)) rfl ?_;refine s_q (DW (a:=hi*2 ^ s%18446744073709551616) (b:=lo/2 ^ (64-s)) rfl rfl (cW _ aO) (Nat.lt_of_le_of_lt (Nat.div_le_self _ _) hl)) rfl ?_;refine ae 51 (v' := aJ ((U:Nat):Int)) rfl (by rw[d4]) (Sr ?_);refine s_q (ka (a:=lo) (n:=s) rfl rfl S8) rfl ?_;refine ae 54 (v' := aJ ((R:Nat):Int)) rfl (by rw[d5]) (RR ?_);refine s_q (uU (a:=R) rfl rfl) rfl (RR ?_);refine s_q (rZ (a:=R) rfl rfl d7) rfl (Sr ?_);refine s_q (oC (a:=U) (b:=v) rfl rfl m2 d1) rfl (rn [3,0,1,2,2,2] ?_);refine s_q (qV (a:=U/v) (b:=v) rfl rfl (Nat.lt_of_le_of_lt m3 m2)) rfl ?_;refine s_q (ym (a:=U) (b:=U/v*v) rfl rfl m3 m2) rfl ?_;refine ae 66 (v' := aJ ((U%v:Nat):Int)) rfl (by rw[m4]) (rn [3,0,8,14] ?_);refine dP [2,6,7,8,9,10,11,13,14] (fun(x:Nat)=>[(15,aJ ((U/v:Nat):Int)),(16,aJ ((U%v:Nat):Int))]) (fun(x:Nat)=>[]) (fun(x:Nat)=>True) (fun(x:Nat)=>0*x) 0 (trivial) ?_;rintro u _;refine rn [8,1,2,53] ?_;refine zV 68 (b:=false) rfl (Db d9) (rn [2,22,2,22,2] ?_);refine nh (uB (z:=0) rfl rfl (by simp[cF])) rfl rfl rfl (rn [22,2,22,60,22,2,22,54,22,55] ?_);refine zV 77 (b:=false) rfl (Da _) (rn [42,0,20,16] ?_);refine zE (zE (zQ (rn [7,1,2,60,2,54,2,2,60] ?_)));refine s_q (yN (z:=(((U%v*4294967296+R/4294967296):Nat):Int)) rfl rfl (wr1 U v R m5)) rfl (Sr ?_);refine s_q (oC (a:=(U%v*4294967296+R/4294967296)) (b:=v) rfl rfl m5 d1) rfl (rn [3,0,1,2,2,2] ?_);refine s_q (qV (a:=(U%v*4294967296+R/4294967296)/v) (b:=v) rfl rfl (Nat.lt_of_le_of_lt m6 m5)) rfl ?_;refine s_q (ym (a:=(U%v*4294967296+R/4294967296)) (b:=(U%v*4294967296+R/4294967296)/v*v) rfl rfl m6 m5) rfl (rn [3,0,8,14] ?_);refine dP [2,6,7,8,9,10,14,15,17] (fun(x:Nat)=>[(18,aJ (((U%v*4294967296+R/4294967296)/v:Nat):Int)),(16,aJ (((U%v*4294967296+R/4294967296)-(U%v*4294967296+R/4294967296)/v*v:Nat):Int))]) (fun(x:Nat)=>[]) (fun(x:Nat)=>True) (fun(x:Nat)=>0*x) 0 (trivial) ?_;rintro u _;refine rn [8,1,2,53] ?_;refine zV 103 (b:=false) rfl (Db d10) (rn [2,22,2,22,2] ?_);refine nh (uB (z:=0) rfl rfl (by simp[cF])) rfl rfl rfl (rn [22,2,22,60,22,2,22,54,22,55] ?_);refine zV 112 (b:=false) rfl (Da _) (rn [42,0,20,16] ?_);refine zE (zE (zQ (rn [7,1,2,60,2] ?_)));refine s_q (yI (z:=(((hi*18446744073709551616+lo)/y:Nat):Int)) rfl rfl (by rw[←d8];exact wr2 _ _ d9 d10)) rfl (rn [2,60,2,54,2,2,60,57,2] ?_);refine s_q (EE (n:=s) rfl rfl S8) rfl (rn [3,3,0,11] ?_);exact dE rfl rfl rfl fun w' a5=>⟨_,aQ,by first|rfl|(simp;rfl),zA w' a5⟩
theorem oG (x y z:Nat) (w:World) (hx:x<18446744073709551616) (hz1:1<=z) (hz2:z<=4294967296) (hyz:y<=z):Pur Tryz.prog 247 [aJ ((x:Nat):Int),aJ ((y:Nat):Int),aJ ((z:Nat):Int)] w (.tuple [aJ ((x*y/z:Nat):Int),.bool true].toArray):=by
 refine am Tryz.func247 28 (WOK.start [] _) ?_;have hlt:x*y/18446744073709551616<z:=by
   rw[Nat.div_lt_iff_lt_mul aO];exact Nat.lt_of_le_of_lt (Nat.mul_le_mul_left x hyz) (by rw[Nat.mul_comm x];exact Nat.mul_lt_mul_of_pos_left hx aK)
 refine rn [1,3,3,0,1,2,2] ?_;refine aa (zH rfl (fun w1 a6=>yp x y w1 aK aK) rfl ?_);refine aa (zK rfl fun b8=>rn [33,0,8,1] ?_);refine s_q (yO (i:=0) rfl rfl rfl aO) rfl (rn [5,2,53,0] ?_);refine zB rfl (fun h1=>?_) (fun h1=>?_)
 ·exfalso;have h9:=bW h1;omega
 refine rn [12,7,1] ?_;refine s_q (yO (i:=0) rfl rfl rfl aO) rfl (rn [5] ?_);refine s_q (yO (i:=1) rfl rfl rfl aO) rfl (rn [5,2] ?_);refine aa (zJ [] rfl (fun w1 a6 a8=>by have h7:=tx (x*y/18446744073709551616) (x*y%18446744073709551616) z w1 aK hz2 hlt (cW _ aO);exact h7) rfl ?_);rintro r24 _;refine ii (rn [2,40,40,3,3,0,1,2,3,3,0,11] ?_);exact dE rfl rfl rfl fun w' a5=>⟨by rw[show x*y/18446744073709551616*18446744073709551616+x*y%18446744073709551616=x*y from by have:=Nat.div_add_mod (x*y) 18446744073709551616;omega],a5.upd⟩
theorem oz (x y z:Int) (w:World) (hx:0<=x/\x<=18446744073709551615) (hy:0<=y) (hz:1<=z/\z<=4294967296) (hyz:y<=z):Pur Tryz.prog 172 [aJ x,aJ y,aJ z] w (.tuple [aJ (x*y/z),.bool true].toArray):=by
 refine am Tryz.func172 17 (WOK.start [] _) ?_;refine rn [1,3,3,0,8,1,2,2,55,0] ?_;refine zB rfl (fun h1=>?_) (fun h1=>?_)
 ·exfalso;have h9:=bW h1;omega
 refine rn [12,7,1,2,2,2] ?_;refine aa (zH rfl (fun w1 a6=>by have h7:=oG x.toNat y.toNat z.toNat w1 aK aK aK aK;rw[Int.toNat_of_nonneg hx.1,Int.toNat_of_nonneg hy,Int.toNat_of_nonneg (show 0<=z by omega)] at h7;exact h7) rfl ?_);refine rn [40,40,3,3,0,11] ?_;exact dE rfl rfl rfl fun w' a5=>⟨by rw[Int.natCast_ediv,Int.natCast_mul,Int.toNat_of_nonneg hx.1,Int.toNat_of_nonneg hy,Int.toNat_of_nonneg (show 0<=z by omega)],a5.upd⟩
end Go.Proofs.YtdddiilocbbkkaaGreat
