/- TopDrains: for every configuration and all operations the law returns true. No condition. Part 24 of 28. -/
import Derived.Test.YtdddiilocbbkkaaGreatTD23
set_option linter.unusedVariables false
set_option linter.unusedSimpArgs false
namespace Go.Proofs.YtdddiilocbbkkaaGreat
open Go.RowKit Go.Eg
set_option maxHeartbeats 4000000
set_option synthInstance.maxSize 3000
set_option maxRecDepth 100000
def zO:Op:=⟨0,0,0,0⟩
def decS (s:Op × List Nat) (j:Nat):Op × List Nat:=(setO j s.1 ((rdN (s.2.take (szO j)):Nat):Int),s.2.drop (szO j))
def decK (js:List Nat) (s:Op × List Nat) (k:Nat):Op × List Nat:=(js.take k).foldl decS s
theorem decK_succ {js:List Nat} {s:Op × List Nat} {k:Nat} (h:k<js.length):decK js s (k+1)=decS (decK js s k) js[k]:=wJ _ _ h
def decO (k:Nat) (rest:List Nat):Op:=(decK (opsL k) (⟨k,0,0,0⟩,rest) (opsL k).length).1
def decP (bs:List Nat) (p:Nat):Op × Nat × Bool :=
 if h:p<bs.length then
  if szK bs[p]=0 then(zO,p+1,true) else if bs.length-p<szK bs[p] then(zO,bs.length,true) else(decO bs[p] (bs.drop (p+1)),p+szK bs[p],true)
 else(zO,0,false)
theorem pJ:∀{l:List Nat} {k:Nat},k≤l.length→((l.take k).map szO).sum≤(l.map szO).sum
 | [],_,_=>by simp
 | a :: l,0,_=>by simp
 | a :: l,k+1,h=>by
  have:=pJ (l:=l) (k:=k) (by simpa using h)
  simp only[List.take_succ_cons,List.map_cons,List.sum_cons];omega
theorem decK_len {js:List Nat} {s:Op × List Nat}:∀k,k≤js.length→((js.map szO).sum≤s.2.length)→(decK js s k).2.length+((js.take k).map szO).sum=s.2.length∧∀(h:k<js.length),szO js[k]≤(decK js s k).2.length
 | 0,_,hs=>by
  refine⟨by simp[decK],fun h=>?_⟩
  have:=xW (l:=js) (k:=0) h
  have h2:=pJ (l:=js) (k:=1) h
  simp[decK] at this h2 ⊢;omega
 | k+1,h,hs=>by
  obtain⟨h1,h2⟩:=decK_len (js:=js) (s:=s) k (by omega) hs
  have h3:=h2 (by omega)
  rw[decK_succ (by omega)]
  have h4:=xW (l:=js) (k:=k) (by omega)
  have h5:(decS (decK js s k) js[k]).2.length+((js.take (k+1)).map szO).sum=s.2.length:=by
   show((decK js s k).2.drop (szO js[k])).length+_=_
   rw[h4,List.length_drop];omega
  refine⟨h5,fun h6=>?_⟩
  have h7:=xW (l:=js) (k:=k+1) h6
  have h8:=pJ (l:=js) (k:=k+1+1) (by omega)
  omega
theorem decK_by {js:List Nat} {s:Op × List Nat} (hb:∀b∈s.2,b<256) (k:Nat):∀b∈(decK js s k).2,b<256:=by
 have key:∀(js:List Nat) (s:Op × List Nat),(∀b∈s.2,b<256)→∀b∈(js.foldl decS s).2,b<256:=fun js=>by
  induction js with
  | nil=>exact fun _ h=>h
  | cons j js ih=>exact fun s h=>ih _ fun b hb=>h b (List.mem_of_mem_drop hb)
 exact key _ _ hb
theorem odec_any (A:Option Addr) (n cap p:Nat) (bs:List Nat) (w:World) (hrd:Rd w [] A n 1 (bs.map (fun v:Nat=>[Value.int .u8 ((v:Nat):Int)]))) (hcap:n≤cap) (hn:n≤1000000) (hpm:p≤2000000) (hby:∀b∈bs,b<256):Pur Tryz.prog 186 [.slice A n cap,.int .i64 (p:Int)] w (.tuple [.agg (Op.c (decP bs p).1).toArray,.int .i64 (((decP bs p).2.1:Nat):Int),.bool (decP bs p).2.2].toArray):=by
 refine g_st Tryz.func186 78 (WOK.start [] _) ?_
 have hm:n=bs.length:=by have:=hrd.old.len;simpa using this
 refine rn [1] ?_
 refine g_op (zK rfl fun b4=>?_)
 refine rn [3,3,0,8,1,2,46,2] ?_
 refine zU 17 rfl (fun h1=>?_) (fun h1=>?_)
 ·exfalso;have h9:=of_decide_eq_true h1;omega
 ·refine rn [22,2,22,2,22,47,22,53,42,0] ?_
  refine zC rfl (fun h2=>?_) (fun h2=>?_)
  ·have hp:¬p<bs.length:=by have h9:=of_decide_eq_true h2;omega
   have hD:decP bs p=(zO,0,false):=by unfold decP;rw[dif_neg hp]
   refine rn [1,49,33,3,3,0,11,13] ?_
   exact fin3 rfl (.cellw rfl rfl) (.tmp rfl) (.tmp rfl) (fun w' hw' => ⟨by rw[hD];rfl,hw'.upd⟩) _ (.inl rfl)
  ·have hp:p<bs.length:=by have h9:=of_decide_eq_false h2;omega
   obtain⟨kb,hkb⟩:∃z,z=bs[p]:=⟨_,rfl⟩
   have hb9:kb<256:=hkb ▸ hby _ (List.getElem_mem hp)
   have hz9:=szK_le ((kb:Nat):Int)
   refine rn [12,7,1,2,2] ?_
   refine s_q (zP (i:=p) rfl rfl rfl hrd.rdb (by first|omega|(simp;done)|(simp;omega))) rfl ?_
   refine s_q (yI (i:=p) (o:=0) rfl hrd.rdb (zR (by first|assumption|omega)) rfl rfl) rfl ?_
   refine g_val 27 (v' := .int .u8 ((kb:Nat):Int)) rfl (by rw[hkb]) ?_
   refine s_q (yR (z:=((kb:Nat):Int)) rfl (wi64 (by omega) (by omega))) rfl ?_
   refine rn [3,0,8,1,2] ?_
   refine g_op (zI rfl (fun w1 hw1=>size_any (((kb:Nat):Int)) w1 (by omega)) rfl ?_)
   refine rn [3,0,14,1,2,44,3,0] ?_
   refine zC rfl (fun h3=>?_) (fun h3=>?_)
   ·have hs:szK ((kb:Nat):Int)=0:=by have h9:=of_decide_eq_true h3;omega
    have hD:decP bs p=(zO,p+1,true):=by unfold decP;rw[dif_pos hp,←hkb,if_pos hs]
    refine rn [1,49,2,43,33,3,3,0,11] ?_
    refine zM (zE ?_)
    exact fin3 rfl (.cellw rfl rfl) (.tmp rfl) (.tmp rfl) (fun w' hw' => ⟨by rw[hD];rfl,hw'.upd⟩) _ (.inl rfl)
   ·have hs:¬szK ((kb:Nat):Int)=0:=by have h9:=of_decide_eq_false h3;omega
    refine rn [1,2,47,2] ?_
    refine s_q (sJ (a:=n) (b:=p) rfl rfl (by first|omega|(simp;omega)|(simp_all;omega)) (by first|omega|(simp;omega)|(simp_all;omega))) rfl ?_
    refine rn [2,46,3,0] ?_
    refine zC rfl (fun h4=>?_) (fun h4=>?_)
    ·have ht:bs.length-p<szK ((kb:Nat):Int):=by have h9:=of_decide_eq_true h4;omega
     have hD:decP bs p=(zO,bs.length,true):=by unfold decP;rw[dif_pos hp,←hkb,if_neg hs,if_pos ht]
     refine rn [1,49,2,47,33,3,3,0,11] ?_
     refine zM (zE ?_)
     exact fin3 rfl (.cellw rfl rfl) (.tmp rfl) (.tmp rfl) (fun w' hw' => ⟨by rw[hD,hm];rfl,hw'.upd⟩) _ (.inl rfl)
    ·have ht:¬bs.length-p<szK ((kb:Nat):Int):=by have h9:=of_decide_eq_false h4;omega
     have hD:decP bs p=(decO kb (bs.drop (p+1)),p+szK ((kb:Nat):Int),true):=by unfold decP;rw[dif_pos hp,←hkb,if_neg hs,if_neg ht]
     have hB:opsB ((kb:Nat):Int)=true:=by unfold szK at hs;split at hs<;>simp_all
     have hsum:((opsL ((kb:Nat):Int)).map szO).sum≤(bs.drop (p+1)).length:=by unfold szK at ht;rw[if_pos hB] at ht;simp only[List.length_drop];omega
     have hrt:=hrd.sub (cap:=cap) (l:=p+1) (m:=n) (by omega) (Nat.le_refl _) hcap
     rw[List.take_of_length_le (by simp;omega),←List.map_drop] at hrt
     refine rn [12,15,7,1,2,49] ?_
     refine g_op (zK rfl fun b9=>?_)
     refine rn [33] ?_
     refine zF (b:=b9) (Op.c (decK (opsL ((kb:Nat):Int)) ((⟨((kb:Nat):Int),0,0,0⟩:Op),bs.drop (p+1)) 0).1) (by rfl) ?_
     refine rn [0,1,2,2,43] ?_
     refine s_q (xG (l:=p+1) rfl rfl rfl (by omega)) rfl ?_
     refine g_op (zG [] rfl (fun w1 hw1 ho1=>by have h7:=reader_any (subA A cap (p+1) 1) ((n-(p+1))) ((cap-(p+1))) w1;exact h7) rfl ?_)
     rintro b53 _
     refine ii ?_
     refine rn [3,0,1,2] ?_
     refine g_op (zG [] rfl (fun w1 hw1 ho1=>by have h7:=uL (((kb:Nat):Int)) w1 (by omega);exact h7) rfl ?_)
     rintro⟨A56,cap56⟩ _
     refine ii ?_
     refine rn [2,40,40,3,3,0,8,1,2,47,2,0,14] ?_
     refine g_lk [1,4,5,6,7,9,10,59,60] (fun(x:Nat × Option Addr × Nat × Nat)=>[(61,.int .i64 ((x.1:Nat):Int))]) (fun(x:Nat × Option Addr × Nat × Nat)=>[Res.blk b4 35 [Value.int .i64 0,.int .i64 0,.int .i64 0,.int .u64 0],Res.row A56 (opsL ((kb:Nat):Int)).length cap56 324 3 ((opsL ((kb:Nat):Int)).map OD.c),Res.blk b9 35 (Op.c (decK (opsL ((kb:Nat):Int)) ((⟨((kb:Nat):Int),0,0,0⟩:Op),bs.drop (p+1)) x.1).1),Res.blk b53 56 [Value.slice x.2.1 x.2.2.1 x.2.2.2]]) (fun(x:Nat × Option Addr × Nat × Nat)=>x.1≤(opsL ((kb:Nat):Int)).length∧Rd w [] x.2.1 x.2.2.1 1 ((decK (opsL ((kb:Nat):Int)) ((⟨((kb:Nat):Int),0,0,0⟩:Op),bs.drop (p+1)) x.1).2.map (fun v:Nat=>[Value.int .u8 ((v:Nat):Int)]))∧x.2.2.1≤x.2.2.2) (fun(x:Nat × Option Addr × Nat × Nat)=>(opsL ((kb:Nat):Int)).length-x.1) (0,(subA A cap (p+1) 1),(n-(p+1)),(cap-(p+1))) (by(try dsimp only);exact⟨Nat.zero_le _,hrt,(by omega)⟩) ?_
     rintro⟨k,A9,n9,c9⟩ ⟨le_k,hr9,hn9⟩
     replace le_k:k≤(opsL ((kb:Nat):Int)).length:=le_k
     replace hr9:Rd w [] A9 n9 1 ((decK (opsL ((kb:Nat):Int)) ((⟨((kb:Nat):Int),0,0,0⟩:Op),bs.drop (p+1)) k).2.map (fun v:Nat=>[Value.int .u8 ((v:Nat):Int)])):=hr9
     replace hn9:n9≤c9:=hn9
     refine zV (L' := [Res.blk b4 35 [Value.int .i64 0,.int .i64 0,.int .i64 0,.int .u64 0],Res.row A56 (opsL ((kb:Nat):Int)).length cap56 324 3 ((opsL ((kb:Nat):Int)).map OD.c),Res.blk b9 35 (Op.c (decK (opsL ((kb:Nat):Int)) ((⟨((kb:Nat):Int),0,0,0⟩:Op),bs.drop (p+1)) k).1),Res.blk b53 56 [Value.slice A9 n9 c9]]) rfl ?_
     refine g_val 61 (v' := .int .i64 ((k:Nat):Int)) rfl rfl ?_
     have hel:n9=(decK (opsL ((kb:Nat):Int)) ((⟨((kb:Nat):Int),0,0,0⟩:Op),bs.drop (p+1)) k).2.length:=by have h9:=hr9.old.len;simpa using h9
     obtain⟨hl9,hs9⟩:=decK_len (js:=(opsL ((kb:Nat):Int))) (s:=((⟨((kb:Nat):Int),0,0,0⟩:Op),bs.drop (p+1))) k (by omega) hsum
     have hby9:=decK_by (js:=(opsL ((kb:Nat):Int))) (s:=((⟨((kb:Nat):Int),0,0,0⟩:Op),bs.drop (p+1))) (fun b hb=>hby b (List.mem_of_mem_drop hb)) k
     have hol9:=tD ((kb:Nat):Int)
     refine rn [1,46,0,8] ?_
     refine zC rfl (fun h5=>?_) (fun h5=>?_)
     ·have lt_k:k<(opsL ((kb:Nat):Int)).length:=by have h9:=of_decide_eq_true h5;omega
      have hz8:=hs9 lt_k
      obtain⟨jk,hjk⟩:∃z,z=(opsL ((kb:Nat):Int))[k]:=⟨_,rfl⟩
      have hj2:jk≤2:=hjk ▸ opsL_le _ _ (List.getElem_mem lt_k)
      rw[←hjk] at hz8
      have hz7:=pH jk
      have hbS:HasB Tryz.prog (setF jk):=hasS hj2
      have hk9:(decK (opsL ((kb:Nat):Int)) ((⟨((kb:Nat):Int),0,0,0⟩:Op),bs.drop (p+1)) (k+1))=decS (decK (opsL ((kb:Nat):Int)) ((⟨((kb:Nat):Int),0,0,0⟩:Op),bs.drop (p+1)) k) jk:=by rw[hjk];exact decK_succ lt_k
      have hr8:=hr9.sub (cap:=c9) (l:=szO jk) (m:=n9) (by omega) (Nat.le_refl _) hn9
      rw[List.take_of_length_le (by simp;omega),←List.map_drop] at hr8
      rw[show(decK (opsL ((kb:Nat):Int)) ((⟨((kb:Nat):Int),0,0,0⟩:Op),bs.drop (p+1)) k).2.drop (szO jk)=(decK (opsL ((kb:Nat):Int)) ((⟨((kb:Nat):Int),0,0,0⟩:Op),bs.drop (p+1)) (k+1)).2 from by rw[hk9];rfl] at hr8
      refine rn [12,7,8,14,1] ?_
      refine s_q (zP (i:=k) rfl rfl rfl (ird (A:=A56)) (by first|exact lt_k|omega)) rfl ?_
      refine s_q (zS (i:=k) rfl (ird (A:=A56)) (zR (by first|assumption|omega|(simp_all;done)|(simp_all;omega))) rfl) rfl ?_
      refine g_op (zK rfl fun b14=>?_)
      refine rn [33] ?_
      refine zF (b:=b14) (OD.c jk) (by rw[hjk]) ?_
      refine rn [0] ?_
      refine dregL (L0:=[Res.blk b14 324 (OD.c jk)]) [] mixed rfl zB ?_
      refine rn [23,0,4,23,1,5,23,2,2,23,3,4,23,4,5] ?_
      refine dop 5 rfl (xQ [Res.blk b53 56 [Value.slice A9 n9 c9]] rfl rfl (fun w1 hw1 ho1=>by have h7:=rdr_any b53 A9 (n9) (c9) ((szO jk)) (decK (opsL ((kb:Nat):Int)) ((⟨((kb:Nat):Int),0,0,0⟩:Op),bs.drop (p+1)) k).2 w1 ho1 (Rd.ofOld hw1 hr9.old (by omega) (by simp)) hn9 (by omega) (by omega) hby9;exact h7) rfl ?_)
      rintro⟨⟩ _
      refine ii ?_
      refine dop 6 rfl ((xQ (f:=setF jk) (fst:=[]) (cap:=[]) [Res.blk b9 35 (Op.c (decK (opsL ((kb:Nat):Int)) ((⟨((kb:Nat):Int),0,0,0⟩:Op),bs.drop (p+1)) k).1)] rfl rfl (fun w1 hw1 ho1=>by have h7:=set_all hj2 b9 (decK (opsL ((kb:Nat):Int)) ((⟨((kb:Nat):Int),0,0,0⟩:Op),bs.drop (p+1)) k).1 ((rdN ((decK (opsL ((kb:Nat):Int)) ((⟨((kb:Nat):Int),0,0,0⟩:Op),bs.drop (p+1)) k).2.take (szO jk)):Nat):Int) w1 ho1;exact h7) rfl ?_))
      rintro⟨⟩ _
      refine ii ?_
      refine rn [27,15,7,10,43,2,9] ?_
      refine zF (b:=b9) (Op.c (decK (opsL ((kb:Nat):Int)) ((⟨((kb:Nat):Int),0,0,0⟩:Op),bs.drop (p+1)) (k+1)).1) (by rw[hk9];rfl) ?_
      exact g_ag ((k+1),(subA A9 c9 (szO jk) 1),(n9-szO jk),(c9-szO jk)) (by(try dsimp only);exact⟨(by first|exact lt_k|omega),hr8,(by omega)⟩)
     ·have eq_k:k=(opsL ((kb:Nat):Int)).length:=by have h9:=of_decide_eq_false h5;omega
      subst eq_k
      refine rn [16] ?_
      refine zD (zD (zN ?_))
      refine rn [7,8] ?_
      refine dregL (L0:=[Res.blk b9 35 (Op.c (decK (opsL ((kb:Nat):Int)) ((⟨((kb:Nat):Int),0,0,0⟩:Op),bs.drop (p+1)) (opsL ((kb:Nat):Int)).length).1)]) [5] mixed rfl zB ?_
      refine rn [23,0,45,24,1,2,24,2,2] ?_
      refine dop 3 rfl (zI rfl (fun w1 hw1=>size_any (((kb:Nat):Int)) w1 (by omega)) rfl ?_)
      refine dp 4 rfl (fun _=>vQ (a:=p) (b:=(szK ((kb:Nat):Int))) rfl rfl (by first|omega|(simp;omega)|(simp_all;omega))) ?_
      refine dop 5 rfl (zQ rfl rfl rfl rfl rfl ?_)
      refine rn [24,6,3,24,7,3,28,7,11] ?_
      exact fin3 rfl (.cellw rfl rfl) (.tmp rfl) (.tmp rfl) (fun w' hw' => ⟨by rw[hD];unfold decO;rfl,hw'.upd⟩) _ (.inl rfl)
def vN (j:Nat) (y:Op):Nat:=(getV j y).toNat
theorem vN_eq {y:Op} (hy:y.ok) (j:Nat):getV j y=((vN j y:Nat):Int):=by
 have h0:0≤getV j y:=by
  unfold getV
  split
  ·exact hy.a.1
  ·rw[IntKind.wrap_u64];omega
  ·rw[IntKind.wrap_u64];omega
 unfold vN;omega
def beB (n v i:Nat):List Nat:=(List.range i).map fun t=>v/2 ^ (8*(n-1-t))%256
theorem beB_succ (n v i:Nat):beB n v (i+1)=beB n v i++[v/2 ^ (8*(n-1-i))%256]:=by unfold beB;rw[List.range_succ,List.map_append];rfl
theorem beB_len (n v i:Nat):(beB n v i).length=i:=by simp[beB]
def wrK (y:Op) (k:Nat):List Nat:=y.k.toNat :: ((opsL y.k).take k).flatMap fun j=>beB (szO j) (vN j y) (szO j)
def wrB (y:Op):List Nat:=if opsB y.k=true then wrK y (opsL y.k).length else []
theorem wrK_succ {y:Op} {k:Nat} (h:k<(opsL y.k).length):wrK y (k+1)=wrK y k++beB (szO (opsL y.k)[k]) (vN (opsL y.k)[k] y) (szO (opsL y.k)[k]):=by
 unfold wrK;rw[←List.take_append_getElem h,List.flatMap_append];simp
theorem wrK_len (y:Op):∀k,k≤(opsL y.k).length→(wrK y k).length=1+(((opsL y.k).take k).map szO).sum
 | 0,_=>by simp[wrK]
 | k+1,h=>by rw[wrK_succ (by omega),List.length_append,wrK_len y k (by omega),beB_len,xW (by omega)];omega
theorem write_any (y:Op) (w:World) (hy:y.ok):Own2 (ι:=(Option Addr × Nat)) Tryz.prog 142 [.agg y.c.toArray] w [] (fun x=>True) (fun x=>.tuple [.slice x.1 (wrB y).length x.2,.bool (opsB y.k)].toArray) (fun x=>[Res.row x.1 (wrB y).length x.2 5 1 ((wrB y).map (fun v:Nat=>[Value.int .u8 ((v:Nat):Int)]))]) (fun x=>[]):=by
 refine g_st Tryz.func142 48 (WOK.start (fps []) _) ?_
 refine rn [1] ?_
 refine g_op (g_box rfl rfl rfl fun b1=>?_)
 refine rn [3,3,0,1,4,5] ?_
 refine g_op (zG [] rfl (fun w1 hw1 ho1=>by have h7:=uL ((y).k) w1 hy.k;exact h7) rfl ?_)
 rintro⟨A13,cap13⟩ _
 refine ii ?_
 refine rn [2,40,40,3,3,0,8,1,2,48,0] ?_
 refine zC rfl (fun h1=>?_) (fun h1=>?_)
 ·have hB:opsB y.k=false:=by simpa using h1
  have hW:wrB y=[]:=by unfold wrB;rw[hB];rfl
  refine rn [1,3,3,0,11,13] ?_
  refine zX none 5 1 (([]:List Nat).map (fun v:Nat=>[Value.int .u8 ((v:Nat):Int)])) (by rfl) ?_
  exact fin2 rfl (.tmp rfl) (.tmp rfl) (fun w' hw' => ⟨((none:Option Addr),(0:Nat)),(by exact trivial),by rw[hW,hB];rfl,by rw[hW];exact zA w' hw'⟩) _ (.inl rfl)
 ·have hB:opsB y.k=true:=by simpa using h1
  have hk7:1≤y.k∧y.k≤7:=of_decide_eq_true hB
  have hW:wrB y=wrK y (opsL y.k).length:=by unfold wrB;rw[hB];rfl
  refine rn [12,7,1,4,5] ?_
  refine s_q (yR (z:=((y.k.toNat:Nat):Int)) rfl (by rw[show(((y.k.toNat:Nat)):Int)=y.k by omega];simp only[IntKind.wrap_u8];omega)) rfl ?_
  refine g_op (g_lit rfl rfl rfl rfl rfl fun b21=>?_)
  refine zF (b:=b21) ((([y.k.toNat]:List Nat).map (fun v:Nat=>[Value.int .u8 ((v:Nat):Int)])).flatten) rfl ?_
  refine rn [3,0,8,1,2,47,2,0,14] ?_
  refine zF (b:=b21) (((wrK y 0).map (fun v:Nat=>[Value.int .u8 ((v:Nat):Int)])).flatten) (by rfl) ?_
  refine xR (b:=b21) 1 1 ((wrK y 0).map (fun v:Nat=>[Value.int .u8 ((v:Nat):Int)])) (zW (c:=(fun v:Nat=>[Value.int .u8 ((v:Nat):Int)])) (fun _=>rfl) _) rfl rfl (by decide) ?_
  refine yB (A:=some ⟨b21,0,none⟩) (wrK y 0).length (by rfl) ?_
  refine g_val 6 (v' := .slice (some ⟨b21,0,none⟩) (wrK y 0).length 1) rfl (by rfl) ?_
  refine g_lk [1,2,3,22,23] (fun(x:Nat × Option Addr × Nat)=>[(6,.slice x.2.1 (wrK y x.1).length x.2.2),(24,.int .i64 ((x.1:Nat):Int))]) (fun(x:Nat × Option Addr × Nat)=>[Res.blk b1 35 y.c,Res.row A13 (opsL y.k).length cap13 324 3 ((opsL y.k).map OD.c),Res.row x.2.1 ((wrK y x.1)).length x.2.2 5 1 (((wrK y x.1)).map (fun v:Nat=>[Value.int .u8 ((v:Nat):Int)]))]) (fun(x:Nat × Option Addr × Nat)=>x.1≤(opsL y.k).length) (fun(x:Nat × Option Addr × Nat)=>(opsL y.k).length-x.1) (0,(some ⟨b21,0,none⟩),1) (by(try dsimp only);exact Nat.zero_le _) ?_
  rintro⟨k,A9,c9⟩ le_k
  replace le_k:k≤(opsL y.k).length:=le_k
  refine zV (L' := [Res.blk b1 35 y.c,Res.row A13 (opsL y.k).length cap13 324 3 ((opsL y.k).map OD.c),Res.row A9 ((wrK y k)).length c9 5 1 (((wrK y k)).map (fun v:Nat=>[Value.int .u8 ((v:Nat):Int)]))]) rfl ?_
  refine g_val 6 (v' := .slice A9 (wrK y k).length c9) rfl rfl ?_
  refine g_val 24 (v' := .int .i64 ((k:Nat):Int)) rfl rfl ?_
  have hol9:=tD y.k
  have hwl9:=wrK_len y k (by omega)
  have hwm9:=wR (opsL y.k) k
  refine rn [1,46,0,8] ?_
  refine zC rfl (fun h2=>?_) (fun h2=>?_)
  ·have lt_k:k<(opsL y.k).length:=by have h9:=of_decide_eq_true h2;omega
   obtain⟨jk,hjk⟩:∃z,z=(opsL y.k)[k]:=⟨_,rfl⟩
   have hj2:jk≤2:=hjk ▸ opsL_le _ _ (List.getElem_mem lt_k)
   have hk9:(wrK y (k+1))=wrK y k++beB (szO jk) (vN jk y) (szO jk):=by rw[hjk];exact wrK_succ lt_k
   have hz7:=pH jk
   have hbG:HasB Tryz.prog (getF jk):=hasG hj2
   refine rn [12,7,8,14,1] ?_
   refine s_q (zP (i:=k) rfl rfl rfl (ird (A:=A13)) (by first|exact lt_k|omega)) rfl ?_
   refine s_q (zS (i:=k) rfl (ird (A:=A13)) (zR (by first|assumption|omega|(simp_all;done)|(simp_all;omega))) rfl) rfl ?_
   refine g_op (zK rfl fun b8=>?_)
   refine rn [33] ?_
   refine zF (b:=b8) (OD.c jk) (by rw[hjk]) ?_
   refine rn [0,1,4,5] ?_
   refine s_q (yZ (z:=(szO jk:Int)-1-((0:Nat):Int)) rfl rfl (by rw[wi64 (by omega) (by omega)];omega)) rfl ?_
   refine rn [3,0,14] ?_
   refine zH (A:=A9) ((wrK y k++beB (szO jk) (vN jk y) 0).map (fun v:Nat=>[Value.int .u8 ((v:Nat):Int)])) (by simp[beB]) ?_
   refine yB (A:=A9) (wrK y k++beB (szO jk) (vN jk y) 0).length (by simp[beB]) ?_
   refine g_val 6 (v' := .slice A9 (wrK y k++beB (szO jk) (vN jk y) 0).length c9) rfl (by simp[beB]) ?_
   refine g_lk [1,2,3,8,22,23,24] (fun(x:Nat × Option Addr × Nat)=>[(6,.slice x.2.1 (wrK y k++beB (szO jk) (vN jk y) x.1).length x.2.2),(9,.int .i64 ((szO jk:Int)-1-((x.1:Nat):Int)))]) (fun(x:Nat × Option Addr × Nat)=>[Res.blk b8 324 (OD.c jk),Res.blk b1 35 y.c,Res.row A13 (opsL y.k).length cap13 324 3 ((opsL y.k).map OD.c),Res.row x.2.1 ((wrK y k++beB (szO jk) (vN jk y) x.1)).length x.2.2 5 1 (((wrK y k++beB (szO jk) (vN jk y) x.1)).map (fun v:Nat=>[Value.int .u8 ((v:Nat):Int)]))]) (fun(x:Nat × Option Addr × Nat)=>x.1≤szO jk) (fun(x:Nat × Option Addr × Nat)=>szO jk-x.1) (0,A9,c9) (by(try dsimp only);exact(by omega)) ?_
   rintro⟨i,A8,c8⟩ le_i
   replace le_i:i≤szO jk:=le_i
   refine zV (L' := [Res.blk b8 324 (OD.c jk),Res.blk b1 35 y.c,Res.row A13 (opsL y.k).length cap13 324 3 ((opsL y.k).map OD.c),Res.row A8 ((wrK y k++beB (szO jk) (vN jk y) i)).length c8 5 1 (((wrK y k++beB (szO jk) (vN jk y) i)).map (fun v:Nat=>[Value.int .u8 ((v:Nat):Int)]))]) rfl ?_
   refine g_val 6 (v' := .slice A8 (wrK y k++beB (szO jk) (vN jk y) i).length c8) rfl rfl ?_
   refine g_val 9 (v' := .int .i64 ((szO jk:Int)-1-((i:Nat):Int))) rfl rfl ?_
   have hbl9:=beB_len (szO jk) (vN jk y) i
   refine rn [8,1,2,53,0] ?_
   refine zC rfl (fun h3=>?_) (fun h3=>?_)
   ·have lt_i:i<szO jk:=by have h9:=of_decide_eq_true h3;omega
    have hi9:(wrK y k++beB (szO jk) (vN jk y) (i+1))=(wrK y k++beB (szO jk) (vN jk y) i)++[(vN jk y/2 ^ (8*(szO jk-1-i))%256)]:=by rw[beB_succ,List.append_assoc]
    refine rn [12,7,8,14,10,2,4,5,45] ?_
    refine g_op ((g_purevE (f:=getF jk) rfl rfl (fun w1 hw1=>get_all hj2 y w1) rfl ?_))
    refine g_val 39 (v' := .int .u64 ((vN jk y:Nat):Int)) rfl (by rw[vN_eq hy]) ?_
    refine rn [2] ?_
    refine s_q (uJ (z:=((8*(szO jk-1-i):Nat):Int)) rfl rfl (by rw[wi64 (by omega) (by omega)];omega)) rfl ?_
    refine s_q (uH (a:=vN jk y) (n:=8*(szO jk-1-i)) rfl rfl (by omega)) rfl ?_
    refine s_q (yR (z:=(((vN jk y/2 ^ (8*(szO jk-1-i))%256):Nat):Int)) rfl (by simp only[IntKind.wrap_u8];omega)) rfl ?_
    refine g_op (g_lit rfl rfl rfl rfl rfl fun b44=>?_)
    refine zF (b:=b44) ((([(vN jk y/2 ^ (8*(szO jk-1-i))%256)]:List Nat).map (fun v:Nat=>[Value.int .u8 ((v:Nat):Int)])).flatten) rfl ?_
    refine g_op (zZ (A:=A8) (els:=((wrK y k++beB (szO jk) (vN jk y) i)).map (fun v:Nat=>[Value.int .u8 ((v:Nat):Int)])) (news:=(([(vN jk y/2 ^ (8*(szO jk-1-i))%256)]:List Nat).map (fun v:Nat=>[Value.int .u8 ((v:Nat):Int)]))) rfl rfl (InL.rdb (b:=b44) rfl (by simp) rfl) (yF (c:=(fun v:Nat=>[Value.int .u8 ((v:Nat):Int)])) (by intro x;simp[Value.oneCell']) _) (by first|omega|(simp;omega)|(simp_all;omega)) rfl fun A45 cap45=>⟨_,inferInstance,?_⟩)
    refine zH (A:=A45) ((((wrK y k++beB (szO jk) (vN jk y) i)++[(vN jk y/2 ^ (8*(szO jk-1-i))%256)])).map (fun v:Nat=>[Value.int .u8 ((v:Nat):Int)])) (by first|rfl|exact List.map_append.symm|(simp;done)) ?_
    refine rn [3,9,15,7,10,2] ?_
    refine s_q (yZ (z:=(szO jk:Int)-1-((i+1:Nat):Int)) rfl rfl (by rw[wi64 (by omega) (by omega)];omega)) rfl ?_
    refine rn [3,9] ?_
    refine zH (A:=A45) ((wrK y k++beB (szO jk) (vN jk y) (i+1)).map (fun v:Nat=>[Value.int .u8 ((v:Nat):Int)])) (by rw[hi9]) ?_
    refine yB (A:=A45) (wrK y k++beB (szO jk) (vN jk y) (i+1)).length (by rw[hi9];simp;omega) ?_
    refine g_val 6 (v' := .slice A45 (wrK y k++beB (szO jk) (vN jk y) (i+1)).length cap45) rfl (by rw[hi9];simp;omega) ?_
    exact g_ag ((i+1),A45,cap45) (by(try dsimp only);exact(by omega))
   ·have eq_i:i=szO jk:=by have h9:=of_decide_eq_false h3;omega
    refine rn [16] ?_
    refine zD (zD (zN ?_))
    refine rn [15,7,10,43,2,9] ?_
    rw[eq_i] at *
    refine zH (A:=A8) ((wrK y (k+1)).map (fun v:Nat=>[Value.int .u8 ((v:Nat):Int)])) (by rw[hk9]) ?_
    refine yB (A:=A8) (wrK y (k+1)).length (by rw[hk9]) ?_
    refine g_val 6 (v' := .slice A8 (wrK y (k+1)).length c8) rfl (by rw[hk9]) ?_
    exact g_ag ((k+1),A8,c8) (by(try dsimp only);exact(by first|exact lt_k|omega))
  ·have eq_k:k=(opsL y.k).length:=by have h9:=of_decide_eq_false h2;omega
   refine rn [16] ?_
   refine zD (zD (zN ?_))
   refine rn [7,1,2,3,3,0,11] ?_
   subst eq_k
   exact fin2 rfl (.tmp rfl) (.tmp rfl) (fun w' hw' => ⟨(A9,c9),(by exact trivial),by rw[hW,hB],by rw[hW];exact zA w' hw'⟩) _ (.inl rfl)
def okE (y:Op):Bool:=opsB y.k && decide ((decP (wrB y) 0).1=y)
theorem ok_B {y:Op} (h:okE y=true):opsB y.k=true:=by unfold okE at h;simp at h;exact h.1
theorem wrB_by {y:Op}:∀b∈wrB y,b<256:=fun b hb=>by
 unfold wrB at hb
 split at hb
 ·rename_i hB
  have hB:1≤y.k∧y.k≤7:=of_decide_eq_true hB
  unfold wrK at hb
  rcases List.mem_cons.1 hb with rfl|hb
  ·omega
  ·obtain⟨j,_,hb⟩:=List.mem_flatMap.1 hb
   obtain⟨t,_,rfl⟩:=List.mem_map.1 hb
   exact Nat.mod_lt _ (by decide)
 ·simp at hb
theorem wrB_len (y:Op):(wrB y).length≤17:=by
 unfold wrB
 split
 ·rw[wrK_len y _ (Nat.le_refl _)]
  have h1:=wR (opsL y.k) (opsL y.k).length
  have h2:=tD y.k
  omega
 ·simp
theorem valid_op (y:Op) (w:World) (hy:y.ok):Pur Tryz.prog 141 [.agg y.c.toArray] w (.bool (okE y)):=by
 refine g_st Tryz.func141 24 (WOK.start [] _) ?_
 refine rn [1] ?_
 refine g_op (g_box rfl rfl rfl fun b1=>?_)
 refine rn [3,0,1,45] ?_
 refine g_op (zG [] rfl (fun w1 hw1 ho1=>by have h7:=write_any y w1 hy;exact h7) rfl ?_)
 rintro⟨A10,cap10⟩ _
 refine ii ?_
 refine rn [2,40,40,3,3,0,8,1,2,48,0] ?_
 refine zC rfl (fun h1=>?_) (fun h1=>?_)
 ·have hB:opsB y.k=false:=by simpa using h1
  refine rn [1,3,0,11,13] ?_
  exact fin1 rfl (.tmp rfl) (fun w' hw' => ⟨by unfold okE;rw[hB];rfl,hw'.upd⟩) _ (.inl rfl)
 ·have hB:opsB y.k=true:=by simpa using h1
  have hwl:=wrB_len y
  refine rn [12,7,1,2] ?_
  refine g_op (zI rfl (fun w1 hw1=>odec_any A10 ((wrB y).length) (cap10) 0 (wrB y) w1 (Rd.ofRow (A:=A10) hw1) (pQ (A:=A10) hw1) (by omega) (by omega) wrB_by) rfl ?_)
  refine rn [2,40,40,40] ?_
  refine g_op (zK rfl fun b5=>?_)
  refine rn [33,3,3,0,1,45,45] ?_
  refine s_q (q_eqs rfl rfl rfl) rfl ?_
  refine rn [3,0,11] ?_
  exact fin1 rfl (.tmp rfl) (fun w' hw' => ⟨by unfold okE;rw[hB,Bool.true_and];simp[Op.ext_iff'],hw'.upd⟩) _ (.inl rfl)
theorem oenc_any (y:Op) (w:World) (hy:y.ok) (hv:okE y=true):Own2 (ι:=(Option Addr × Nat)) Tryz.prog 86 [.agg y.c.toArray] w [] (fun x=>True) (fun x=>.tuple [.slice x.1 (wrB y).length x.2,.bool true].toArray) (fun x=>[Res.row x.1 (wrB y).length x.2 5 1 ((wrB y).map (fun v:Nat=>[Value.int .u8 ((v:Nat):Int)]))]) (fun x=>[]):=by
 refine g_st Tryz.func86 11 (WOK.start (fps []) _) ?_
 refine rn [1] ?_
 refine g_op (g_box rfl rfl rfl fun b1=>?_)
 refine rn [3,3,0,8,1,45] ?_
 refine g_op (zI rfl (fun w1 hw1=>valid_op y w1 hy) rfl ?_)
 refine yC 5 (b:=true) rfl (by rw[hv]) ?_
 refine rn [48,0,20,12,7,1,45] ?_
 refine g_op (zG [] rfl (fun w1 hw1 ho1=>by have h7:=write_any y w1 hy;exact h7) rfl ?_)
 rintro⟨A8,cap8⟩ _
 refine ii ?_
 refine rn [40,40,3,3,0,11] ?_
 exact fin2 rfl (.tmp rfl) (.tmp rfl) (fun w' hw' => ⟨(A8,cap8),(by exact trivial),by rw[ok_B hv],zA w' hw'⟩) _ (.inl rfl)
theorem bmul_any (x y:Nat) (w:World) (hx:x<18446744073709551616) (hy:y<18446744073709551616):Pur Tryz.prog 88 [.int .u64 ((x:Nat):Int),.int .u64 ((y:Nat):Int)] w (.tuple [.int .u64 ((x*y/18446744073709551616:Nat):Int),.int .u64 ((x*y%18446744073709551616:Nat):Int)].toArray):=by
 refine g_st Tryz.func88 30 (WOK.start [] _) ?_
 refine rn [1,3,3,0,8,20,12,7,1,2,2] ?_
 refine g_op (zI rfl (fun w1 hw1=>mul64_any x y w1 hx hy) rfl ?_)
 refine rn [2,40,40,3,3,0,1,2,2,3,3,0,11] ?_
 exact fin2 rfl (.tmp rfl) (.tmp rfl) (fun w' hw' => ⟨by rfl,hw'.upd⟩) _ (.inl rfl)
theorem rep_first (z:Op) (n:Nat):(List.replicate n (Op.c zO)).take 0++([z].map Op.c).take (min 1 n)++(List.replicate n (Op.c zO)).drop (0+min 1 n)=List.replicate (min 1 n) (Op.c z)++List.replicate (n-min 1 n) (Op.c zO):=by
 rcases Nat.eq_zero_or_pos n with h0|h0
 ·subst h0;rfl
 ·rw[show min 1 n=1 by omega];simp
theorem rep_copy (z:Op) {n m:Nat} (h:m≤n):((List.replicate m (Op.c z)++List.replicate (n-m) (Op.c zO))).take m++(((List.replicate m (Op.c z)++List.replicate (n-m) (Op.c zO))).take m).take (min m (n-m))++((List.replicate m (Op.c z)++List.replicate (n-m) (Op.c zO))).drop (m+min m (n-m))=(List.replicate (m+min m (n-m)) (Op.c z)++List.replicate (n-(m+min m (n-m))) (Op.c zO)):=by
 have h1:(List.replicate m (Op.c z)++List.replicate (n-m) (Op.c zO)).take m=List.replicate m (Op.c z):=List.take_left' (by simp)
 rw[h1,List.take_replicate,Nat.min_eq_left (Nat.min_le_left _ _),←List.drop_drop,List.drop_left' (by simp),List.drop_replicate,List.replicate_append_replicate]
 congr 2
 omega
theorem rep_any (A:Option Addr) (cap n:Nat) (z:Op) (w:World) (hrd:Rd w [] A 1 4 ([z].map Op.c)) (hn:n≤100000):Own2 (ι:=(Option Addr × Nat)) Tryz.prog 43 [.slice A 1 cap,.int .i64 (n:Int)] w [] (fun x=>True) (fun x=>.slice x.1 (List.replicate n z).length x.2) (fun x=>[Res.row x.1 (List.replicate n z).length x.2 35 4 ((List.replicate n z).map Op.c)]) (fun x=>[]):=by
 refine g_st Tryz.func43 48 (WOK.start (fps []) _) ?_
 refine rn [1,3,0,8,1,2,46,0] ?_
 refine zC rfl (fun h1=>?_) (fun h1=>?_)
 ·exfalso;have h9:=of_decide_eq_true h1;omega
 ·refine rn [12,7,1,2,47] ?_
  refine s_q (yR (z:=((1:Nat):Int)) rfl (wu64 (by omega) (by omega))) rfl ?_
  refine rn [2] ?_
  refine s_q (yR (z:=((n:Nat):Int)) rfl (wu64 (by omega) (by omega))) rfl ?_
  refine g_op (zI rfl (fun w1 hw1=>bmul_any 1 n w1 (by omega) (by omega)) rfl ?_)
  refine g_val 18 (v' := .tuple [.int .u64 ((0:Nat):Int),.int .u64 ((n:Nat):Int)].toArray) rfl (by rw[Nat.one_mul,Nat.div_eq_of_lt (by omega),Nat.mod_eq_of_lt (by omega)]) ?_
  refine rn [2,40,40,3,3,0,8,1,2,55] ?_
  refine yC 22 (b:=false) rfl (by decide) ?_
  refine rn [2,22,2,22,55] ?_
  refine yC 25 (b:=false) rfl (by simp;omega) ?_
  refine rn [42,0,20,12,7,1,2] ?_
  refine s_q (yR (z:=((n:Nat):Int)) rfl (wi64 (by omega) (by omega))) rfl ?_
  refine g_op (rV (n:=n) rfl rfl rfl rfl (by omega) rfl fun g30=>?_)
  refine rn [3,0,1,2,2] ?_
  refine g_op (tK (A:=(some ⟨g30,0,none⟩)) (n:=n) (cap:=n) (els:=List.replicate n (Op.c zO)) (news:=[z].map Op.c) (l:=0) rfl rfl (fun _=>by simp) hrd.rdb (by omega) (by simp[Op.c,Value.oneCell']) rfl ?_)
  refine zH (A:=(some ⟨g30,0,none⟩)) (List.replicate (min 1 n) (Op.c z)++List.replicate (n-(min 1 n)) (Op.c zO)) (rep_first z n) ?_
  refine g_val 33 (v' := .int .i64 ((min 1 n:Nat):Int)) rfl (by rfl) ?_
  refine rn [3,0,8,14] ?_
  refine g_lk [4,7] (fun(x:Nat)=>[(8,.int .i64 ((x:Nat):Int))]) (fun(x:Nat)=>[Res.row (some ⟨g30,0,none⟩) n n 35 4 (List.replicate x (Op.c z)++List.replicate (n-x) (Op.c zO))]) (fun(x:Nat)=>(x≤n∧(0<n→1≤x))) (fun(x:Nat)=>n-x) (min 1 n) (by(try dsimp only);exact(by omega)) ?_
  rintro m9 hm9
  replace hm9:m9≤n∧(0<n→1≤m9):=hm9
  refine rn [8,1,2,2,47,46,0] ?_
  refine zC rfl (fun h2=>?_) (fun h2=>?_)
  ·have lt_m:m9<n:=by have h9:=of_decide_eq_true h2;omega
   refine rn [12,7,14] ?_
   refine dregL (L0:=[]) [] mixed rfl zB ?_
   refine rn [23,0,2,23,1,2,23,2,2] ?_
   refine dq 3 rfl (xG (l:=m9) rfl rfl rfl (by omega)) ?_
   refine rn [23,4,2,23,5,2] ?_
   refine dq 6 rfl (yW (h:=m9) rfl rfl rfl (by omega)) ?_
   refine dop 7 rfl (tK (A:=(some ⟨g30,0,none⟩)) (n:=n) (cap:=n) (els:=(List.replicate m9 (Op.c z)++List.replicate (n-m9) (Op.c zO))) (l:=m9) rfl rfl (fun h0=>by unfold subA;rw[if_neg (by omega)];simp[yP]) (Rdb.h (InRow.rdb (A:=(some ⟨g30,0,none⟩)) (els:=(List.replicate m9 (Op.c z)++List.replicate (n-m9) (Op.c zO))) (by simp;omega) (by intro c hc;rcases List.mem_append.1 hc with hc|hc<;>(rw[List.eq_of_mem_replicate hc];rfl))) (cap:=n) (h:=m9) (by omega) (Nat.le_refl _)) (by omega) (fun c hc=>by rcases List.mem_append.1 (List.mem_of_mem_take hc) with hc|hc<;>(rw[List.eq_of_mem_replicate hc];simp[Op.c,zO,Value.oneCell'])) rfl ?_)
   refine zH (A:=(some ⟨g30,0,none⟩)) (List.replicate (m9+min m9 (n-m9)) (Op.c z)++List.replicate (n-(m9+min m9 (n-m9))) (Op.c zO)) (rep_copy z (by omega)) ?_
   refine dq 8 rfl (vQ (a:=m9) (b:=(min m9 (n-m9))) rfl rfl (by first|omega|(simp;omega)|(simp_all;omega))) ?_
   refine rn [23,9,3,27,15] ?_
   exact g_ag (m9+min m9 (n-m9)) (by(try dsimp only);exact(by omega))
  ·have eq_m:n=m9:=by have h9:=of_decide_eq_false h2;omega
   subst eq_m
   refine rn [16] ?_
   refine zD (zD (zN ?_))
   refine rn [7,1,2,3,0,11] ?_
   refine zH (A:=(some ⟨g30,0,none⟩)) ((List.replicate n z).map Op.c) (by simp) ?_
   refine yB (A:=(some ⟨g30,0,none⟩)) (List.replicate n z).length (by simp) ?_
   exact fin1 rfl (.tmp rfl) (fun w' hw' => ⟨((some ⟨g30,0,none⟩:Option Addr),n),(by exact trivial),by simp,zA w' hw'⟩) _ (.inl rfl)
theorem ticks_any (n:Nat) (w:World) (hn:n≤100000):Own2 (ι:=(Option Addr × Nat)) Tryz.prog 12 [.int .i64 (n:Int)] w [] (fun x=>True) (fun x=>.slice x.1 (List.replicate n (Op.mk 7 0 0 0)).length x.2) (fun x=>[Res.row x.1 (List.replicate n (Op.mk 7 0 0 0)).length x.2 35 4 ((List.replicate n (Op.mk 7 0 0 0)).map Op.c)]) (fun x=>[]):=by
 refine g_st Tryz.func12 9 (WOK.start (fps []) _) ?_
 refine rn [1,3,0,1,49] ?_
 refine g_op (g_lit rfl rfl rfl rfl rfl fun b4=>?_)
 refine zF (b:=b4) ((([(Op.mk 7 0 0 0)]:List Op).map Op.c).flatten) rfl ?_
 refine rn [2] ?_
 refine s_q (pV (a:=n) (b:=0) rfl rfl) rfl ?_
 refine s_q (rQ (a:=(max n 0)) (b:=1048576) rfl rfl) rfl ?_
 refine g_val 7 (v' := .int .i64 ((n:Nat):Int)) rfl (by simp;omega) ?_
 refine g_op (zG [] rfl (fun w1 hw1 ho1=>by have h7:=rep_any (some ⟨b4,0,none⟩) 1 n (Op.mk 7 0 0 0) w1 (Rd.ofBlk (b:=b4) (els:=([(Op.mk 7 0 0 0)]:List Op).map Op.c) hw1 rfl (by simp[Op.c]) rfl) (by omega);exact h7) rfl ?_)
 rintro⟨A8,cap8⟩ _
 refine ii ?_
 refine rn [3,0,11] ?_
 exact fin1 rfl (.tmp rfl) (fun w' hw' => ⟨(A8,cap8),(by exact trivial),rfl,zA w' hw'⟩) _ (.inl rfl)
theorem qJ:∀(l:List Op) (k:Nat),((l.take k).flatMap wrB).length≤17*k
 | [],_=>by simp
 | y :: l,0=>by simp
 | y :: l,k+1=>by
  have h1:=qJ l k
  have h2:=wrB_len y
  simp only[List.take_succ_cons,List.flatMap_cons,List.length_append];omega
theorem flat_wr_succ {l:List Op} {k:Nat} (h:k<l.length):(l.take (k+1)).flatMap wrB=(l.take k).flatMap wrB++wrB l[k]:=by rw[←List.take_append_getElem h,List.flatMap_append];simp
def decF (bs:List Nat):Nat→Nat→List Op
 | 0,_=>[]
 | k+1,p=>if p<bs.length then(decP bs p).1 :: decF bs k (decP bs p).2.1 else []
def decL (bs:List Nat):List Op:=decF bs bs.length 0
theorem decF_end {bs:List Nat} {k p:Nat} (h:¬p<bs.length):decF bs k p=[]:=by
 cases k with
 | zero=>rfl
 | succ k=>simp only[decF];rw[if_neg h]
theorem decF_succ {bs:List Nat} {k p:Nat} (h:p<bs.length):decF bs (k+1) p=(decP bs p).1 :: decF bs k (decP bs p).2.1:=by simp only[decF];rw[if_pos h]
theorem decP_in {bs:List Nat} {p:Nat} (h:p<bs.length):(decP bs p).2.2=true∧p<(decP bs p).2.1∧(decP bs p).2.1≤bs.length:=by
 unfold decP
 rw[dif_pos h]
 split
 ·exact⟨rfl,by simp,by simp only;omega⟩
 ·rename_i h1
  split
  ·exact⟨rfl,h,Nat.le_refl _⟩
  ·exact⟨rfl,by simp only;omega,by simp only;omega⟩
theorem decF_len (bs:List Nat):∀k p,(decF bs k p).length≤k
 | 0,_=>Nat.le_refl _
 | k+1,p=>by
  unfold decF
  split
  ·have:=decF_len bs k (decP bs p).2.1;simp only[List.length_cons];omega
  ·simp
theorem decL_len (bs:List Nat):(decL bs).length≤bs.length:=decF_len _ _ _
theorem senc_any (A:Option Addr) (n cap:Nat) (l:List Op) (w:World) (hrd:Rd w [] A n 4 (l.map Op.c)) (hn:n≤10000) (hv:∀y∈l,y.ok∧okE y=true):Own2 (ι:=(Option Addr × Nat)) Tryz.prog 31 [.slice A n cap] w [] (fun x=>True) (fun x=>.tuple [.slice x.1 (l.flatMap wrB).length x.2,.bool true].toArray) (fun x=>[Res.row x.1 (l.flatMap wrB).length x.2 5 1 ((l.flatMap wrB).map (fun v:Nat=>[Value.int .u8 ((v:Nat):Int)]))]) (fun x=>[]):=by
 refine g_st Tryz.func31 27 (WOK.start (fps []) _) ?_
 have hm:n=l.length:=by have:=hrd.old.len;simpa using this
 refine rn [1,3,3,0,1,3] ?_
 refine xL 4 5 1 rfl fun Az1 capz1 hcz1=>?_
 refine zH (A:=Az1) (([]:List Nat).map (fun v:Nat=>[Value.int .u8 ((v:Nat):Int)])) rfl ?_
 refine rn [0,8,1,2,47,2,0,14] ?_
 refine zH (A:=Az1) (((l.take 0).flatMap wrB).map (fun v:Nat=>[Value.int .u8 ((v:Nat):Int)])) (by simp) ?_
 refine yB (A:=Az1) ((l.take 0).flatMap wrB).length (by simp) ?_
 refine g_val 4 (v' := .slice Az1 ((l.take 0).flatMap wrB).length capz1) rfl (by simp) ?_
 refine g_lk [2,3,9,10] (fun(x:Nat × Option Addr × Nat)=>[(4,.slice x.2.1 ((l.take x.1).flatMap wrB).length x.2.2),(11,.int .i64 ((x.1:Nat):Int))]) (fun(x:Nat × Option Addr × Nat)=>[Res.row x.2.1 (((l.take x.1).flatMap wrB)).length x.2.2 5 1 ((((l.take x.1).flatMap wrB)).map (fun v:Nat=>[Value.int .u8 ((v:Nat):Int)]))]) (fun(x:Nat × Option Addr × Nat)=>x.1≤n) (fun(x:Nat × Option Addr × Nat)=>n-x.1) (0,Az1,capz1) (by(try dsimp only);exact Nat.zero_le _) ?_
 rintro⟨k,A9,c9⟩ le_k
 replace le_k:k≤n:=le_k
 refine zV (L' := [Res.row A9 (((l.take k).flatMap wrB)).length c9 5 1 ((((l.take k).flatMap wrB)).map (fun v:Nat=>[Value.int .u8 ((v:Nat):Int)]))]) rfl ?_
 refine g_val 4 (v' := .slice A9 ((l.take k).flatMap wrB).length c9) rfl rfl ?_
 refine g_val 11 (v' := .int .i64 ((k:Nat):Int)) rfl rfl ?_
 have hfl9:=qJ l k
 refine rn [1,46,0,8] ?_
 refine zC rfl (fun h1=>?_) (fun h1=>?_)
 ·have lt_k:k<n:=by have h9:=of_decide_eq_true h1;omega
  have hkl:k<l.length:=by omega
  obtain⟨yk,hyk⟩:∃z,z=l[k]:=⟨_,rfl⟩
  obtain⟨hy9,hv9⟩:=hv yk (hyk ▸ List.getElem_mem hkl)
  have hs9:=flat_wr_succ hkl
  rw[←hyk] at hs9
  have hwl9:=wrB_len yk
  refine rn [12,7,8,14,1] ?_
  refine s_q (zP (i:=k) rfl rfl rfl hrd.rdb (by first|exact lt_k|omega)) rfl ?_
  refine s_q (zS (i:=k) rfl hrd.rdb (zR (by first|exact(by first|exact lt_k|omega)|omega|(simp_all;done)|(simp_all;omega))) rfl) rfl ?_
  refine g_op (zK rfl fun b6=>?_)
  refine rn [33] ?_
  refine zF (b:=b6) (Op.c yk) (by rw[hyk]) ?_
  refine rn [0,1,45] ?_
  refine g_op (zG [] rfl (fun w1 hw1 ho1=>by have h7:=oenc_any yk w1 hy9 hv9;exact h7) rfl ?_)
  rintro⟨A17,cap17⟩ _
  refine ii ?_
  refine rn [2,40,40,3,3,0,8,1,2,48,0,20,12,7,10,2,2] ?_
  refine g_op (zZ (A:=A9) (els:=(((l.take k).flatMap wrB)).map (fun v:Nat=>[Value.int .u8 ((v:Nat):Int)])) (news:=(((wrB yk)).map (fun v:Nat=>[Value.int .u8 ((v:Nat):Int)]))) rfl rfl (ird (A:=A17)) (yF (c:=(fun v:Nat=>[Value.int .u8 ((v:Nat):Int)])) (by intro x;simp[Value.oneCell']) _) (by first|omega|(simp;omega)|(simp_all;omega)) rfl fun A24 cap24=>⟨_,inferInstance,?_⟩)
  refine zH (A:=A24) (((((l.take k).flatMap wrB)++(wrB yk))).map (fun v:Nat=>[Value.int .u8 ((v:Nat):Int)])) (by first|rfl|exact List.map_append.symm|(simp;done)) ?_
  refine rn [3,9,15,7,10,43,2,9] ?_
  refine zH (A:=A24) (((l.take (k+1)).flatMap wrB).map (fun v:Nat=>[Value.int .u8 ((v:Nat):Int)])) (by rw[hs9,hyk]) ?_
  refine yB (A:=A24) ((l.take (k+1)).flatMap wrB).length (by rw[hs9,hyk];simp) ?_
  refine g_val 4 (v' := .slice A24 ((l.take (k+1)).flatMap wrB).length cap24) rfl (by rw[hs9,hyk];simp) ?_
  exact g_ag ((k+1),A24,cap24) (by(try dsimp only);exact(by first|exact lt_k|omega))
 ·have eq_k:k=n:=by have h9:=of_decide_eq_false h1;omega
  refine rn [16] ?_
  refine zD (zD (zN ?_))
  refine rn [7,1,2,3,3,0,11] ?_
  subst eq_k
  have hE:((l.take k).flatMap wrB)=l.flatMap wrB:=by rw[hm,List.take_length]
  refine zH (A:=A9) ((l.flatMap wrB).map (fun v:Nat=>[Value.int .u8 ((v:Nat):Int)])) (by rw[hE]) ?_
  refine yB (A:=A9) (l.flatMap wrB).length (by rw[hE]) ?_
  exact fin2 rfl (.tmp rfl) (.tmp rfl) (fun w' hw' => ⟨(A9,c9),(by exact trivial),by rw[hE],zA w' hw'⟩) _ (.inl rfl)
theorem oprs_any (A:Option Addr) (n cap:Nat) (w:World) : Own2 (ι:=Nat) Tryz.prog 126 [.slice A n cap] w [] (fun x=>True) (fun x=>.func (.func 185) #[] [Value.pointer (some ⟨x,0,none⟩)].toArray) (fun x=>[Res.blk x 56 [Value.slice A n cap]]) (fun x=>[]):=by
 refine g_st Tryz.func126 4 (WOK.start (fps []) _) ?_
 refine rn [1] ?_
 refine g_op (g_box (c:=[Value.slice A n cap]) rfl rfl rfl fun b1=>?_)
 refine rn [3,0,1,52,3,0,11] ?_
 exact fin1 rfl (.tmp rfl) (fun w' hw' => ⟨b1,(by exact trivial),rfl,zA w' hw'⟩) _ (.inl rfl)
theorem oper1_any (l9:Nat) (B9:List Op→Res→Prop) (r:Res) (q:Nat) (A:Option Addr) (n cap:Nat) (bs:List Nat) (w:World) (hw:W0 [Res.blk q 56 [Value.slice A n cap],r] w) (hY:YOK Tryz.prog l9 (fun x:Op=>Value.agg x.c.toArray) B9 (decL bs)) (hB0:B9 [] r) (hrd:Rd w [Res.blk q 56 [Value.slice A n cap],r] A n 1 (bs.map (fun v:Nat=>[Value.int .u8 ((v:Nat):Int)]))) (hcap:n≤cap) (hn:n≤1000000) (hby:∀b∈bs,b<256):Ret Tryz.prog 185 [.func (.yield l9) #[] #[],.pointer (some ⟨q,0,none⟩)] w (fun _ w2=>∃r2,B9 (decL bs) r2∧WOK (fps [Res.blk q 56 [Value.slice A n cap],r]) w [Res.blk q 56 [Value.slice A n cap],r2] w2):=by
 refine g_st Tryz.func185 27 hw ?_
 have hm:n=bs.length:=by have:=hrd.old.len;simpa using this
 refine rn [1,3,0,14] ?_
 refine g_lk [0,1] (fun(x:Nat × Nat × List Op × Res)=>[(3,.int .i64 ((x.1:Nat):Int))]) (fun(x:Nat × Nat × List Op × Res)=>[Res.blk q 56 [Value.slice A n cap],x.2.2.2]) (fun(x:Nat × Nat × List Op × Res)=>B9 x.2.2.1 x.2.2.2∧x.2.2.1++decF bs x.2.1 x.1=decL bs∧bs.length-x.1≤x.2.1∧x.1≤bs.length) (fun(x:Nat × Nat × List Op × Res)=>bs.length-x.1) (0,bs.length,[],r) (by(try dsimp only);exact⟨hB0,rfl,(by omega),(by omega)⟩) ?_
 rintro⟨p,k,pre,r1⟩ ⟨hB,hd,hk,hp⟩
 replace hB:B9 pre r1:=hB
 replace hd:pre++decF bs k p=decL bs:=hd
 replace hk:bs.length-p≤k:=hk
 replace hp:p≤bs.length:=hp
 refine zV (L' := [Res.blk q 56 [Value.slice A n cap],r1]) rfl ?_
 refine g_val 3 (v' := .int .i64 ((p:Nat):Int)) rfl rfl ?_
 refine rn [8,1,2,5,47,46,0] ?_
 refine zC rfl (fun h1=>?_) (fun h1=>?_)
 ·have hp9:p<bs.length:=by have h9:=of_decide_eq_true h1;omega
  obtain⟨hin1,hin2,hin3⟩:=decP_in hp9
  obtain⟨k1,rfl⟩:∃z,k=z+1:=⟨k-1,by omega⟩
  have hd9:(pre++[(decP bs p).1])++decF bs k1 (decP bs p).2.1=decL bs:=by rw[←hd,List.append_assoc,decF_succ hp9];rfl
  have hpre9:pre++[(decP bs p).1] <+: decL bs:=⟨_,hd9⟩
  refine rn [12,7,14,1,5,2] ?_
  refine g_op (zI rfl (fun w1 hw1=>odec_any A (n) (cap) p bs w1 (Rd.ofRd hw1 hrd (by omega)) hcap (by omega) (by omega) hby) rfl ?_)
  refine rn [2,40,40,40] ?_
  refine g_op (zK rfl fun b4=>?_)
  refine rn [33,3,3,0,8,1,2,48] ?_
  refine yC 19 (b:=false) rfl (by rw[hin1];rfl) ?_
  refine rn [2,22,2,22,45] ?_
  refine g_gt rfl rfl (g_yield hY hpre9 hB rfl rfl rfl fun r9 hB9=>?_)
  refine⟨_,inferInstance,?_⟩
  refine rn [22,48,42,0,20,12,7,10,2,3,9,15] ?_
  exact g_ag ((decP bs p).2.1,k1,(pre++[(decP bs p).1]),r9) (by(try dsimp only);exact⟨hB9,hd9,(by omega),hin3⟩)
 ·have hp9:¬p<bs.length:=by have h9:=of_decide_eq_false h1;omega
  have hall:pre=decL bs:=by rw[←hd,decF_end hp9,List.append_nil]
  refine rn [16] ?_
  refine zD (zD (zN ?_))
  exact fin0 rfl (fun w' hw' => ⟨r1,hall ▸ hB,by have h9:=zB (L' := [Res.blk q 56 [Value.slice A n cap],r1]) w' hw';exact h9⟩) _ (.inr rfl)
theorem sdec_any (A:Option Addr) (n cap:Nat) (bs:List Nat) (w:World) (hrd:Rd w [] A n 1 (bs.map (fun v:Nat=>[Value.int .u8 ((v:Nat):Int)]))) (hcap:n≤cap) (hn:n≤1000000) (hby:∀b∈bs,b<256):Own2 (ι:=(Option Addr × Nat)) Tryz.prog 68 [.slice A n cap] w [] (fun x=>True) (fun x=>.slice x.1 (decL bs).length x.2) (fun x=>[Res.row x.1 (decL bs).length x.2 35 4 ((decL bs).map Op.c)]) (fun x=>[]):=by
 refine tJ Tryz.func68 rfl 13 rfl (by simp) (fps []) [] (WOK.start _ _) _ rfl ?_
 have hm:n=bs.length:=by have:=hrd.old.len;simpa using this
 refine rn [1,3,0,1] ?_
 refine g_op (zK rfl fun b3=>?_)
 refine zF (b:=b3) [Value.slice none ([]:List Op).length 0] rfl ?_
 refine zX none 35 4 (([]:List Op).map Op.c) rfl ?_
 refine rn [0,8,1,2] ?_
 refine g_op (zG [] rfl (fun w1 hw1 ho1=>by have h7:=oprs_any A (n) (cap) w1;exact h7) rfl ?_)
 rintro q6 _
 refine ii ?_
 refine rn [0,14] ?_
 refine g_rangeFunc2 (fst:=[]) (cap:=[Value.pointer (some ⟨q6,0,none⟩)]) (enc:=(fun x:Op=>Value.agg x.c.toArray)) (all:=(decL bs)) rfl rfl [Res.blk q6 56 [Value.slice A n cap]] [Res.blk q6 56 [Value.slice A n cap]] [] (fun(y9:Option Addr × Nat × List Op)=>[Res.blk b3 25 [Value.slice y9.1 y9.2.2.length y9.2.1],Res.row y9.1 y9.2.2.length y9.2.1 35 4 (y9.2.2.map Op.c)]) (fun pre (y9:Option Addr × Nat × List Op)=>y9.2.2=pre) (none,0,[]) (rfl) (fun w1 hw1=>by have h9:=zB (L' := [Res.blk q6 56 [Value.slice A n cap],Res.blk b3 25 [Value.slice none ([]:List Op).length 0],Res.row none ([]:List Op).length 0 35 4 (([]:List Op).map Op.c)]) w1 hw1;exact h9) (fun w1 hw1=>by intro l9 B9 r9 hY9 hB9 hc9 ho9;have hc8:WOK _ _ [Res.blk q6 56 [Value.slice A n cap],r9] w1:=hc9;exact oper1_any l9 B9 r9 q6 A n cap bs w1 ho9 hY9 hB9 (Rd.ofRd hc8 hrd (by omega)) hcap hn hby) (fun x9 (y9:Option Addr × Nat × List Op) (z9:Nat)=>[(4,Value.pointer (some ⟨z9,0,none⟩)),(3,Value.pointer (some ⟨b3,0,none⟩))]) (fun x9 (y9:Option Addr × Nat × List Op) (z9:Nat)=>[Res.blk z9 35 x9.c,Res.blk b3 25 [Value.slice y9.1 y9.2.2.length y9.2.1],Res.row y9.1 y9.2.2.length y9.2.1 35 4 (y9.2.2.map Op.c)]) ?_ ?_ ?_
 ·rintro l9 pre x9 ⟨A9,c9,o9⟩ w9 hpre9 hp9
  refine zV (L' := [Res.blk b3 25 [Value.slice A9 o9.length c9],Res.row A9 o9.length c9 35 4 (o9.map Op.c)]) rfl ?_
  refine rn [10] ?_
  refine g_op (zK rfl fun b4=>?_)
  refine rn [33,9] ?_
  exact g_asgx (b4) (by repeat(first|exact trivial|refine⟨rfl,?_⟩)) zB
 ·rintro l9 pre x9 ⟨A9,c9,o9⟩ z9 w9 hpre9 hp9
  replace hp9:o9=pre:=hp9
  have hbl:=hpre9.length_le
  have hbl2:=decL_len bs
  simp only[List.length_append,List.length_cons,List.length_nil] at hbl
  have hbl3:o9.length≤1000000:=by rw[hp9];omega
  refine zV (L' := [Res.blk z9 35 x9.c,Res.blk b3 25 [Value.slice A9 o9.length c9],Res.row A9 o9.length c9 35 4 (o9.map Op.c)]) rfl ?_
  refine rn [14,10,5,45] ?_
  refine g_op (g_lit rfl rfl rfl rfl rfl fun b10=>?_)
  refine zF (b:=b10) ((([x9]:List Op).map Op.c).flatten) rfl ?_
  refine g_op (zZ (A:=A9) (els:=(o9).map Op.c) (news:=(([x9]:List Op).map Op.c)) rfl rfl (InL.rdb (b:=b10) rfl (by simp[Op.c]) rfl) (yF (c:=Op.c) (by intro x;simp[Op.c,Value.oneCell']) _) (by first|omega|(simp;omega)|(simp_all;omega)) rfl fun A11 cap11=>⟨_,inferInstance,?_⟩)
  refine zH (A:=A11) (((o9++[x9])).map Op.c) (by first|rfl|exact List.map_append.symm|(simp;done)) ?_
  refine g_op (zJ rfl rfl rfl rfl rfl rfl rfl ?_)
  refine rn [9,15] ?_
  refine yB (A:=A11) ((o9++[x9]):List Op).length (by simp) ?_
  refine zF (b:=b3) [Value.slice A11 ((o9++[x9]):List Op).length cap11] (by simp[splice]) ?_
  exact g_round (fun w2 hw2=>⟨(A11,cap11,(o9++[x9]:List Op)),by show o9++[x9]=pre++[x9];rw[hp9],by have h9:=zB (L' := [Res.blk b3 25 [Value.slice A11 (o9++[x9]:List Op).length cap11],Res.row A11 (o9++[x9]:List Op).length cap11 35 4 ((o9++[x9]:List Op).map Op.c)]) w2 hw2;exact h9⟩)
 rintro⟨A9,c9,o9⟩ hp9 m9
 refine zV (L' := [Res.obj m9 (.deferred (some [])),Res.blk q6 56 [Value.slice A n cap],Res.blk b3 25 [Value.slice A9 o9.length c9],Res.row A9 o9.length c9 35 4 (o9.map Op.c)]) rfl ?_
 replace hp9:o9=(decL bs):=hp9
 refine rn [15,7,1,5,3,0,11] ?_
 subst hp9
 exact finM1 rfl (.tmp rfl) (fun w' hw' => ⟨(A9,c9),(by exact trivial),rfl,by have h9:=zB (L' := [Res.row ((A9,c9)).1 (decL bs).length ((A9,c9)).2 35 4 ((decL bs).map Op.c)]) w' hw';exact h9⟩) _ (.inl rfl)
end Go.Proofs.YtdddiilocbbkkaaGreat
