/- TopDrains: for every configuration and all operations the law returns true. No condition. Part 13 of 28. -/
import Derived.Test.YtdddiilocbbkkaaGreatTD12
set_option linter.unusedVariables false
set_option linter.unusedSimpArgs false
namespace Go.Proofs.YtdddiilocbbkkaaGreat
open Go.RowKit Go.Eg
set_option maxHeartbeats 4000000
set_option synthInstance.maxSize 3000
set_option maxRecDepth 100000
theorem keyB:∀(a b:Nat),a<8→b<8→(keyOf Tryz.prog 374 (.agg [.int .i64 (a:Int),.int .i64 (b:Int)].toArray)).isSome=true:=by
 intro a b ha hb
 rcases(show a=0∨a=1∨a=2∨a=3∨a=4∨a=5∨a=6∨a=7 by omega) with rfl|rfl|rfl|rfl|rfl|rfl|rfl|rfl <;>
 rcases(show b=0∨b=1∨b=2∨b=3∨b=4∨b=5∨b=6∨b=7 by omega) with rfl|rfl|rfl|rfl|rfl|rfl|rfl|rfl<;>kernel_rfl
def nxtJ:List Nat:=[2,4,6,8,10,12,14,16,18,20]
theorem nxt_tab:∀a:Nat,a<8→∀b:Nat,b<8→((∃j∈nxtJ,tabR j=((a:Int),(b:Int),nxt a b))∧(∀j∈nxtJ,(tabR j).1=(a:Int)→(tabR j).2.1=(b:Int)→(tabR j).2.2=nxt a b)∧nxt a b≠0)∨((∀j∈nxtJ,¬((tabR j).1=(a:Int)∧(tabR j).2.1=(b:Int)))∧nxt a b=0):=by decide +kernel
theorem agg2_inj {a b c d:Int} (h:Value.agg [Value.int .i64 a,.int .i64 b].toArray=.agg [Value.int .i64 c,.int .i64 d].toArray):a=c∧b=d:=by
 simpa using h
theorem nxt_look (a b:Nat) (ha:a<8) (hb:b<8):((Value.agg [Value.int .i64 (a:Int),.int .i64 (b:Int)].toArray,Value.int .i64 (nxt a b))∈nxtJ.map tabE∧(∀p∈nxtJ.map tabE,p.1=.agg [Value.int .i64 (a:Int),.int .i64 (b:Int)].toArray→p.2=.int .i64 (nxt a b))∧decide (nxt a b≠0)=true) ∨
  ((∀p∈nxtJ.map tabE,p.1 ≠ .agg [Value.int .i64 (a:Int),.int .i64 (b:Int)].toArray)∧Value.int .i64 (nxt a b)=.int .i64 0∧decide (nxt a b≠0)=false):=by
 rcases nxt_tab a ha b hb with⟨⟨j,hj,h1⟩,h2,h3⟩|⟨h1,h2⟩
 ·refine .inl ⟨List.mem_map.2 ⟨j,hj,by simp only[tabE,h1]⟩,fun p hp he=>?_,decide_eq_true h3⟩
  obtain⟨i,hi,rfl⟩:=List.mem_map.1 hp
  obtain⟨h4,h5⟩:=agg2_inj he
  simp only[tabE];rw[h2 i hi h4 h5]
 ·refine .inr ⟨fun p hp he=>?_,by rw[h2],by simp[h2]⟩
  obtain⟨i,hi,rfl⟩:=List.mem_map.1 hp
  exact h1 i hi (agg2_inj he)
theorem nxt_keys:∀p∈nxtJ.map tabE,Key Tryz.prog 374 p.1:=fun p hp=>by obtain⟨j,_,rfl⟩:=List.mem_map.1 hp;exact tabKey j
theorem next_any (a b:Nat) (w:World) (ha:a<8) (hb:b<8):Pur Tryz.prog 227 [.int .i64 (a:Int),.int .i64 (b:Int)] w (.tuple [.int .i64 (nxt a b),.bool (decide (nxt a b≠0))].toArray):=by
 refine g_st Tryz.func227 18 (WOK.start [] _) ?_
 refine rn [1,3,3,0,1] ?_
 refine g_op (zG [] rfl (fun w1 hw1 ho1=>by have h7:=table_any w1;exact h7) rfl ?_)
 rintro b9 _
 refine ii ?_
 refine rn [2,2,49] ?_
 refine s_q (q_look_o (b:=b9) (D:=nxtJ.map tabE) (v:=.int .i64 (nxt a b)) (c:=decide (nxt a b≠0)) rfl rfl (Option.isSome_iff_exists.1 (keyB a b ha hb)) nxt_keys (z:=.int .i64 0) (fun _=>rfl) (nxt_look a b ha hb)) rfl ?_
 refine rn [2,40,40,3,3,0,1,2,2,3,3,0,11] ?_
 exact fin2 rfl (.tmp rfl) (.tmp rfl) (fun w' hw' => ⟨by rfl,hw'.upd⟩) _ (.inl rfl)
def maxF (l:List Int):Int:=l.tail.foldl max (l.head?.getD 0)
theorem maxF_succ {l:List Int} {k:Nat} (hk:k<l.length) (h0:0<k):max (maxF (l.take k)) l[k]=maxF (l.take (k+1)):=by
 cases l with
 | nil=>simp at hk
 | cons x l =>
  obtain⟨k,rfl⟩:∃q,k=q+1:=⟨k-1,by omega⟩
  have hk' : k<l.length:=by simpa using hk
  simp only[maxF,List.take_succ_cons,List.tail_cons,List.head?_cons,Option.getD_some,List.getElem_cons_succ]
  rw[←List.take_append_getElem hk',List.foldl_append];rfl
theorem smax_any (A:Option Addr) (n cap:Nat) (l:List Int) (w:World) (ha:Old w A n 1 (l.map (fun v:Int=>[Value.int .i64 v]))) (h1:1≤n) (hb:n≤1000):Pur Tryz.prog 292 [.slice A n cap] w (.int .i64 (maxF l)):=by
 refine g_st Tryz.func292 25 (WOK.start [] _) ?_
 have hn:n=l.length:=by simpa using ha.len
 have h0:0<l.length:=by omega
 refine rn [1,3,0,8,1,2,47,46,0] ?_
 refine zC rfl (fun h1=>?_) (fun h1=>?_)
 ·exfalso;have h9:=of_decide_eq_true h1;omega
 ·refine rn [12,7,1,2] ?_
  refine s_q (zP (i:=0) rfl rfl rfl (ha.rdb rfl) (by omega)) rfl ?_
  refine s_q (yI (i:=0) (o:=0) rfl (ha.rdb rfl) (zR h0) rfl rfl) rfl ?_
  refine rn [3,0,8,1,3,0,14] ?_
  refine g_val 3 (v' := .int .i64 (maxF (l.take 1))) rfl (by cases l with|nil=>simp at h0|cons x r=>rfl) ?_
  refine g_lk [0,2] (fun(x:Nat)=>[(3,.int .i64 (maxF (l.take x))),(4,.int .i64 ((x:Nat):Int))]) (fun(x:Nat)=>[]) (fun(x:Nat)=>1≤x∧x≤l.length) (fun(x:Nat)=>l.length-x) 1 (by(try dsimp only);exact⟨(by omega),(by omega)⟩) ?_
  rintro k ⟨h1k,hkn⟩
  replace h1k:1≤k:=h1k
  replace hkn:k≤l.length:=hkn
  refine rn [8,1,2,2,47,46,0] ?_
  refine zC rfl (fun h2=>?_) (fun h2=>?_)
  ·have lt_k:k<l.length:=by have h9:=of_decide_eq_true h2;omega
   refine rn [12,7,8,14,10,2,2,2] ?_
   refine s_q (zP (i:=k) rfl rfl rfl (ha.rdb rfl) (by first|omega|(simp;done)|(simp;omega))) rfl ?_
   refine s_q (yI (i:=k) (o:=0) rfl (ha.rdb rfl) (zR (by omega)) rfl rfl) rfl ?_
   refine rn [59] ?_
   refine g_val 23 (v' := .int .i64 (maxF (l.take (k+1)))) rfl (by rw[maxF_succ lt_k (by omega)]) ?_
   refine rn [3,9,15,7,10,2,43,3,9] ?_
   exact g_ag (k+1) (by(try dsimp only);exact⟨(by omega),(by omega)⟩)
  ·obtain rfl:k=l.length:=by have h9:=of_decide_eq_false h2;omega
   refine rn [16] ?_
   refine zD (zD (zN ?_))
   refine rn [7,1,2,3,0,11] ?_
   exact fin1 rfl (.tmp rfl) (fun w' hw' => ⟨by rw[List.take_length],hw'.upd⟩) _ (.inl rfl)
theorem cmax_any (A:Option Addr) (n cap:Nat) (l:List Int) (w:World) (ha:Old w A n 1 (l.map (fun v:Int=>[Value.int .i64 v]))) (h1:1≤n) (hb:n≤1000):Pur Tryz.prog 250 [.slice A n cap] w (.int .i64 (maxF l)):=by
 refine g_st Tryz.func250 8 (WOK.start [] _) ?_
 have hn:n=l.length:=by simpa using ha.len
 have h0:0<l.length:=by omega
 refine rn [1,3,0,8,1,2,47,44,0] ?_
 refine zC rfl (fun h1=>?_) (fun h1=>?_)
 ·exfalso;have h9:=of_decide_eq_true h1;omega
 ·refine rn [12,7,1,2] ?_
  refine g_op (zI rfl (fun w1 hw1=>smax_any A n cap l w1 (Rdb.toOld (ha.rdb rfl) hw1) (by omega) (by omega)) rfl ?_)
  refine rn [3,0,11] ?_
  exact fin1 rfl (.tmp rfl) (fun w' hw' => ⟨by rfl,hw'.upd⟩) _ (.inl rfl)
def acR (e:Int) (v:V):V × Int:=if latB [e]=false then(v,10) else({ v with rq:=e },0)
def evR (e:Nat) (v:V):V × Int:=if nxt v.st (e:Int)=0 then(v,8) else({ v with st:=nxt v.st (e:Int) },0)
def dlR (e d:Int) (v:V):V × Int:=if latB [e,d]=false then(v,10) else({ v with wd:=max v.wd (latV [e,d]) },0)
def asR (e:Int) (v:V):V × Int:=if v.st≠3∨v.ex≠-1 then(v,8) else({ v with ex:=e },0)
def mkR (e:Int) (v:V):V × Int:=if v.sl=true then(v,9) else({ v with sl:=true,rq:=if v.st=2 then e else v.rq,dl:=-1 },0)
def buR (c:C) (v:V):V × Int:=({ v with bal:=IntKind.u64.wrap (v.bal-burnV v.bal c) },burnV v.bal c)
def duR (e:Int) (v:V):V × Int:=if e<v.wd then(v,8) else({ v with bal:=0 },0)
theorem acc1_any (b q:Nat) (v:V) (e:Int) (w:World) (hw:W0 [Res.blk b 52 (V.c v),Res.blk q 3 [Value.int .i64 (e)]] w) (he:I64 e):Own2 (ι:=Unit) Tryz.prog 243 [.pointer (some ⟨b,0,none⟩),.pointer (some ⟨q,0,none⟩)] w [Res.blk b 52 (V.c v),Res.blk q 3 [Value.int .i64 (e)]] (fun x=>True) (fun x=>.int .i64 (acR e v).2) (fun x=>[]) (fun x=>[Res.blk b 52 (V.c (acR e v).1),Res.blk q 3 [Value.int .i64 (e)]]):=by
 refine g_st Tryz.func243 17 hw ?_
 refine rn [1,3,0,8,1,5] ?_
 refine g_op (zL [] rfl (fun w1 hw1 ho1=>by exact rT (e) none 0 0 ([]:List Int) w1 he Rd.zero (by simp) (by omega)) rfl ?_)
 refine rn [2,40,40,3,3,0,1,2,48,0] ?_
 refine zC rfl (fun h1=>?_) (fun h1=>?_)
 ·have hR:acR e v=(v,10):=by have h9:latB [e]=false:=(by simpa using h1);unfold acR;rw[if_pos h9]
  refine rn [1,3,0,11,13] ?_
  exact fin1 rfl (.tmp rfl) (fun w' hw' => ⟨(),(by exact trivial),by rw[hR],by rw[hR];exact zA w' hw'⟩) _ (.inl rfl)
 ·have hR:acR e v=({ v with rq:=e },0):=by have h9:latB [e]=true:=(by simpa using h1);unfold acR;rw[if_neg (by rw[h9];simp)]
  refine rn [12,7,1,2,5,6,4] ?_
  refine g_op (zJ rfl rfl rfl rfl rfl rfl rfl ?_)
  refine zF (b:=b) (V.c { v with rq:=e }) (by simp[splice,V.c]) ?_
  refine rn [0,1,3,0,11] ?_
  exact fin1 rfl (.tmp rfl) (fun w' hw' => ⟨(),(by exact trivial),by rw[hR],by rw[hR];exact zA w' hw'⟩) _ (.inl rfl)
theorem ev1_any (b q:Nat) (v:V) (e:Nat) (w:World) (hw:W0 [Res.blk b 52 (V.c v),Res.blk q 3 [Value.int .i64 ((e:Int))]] w) (he:e<8) (hs:0≤v.st∧v.st≤7):Own2 (ι:=Unit) Tryz.prog 248 [.pointer (some ⟨b,0,none⟩),.pointer (some ⟨q,0,none⟩)] w [Res.blk b 52 (V.c v),Res.blk q 3 [Value.int .i64 ((e:Int))]] (fun x=>True) (fun x=>.int .i64 (evR e v).2) (fun x=>[]) (fun x=>[Res.blk b 52 (V.c (evR e v).1),Res.blk q 3 [Value.int .i64 ((e:Int))]]):=by
 refine g_st Tryz.func248 21 hw ?_
 refine rn [1,3,0,8] ?_
 refine dreg [] mixed rfl ?_
 refine rn [23,0,2,23,1,6,23,2,4,23,3,5,23,4,5] ?_
 refine dop 5 rfl (zI rfl (fun w1 hw1=>by have h7:=next_any (v.st).toNat ((e:Int)).toNat w1 (by omega) (by omega);rw[Int.toNat_of_nonneg (show 0≤v.st by omega),Int.toNat_of_nonneg (show 0≤(e:Int) by omega)] at h7;exact h7) rfl ?_)
 refine rn [23,6,2,23,7,40,23,8,40,23,9,3,23,10,3,27,7,8,1,2,48,0] ?_
 refine zC rfl (fun h1=>?_) (fun h1=>?_)
 ·have hR:evR e v=(v,8):=by have h9:nxt v.st (e:Int)=0:=(by simpa using h1);unfold evR;rw[if_pos h9]
  refine rn [1,3,0,11,13] ?_
  exact fin1 rfl (.tmp rfl) (fun w' hw' => ⟨(),(by exact trivial),by rw[hR],by rw[hR];exact zA w' hw'⟩) _ (.inl rfl)
 ·have hR:evR e v=({ v with st:=nxt v.st (e:Int) },0):=by have h9:¬nxt v.st (e:Int)=0:=(by simpa using h1);unfold evR;rw[if_neg h9]
  refine rn [12,7,1,2,2,6,4] ?_
  refine g_op (zJ rfl rfl rfl rfl rfl rfl rfl ?_)
  refine zF (b:=b) (V.c { v with st:=nxt v.st (e:Int) }) (by simp[splice,V.c]) ?_
  refine rn [0,1,3,0,11] ?_
  exact fin1 rfl (.tmp rfl) (fun w' hw' => ⟨(),(by exact trivial),by rw[hR],by rw[hR];exact zA w' hw'⟩) _ (.inl rfl)
theorem del1_any (b q q2:Nat) (v:V) (e d:Int) (w:World) (hw:W0 [Res.blk b 52 (V.c v),Res.blk q 3 [Value.int .i64 (e)],Res.blk q2 3 [Value.int .i64 (d)]] w) (he:I64 e) (hd:I64 d):Own2 (ι:=Unit) Tryz.prog 249 [.pointer (some ⟨b,0,none⟩),.pointer (some ⟨q,0,none⟩),.pointer (some ⟨q2,0,none⟩)] w [Res.blk b 52 (V.c v),Res.blk q 3 [Value.int .i64 (e)],Res.blk q2 3 [Value.int .i64 (d)]] (fun x=>True) (fun x=>.int .i64 (dlR e d v).2) (fun x=>[]) (fun x=>[Res.blk b 52 (V.c (dlR e d v).1),Res.blk q 3 [Value.int .i64 (e)],Res.blk q2 3 [Value.int .i64 (d)]]):=by
 refine g_st Tryz.func249 26 hw ?_
 refine rn [1,3,0,1,5,5] ?_
 refine g_op (g_lit rfl rfl rfl rfl rfl fun b10=>?_)
 refine zF (b:=b10) ((([d]:List Int).map (fun v:Int=>[Value.int .i64 v])).flatten) rfl ?_
 refine g_op (zL [] rfl (fun w1 hw1 ho1=>by exact rT (e) (some ⟨b10,0,none⟩) 1 1 ([d]:List Int) w1 he (Rd.ofBlk (b:=b10) (els:=([d]:List Int).map (fun v:Int=>[Value.int .i64 v])) hw1 rfl (by simp) rfl) (by intro x hx;simp at hx;rw[hx];exact hd) (by omega)) rfl ?_)
 refine rn [2,40,40,3,3,0,8,1,2,48,0] ?_
 refine zC rfl (fun h1=>?_) (fun h1=>?_)
 ·have hR:dlR e d v=(v,10):=by have h9:latB [e,d]=false:=(by simpa using h1);unfold dlR;rw[if_pos h9]
  refine rn [1,3,0,11,13] ?_
  exact fin1 rfl (.tmp rfl) (fun w' hw' => ⟨(),(by exact trivial),by rw[hR],by rw[hR];exact zA w' hw'⟩) _ (.inl rfl)
 ·have hR:dlR e d v=({ v with wd:=max v.wd (latV [e,d]) },0):=by have h9:latB [e,d]=true:=(by simpa using h1);unfold dlR;rw[if_neg (by rw[h9];simp)]
  refine rn [12,7,1,2,2,6,4,5,2] ?_
  refine g_op (g_lit rfl rfl rfl rfl rfl fun b22=>?_)
  refine zF (b:=b22) ((([v.wd,(latV [e,d])]:List Int).map (fun v:Int=>[Value.int .i64 v])).flatten) rfl ?_
  refine g_op (zI rfl (fun w1 hw1=>cmax_any (some ⟨b22,0,none⟩) 2 2 ([v.wd,(latV [e,d])]:List Int) w1 (Rdb.toOld (InL.rdb (b:=b22) (els:=(([v.wd,(latV [e,d])]:List Int).map (fun v:Int=>[Value.int .i64 v]))) rfl (by simp) rfl) hw1) (by omega) (by omega)) rfl ?_)
  refine rn [6,4] ?_
  refine g_op (zJ rfl rfl rfl rfl rfl rfl rfl ?_)
  refine zF (b:=b) (V.c { v with wd:=max v.wd (latV [e,d]) }) (by simp[splice,V.c,maxF]) ?_
  refine rn [0,1,3,0,11] ?_
  exact fin1 rfl (.tmp rfl) (fun w' hw' => ⟨(),(by exact trivial),by rw[hR],by rw[hR];exact zA w' hw'⟩) _ (.inl rfl)
theorem asn1_any (b q:Nat) (v:V) (e:Int) (w:World) (hw:W0 [Res.blk b 52 (V.c v),Res.blk q 3 [Value.int .i64 (e)]] w) : Own2 (ι:=Unit) Tryz.prog 281 [.pointer (some ⟨b,0,none⟩),.pointer (some ⟨q,0,none⟩)] w [Res.blk b 52 (V.c v),Res.blk q 3 [Value.int .i64 (e)]] (fun x=>True) (fun x=>.int .i64 (asR e v).2) (fun x=>[]) (fun x=>[Res.blk b 52 (V.c (asR e v).1),Res.blk q 3 [Value.int .i64 (e)]]):=by
 refine g_st Tryz.func281 20 hw ?_
 refine rn [1,3,0,8,1,2,6,4,5,51,2] ?_
 refine zU 9 rfl (fun h1=>?_) (fun h1=>?_)
 ·have hR:asR e v=(v,8):=by unfold asR;rw[if_pos (by simp_all)]
  refine rn [21,21,21,21,21,41,0,19,1,3,0,11,13] ?_
  exact fin1 rfl (.tmp rfl) (fun w' hw' => ⟨(),(by exact trivial),by rw[hR],by rw[hR];exact zA w' hw'⟩) _ (.inl rfl)
 ·refine rn [22,2,22,6,22,4,22,5,22,51,42,0] ?_
  refine zC rfl (fun h2=>?_) (fun h2=>?_)
  ·have hR:asR e v=(v,8):=by unfold asR;rw[if_pos (by simp_all)]
   refine rn [1,3,0,11,13] ?_
   exact fin1 rfl (.tmp rfl) (fun w' hw' => ⟨(),(by exact trivial),by rw[hR],by rw[hR];exact zA w' hw'⟩) _ (.inl rfl)
  ·have hR:asR e v=({ v with ex:=e },0):=by unfold asR;rw[if_neg (by simp_all)]
   refine rn [12,7,1,2,5,6,4] ?_
   refine g_op (zJ rfl rfl rfl rfl rfl rfl rfl ?_)
   refine zF (b:=b) (V.c { v with ex:=e }) (by simp[splice,V.c]) ?_
   refine rn [0,1,3,0,11] ?_
   exact fin1 rfl (.tmp rfl) (fun w' hw' => ⟨(),(by exact trivial),by rw[hR],by rw[hR];exact zA w' hw'⟩) _ (.inl rfl)
theorem sla1_any (b q:Nat) (v:V) (e:Int) (w:World) (hw:W0 [Res.blk b 52 (V.c v),Res.blk q 3 [Value.int .i64 (e)]] w) : Own2 (ι:=Unit) Tryz.prog 170 [.pointer (some ⟨b,0,none⟩),.pointer (some ⟨q,0,none⟩)] w [Res.blk b 52 (V.c v),Res.blk q 3 [Value.int .i64 (e)]] (fun x=>True) (fun x=>.int .i64 (mkR e v).2) (fun x=>[]) (fun x=>[Res.blk b 52 (V.c (mkR e v).1),Res.blk q 3 [Value.int .i64 (e)]]):=by
 refine g_st Tryz.func170 23 hw ?_
 refine rn [1,3,0,8,1,2,6,4,5,0] ?_
 refine zC rfl (fun h1=>?_) (fun h1=>?_)
 ·have hR:mkR e v=(v,9):=by unfold mkR;rw[if_pos (by simpa using h1)]
  refine rn [1,3,0,11,13] ?_
  exact fin1 rfl (.tmp rfl) (fun w' hw' => ⟨(),(by exact trivial),by rw[hR],by rw[hR];exact zA w' hw'⟩) _ (.inl rfl)
 ·have hR:mkR e v=({ v with sl:=true,rq:=if v.st=2 then e else v.rq,dl:=-1 },0):=by unfold mkR;rw[if_neg (by simpa using h1)]
  refine rn [12,7,8,1,2,6,4,5,44,0] ?_
  refine zC rfl (fun h2=>?_) (fun h2=>?_)
  ·have h2:v.st=2:=by simpa using h2
   refine rn [10,2,5,6,4] ?_
   refine g_op (zJ rfl rfl rfl rfl rfl rfl rfl ?_)
   refine zF (b:=b) (V.c { v with rq:=e }) (by simp[splice,V.c]) ?_
   refine rn [0,1,2,2,6,4] ?_
   refine g_op (zJ rfl rfl rfl rfl rfl rfl rfl ?_)
   refine rn [6,4] ?_
   refine g_op (zJ rfl rfl rfl rfl rfl rfl rfl ?_)
   refine zF (b:=b) (V.c { v with sl:=true,rq:=if v.st=2 then e else v.rq,dl:=-1 }) (by simp[splice,V.c,h2]) ?_
   refine rn [0,1,3,0,11] ?_
   exact fin1 rfl (.tmp rfl) (fun w' hw' => ⟨(),(by exact trivial),by rw[hR],by rw[hR];exact zA w' hw'⟩) _ (.inl rfl)
  ·have h2:¬v.st=2:=by simpa using h2
   refine rn [12,7,1,2,2,6,4] ?_
   refine g_op (zJ rfl rfl rfl rfl rfl rfl rfl ?_)
   refine rn [6,4] ?_
   refine g_op (zJ rfl rfl rfl rfl rfl rfl rfl ?_)
   refine zF (b:=b) (V.c { v with sl:=true,rq:=if v.st=2 then e else v.rq,dl:=-1 }) (by simp[splice,V.c,h2]) ?_
   refine rn [0,1,3,0,11] ?_
   exact fin1 rfl (.tmp rfl) (fun w' hw' => ⟨(),(by exact trivial),by rw[hR],by rw[hR];exact zA w' hw'⟩) _ (.inl rfl)
theorem pay1_any (b q:Nat) (v:V) (e:Int) (w:World) (hw:W0 [Res.blk b 52 (V.c v),Res.blk q 3 [Value.int .i64 (e)]] w) : Own2 (ι:=Unit) Tryz.prog 240 [.pointer (some ⟨b,0,none⟩),.pointer (some ⟨q,0,none⟩)] w [Res.blk b 52 (V.c v),Res.blk q 3 [Value.int .i64 (e)]] (fun x=>True) (fun x=>.int .i64 (duR e v).2) (fun x=>[]) (fun x=>[Res.blk b 52 (V.c (duR e v).1),Res.blk q 3 [Value.int .i64 (e)]]):=by
 refine g_st Tryz.func240 13 hw ?_
 refine rn [1,3,0,8,8] ?_
 refine dreg [] mixed rfl ?_
 refine rn [23,0,5,23,1,2,23,2,6,23,3,4,23,4,5,23,5,46,27,7] ?_
 refine zC rfl (fun h1=>?_) (fun h1=>?_)
 ·have hR:duR e v=(v,8):=by unfold duR;rw[if_pos (by simpa using h1)]
  refine rn [1,3,0,11,13] ?_
  exact fin1 rfl (.tmp rfl) (fun w' hw' => ⟨(),(by exact trivial),by rw[hR],by rw[hR];exact zA w' hw'⟩) _ (.inl rfl)
 ·have hR:duR e v=({ v with bal:=0 },0):=by unfold duR;rw[if_neg (by simpa using h1)]
  refine rn [12,7,1,2,6,4] ?_
  refine g_op (zJ rfl rfl rfl rfl rfl rfl rfl ?_)
  refine zF (b:=b) (V.c { v with bal:=0 }) (by simp[splice,V.c]) ?_
  refine rn [0,1,3,0,11] ?_
  exact fin1 rfl (.tmp rfl) (fun w' hw' => ⟨(),(by exact trivial),by rw[hR],by rw[hR];exact zA w' hw'⟩) _ (.inl rfl)
theorem uD (e:Int) (w:World) : Own2 (ι:=Nat) Tryz.prog 174 [.int .i64 e] w [] (fun x=>True) (fun x=>.func (.func 248) #[] [Value.pointer (some ⟨x,0,none⟩)].toArray) (fun x=>[Res.blk x 3 [Value.int .i64 (e)]]) (fun x=>[]):=by
 refine g_st Tryz.func174 4 (WOK.start (fps []) _) ?_
 refine rn [1] ?_
 refine g_op (g_box rfl rfl rfl fun b1=>?_)
 refine rn [3,0,1,52,3,0,11] ?_
 exact fin1 rfl (.tmp rfl) (fun w' hw' => ⟨b1,(by exact trivial),rfl,zA w' hw'⟩) _ (.inl rfl)
theorem sC (e d:Int) (w:World) : Own2 (ι:=(Nat × Nat)) Tryz.prog 175 [.int .i64 e,.int .i64 d] w [] (fun x=>True) (fun x=>.func (.func 249) #[] [Value.pointer (some ⟨x.1,0,none⟩),Value.pointer (some ⟨x.2,0,none⟩)].toArray) (fun x=>[Res.blk x.1 3 [Value.int .i64 (e)],Res.blk x.2 3 [Value.int .i64 (d)]]) (fun x=>[]):=by
 refine g_st Tryz.func175 6 (WOK.start (fps []) _) ?_
 refine rn [1] ?_
 refine g_op (g_box rfl rfl rfl fun b2=>?_)
 refine g_op (g_box rfl rfl rfl fun b3=>?_)
 refine rn [3,0,1,52,3,0,11] ?_
 exact fin1 rfl (.tmp rfl) (fun w' hw' => ⟨(b2,b3),(by exact trivial),rfl,zA w' hw'⟩) _ (.inl rfl)
structure Chg (σ:Type) where
 f:Nat
 cap:List Value
 run:V→σ→V × Int × σ
def Chg.val {σ:Type} (c:Chg σ):Value:=.func (.func c.f) #[] c.cap.toArray
def applyC {σ:Type}:List (Chg σ)→V→σ→V × Int × σ
 | [],v,s=>(v,0,s)
 | c :: r,v,s=>if(c.run v s).2.1=0 then applyC r (c.run v s).1 (c.run v s).2.2 else(V.z,(c.run v s).2.1,(c.run v s).2.2)
structure Chg.OK {σ:Type} (rr:σ→Res) (ok:V→σ→Prop) (c:Chg σ):Prop where
 hb:hasBody Tryz.prog c.f=true
 st:∀v s,ok v s→(c.run v s).2.1=0→ok (c.run v s).1 (c.run v s).2.2
 go:∀b v s w,WOK (fps [Res.blk b 52 v.c,rr s]) w [Res.blk b 52 v.c,rr s] w→ok v s→Own2 (ι:=Unit) Tryz.prog c.f (.pointer (some ⟨b,0,none⟩) :: c.cap) w [Res.blk b 52 v.c,rr s] (fun _=>True) (fun _=>.int .i64 (c.run v s).2.1) (fun _=>[]) (fun _=>[Res.blk b 52 (c.run v s).1.c,rr (c.run v s).2.2])
theorem applyC_ok {σ:Type} {fs:List (Chg σ)} {k:Nat} (h:k<fs.length) {v:V} {s:σ} (h0:(fs[k].run v s).2.1=0):applyC (fs.drop k) v s=applyC (fs.drop (k+1)) (fs[k].run v s).1 (fs[k].run v s).2.2:=by
 rw[List.drop_eq_getElem_cons h,applyC,if_pos h0]
theorem applyC_err {σ:Type} {fs:List (Chg σ)} {k:Nat} (h:k<fs.length) {v:V} {s:σ} (h0:¬(fs[k].run v s).2.1=0):applyC (fs.drop k) v s=(V.z,(fs[k].run v s).2.1,(fs[k].run v s).2.2):=by
 rw[List.drop_eq_getElem_cons h,applyC,if_neg h0]
theorem Own2.unstar {ι:Type} {P:Program} {f:FuncId} {args:List Value} {w:World} {Ls:List Res} {p:ι→Prop} {val:ι→Value} {Ls1:ι→List Res} (h:WOK (fps [Res.star Ls]) w [Res.star Ls] w→Own2 P f args w [.star Ls] p val (fun _=>[]) (fun x=>[.star (Ls1 x)])) (hw:WOK (fps Ls) w Ls w) :
  Own2 P f args w Ls p val (fun _=>[]) Ls1:=by
 have h1:WOK (fps [Res.star Ls]) w [Res.star Ls] w:=by rw[vH];exact WOK.closed (L:=[]) (by rw[List.append_nil];exact hw)
 refine Ret.mono (h h1) fun v w' ⟨x,hp,hv,hw2⟩=>⟨x,hp,hv,?_⟩
 rw[vH] at hw2
 have h3:WOK (fps Ls) w (Res.star (Ls1 x) :: []) w' := hw2
 have:=h3.opened
 rwa [List.append_nil] at this
theorem Chg.go_of {f:Nat} {args:List Value} {r0 r1:Res} {Lin Lrep Ls Ls1:List Res} {val:Value} {w:World} (hw:W0 [r0,.star Ls] w) (hs:Swap (r0 :: Ls) Lin Lrep (r1 :: Ls1)) (hsub:Sub (r0 :: Ls) Lin)
  (h:∀w,WOK (fps Lin) w Lin w→Own2 (ι:=Unit) Tryz.prog f args w Lin (fun _=>True) (fun _=>val) (fun _=>[]) (fun _=>Lrep)):Own2 (ι:=Unit) Tryz.prog f args w [r0,.star Ls] (fun _=>True) (fun _=>val) (fun _=>[]) (fun _=>[r1,.star Ls1]) :=
 Own2.star (r1:=fun _=>r1) (Ls1:=fun _=>Ls1) (fun hw1=>Own2.into (L' := fun _=>r1 :: Ls1) hw1 (fun _=>hs) hsub (fun hw2=>h w hw2)) hw
theorem xH {σ:Type} (rr:σ→Res) (ok:V→σ→Prop) (fs:List (Chg σ)) (v:V) (s:σ) (q:Nat) (w:World) (hw:W0 [rr s] w) (hfs:∀c∈fs,c.OK rr ok) (hok:ok v s) (hr:Rd w [rr s] (some ⟨q,0,none⟩) fs.length 1 (fs.map (fun c:Chg σ=>[Chg.val c]))) (hfl:fs.length≤100):Own2 (ι:=Unit) Tryz.prog 173 [v.v,.slice (some ⟨q,0,none⟩) fs.length fs.length] w [rr s] (fun x=>True) (fun x=>.tuple [V.v (applyC fs v s).1,.int .i64 (applyC fs v s).2.1].toArray) (fun x=>[]) (fun x=>[rr (applyC fs v s).2.2]):=by
 refine g_st Tryz.func173 23 hw ?_
 refine rn [1] ?_
 refine g_op (g_box (c:=V.c v) rfl rfl rfl fun b2=>?_)
 refine g_op (zK rfl fun b4=>?_)
 refine rn [3,0,8,1,2,47,2,0,14] ?_
 refine zF (b:=b4) (V.c V.z) rfl ?_
 refine g_lk [2,4,5,9,10] (fun(x:Nat × V × σ)=>[(11,.int .i64 ((x.1:Nat):Int))]) (fun(x:Nat × V × σ)=>[Res.blk b4 52 (V.c V.z),Res.blk b2 52 (V.c x.2.1),rr x.2.2]) (fun(x:Nat × V × σ)=>x.1≤fs.length∧ok x.2.1 x.2.2∧applyC (fs.drop x.1) x.2.1 x.2.2=applyC fs v s) (fun(x:Nat × V × σ)=>fs.length-x.1) (0,v,s) (by(try dsimp only);exact⟨Nat.zero_le _,hok,rfl⟩) ?_
 rintro⟨k,v1,s1⟩ ⟨le_k,hok1,hap⟩
 replace le_k:k≤fs.length:=le_k
 replace hok1:ok v1 s1:=hok1
 replace hap:applyC (fs.drop k) v1 s1=applyC fs v s:=hap
 refine zV (L' := [Res.blk b4 52 (V.c V.z),Res.blk b2 52 (V.c v1),rr s1]) rfl ?_
 refine g_val 11 (v' := .int .i64 ((k:Nat):Int)) rfl rfl ?_
 refine rn [1,46,0,8] ?_
 refine zC rfl (fun h1=>?_) (fun h1=>?_)
 ·have lt_k:k<fs.length:=by have h9:=of_decide_eq_true h1;omega
  refine rn [12,7,8,14,1] ?_
  refine s_q (zP (i:=k) rfl rfl rfl hr.rdb (by first|exact lt_k|omega)) rfl ?_
  refine s_q (yI (i:=k) (o:=0) rfl hr.rdb (zR (by first|exact lt_k|omega)) rfl rfl) rfl ?_
  refine rn [3,0,1,2] ?_
  refine g_op (xQ (hb:=⟨(hfs _ (List.getElem_mem lt_k)).hb⟩) (f:=fs[k].f) (cap:=fs[k].cap) (fst:=[]) [Res.blk b2 52 v1.c,rr s1] rfl rfl (fun w1 hw1 ho1=>by have h7:=(hfs _ (List.getElem_mem lt_k)).go b2 v1 s1 w1 ho1 hok1;exact h7) rfl ?_)
  rintro⟨⟩ _
  refine ii ?_
  refine rn [3,0,1,2,51,0] ?_
  refine zC rfl (fun h2=>?_) (fun h2=>?_)
  ·have hz:¬(fs[k].run v1 s1).2.1=0:=by simpa using h2
   have hR:=applyC_err lt_k hz
   rw[hap] at hR
   refine rn [1,49,2,33] ?_
   refine zF (b:=b4) (V.c V.z) rfl ?_
   refine rn [3,0,11] ?_
   refine zM (zE (zE (zM (zE ?_))))
   exact fin2 rfl (.cellw rfl rfl) (.tmp rfl) (fun w' hw' => ⟨(),(by exact trivial),by rw[hR];rfl,by rw[hR];exact zA w' hw'⟩) _ (.inl rfl)
  ·have hz:(fs[k].run v1 s1).2.1=0:=by simpa using h2
   refine rn [12,15,7,10,43,2,9] ?_
   exact g_ag ((k+1),(fs[k].run v1 s1).1,(fs[k].run v1 s1).2.2) (by(try dsimp only);exact⟨(by first|exact lt_k|omega),((hfs _ (List.getElem_mem lt_k)).st v1 s1 hok1 hz),(by rw[←applyC_ok lt_k hz];exact hap)⟩)
 ·have eq_k:k=fs.length:=by have h9:=of_decide_eq_false h1;omega
  have hR:applyC fs v s=(v1,0,s1):=by rw[←hap,eq_k,List.drop_length];rfl
  refine rn [16] ?_
  refine zD (zD (zN ?_))
  refine rn [7,1,45,33] ?_
  refine zF (b:=b4) (V.c v1) (yD rfl) ?_
  refine rn [3,0,11] ?_
  exact fin2 rfl (.cellw rfl rfl) (.tmp rfl) (fun w' hw' => ⟨(),(by exact trivial),by rw[hR];rfl,by rw[hR];exact zA w' hw'⟩) _ (.inl rfl)
theorem mul64_any (x y:Nat) (w:World) (hx:x<18446744073709551616) (hy:y<18446744073709551616):Pur Tryz.prog 145 [.int .u64 ((x:Nat):Int),.int .u64 ((y:Nat):Int)] w (.tuple [.int .u64 ((x*y/18446744073709551616:Nat):Int),.int .u64 ((x*y%18446744073709551616:Nat):Int)].toArray):=by
 refine g_st Tryz.func145 51 (WOK.start [] _) ?_
 obtain⟨bd,bt,bw,hhi⟩:=Lib.mul64_hi x y hx hy
 have ba:=Lib.half_mul_le (a:=x/4294967296) (b:=y/4294967296) (by omega) (by omega)
 have bb:=Lib.half_mul_le (a:=x/4294967296) (b:=y%4294967296) (by omega) (by omega)
 have bc:=Lib.half_mul_le (a:=x%4294967296) (b:=y/4294967296) (by omega) (by omega)
 refine rn [1,3,3,0,1,2] ?_
 refine s_q (rC (a:=x) rfl rfl hx) rfl ?_
 refine rn [3,0,1,2] ?_
 refine s_q (uI (a:=x) rfl rfl) rfl ?_
 refine rn [3,0,1,2] ?_
 refine s_q (rC (a:=y) rfl rfl hy) rfl ?_
 refine rn [3,0,1,2] ?_
 refine s_q (uI (a:=y) rfl rfl) rfl ?_
 refine rn [3,0,1,2,2] ?_
 refine s_q (rP (a:=(x%4294967296)) (b:=(y%4294967296)) rfl rfl bd) rfl ?_
 refine rn [3,0,1,2,2] ?_
 refine s_q (rP (a:=(x/4294967296)) (b:=(y%4294967296)) rfl rfl (by omega)) rfl ?_
 refine rn [2] ?_
 refine s_q (uI (a:=(x%4294967296)*(y%4294967296)) rfl rfl) rfl ?_
 refine s_q (q_addu (a:=(x/4294967296)*(y%4294967296)) (b:=(x%4294967296)*(y%4294967296)/4294967296) rfl rfl bt) rfl ?_
 refine rn [3,0,1,2] ?_
 refine s_q (rC (a:=((x/4294967296)*(y%4294967296)+(x%4294967296)*(y%4294967296)/4294967296)) rfl rfl bt) rfl ?_
 refine rn [3,0,1,2] ?_
 refine s_q (uI (a:=((x/4294967296)*(y%4294967296)+(x%4294967296)*(y%4294967296)/4294967296)) rfl rfl) rfl ?_
 refine rn [3,0,1,2,2,2] ?_
 refine s_q (rP (a:=(x%4294967296)) (b:=(y/4294967296)) rfl rfl (by omega)) rfl ?_
 refine s_q (q_addu (a:=((x/4294967296)*(y%4294967296)+(x%4294967296)*(y%4294967296)/4294967296)%4294967296) (b:=(x%4294967296)*(y/4294967296)) rfl rfl bw) rfl ?_
 refine rn [3,0,1,2,2] ?_
 refine s_q (rP (a:=(x/4294967296)) (b:=(y/4294967296)) rfl rfl (by omega)) rfl ?_
 refine rn [2] ?_
 refine s_q (q_addu (a:=(x/4294967296)*(y/4294967296)) (b:=((x/4294967296)*(y%4294967296)+(x%4294967296)*(y%4294967296)/4294967296)/4294967296) rfl rfl (by omega)) rfl ?_
 refine rn [2] ?_
 refine s_q (uI (a:=(((x/4294967296)*(y%4294967296)+(x%4294967296)*(y%4294967296)/4294967296)%4294967296+(x%4294967296)*(y/4294967296))) rfl rfl) rfl ?_
 refine s_q (q_addu (a:=(x/4294967296)*(y/4294967296)+((x/4294967296)*(y%4294967296)+(x%4294967296)*(y%4294967296)/4294967296)/4294967296) (b:=(((x/4294967296)*(y%4294967296)+(x%4294967296)*(y%4294967296)/4294967296)%4294967296+(x%4294967296)*(y/4294967296))/4294967296) rfl rfl (by omega)) rfl ?_
 refine rn [3,0,1,2,2] ?_
 refine s_q (q_mullo (a:=x) (b:=y) rfl rfl) rfl ?_
 refine rn [3,0,11] ?_
 exact fin2 rfl (.tmp rfl) (.tmp rfl) (fun w' hw' => ⟨by rw[←hhi],hw'.upd⟩) _ (.inl rfl)
theorem prod_any (x y:Nat) (w:World) (hx:x<18446744073709551616) (hy:y<18446744073709551616):Pur Tryz.prog 290 [.int .u64 ((x:Nat):Int),.int .u64 ((y:Nat):Int)] w (.agg #[.int .u64 ((x*y/18446744073709551616:Nat):Int),.int .u64 ((x*y%18446744073709551616:Nat):Int)]):=by
 refine g_st Tryz.func290 16 (WOK.start [] _) ?_
 refine rn [1] ?_
 refine g_op (zK rfl fun b4=>?_)
 refine rn [0,1,2,2] ?_
 refine g_op (zI rfl (fun w1 hw1=>mul64_any x y w1 hx hy) rfl ?_)
 refine rn [2,40,40,3,3,0,1,2,2,49,33,0,11] ?_
 exact fin1 rfl (.cellw rfl rfl) (fun w' hw' => ⟨by rfl,hw'.upd⟩) _ (.inl rfl)
theorem len64_any (y:Nat) (w:World) (hx:y<18446744073709551616) (h0:1≤y):Own2 (ι:=Nat) Tryz.prog 324 [.int .u64 ((y:Nat):Int)] w [] (fun x=>LenOK y x∧x≤64) (fun x=>.int .i64 (x:Int)) (fun x=>[]) (fun x=>[]):=by
 refine g_st Tryz.func324 25 (WOK.start (fps []) _) ?_
 refine rn [1,3,0,8,1,2,53,0] ?_
 refine zC rfl (fun h1=>?_) (fun h1=>?_)
 ·have hc32:=of_decide_eq_true h1
  refine rn [1,2] ?_
  refine s_q (uH (a:=y) (n:=32) rfl rfl (by omega)) rfl ?_
  refine rn [3,0,10,3,0,8,1,2,53,0] ?_
  refine zC rfl (fun h2=>?_) (fun h2=>?_)
  ·have hc16:=of_decide_eq_true h2
   refine rn [1,2] ?_
   refine s_q (uH (a:=(y/2 ^ 32)) (n:=16) rfl rfl (by omega)) rfl ?_
   refine rn [3,0,10,2] ?_
   refine s_q (yJ (z:=48) rfl rfl rfl) rfl ?_
   refine rn [3,0,8,1,2,53,0] ?_
   refine zC rfl (fun h3=>?_) (fun h3=>?_)
   ·have hc8:=of_decide_eq_true h3
    refine rn [1,2] ?_
    refine s_q (uH (a:=((y/2 ^ 32)/2 ^ 16)) (n:=8) rfl rfl (by omega)) rfl ?_
    refine rn [3,0,10,2] ?_
    refine s_q (yJ (z:=56) rfl rfl rfl) rfl ?_
    refine rn [3,0,1] ?_
    have h00:0<(((y/2 ^ 32)/2 ^ 16)/2 ^ 8):=by simp_all;omega
    have h255:(((y/2 ^ 32)/2 ^ 16)/2 ^ 8)<256:=by simp_all;omega
    refine rn [2,2] ?_
    refine s_q (yR (z:=(((((y/2 ^ 32)/2 ^ 16)/2 ^ 8):Nat):Int)) rfl (by rw[IntKind.wrap_u8];omega)) rfl ?_
    refine s_q (tA (a:=(((y/2 ^ 32)/2 ^ 16)/2 ^ 8)) (by kernel_rfl) rfl rfl (by decide +kernel) h255) rfl ?_
    refine s_q (yR (z:=((len8 (((y/2 ^ 32)/2 ^ 16)/2 ^ 8):Nat):Int)) rfl (wi64 (by omega) (by have h8:=(LenOK.of8 h255 h00).2;omega))) rfl ?_
    refine s_q (yJ (z:=56+((len8 (((y/2 ^ 32)/2 ^ 16)/2 ^ 8):Nat):Int)) rfl rfl (wi64 (by omega) (by have h8:=(LenOK.of8 h255 h00).2;omega))) rfl ?_
    refine rn [3,0,11] ?_
    exact fin1 rfl (.tmp rfl) (fun w' hw' => ⟨(len8 (((y/2 ^ 32)/2 ^ 16)/2 ^ 8)+8+16+32),(by(try dsimp only);exact⟨((((LenOK.of8 h255 h00).1).up 8).up 16).up 32,by have h8:=(LenOK.of8 h255 h00).2;omega⟩),by congr 1;omega,zA w' hw'⟩) _ (.inl rfl)
   ·have hc8:=of_decide_eq_false h3
    refine rn [12,7,1] ?_
    have h00:0<((y/2 ^ 32)/2 ^ 16):=by simp_all;omega
    have h255:((y/2 ^ 32)/2 ^ 16)<256:=by simp_all;omega
    refine rn [2,2] ?_
    refine s_q (yR (z:=((((y/2 ^ 32)/2 ^ 16):Nat):Int)) rfl (by rw[IntKind.wrap_u8];omega)) rfl ?_
    refine s_q (tA (a:=((y/2 ^ 32)/2 ^ 16)) (by kernel_rfl) rfl rfl (by decide +kernel) h255) rfl ?_
    refine s_q (yR (z:=((len8 ((y/2 ^ 32)/2 ^ 16):Nat):Int)) rfl (wi64 (by omega) (by have h8:=(LenOK.of8 h255 h00).2;omega))) rfl ?_
    refine s_q (yJ (z:=48+((len8 ((y/2 ^ 32)/2 ^ 16):Nat):Int)) rfl rfl (wi64 (by omega) (by have h8:=(LenOK.of8 h255 h00).2;omega))) rfl ?_
    refine rn [3,0,11] ?_
    exact fin1 rfl (.tmp rfl) (fun w' hw' => ⟨(len8 ((y/2 ^ 32)/2 ^ 16)+16+32),(by(try dsimp only);exact⟨(((LenOK.of8 h255 h00).1).up 16).up 32,by have h8:=(LenOK.of8 h255 h00).2;omega⟩),by congr 1;omega,zA w' hw'⟩) _ (.inl rfl)
  ·have hc16:=of_decide_eq_false h2
   refine rn [12,7,8,1,2,53,0] ?_
   refine zC rfl (fun h4=>?_) (fun h4=>?_)
   ·have hc8:=of_decide_eq_true h4
    refine rn [1,2] ?_
    refine s_q (uH (a:=(y/2 ^ 32)) (n:=8) rfl rfl (by omega)) rfl ?_
    refine rn [3,0,10,2] ?_
    refine s_q (yJ (z:=40) rfl rfl rfl) rfl ?_
    refine rn [3,0,1] ?_
    have h00:0<((y/2 ^ 32)/2 ^ 8):=by simp_all;omega
    have h255:((y/2 ^ 32)/2 ^ 8)<256:=by simp_all;omega
    refine rn [2,2] ?_
    refine s_q (yR (z:=((((y/2 ^ 32)/2 ^ 8):Nat):Int)) rfl (by rw[IntKind.wrap_u8];omega)) rfl ?_
    refine s_q (tA (a:=((y/2 ^ 32)/2 ^ 8)) (by kernel_rfl) rfl rfl (by decide +kernel) h255) rfl ?_
    refine s_q (yR (z:=((len8 ((y/2 ^ 32)/2 ^ 8):Nat):Int)) rfl (wi64 (by omega) (by have h8:=(LenOK.of8 h255 h00).2;omega))) rfl ?_
    refine s_q (yJ (z:=40+((len8 ((y/2 ^ 32)/2 ^ 8):Nat):Int)) rfl rfl (wi64 (by omega) (by have h8:=(LenOK.of8 h255 h00).2;omega))) rfl ?_
    refine rn [3,0,11] ?_
    exact fin1 rfl (.tmp rfl) (fun w' hw' => ⟨(len8 ((y/2 ^ 32)/2 ^ 8)+8+32),(by(try dsimp only);exact⟨(((LenOK.of8 h255 h00).1).up 8).up 32,by have h8:=(LenOK.of8 h255 h00).2;omega⟩),by congr 1;omega,zA w' hw'⟩) _ (.inl rfl)
   ·have hc8:=of_decide_eq_false h4
    refine rn [12,7,1] ?_
    have h00:0<(y/2 ^ 32):=by simp_all;omega
    have h255:(y/2 ^ 32)<256:=by simp_all;omega
    refine rn [2,2] ?_
    refine s_q (yR (z:=(((y/2 ^ 32):Nat):Int)) rfl (by rw[IntKind.wrap_u8];omega)) rfl ?_
    refine s_q (tA (a:=(y/2 ^ 32)) (by kernel_rfl) rfl rfl (by decide +kernel) h255) rfl ?_
    refine s_q (yR (z:=((len8 (y/2 ^ 32):Nat):Int)) rfl (wi64 (by omega) (by have h8:=(LenOK.of8 h255 h00).2;omega))) rfl ?_
    refine s_q (yJ (z:=32+((len8 (y/2 ^ 32):Nat):Int)) rfl rfl (wi64 (by omega) (by have h8:=(LenOK.of8 h255 h00).2;omega))) rfl ?_
    refine rn [3,0,11] ?_
    exact fin1 rfl (.tmp rfl) (fun w' hw' => ⟨(len8 (y/2 ^ 32)+32),(by(try dsimp only);exact⟨((LenOK.of8 h255 h00).1).up 32,by have h8:=(LenOK.of8 h255 h00).2;omega⟩),by congr 1;omega,zA w' hw'⟩) _ (.inl rfl)
 ·have hc32:=of_decide_eq_false h1
  refine rn [12,7,8,1,2,53,0] ?_
  refine zC rfl (fun h5=>?_) (fun h5=>?_)
  ·have hc16:=of_decide_eq_true h5
   refine rn [1,2] ?_
   refine s_q (uH (a:=y) (n:=16) rfl rfl (by omega)) rfl ?_
   refine rn [3,0,10,2] ?_
   refine s_q (yJ (z:=16) rfl rfl rfl) rfl ?_
   refine rn [3,0,8,1,2,53,0] ?_
   refine zC rfl (fun h6=>?_) (fun h6=>?_)
   ·have hc8:=of_decide_eq_true h6
    refine rn [1,2] ?_
    refine s_q (uH (a:=(y/2 ^ 16)) (n:=8) rfl rfl (by omega)) rfl ?_
    refine rn [3,0,10,2] ?_
    refine s_q (yJ (z:=24) rfl rfl rfl) rfl ?_
    refine rn [3,0,1] ?_
    have h00:0<((y/2 ^ 16)/2 ^ 8):=by simp_all;omega
    have h255:((y/2 ^ 16)/2 ^ 8)<256:=by simp_all;omega
    refine rn [2,2] ?_
    refine s_q (yR (z:=((((y/2 ^ 16)/2 ^ 8):Nat):Int)) rfl (by rw[IntKind.wrap_u8];omega)) rfl ?_
    refine s_q (tA (a:=((y/2 ^ 16)/2 ^ 8)) (by kernel_rfl) rfl rfl (by decide +kernel) h255) rfl ?_
    refine s_q (yR (z:=((len8 ((y/2 ^ 16)/2 ^ 8):Nat):Int)) rfl (wi64 (by omega) (by have h8:=(LenOK.of8 h255 h00).2;omega))) rfl ?_
    refine s_q (yJ (z:=24+((len8 ((y/2 ^ 16)/2 ^ 8):Nat):Int)) rfl rfl (wi64 (by omega) (by have h8:=(LenOK.of8 h255 h00).2;omega))) rfl ?_
    refine rn [3,0,11] ?_
    exact fin1 rfl (.tmp rfl) (fun w' hw' => ⟨(len8 ((y/2 ^ 16)/2 ^ 8)+8+16),(by(try dsimp only);exact⟨(((LenOK.of8 h255 h00).1).up 8).up 16,by have h8:=(LenOK.of8 h255 h00).2;omega⟩),by congr 1;omega,zA w' hw'⟩) _ (.inl rfl)
   ·have hc8:=of_decide_eq_false h6
    refine rn [12,7,1] ?_
    have h00:0<(y/2 ^ 16):=by simp_all;omega
    have h255:(y/2 ^ 16)<256:=by simp_all;omega
    refine rn [2,2] ?_
    refine s_q (yR (z:=(((y/2 ^ 16):Nat):Int)) rfl (by rw[IntKind.wrap_u8];omega)) rfl ?_
    refine s_q (tA (a:=(y/2 ^ 16)) (by kernel_rfl) rfl rfl (by decide +kernel) h255) rfl ?_
    refine s_q (yR (z:=((len8 (y/2 ^ 16):Nat):Int)) rfl (wi64 (by omega) (by have h8:=(LenOK.of8 h255 h00).2;omega))) rfl ?_
    refine s_q (yJ (z:=16+((len8 (y/2 ^ 16):Nat):Int)) rfl rfl (wi64 (by omega) (by have h8:=(LenOK.of8 h255 h00).2;omega))) rfl ?_
    refine rn [3,0,11] ?_
    exact fin1 rfl (.tmp rfl) (fun w' hw' => ⟨(len8 (y/2 ^ 16)+16),(by(try dsimp only);exact⟨((LenOK.of8 h255 h00).1).up 16,by have h8:=(LenOK.of8 h255 h00).2;omega⟩),by congr 1;omega,zA w' hw'⟩) _ (.inl rfl)
  ·have hc16:=of_decide_eq_false h5
   refine rn [12,7,8,1,2,53,0] ?_
   refine zC rfl (fun h7=>?_) (fun h7=>?_)
   ·have hc8:=of_decide_eq_true h7
    refine rn [1,2] ?_
    refine s_q (uH (a:=y) (n:=8) rfl rfl (by omega)) rfl ?_
    refine rn [3,0,10,2] ?_
    refine s_q (yJ (z:=8) rfl rfl rfl) rfl ?_
    refine rn [3,0,1] ?_
    have h00:0<(y/2 ^ 8):=by simp_all;omega
    have h255:(y/2 ^ 8)<256:=by simp_all;omega
    refine rn [2,2] ?_
    refine s_q (yR (z:=(((y/2 ^ 8):Nat):Int)) rfl (by rw[IntKind.wrap_u8];omega)) rfl ?_
    refine s_q (tA (a:=(y/2 ^ 8)) (by kernel_rfl) rfl rfl (by decide +kernel) h255) rfl ?_
    refine s_q (yR (z:=((len8 (y/2 ^ 8):Nat):Int)) rfl (wi64 (by omega) (by have h8:=(LenOK.of8 h255 h00).2;omega))) rfl ?_
    refine s_q (yJ (z:=8+((len8 (y/2 ^ 8):Nat):Int)) rfl rfl (wi64 (by omega) (by have h8:=(LenOK.of8 h255 h00).2;omega))) rfl ?_
    refine rn [3,0,11] ?_
    exact fin1 rfl (.tmp rfl) (fun w' hw' => ⟨(len8 (y/2 ^ 8)+8),(by(try dsimp only);exact⟨((LenOK.of8 h255 h00).1).up 8,by have h8:=(LenOK.of8 h255 h00).2;omega⟩),by congr 1;omega,zA w' hw'⟩) _ (.inl rfl)
   ·have hc8:=of_decide_eq_false h7
    refine rn [12,7,1] ?_
    have h00:0<y:=by simp_all;omega
    have h255:y<256:=by simp_all;omega
    refine rn [2,2] ?_
    refine s_q (yR (z:=((y:Nat):Int)) rfl (by rw[IntKind.wrap_u8];omega)) rfl ?_
    refine s_q (tA (a:=y) (by kernel_rfl) rfl rfl (by decide +kernel) h255) rfl ?_
    refine s_q (yR (z:=((len8 y:Nat):Int)) rfl (wi64 (by omega) (by have h8:=(LenOK.of8 h255 h00).2;omega))) rfl ?_
    refine s_q (yJ (z:=0+((len8 y:Nat):Int)) rfl rfl (wi64 (by omega) (by have h8:=(LenOK.of8 h255 h00).2;omega))) rfl ?_
    refine rn [3,0,11] ?_
    exact fin1 rfl (.tmp rfl) (fun w' hw' => ⟨(len8 y),(by(try dsimp only);exact⟨(LenOK.of8 h255 h00).1,by have h8:=(LenOK.of8 h255 h00).2;omega⟩),by congr 1;omega,zA w' hw'⟩) _ (.inl rfl)
theorem lz64_any (y:Nat) (w:World) (hx:y<18446744073709551616) (hy:1≤y):Own2 (ι:=Nat) Tryz.prog 320 [.int .u64 ((y:Nat):Int)] w [] (fun x=>NrmOK y x) (fun x=>.int .i64 (x:Int)) (fun x=>[]) (fun x=>[]):=by
 refine g_st Tryz.func320 6 (WOK.start (fps []) _) ?_
 refine rn [1,3,0,1,2] ?_
 refine g_op (zG [] rfl (fun w1 hw1 ho1=>by have h7:=len64_any y w1 hx hy;exact h7) rfl ?_)
 rintro n4 h4
 refine ii ?_
 have h5:=h4.2
 refine s_q (yZ (z:=((64-n4:Nat):Int)) rfl rfl (by rw[wi64 (by omega) (by omega)];omega)) rfl ?_
 refine rn [3,0,11] ?_
 exact fin1 rfl (.tmp rfl) (fun w' hw' => ⟨(64-n4),(by exact h4.1.nrm h4.2 hy),rfl,zA w' hw'⟩) _ (.inl rfl)
theorem sub64 {s:Nat} (h:s≤64):IntKind.u64.wrap (64-(s:Int))=((64-s:Nat):Int):=by rw[IntKind.wrap_u64];omega
theorem div64_any (hi lo y:Nat) (w:World) (hy:1≤y) (hy2:y≤4294967296) (hh:hi<y) (hl:lo<18446744073709551616):Own2 (ι:=Int) Tryz.prog 291 [.int .u64 ((hi:Nat):Int),.int .u64 ((lo:Nat):Int),.int .u64 ((y:Nat):Int)] w [] (fun x=>True) (fun x=>.tuple [.int .u64 (((hi*18446744073709551616+lo)/y:Nat):Int),.int .u64 x].toArray) (fun x=>[]) (fun x=>[]):=by
 refine g_st Tryz.func291 135 (WOK.start (fps []) _) ?_
 refine rn [1,3,3,0,8,1,2,44] ?_
 refine yC 20 (b:=false) rfl (eq_no hy) ?_
 refine rn [0,20,12,7,8,1,2,2,56] ?_
 refine yC 24 (b:=false) rfl (le_no hh) ?_
 refine rn [0,20,12,7,8,1,2,44,0] ?_
 refine zC rfl (fun h1=>?_) (fun h1=>?_)
 ·have hz:hi=0:=by have h9:=of_decide_eq_true h1;omega
  subst hz
  refine rn [8] ?_
  refine dreg [] mixed rfl ?_
  refine rn [23,0,2,23,1,2] ?_
  refine dq 2 rfl (q_quou (a:=lo) (b:=y) rfl rfl hl hy) ?_
  refine rn [23,3,2,23,4,2] ?_
  refine dq 5 rfl (q_rem rfl rfl (by omega)) ?_
  refine rn [23,6,3,23,7,3,27,7,11,13] ?_
  exact fin2 rfl (.tmp rfl) (.tmp rfl) (fun w' hw' => ⟨_,(by exact trivial),by first|rfl|(simp;rfl),zA w' hw'⟩) _ (.inl rfl)
 ·have hz:hi≠0:=by have h9:=of_decide_eq_false h1;omega
  refine rn [12,7,1,2] ?_
  refine g_op (zG [] rfl (fun w1 hw1 ho1=>by have h7:=lz64_any y w1 (by omega) hy;exact h7) rfl ?_)
  rintro s hs
  refine ii ?_
  obtain⟨v,U,R,D⟩:=div_ok hy hy2 hh hl hs
  obtain⟨m1,m2,m3,m4,m5,m6⟩:=D.more
  obtain⟨d1,d2,d3,d4,d5,d6,d7,d8,d9,d10,d11⟩:=D
  have hs63:=hs.le
  have hs64:s≤64:=Nat.le_succ_of_le hs63
  refine s_q (yR (z:=((s:Nat):Int)) rfl (wu64 (Int.natCast_nonneg _) (Int.ofNat_lt.2 (Nat.lt_of_le_of_lt hs63 (by decide))))) rfl ?_
  refine rn [3,0,1,2,2] ?_
  refine s_q (q_shln (a:=y) (n:=s) rfl rfl hs64) rfl ?_
  refine g_val 39 (v' := .int .u64 ((v*4294967296:Nat):Int)) rfl (by rw[d2,Nat.mod_eq_of_lt m1]) ?_
  refine rn [3,0,1,2] ?_
  refine s_q (uI (a:=v*4294967296) rfl rfl) rfl ?_
  refine g_val 41 (v' := .int .u64 ((v:Nat):Int)) rfl (by rw[Nat.mul_div_cancel _ (by decide)]) ?_
  refine rn [3,0,1,2] ?_
  refine s_q (rC (a:=v*4294967296) rfl rfl m1) rfl ?_
  refine g_val 43 (v' := .int .u64 ((0:Nat):Int)) rfl (by rw[Nat.mul_mod_left]) ?_
  refine rn [3,0,1,2,2] ?_
  refine s_q (q_shln (a:=hi) (n:=s) rfl rfl hs64) rfl ?_
  refine rn [2,2] ?_
  refine s_q (yZ (z:=((64-s:Nat):Int)) rfl rfl (sub64 hs64)) rfl ?_
  refine s_q (uH (a:=lo) (n:=64-s) rfl rfl (Nat.sub_le _ _)) rfl ?_
  refine s_q (q_orn (a:=hi*2 ^ s%18446744073709551616) (b:=lo/2 ^ (64-s)) rfl rfl (Nat.mod_lt _ (by decide)) (Nat.lt_of_le_of_lt (Nat.div_le_self _ _) hl)) rfl ?_
  refine g_val 51 (v' := .int .u64 ((U:Nat):Int)) rfl (by rw[d4]) ?_
  refine rn [3,0,1,2,2] ?_
  refine s_q (q_shln (a:=lo) (n:=s) rfl rfl hs64) rfl ?_
  refine g_val 54 (v' := .int .u64 ((R:Nat):Int)) rfl (by rw[d5]) ?_
  refine rn [3,0,1,2] ?_
  refine s_q (uI (a:=R) rfl rfl) rfl ?_
  refine rn [3,0,1,2] ?_
  refine s_q (rC (a:=R) rfl rfl d7) rfl ?_
  refine rn [3,0,1,2,2] ?_
  refine s_q (q_quou (a:=U) (b:=v) rfl rfl m2 d1) rfl ?_
  refine rn [3,0,1,2,2,2] ?_
  refine s_q (rP (a:=U/v) (b:=v) rfl rfl (Nat.lt_of_le_of_lt m3 m2)) rfl ?_
  refine s_q (q_subu (a:=U) (b:=U/v*v) rfl rfl m3 m2) rfl ?_
  refine g_val 66 (v' := .int .u64 ((U%v:Nat):Int)) rfl (by rw[m4]) ?_
  refine rn [3,0,8,14] ?_
  refine g_lk [2,6,7,8,9,10,11,13,14] (fun(x:Nat)=>[(15,.int .u64 ((U/v:Nat):Int)),(16,.int .u64 ((U%v:Nat):Int))]) (fun(x:Nat)=>[]) (fun(x:Nat)=>True) (fun(x:Nat)=>0*x) 0 (trivial) ?_
  rintro u _
  refine rn [8,1,2,53] ?_
  refine yC 68 (b:=false) rfl (ge_no d9) ?_
  refine rn [2,22,2,22,2] ?_
  refine s_qg (uJ (z:=0) rfl rfl (by simp[IntKind.wrap_u64])) rfl rfl rfl ?_
  refine rn [22,2,22,60,22,2,22,54,22,55] ?_
  refine yC 77 (b:=false) rfl (gt_no _) ?_
  refine rn [42,0,20,16] ?_
  refine zD (zD (zN ?_))
  refine rn [7,1,2,60,2,54,2,2,60] ?_
  refine s_q (yZ (z:=(((U%v*4294967296+R/4294967296):Nat):Int)) rfl rfl (wr1 U v R m5)) rfl ?_
  refine rn [3,0,1,2,2] ?_
  refine s_q (q_quou (a:=(U%v*4294967296+R/4294967296)) (b:=v) rfl rfl m5 d1) rfl ?_
  refine rn [3,0,1,2,2,2] ?_
  refine s_q (rP (a:=(U%v*4294967296+R/4294967296)/v) (b:=v) rfl rfl (Nat.lt_of_le_of_lt m6 m5)) rfl ?_
  refine s_q (q_subu (a:=(U%v*4294967296+R/4294967296)) (b:=(U%v*4294967296+R/4294967296)/v*v) rfl rfl m6 m5) rfl ?_
  refine rn [3,0,8,14] ?_
  refine g_lk [2,6,7,8,9,10,14,15,17] (fun(x:Nat)=>[(18,.int .u64 (((U%v*4294967296+R/4294967296)/v:Nat):Int)),(16,.int .u64 (((U%v*4294967296+R/4294967296)-(U%v*4294967296+R/4294967296)/v*v:Nat):Int))]) (fun(x:Nat)=>[]) (fun(x:Nat)=>True) (fun(x:Nat)=>0*x) 0 (trivial) ?_
  rintro u _
  refine rn [8,1,2,53] ?_
  refine yC 103 (b:=false) rfl (ge_no d10) ?_
  refine rn [2,22,2,22,2] ?_
  refine s_qg (uJ (z:=0) rfl rfl (by simp[IntKind.wrap_u64])) rfl rfl rfl ?_
  refine rn [22,2,22,60,22,2,22,54,22,55] ?_
  refine yC 112 (b:=false) rfl (gt_no _) ?_
  refine rn [42,0,20,16] ?_
  refine zD (zD (zN ?_))
  refine rn [7,1,2,60,2] ?_
  refine s_q (yJ (z:=(((hi*18446744073709551616+lo)/y:Nat):Int)) rfl rfl (by rw[←d8];exact wr2 _ _ d9 d10)) rfl ?_
  refine rn [2,60,2,54,2,2,60,57,2] ?_
  refine s_q (q_shri (n:=s) rfl rfl hs64) rfl ?_
  refine rn [3,3,0,11] ?_
  exact fin2 rfl (.tmp rfl) (.tmp rfl) (fun w' hw' => ⟨_,(by exact trivial),by first|rfl|(simp;rfl),zA w' hw'⟩) _ (.inl rfl)
theorem muldiv_any (x y z:Nat) (w:World) (hx:x<18446744073709551616) (hz1:1≤z) (hz2:z≤4294967296) (hyz:y≤z):Pur Tryz.prog 247 [.int .u64 ((x:Nat):Int),.int .u64 ((y:Nat):Int),.int .u64 ((z:Nat):Int)] w (.tuple [.int .u64 ((x*y/z:Nat):Int),.bool true].toArray):=by
 refine g_st Tryz.func247 28 (WOK.start [] _) ?_
 have hlt:x*y/18446744073709551616<z:=by
   rw[Nat.div_lt_iff_lt_mul (by decide)]
   exact Nat.lt_of_le_of_lt (Nat.mul_le_mul_left x hyz) (by rw[Nat.mul_comm x];exact Nat.mul_lt_mul_of_pos_left hx (by omega))
 refine rn [1,3,3,0,1,2,2] ?_
 refine g_op (zI rfl (fun w1 hw1=>prod_any x y w1 (by omega) (by omega)) rfl ?_)
 refine g_op (zK rfl fun b8=>?_)
 refine rn [33,0,8,1] ?_
 refine s_q (yS (i:=0) rfl rfl rfl (by decide)) rfl ?_
 refine rn [5,2,53,0] ?_
 refine zC rfl (fun h1=>?_) (fun h1=>?_)
 ·exfalso;have h9:=of_decide_eq_true h1;omega
 ·refine rn [12,7,1] ?_
  refine s_q (yS (i:=0) rfl rfl rfl (by decide)) rfl ?_
  refine rn [5] ?_
  refine s_q (yS (i:=1) rfl rfl rfl (by decide)) rfl ?_
  refine rn [5,2] ?_
  refine g_op (zG [] rfl (fun w1 hw1 ho1=>by have h7:=div64_any (x*y/18446744073709551616) (x*y%18446744073709551616) z w1 (by omega) hz2 hlt (Nat.mod_lt _ (by decide));exact h7) rfl ?_)
  rintro r24 _
  refine ii ?_
  refine rn [2,40,40,3,3,0,1,2,3,3,0,11] ?_
  exact fin2 rfl (.tmp rfl) (.tmp rfl) (fun w' hw' => ⟨by rw[show x*y/18446744073709551616*18446744073709551616+x*y%18446744073709551616=x*y from by have:=Nat.div_add_mod (x*y) 18446744073709551616;omega],hw'.upd⟩) _ (.inl rfl)
theorem amount_any (x y z:Int) (w:World) (hx:0≤x∧x≤18446744073709551615) (hy:0≤y) (hz:1≤z∧z≤4294967296) (hyz:y≤z):Pur Tryz.prog 172 [.int .u64 x,.int .u64 y,.int .u64 z] w (.tuple [.int .u64 (x*y/z),.bool true].toArray):=by
 refine g_st Tryz.func172 17 (WOK.start [] _) ?_
 refine rn [1,3,3,0,8,1,2,2,55,0] ?_
 refine zC rfl (fun h1=>?_) (fun h1=>?_)
 ·exfalso;have h9:=of_decide_eq_true h1;omega
 ·refine rn [12,7,1,2,2,2] ?_
  refine g_op (zI rfl (fun w1 hw1=>by have h7:=muldiv_any x.toNat y.toNat z.toNat w1 (by omega) (by omega) (by omega) (by omega);rw[Int.toNat_of_nonneg hx.1,Int.toNat_of_nonneg hy,Int.toNat_of_nonneg (show 0≤z by omega)] at h7;exact h7) rfl ?_)
  refine rn [40,40,3,3,0,11] ?_
  exact fin2 rfl (.tmp rfl) (.tmp rfl) (fun w' hw' => ⟨by rw[Int.natCast_ediv,Int.natCast_mul,Int.toNat_of_nonneg hx.1,Int.toNat_of_nonneg hy,Int.toNat_of_nonneg (show 0≤z by omega)],hw'.upd⟩) _ (.inl rfl)
end Go.Proofs.YtdddiilocbbkkaaGreat
