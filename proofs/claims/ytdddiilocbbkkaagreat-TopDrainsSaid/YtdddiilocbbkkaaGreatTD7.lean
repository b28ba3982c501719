/- TopDrains: for every configuration and all operations the law returns true. No condition. Part 7 of 28. -/
import Derived.Test.YtdddiilocbbkkaaGreatTD4
import Derived.Test.YtdddiilocbbkkaaGreatTD6
set_option linter.unusedVariables false
set_option linter.unusedSimpArgs false
namespace Go.Proofs.YtdddiilocbbkkaaGreat
open Go.RowKit Go.Eg
set_option maxHeartbeats 4000000
set_option synthInstance.maxSize 3000
set_option maxRecDepth 100000
structure M where
 g:Int
 t:Int
 d:Int
 bf:Int
def M.c (x:M):List Value:=[.int .u64 x.g,.int .u64 x.t,.int .u64 x.d,.int .u64 x.bf]
structure R where
 b:Int
 s:Int
 g:Int
 t:Int
 d:Int
def UU (n:Int):Int:=IntKind.u64.wrap n
def M.bal (m:M):Int:=UU (UU (m.g-m.t)-m.d)
def M.grant (m:M) (l:Int):M:=⟨UU (m.g+min l (UU (18446744073709551615-m.bal))),m.t,m.d,m.t⟩
def M.take (m:M) (w:Int):M:=if m.bal<w then m else⟨m.g,UU (m.t+w),m.d,m.bf⟩
def M.drop (m:M):M:=⟨m.g,m.t,UU (m.d+m.bal),m.bf⟩
def M.spent (m:M):Int:=UU (m.t-m.bf)
def R.grant (m:R) (x:Int):R:=⟨UU (m.b+min x (UU (18446744073709551615-m.b))),0,UU (m.g+min x (UU (18446744073709551615-m.b))),m.t,m.d⟩
def R.take (m:R) (x:Int):R:=if m.b<x then m else⟨UU (m.b-x),UU (m.s+x),m.g,UU (m.t+x),m.d⟩
def R.drop (m:R):R:=⟨0,m.s,m.g,m.t,UU (m.d+m.b)⟩
def M0:M:=⟨0,0,0,0⟩
structure As where
 i:Int
 c:Int
 e:Int
deriving DecidableEq
def As.cs (x:As):List Value:=[.int .i64 x.i,.int .i64 x.c,.int .i64 x.e]
def ofW (W:List Int) (i:Int):Int:=if i<0∨(W.length:Int)≤i then 0 else(W[i.toNat]?).getD 0
theorem ofW_hi {W:List Int} {j:Nat} (h:j<W.length):ofW W ((j:Nat):Int)=W[j]:=by
 unfold ofW
 rw[if_neg (by omega)]
 simp[h]
theorem ofW_lo {W:List Int} {i:Int} (h:i<0∨(W.length:Int)≤i):ofW W i=0:=if_pos h
def lenL (q:LL):Nat:=q.f.length+q.v.length
theorem popL_lt {q:LL} (h:headB q=true):lenL (popL q)+1=lenL q:=by
 obtain⟨f,v⟩:=q
 cases f<;>cases v<;>simp_all[headB,popL,lenL]<;>omega
def stepF (W:List Int) (e:Int):Nat→LL→R→List As→List As × LL × R
 | 0,q,m,out=>(out,q,m)
 | n+1,q,m,out=>if headB q=false then(out,q,m.drop) else if m.b<ofW W (headI q) then(out,q,m) else stepF W e n (popL q) (m.take (ofW W (headI q))) (out++[⟨headI q,headC q,e+1⟩])
def stepR (W:List Int) (e lim:Int) (q:LL) (m:R):List As × LL × R:=stepF W e (lenL q+1) q (m.grant lim) []
structure M.ok (m:M):Prop where
 g:0≤m.g∧m.g≤18446744073709551615
 t:0≤m.t∧m.t≤18446744073709551615
 d:0≤m.d∧m.d≤18446744073709551615
 bf:0≤m.bf∧m.bf≤18446744073709551615
def R.of (m:M):R:=⟨m.bal,m.spent,m.g,m.t,m.d⟩
theorem UU_eq (n:Int):UU n=n%18446744073709551616:=IntKind.wrap_u64 n
theorem M0_ok:M0.ok:=⟨by decide,by decide,by decide,by decide⟩
theorem R.ext {a b:R} (h1:a.b=b.b) (h2:a.s=b.s) (h3:a.g=b.g) (h4:a.t=b.t) (h5:a.d=b.d):a=b:=by
 cases a;cases b;simp_all
theorem of_grant {m:M} (h:m.ok) {x:Int} (hx:0≤x):(R.of m).grant x=R.of (m.grant x):=by
 obtain⟨h1,h2,h3,h4⟩:=h
 apply R.ext<;>simp only[R.of,R.grant,M.grant,M.bal,M.spent,UU_eq]<;>omega
theorem of_take {m:M} (h:m.ok) {x:Int} (hx:0≤x):(R.of m).take x=R.of (m.take x):=by
 obtain⟨h1,h2,h3,h4⟩:=h
 unfold R.take M.take
 by_cases hb:m.bal<x
 ·rw[if_pos hb,if_pos (show(R.of m).b<x from hb)]
 ·rw[if_neg hb,if_neg (show¬(R.of m).b<x from hb)]
  apply R.ext<;>simp only[R.of,M.bal,M.spent,UU_eq] at * <;> omega
theorem of_drop {m:M} (h:m.ok):(R.of m).drop=R.of m.drop:=by
 obtain⟨h1,h2,h3,h4⟩:=h
 apply R.ext<;>simp only[R.of,R.drop,M.drop,M.bal,M.spent,UU_eq]<;>omega
theorem grant_ok {m:M} (h:m.ok) (x:Int):(m.grant x).ok:=by
 obtain⟨h1,h2,h3,h4⟩:=h
 constructor<;>simp only[M.grant,UU_eq]<;>omega
theorem take_ok {m:M} (h:m.ok) (x:Int):(m.take x).ok:=by
 unfold M.take
 split
 ·exact h
 ·obtain⟨h1,h2,h3,h4⟩:=h
  constructor<;>simp only[UU_eq]<;>omega
theorem drop_ok {m:M} (h:m.ok):m.drop.ok:=by
 obtain⟨h1,h2,h3,h4⟩:=h
 constructor<;>simp only[M.drop,UU_eq]<;>omega
def stepMF (W:List Int) (e:Int):Nat→LL→M→List As→List As × LL × M
 | 0,q,m,out=>(out,q,m)
 | n+1,q,m,out=>if headB q=false then(out,q,m.drop) else if m.bal<ofW W (headI q) then(out,q,m) else stepMF W e n (popL q) (m.take (ofW W (headI q))) (out++[⟨headI q,headC q,e+1⟩])
def stepM (W:List Int) (e lim:Int) (q:LL) (m:M):List As × LL × M:=stepMF W e (lenL q+1) q (m.grant lim) []
theorem sH {W:List Int} {e:Int} {n:Nat} {q:LL} {m:M} {out:List As} (h:headB q=false):stepMF W e (n+1) q m out=(out,q,m.drop):=by rw[stepMF,if_pos h]
theorem uW {W:List Int} {e:Int} {n:Nat} {q:LL} {m:M} {out:List As} (h:headB q=true) (h2:m.bal<ofW W (headI q)):stepMF W e (n+1) q m out=(out,q,m):=by rw[stepMF,if_neg (by simp[h]),if_pos h2]
theorem rL {W:List Int} {e:Int} {n:Nat} {q:LL} {m:M} {out:List As} (h:headB q=true) (h2:¬m.bal<ofW W (headI q)):stepMF W e (n+1) q m out=stepMF W e n (popL q) (m.take (ofW W (headI q))) (out++[⟨headI q,headC q,e+1⟩]):=by rw[stepMF,if_neg (by simp[h]),if_neg h2]
theorem ofW_nn {W:List Int} (h:∀x∈W,0≤x) (i:Int):0≤ofW W i:=by
 unfold ofW
 split
 ·omega
 ·rename_i hi
  have hj:i.toNat<W.length:=by omega
  rw[List.getElem?_eq_getElem hj]
  exact h _ (List.getElem_mem hj)
theorem stepMF_of {W:List Int} {e:Int} (hW:∀x∈W,0≤x):∀{n:Nat} {q:LL} {m:M} {out:List As},m.ok→stepF W e n q (R.of m) out=((stepMF W e n q m out).1,(stepMF W e n q m out).2.1,R.of (stepMF W e n q m out).2.2)∧(stepMF W e n q m out).2.2.ok
 | 0,q,m,out,h=>⟨rfl,h⟩
 | n+1,q,m,out,h=>by
  unfold stepF stepMF
  split
  ·exact⟨by rw[of_drop h],drop_ok h⟩
  ·rw[show(R.of m).b=m.bal from rfl]
   split
   ·exact⟨rfl,h⟩
   ·rw[of_take h (ofW_nn hW _)]
    exact stepMF_of hW (take_ok h _)
theorem stepM_of {W:List Int} {e lim:Int} {q:LL} {m:M} (hW:∀x∈W,0≤x) (hl:0≤lim) (h:m.ok):stepR W e lim q (R.of m)=((stepM W e lim q m).1,(stepM W e lim q m).2.1,R.of (stepM W e lim q m).2.2)∧(stepM W e lim q m).2.2.ok:=by
 unfold stepR stepM
 rw[of_grant h hl]
 exact stepMF_of hW (grant_ok h lim)
theorem pM {W:List Int} {e:Int}:∀{n:Nat} {q:LL} {m:M} {out:List As},(stepMF W e n q m out).2.1.f.length≤q.f.length∧(stepMF W e n q m out).2.1.v.length≤q.v.length∧(stepMF W e n q m out).1.length≤out.length+n
 | 0,_,_,_=>by simp[stepMF]
 | n+1,q,m,out=>by
  unfold stepMF
  split
  ·simp
  ·split
   ·simp
   ·have h1:=pM (W:=W) (e:=e) (n:=n) (q:=popL q) (m:=m.take (ofW W (headI q))) (out:=out++[⟨headI q,headC q,e+1⟩])
    have h2:=popL_len q
    simp only[List.length_append,List.length_cons,List.length_nil] at h1
    omega
theorem stepM_len {W:List Int} {e lim:Int} {q:LL} {m:M} {sz:Nat} (h:q.f.length≤sz∧q.v.length≤sz):(stepM W e lim q m).2.1.f.length≤sz∧(stepM W e lim q m).2.1.v.length≤sz:=by
 have:=pM (W:=W) (e:=e) (n:=lenL q+1) (q:=q) (m:=m.grant lim) (out:=[])
 unfold stepM;omega
theorem tF (mb:Nat) (m:M) (w:World) (hw:W0 [Res.blk mb 186 (M.c m)] w) : Keep Tryz.prog 99 [.pointer (some ⟨mb,0,none⟩)] w [Res.blk mb 186 (M.c m)] (.int .u64 m.bal):=by
 refine g_st Tryz.func99 20 hw ?_
 refine rn [1,3,0,8] ?_
 refine dreg [] mixed rfl ?_
 refine rn [23,0,2,23,1,6,23,2,4,23,3,4,23,4,5,23,5,2,23,6,6,23,7,4,23,8,4,23,9,5,23,10,57,23,11,2,23,12,6,23,13,4,23,14,4,23,15,5,23,16,57,23,17,3,27,7,11] ?_
 exact fin1 rfl (.tmp rfl) (fun w' hw' => ⟨(),trivial,by first|rfl|(simp_all;done),zA w' hw'⟩) _ (.inl rfl)
theorem mfree_any (mb:Nat) (m:M) (w:World) (hw:W0 [Res.blk mb 186 (M.c m)] w) : Keep Tryz.prog 315 [.pointer (some ⟨mb,0,none⟩)] w [Res.blk mb 186 (M.c m)] (.int .u64 (UU (18446744073709551615-m.bal))):=by
 refine g_st Tryz.func315 6 hw ?_
 refine rn [1,3,0,1,2] ?_
 refine g_op (zL _ rfl (fun w1 hw1 ho1=>by exact tF mb m w1 ho1) rfl ?_)
 refine rn [57,3,0,11] ?_
 exact fin1 rfl (.tmp rfl) (fun w' hw' => ⟨(),trivial,by first|rfl|(simp_all;done),zA w' hw'⟩) _ (.inl rfl)
theorem gsub_any (a b:Int) (w:World) : Pur Tryz.prog 316 [.int .u64 a,.int .u64 b] w (.tuple [.int .u64 (if a<b then 0 else UU (a-b)),.bool (!decide (a<b))].toArray):=by
 refine g_st Tryz.func316 12 (WOK.start [] _) ?_
 refine rn [1,3,3,0,8,1,2,2,55,0] ?_
 refine zC rfl (fun h1=>?_) (fun h1=>?_)
 ·refine rn [1,3,3,0,11,13] ?_
  exact fin2 rfl (.tmp rfl) (.tmp rfl) (fun w' hw' => ⟨by simp at h1;rw[if_pos (by omega),decide_eq_true (by omega)];rfl,hw'.upd⟩) _ (.inl rfl)
 ·refine rn [12,7,1,2,2,57,3,3,0,11] ?_
  exact fin2 rfl (.tmp rfl) (.tmp rfl) (fun w' hw' => ⟨by simp at h1;rw[if_neg (by omega),decide_eq_false (by omega)];rfl,hw'.upd⟩) _ (.inl rfl)
theorem mgrant_any (mb:Nat) (m:M) (y:Int) (w:World) (hw:W0 [Res.blk mb 186 (M.c m)] w) : Own2 (ι:=Unit) Tryz.prog 276 [.pointer (some ⟨mb,0,none⟩),.int .u64 y] w [Res.blk mb 186 (M.c m)] (fun x=>True) (fun x=>.int .u64 (m.grant y).bal) (fun x=>[]) (fun x=>[Res.blk mb 186 (M.c (m.grant y))]):=by
 refine g_st Tryz.func276 37 hw ?_
 refine rn [1,3,0,8,1,2,50,0,20,12,7,8] ?_
 refine dreg [17] mixed rfl ?_
 refine rn [23,0,2,23,1,6,23,2,4,23,3,4,23,4,4,23,5,5,23,6,2,23,7,2,23,8,6,23,9,4] ?_
 refine dop 10 rfl (zL _ rfl (fun w1 hw1 ho1=>by exact mfree_any mb m w1 ho1) rfl ?_)
 refine rn [23,11,58,23,12,54,24,13,6,24,14,4,24,15,4,23,16,4] ?_
 refine dop 17 rfl (zJ (c' := M.c ⟨UU (m.g+min y (UU (18446744073709551615-m.bal))),m.t,m.d,m.bf⟩) rfl rfl rfl rfl rfl rfl rfl ?_)
 refine rn [28,7,1,2,2,6,4,4,4,5,6,4] ?_
 refine g_op (zJ (c' := M.c (m.grant y)) rfl rfl rfl rfl rfl rfl rfl ?_)
 refine rn [0,1,2,6,4] ?_
 refine g_op (zL _ rfl (fun w1 hw1 ho1=>by exact tF mb (m.grant y) w1 ho1) rfl ?_)
 refine rn [3,0,11] ?_
 exact fin1 rfl (.tmp rfl) (fun w' hw' => ⟨(),(by exact trivial),rfl,zA w' hw'⟩) _ (.inl rfl)
theorem mtake_any (mb:Nat) (m:M) (y:Int) (w:World) (hw:W0 [Res.blk mb 186 (M.c m)] w) : Own2 (ι:=Unit) Tryz.prog 277 [.pointer (some ⟨mb,0,none⟩),.int .u64 y] w [Res.blk mb 186 (M.c m)] (fun x=>True) (fun x=>.bool (!decide (m.bal<y))) (fun x=>[]) (fun x=>[Res.blk mb 186 (M.c (m.take y))]):=by
 refine g_st Tryz.func277 32 hw ?_
 refine rn [1,3,0,8,1,2,50,0,20,12,7,8,1,2,6,4] ?_
 refine g_op (zL _ rfl (fun w1 hw1 ho1=>by exact tF mb m w1 ho1) rfl ?_)
 refine rn [2] ?_
 refine g_op (zI rfl (fun w1 hw1=>gsub_any ((M.bal m)) (y) w1) rfl ?_)
 refine rn [2,40,40,3,3,0,1,2,48,0] ?_
 refine zC rfl (fun h1=>?_) (fun h1=>?_)
 ·refine rn [1,3,0,11,13] ?_
  have e7:m.take y=m:=if_pos (by simp at h1;omega)
  exact fin1 rfl (.tmp rfl) (fun w' hw' => ⟨(),(by exact trivial),by simp at h1;simp;omega,by rw[e7];exact zA w' hw'⟩) _ (.inl rfl)
 ·refine rn [12,7,1,2,6,4,4,4,5,2,54,6,4,4,4] ?_
  refine g_op (zJ (c' := M.c ⟨m.g,UU (m.t+y),m.d,m.bf⟩) rfl rfl rfl rfl rfl rfl rfl ?_)
  refine rn [0,1,3,0,11] ?_
  have e7:m.take y=⟨m.g,UU (m.t+y),m.d,m.bf⟩:=if_neg (by simp at h1;omega)
  exact fin1 rfl (.tmp rfl) (fun w' hw' => ⟨(),(by exact trivial),by simp at h1;simp;omega,by rw[e7];exact zA w' hw'⟩) _ (.inl rfl)
theorem mdrop_any (mb:Nat) (m:M) (w:World) (hw:W0 [Res.blk mb 186 (M.c m)] w) : Own2 (ι:=Unit) Tryz.prog 280 [.pointer (some ⟨mb,0,none⟩)] w [Res.blk mb 186 (M.c m)] (fun x=>True) (fun x=>.int .u64 m.bal) (fun x=>[]) (fun x=>[Res.blk mb 186 (M.c m.drop)]):=by
 refine g_st Tryz.func280 23 hw ?_
 refine rn [1,3,0,8,1,2,50,0,20,12,7,1,2,6,4] ?_
 refine g_op (zL _ rfl (fun w1 hw1 ho1=>by exact tF mb m w1 ho1) rfl ?_)
 refine rn [3,0,1,2,6,4,4,4,5,2,54,6,4,4,4] ?_
 refine g_op (zJ (c' := M.c m.drop) rfl rfl rfl rfl rfl rfl rfl ?_)
 refine rn [0,1,2,3,0,11] ?_
 exact fin1 rfl (.tmp rfl) (fun w' hw' => ⟨(),(by exact trivial),rfl,zA w' hw'⟩) _ (.inl rfl)
theorem mbalance_any (mb:Nat) (m:M) (w:World) (hw:W0 [Res.blk mb 186 (M.c m)] w) : Keep Tryz.prog 54 [.pointer (some ⟨mb,0,none⟩)] w [Res.blk mb 186 (M.c m)] (.int .u64 m.bal):=by
 refine g_st Tryz.func54 9 hw ?_
 refine rn [1,3,0,8,1,2,50,0,20,12,7,1,2,6,4] ?_
 refine g_op (zL _ rfl (fun w1 hw1 ho1=>by exact tF mb m w1 ho1) rfl ?_)
 refine rn [3,0,11] ?_
 exact fin1 rfl (.tmp rfl) (fun w' hw' => ⟨(),trivial,by first|rfl|(simp_all;done),zA w' hw'⟩) _ (.inl rfl)
theorem mnew_any (w:World) : Own2 (ι:=Nat) Tryz.prog 38 [] w [] (fun x=>True) (fun x=>.pointer (some ⟨x,0,none⟩)) (fun x=>[Res.blk x 186 (M.c M0)]) (fun x=>[]):=by
 refine g_st Tryz.func38 3 (WOK.start (fps []) _) ?_
 refine rn [1,3,0,1] ?_
 refine s_q (yH (c:=M.c M0) rfl rfl) rfl ?_
 refine g_op (g_box (c:=M.c M0) rfl rfl rfl fun b2=>?_)
 refine rn [3,0,11] ?_
 exact fin1 rfl (.tmp rfl) (fun w' hw' => ⟨b2,(by exact trivial),rfl,zA w' hw'⟩) _ (.inl rfl)
theorem wt_any (A:Option Addr) (n cap:Nat) (l:List Int) (i:Int) (w:World) (ha:Old w A n 1 (l.map (fun v:Int=>[Value.int .u64 v]))):Pur Tryz.prog 245 [.slice A n cap,.int .i64 i] w (.int .u64 (ofW l i)):=by
 refine g_st Tryz.func245 17 (WOK.start [] _) ?_
 refine rn [1,3,0,8,1,2,46,2] ?_
 refine zU 7 rfl (fun h1=>?_) (fun h1=>?_)
 ·refine rn [21,21,21,21,41,0,19,1,3,0,11,13] ?_
  exact fin1 rfl (.tmp rfl) (fun w' hw' => ⟨by rw[ofW_lo (by first|exact .inl (of_decide_eq_true h1)|(have h8:=ha.len;simp only[List.length_map] at h8;simp_all;omega))],hw'.upd⟩) _ (.inl rfl)
 ·refine rn [22,2,22,2,22,47,22,53,42,0] ?_
  refine zC rfl (fun h2=>?_) (fun h2=>?_)
  ·refine rn [1,3,0,11,13] ?_
   exact fin1 rfl (.tmp rfl) (fun w' hw' => ⟨by rw[ofW_lo (.inr (by have h8:=ha.len;simp only[List.length_map] at h8;have h7:=of_decide_eq_true h2;omega))],hw'.upd⟩) _ (.inl rfl)
  ·have hn:n=l.length:=by simpa using ha.len
   have h9:¬i<0∧¬(l.length:Int)≤i:=⟨of_decide_eq_false h1,by have h7:=of_decide_eq_false h2;omega⟩
   obtain⟨j,rfl⟩:∃j:Nat,i=j:=⟨i.toNat,by omega⟩
   have hj:j<l.length:=by omega
   refine rn [12,7,1,2,2] ?_
   refine s_q (zP (i:=j) rfl rfl rfl (ha.rdb rfl) (by first|omega|(simp;done)|(simp;omega))) rfl ?_
   refine s_q (yI (i:=j) (o:=0) rfl (ha.rdb rfl) (zR (by first|assumption|omega)) rfl rfl) rfl ?_
   refine rn [3,0,11] ?_
   exact fin1 rfl (.tmp rfl) (fun w' hw' => ⟨by rw[ofW_hi hj],hw'.upd⟩) _ (.inl rfl)
theorem astep_any (e lim:Int) (bl b0 b1 mb:Nat) (g0 g1:Rg) (q:LL) (sz:Nat) (m:M) (W:Option Addr) (wn wc:Nat) (l:List Int) (w:World) (hw:W0 [bL_ bl b0 b1,rB_i b0 g0,rW_i g0,rB_i b1 g1,rW_i g1,Res.blk mb 186 (M.c m)] w) (h0:g0.Rep 1 ((q).f.map (fun v:Int=>[Value.int .i64 v]))) (hh1:g1.Rep 1 ((q).v.map (fun v:Int=>[Value.int .i64 v]))) (s0:Rg.size g0=sz) (s1:Rg.size g1=sz) (hsz:sz≤4096) (hq:q.f.length≤sz∧q.v.length≤sz) (hw9:Rd w [bL_ bl b0 b1,rB_i b0 g0,rW_i g0,rB_i b1 g1,rW_i g1,Res.blk mb 186 (M.c m)] W wn 1 (l.map (fun v:Int=>[Value.int .u64 v]))) (he9:-1000000≤e∧e≤1000000000000000):Own2 (ι:=(Option Addr × Nat × Rg × Rg)) Tryz.prog 229 [.int .i64 e,.pointer (some ⟨bl,0,none⟩),.pointer (some ⟨mb,0,none⟩),.int .u64 lim,.slice W wn wc] w [bL_ bl b0 b1,rB_i b0 g0,rW_i g0,rB_i b1 g1,rW_i g1,Res.blk mb 186 (M.c m)] (fun x=>x.2.2.1.Rep 1 ((stepM l e lim q m).2.1.f.map (fun v:Int=>[Value.int .i64 v]))∧x.2.2.2.Rep 1 ((stepM l e lim q m).2.1.v.map (fun v:Int=>[Value.int .i64 v]))∧x.2.2.1.size=sz∧x.2.2.2.size=sz) (fun x=>.slice x.1 (stepM l e lim q m).1.length x.2.1) (fun x=>[Res.row x.1 ((stepM l e lim q m).1).length x.2.1 55 3 (((stepM l e lim q m).1).map As.cs)]) (fun x=>[bL_ bl b0 b1,rB_i b0 x.2.2.1,rW_i x.2.2.1,rB_i b1 x.2.2.2,rW_i x.2.2.2,Res.blk mb 186 (M.c (stepM l e lim q m).2.2)]):=by
 refine g_st Tryz.func229 62 hw ?_
 refine rn [1,3,0,8,1,2,50,2,22,2,22,50,42,0,20,12,7,1,2,2] ?_
 refine g_op (zG _ rfl (fun w1 hw1 ho1=>by have h7:=mgrant_any mb m (lim) w1 ho1;exact h7) rfl ?_)
 rintro⟨⟩ _
 refine ii ?_
 refine rn [0,1,2,52,3,0,1,3] ?_
 refine xL 12 55 3 rfl fun Az1 capz1 hcz1=>?_
 refine zH (A:=Az1) (([]:List As).map As.cs) rfl ?_
 refine rn [0,1,2] ?_
 refine g_op (zL _ rfl (fun w1 hw1 ho1=>by exact head_any bl b0 b1 g0 g1 q sz w1 ho1 h0 hh1 s0 s1 (by omega)) rfl ?_)
 refine rn [2,40,40,40,3,3,3,0,8,14] ?_
 refine g_lk [0,1,2,4,10,11] (fun(x:Option Addr × Nat × List As × LL × M × Rg × Rg)=>[(12,.slice x.1 x.2.2.1.length x.2.1),(13,.int .i64 (headI x.2.2.2.1)),(14,.int .i64 (headC x.2.2.2.1)),(15,.bool (headB x.2.2.2.1))]) (fun(x:Option Addr × Nat × List As × LL × M × Rg × Rg)=>[Res.row x.1 (x.2.2.1).length x.2.1 55 3 ((x.2.2.1).map As.cs),bL_ bl b0 b1,rB_i b0 x.2.2.2.2.2.1,rW_i x.2.2.2.2.2.1,rB_i b1 x.2.2.2.2.2.2,rW_i x.2.2.2.2.2.2,Res.blk mb 186 (M.c x.2.2.2.2.1)]) (fun(x:Option Addr × Nat × List As × LL × M × Rg × Rg)=>(stepM l e lim q m)=stepMF l e (lenL x.2.2.2.1+1) x.2.2.2.1 x.2.2.2.2.1 x.2.2.1∧(x.2.2.2.2.2.1).Rep 1 ((x.2.2.2.1).f.map (fun v:Int=>[Value.int .i64 v]))∧(x.2.2.2.2.2.2).Rep 1 ((x.2.2.2.1).v.map (fun v:Int=>[Value.int .i64 v]))∧(x.2.2.2.2.2.1).size=sz∧(x.2.2.2.2.2.2).size=sz∧(x.2.2.1).length+lenL x.2.2.2.1=lenL q∧((x.2.2.2.1).f.length≤sz∧(x.2.2.2.1).v.length≤sz)) (fun(x:Option Addr × Nat × List As × LL × M × Rg × Rg)=>lenL x.2.2.2.1) (Az1,capz1,[],q,(M.grant m lim),g0,g1) (by(try dsimp only);exact⟨rfl,h0,hh1,s0,s1,(by simp),hq⟩) ?_
 rintro⟨A,cap,out,p,m1,p0,p1⟩ ⟨hs,r0,r1,z0,z1,hl,hp⟩
 replace hs:(stepM l e lim q m)=stepMF l e (lenL p+1) p m1 out:=hs
 replace r0:(p0).Rep 1 ((p).f.map (fun v:Int=>[Value.int .i64 v])):=r0
 replace r1:(p1).Rep 1 ((p).v.map (fun v:Int=>[Value.int .i64 v])):=r1
 replace z0:(p0).size=sz:=z0
 replace z1:(p1).size=sz:=z1
 replace hl:(out).length+lenL p=lenL q:=hl
 replace hp:(p).f.length≤sz∧(p).v.length≤sz:=hp
 refine zV (L' := [Res.row A (out).length cap 55 3 ((out).map As.cs),bL_ bl b0 b1,rB_i b0 p0,rW_i p0,rB_i b1 p1,rW_i p1,Res.blk mb 186 (M.c m1)]) rfl ?_
 refine g_val 12 (v' := .slice A out.length cap) rfl rfl ?_
 refine g_val 13 (v' := .int .i64 (headI p)) rfl rfl ?_
 refine g_val 14 (v' := .int .i64 (headC p)) rfl rfl ?_
 refine g_val 15 (v' := .bool (headB p)) rfl rfl ?_
 have hlq:lenL q≤8192:=by unfold lenL;omega
 refine rn [8,1,2,2] ?_
 refine zU 34 rfl (fun h1=>?_) (fun h1=>?_)
 ·have hB:headB p=true:=by simpa using h1
  refine rn [22,2,22,2,22,2] ?_
  refine g_gt rfl rfl (zI rfl (fun w1 hw1=>wt_any W (wn) (wc) (l) ((headI p)) w1 (Rdb.toOld hw9.rdb hw1)) rfl ?_)
  refine g_gt rfl rfl (xQ [Res.blk mb 186 (M.c m1)] rfl rfl (fun w1 hw1 ho1=>by have h7:=mtake_any mb m1 ((ofW l ((headI p)))) w1 ho1;exact h7) rfl ?_)
  rintro⟨⟩ _
  refine ii ?_
  refine rn [41,0] ?_
  refine zC rfl (fun h2=>?_) (fun h2=>?_)
  ·have hT:¬m1.bal<ofW l (headI p):=by simpa using h2
   refine rn [12,7,14,1,2] ?_
   refine g_op (zG _ rfl (fun w1 hw1 ho1=>by have h7:=pop_any bl b0 b1 p0 p1 p sz w1 ho1 r0 r1 z0 z1 (by omega);exact h7) rfl ?_)
   rintro⟨g42,gg42⟩ ⟨r42,rr42,s42,ss42⟩
   refine ii ?_
   simp only at r42 rr42 s42 ss42
   refine rn [0,1,2,2,2,2] ?_
   refine s_q (yJ (z:=e+1) rfl rfl (wi64 (by omega) (by omega))) rfl ?_
   refine rn [49] ?_
   refine g_op (g_lit rfl rfl rfl rfl rfl fun b49=>?_)
   refine zF (b:=b49) ((([(As.mk (headI p) (headC p) (e+1))]:List As).map As.cs).flatten) rfl ?_
   refine g_op (zZ (A:=A) (els:=(out).map As.cs) (news:=(([(As.mk (headI p) (headC p) (e+1))]:List As).map As.cs)) rfl rfl (InL.rdb (b:=b49) rfl (by simp[As.cs]) rfl) (yF (c:=As.cs) (by intro x;simp[As.cs,Value.oneCell']) _) (by first|omega|(simp;omega)|(simp_all;omega)) rfl fun A50 cap50=>⟨_,inferInstance,?_⟩)
   refine zH (A:=A50) (((out++[(As.mk (headI p) (headC p) (e+1))])).map As.cs) (by first|rfl|exact List.map_append.symm|(simp;done)) ?_
   refine rn [3,0,10,2] ?_
   refine g_op (zL _ rfl (fun w1 hw1 ho1=>by exact head_any bl b0 b1 g42 gg42 (popL p) sz w1 ho1 r42 rr42 s42 ss42 (by omega)) rfl ?_)
   refine rn [2,40,40,40,3,3,3,9,15] ?_
   refine yB (A:=A50) ((out++[(As.mk (headI p) (headC p) (e+1))])).length (by simp) ?_
   refine g_val 12 (v' := .slice A50 ((out++[(As.mk (headI p) (headC p) (e+1))])).length cap50) rfl (by simp) ?_
   exact vM (A50,cap50,(out++[(As.mk (headI p) (headC p) (e+1))]),(popL p),(M.take m1 ((ofW l ((headI p))))),g42,gg42) (by(try dsimp only);exact⟨(by rw[←rL hB hT,popL_lt hB];exact hs),r42,rr42,s42,ss42,(by have h9:=popL_lt hB;simp only[List.length_append,List.length_cons,List.length_nil];omega),(by have h9:=popL_len p;omega)⟩) (by have h9:=popL_lt hB;dsimp only;omega) (by repeat(first|exact trivial|refine⟨rfl,?_⟩)) zB
  ·have hT:m1.bal<ofW l (headI p):=by simpa using h2
   have hR:(stepM l e lim q m)=(out,p,m1.take (ofW l (headI p))):=by rw[hs,uW hB hT,show m1.take (ofW l (headI p))=m1 from if_pos hT]
   refine rn [16] ?_
   refine zD (zD (zN ?_))
   refine rn [7,8,1,2] ?_
   refine yC 57 (b:=true) rfl (hB) ?_
   refine rn [48,0,20,12,7,1,2,3,0,11] ?_
   exact fin1 rfl (.tmp rfl) (fun w' hw' => ⟨(A,cap,p0,p1),(by(rw[hR];exact⟨r0,r1,z0,z1⟩)),by rw[hR],by rw[hR];exact zA w' hw'⟩) _ (.inl rfl)
 ·have hB:headB p=false:=by simpa using h1
  have hR:(stepM l e lim q m)=(out,p,m1.drop):=by rw[hs,sH hB]
  refine rn [21,21,21,21,21,42,0,20,16] ?_
  refine zD (zD (zN ?_))
  refine rn [7,8,1,2] ?_
  refine yC 57 (b:=false) rfl (hB) ?_
  refine rn [48,0,19,10,2] ?_
  refine g_op (zG _ rfl (fun w1 hw1 ho1=>by have h7:=mdrop_any mb m1 w1 ho1;exact h7) rfl ?_)
  rintro⟨⟩ _
  refine ii ?_
  refine rn [0,1,2,3,0,11] ?_
  exact fin1 rfl (.tmp rfl) (fun w' hw' => ⟨(A,cap,p0,p1),(by(rw[hR];exact⟨r0,r1,z0,z1⟩)),by rw[hR],by rw[hR];exact zA w' hw'⟩) _ (.inl rfl)
theorem ofW_U {l:List Int} (h:okU l) (i:Int):0≤ofW l i∧ofW l i≤18446744073709551615:=by
 unfold ofW
 split
 ·omega
 ·rename_i hi
  have hj:i.toNat<l.length:=by omega
  rw[List.getElem?_eq_getElem hj]
  exact h _ (List.getElem_mem hj)
theorem okU_map {l is:List Int} (h:okU l):okU (is.map (ofW l)):=by
 intro x hx
 obtain⟨i,_,rfl⟩:=List.mem_map.1 hx
 exact ofW_U h i
theorem pF (A B9:Option Addr) (n1 c1 n2 c2:Nat) (l is:List Int) (w:World) (ha:Old w A n1 1 (l.map (fun v:Int=>[Value.int .u64 v]))) (hb:Old w B9 n2 1 (is.map (fun v:Int=>[Value.int .i64 v]))) (hl:okU l) (hn9:n2≤100000):Pur Tryz.prog 167 [.slice A n1 c1,.slice B9 n2 c2] w (.tuple [.int .u64 (addV (is.map (ofW l))),.bool (addB (is.map (ofW l)))].toArray):=by
 refine g_st Tryz.func167 26 (WOK.start [] _) ?_
 have e1:n1=l.length:=by simpa using ha.len
 have e2:n2=is.length:=by simpa using hb.len
 refine rn [1,3,3,0,1,3] ?_
 refine xL 6 22 1 rfl fun Az1 capz1 hcz1=>?_
 refine zH (A:=Az1) (([]:List Int).map (fun v:Int=>[Value.int .u64 v])) rfl ?_
 refine rn [0,8,1,2,47,2,0,14] ?_
 refine g_lk [0,4,5,9,10] (fun(x:Nat × Option Addr × Nat × List Int)=>[(6,.slice x.2.1 x.2.2.2.length x.2.2.1),(11,.int .i64 ((x.1:Nat):Int))]) (fun(x:Nat × Option Addr × Nat × List Int)=>[Res.row x.2.1 (x.2.2.2).length x.2.2.1 22 1 ((x.2.2.2).map (fun v:Int=>[Value.int .u64 v]))]) (fun(x:Nat × Option Addr × Nat × List Int)=>x.1≤n2∧x.2.2.2=(is.take x.1).map (ofW l)) (fun(x:Nat × Option Addr × Nat × List Int)=>n2-x.1) (0,Az1,capz1,[]) (by(try dsimp only);exact⟨Nat.zero_le _,(by simp)⟩) ?_
 rintro⟨k,B,bc,o⟩ ⟨le_k,ho⟩
 replace le_k:k≤n2:=le_k
 replace ho:o=(is.take k).map (ofW l):=ho
 refine zV (L' := [Res.row B (o).length bc 22 1 ((o).map (fun v:Int=>[Value.int .u64 v]))]) rfl ?_
 refine g_val 6 (v' := .slice B o.length bc) rfl rfl ?_
 refine g_val 11 (v' := .int .i64 ((k:Nat):Int)) rfl rfl ?_
 have hol:o.length=min k n2:=by rw[ho];simp[e2]
 refine rn [1,46,0,8] ?_
 refine zC rfl (fun h1=>?_) (fun h1=>?_)
 ·have lt_k:k<n2:=by have h9:=of_decide_eq_true h1;omega
  refine rn [12,7,8,14,1] ?_
  refine s_q (zP (i:=k) rfl rfl rfl (hb.rdb rfl) (by first|exact lt_k|omega)) rfl ?_
  refine s_q (yI (i:=k) (o:=0) rfl (hb.rdb rfl) (zR (by first|exact(by first|exact lt_k|omega)|omega|(simp_all;done)|(simp_all;omega))) rfl rfl) rfl ?_
  refine rn [3,0,10,2,2,2] ?_
  refine g_op (zI rfl (fun w1 hw1=>wt_any A (n1) (c1) (l) _ w1 (Rdb.toOld (ha.rdb rfl) hw1)) rfl ?_)
  refine g_op (g_lit rfl rfl rfl rfl rfl fun b19=>?_)
  refine zF (b:=b19) ((([(ofW l (is[k]))]:List Int).map (fun v:Int=>[Value.int .u64 v])).flatten) rfl ?_
  refine g_op (zZ (A:=B) (els:=(o).map (fun v:Int=>[Value.int .u64 v])) (news:=(([(ofW l (is[k]))]:List Int).map (fun v:Int=>[Value.int .u64 v]))) rfl rfl (InL.rdb (b:=b19) rfl (by simp) rfl) (yF (c:=(fun v:Int=>[Value.int .u64 v])) (by intro x;simp[Value.oneCell']) _) (by first|omega|(simp;omega)|(simp_all;omega)) rfl fun A20 cap20=>⟨_,inferInstance,?_⟩)
  refine zH (A:=A20) (((o++[(ofW l (is[k]))])).map (fun v:Int=>[Value.int .u64 v])) (by first|rfl|exact List.map_append.symm|(simp;done)) ?_
  refine rn [3,9,15,7,10,43,2,9] ?_
  refine yB (A:=A20) ((o++[(ofW l (is[k]))])).length (by simp) ?_
  refine g_val 6 (v' := .slice A20 ((o++[(ofW l (is[k]))])).length cap20) rfl (by simp) ?_
  exact g_ag ((k+1),A20,cap20,(o++[(ofW l (is[k]))])) (by(try dsimp only);exact⟨(by first|exact lt_k|omega),(by rw[←List.take_append_getElem (show k<is.length by omega),List.map_append,ho];rfl)⟩)
 ·have eq_k:k=n2:=by have h9:=of_decide_eq_false h1;omega
  refine rn [16] ?_
  refine zD (zD (zN ?_))
  refine rn [7,1,2] ?_
  refine g_op (zI rfl (fun w1 hw1=>vP B (o.length) (bc) (o) w1 (Rdb.toOld (ird (A:=B)) hw1) (by rw[ho];exact okU_map hl) (by first|omega|(simp;omega)|(simp;done))) rfl ?_)
  refine rn [40,40,3,3,0,11] ?_
  exact fin2 rfl (.tmp rfl) (.tmp rfl) (fun w' hw' => ⟨by have e8:o=is.map (ofW l):=(by rw[ho,eq_k,e2,List.take_length]);rw[e8],hw'.upd⟩) _ (.inl rfl)
def budB (lim s:Int) (f:Bool) (w:Int) (ok:Bool):Bool:=f || (ok && addB [s,w] && decide (addV [s,w]≤lim))
def budS (lim s:Int) (f:Bool) (w:Int) (ok:Bool):Int:=if budB lim s f w ok then addV [s,w] else s
def budF (lim s:Int) (f:Bool) (w:Int) (ok:Bool):Bool:=if budB lim s f w ok then false else f
theorem budget1_any (sb fb lb:Nat) (s lim w9:Int) (f ok:Bool) (w:World) (hw:W0 [Res.blk sb 22 [Value.int .u64 (s)],Res.blk fb 4 [Value.bool (f)],Res.blk lb 22 [Value.int .u64 lim]] w) (hs:0≤s∧s≤18446744073709551615) (hw9:0≤w9∧w9≤18446744073709551615):Own2 (ι:=Unit) Tryz.prog 318 [.int .u64 w9,.bool ok,.pointer (some ⟨sb,0,none⟩),.pointer (some ⟨fb,0,none⟩),.pointer (some ⟨lb,0,none⟩)] w [Res.blk sb 22 [Value.int .u64 (s)],Res.blk fb 4 [Value.bool (f)],Res.blk lb 22 [Value.int .u64 lim]] (fun x=>True) (fun x=>.bool (budB lim s f w9 ok)) (fun x=>[]) (fun x=>[Res.blk sb 22 [Value.int .u64 (budS lim s f w9 ok)],Res.blk fb 4 [Value.bool (budF lim s f w9 ok)],Res.blk lb 22 [Value.int .u64 lim]]):=by
 refine g_st Tryz.func318 33 hw ?_
 refine rn [1,3,0,1,5,2] ?_
 refine g_op (g_lit rfl rfl rfl rfl rfl fun b13=>?_)
 refine zF (b:=b13) ((([s,w9]:List Int).map (fun v:Int=>[Value.int .u64 v])).flatten) rfl ?_
 refine g_op (zI rfl (fun w1 hw1=>vP (some ⟨b13,0,none⟩) (2) (2) (([s,w9]:List Int)) w1 (Rdb.toOld (InL.rdb (b:=b13) (els:=(([s,w9]:List Int)).map (fun v:Int=>[Value.int .u64 v])) rfl (by simp) rfl) hw1) (by intro x hx;simp at hx;rcases hx with rfl|rfl<;>omega) (by first|omega|(simp;omega)|(simp;done))) rfl ?_)
 refine rn [2,40,40,3,3,0,8,1,5,48,2] ?_
 refine zU 19 rfl (fun h1=>?_) (fun h1=>?_)
 ·refine rn [22,2,22,48,22,2] ?_
  refine zU 22 rfl (fun h2=>?_) (fun h2=>?_)
  ·refine rn [21,21,22,41,22,2,21,21,21,22,41,41,0,19,1,3,0,11,13] ?_
   have hb:budB lim s f w9 ok=false:=by simp only[budB];simp_all;try omega
   exact fin1 rfl (.tmp rfl) (fun w' hw' => ⟨(),(by exact trivial),by rw[hb],by have h9:=zB (L' := [Res.blk sb 22 [Value.int .u64 (s)],Res.blk fb 4 [Value.bool (f)],Res.blk lb 22 [Value.int .u64 lim]]) w' hw';show WOK _ _ [Res.blk sb 22 [Value.int .u64 (budS lim s f w9 ok)],Res.blk fb 4 [Value.bool (budF lim s f w9 ok)],Res.blk lb 22 [Value.int .u64 lim]] _;simp only[budS,budF,hb];exact h9⟩) _ (.inl rfl)
  ·refine rn [22,2,22,48,22,42,22,2] ?_
   refine zU 26 rfl (fun h3=>?_) (fun h3=>?_)
   ·refine rn [21,21,21,22,41,41,0,19,1,3,0,11,13] ?_
    have hb:budB lim s f w9 ok=false:=by simp only[budB];simp_all;try omega
    exact fin1 rfl (.tmp rfl) (fun w' hw' => ⟨(),(by exact trivial),by rw[hb],by have h9:=zB (L' := [Res.blk sb 22 [Value.int .u64 (s)],Res.blk fb 4 [Value.bool (f)],Res.blk lb 22 [Value.int .u64 lim]]) w' hw';show WOK _ _ [Res.blk sb 22 [Value.int .u64 (budS lim s f w9 ok)],Res.blk fb 4 [Value.bool (budF lim s f w9 ok)],Res.blk lb 22 [Value.int .u64 lim]] _;simp only[budS,budF,hb];exact h9⟩) _ (.inl rfl)
   ·refine rn [22,2,22,5,22,55,22,42,41,0] ?_
    refine zC rfl (fun h4=>?_) (fun h4=>?_)
    ·refine rn [1,3,0,11,13] ?_
     have hb:budB lim s f w9 ok=false:=by simp only[budB];simp_all;try omega
     exact fin1 rfl (.tmp rfl) (fun w' hw' => ⟨(),(by exact trivial),by rw[hb],by have h9:=zB (L' := [Res.blk sb 22 [Value.int .u64 (s)],Res.blk fb 4 [Value.bool (f)],Res.blk lb 22 [Value.int .u64 lim]]) w' hw';show WOK _ _ [Res.blk sb 22 [Value.int .u64 (budS lim s f w9 ok)],Res.blk fb 4 [Value.bool (budF lim s f w9 ok)],Res.blk lb 22 [Value.int .u64 lim]] _;simp only[budS,budF,hb];exact h9⟩) _ (.inl rfl)
    ·refine rn [12,7,1,2] ?_
     refine g_op (zJ rfl rfl rfl rfl rfl rfl rfl ?_)
     refine zF (b:=sb) [Value.int .u64 (addV [s,w9])] rfl ?_
     refine g_op (zJ rfl rfl rfl rfl rfl rfl rfl ?_)
     refine zF (b:=fb) [Value.bool false] rfl ?_
     refine rn [0,1,3,0,11] ?_
     have hb:budB lim s f w9 ok=true:=by simp only[budB];simp_all;try omega
     exact fin1 rfl (.tmp rfl) (fun w' hw' => ⟨(),(by exact trivial),by rw[hb],by have h9:=zB (L' := [Res.blk sb 22 [Value.int .u64 (addV [s,w9])],Res.blk fb 4 [Value.bool (false)],Res.blk lb 22 [Value.int .u64 lim]]) w' hw';show WOK _ _ [Res.blk sb 22 [Value.int .u64 (budS lim s f w9 ok)],Res.blk fb 4 [Value.bool (budF lim s f w9 ok)],Res.blk lb 22 [Value.int .u64 lim]] _;simp only[budS,budF,hb];exact h9⟩) _ (.inl rfl)
 ·refine rn [21,21,21] ?_
  refine g_gu rfl rfl rfl ?_
  refine g_gu rfl rfl rfl ?_
  refine rn [21,21] ?_
  refine g_gu rfl rfl rfl ?_
  refine g_gu rfl rfl rfl ?_
  refine g_gu rfl rfl rfl ?_
  refine rn [21,42,0,20,12,7,1,2] ?_
  refine g_op (zJ rfl rfl rfl rfl rfl rfl rfl ?_)
  refine zF (b:=sb) [Value.int .u64 (addV [s,w9])] rfl ?_
  refine g_op (zJ rfl rfl rfl rfl rfl rfl rfl ?_)
  refine zF (b:=fb) [Value.bool false] rfl ?_
  refine rn [0,1,3,0,11] ?_
  have hb:budB lim s f w9 ok=true:=by simp only[budB];simp_all;try omega
  exact fin1 rfl (.tmp rfl) (fun w' hw' => ⟨(),(by exact trivial),by rw[hb],by have h9:=zB (L' := [Res.blk sb 22 [Value.int .u64 (addV [s,w9])],Res.blk fb 4 [Value.bool (false)],Res.blk lb 22 [Value.int .u64 lim]]) w' hw';show WOK _ _ [Res.blk sb 22 [Value.int .u64 (budS lim s f w9 ok)],Res.blk fb 4 [Value.bool (budF lim s f w9 ok)],Res.blk lb 22 [Value.int .u64 lim]] _;simp only[budS,budF,hb];exact h9⟩) _ (.inl rfl)
theorem budget_any (lim:Int) (w:World) : Own2 (ι:=(Nat × Nat × Nat)) Tryz.prog 283 [.int .u64 lim] w [] (fun x=>True) (fun x=>.func (.func 318) #[] [Value.pointer (some ⟨x.1,0,none⟩),Value.pointer (some ⟨x.2.1,0,none⟩),Value.pointer (some ⟨x.2.2,0,none⟩)].toArray) (fun x=>[Res.blk x.1 22 [Value.int .u64 (0)],Res.blk x.2.1 4 [Value.bool (true)],Res.blk x.2.2 22 [Value.int .u64 lim]]) (fun x=>[]):=by
 refine g_st Tryz.func283 6 (WOK.start (fps []) _) ?_
 refine rn [1] ?_
 refine g_op (g_box (c:=[Value.int .u64 lim]) rfl rfl rfl fun b1=>?_)
 refine rn [3,0,1] ?_
 refine g_op (zK rfl fun b3=>?_)
 refine g_op (zK rfl fun b4=>?_)
 refine g_op (zJ rfl rfl rfl rfl rfl rfl rfl ?_)
 refine zF (b:=b3) [Value.int .u64 0] rfl ?_
 refine g_op (zJ rfl rfl rfl rfl rfl rfl rfl ?_)
 refine zF (b:=b4) [Value.bool true] rfl ?_
 refine rn [0,1,52,3,0,11] ?_
 exact fin1 rfl (.tmp rfl) (fun w' hw' => ⟨(b3,b4,b1),(by exact trivial),rfl,zA w' hw'⟩) _ (.inl rfl)
theorem batch_any (rb:Option Addr) (lim:Int) (W:Option Addr) (wn wc:Nat) (w:World) : Own2 (ι:=(Nat × Nat × Nat × Nat)) Tryz.prog 231 [.pointer rb,.int .i64 0,.int .u64 lim,.slice W wn wc] w [] (fun x=>True) (fun x=>.func (.func 282) #[] [Value.pointer (some ⟨x.1,0,none⟩),Value.pointer (some ⟨x.2.1,0,none⟩),Value.pointer (some ⟨x.2.2.1,0,none⟩),Value.pointer (some ⟨x.2.2.2,0,none⟩)].toArray) (fun x=>[Res.blk x.1 22 [Value.int .u64 lim],Res.blk x.2.1 102 [Value.pointer rb],Res.blk x.2.2.1 3 [Value.int .i64 0],Res.blk x.2.2.2 161 [Value.slice W wn wc]]) (fun x=>[]):=by
 refine g_st Tryz.func231 10 (WOK.start (fps []) _) ?_
 refine rn [1] ?_
 refine g_op (g_box (c:=[Value.pointer rb]) rfl rfl rfl fun b4=>?_)
 refine g_op (g_box (c:=[Value.int .i64 0]) rfl rfl rfl fun b5=>?_)
 refine g_op (g_box (c:=[Value.int .u64 lim]) rfl rfl rfl fun b6=>?_)
 refine g_op (g_box (c:=[Value.slice W wn wc]) rfl rfl rfl fun b7=>?_)
 refine rn [3,0,1,52,3,0,11] ?_
 exact fin1 rfl (.tmp rfl) (fun w' hw' => ⟨(b6,b4,b5,b7),(by exact trivial),rfl,zA w' hw'⟩) _ (.inl rfl)
def batF (lim:Int) (ws:List Int):List Int→Int→Bool→List Int
 | [],_,_=>[]
 | i :: r,s,f=>if budB lim s f (ofW ws i) true then i :: batF lim ws r (budS lim s f (ofW ws i) true) (budF lim s f (ofW ws i) true) else []
theorem bat_go {lim:Int} {ws l:List Int} {k:Nat} (hk:k<l.length) {s:Int} {f:Bool} (h:budB lim s f (ofW ws l[k]) true=true):batF lim ws (l.drop k) s f=l[k] :: batF lim ws (l.drop (k+1)) (budS lim s f (ofW ws l[k]) true) (budF lim s f (ofW ws l[k]) true):=by
 rw[List.drop_eq_getElem_cons hk,batF,if_pos h]
theorem bat_stop {lim:Int} {ws l:List Int} {k:Nat} (hk:k<l.length) {s:Int} {f:Bool} (h:budB lim s f (ofW ws l[k]) true=false):batF lim ws (l.drop k) s f=[]:=by
 rw[List.drop_eq_getElem_cons hk,batF,if_neg (by simp[h])]
theorem sF {x:Int} (h:0≤x∧x≤18446744073709551615):addV [x]=x∧addB [x]=true:=by
 have hs:([x]:List Int).sum≤18446744073709551615:=by simp;omega
 obtain⟨h1,h2⟩:=rK hs
 exact⟨by rw[h2];simp,h1⟩
theorem bud_rng {lim s w:Int} {f ok:Bool} (hs:0≤s∧s≤18446744073709551615) (hw:0≤w∧w≤18446744073709551615):0≤budS lim s f w ok∧budS lim s f w ok≤18446744073709551615:=by
 unfold budS addV
 split
 ·split
  ·simp only[List.sum_cons,List.sum_nil] at *;omega
  ·omega
 ·exact hs
theorem batch1_any (l9:Nat) (B9:List Int→Res→Prop) (r:Res) (b6 b4 b5 b7 rb:Nat) (g:Rg) (lim:Int) (W:Option Addr) (wn wc:Nat) (ws l:List Int) (w:World) (hw:W0 [Res.blk b6 22 [Value.int .u64 lim],Res.blk b4 102 [Value.pointer (some ⟨rb,0,none⟩)],Res.blk b5 3 [Value.int .i64 0],Res.blk b7 161 [Value.slice W wn wc],rB_i rb g,rW_i g,r] w) (hY:YOK Tryz.prog l9 (fun x:Int=>Value.int .i64 x) B9 (batF lim ws l 0 true)) (hB0:B9 [] r) (h:g.Rep 1 (l.map (fun v:Int=>[Value.int .i64 v]))) (hw9:Rd w [Res.blk b6 22 [Value.int .u64 lim],Res.blk b4 102 [Value.pointer (some ⟨rb,0,none⟩)],Res.blk b5 3 [Value.int .i64 0],Res.blk b7 161 [Value.slice W wn wc],rB_i rb g,rW_i g,r] W wn 1 (ws.map (fun v:Int=>[Value.int .u64 v]))) (hokw:okU ws) (hlim:0≤lim∧lim≤18446744073709551615) (hln:l.length≤1000000):Ret Tryz.prog 282 [.func (.yield l9) #[] #[],.pointer (some ⟨b6,0,none⟩),.pointer (some ⟨b4,0,none⟩),.pointer (some ⟨b5,0,none⟩),.pointer (some ⟨b7,0,none⟩)] w (fun _ w2=>∃r2,B9 (batF lim ws l 0 true) r2∧WOK (fps [Res.blk b6 22 [Value.int .u64 lim],Res.blk b4 102 [Value.pointer (some ⟨rb,0,none⟩)],Res.blk b5 3 [Value.int .i64 0],Res.blk b7 161 [Value.slice W wn wc],rB_i rb g,rW_i g,r]) w [Res.blk b6 22 [Value.int .u64 lim],Res.blk b4 102 [Value.pointer (some ⟨rb,0,none⟩)],Res.blk b5 3 [Value.int .i64 (((batF lim ws l 0 true).length:Nat):Int)],Res.blk b7 161 [Value.slice W wn wc],rB_i rb g,rW_i g,r2] w2):=by
 refine g_st Tryz.func282 38 hw ?_
 refine rn [1,5] ?_
 refine g_op (zG [] rfl (fun w1 hw1 ho1=>by have h7:=budget_any (lim) w1;exact h7) rfl ?_)
 rintro⟨sb10,fb10,lb10⟩ _
 refine ii ?_
 refine rn [3,0,14] ?_
 refine g_lk [0,2,3,4,6] (fun(x:Nat × Int × Bool × Res)=>[]) (fun(x:Nat × Int × Bool × Res)=>[Res.blk sb10 22 [Value.int .u64 (x.2.1)],Res.blk fb10 4 [Value.bool (x.2.2.1)],Res.blk lb10 22 [Value.int .u64 lim],Res.blk b6 22 [Value.int .u64 lim],Res.blk b4 102 [Value.pointer (some ⟨rb,0,none⟩)],Res.blk b5 3 [Value.int .i64 ((x.1:Nat):Int)],Res.blk b7 161 [Value.slice W wn wc],rB_i rb g,rW_i g,x.2.2.2]) (fun(x:Nat × Int × Bool × Res)=>x.1≤l.length∧B9 (l.take x.1) x.2.2.2∧(batF lim ws l 0 true)=l.take x.1++batF lim ws (l.drop x.1) x.2.1 x.2.2.1∧(0≤x.2.1∧x.2.1≤18446744073709551615)) (fun(x:Nat × Int × Bool × Res)=>l.length-x.1) (0,0,true,r) (by(try dsimp only);exact⟨(by omega),(by simpa using hB0),rfl,(by omega)⟩) ?_
 rintro⟨k,s,f,r1⟩ ⟨hk,hB,hbat,hs9⟩
 replace hk:k≤l.length:=hk
 replace hB:B9 (l.take k) r1:=hB
 replace hbat:(batF lim ws l 0 true)=l.take k++batF lim ws (l.drop k) s f:=hbat
 replace hs9:0≤s∧s≤18446744073709551615:=hs9
 refine zV (L' := [Res.blk sb10 22 [Value.int .u64 (s)],Res.blk fb10 4 [Value.bool (f)],Res.blk lb10 22 [Value.int .u64 lim],Res.blk b6 22 [Value.int .u64 lim],Res.blk b4 102 [Value.pointer (some ⟨rb,0,none⟩)],Res.blk b5 3 [Value.int .i64 ((k:Nat):Int)],Res.blk b7 161 [Value.slice W wn wc],rB_i rb g,rW_i g,r1]) rfl ?_
 refine rn [14,1,5,5] ?_
 refine g_op (zL _ rfl (fun w1 hw1 ho1=>by exact pZ rb g l _ w1 ho1 h) rfl ?_)
 refine rn [2,40,40,3,3,0,8,1,2,48,2] ?_
 refine zU 19 rfl (fun h1=>?_) (fun h1=>?_)
 ·have hke:k=l.length:=by have h9:=h1;rw[uK] at h9;simp at h9;omega
  have hend:batF lim ws (l.drop k) s f=[]:=by rw[hke,List.drop_length];rfl
  refine rn [21,21,21,21,21,21,21,21,21,41,2,21,21,21,21,41,0,19,11] ?_
  refine zE (zM (zE (zM ?_)))
  have hR:(batF lim ws l 0 true)=l.take k:=by rw[hbat,hend,List.append_nil]
  have hlk:(l.take k).length=k:=by simp;omega
  exact fin0 rfl (fun w' hw' => ⟨r1,by rw[hR];exact hB,by have h9:=zB (L' := [Res.blk b6 22 [Value.int .u64 lim],Res.blk b4 102 [Value.pointer (some ⟨rb,0,none⟩)],Res.blk b5 3 [Value.int .i64 ((k:Nat):Int)],Res.blk b7 161 [Value.slice W wn wc],rB_i rb g,rW_i g,r1]) w' hw';rw[hR,hlk];exact h9⟩) _ (.inl rfl)
 ·have hk1:k<l.length:=by have h9:=h1;rw[uK] at h9;simp at h9;omega
  have hpk:pk l ((k:Nat):Int)=some l[k]:=by rw[uK,List.getElem?_eq_getElem hk1]
  have hwU:=ofW_U hokw l[k]
  refine g_val 7 (v' := .int .i64 l[k]) rfl (by rw[hpk];rfl) ?_
  refine rn [22,2,22,5,22,2] ?_
  refine g_gt rfl rfl (g_lit rfl rfl rfl rfl rfl fun b23=>?_)
  refine zF (b:=b23) ((([l[k]]:List Int).map (fun v:Int=>[Value.int .i64 v])).flatten) rfl ?_
  refine g_gt rfl rfl (zI rfl (fun w1 hw1=>pF W (some ⟨b23,0,none⟩) (wn) (wc) (1) (1) (ws) (([l[k]]:List Int)) w1 (Rdb.toOld hw9.rdb hw1) (Rdb.toOld (InL.rdb (b:=b23) (els:=(([l[k]]:List Int)).map (fun v:Int=>[Value.int .i64 v])) rfl (by simp) rfl) hw1) hokw (by first|omega|(simp;omega)|(simp;done))) rfl ?_)
  refine rn [22,40] ?_
  refine g_val 25 (v' := .int .u64 (ofW ws l[k])) rfl (by rw[List.map_cons,List.map_nil,(sF hwU).1]) ?_
  refine rn [22,40] ?_
  refine g_val 26 (v' := .bool true) rfl (by rw[List.map_cons,List.map_nil,(sF hwU).2]) ?_
  refine g_gt rfl rfl (xQ [Res.blk sb10 22 [Value.int .u64 (s)],Res.blk fb10 4 [Value.bool (f)],Res.blk lb10 22 [Value.int .u64 lim]] rfl rfl (fun w1 hw1 ho1=>by have h7:=budget1_any sb10 fb10 lb10 (s) (lim) ((ofW ws l[k])) (f) (true) w1 ho1 hs9 hwU;exact h7) rfl ?_)
  rintro⟨⟩ _
  refine ii ?_
  refine rn [22,48,42,2] ?_
  refine zU 30 rfl (fun h2=>?_) (fun h2=>?_)
  ·have hbd:budB lim s f (ofW ws l[k]) true=false:=by simpa using h2
   have hend:=bat_stop (lim:=lim) (ws:=ws) hk1 hbd
   refine rn [21,21,21,21,41,0,19,11] ?_
   refine zE (zM (zE (zM ?_)))
   have hR:(batF lim ws l 0 true)=l.take k:=by rw[hbat,hend,List.append_nil]
   have hlk:(l.take k).length=k:=by simp;omega
   exact fin0 rfl (fun w' hw' => ⟨r1,by rw[hR];exact hB,by have h9:=zB (L' := [Res.blk b6 22 [Value.int .u64 lim],Res.blk b4 102 [Value.pointer (some ⟨rb,0,none⟩)],Res.blk b5 3 [Value.int .i64 ((k:Nat):Int)],Res.blk b7 161 [Value.slice W wn wc],rB_i rb g,rW_i g,r1]) w' hw';rw[hR,hlk];exact h9⟩) _ (.inl rfl)
  ·have hbd:budB lim s f (ofW ws l[k]) true=true:=by simpa using h2
   have hbat2:(batF lim ws l 0 true)=l.take (k+1)++batF lim ws (l.drop (k+1)) (budS lim s f (ofW ws l[k]) true) (budF lim s f (ofW ws l[k]) true):=by rw[hbat,bat_go hk1 hbd,←List.take_append_getElem hk1,List.append_assoc];rfl
   have hpre9:l.take k++[l[k]] <+: (batF lim ws l 0 true):=⟨_,by rw[hbat2,←List.take_append_getElem hk1]⟩
   refine rn [22,2,22,2] ?_
   refine g_gt rfl rfl (g_yield hY hpre9 hB rfl rfl rfl fun r9 hB9=>?_)
   refine⟨_,inferInstance,?_⟩
   refine rn [22,48] ?_
   refine yC 34 (b:=false) rfl (rfl) ?_
   refine rn [42,0,20,12,7,10,5,43] ?_
   refine g_op (zJ rfl rfl rfl rfl rfl rfl rfl ?_)
   refine zF (b:=b5) [Value.int .i64 ((k+1:Nat):Int)] rfl ?_
   refine rn [9,15] ?_
   exact vM ((k+1),(budS lim s f (ofW ws l[k]) true),(budF lim s f (ofW ws l[k]) true),r9) (by(try dsimp only);exact⟨(by omega),(by rw[←List.take_append_getElem hk1];exact hB9),hbat2,(bud_rng hs9 hwU)⟩) (by dsimp only;omega) (by repeat(first|exact trivial|refine⟨rfl,?_⟩)) zB
theorem rH (lim:Int) (ws:List Int):∀(l:List Int) (s:Int) (f:Bool),(batF lim ws l s f).length≤l.length
 | [],_,_=>by simp[batF]
 | i :: l,s,f=>by
  unfold batF
  split
  ·have:=rH lim ws l (budS lim s f (ofW ws i) true) (budF lim s f (ofW ws i) true)
   simp only[List.length_cons];omega
  ·simp
theorem step14_any (rb:Nat) (g:Rg) (lim:Int) (W:Option Addr) (wn wc:Nat) (ws l:List Int) (w:World) (hw:W0 [rB_i rb g,rW_i g] w) (h:g.Rep 1 (l.map (fun v:Int=>[Value.int .i64 v]))) (hw9:Rd w [rB_i rb g,rW_i g] W wn 1 (ws.map (fun v:Int=>[Value.int .u64 v]))) (hokw:okU ws) (hlim:0≤lim∧lim≤18446744073709551615) (hln:l.length≤1000000):Own2 (ι:=(Option Addr × Nat × Rg)) Tryz.prog 152 [.pointer (some ⟨rb,0,none⟩),.int .u64 lim,.slice W wn wc] w [rB_i rb g,rW_i g] (fun x=>x.2.2.Rep 1 ((l.drop (batF lim ws l 0 true).length).map (fun v:Int=>[Value.int .i64 v]))∧x.2.2.size=g.size) (fun x=>.slice x.1 (batF lim ws l 0 true).length x.2.1) (fun x=>[Res.row x.1 (batF lim ws l 0 true).length x.2.1 3 1 ((batF lim ws l 0 true).map (fun v:Int=>[Value.int .i64 v]))]) (fun x=>[rB_i rb x.2.2,rW_i x.2.2]):=by
 refine tJ Tryz.func152 rfl 26 rfl (by simp) (fps [rB_i rb g,rW_i g]) [rB_i rb g,rW_i g] hw _ rfl ?_
 refine rn [1,3,0,1] ?_
 refine g_op (zK rfl fun b7=>?_)
 refine zF (b:=b7) [Value.slice none ([]:List Int).length 0] rfl ?_
 refine zX none 3 1 (([]:List Int).map (fun v:Int=>[Value.int .i64 v])) rfl ?_
 refine rn [0,8,1,2,2,2] ?_
 refine g_op (zG [] rfl (fun w1 hw1 ho1=>by have h7:=batch_any (some ⟨rb,0,none⟩) (lim) W (wn) (wc) w1;exact h7) rfl ?_)
 rintro⟨bl12,bq12,bf12,bw12⟩ _
 refine ii ?_
 refine rn [0,14] ?_
 refine g_rangeFunc (fst:=[]) (cap:=[Value.pointer (some ⟨bl12,0,none⟩),Value.pointer (some ⟨bq12,0,none⟩),Value.pointer (some ⟨bf12,0,none⟩),Value.pointer (some ⟨bw12,0,none⟩)]) (enc:=(fun x:Int=>Value.int .i64 x)) (all:=(batF lim ws l 0 true)) rfl rfl [Res.blk bl12 22 [Value.int .u64 lim],Res.blk bq12 102 [Value.pointer (some ⟨rb,0,none⟩)],Res.blk bf12 3 [Value.int .i64 0],Res.blk bw12 161 [Value.slice W wn wc],rB_i rb g,rW_i g] [Res.blk bl12 22 [Value.int .u64 lim],Res.blk bq12 102 [Value.pointer (some ⟨rb,0,none⟩)],Res.blk bf12 3 [Value.int .i64 (((batF lim ws l 0 true).length:Nat):Int)],Res.blk bw12 161 [Value.slice W wn wc],rB_i rb g,rW_i g] [] (fun(y9:Option Addr × Nat × List Int)=>[Res.blk b7 38 [Value.slice y9.1 y9.2.2.length y9.2.1],Res.row y9.1 y9.2.2.length y9.2.1 3 1 (y9.2.2.map (fun v:Int=>[Value.int .i64 v]))]) (fun pre (y9:Option Addr × Nat × List Int)=>y9.2.2=pre) (none,0,[]) (rfl) (fun w1 hw1=>by have h9:=zB (L' := [Res.blk bl12 22 [Value.int .u64 lim],Res.blk bq12 102 [Value.pointer (some ⟨rb,0,none⟩)],Res.blk bf12 3 [Value.int .i64 0],Res.blk bw12 161 [Value.slice W wn wc],rB_i rb g,rW_i g,Res.blk b7 38 [Value.slice none ([]:List Int).length 0],Res.row none ([]:List Int).length 0 3 1 (([]:List Int).map (fun v:Int=>[Value.int .i64 v]))]) w1 hw1;exact h9) (fun w1 hw1=>by intro l9 B9 r9 hY9 hB9 hc9 ho9;have hc8:WOK _ _ [Res.blk bl12 22 [Value.int .u64 lim],Res.blk bq12 102 [Value.pointer (some ⟨rb,0,none⟩)],Res.blk bf12 3 [Value.int .i64 0],Res.blk bw12 161 [Value.slice W wn wc],rB_i rb g,rW_i g,r9] w1:=hc9;exact batch1_any l9 B9 r9 bl12 bq12 bf12 bw12 rb g lim W wn wc ws l w1 ho9 hY9 hB9 h (Rd.ofRd hc8 hw9 (by omega)) hokw hlim hln) (fun x9=>[(8,Value.int .i64 x9),(7,Value.pointer (some ⟨b7,0,none⟩))]) ?_ ?_ ?_
 ·rintro l9 pre x9 ⟨A9,c9,o9⟩ w9 hpre9 hp9
  refine rn [10,3,9] ?_
  exact g_asg (by repeat(first|exact trivial|refine⟨rfl,?_⟩)) zB
 ·rintro l9 pre x9 ⟨A9,c9,o9⟩ w9 hpre9 hp9
  replace hp9:o9=pre:=hp9
  have hbl:=hpre9.length_le
  have hbl2:=rH lim ws l 0 true
  simp only[List.length_append,List.length_cons,List.length_nil] at hbl
  have hbl3:o9.length≤1000000:=by rw[hp9];omega
  refine zV (L' := [Res.blk b7 38 [Value.slice A9 o9.length c9],Res.row A9 o9.length c9 3 1 (o9.map (fun v:Int=>[Value.int .i64 v]))]) rfl ?_
  refine rn [14,10,5,2] ?_
  refine g_op (g_lit rfl rfl rfl rfl rfl fun b16=>?_)
  refine zF (b:=b16) ((([x9]:List Int).map (fun v:Int=>[Value.int .i64 v])).flatten) rfl ?_
  refine g_op (zZ (A:=A9) (els:=(o9).map (fun v:Int=>[Value.int .i64 v])) (news:=(([x9]:List Int).map (fun v:Int=>[Value.int .i64 v]))) rfl rfl (InL.rdb (b:=b16) rfl (by simp) rfl) (yF (c:=(fun v:Int=>[Value.int .i64 v])) (by intro x;simp[Value.oneCell']) _) (by omega) rfl fun A17 cap17=>⟨_,inferInstance,?_⟩)
  refine zH (A:=A17) (((o9++[x9])).map (fun v:Int=>[Value.int .i64 v])) (by first|rfl|exact List.map_append.symm|(simp;done)) ?_
  refine g_op (zJ rfl rfl rfl rfl rfl rfl rfl ?_)
  refine rn [9,15] ?_
  refine yB (A:=A17) ((o9++[x9]):List Int).length (by simp) ?_
  refine zF (b:=b7) [Value.slice A17 ((o9++[x9]):List Int).length cap17] (by simp[splice]) ?_
  exact g_round (fun w2 hw2=>⟨(A17,cap17,(o9++[x9]:List Int)),by show o9++[x9]=pre++[x9];rw[hp9],by have h9:=zB (L' := [Res.blk b7 38 [Value.slice A17 (o9++[x9]:List Int).length cap17],Res.row A17 (o9++[x9]:List Int).length cap17 3 1 ((o9++[x9]:List Int).map (fun v:Int=>[Value.int .i64 v]))]) w2 hw2;exact h9⟩)
 rintro⟨A9,c9,o9⟩ hp9 m9
 refine zV (L' := [Res.obj m9 (.deferred (some [])),Res.blk bl12 22 [Value.int .u64 lim],Res.blk bq12 102 [Value.pointer (some ⟨rb,0,none⟩)],Res.blk bf12 3 [Value.int .i64 (((batF lim ws l 0 true).length:Nat):Int)],Res.blk bw12 161 [Value.slice W wn wc],rB_i rb g,rW_i g,Res.blk b7 38 [Value.slice A9 o9.length c9],Res.row A9 o9.length c9 3 1 (o9.map (fun v:Int=>[Value.int .i64 v]))]) rfl ?_
 replace hp9:o9=(batF lim ws l 0 true):=hp9
 have hbl2:=rH lim ws l 0 true
 have hbl3:o9.length≤l.length:=by rw[hp9];exact hbl2
 refine rn [15,7,8,1,5,47,2,0,14] ?_
 refine g_lk [0,6,7,19] (fun(x:Nat × Rg)=>[(20,.int .i64 ((x.1:Nat):Int))]) (fun(x:Nat × Rg)=>[Res.obj m9 (.deferred (some [])),Res.blk b7 38 [Value.slice A9 o9.length c9],Res.row A9 o9.length c9 3 1 (o9.map (fun v:Int=>[Value.int .i64 v])),rB_i rb x.2,rW_i x.2]) (fun(x:Nat × Rg)=>x.1≤o9.length∧(x.2).Rep 1 ((l.drop x.1).map (fun v:Int=>[Value.int .i64 v]))∧(x.2).size=g.size) (fun(x:Nat × Rg)=>o9.length-x.1) (0,g) (by(try dsimp only);exact⟨Nat.zero_le _,(by simpa using h),rfl⟩) ?_
 rintro⟨i,g1⟩ ⟨le_i,hr,hz⟩
 replace le_i:i≤o9.length:=le_i
 replace hr:(g1).Rep 1 ((l.drop i).map (fun v:Int=>[Value.int .i64 v])):=hr
 replace hz:(g1).size=g.size:=hz
 refine zV (L' := [Res.obj m9 (.deferred (some [])),Res.blk b7 38 [Value.slice A9 o9.length c9],Res.row A9 o9.length c9 3 1 (o9.map (fun v:Int=>[Value.int .i64 v])),rB_i rb g1,rW_i g1]) rfl ?_
 refine g_val 20 (v' := .int .i64 ((i:Nat):Int)) rfl rfl ?_
 refine rn [1,46,0,8] ?_
 refine zC rfl (fun h1=>?_) (fun h1=>?_)
 ·have lt_i:i<o9.length:=by have h9:=of_decide_eq_true h1;omega
  refine rn [12,7,8,14,10,2] ?_
  refine g_op (zG _ rfl (fun w1 hw1 ho1=>by have h7:=pop_i rb g1 (l.drop i) w1 ho1 hr;exact h7) rfl ?_)
  rintro g23 ⟨r23,s23⟩
  refine ii ?_
  refine rn [9,15,7,10,43,2,9] ?_
  exact g_ag ((i+1),g23) (by(try dsimp only);exact⟨(by first|exact lt_i|omega),(by have h9:=r23;simpa using h9),(by omega)⟩)
 ·have eq_i:i=o9.length:=by have h9:=of_decide_eq_false h1;omega
  refine rn [16] ?_
  refine zD (zD (zN ?_))
  refine rn [7,1,5,3,0,11] ?_
  subst hp9
  rw[eq_i] at hr
  exact finM1 rfl (.tmp rfl) (fun w' hw' => ⟨(A9,c9,g1),(by first|exact⟨hr,hz⟩|(dsimp only;exact⟨hr,hz⟩)),rfl,by have h9:=zB (L' := [Res.row ((A9,c9,g1)).1 (batF lim ws l 0 true).length ((A9,c9,g1)).2.1 3 1 ((batF lim ws l 0 true).map (fun v:Int=>[Value.int .i64 v])),rB_i rb ((A9,c9,g1)).2.2,rW_i ((A9,c9,g1)).2.2]) w' hw';exact h9⟩) _ (.inl rfl)
end Go.Proofs.YtdddiilocbbkkaaGreat
