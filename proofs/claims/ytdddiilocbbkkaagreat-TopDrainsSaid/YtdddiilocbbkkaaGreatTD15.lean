/- TopDrains: for every configuration and all operations the law returns true. No condition. Part 15 of 28. -/
import Derived.Test.YtdddiilocbbkkaaGreatTD14
set_option linter.unusedVariables false
set_option linter.unusedSimpArgs false
namespace Go.Proofs.YtdddiilocbbkkaaGreat
open Go.RowKit Go.Eg
set_option maxHeartbeats 4000000
set_option synthInstance.maxSize 3000
set_option maxRecDepth 100000
theorem cyc1_any (ub b2 b3 n k:Nat) (w:World) (hw:W0 [Res.blk b2 96 [Value.pointer (some ⟨ub,0,none⟩)],Res.blk b3 3 [Value.int .i64 ((n:Nat):Int)],Res.blk ub 180 [Value.int .i64 ((k:Nat):Int)]] w) (hk:k<1000000) (hn:0<n∧n≤1000000):Own2 (ι:=Unit) Tryz.prog 287 [.pointer (some ⟨b2,0,none⟩),.pointer (some ⟨b3,0,none⟩)] w [Res.blk b2 96 [Value.pointer (some ⟨ub,0,none⟩)],Res.blk b3 3 [Value.int .i64 ((n:Nat):Int)],Res.blk ub 180 [Value.int .i64 ((k:Nat):Int)]] (fun x=>True) (fun x=>.int .i64 ((k%n:Nat):Int)) (fun x=>[]) (fun x=>[Res.blk b2 96 [Value.pointer (some ⟨ub,0,none⟩)],Res.blk b3 3 [Value.int .i64 ((n:Nat):Int)],Res.blk ub 180 [Value.int .i64 ((((k%n+1)%n):Nat):Int)]]):=by
 refine g_st Tryz.func287 18 hw ?_
 have hm:=Nat.mod_lt k hn.1
 refine rn [1,3,0,8] ?_
 refine dreg [] mixed rfl ?_
 refine rn [23,0,5,23,1,6,23,2,4,23,3,5,23,4,5] ?_
 refine dq 5 rfl (wG (a:=k) (b:=n) rfl rfl (by first|omega|(simp;omega)|(simp_all;omega))) ?_
 refine rn [23,6,3,27,7,8] ?_
 refine dreg [7] mixed rfl ?_
 refine rn [23,0,5,23,1,2,23,2,43,23,3,5] ?_
 refine dq 4 rfl (wG (a:=((k%n)+1)) (b:=n) rfl rfl (by first|omega|(simp;omega)|(simp_all;omega))) ?_
 refine rn [24,5,6,23,6,4] ?_
 refine dop 7 rfl (zJ rfl rfl rfl rfl rfl rfl rfl ?_)
 refine zF (b:=ub) [Value.int .i64 (((k%n+1)%n:Nat):Int)] (by simp[splice]) ?_
 refine rn [28,7,1,2,3,0,11] ?_
 exact fin1 rfl (.tmp rfl) (fun w' hw' => ⟨(),(by exact trivial),rfl,zA w' hw'⟩) _ (.inl rfl)
theorem cycle_any (ub n:Nat) (w:World) : Own2 (ι:=(Nat × Nat)) Tryz.prog 239 [.pointer (some ⟨ub,0,none⟩),.int .i64 ((n:Nat):Int)] w [] (fun x=>True) (fun x=>.func (.func 287) #[] [Value.pointer (some ⟨x.1,0,none⟩),Value.pointer (some ⟨x.2,0,none⟩)].toArray) (fun x=>[Res.blk x.1 96 [Value.pointer (some ⟨ub,0,none⟩)],Res.blk x.2 3 [Value.int .i64 ((n:Nat):Int)]]) (fun x=>[]):=by
 refine g_st Tryz.func239 6 (WOK.start (fps []) _) ?_
 refine rn [1] ?_
 refine g_op (g_box rfl rfl rfl fun b2=>?_)
 refine g_op (g_box rfl rfl rfl fun b3=>?_)
 refine rn [3,0,1,52,3,0,11] ?_
 exact fin1 rfl (.tmp rfl) (fun w' hw' => ⟨(b2,b3),(by exact trivial),rfl,zA w' hw'⟩) _ (.inl rfl)
theorem swp_stop {rd:List Bool} {n pays k at_ made:Nat} {paid:List Int} (h:paid.length=pays):swp rd n pays k at_ paid made=(at_,paid,made):=by
 cases k with
 | zero=>rfl
 | succ k=>rw[swp,if_pos h]
theorem swp_go {rd:List Bool} {n pays K at_ made:Nat} {paid:List Int} (h:¬paid.length=pays) (hk:made<K):swp rd n pays (K-made) at_ paid made=swp rd n pays (K-(made+1)) ((at_%n+1)%n) (if rd[at_%n]?=some true then paid++[((at_%n:Nat):Int)] else paid) (made+1):=by
 obtain⟨k,hk⟩:∃k,K-made=k+1:=⟨K-made-1,by omega⟩
 rw[hk,swp,if_neg h,show K-(made+1)=k by omega]
theorem sweep_any (ub k:Nat) (A:Option Addr) (n cap:Nat) (rd:List Bool) (vis pays:Int) (w:World) (hw:W0 [Res.blk ub 180 [Value.int .i64 ((k:Nat):Int)]] w) (hk:k≤4096) (hrd:Rd w [Res.blk ub 180 [Value.int .i64 ((k:Nat):Int)]] A n 1 (rd.map (fun v:Bool=>[Value.bool v]))) (hb:n≤4096):Own2 (ι:=(Option Addr × Nat)) Tryz.prog 159 [.pointer (some ⟨ub,0,none⟩),.slice A n cap,.int .i64 vis,.int .i64 pays] w [Res.blk ub 180 [Value.int .i64 ((k:Nat):Int)]] (fun x=>True) (fun x=>.tuple [.slice x.1 (sweepS k rd vis pays).2.1.length x.2,.int .i64 (((sweepS k rd vis pays).2.2:Nat):Int)].toArray) (fun x=>[Res.row x.1 ((sweepS k rd vis pays).2.1).length x.2 3 1 (((sweepS k rd vis pays).2.1).map (fun v:Int=>[Value.int .i64 v]))]) (fun x=>[Res.blk ub 180 [Value.int .i64 (((sweepS k rd vis pays).1:Nat):Int)]]):=by
 refine g_st Tryz.func159 53 hw ?_
 have hn:n=rd.length:=by have:=hrd.old.len;simpa using this
 refine rn [1,3,3,0] ?_
 refine g_scope ?_
 refine rn [1,2,47,3,0,8,1,2,50,2,22,2,22,44,42,2] ?_
 refine zU 23 rfl (fun h1=>?_) (fun h1=>?_)
 ·have hn1:n=0:=by have h9:=of_decide_eq_true h1;omega
  have hR:(sweepS k rd vis pays)=(k,[],0):=by unfold sweepS;rw[if_pos (.inl (by omega))]
  refine rn [21,21,41,0,19,1,3,3,0,11] ?_
  refine zE (vG ?_)
  refine zX none 3 1 (([]:List Int).map (fun v:Int=>[Value.int .i64 v])) rfl ?_
  exact fin2 rfl (.tmp rfl) (.tmp rfl) (fun w' hw' => ⟨((none:Option Addr),0),(by exact trivial),by rw[hR];rfl,by rw[hR];exact zA w' hw'⟩) _ (.inl rfl)
 ·have hn0:0<n:=by have h9:=of_decide_eq_false h1;omega
  refine rn [22,2,22,46,42,0] ?_
  refine zC rfl (fun h2=>?_) (fun h2=>?_)
  ·have hR:(sweepS k rd vis pays)=(k,[],0):=by unfold sweepS;rw[if_pos (.inr (of_decide_eq_true h2))]
   refine rn [1,3,3,0,11] ?_
   refine zE (vG ?_)
   refine zX none 3 1 (([]:List Int).map (fun v:Int=>[Value.int .i64 v])) rfl ?_
   exact fin2 rfl (.tmp rfl) (.tmp rfl) (fun w' hw' => ⟨((none:Option Addr),0),(by exact trivial),by rw[hR];rfl,by rw[hR];exact zA w' hw'⟩) _ (.inl rfl)
  ·have hp0:1≤pays:=by have h9:=of_decide_eq_false h2;omega
   obtain⟨P,hP⟩:∃q:Nat,pays=q:=⟨pays.toNat,by omega⟩
   refine g_val 3 (v' := .int .i64 ((P:Nat):Int)) rfl (by rw[hP]) ?_
   obtain⟨K,hK⟩:∃q:Nat,(min vis (rd.length:Int)).toNat=q:=⟨_,rfl⟩
   have hR0:(sweepS k rd vis pays)=swp rd n P (K-0) k [] 0:=by unfold sweepS;rw[if_neg (by omega),hK,hn,show pays.toNat=P by omega];rfl
   have hKn:K≤n:=by omega
   have hm0:=Nat.mod_lt k hn0
   refine rn [12,7,1,2,2] ?_
   refine g_op (zG [] rfl (fun w1 hw1 ho1=>by have h7:=cycle_any ub n w1;exact h7) rfl ?_)
   rintro⟨b2,b3⟩ _
   refine ii ?_
   refine rn [3,0,1,3] ?_
   refine xL 12 3 1 rfl fun Az1 capz1 hcz1=>?_
   refine zH (A:=Az1) (([]:List Int).map (fun v:Int=>[Value.int .i64 v])) rfl ?_
   refine rn [0,1,3,0,8] ?_
   refine g_label ?_
   refine rn [7,8,14] ?_
   refine g_lk [1,2,3,8,9,10,11] (fun(x:Nat × List Int × Nat × Option Addr × Nat)=>[(12,.slice x.2.2.2.1 (x.2.1).length x.2.2.2.2),(13,.int .i64 ((x.2.2.1:Nat):Int))]) (fun(x:Nat × List Int × Nat × Option Addr × Nat)=>[Res.row x.2.2.2.1 (x.2.1).length x.2.2.2.2 3 1 ((x.2.1).map (fun v:Int=>[Value.int .i64 v])),Res.blk b2 96 [Value.pointer (some ⟨ub,0,none⟩)],Res.blk b3 3 [Value.int .i64 ((n:Nat):Int)],Res.blk ub 180 [Value.int .i64 ((x.1:Nat):Int)]]) (fun(x:Nat × List Int × Nat × Option Addr × Nat)=>x.1≤4096∧(x.2.1).length≤x.2.2.1∧x.2.2.1≤K∧(sweepS k rd vis pays)=swp rd n P (K-x.2.2.1) x.1 x.2.1 x.2.2.1) (fun(x:Nat × List Int × Nat × Option Addr × Nat)=>K-x.2.2.1) (k,([]:List Int),0,Az1,capz1) (by(try dsimp only);exact⟨hk,(by simp),(by omega),hR0⟩) ?_
   rintro⟨k1,p1,m1,A1,cap1⟩ ⟨hk1,hpl,hmK,hs⟩
   replace hk1:k1≤4096:=hk1
   replace hpl:(p1).length≤m1:=hpl
   replace hmK:m1≤K:=hmK
   replace hs:(sweepS k rd vis pays)=swp rd n P (K-m1) k1 p1 m1:=hs
   refine zV (L' := [Res.row A1 (p1).length cap1 3 1 ((p1).map (fun v:Int=>[Value.int .i64 v])),Res.blk b2 96 [Value.pointer (some ⟨ub,0,none⟩)],Res.blk b3 3 [Value.int .i64 ((n:Nat):Int)],Res.blk ub 180 [Value.int .i64 ((k1:Nat):Int)]]) rfl ?_
   refine g_val 12 (v' := .slice A1 (p1).length cap1) rfl rfl ?_
   refine g_val 13 (v' := .int .i64 ((m1:Nat):Int)) rfl rfl ?_
   refine rn [8,1,2,2,2,58,46,0] ?_
   refine zC rfl (fun h3=>?_) (fun h3=>?_)
   ·have lt_m:m1<K:=by have h9:=of_decide_eq_true h3;omega
    have hm1:=Nat.mod_lt k1 hn0
    have hm2:=Nat.mod_lt (k1%n+1) hn0
    refine rn [12,7,8,14,8,1,2,47,2,44,0] ?_
    refine zC rfl (fun h4=>?_) (fun h4=>?_)
    ·have hR:(sweepS k rd vis pays)=(k1,p1,m1):=by rw[hs];exact swp_stop (by have h9:=of_decide_eq_true h4;omega)
     refine rn [16] ?_
     refine zD (xB rfl (zD (zD (zN ?_))))
     refine rn [7,1,2,2,3,3,0,11] ?_
     refine vG ?_
     exact fin2 rfl (.tmp rfl) (.tmp rfl) (fun w' hw' => ⟨(A1,cap1),(by exact trivial),by rw[hR],by rw[hR];exact zA w' hw'⟩) _ (.inl rfl)
    ·have hne:¬p1.length=P:=by have h9:=of_decide_eq_false h4;omega
     refine rn [12,7,1,2] ?_
     refine g_op (xQ [Res.blk b2 96 [Value.pointer (some ⟨ub,0,none⟩)],Res.blk b3 3 [Value.int .i64 ((n:Nat):Int)],Res.blk ub 180 [Value.int .i64 ((k1:Nat):Int)]] rfl rfl (fun w1 hw1 ho1=>by have h7:=cyc1_any ub b2 b3 n k1 w1 ho1 (by omega) ⟨hn0,by omega⟩;exact h7) rfl ?_)
     rintro⟨⟩ _
     refine ii ?_
     refine rn [3,0,1,2,2] ?_
     refine s_q (zP (i:=(k1%n)) rfl rfl rfl hrd.rdb (by first|omega|(simp;done)|(simp;omega))) rfl ?_
     refine s_q (yI (i:=(k1%n)) (o:=0) rfl hrd.rdb (zR (by omega)) rfl rfl) rfl ?_
     refine rn [0] ?_
     refine zC rfl (fun h5=>?_) (fun h5=>?_)
     ·have hrx:rd[k1%n]?=some true:=by rw[List.getElem?_eq_getElem (by omega)];simpa using h5
      refine rn [10,2,2] ?_
      refine g_op (g_lit rfl rfl rfl rfl rfl fun b49=>?_)
      refine zF (b:=b49) ((([(((k1%n):Nat):Int)]:List Int).map (fun v:Int=>[Value.int .i64 v])).flatten) rfl ?_
      refine g_op (zZ (A:=A1) (els:=(p1).map (fun v:Int=>[Value.int .i64 v])) (news:=(([(((k1%n):Nat):Int)]:List Int).map (fun v:Int=>[Value.int .i64 v]))) rfl rfl (InL.rdb (b:=b49) rfl (by simp) rfl) (yF (c:=(fun v:Int=>[Value.int .i64 v])) (by intro x;simp[Value.oneCell']) _) (by omega) rfl fun A50 cap50=>⟨_,inferInstance,?_⟩)
      refine zH (A:=A50) (((p1++[(((k1%n):Nat):Int)])).map (fun v:Int=>[Value.int .i64 v])) (by first|rfl|exact List.map_append.symm|(simp;done)) ?_
      refine yB (A:=A50) (p1++[((k1%n:Nat):Int)]).length (by simp) ?_
      refine g_val 50 (v' := .slice A50 (p1++[((k1%n:Nat):Int)]).length cap50) rfl (by simp) ?_
      refine rn [3,9,15,7,10,2,43,3,9] ?_
      exact g_ag (((k1%n+1)%n),(p1++[((k1%n:Nat):Int)]),(m1+1),A50,cap50) (by(try dsimp only);exact⟨(by omega),(by simp;omega),(by omega),(by rw[swp_go hne lt_m,if_pos hrx] at hs;exact hs)⟩)
     ·have hrx:¬rd[k1%n]?=some true:=by rw[List.getElem?_eq_getElem (by omega)];simpa using h5
      refine rn [12,15,7,10,2,43,3,9] ?_
      exact g_ag (((k1%n+1)%n),p1,(m1+1),A1,cap1) (by(try dsimp only);exact⟨(by omega),(by omega),(by omega),(by rw[swp_go hne lt_m,if_neg hrx] at hs;exact hs)⟩)
   ·have eq_m:m1=K:=by have h9:=of_decide_eq_false h3;omega
    have hR:(sweepS k rd vis pays)=(k1,p1,m1):=by rw[hs,eq_m,Nat.sub_self];rfl
    refine rn [16] ?_
    refine zD (zD (zN ?_))
    refine rn [7,1,2,2,3,3,0,11] ?_
    refine vG ?_
    exact fin2 rfl (.tmp rfl) (.tmp rfl) (fun w' hw' => ⟨(A1,cap1),(by exact trivial),by rw[hR],by rw[hR];exact zA w' hw'⟩) _ (.inl rfl)
theorem radd_reg (rb:Nat) (g:RG) (v:V) (w:World) (hw:W0 [RgB rb g,RgW g,Res.im (RG.m g)] w) (hg:g.Rep) (hv:v.ok) (hlt:g.l.length<g.cp) (hb:(g.l.map V.bal).sum+v.bal≤18446744073709551615):Own2 (ι:=RG) Tryz.prog 106 [.pointer (some ⟨rb,0,none⟩),.agg v.c.toArray] w [RgB rb g,RgW g,Res.im (RG.m g)] (fun x=>x.Rep∧x.l=g.l++[v]∧x.cp=g.cp) (fun x=>.tuple [.int .i64 (((RG.l g).length:Nat):Int),.int .i64 0].toArray) (fun x=>[]) (fun x=>[RgB rb x,RgW x,Res.im (RG.m x)]):=by
 refine tJ Tryz.func106 rfl 51 rfl (by simp) (fps [RgB rb g,RgW g,Res.im (RG.m g)]) [RgB rb g,RgW g,Res.im (RG.m g)] hw _ rfl ?_
 have hcp:=hg.cp
 have hvb:=hv.bal
 have ht0:0≤RG.t g:=by rw[hg.t];exact xF fun x hx=>by obtain⟨y,hy,rfl⟩:=List.mem_map.1 hx;exact(hg.ok y hy).bal.1
 refine rn [1] ?_
 refine g_op (g_box rfl rfl rfl fun b3=>?_)
 refine rn [3,3,0,8,1,2,50,0,20,12,7,8,8] ?_
 refine dreg [] mixed rfl ?_
 refine rn [23,0,2,23,1,6,23,2,4,23,3,5,23,4,47,23,5,2,23,6,6,23,7,4,23,8,5,23,9,44] ?_
 refine yC 19 (b:=false) rfl (by simp;omega) ?_
 refine rn [27,7,20,12,7,8,8] ?_
 refine dreg [] mixed rfl ?_
 refine rn [23,0,2,23,1,6,23,2,4,23,3,5,23,4,4,23,5,5] ?_
 refine dop 6 rfl (g_lit rfl rfl rfl rfl rfl fun b27=>?_)
 refine zF (b:=b27) ((([(RG.t g),v.bal]:List Int).map (fun v:Int=>[Value.int .u64 v])).flatten) rfl ?_
 refine dop 7 rfl (zI rfl (fun w1 hw1=>vP (some ⟨b27,0,none⟩) (2) (2) (([(RG.t g),v.bal]:List Int)) w1 (Rdb.toOld (InL.rdb (b:=b27) (els:=(([(RG.t g),v.bal]:List Int)).map (fun v:Int=>[Value.int .u64 v])) rfl (by simp) rfl) hw1) (by intro x hx;simp at hx;have:=hg.t;have:=hg.mx;rcases hx with rfl|rfl<;>omega) (by first|omega|(simp;omega)|(simp;done))) rfl ?_)
 refine rn [23,8,2,23,9,40,23,10,40,23,11,3,23,12,3,27,7,1,2,48,0] ?_
 refine zC rfl (fun h1=>?_) (fun h1=>?_)
 ·exfalso;have h9:=h1;have h8:addB [RG.t g,v.bal]=true:=(rK (by have h7:=hg.t;simp;omega)).1;rw[h8] at h9;simp at h9
 ·refine rn [12,7,1,2,45] ?_
  refine g_op (g_defer (fst:=[]) (cap:=[]) rfl rfl ?_)
  refine rn [0,8] ?_
  refine dregL (L0:=[Res.blk rb 167 [Value.int .i64 ((RG.cp g:Nat):Int),.slice (RG.A g) (RG.l g).length (RG.k g),.int .u64 (RG.a g),.int .u64 (RG.t g),.map (some (RG.m g))],Res.blk b3 52 v.c]) [10] mixed rfl zB ?_
  refine rn [23,0,2,23,1,2,23,2,6,23,3,4,23,4,5,23,5,45] ?_
  refine dop 6 rfl (g_lit rfl rfl rfl rfl rfl fun b41=>?_)
  refine zF (b:=b41) ((([v]:List V).map V.c).flatten) rfl ?_
  refine dop 7 rfl (zZ (A:=(RG.A g)) (els:=((RG.l g)).map V.c) (news:=(([v]:List V).map V.c)) rfl rfl (InL.rdb (b:=b41) rfl (by simp[V.c]) rfl) (yF (c:=V.c) (by intro x;simp[V.c,Value.oneCell']) _) (by have:=hg.cp;omega) rfl fun A42 cap42=>⟨_,inferInstance,?_⟩)
  refine zH (A:=A42) ((((RG.l g)++[v])).map V.c) (by first|rfl|exact List.map_append.symm|(simp;done)) ?_
  refine yB (A:=A42) (g.l++[v]).length (by simp) ?_
  refine g_val 42 (v' := .slice A42 (g.l++[v]).length cap42) rfl (by simp) ?_
  refine rn [24,8,6,23,9,4] ?_
  refine dop 10 rfl (zJ rfl rfl rfl rfl rfl rfl rfl ?_)
  refine zF (b:=rb) [Value.int .i64 ((RG.cp g:Nat):Int),.slice A42 (g.l++[v]).length cap42,.int .u64 (RG.a g),.int .u64 (RG.t g),.map (some (RG.m g))] (by simp[splice]) ?_
  refine rn [28,7,1,2,6,4,5,47] ?_
  refine s_q (yZ (z:=(((RG.l g).length:Nat):Int)) rfl rfl (by simp;rw[wi64 (by omega) (by omega)])) rfl ?_
  refine rn [3,3,0,11] ?_
  refine finD [RgB rb (RG.mk g.cp A42 cap42 (g.l++[v]) g.a g.t g.m),RgW (RG.mk g.cp A42 cap42 (g.l++[v]) g.a g.t g.m),Res.im (RG.m (RG.mk g.cp A42 cap42 (g.l++[v]) g.a g.t g.m))] (fun w1 hw1 ho1=>by have h7:=countD_any rb (RG.mk g.cp A42 cap42 (g.l++[v]) g.a g.t g.m) v true w1 ho1 hv;exact h7) ?_ _ (.inl rfl)
  rintro⟨⟩ _
  refine⟨_,_,inferInstance,inferInstance,?_⟩
  exact finM2 rfl (.tmp rfl) (.tmp rfl) (fun w' hw' => ⟨(RG.cnt (RG.mk g.cp A42 cap42 (g.l++[v]) g.a g.t g.m) (sgn v true) v),⟨RG.add_rep hg hlt hv hb,rfl,rfl⟩,rfl,by have h9:=zB (L' := [RgB rb (RG.cnt (RG.mk g.cp A42 cap42 (g.l++[v]) g.a g.t g.m) (sgn v true) v),RgW (RG.cnt (RG.mk g.cp A42 cap42 (g.l++[v]) g.a g.t g.m) (sgn v true) v),Res.im (RG.m (RG.cnt (RG.mk g.cp A42 cap42 (g.l++[v]) g.a g.t g.m) (sgn v true) v))]) w' hw';exact h9⟩)
theorem xD (rb:Nat) (g:RG) (i:Int) (v:V) (w:World) (hw:W0 [RgB rb g,RgW g,Res.im (RG.m g)] w) (hg:g.Rep) (hv:v.ok) (hb:∀n:Nat,i=n→(h:n<g.l.length)→(g.l.map V.bal).sum-(g.l[n]).bal+v.bal≤18446744073709551615):Own2 (ι:=RG) Tryz.prog 113 [.agg #[.pointer (some ⟨rb,0,none⟩)],.int .i64 i,.agg v.c.toArray] w [RgB rb g,RgW g,Res.im (RG.m g)] (fun x=>x.Rep∧x.l=setV g.l i v∧x.cp=g.cp) (fun x=>.tuple #[]) (fun x=>[]) (fun x=>[RgB rb x,RgW x,Res.im (RG.m x)]):=by
 refine g_st Tryz.func113 11 hw ?_
 refine rn [1] ?_
 refine g_op (g_box (c:=[Value.pointer (some ⟨rb,0,none⟩)]) rfl rfl rfl fun b3=>?_)
 refine g_op (g_box rfl rfl rfl fun b5=>?_)
 refine rn [0,10,4,5,2,45] ?_
 refine g_op (zG _ rfl (fun w1 hw1 ho1=>by have h7:=rset_any rb g (i) (v) w1 ho1 hg hv hb;exact h7) rfl ?_)
 rintro g10 ⟨r10,l10,c10⟩
 refine ii ?_
 refine rn [9] ?_
 exact fin0 rfl (fun w' hw' => ⟨g10,(by exact⟨r10,by rw[l10];rfl,c10⟩),rfl,zA w' hw'⟩) _ (.inr rfl)
theorem ok_st {v:V} {z:Int} (h:v.ok) (hz:0≤z∧z≤7):({ v with st:=z }:V).ok:=⟨h.bal,by simp only;omega,h.rq,h.ex,h.wd,h.dl⟩
theorem sum_same {l:List V} {n:Nat} (h:n<l.length) (hm:(l.map V.bal).sum≤18446744073709551615) {v:V} (hv:v.bal=(l[n]).bal):(l.map V.bal).sum-(l[n]).bal+v.bal≤18446744073709551615:=by rw[hv];omega
theorem rX (rb:Nat) (g:RG) (i:Int) (e:Nat) (w:World) (hw:W0 [RgB rb g,RgW g,Res.im (RG.m g)] w) (hg:g.Rep) (he:e<8) (hst:∀v∈RG.l g,0≤v.st∧v.st≤7):Own2 (ι:=RG) Tryz.prog 148 [.agg #[.pointer (some ⟨rb,0,none⟩)],.int .i64 i,.int .i64 (e:Int)] w [RgB rb g,RgW g,Res.im (RG.m g)] (fun x=>x.Rep∧x.l=evV g.l i (e:Int)∧x.cp=g.cp) (fun x=>.bool (hasV g.l i && decide ((nxt (gotV g.l i).st (e:Int))≠0))) (fun x=>[]) (fun x=>[RgB rb x,RgW x,Res.im (RG.m x)]):=by
 refine g_st Tryz.func148 37 hw ?_
 refine rn [1] ?_
 refine g_op (g_box (c:=[Value.pointer (some ⟨rb,0,none⟩)]) rfl rfl rfl fun b3=>?_)
 refine rn [3,0,1,4,5,2] ?_
 refine g_op (zL _ rfl (fun w1 hw1 ho1=>by exact xX rb g (i) w1 ho1) rfl ?_)
 refine rn [2,40,40] ?_
 refine g_op (zK rfl fun b7=>?_)
 refine rn [33,3,0,1] ?_
 have hst1:0≤(gotV g.l i).st∧(gotV g.l i).st≤7:=by
   rcases Bool.eq_false_or_eq_true (hasV g.l i) with h|h
   · exact hst _ (by have h9:=of_decide_eq_true h;obtain⟨q,rfl⟩:∃q:Nat,i=q:=⟨i.toNat,by omega⟩;rw[yT (by omega)];exact List.getElem_mem _)
   · rw[vK h];decide
 refine rn [4,5,2] ?_
 refine g_op (zI rfl (fun w1 hw1=>by have h7:=next_any ((gotV g.l i).st).toNat ((e:Int)).toNat w1 (by omega) (by omega);rw[Int.toNat_of_nonneg (show 0≤(gotV g.l i).st by omega),Int.toNat_of_nonneg (show 0≤(e:Int) by omega)] at h7;exact h7) rfl ?_)
 refine rn [2,40,40,3,3,0,8,1,2,48,2] ?_
 refine zU 27 rfl (fun h1=>?_) (fun h1=>?_)
 ·have hh:hasV g.l i=false:=by simpa using h1
  refine rn [21,21,41,0,19,1,3,0,11,13] ?_
  exact fin1 rfl (.tmp rfl) (fun w' hw' => ⟨g,(by(try dsimp only);exact⟨hg,by unfold evV;rw[if_neg (by first|(rw[hh];simp;done)|(rw[hn];simp;done)|simp_all)],rfl⟩),by first|(rw[hh];rfl)|(rw[hn];simp),zA w' hw'⟩) _ (.inl rfl)
 ·have hh:hasV g.l i=true:=by simpa using h1
  refine rn [22,2,22,48,42,0] ?_
  refine zC rfl (fun h2=>?_) (fun h2=>?_)
  ·have hn:(nxt (gotV g.l i).st (e:Int))=0:=by simpa using h2
   refine rn [1,3,0,11,13] ?_
   exact fin1 rfl (.tmp rfl) (fun w' hw' => ⟨g,(by(try dsimp only);exact⟨hg,by unfold evV;rw[if_neg (by first|(rw[hh];simp;done)|(rw[hn];simp;done)|simp_all)],rfl⟩),by first|(rw[hh];rfl)|(rw[hn];simp),zA w' hw'⟩) _ (.inl rfl)
  ·have hn:¬(nxt (gotV g.l i).st (e:Int))=0:=by simpa using h2
   refine rn [12,7,1,2,4] ?_
   refine g_op (zJ rfl rfl rfl rfl rfl rfl rfl ?_)
   refine zF (b:=b7) (V.c { gotV g.l i with st:=nxt (gotV g.l i).st (e:Int) }) (by simp[splice,V.c]) ?_
   obtain⟨q9,hqi⟩:∃q:Nat,i=q:=⟨i.toNat,by have h9:=of_decide_eq_true hh;omega⟩
   have hq9:q9<g.l.length:=by have h9:=of_decide_eq_true hh;omega
   have hgo:gotV g.l i=g.l[q9]:=by rw[hqi];exact yT hq9
   refine rn [0,1,45,2,45] ?_
   refine g_op (zG _ rfl (fun w1 hw1 ho1=>by have h7:=xD rb g (i) ({ gotV g.l i with st:=nxt (gotV g.l i).st (e:Int) }) w1 ho1 hg (by rw[hgo];exact ok_st (hg.ok _ (List.getElem_mem hq9)) (nxt_rng _ _)) (fun n hn2 h=>sum_same h hg.mx (by obtain rfl:q9=n:=(by omega);simp only[hgo]));exact h7) rfl ?_)
   rintro g36 ⟨r36,l36,c36⟩
   refine ii ?_
   refine rn [0,1,3,0,11] ?_
   exact fin1 rfl (.tmp rfl) (fun w' hw' => ⟨g36,(by exact⟨r36,by rw[l36];unfold evV setV;rw[if_pos hh,if_pos ⟨hh,hn⟩],c36⟩),by rw[hh,decide_eq_true hn];rfl,zA w' hw'⟩) _ (.inl rfl)
theorem uS (rb:Nat) (g:RG) (w:World) (hw:W0 [RgB rb g,RgW g,Res.im (RG.m g)] w) (hg:g.Rep):Own2 (ι:=(Option Addr × Nat)) Tryz.prog 153 [.agg #[.pointer (some ⟨rb,0,none⟩)]] w [RgB rb g,RgW g,Res.im (RG.m g)] (fun x=>True) (fun x=>.slice x.1 ((RG.l g).map V.bal).length x.2) (fun x=>[Res.row x.1 ((RG.l g).map V.bal).length x.2 22 1 (((RG.l g).map V.bal).map (fun v:Int=>[Value.int .u64 v]))]) (fun x=>[RgB rb g,RgW g,Res.im (RG.m g)]):=by
 refine g_st Tryz.func153 21 hw ?_
 have q1:=hg.le;have q2:=hg.cp
 refine rn [1] ?_
 refine g_op (g_box (c:=[Value.pointer (some ⟨rb,0,none⟩)]) rfl rfl rfl fun b1=>?_)
 refine rn [3,0,1,3] ?_
 refine xL 3 22 1 rfl fun Az1 capz1 hcz1=>?_
 refine zH (A:=Az1) (([]:List Int).map (fun v:Int=>[Value.int .u64 v])) rfl ?_
 refine rn [0,8,1,4,5] ?_
 refine g_op (zG _ rfl (fun w1 hw1 ho1=>by have h7:=vW rb g w1 ho1 hg;exact h7) rfl ?_)
 rintro⟨A8,cap8⟩ _
 refine ii ?_
 refine rn [47,2,0,14] ?_
 refine zH (A:=Az1) ((((RG.l g).map V.bal).take 0).map (fun v:Int=>[Value.int .u64 v])) (by simp) ?_
 refine g_lk [2,8,9] (fun(x:Nat × Option Addr × Nat)=>[(3,.slice x.2.1 x.1 x.2.2),(10,.int .i64 ((x.1:Nat):Int))]) (fun(x:Nat × Option Addr × Nat)=>[Res.row x.2.1 x.1 x.2.2 22 1 ((((RG.l g).map V.bal).take x.1).map (fun v:Int=>[Value.int .u64 v])),Res.row A8 (RG.l g).length cap8 52 7 ((RG.l g).map V.c),RgB rb g,RgW g,Res.im (RG.m g)]) (fun(x:Nat × Option Addr × Nat)=>x.1≤(RG.l g).length) (fun(x:Nat × Option Addr × Nat)=>(RG.l g).length-x.1) (0,Az1,capz1) (by(try dsimp only);exact Nat.zero_le _) ?_
 rintro⟨k,A1,cap1⟩ le_k
 replace le_k:k≤(RG.l g).length:=le_k
 refine zV (L' := [Res.row A1 k cap1 22 1 ((((RG.l g).map V.bal).take k).map (fun v:Int=>[Value.int .u64 v])),Res.row A8 (RG.l g).length cap8 52 7 ((RG.l g).map V.c),RgB rb g,RgW g,Res.im (RG.m g)]) rfl ?_
 refine g_val 3 (v' := .slice A1 k cap1) rfl rfl ?_
 refine g_val 10 (v' := .int .i64 ((k:Nat):Int)) rfl rfl ?_
 refine rn [1,46,0,8] ?_
 refine zC rfl (fun h1=>?_) (fun h1=>?_)
 ·have lt_k:k<(RG.l g).length:=by have h9:=of_decide_eq_true h1;omega
  refine rn [12,7,8,14,1] ?_
  refine s_q (zP (i:=k) rfl rfl rfl (ird (A:=A8)) (by first|exact lt_k|omega)) rfl ?_
  refine s_q (zS (i:=k) rfl (ird (A:=A8)) (zR (by first|assumption|omega|(simp_all;done)|(simp_all;omega))) rfl) rfl ?_
  refine g_op (zK rfl fun b5=>?_)
  refine rn [33,0,10,2,4,5] ?_
  refine g_op (g_lit rfl rfl rfl rfl rfl fun b17=>?_)
  refine zF (b:=b17) ((([(RG.l g)[k].bal]:List Int).map (fun v:Int=>[Value.int .u64 v])).flatten) rfl ?_
  refine g_op (zZ (A:=A1) (els:=((((RG.l g).map V.bal).take k)).map (fun v:Int=>[Value.int .u64 v])) (news:=(([(RG.l g)[k].bal]:List Int).map (fun v:Int=>[Value.int .u64 v]))) rfl rfl (InL.rdb (b:=b17) rfl (by simp) rfl) (yF (c:=(fun v:Int=>[Value.int .u64 v])) (by intro x;simp[Value.oneCell']) _) (by omega) rfl fun A18 cap18=>⟨_,inferInstance,?_⟩)
  refine zH (A:=A18) ((((((RG.l g).map V.bal).take k)++[(RG.l g)[k].bal])).map (fun v:Int=>[Value.int .u64 v])) (by first|rfl|exact List.map_append.symm|(simp;done)) ?_
  refine zH (A:=A18) ((((RG.l g).map V.bal).take (k+1)).map (fun v:Int=>[Value.int .u64 v])) (by rw[←List.take_append_getElem (show k<((RG.l g).map V.bal).length by simpa using lt_k)];simp) ?_
  refine rn [3,9,15,7,10,43,2,9] ?_
  exact g_ag ((k+1),A18,cap18) (by(try dsimp only);exact(by first|exact lt_k|omega))
 ·have eq_k:k=(RG.l g).length:=by have h9:=of_decide_eq_false h1;omega
  subst eq_k
  refine rn [16] ?_
  refine zD (zD (zN ?_))
  refine rn [7,1,2,3,0,11] ?_
  refine zH (A:=A1) (((RG.l g).map V.bal).map (fun v:Int=>[Value.int .u64 v])) (by rw[List.take_of_length_le (by simp)]) ?_
  refine yB (A:=A1) ((RG.l g).map V.bal).length (by simp) ?_
  exact fin1 rfl (.tmp rfl) (fun w' hw' => ⟨(A1,cap1),(by exact trivial),by simp,zA w' hw'⟩) _ (.inl rfl)
theorem pcheck_any (A:Option Addr) (n cap:Nat) (l:List V) (r:Rq) (w:World) (hl:Old w A n 7 (l.map V.c)) (hb:n≤1000000):Pur Tryz.prog 119 [.slice A n cap,.agg r.c.toArray] w (.int .i64 (prtC l r.i r.m)):=by
 refine g_st Tryz.func119 30 (WOK.start [] _) ?_
 have hn:n=l.length:=by simpa using hl.len
 refine rn [1] ?_
 refine g_op (g_box (c:=Rq.c r) rfl rfl rfl fun b3=>?_)
 refine rn [3,0,8,14,1,4,5,46,2] ?_
 refine zU 9 rfl (fun h1=>?_) (fun h1=>?_)
 ·have hh:hasV l r.i=false:=decide_eq_false (by have h9:=of_decide_eq_true h1;omega)
  refine rn [21,21,21,21,21,41,3,0,19,1,3,0,11] ?_
  refine zM (zE ?_)
  exact fin1 rfl (.tmp rfl) (fun w' hw' => ⟨by unfold prtC;first|(rw[if_pos hh];done)|(rw[if_neg (by rw[hh];simp),if_pos h0];done)|(rw[if_neg (by rw[hh];simp),if_neg h0,hni,yT hil];simp_all),hw'.upd⟩) _ (.inl rfl)
 ·refine rn [22,4,22,5,22,2,22,47,22,53,42,3,0] ?_
  refine zC rfl (fun h2=>?_) (fun h2=>?_)
  ·have hh:hasV l r.i=false:=decide_eq_false (by have h9:=of_decide_eq_true h2;omega)
   refine rn [1,3,0,11] ?_
   refine zM (zE ?_)
   exact fin1 rfl (.tmp rfl) (fun w' hw' => ⟨by unfold prtC;first|(rw[if_pos hh];done)|(rw[if_neg (by rw[hh];simp),if_pos h0];done)|(rw[if_neg (by rw[hh];simp),if_neg h0,hni,yT hil];simp_all),hw'.upd⟩) _ (.inl rfl)
  ·have hh:hasV l r.i=true:=decide_eq_true (by have h8:=of_decide_eq_false h1;have h9:=of_decide_eq_false h2;omega)
   obtain⟨ni,hni⟩:∃q:Nat,r.i=q:=⟨r.i.toNat,by have h9:=of_decide_eq_true hh;omega⟩
   have hil:ni<l.length:=by have h9:=of_decide_eq_true hh;omega
   refine rn [1,45,4,5,49] ?_
   refine s_q (q_eqs rfl rfl rfl) rfl ?_
   refine rn [3,0] ?_
   refine zC rfl (fun h3=>?_) (fun h3=>?_)
   ·have h0:r.m=0:=by simpa using h3
    refine rn [1,3,0,11] ?_
    refine zM (zE ?_)
    exact fin1 rfl (.tmp rfl) (fun w' hw' => ⟨by unfold prtC;first|(rw[if_pos hh];done)|(rw[if_neg (by rw[hh];simp),if_pos h0];done)|(rw[if_neg (by rw[hh];simp),if_neg h0,hni,yT hil];simp_all),hw'.upd⟩) _ (.inl rfl)
   ·have h0:¬r.m=0:=by simpa using h3
    refine rn [1,2,4,5] ?_
    refine s_q (zP (i:=ni) rfl rfl hni (hl.rdb rfl) (by omega)) rfl ?_
    refine rn [4] ?_
    refine s_q (yI (i:=ni) (o:=1) rfl (hl.rdb rfl) (zR hil) rfl rfl) rfl ?_
    refine rn [51,3,0] ?_
    refine zC rfl (fun h4=>?_) (fun h4=>?_)
    ·refine rn [1,3,0,11] ?_
     refine zM (zE ?_)
     exact fin1 rfl (.tmp rfl) (fun w' hw' => ⟨by unfold prtC;first|(rw[if_pos hh];done)|(rw[if_neg (by rw[hh];simp),if_pos h0];done)|(rw[if_neg (by rw[hh];simp),if_neg h0,hni,yT hil];simp_all),hw'.upd⟩) _ (.inl rfl)
    ·refine rn [12,15,7,1,3,0,11] ?_
     exact fin1 rfl (.tmp rfl) (fun w' hw' => ⟨by unfold prtC;first|(rw[if_pos hh];done)|(rw[if_neg (by rw[hh];simp),if_pos h0];done)|(rw[if_neg (by rw[hh];simp),if_neg h0,hni,yT hil];simp_all),hw'.upd⟩) _ (.inl rfl)
theorem uF (W:List Int) (e:Int):∀(n:Nat) (q:LL) (m:M) (out:List As),∃a b:Nat,(stepMF W e n q m out).1=out++((q.f.take a).map (fun i=>As.mk i 0 (e+1))++(q.v.take b).map (fun i=>As.mk i 1 (e+1)))
  ∧ a≤q.f.length∧b≤q.v.length∧(0<b→a=q.f.length)∧(stepMF W e n q m out).2.1=⟨q.f.drop a,q.v.drop b⟩
 | 0,q,m,out=>⟨0,0,by simp[stepMF],by omega,by omega,by omega,by simp[stepMF]⟩
 | n+1,q,m,out=>by
  by_cases hB:headB q=false
  ·refine⟨0,0,?_,by omega,by omega,by omega,?_⟩<;>rw[sH hB]<;>simp
  replace hB:headB q=true:=by simpa using hB
  by_cases hT:m.bal<ofW W (headI q)
  ·refine⟨0,0,?_,by omega,by omega,by omega,?_⟩<;>rw[uW hB hT]<;>simp
  rw[rL hB hT]
  obtain⟨f,v⟩:=q
  cases f with
  | cons x f =>
   obtain⟨a,b,h1,h2,h3,h4,h5⟩:=uF W e n (popL ⟨x :: f,v⟩) (m.take (ofW W (headI ⟨x :: f,v⟩))) (out++[⟨headI ⟨x :: f,v⟩,headC ⟨x :: f,v⟩,e+1⟩])
   simp only[popL] at h1 h2 h3 h4 h5
   refine⟨a+1,b,?_,by simp;omega,h3,fun hb=>by simp;exact h4 hb,?_⟩
   ·simp only[popL];rw[h1];simp[headI,headC]
   ·simp only[popL];rw[h5];simp
  | nil =>
   cases v with
   | nil=>simp[headB] at hB
   | cons y v =>
    obtain⟨a,b,h1,h2,h3,h4,h5⟩:=uF W e n (popL ⟨[],y :: v⟩) (m.take (ofW W (headI ⟨[],y :: v⟩))) (out++[⟨headI ⟨[],y :: v⟩,headC ⟨[],y :: v⟩,e+1⟩])
    simp only[popL,List.tail_cons] at h1 h2 h3 h4 h5
    refine⟨a,b+1,?_,h2,by simp;omega,fun _=>by simp at h2 ⊢;omega,?_⟩
    ·simp only[popL,List.tail_cons];rw[h1];simp[headI,headC]
    ·simp only[popL,List.tail_cons];rw[h5];simp
theorem swp_ok {rd:List Bool} {n pays:Nat} (hn:0<n) (a0:Nat):∀(k at_:Nat) (paid:List Int) (made:Nat),at_%n=(a0+made)%n→made+k≤n→(∀x∈paid,∃j,j<made∧x=(((a0+j)%n:Nat):Int)∧rd[(a0+j)%n]?=some true)→paid.Nodup →
  (∀x∈(swp rd n pays k at_ paid made).2.1,∃j:Nat,x=j∧rd[j]?=some true)∧(swp rd n pays k at_ paid made).2.1.Nodup
 | 0,at_,paid,made,_,_,hp,hd=>⟨fun x hx=>by obtain⟨j,_,h1,h2⟩:=hp x hx;exact⟨_,h1,h2⟩,hd⟩
 | k+1,at_,paid,made,ha,hk,hp,hd=>by
  unfold swp
  split
  ·exact⟨fun x hx=>by obtain⟨j,_,h1,h2⟩:=hp x hx;exact⟨_,h1,h2⟩,hd⟩
  ·have hne:∀j,j<made→(a0+j)%n≠(a0+made)%n:=fun j hj hc=>by
    have h1:=Nat.sub_mod_eq_zero_of_mod_eq hc.symm
    rw[show a0+made-(a0+j)=made-j by omega,Nat.mod_eq_of_lt (by omega)] at h1
    omega
   refine swp_ok hn a0 k _ _ _ ?_ (by omega) ?_ ?_
   ·rw[Nat.mod_mod,ha,Nat.mod_add_mod,Nat.add_assoc]
   ·intro x hx
    split at hx
    ·rename_i hr
     rcases List.mem_append.1 hx with hx|hx
     ·obtain⟨j,h1,h2,h3⟩:=hp x hx;exact⟨j,by omega,h2,h3⟩
     ·simp only[List.mem_cons,List.not_mem_nil,or_false] at hx
      exact⟨made,by omega,by rw[hx,ha],by rw[←ha];exact hr⟩
    ·obtain⟨j,h1,h2,h3⟩:=hp x hx;exact⟨j,by omega,h2,h3⟩
   ·split
    ·refine List.nodup_append.2 ⟨hd,by simp,fun x hx y hy=>?_⟩
     simp only[List.mem_cons,List.not_mem_nil,or_false] at hy
     obtain⟨j,h1,h2,_⟩:=hp x hx
     rw[hy,h2,ha]
     exact fun hc=>hne j h1 (by exact_mod_cast hc)
    ·exact hd
theorem sU (at_:Nat) (rd:List Bool) (visits pays:Int):(∀x∈(sweepS at_ rd visits pays).2.1,∃j:Nat,x=j∧rd[j]?=some true)∧(sweepS at_ rd visits pays).2.1.Nodup:=by
 unfold sweepS
 split
 ·simp
 ·exact swp_ok (by omega) at_ _ _ _ _ (by simp) (by omega) (by simp) (by simp)
theorem xY {l:List V} {i:Int} (h:hasV l i=true):∃k:Nat,i=k∧k<l.length:=by
 have h:=of_decide_eq_true h
 exact⟨i.toNat,by omega,by omega⟩
theorem hasV_of {l:List V} {k:Nat} (h:k<l.length):hasV l (k:Int)=true:=decide_eq_true (by omega)
theorem hasV_set (l:List V) (k:Nat) (v:V) (j:Int):hasV (l.set k v) j=hasV l j:=by simp[hasV]
theorem got_set {l:List V} {k:Nat} (h:k<l.length) (v:V) (j:Int):gotV (l.set k v) j=if j=k then v else gotV l j:=by
 unfold gotV
 by_cases hj:0≤j
 ·rw[if_pos hj,if_pos hj,List.getElem?_set]
  by_cases e:k=j.toNat
  ·rw[if_pos e,if_pos h,if_pos (by omega)];rfl
  ·rw[if_neg e,if_neg (by omega)]
 ·rw[if_neg hj,if_neg hj,if_neg (by omega)]
theorem vD (l:List V) (i:Int) (v:V):(setV l i v).length=l.length:=by unfold setV;split<;>simp
theorem has_setV (l:List V) (i:Int) (v:V) (j:Int):hasV (setV l i v) j=hasV l j:=by unfold setV;split<;>simp[hasV]
theorem yO (l:List V) (i:Int) (v:V) (j:Int):gotV (setV l i v) j=if hasV l i=true∧j=i then v else gotV l j:=by
 unfold setV
 by_cases h:hasV l i=true
 ·obtain⟨k,rfl,hk⟩:=xY h
  rw[if_pos h,Int.toNat_natCast,got_set hk]
  by_cases e:j=k
  ·rw[if_pos e,if_pos ⟨h,e⟩]
  ·rw[if_neg e,if_neg (fun hc=>e hc.2)]
 ·rw[if_neg h,if_neg (fun hc=>h hc.1)]
theorem evV_eq (l:List V) (i e:Int):evV l i e=if nxt (gotV l i).st e≠0 then setV l i { gotV l i with st:=nxt (gotV l i).st e } else l:=by
 unfold evV setV
 by_cases h:hasV l i=true<;>by_cases h2:nxt (gotV l i).st e≠0<;>simp[h,h2]
theorem len_ev (l:List V) (i e:Int):(evV l i e).length=l.length:=by
 rw[evV_eq];split
 ·exact vD _ _ _
 ·rfl
theorem has_ev (l:List V) (i e j:Int):hasV (evV l i e) j=hasV l j:=by unfold hasV;rw[len_ev]
theorem nxt_self {e:Int} (he:1≤e∧e≤5) (s:Int):nxt s e=if s=e then e+1 else 0:=by
 unfold nxt
 rw[if_neg (by omega),if_neg (by omega)]
 by_cases h:s=e
 ·rw[if_pos ⟨he.1,he.2,h⟩,if_pos h,h]
 ·rw[if_neg (by omega),if_neg h]
theorem got_ev {e:Int} (he:1≤e∧e≤5) (l:List V) (i j:Int):gotV (evV l i e) j=if j=i∧hasV l j=true∧(gotV l j).st=e then { gotV l j with st:=e+1 } else gotV l j:=by
 rw[evV_eq,nxt_self he]
 by_cases h:(gotV l i).st=e
 ·rw[if_pos h,if_pos (by omega),yO]
  by_cases h2:hasV l i=true∧j=i
  ·obtain⟨h2,rfl⟩:=h2
   rw[if_pos ⟨h2,rfl⟩,if_pos ⟨rfl,h2,h⟩]
  ·rw[if_neg h2,if_neg (show¬(j=i∧hasV l j=true∧(gotV l j).st=e) from fun hc=>h2 ⟨hc.1 ▸ hc.2.1,hc.1⟩)]
 ·rw[if_neg h,if_neg (by omega),if_neg (show¬(j=i∧hasV l j=true∧(gotV l j).st=e) from fun hc=>h (hc.1 ▸ hc.2.2))]
theorem uN {e:Int} (he:1≤e∧e≤5):∀(is:List Int) (l:List V),(is.foldl (fun l i=>evV l i e) l).length=l.length ∧
  ∀j,gotV (is.foldl (fun l i=>evV l i e) l) j=if j∈is∧hasV l j=true∧(gotV l j).st=e then { gotV l j with st:=e+1 } else gotV l j
 | [],l=>⟨rfl,fun j=>by simp⟩
 | i :: is,l=>by
  obtain⟨h1,h2⟩:=uN he is (evV l i e)
  refine⟨by rw[List.foldl_cons,h1,len_ev],fun j=>?_⟩
  rw[List.foldl_cons,h2 j,has_ev]
  have hg:=got_ev he l i j
  by_cases hj:j=i∧hasV l j=true∧(gotV l j).st=e
  ·rw[if_pos hj] at hg
   rw[hg,if_neg (by rintro⟨_,_,h⟩;simp only at h;omega),if_pos ⟨by simp[hj.1],hj.2⟩]
  ·rw[if_neg hj] at hg
   rw[hg]
   by_cases hm:j∈is∧hasV l j=true∧(gotV l j).st=e
   ·rw[if_pos hm,if_pos ⟨by simp[hm.1],hm.2⟩]
   ·rw[if_neg hm,if_neg]
    rintro⟨h1,h2⟩
    rcases List.mem_cons.1 h1 with h|h
    ·exact hj ⟨h,h2⟩
    ·exact hm ⟨h,h2⟩
theorem putE_in {bo:List En} {e i:Int} (h:0≤e∧e≤1099511627776):putE bo e i=bo++[⟨e,i⟩]:=if_pos (decide_eq_true h)
theorem wd_ev {e:Int} (he:1≤e∧e≤5) (l:List V) (i j:Int):(gotV (evV l i e) j).wd=(gotV l j).wd:=by
 rw[got_ev he];split<;>rfl
theorem rip_hi {e:Int} {l:List V} {bo:List En} {i:Int} (h:e<(gotV l i).wd):ripS e (l,bo) i=(l,putE bo (gotV l i).wd i):=if_pos h
theorem rip_lo {e:Int} {l:List V} {bo:List En} {i:Int} (h:¬e<(gotV l i).wd):ripS e (l,bo) i=(evV l i 4,bo):=if_neg h
theorem pR {e:Int} (he:0≤e):∀(is:List Int) (l:List V) (bo:List En),(∀j,(gotV l j).wd≤1099511627776) →
  (is.foldl (ripS e) (l,bo)).1.length=l.length ∧
  (∀j,gotV (is.foldl (ripS e) (l,bo)).1 j=if j∈is∧hasV l j=true∧(gotV l j).wd≤e∧(gotV l j).st=4 then { gotV l j with st:=5 } else gotV l j) ∧
  (is.foldl (ripS e) (l,bo)).2=bo++(is.filter fun i=>decide (e<(gotV l i).wd)).map fun i=>⟨(gotV l i).wd,i⟩
 | [],l,bo,_=>⟨rfl,fun j=>by simp,by simp⟩
 | i :: is,l,bo,hw=>by
  rw[List.foldl_cons]
  by_cases hi:e<(gotV l i).wd
  ·obtain⟨h1,h2,h3⟩:=pR he is l (putE bo (gotV l i).wd i) hw
   rw[rip_hi hi]
   refine⟨h1,fun j=>?_,?_⟩
   ·rw[h2 j]
    by_cases hj:j=i
    ·subst hj;rw[if_neg (by omega),if_neg (by omega)]
    ·simp[hj]
   ·rw[h3,putE_in ⟨by omega,hw i⟩,List.filter_cons,if_pos (decide_eq_true hi),List.map_cons,List.append_assoc,List.singleton_append]
  ·have hw' : ∀j,(gotV (evV l i 4) j).wd≤1099511627776:=fun j=>by rw[wd_ev (by omega)];exact hw j
   obtain⟨h1,h2,h3⟩:=pR he is (evV l i 4) bo hw'
   rw[rip_lo hi]
   refine⟨by rw[h1,len_ev],fun j=>?_,?_⟩
   ·rw[h2 j,has_ev,wd_ev (by omega)]
    have hg:=got_ev (e:=4) (by omega) l i j
    by_cases hj:j=i∧hasV l j=true∧(gotV l j).st=4
    ·rw[if_pos hj] at hg
     rw[hg,if_neg (by rintro⟨_,_,_,h⟩;simp at h),if_pos ⟨by simp[hj.1],hj.2.1,by rw[hj.1];omega,hj.2.2⟩];rfl
    ·rw[if_neg hj] at hg
     rw[hg]
     by_cases hm:j∈is∧hasV l j=true∧(gotV l j).wd≤e∧(gotV l j).st=4
     ·rw[if_pos hm,if_pos ⟨by simp[hm.1],hm.2⟩]
     ·rw[if_neg hm,if_neg]
      rintro⟨h1,h2,h3,h4⟩
      rcases List.mem_cons.1 h1 with h|h
      ·exact hj ⟨h,h2,h4⟩
      ·exact hm ⟨h,h2,h3,h4⟩
   ·rw[h3,List.filter_cons,if_neg (by simpa using hi)]
    simp only[wd_ev (show(1:Int)≤4∧(4:Int)≤5 by omega)]
theorem got_has {l:List V} {i:Int} (h:hasV l i=true):gotV l i∈l:=by
 obtain⟨k,rfl,hk⟩:=xY h
 rw[yT hk];exact List.getElem_mem hk
theorem wN {l:List V} {v:V} (h:v∈l):∃i,hasV l i=true∧gotV l i=v:=by
 obtain⟨k,hk,rfl⟩:=List.getElem_of_mem h
 exact⟨k,hasV_of hk,yT hk⟩
theorem all_got {p:V→Prop} {l:List V}:(∀v∈l,p v)↔∀i,hasV l i=true→p (gotV l i) :=
 ⟨fun h i hi=>h _ (got_has hi),fun h v hv=>by obtain⟨i,hi,rfl⟩:=wN hv;exact h i hi⟩
theorem got_no {l:List V} {i:Int} (h:hasV l i=false):(gotV l i).st=0:=by rw[vK h];rfl
theorem yM {l:List V} {i:Int} (h:(gotV l i).st≠0):hasV l i=true:=by
 rcases Bool.eq_false_or_eq_true (hasV l i) with h1|h1
 ·exact h1
 ·exact absurd (got_no h1) h
theorem xK {l l' : List V} (h:l'.length=l.length) (i:Int):hasV l' i=hasV l i:=by unfold hasV;rw[h]
structure VO (v:V):Prop where
 b:0≤v.bal
 s:1≤v.st∧v.st≤7
 r:-1≤v.rq∧v.rq≤1099511627776
 x:-1≤v.ex∧v.ex≤1099511627776
 w:-1≤v.wd∧v.wd≤1099511627776
 d:-1≤v.dl∧v.dl≤1099511627776
structure Sm (l l' : List V):Prop where
 st:∀i,3≤(gotV l' i).st→(gotV l' i).st≤5→gotV l i=gotV l' i
 ts:∀i,(gotV l i).st=3∨(gotV l i).st=4→gotV l' i=gotV l i
 nx:∀i,(gotV l' i).st=1∨(gotV l' i).st=2→(gotV l' i).ex=-1∨((gotV l i).st=1∨(gotV l i).st=2)∧(gotV l' i).ex=(gotV l i).ex
structure InvE (ep:Int) (l:List V) (q:LL) (bo:List En) (lv:List Int):Prop where
 lnd:(q.f++q.v).Nodup
 lan:∀i,i∈q.f++q.v↔(gotV l i).st=3∧(gotV l i).ex=-1
 vnd:lv.Nodup
 lvs:∀i,i∈lv↔(gotV l i).st=3∧(gotV l i).ex≠-1
 lex:∀i∈lv,(gotV l i).ex=ep+1
 bnd:(bo.map En.i).Nodup
 bon:∀i,i∈bo.map En.i↔(gotV l i).st=4∨(gotV l i).st=3∧(gotV l i).ex≠-1
 bep:∀x∈bo,ep+1≤x.e∧x.e≤(gotV l x.i).wd∧((gotV l x.i).st=3→ep+2≤x.e)
 nex:∀i,(gotV l i).st=1∨(gotV l i).st=2→(gotV l i).ex=-1
 rdy:∀i,(gotV l i).st=5→(gotV l i).wd≤ep
theorem Sm.iff {l l' : List V} (h:Sm l l') (p:V→Prop) (i:Int) (n:Int) (hn:n=3∨n=4):((gotV l' i).st=n∧p (gotV l' i))↔((gotV l i).st=n∧p (gotV l i)):=by
 constructor
 ·rintro⟨h1,h2⟩
  rw[h.st i (by omega) (by omega)];exact⟨h1,h2⟩
 ·rintro⟨h1,h2⟩
  rw[h.ts i (by omega)];exact⟨h1,h2⟩
theorem Sm.iff1 {l l' : List V} (h:Sm l l') (i:Int) (n:Int) (hn:n=3∨n=4):(gotV l' i).st=n↔(gotV l i).st=n:=by
 have:=h.iff (fun _=>True) i n hn;simpa using this
theorem InvE.sm {ep:Int} {l l' : List V} {q:LL} {bo:List En} {lv:List Int} (h:InvE ep l q bo lv) (hs:Sm l l'):InvE ep l' q bo lv:=by
 have h3:∀i,(gotV l i).st=3∨(gotV l i).st=4→gotV l' i=gotV l i:=hs.ts
 refine⟨h.lnd,fun i=>?_,h.vnd,fun i=>?_,fun i hi=>?_,h.bnd,fun i=>?_,fun x hx=>?_,fun i hi=>?_,fun i hi=>?_⟩
 ·rw[h.lan i,hs.iff (fun v=>v.ex=-1) i 3 (.inl rfl)]
 ·rw[h.lvs i,hs.iff (fun v=>v.ex≠-1) i 3 (.inl rfl)]
 ·rw[h3 i (.inl ((h.lvs i).1 hi).1)];exact h.lex i hi
 ·rw[h.bon i,hs.iff (fun v=>v.ex≠-1) i 3 (.inl rfl),hs.iff1 i 4 (.inr rfl)]
 ·have h4:=(h.bon x.i).1 (List.mem_map.2 ⟨x,hx,rfl⟩)
  rw[h3 x.i (by rcases h4 with h4|h4;exact .inr h4;exact .inl h4.1)];exact h.bep x hx
 ·rcases hs.nx i hi with h4|⟨h4,h5⟩
  ·exact h4
  ·rw[h5];exact h.nex i h4
 ·rw[←hs.st i (by omega) (by omega)]
  exact h.rdy i (by rw[hs.st i (by omega) (by omega)];exact hi)
theorem Sm.of {l l' : List V} (h:∀j,gotV l' j=gotV l j∨((gotV l j).st≠3∧(gotV l j).st≠4∧(gotV l' j).st≠3∧(gotV l' j).st≠4∧(gotV l' j).st≠5∧((gotV l' j).st=1∨(gotV l' j).st=2→(gotV l' j).ex=-1∨((gotV l j).st=1∨(gotV l j).st=2)∧(gotV l' j).ex=(gotV l j).ex))):Sm l l' := by
 refine⟨fun i h1 h2=>?_,fun i h1=>?_,fun i h1=>?_⟩
 ·rcases h i with h3|h3
  ·exact h3.symm
  ·omega
 ·rcases h i with h3|h3
  ·exact h3
  ·omega
 ·rcases h i with h3|h3
  ·exact .inr ⟨by rw[←h3];exact h1,by rw[h3]⟩
  ·exact h3.2.2.2.2.2 h1
theorem qT (l:List V) (v:V) (j:Int):gotV (l++[v]) j=if j=(l.length:Int) then v else gotV l j:=by
 unfold gotV
 by_cases hj:0≤j
 ·rw[if_pos hj,if_pos hj]
  obtain⟨k,rfl⟩:∃k:Nat,j=k:=⟨j.toNat,by omega⟩
  simp only[Int.toNat_natCast]
  by_cases hk:k<l.length
  ·rw[List.getElem?_append_left hk,if_neg (by omega)]
  ·rw[List.getElem?_append_right (by omega)]
   by_cases hk2:k=l.length
   ·subst hk2;simp
   ·rw[if_neg (by omega),List.getElem?_eq_none (by simp;omega),List.getElem?_eq_none (by omega)]
 ·rw[if_neg hj,if_neg hj,if_neg (by omega)]
theorem Sm.app {l:List V} {v:V} (h:v.st=1) (hx:v.ex=-1):Sm l (l++[v]):=Sm.of fun j=>by
 rw[qT]
 split
 ·rename_i e
  have h0:(gotV l j).st=0:=got_no (by rw[e];exact decide_eq_false (by omega))
  right
  refine⟨by omega,by omega,by omega,by omega,by omega,fun _=>.inl hx⟩
 ·exact .inl rfl
theorem rZ {l:List V} {i:Int} {v:V} (h:v.bal=(gotV l i).bal):bals (setV l i v)=bals l:=by
 unfold setV
 split
 ·rename_i hh
  obtain⟨k,rfl,hk⟩:=xY hh
  rw[yT hk] at h
  simp only[Int.toNat_natCast,bals,List.map_set,h]
  apply List.ext_getElem?
  intro j
  rw[List.getElem?_set]
  split
  ·rename_i hj;subst hj;simp[hk]
  ·rfl
 ·rfl
theorem vC (l:List V) (i:Int) (v:V) (h:hasV l i=true):(bals (setV l i v)).sum=(bals l).sum-(gotV l i).bal+v.bal:=by
 obtain⟨k,rfl,hk⟩:=xY h
 unfold setV
 rw[if_pos h,yT hk]
 exact sum_set hk v
theorem bals_ev (l:List V) (i e:Int):bals (evV l i e)=bals l:=by
 rw[evV_eq]
 split
 ·exact rZ rfl
 ·rfl
theorem xU (e:Int):∀(is:List Int) (l:List V),bals (is.foldl (fun l i=>evV l i e) l)=bals l
 | [],_=>rfl
 | i :: is,l=>by rw[List.foldl_cons,xU e is,bals_ev]
theorem rI (e:Int):∀(is:List Int) (s:List V × List En),bals (is.foldl (ripS e) s).1=bals s.1
 | [],_=>rfl
 | i :: is,s=>by
  rw[List.foldl_cons,rI e is]
  unfold ripS
  split
  ·rfl
  ·exact bals_ev _ _ _
structure Mid (e d:Int) (l:List V) (q:LL) (bo:List En):Prop where
 lnd:(q.f++q.v).Nodup
 lan:∀i,i∈q.f++q.v↔(gotV l i).st=3
 lax:∀i,(gotV l i).st=3→(gotV l i).ex=-1
 bnd:(bo.map En.i).Nodup
 bon:∀i,i∈bo.map En.i↔(gotV l i).st=4
 bep:∀x∈bo,d≤x.e∧x.e≤(gotV l x.i).wd
 nex:∀i,(gotV l i).st=1∨(gotV l i).st=2→(gotV l i).ex=-1
 rdy:∀i,(gotV l i).st=5→(gotV l i).wd≤e
theorem vI {e:Int} (he:1≤e∧e≤5) (is:List Int) (l:List V) (j:Int) :
  gotV (is.foldl (fun l i=>evV l i e) l) j=if j∈is∧(gotV l j).st=e then { gotV l j with st:=e+1 } else gotV l j:=by
 rw[(uN he is l).2 j]
 by_cases h:(gotV l j).st=e
 ·have hh:hasV l j=true:=yM (by omega)
  simp[hh]
 ·simp[h]
theorem InvE.mid {e:Int} {l:List V} {q:LL} {bo:List En} {lv:List Int} (h:InvE (e-1) l q bo lv):Mid e e (lv.foldl (fun l i=>evV l i 3) l) q bo:=by
 have g:=vI (e:=3) (by omega) lv l
 have g3:∀j,(gotV l j).st=3→(gotV l j).ex≠-1→gotV (lv.foldl (fun l i=>evV l i 3) l) j={ gotV l j with st:=4 }:=fun j h1 h2=>by rw[g j,if_pos ⟨(h.lvs j).2 ⟨h1,h2⟩,h1⟩];rfl
 have g0:∀j,¬((gotV l j).st=3∧(gotV l j).ex≠-1)→gotV (lv.foldl (fun l i=>evV l i 3) l) j=gotV l j:=fun j h1=>by rw[g j,if_neg (fun hc=>h1 ((h.lvs j).1 hc.1))]
 refine⟨h.lnd,fun i=>?_,fun i hi=>?_,h.bnd,fun i=>?_,fun x hx=>?_,fun i hi=>?_,fun i hi=>?_⟩
 ·rw[h.lan i]
  by_cases hc:(gotV l i).st=3∧(gotV l i).ex≠-1
  ·rw[g3 i hc.1 hc.2];simp[hc]
  ·rw[g0 i hc]
   constructor
   ·exact fun h1=>h1.1
   ·exact fun h1=>⟨h1,Classical.byContradiction fun h2=>hc ⟨h1,h2⟩⟩
 ·by_cases hc:(gotV l i).st=3∧(gotV l i).ex≠-1
  ·rw[g3 i hc.1 hc.2] at hi;simp at hi
  ·rw[g0 i hc] at hi ⊢
   exact Classical.byContradiction fun h2=>hc ⟨hi,h2⟩
 ·rw[h.bon i]
  by_cases hc:(gotV l i).st=3∧(gotV l i).ex≠-1
  ·rw[g3 i hc.1 hc.2];simp[hc]
  ·rw[g0 i hc]
   constructor
   ·rintro(h1|h1)
    ·exact h1
    ·exact absurd h1 hc
   ·exact .inl
 ·obtain⟨h1,h2,h3⟩:=h.bep x hx
  by_cases hc:(gotV l x.i).st=3∧(gotV l x.i).ex≠-1
  ·rw[g3 x.i hc.1 hc.2];exact⟨by have:=h3 hc.1;omega,h2⟩
  ·rw[g0 x.i hc];exact⟨by omega,h2⟩
 ·by_cases hc:(gotV l i).st=3∧(gotV l i).ex≠-1
  ·rw[g3 i hc.1 hc.2] at hi;simp at hi
  ·rw[g0 i hc] at hi ⊢;exact h.nex i hi
 ·by_cases hc:(gotV l i).st=3∧(gotV l i).ex≠-1
  ·rw[g3 i hc.1 hc.2] at hi;simp at hi
  ·rw[g0 i hc] at hi ⊢
   have:=h.rdy i hi;omega
theorem due_mem {e:Int} {bo:List En} {j:Int}:j∈dueO e bo↔∃x∈bo,x.e=e∧x.i=j:=by
 simp only[dueO,List.mem_map,List.mem_filter,decide_eq_true_eq]
 constructor
 ·rintro⟨x,⟨h1,h2⟩,h3⟩;exact⟨x,h1,h2,h3⟩
 ·rintro⟨x,h1,h2,h3⟩;exact⟨x,⟨h1,h2⟩,h3⟩
theorem keep_mem {e:Int} {bo:List En} {x:En}:x∈keepE e bo↔x∈bo∧x.e≠e:=by simp[keepE]
structure Rip (e:Int) (l l' : List V) (bo:List En):Prop where
 len:l'.length=l.length
 got:∀j,gotV l' j=if j∈dueO e bo∧(gotV l j).wd≤e∧(gotV l j).st=4 then { gotV l j with st:=5 } else gotV l j
theorem Mid.rip {e:Int} (he:0≤e) {l:List V} {q:LL} {bo:List En} (h:Mid e e l q bo) (hw:∀j,(gotV l j).wd≤1099511627776) :
  Rip e l (ripE e (l,bo)).1 bo∧Mid e (e+1) (ripE e (l,bo)).1 q (ripE e (l,bo)).2:=by
 obtain⟨h1,h2,h3⟩:=pR he (dueO e bo) l (keepE e bo) hw
 have g:∀j,gotV (ripE e (l,bo)).1 j=if j∈dueO e bo∧(gotV l j).wd≤e∧(gotV l j).st=4 then { gotV l j with st:=5 } else gotV l j:=fun j=>by
  show gotV ((dueO e bo).foldl (ripS e) (l,keepE e bo)).1 j=_
  rw[h2 j]
  by_cases h4:(gotV l j).st=4
  ·have hh:hasV l j=true:=yM (by omega)
   simp[hh,h4]
  ·simp[h4]
 have hb:(ripE e (l,bo)).2=keepE e bo++((dueO e bo).filter fun i=>decide (e<(gotV l i).wd)).map fun i=>⟨(gotV l i).wd,i⟩:=h3
 have hmap:((ripE e (l,bo)).2).map En.i=(keepE e bo).map En.i++(dueO e bo).filter fun i=>decide (e<(gotV l i).wd):=by
  rw[hb,List.map_append,List.map_map]
  congr 1
  have:(En.i ∘ fun i=>(⟨(gotV l i).wd,i⟩:En))=id:=rfl
  rw[this,List.map_id]
 have gst:∀j,(gotV (ripE e (l,bo)).1 j).st≠4→(gotV (ripE e (l,bo)).1 j).st≠5→gotV (ripE e (l,bo)).1 j=gotV l j:=fun j h4 h5=>by
  rw[g j] at h4 h5 ⊢
  split at h4<;>simp_all
 have ge4:∀j,(gotV l j).st≠4→gotV (ripE e (l,bo)).1 j=gotV l j:=fun j h4=>by
  rw[g j,if_neg (fun hc=>h4 hc.2.2)]
 have uniq:∀x∈bo,∀y∈bo,x.i=y.i→x=y:=fun x hx y hy hxy=>by
  obtain⟨a,ha,rfl⟩:=List.getElem_of_mem hx
  obtain⟨b,hb,rfl⟩:=List.getElem_of_mem hy
  have hn:=List.pairwise_iff_getElem.1 h.bnd
  rcases Nat.lt_trichotomy a b with hlt|heq|hlt
  ·exact absurd (by rw[List.getElem_map,List.getElem_map];exact hxy) (hn a b (by simpa using ha) (by simpa using hb) hlt)
  ·subst heq;rfl
  ·exact absurd (by rw[List.getElem_map,List.getElem_map];exact hxy.symm) (hn b a (by simpa using hb) (by simpa using ha) hlt)
 have mem4:∀i,i∈(ripE e (l,bo)).2.map En.i↔(gotV (ripE e (l,bo)).1 i).st=4:=fun i=>by
  rw[hmap,List.mem_append]
  constructor
  ·rintro(h4|h4)
   ·obtain⟨x,hx,rfl⟩:=List.mem_map.1 h4
    obtain⟨hx1,hx2⟩:=keep_mem.1 hx
    have h5:(gotV l x.i).st=4:=(h.bon x.i).1 (List.mem_map.2 ⟨x,hx1,rfl⟩)
    rw[g x.i,if_neg]
    ·exact h5
    ·rintro⟨hc,_,_⟩
     obtain⟨y,hy,hye,hyi⟩:=due_mem.1 hc
     have:=uniq y hy x hx1 hyi
     subst this;exact hx2 hye
   ·obtain⟨h5,h6⟩:=List.mem_filter.1 h4
    have h6:=of_decide_eq_true h6
    obtain⟨y,hy,hye,rfl⟩:=due_mem.1 h5
    have h7:(gotV l y.i).st=4:=(h.bon y.i).1 (List.mem_map.2 ⟨y,hy,rfl⟩)
    rw[g y.i,if_neg (by omega)];exact h7
  ·intro h4
   have h5:(gotV l i).st=4:=by
    rw[g i] at h4
    split at h4
    ·simp at h4
    ·exact h4
   obtain⟨x,hx,rfl⟩:=List.mem_map.1 ((h.bon i).2 h5)
   by_cases hxe:x.e=e
   ·right
    refine List.mem_filter.2 ⟨due_mem.2 ⟨x,hx,hxe,rfl⟩,decide_eq_true ?_⟩
    refine Classical.byContradiction fun hc=>?_
    rw[g x.i,if_pos ⟨due_mem.2 ⟨x,hx,hxe,rfl⟩,by omega,h5⟩] at h4
    simp at h4
   ·exact .inl (List.mem_map.2 ⟨x,keep_mem.2 ⟨hx,hxe⟩,rfl⟩)
 refine⟨⟨h1,g⟩,h.lnd,fun i=>?_,fun i hi=>?_,?_,mem4,fun x hx=>?_,fun i hi=>?_,fun i hi=>?_⟩
 ·rw[h.lan i]
  constructor
  ·intro h4;rw[ge4 i (by omega)];exact h4
  ·intro h4;rw[gst i (by omega) (by omega)] at h4;exact h4
 ·have hg:=gst i (by omega) (by omega)
  rw[hg] at hi ⊢;exact h.lax i hi
 ·rw[hmap]
  have hd:(dueO e bo).Nodup:=by
   unfold dueO
   exact(List.filter_sublist.map En.i).nodup h.bnd
  have hk:((keepE e bo).map En.i).Nodup:=(List.filter_sublist.map En.i).nodup h.bnd
  refine List.nodup_append.2 ⟨hk,List.filter_sublist.nodup hd,fun a ha b hb hab=>?_⟩
  obtain⟨x,hx,rfl⟩:=List.mem_map.1 ha
  obtain⟨y,hy,hye,hyi⟩:=due_mem.1 (List.mem_filter.1 hb).1
  have:=uniq x (keep_mem.1 hx).1 y hy (hab.trans hyi.symm)
  subst this
  exact(keep_mem.1 hx).2 hye
 ·have h4:=(mem4 x.i).1 (List.mem_map.2 ⟨x,hx,rfl⟩)
  have h5:gotV (ripE e (l,bo)).1 x.i=gotV l x.i:=by
   rw[g x.i] at h4 ⊢
   split at h4
   ·simp at h4
   ·rename_i hc;rw[if_neg hc]
  rw[h5]
  rw[hb] at hx
  rcases List.mem_append.1 hx with hx|hx
  ·obtain⟨hx1,hx2⟩:=keep_mem.1 hx
   have:=h.bep x hx1
   omega
  ·obtain⟨i,hi,rfl⟩:=List.mem_map.1 hx
   have:=of_decide_eq_true (List.mem_filter.1 hi).2
   exact⟨by show e+1≤(gotV l i).wd;omega,Int.le_refl _⟩
 ·have hg:=gst i (by omega) (by omega)
  rw[hg] at hi ⊢;exact h.nex i hi
 ·rw[g i] at hi ⊢
  split
  ·rename_i hc;exact hc.2.1
  ·rename_i hc;rw[if_neg hc] at hi;exact h.rdy i hi
end Go.Proofs.YtdddiilocbbkkaaGreat
