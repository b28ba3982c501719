/- TopDrains: for every configuration and all operations the law returns true. No condition. Part 26 of 28. -/
import Derived.Test.YtdddiilocbbkkaaGreatTD25
set_option linter.unusedVariables false
set_option linter.unusedSimpArgs false
namespace Go.Proofs.YtdddiilocbbkkaaGreat
open Go.RowKit Go.Eg
set_option maxHeartbeats 4000000
set_option synthInstance.maxSize 3000
set_option maxRecDepth 100000
structure HR where
 k:Int
 b:Nat
 x0:Int
 x1:Int
 x2:Int
 x3:Int
 x4:Int
 x5:Int
 x6:Int
 rd:Bool
 pA:Option Addr
 pc:Nat
 ps:List Y
 f0:Bool
 f1:Bool
 f2:Bool
def HR.c (r:HR):List Value:=[.int .i64 r.x0,.int .i64 r.x1,.int .i64 r.x2,.int .i64 r.x3,.int .i64 r.x4,.int .i64 r.x5,.int .u64 r.x6,.bool r.rd,.slice r.pA r.ps.length r.pc,.bool r.f0,.bool r.f1,.bool r.f2]
abbrev HR.rows (r:HR):List Res:=[Res.blk r.b 248 r.c,Res.row r.pA r.ps.length r.pc 50 3 (r.ps.map Y.c)]
abbrev HR.res (r:HR):Res:=.star (HR.rows r)
def HR.kv (r:HR):Value × Value:=(.int .i64 r.k,.pointer (some ⟨r.b,0,none⟩))
def hnew (i:Int) (b:Nat):HR:=⟨i,b,0,0,0,-1,-1,-1,0,false,none,0,[],false,false,false⟩
structure HOk (B:Nat) (rs:List HR):Prop where
 key:∀r∈rs,(Lit.int .i64 r.k).wf=true
 nd:(rs.map HR.k).Nodup
 len:∀r∈rs,r.ps.length≤B
theorem HOk.mono {B C:Nat} {rs:List HR} (h:HOk B rs) (hb:B≤C):HOk C rs:=⟨h.key,h.nd,fun r hr=>Nat.le_trans (h.len r hr) hb⟩
theorem rE {B:Nat} {rs:List HR} (h:HOk B rs):∀p∈rs.map HR.kv,Key Tryz.prog 3 p.1:=fun p hp=>by
 obtain⟨r,hr,rfl⟩:=List.mem_map.1 hp;exact keyI (by kernel_rfl) (h.key r hr)
theorem kv_uniq {B:Nat} {rs:List HR} (h:HOk B rs) {r:HR} (hr:r∈rs) {i:Int} (hk:r.k=i):∀p∈rs.map HR.kv,p.1=.int .i64 i→p.2=.pointer (some ⟨r.b,0,none⟩):=fun p hp hc=>by
 obtain⟨q,hq,rfl⟩:=List.mem_map.1 hp
 have h1:q.k=i:=by simpa[HR.kv] using hc
 have h2:=h.nd
 have:q=r:=by
  clear hp hc
  induction rs with
  | nil=>cases hq
  | cons a rs ih =>
   rw[List.map_cons,List.nodup_cons] at h2
   rcases List.mem_cons.1 hq with rfl|hq2<;>rcases List.mem_cons.1 hr with rfl|hr2
   ·rfl
   ·exact absurd (List.mem_map.2 ⟨r,hr2,hk.trans h1.symm⟩) h2.1
   ·exact absurd (List.mem_map.2 ⟨q,hq2,h1.trans hk.symm⟩) h2.1
   ·exact ih ⟨fun x hx=>h.key x (by simp[hx]),h2.2,fun x hx=>h.len x (by simp[hx])⟩ hr2 hq2 h2.2
 rw[this];rfl
theorem kv_mem {rs:List HR} {r:HR} (hr:r∈rs) {i:Int} (hk:r.k=i):(Value.int .i64 i,Value.pointer (some ⟨r.b,0,none⟩))∈rs.map HR.kv:=List.mem_map.2 ⟨r,hr,by unfold HR.kv;rw[hk]⟩
theorem kv_no {rs:List HR} {i:Int} (h:¬∃r∈rs,r.k=i):∀p∈rs.map HR.kv,p.1 ≠ .int .i64 i:=fun p hp hc=>by
 obtain⟨q,hq,rfl⟩:=List.mem_map.1 hp
 exact h ⟨q,hq,by simpa[HR.kv] using hc⟩
theorem HOk.new {B:Nat} {rs:List HR} (h:HOk B rs) {i:Int} {b:Nat} (hi:(Lit.int .i64 i).wf=true) (hno:¬∃r∈rs,r.k=i):HOk B (rs++[hnew i b]) :=
 ⟨fun r hr=>by
  rcases List.mem_append.1 hr with hr|hr
  ·exact h.key r hr
  ·simp at hr;subst hr;exact hi,by
  rw[List.map_append,List.nodup_append]
  refine⟨h.nd,by simp,fun x hx y hy hxy=>?_⟩
  obtain⟨r,hr,rfl⟩:=List.mem_map.1 hx
  simp[hnew] at hy
  exact hno ⟨r,hr,by omega⟩,fun r hr=>by
  rcases List.mem_append.1 hr with hr|hr
  ·exact h.len r hr
  ·simp at hr;subst hr;simp[hnew]⟩
theorem HOk.set {B C:Nat} {a c:List HR} {r r2:HR} (h:HOk B (a++r :: c)) (hk:r2.k=r.k) (hl:r2.ps.length≤C) (hb:B≤C):HOk C (a++r2 :: c):=by
 refine⟨fun x hx=>?_,?_,fun x hx=>?_⟩
 ·simp only[List.mem_append,List.mem_cons] at hx
  rcases hx with hx|rfl|hx
  ·exact h.key x (by simp[hx])
  ·rw[hk];exact h.key r (by simp)
  ·exact h.key x (by simp[hx])
 ·have:=h.nd
  simp only[List.map_append,List.map_cons] at this ⊢
  rw[hk];exact this
 ·simp only[List.mem_append,List.mem_cons] at hx
  rcases hx with hx|rfl|hx
  ·exact Nat.le_trans (h.len x (by simp[hx])) hb
  ·exact hl
  ·exact Nat.le_trans (h.len x (by simp[hx])) hb
theorem xP (a c:List HR) (r:HR):((a++r :: c).map HR.res).Perm (HR.res r :: (a++c).map HR.res):=by
 simp only[List.map_append,List.map_cons];exact List.perm_middle
theorem hr_kv (a c:List HR) {r r2:HR} (hk:r2.k=r.k) (hb:r2.b=r.b):(a++r :: c).map HR.kv=(a++r2 :: c).map HR.kv:=by
 simp only[List.map_append,List.map_cons,HR.kv];rw[hk,hb]
theorem qS (B lb mb:Nat) (cs:List Value) (rs:List HR) (i:Int) (w:World) (hw:W0 [Res.blk lb 242 (.map (some mb) :: cs),Res.mp mb ((rs).map HR.kv),Res.star ((rs).map HR.res)] w) (hO:HOk B rs) (hwf:(Lit.int .i64 i).wf=true):Own2 (ι:=(List HR × HR)) Tryz.prog 134 [.pointer (some ⟨lb,0,none⟩),.int .i64 i] w [Res.blk lb 242 (.map (some mb) :: cs),Res.mp mb ((rs).map HR.kv),Res.star ((rs).map HR.res)] (fun x=>HOk B x.1∧x.2∈x.1) (fun x=>.pointer (some ⟨x.2.b,0,none⟩)) (fun x=>[]) (fun x=>[Res.blk lb 242 (.map (some mb) :: cs),Res.mp mb ((x.1).map HR.kv),Res.star ((x.1).map HR.res)]):=by
 refine g_st Tryz.func134 26 hw ?_
 refine rn [1,3,0,8,8] ?_
 by_cases hk:∃r∈rs,r.k=i
 ·obtain⟨r,hr,hrk⟩:=hk
  refine rn [10,2,6,4,5,2] ?_
  refine s_q (xS (D:=rs.map HR.kv) (v:=.pointer (some ⟨r.b,0,none⟩)) rfl rfl (keyI (by kernel_rfl) hwf) (rE hO) (kv_mem hr hrk) (kv_uniq hO hr hrk)) rfl ?_
  refine rn [50,0,20,12,7,1,2,6,4,5,2] ?_
  refine s_q (xS (D:=rs.map HR.kv) (v:=.pointer (some ⟨r.b,0,none⟩)) rfl rfl (keyI (by kernel_rfl) hwf) (rE hO) (kv_mem hr hrk) (kv_uniq hO hr hrk)) rfl ?_
  refine rn [3,0,11] ?_
  exact fin1 rfl (.tmp rfl) (fun w' hw' => ⟨(rs,r),(by exact⟨hO,hr⟩),by first|rfl|(simp_all;done),zA w' hw'⟩) _ (.inl rfl)
 ·have hO2:∀b,HOk B (rs++[hnew i b]):=fun b=>hO.new hwf hk
  refine rn [10,2,6,4,5,2] ?_
  refine s_q (q_look1_f (D:=rs.map HR.kv) (z:=.pointer none) rfl rfl (keyI (by kernel_rfl) hwf) (rE hO) (kv_no hk) (zv (by kernel_rfl))) rfl ?_
  refine rn [61,0,19,10,2,6,4,5,2,49,49] ?_
  refine g_op (g_box rfl rfl rfl fun b19=>?_)
  refine zF (b:=b19) (HR.c (hnew i b19)) (by rfl) ?_
  refine g_op (g_mapNew (D:=rs.map HR.kv) rfl rfl rfl (keyI (by kernel_rfl) hwf) (rE hO) (kv_no hk) ?_)
  replace hO2:=hO2 b19
  refine xN (Res.mp mb (rs.map HR.kv++[(.int .i64 i,.pointer (some ⟨b19,0,none⟩))])) (Res.mp mb ((rs++[hnew i b19]).map HR.kv)) (by rw[List.map_append];rfl) ?_
  refine wP none 50 3 ?_
  refine xZ [Res.blk b19 248 (HR.c (hnew i b19)),Res.row none 0 0 50 3 []] ?_
  refine yV (r:=Res.star [Res.blk b19 248 (HR.c (hnew i b19)),Res.row none 0 0 50 3 []]) (rest:=rs.map HR.res) (Ls:=(rs++[hnew i b19]).map HR.res) (by rw[List.map_append];exact(List.perm_append_singleton (HR.res (hnew i b19)) _).symm) ?_
  refine rn [0,1,2,6,4,5,2] ?_
  refine s_q (xS (D:=(rs++[hnew i b19]).map HR.kv) (v:=.pointer (some ⟨b19,0,none⟩)) rfl rfl (keyI (by kernel_rfl) hwf) (rE hO2) (kv_mem (r:=hnew i b19) (by simp) rfl) (kv_uniq (r:=hnew i b19) hO2 (by simp) rfl)) rfl ?_
  refine rn [3,0,11] ?_
  exact fin1 rfl (.tmp rfl) (fun w' hw' => ⟨(rs++[hnew i b19],hnew i b19),(by(try dsimp only);exact⟨hO2,by simp⟩),rfl,zA w' hw'⟩) _ (.inl rfl)
theorem hpay_any (B lb mb:Nat) (cs:List Value) (rs:List HR) (p:Y) (e:Int) (w:World) (hw:W0 [Res.blk lb 242 (.map (some mb) :: cs),Res.mp mb ((rs).map HR.kv),Res.star ((rs).map HR.res)] w) (hO:HOk B rs) (hwf:(Lit.int .i64 p.i).wf=true) (hB:B≤1000000000):Own2 (ι:=(List HR)) Tryz.prog 135 [.pointer (some ⟨lb,0,none⟩),.agg (Y.c p).toArray,.int .i64 e] w [Res.blk lb 242 (.map (some mb) :: cs),Res.mp mb ((rs).map HR.kv),Res.star ((rs).map HR.res)] (fun x=>HOk (B+1) x) (fun x=>.tuple #[]) (fun x=>[]) (fun x=>[Res.blk lb 242 (.map (some mb) :: cs),Res.mp mb ((x).map HR.kv),Res.star ((x).map HR.res)]):=by
 refine g_st Tryz.func135 44 hw ?_
 refine rn [1] ?_
 refine g_op (g_box rfl rfl rfl fun b4=>?_)
 refine rn [0,1,2,4,5] ?_
 refine g_op (zG _ rfl (fun w1 hw1 ho1=>by have h7:=qS B lb mb (cs) (rs) (p.i) w1 ho1 hO hwf;exact h7) rfl ?_)
 rintro⟨hs10,r10⟩ ⟨hO10,hr10⟩
 refine ii ?_
 replace hO10:HOk B hs10:=hO10
 replace hr10:r10∈hs10:=hr10
 obtain⟨a10,c10,hhs10⟩:=List.append_of_mem hr10
 subst hhs10
 have hl10:=hO10.len r10 (by simp)
 refine vF (r:=HR.res r10) (rest:=(a10++c10).map HR.res) (xP a10 c10 r10) ?_
 refine g_open (HR.rows r10) ?_
 refine rn [3,0,8] ?_
 refine dregL (L0:=[Res.blk b4 50 (Y.c p),Res.blk r10.b 248 r10.c]) [10] mixed rfl zB ?_
 refine rn [23,0,2,23,1,2,23,2,6,23,3,4,23,4,5,23,5,45] ?_
 refine dop 6 rfl (g_lit rfl rfl rfl rfl rfl fun b17=>?_)
 refine zF (b:=b17) ((([p]:List Y).map Y.c).flatten) rfl ?_
 refine dop 7 rfl (zZ (A:=r10.pA) (els:=(r10.ps).map Y.c) (news:=(([p]:List Y).map Y.c)) rfl rfl (InL.rdb (b:=b17) rfl (by simp[Y.c]) rfl) (yF (c:=Y.c) (by intro x;simp[Y.c,Value.oneCell']) _) (by first|omega|(simp;omega)|(simp_all;omega)) rfl fun A18 cap18=>⟨_,inferInstance,?_⟩)
 refine zH (A:=A18) (((r10.ps++[p])).map Y.c) (by first|rfl|exact List.map_append.symm|(simp;done)) ?_
 refine rn [24,8,6,23,9,4] ?_
 refine dop 10 rfl (zJ rfl rfl rfl rfl rfl rfl rfl ?_)
 refine yB (A:=A18) (r10.ps++[p]).length (by simp) ?_
 refine zF (b:=r10.b) (HR.c ({ r10 with pA:=A18,pc:=cap18,ps:=r10.ps++[p] }:HR)) (by simp[HR.c,splice]) ?_
 refine rn [28,7,1,4,5,2] ?_
 refine zU 23 rfl (fun h1=>?_) (fun h1=>?_)
 ·refine rn [22,2,22,6,22,4,22,5,22,48,41,0] ?_
  refine zC rfl (fun h2=>?_) (fun h2=>?_)
  ·refine rn [1,2,6,4] ?_
   refine g_op (zJ rfl rfl rfl rfl rfl rfl rfl ?_)
   refine zF (b:=r10.b) (HR.c ({ r10 with pA:=A18,pc:=cap18,ps:=r10.ps++[p],f2:=true }:HR)) (by rfl) ?_
   refine rn [0] ?_
   refine dreg [4,8,12] mixed rfl ?_
   refine rn [24,0,2,24,1,2,24,2,2,24,3,4,24,5,6,24,6,4,24,7,4] ?_
   refine dj [] (fun(x:Unit)=>[]) (fun(x:Unit)=>[Res.blk r10.b 248 (HR.c ({ r10 with pA:=A18,pc:=cap18,ps:=r10.ps++[p],f2:=true,x5:=e,x6:=p.a }:HR)),Res.row A18 (r10.ps++[p]).length cap18 50 3 ((r10.ps++[p]).map Y.c),Res.blk lb 242 (.map (some mb) :: cs),Res.mp mb ((a10++r10 :: c10).map HR.kv),Res.star ((a10++c10).map HR.res)]) ?_ ?_
   ·refine yG [4,8] (by kernel_rfl) (by simp) zB ⟨dpick rfl (G.quiet (yY rfl rfl) rfl ?_),dpick rfl (zJ rfl rfl rfl rfl rfl rfl rfl ?_),trivial⟩
    ·refine dtail 8 rfl (zJ rfl rfl rfl rfl rfl rfl rfl ?_)
     refine rn [24,9,6,24,10,4,24,11,4] ?_
     refine dtail 12 rfl (zJ rfl rfl rfl rfl rfl rfl rfl ?_)
     refine zF (b:=r10.b) (HR.c ({ r10 with pA:=A18,pc:=cap18,ps:=r10.ps++[p],f2:=true,x5:=e,x6:=p.a }:HR)) (by rfl) ?_
     refine rn [28] ?_
     exact g_jn ()
    ·refine dtail 4 rfl (G.quiet (yY rfl rfl) rfl ?_)
     refine rn [24,9,6,24,10,4,24,11,4] ?_
     refine dtail 12 rfl (zJ rfl rfl rfl rfl rfl rfl rfl ?_)
     refine zF (b:=r10.b) (HR.c ({ r10 with pA:=A18,pc:=cap18,ps:=r10.ps++[p],f2:=true,x5:=e,x6:=p.a }:HR)) (by rfl) ?_
     refine rn [28] ?_
     exact g_jn ()
   ·rintro _
    refine xZ [Res.blk r10.b 248 (HR.c ({ r10 with pA:=A18,pc:=cap18,ps:=r10.ps++[p],f2:=true,x5:=e,x6:=p.a }:HR)),Res.row A18 (r10.ps++[p]).length cap18 50 3 ((r10.ps++[p]).map Y.c)] ?_
    refine yV (r:=Res.star [Res.blk r10.b 248 (HR.c ({ r10 with pA:=A18,pc:=cap18,ps:=r10.ps++[p],f2:=true,x5:=e,x6:=p.a }:HR)),Res.row A18 (r10.ps++[p]).length cap18 50 3 ((r10.ps++[p]).map Y.c)]) (rest:=(a10++c10).map HR.res) (Ls:=(a10++({ r10 with pA:=A18,pc:=cap18,ps:=r10.ps++[p],f2:=true,x5:=e,x6:=p.a }:HR) :: c10).map HR.res) (xP a10 c10 ({ r10 with pA:=A18,pc:=cap18,ps:=r10.ps++[p],f2:=true,x5:=e,x6:=p.a }:HR)).symm ?_
    refine xN (Res.mp mb ((a10++r10 :: c10).map HR.kv)) (Res.mp mb ((a10++({ r10 with pA:=A18,pc:=cap18,ps:=r10.ps++[p],f2:=true,x5:=e,x6:=p.a }:HR) :: c10).map HR.kv)) (congrArg (Res.mp mb) (hr_kv a10 c10 (r:=r10) (r2:=({ r10 with pA:=A18,pc:=cap18,ps:=r10.ps++[p],f2:=true,x5:=e,x6:=p.a }:HR)) rfl rfl)) ?_
    exact fin0 rfl (fun w' hw' => ⟨(a10++({ r10 with pA:=A18,pc:=cap18,ps:=r10.ps++[p],f2:=true,x5:=e,x6:=p.a }:HR) :: c10),(by(try dsimp only);exact hO10.set rfl (by have h9:=hO10.len r10 (by simp);simp;omega) (by omega)),rfl,zA w' hw'⟩) _ (.inr rfl)
  ·refine rn [12] ?_
   refine xZ [Res.blk r10.b 248 (HR.c ({ r10 with pA:=A18,pc:=cap18,ps:=r10.ps++[p] }:HR)),Res.row A18 (r10.ps++[p]).length cap18 50 3 ((r10.ps++[p]).map Y.c)] ?_
   refine yV (r:=Res.star [Res.blk r10.b 248 (HR.c ({ r10 with pA:=A18,pc:=cap18,ps:=r10.ps++[p] }:HR)),Res.row A18 (r10.ps++[p]).length cap18 50 3 ((r10.ps++[p]).map Y.c)]) (rest:=(a10++c10).map HR.res) (Ls:=(a10++({ r10 with pA:=A18,pc:=cap18,ps:=r10.ps++[p] }:HR) :: c10).map HR.res) (xP a10 c10 ({ r10 with pA:=A18,pc:=cap18,ps:=r10.ps++[p] }:HR)).symm ?_
   refine xN (Res.mp mb ((a10++r10 :: c10).map HR.kv)) (Res.mp mb ((a10++({ r10 with pA:=A18,pc:=cap18,ps:=r10.ps++[p] }:HR) :: c10).map HR.kv)) (congrArg (Res.mp mb) (hr_kv a10 c10 (r:=r10) (r2:=({ r10 with pA:=A18,pc:=cap18,ps:=r10.ps++[p] }:HR)) rfl rfl)) ?_
   exact fin0 rfl (fun w' hw' => ⟨(a10++({ r10 with pA:=A18,pc:=cap18,ps:=r10.ps++[p] }:HR) :: c10),(by(try dsimp only);exact hO10.set rfl (by have h9:=hO10.len r10 (by simp);simp;omega) (by omega)),rfl,zA w' hw'⟩) _ (.inr rfl)
 ·refine rn [21,21,21,21,21,42,0,20,12] ?_
  refine xZ [Res.blk r10.b 248 (HR.c ({ r10 with pA:=A18,pc:=cap18,ps:=r10.ps++[p] }:HR)),Res.row A18 (r10.ps++[p]).length cap18 50 3 ((r10.ps++[p]).map Y.c)] ?_
  refine yV (r:=Res.star [Res.blk r10.b 248 (HR.c ({ r10 with pA:=A18,pc:=cap18,ps:=r10.ps++[p] }:HR)),Res.row A18 (r10.ps++[p]).length cap18 50 3 ((r10.ps++[p]).map Y.c)]) (rest:=(a10++c10).map HR.res) (Ls:=(a10++({ r10 with pA:=A18,pc:=cap18,ps:=r10.ps++[p] }:HR) :: c10).map HR.res) (xP a10 c10 ({ r10 with pA:=A18,pc:=cap18,ps:=r10.ps++[p] }:HR)).symm ?_
  refine xN (Res.mp mb ((a10++r10 :: c10).map HR.kv)) (Res.mp mb ((a10++({ r10 with pA:=A18,pc:=cap18,ps:=r10.ps++[p] }:HR) :: c10).map HR.kv)) (congrArg (Res.mp mb) (hr_kv a10 c10 (r:=r10) (r2:=({ r10 with pA:=A18,pc:=cap18,ps:=r10.ps++[p] }:HR)) rfl rfl)) ?_
  exact fin0 rfl (fun w' hw' => ⟨(a10++({ r10 with pA:=A18,pc:=cap18,ps:=r10.ps++[p] }:HR) :: c10),(by(try dsimp only);exact hO10.set rfl (by have h9:=hO10.len r10 (by simp);simp;omega) (by omega)),rfl,zA w' hw'⟩) _ (.inr rfl)
theorem rG (B lb mb:Nat) (oA:Option Addr) (oc:Nat) (os:List Int) (cs:List Value) (rs:List HR) (i cl:Int) (x0:RX) (w:World) (hw:W0 [Res.blk lb 242 (.map (some mb) :: .slice oA os.length oc :: cs),Res.row oA os.length oc 3 1 (os.map (fun v:Int=>[Value.int .i64 v])),Res.mp mb ((rs).map HR.kv),Res.star ((rs).map HR.res)] w) (hO:HOk B rs) (hwf:(Lit.int .i64 i).wf=true) (hB:os.length≤1000000000):Own2 (ι:=(Option Addr × Nat × List Int × List HR)) Tryz.prog 136 [.pointer (some ⟨lb,0,none⟩),.int .i64 i,.int .i64 cl,.agg (RX.c x0).toArray] w [Res.blk lb 242 (.map (some mb) :: .slice oA os.length oc :: cs),Res.row oA os.length oc 3 1 (os.map (fun v:Int=>[Value.int .i64 v])),Res.mp mb ((rs).map HR.kv),Res.star ((rs).map HR.res)] (fun x=>HOk B x.2.2.2∧x.2.2.1.length≤os.length+1) (fun x=>.tuple #[]) (fun x=>[]) (fun x=>[Res.blk lb 242 (.map (some mb) :: .slice x.1 x.2.2.1.length x.2.1 :: cs),Res.row x.1 x.2.2.1.length x.2.1 3 1 (x.2.2.1.map (fun v:Int=>[Value.int .i64 v])),Res.mp mb ((x.2.2.2).map HR.kv),Res.star ((x.2.2.2).map HR.res)]):=by
 refine g_st Tryz.func136 46 hw ?_
 refine rn [1] ?_
 refine g_op (g_box rfl rfl rfl fun b7=>?_)
 refine rn [0,1,2,2] ?_
 refine g_op (zG _ rfl (fun w1 hw1 ho1=>by have h7:=qS B lb mb ((.slice oA os.length oc :: cs)) (rs) (i) w1 ho1 hO hwf;exact h7) rfl ?_)
 rintro⟨hs11,r11⟩ ⟨hO11,hr11⟩
 refine ii ?_
 replace hO11:HOk B hs11:=hO11
 replace hr11:r11∈hs11:=hr11
 obtain⟨a11,c11,hhs11⟩:=List.append_of_mem hr11
 subst hhs11
 have hl11:=hO11.len r11 (by simp)
 refine vF (r:=HR.res r11) (rest:=(a11++c11).map HR.res) (xP a11 c11 r11) ?_
 refine g_open (HR.rows r11) ?_
 refine rn [3,0,8,1,2,6,4,5,0] ?_
 refine zC rfl (fun h1=>?_) (fun h1=>?_)
 ·refine rn [11,13] ?_
  refine xZ [Res.blk r11.b 248 (HR.c r11),Res.row r11.pA r11.ps.length r11.pc 50 3 (r11.ps.map Y.c)] ?_
  refine yV (r:=Res.star [Res.blk r11.b 248 (HR.c r11),Res.row r11.pA r11.ps.length r11.pc 50 3 (r11.ps.map Y.c)]) (rest:=(a11++c11).map HR.res) (Ls:=(a11++r11 :: c11).map HR.res) (xP a11 c11 r11).symm ?_
  refine xN (Res.mp mb ((a11++r11 :: c11).map HR.kv)) (Res.mp mb ((a11++r11 :: c11).map HR.kv)) (congrArg (Res.mp mb) (hr_kv a11 c11 (r:=r11) (r2:=r11) rfl rfl)) ?_
  exact fin0 rfl (fun w' hw' => ⟨(oA,oc,os,(a11++r11 :: c11)),(by(try dsimp only);exact⟨hO11.set rfl hl11 (Nat.le_refl _),by simp⟩),rfl,zA w' hw'⟩) _ (.inl rfl)
 ·refine rn [12,7,1,2,6,4] ?_
  refine g_op (zJ rfl rfl rfl rfl rfl rfl rfl ?_)
  refine zF (b:=r11.b) (HR.c ({ r11 with rd:=true }:HR)) (by rfl) ?_
  refine rn [0,8] ?_
  refine dregL (L0:=[Res.blk b7 47 (RX.c x0)]) [5,7,11,15,19] mixed rfl zB ?_
  refine rn [24,0,2,24,1,2,24,2,2,24,3,2,24,4,4,24,6,4,24,8,6,24,9,4,24,10,4] ?_
  refine dj [0,1] (fun(x:Unit)=>[]) (fun(x:Unit)=>[Res.blk r11.b 248 (HR.c ({ r11 with rd:=true,x0:=cl,x1:=x0.r.ep,x2:=x0.r.dl }:HR)),Res.row r11.pA r11.ps.length r11.pc 50 3 (r11.ps.map Y.c),Res.blk b7 47 (RX.c x0),Res.blk lb 242 (.map (some mb) :: .slice oA os.length oc :: cs),Res.row oA os.length oc 3 1 (os.map (fun v:Int=>[Value.int .i64 v])),Res.mp mb ((a11++r11 :: c11).map HR.kv),Res.star ((a11++c11).map HR.res)]) ?_ ?_
  ·refine yG [5,7,11] (by kernel_rfl) (by simp) zB ⟨dpick rfl (G.quiet (yY rfl rfl) rfl ?_),dpick rfl (G.quiet (yY rfl rfl) rfl ?_),dpick rfl (zJ rfl rfl rfl rfl rfl rfl rfl ?_),trivial⟩
   ·refine yG [7,11] (by kernel_rfl) (by simp) zB ⟨dpick rfl (G.quiet (yY rfl rfl) rfl ?_),dpick rfl (zJ rfl rfl rfl rfl rfl rfl rfl ?_),trivial⟩
    ·refine dtail 11 rfl (zJ rfl rfl rfl rfl rfl rfl rfl ?_)
     refine rn [24,12,6,24,13,4,24,14,4] ?_
     refine dtail 15 rfl (zJ rfl rfl rfl rfl rfl rfl rfl ?_)
     refine rn [24,16,6,24,17,4,24,18,4] ?_
     refine dtail 19 rfl (zJ rfl rfl rfl rfl rfl rfl rfl ?_)
     refine zF (b:=r11.b) (HR.c ({ r11 with rd:=true,x0:=cl,x1:=x0.r.ep,x2:=x0.r.dl }:HR)) (by rfl) ?_
     refine rn [28] ?_
     exact g_jn ()
    ·refine rn [24,12,6,24,13,4,24,14,4] ?_
     refine yG [7,15] (by kernel_rfl) (by simp) zB ⟨dpick rfl (G.quiet (yY rfl rfl) rfl ?_),dpick rfl (zJ rfl rfl rfl rfl rfl rfl rfl ?_),trivial⟩
     ·refine dtail 15 rfl (zJ rfl rfl rfl rfl rfl rfl rfl ?_)
      refine rn [24,16,6,24,17,4,24,18,4] ?_
      refine dtail 19 rfl (zJ rfl rfl rfl rfl rfl rfl rfl ?_)
      refine zF (b:=r11.b) (HR.c ({ r11 with rd:=true,x0:=cl,x1:=x0.r.ep,x2:=x0.r.dl }:HR)) (by rfl) ?_
      refine rn [28] ?_
      exact g_jn ()
     ·refine dtail 7 rfl (G.quiet (yY rfl rfl) rfl ?_)
      refine rn [24,16,6,24,17,4,24,18,4] ?_
      refine dtail 19 rfl (zJ rfl rfl rfl rfl rfl rfl rfl ?_)
      refine zF (b:=r11.b) (HR.c ({ r11 with rd:=true,x0:=cl,x1:=x0.r.ep,x2:=x0.r.dl }:HR)) (by rfl) ?_
      refine rn [28] ?_
      exact g_jn ()
   ·refine yG [5,11] (by kernel_rfl) (by simp) zB ⟨dpick rfl (G.quiet (yY rfl rfl) rfl ?_),dpick rfl (zJ rfl rfl rfl rfl rfl rfl rfl ?_),trivial⟩
    ·refine dtail 11 rfl (zJ rfl rfl rfl rfl rfl rfl rfl ?_)
     refine rn [24,12,6,24,13,4,24,14,4] ?_
     refine dtail 15 rfl (zJ rfl rfl rfl rfl rfl rfl rfl ?_)
     refine rn [24,16,6,24,17,4,24,18,4] ?_
     refine dtail 19 rfl (zJ rfl rfl rfl rfl rfl rfl rfl ?_)
     refine zF (b:=r11.b) (HR.c ({ r11 with rd:=true,x0:=cl,x1:=x0.r.ep,x2:=x0.r.dl }:HR)) (by rfl) ?_
     refine rn [28] ?_
     exact g_jn ()
    ·refine dtail 5 rfl (G.quiet (yY rfl rfl) rfl ?_)
     refine rn [24,12,6,24,13,4,24,14,4] ?_
     refine dtail 15 rfl (zJ rfl rfl rfl rfl rfl rfl rfl ?_)
     refine rn [24,16,6,24,17,4,24,18,4] ?_
     refine dtail 19 rfl (zJ rfl rfl rfl rfl rfl rfl rfl ?_)
     refine zF (b:=r11.b) (HR.c ({ r11 with rd:=true,x0:=cl,x1:=x0.r.ep,x2:=x0.r.dl }:HR)) (by rfl) ?_
     refine rn [28] ?_
     exact g_jn ()
   ·refine yG [5,7] (by kernel_rfl) (by simp) zB ⟨dpick rfl (G.quiet (yY rfl rfl) rfl ?_),dpick rfl (G.quiet (yY rfl rfl) rfl ?_),trivial⟩
    ·refine rn [24,12,6,24,13,4,24,14,4] ?_
     refine yG [7,15] (by kernel_rfl) (by simp) zB ⟨dpick rfl (G.quiet (yY rfl rfl) rfl ?_),dpick rfl (zJ rfl rfl rfl rfl rfl rfl rfl ?_),trivial⟩
     ·refine dtail 15 rfl (zJ rfl rfl rfl rfl rfl rfl rfl ?_)
      refine rn [24,16,6,24,17,4,24,18,4] ?_
      refine dtail 19 rfl (zJ rfl rfl rfl rfl rfl rfl rfl ?_)
      refine zF (b:=r11.b) (HR.c ({ r11 with rd:=true,x0:=cl,x1:=x0.r.ep,x2:=x0.r.dl }:HR)) (by rfl) ?_
      refine rn [28] ?_
      exact g_jn ()
     ·refine dtail 7 rfl (G.quiet (yY rfl rfl) rfl ?_)
      refine rn [24,16,6,24,17,4,24,18,4] ?_
      refine dtail 19 rfl (zJ rfl rfl rfl rfl rfl rfl rfl ?_)
      refine zF (b:=r11.b) (HR.c ({ r11 with rd:=true,x0:=cl,x1:=x0.r.ep,x2:=x0.r.dl }:HR)) (by rfl) ?_
      refine rn [28] ?_
      exact g_jn ()
    ·refine dtail 5 rfl (G.quiet (yY rfl rfl) rfl ?_)
     refine rn [24,12,6,24,13,4,24,14,4] ?_
     refine dtail 15 rfl (zJ rfl rfl rfl rfl rfl rfl rfl ?_)
     refine rn [24,16,6,24,17,4,24,18,4] ?_
     refine dtail 19 rfl (zJ rfl rfl rfl rfl rfl rfl rfl ?_)
     refine zF (b:=r11.b) (HR.c ({ r11 with rd:=true,x0:=cl,x1:=x0.r.ep,x2:=x0.r.dl }:HR)) (by rfl) ?_
     refine rn [28] ?_
     exact g_jn ()
  ·rintro _
   refine rn [7,10,2,2,6,4,5,2] ?_
   refine g_op (g_lit rfl rfl rfl rfl rfl fun b42=>?_)
   refine zF (b:=b42) ((([i]:List Int).map (fun v:Int=>[Value.int .i64 v])).flatten) rfl ?_
   refine g_op (zZ (A:=oA) (els:=(os).map (fun v:Int=>[Value.int .i64 v])) (news:=(([i]:List Int).map (fun v:Int=>[Value.int .i64 v]))) rfl rfl (InL.rdb (b:=b42) rfl (by simp) rfl) (yF (c:=(fun v:Int=>[Value.int .i64 v])) (by intro x;simp[Value.oneCell']) _) (by first|omega|(simp;omega)|(simp_all;omega)) rfl fun A43 cap43=>⟨_,inferInstance,?_⟩)
   refine zH (A:=A43) (((os++[i])).map (fun v:Int=>[Value.int .i64 v])) (by first|rfl|exact List.map_append.symm|(simp;done)) ?_
   refine rn [6,4] ?_
   refine g_op (zJ rfl rfl rfl rfl rfl rfl rfl ?_)
   refine yB (A:=A43) (os++[i]).length (by simp) ?_
   refine zF (b:=lb) (.map (some mb) :: .slice A43 (os++[i]).length cap43 :: cs) (by first|rfl|simp[splice]) ?_
   refine rn [9] ?_
   refine xZ [Res.blk r11.b 248 (HR.c ({ r11 with rd:=true,x0:=cl,x1:=x0.r.ep,x2:=x0.r.dl }:HR)),Res.row r11.pA r11.ps.length r11.pc 50 3 (r11.ps.map Y.c)] ?_
   refine yV (r:=Res.star [Res.blk r11.b 248 (HR.c ({ r11 with rd:=true,x0:=cl,x1:=x0.r.ep,x2:=x0.r.dl }:HR)),Res.row r11.pA r11.ps.length r11.pc 50 3 (r11.ps.map Y.c)]) (rest:=(a11++c11).map HR.res) (Ls:=(a11++({ r11 with rd:=true,x0:=cl,x1:=x0.r.ep,x2:=x0.r.dl }:HR) :: c11).map HR.res) (xP a11 c11 ({ r11 with rd:=true,x0:=cl,x1:=x0.r.ep,x2:=x0.r.dl }:HR)).symm ?_
   refine xN (Res.mp mb ((a11++r11 :: c11).map HR.kv)) (Res.mp mb ((a11++({ r11 with rd:=true,x0:=cl,x1:=x0.r.ep,x2:=x0.r.dl }:HR) :: c11).map HR.kv)) (congrArg (Res.mp mb) (hr_kv a11 c11 (r:=r11) (r2:=({ r11 with rd:=true,x0:=cl,x1:=x0.r.ep,x2:=x0.r.dl }:HR)) rfl rfl)) ?_
   exact fin0 rfl (fun w' hw' => ⟨(A43,cap43,os++[i],(a11++({ r11 with rd:=true,x0:=cl,x1:=x0.r.ep,x2:=x0.r.dl }:HR) :: c11)),(by(try dsimp only);exact⟨hO11.set rfl hl11 (Nat.le_refl _),by simp⟩),rfl,zA w' hw'⟩) _ (.inr rfl)
structure HL where
 oA:Option Addr
 oc:Nat
 os:List Int
 n:Int
 ep:Int
 aA:Option Addr
 ac:Nat
 ag:List As
 rs:List HR
structure HL.Ok (B:Nat) (h:HL):Prop where
 r:HOk B h.rs
 o:h.os.length≤B
 a:h.ag.length≤B
def HL.c (mb:Nat) (h:HL):List Value:=[.map (some mb),.slice h.oA h.os.length h.oc,.int .i64 h.n,.int .i64 h.ep,.slice h.aA h.ag.length h.ac]
abbrev HL.own (lb mb:Nat) (h:HL):List Res:=[Res.blk lb 242 (h.c mb),Res.row h.oA h.os.length h.oc 3 1 (h.os.map (fun v:Int=>[Value.int .i64 v])),Res.row h.aA h.ag.length h.ac 55 3 (h.ag.map As.cs),Res.mp mb (h.rs.map HR.kv),Res.star (h.rs.map HR.res)]
theorem hadd_eng (B lb mb:Nat) (oA:Option Addr) (oc:Nat) (os:List Int) (n ep:Int) (aA:Option Addr) (ac:Nat) (ag:List As) (rs:List HR) (y:Op) (x0:RX) (w:World) (hw:W0 [Res.blk lb 242 [.map (some mb),.slice oA (os).length oc,.int .i64 n,.int .i64 ep,.slice aA (ag).length ac],Res.row oA (os).length oc 3 1 ((os).map (fun v:Int=>[Value.int .i64 v])),Res.row aA (ag).length ac 55 3 ((ag).map As.cs),Res.mp mb ((rs).map HR.kv),Res.star ((rs).map HR.res),Res.row x0.O x0.r.ag.length x0.oc 55 3 (x0.r.ag.map As.cs),Res.row x0.pA x0.r.ps.length x0.pc 50 3 (x0.r.ps.map Y.c)] w) (hO:HOk B rs) (hos:os.length≤B) (has:ag.length≤B) (hB:B+x0.r.ag.length+x0.r.ps.length≤1000000000) (hag:∀a∈x0.r.ag,(Lit.int .i64 a.i).wf=true) (hps:∀p∈x0.r.ps,(Lit.int .i64 p.i).wf=true) (hri:(Lit.int .i64 x0.r.i).wf=true):Own2 (ι:=HL) Tryz.prog 79 [.pointer (some ⟨lb,0,none⟩),.agg (Op.c y).toArray,.agg (RX.c x0).toArray] w [Res.blk lb 242 [.map (some mb),.slice oA (os).length oc,.int .i64 n,.int .i64 ep,.slice aA (ag).length ac],Res.row oA (os).length oc 3 1 ((os).map (fun v:Int=>[Value.int .i64 v])),Res.row aA (ag).length ac 55 3 ((ag).map As.cs),Res.mp mb ((rs).map HR.kv),Res.star ((rs).map HR.res),Res.row x0.O x0.r.ag.length x0.oc 55 3 (x0.r.ag.map As.cs),Res.row x0.pA x0.r.ps.length x0.pc 50 3 (x0.r.ps.map Y.c)] (fun x=>x.Ok (B+x0.r.ag.length+x0.r.ps.length+1)) (fun x=>.tuple #[]) (fun x=>[]) (fun x=>[Res.blk lb 242 [.map (some mb),.slice x.oA (x.os).length x.oc,.int .i64 x.n,.int .i64 x.ep,.slice x.aA (x.ag).length x.ac],Res.row x.oA (x.os).length x.oc 3 1 ((x.os).map (fun v:Int=>[Value.int .i64 v])),Res.row x.aA (x.ag).length x.ac 55 3 ((x.ag).map As.cs),Res.mp mb ((x.rs).map HR.kv),Res.star ((x.rs).map HR.res),Res.row x0.O x0.r.ag.length x0.oc 55 3 (x0.r.ag.map As.cs),Res.row x0.pA x0.r.ps.length x0.pc 50 3 (x0.r.ps.map Y.c)]):=by
 refine g_st Tryz.func79 130 hw ?_
 refine rn [1] ?_
 refine g_op (g_box rfl rfl rfl fun b4=>?_)
 refine g_op (g_box rfl rfl rfl fun b5=>?_)
 refine rn [0,8,1,2,50,0,20,12,7,1,2,6,4,5,54,6,4] ?_
 refine g_op (zJ rfl rfl rfl rfl rfl rfl rfl ?_)
 refine zF (b:=lb) [.map (some mb),.slice oA os.length oc,.int .i64 (IntKind.i64.wrap (n+1)),.int .i64 ep,.slice aA ag.length ac] (by rfl) ?_
 refine rn [0,8,1,4,5,51,0] ?_
 refine zC rfl (fun h1=>?_) (fun h1=>?_)
 ·refine rn [11,13] ?_
  exact fin0 rfl (fun w' hw' => ⟨HL.mk oA oc os (IntKind.i64.wrap (n+1)) ep aA ac ag rs,(by(try dsimp only);exact⟨hO.mono (by omega),by simp only;omega,by simp only;omega⟩),rfl,zA w' hw'⟩) _ (.inl rfl)
 ·refine rn [12,7,1,2,4,5,6,4] ?_
  refine g_op (zJ rfl rfl rfl rfl rfl rfl rfl ?_)
  refine zF (b:=lb) [.map (some mb),.slice oA os.length oc,.int .i64 (IntKind.i64.wrap (n+1)),.int .i64 x0.r.ep,.slice aA ag.length ac] (by rfl) ?_
  refine rn [0,8,1,4,5] ?_
  refine g_val 30 (v' := .slice x0.O x0.r.ag.length x0.oc) rfl (rfl) ?_
  refine rn [47,2,0,14] ?_
  refine zH (A:=aA) (((ag++x0.r.ag.take 0)).map As.cs) (by simp) ?_
  refine yB (A:=aA) ((ag++x0.r.ag.take 0)).length (by simp) ?_
  refine zF (b:=lb) (.map (some mb) :: [.slice oA os.length oc,.int .i64 (IntKind.i64.wrap (n+1)),.int .i64 x0.r.ep,.slice aA ((ag++x0.r.ag.take 0)).length ac]) (by simp) ?_
  refine g_lk [0,4,5,30,31] (fun(x:Nat × Option Addr × Nat × List HR)=>[(32,.int .i64 ((x.1:Nat):Int))]) (fun(x:Nat × Option Addr × Nat × List HR)=>[Res.blk b4 35 (Op.c y),Res.blk b5 47 (RX.c x0),Res.blk lb 242 [.map (some mb),.slice oA (os).length oc,.int .i64 (IntKind.i64.wrap (n+1)),.int .i64 x0.r.ep,.slice x.2.1 ((ag++x0.r.ag.take x.1)).length x.2.2.1],Res.row oA (os).length oc 3 1 ((os).map (fun v:Int=>[Value.int .i64 v])),Res.row x.2.1 ((ag++x0.r.ag.take x.1)).length x.2.2.1 55 3 (((ag++x0.r.ag.take x.1)).map As.cs),Res.mp mb ((x.2.2.2).map HR.kv),Res.star ((x.2.2.2).map HR.res),Res.row x0.O x0.r.ag.length x0.oc 55 3 (x0.r.ag.map As.cs),Res.row x0.pA x0.r.ps.length x0.pc 50 3 (x0.r.ps.map Y.c)]) (fun(x:Nat × Option Addr × Nat × List HR)=>x.1≤x0.r.ag.length∧HOk B x.2.2.2) (fun(x:Nat × Option Addr × Nat × List HR)=>x0.r.ag.length-x.1) (0,aA,ac,rs) (by(try dsimp only);exact⟨Nat.zero_le _,hO⟩) ?_
  rintro⟨j,aA9,ac9,hs9⟩ ⟨le_j,hO9⟩
  replace le_j:j≤x0.r.ag.length:=le_j
  replace hO9:HOk B hs9:=hO9
  refine zV (L' := [Res.blk b4 35 (Op.c y),Res.blk b5 47 (RX.c x0),Res.blk lb 242 [.map (some mb),.slice oA (os).length oc,.int .i64 (IntKind.i64.wrap (n+1)),.int .i64 x0.r.ep,.slice aA9 ((ag++x0.r.ag.take j)).length ac9],Res.row oA (os).length oc 3 1 ((os).map (fun v:Int=>[Value.int .i64 v])),Res.row aA9 ((ag++x0.r.ag.take j)).length ac9 55 3 (((ag++x0.r.ag.take j)).map As.cs),Res.mp mb ((hs9).map HR.kv),Res.star ((hs9).map HR.res),Res.row x0.O x0.r.ag.length x0.oc 55 3 (x0.r.ag.map As.cs),Res.row x0.pA x0.r.ps.length x0.pc 50 3 (x0.r.ps.map Y.c)]) rfl ?_
  refine g_val 32 (v' := .int .i64 ((j:Nat):Int)) rfl rfl ?_
  refine rn [1,46,0,8] ?_
  refine zC rfl (fun h2=>?_) (fun h2=>?_)
  ·have lt_j:j<x0.r.ag.length:=by have h9:=of_decide_eq_true h2;omega
   obtain⟨aj,haj⟩:∃z,z=x0.r.ag[j]:=⟨_,rfl⟩
   refine rn [12,7,8,14,1] ?_
   refine s_q (zP (i:=j) rfl rfl rfl (ird (A:=x0.O)) (by first|exact lt_j|omega)) rfl ?_
   refine s_q (zS (i:=j) rfl (ird (A:=x0.O)) (zR (by first|assumption|omega|(simp_all;done)|(simp_all;omega))) rfl) rfl ?_
   refine g_op (zK rfl fun b7=>?_)
   refine rn [33] ?_
   refine zF (b:=b7) (As.cs aj) (by rw[haj]) ?_
   refine rn [0,8,8] ?_
   refine dregL (L0:=[Res.blk b7 55 (As.cs aj),Res.blk lb 242 (.map (some mb) :: [.slice oA os.length oc,.int .i64 (IntKind.i64.wrap (n+1)),.int .i64 x0.r.ep,.slice aA9 ((ag++x0.r.ag.take j)).length ac9])]) [] mixed rfl zB ?_
   refine rn [23,0,2,23,1,6,23,2,4,23,3,4,23,4,5] ?_
   refine dop 5 rfl (zG _ rfl (fun w1 hw1 ho1=>by have h7:=qS B lb mb ([.slice oA os.length oc,.int .i64 (IntKind.i64.wrap (n+1)),.int .i64 x0.r.ep,.slice aA9 ((ag++x0.r.ag.take j)).length ac9]) (hs9) (aj.i) w1 ho1 hO9 (hag _ (haj ▸ List.getElem_mem lt_j));exact h7) rfl ?_)
   rintro⟨hs41,r41⟩ ⟨hO41,hr41⟩
   refine ii ?_
   replace hO41:HOk B hs41:=hO41
   replace hr41:r41∈hs41:=hr41
   obtain⟨a41,c41,hhs41⟩:=List.append_of_mem hr41
   subst hhs41
   have hl41:=hO41.len r41 (by simp)
   refine vF (r:=HR.res r41) (rest:=(a41++c41).map HR.res) (xP a41 c41 r41) ?_
   refine g_open (HR.rows r41) ?_
   refine rn [23,6,3,27,7,1,2,6,4,5,2] ?_
   refine zU 46 rfl (fun h3=>?_) (fun h3=>?_)
   ·refine rn [22,2,22,6,22,4,22,5,22,48,41,0] ?_
    refine zC rfl (fun h4=>?_) (fun h4=>?_)
    ·refine rn [1,2,6,4] ?_
     refine g_op (zJ rfl rfl rfl rfl rfl rfl rfl ?_)
     refine zF (b:=r41.b) (HR.c ({ r41 with f0:=true }:HR)) (by rfl) ?_
     refine rn [0,10,2,4,5,6,4,4] ?_
     refine g_op (zJ rfl rfl rfl rfl rfl rfl rfl ?_)
     refine zF (b:=r41.b) (HR.c ({ r41 with f0:=true,x3:=aj.e }:HR)) (by rfl) ?_
     refine rn [0] ?_
     refine dregL (L0:=[Res.blk b7 55 (As.cs aj),Res.blk lb 242 (.map (some mb) :: [.slice oA os.length oc,.int .i64 (IntKind.i64.wrap (n+1)),.int .i64 x0.r.ep,.slice aA9 ((ag++x0.r.ag.take j)).length ac9])]) [10] mixed rfl zB ?_
     refine rn [23,0,2,23,1,2,23,2,6,23,3,4,23,4,5,23,5,45] ?_
     refine dop 6 rfl (g_lit rfl rfl rfl rfl rfl fun b68=>?_)
     refine zF (b:=b68) ((([aj]:List As).map As.cs).flatten) rfl ?_
     refine dop 7 rfl (zZ (A:=aA9) (els:=((ag++x0.r.ag.take j)).map As.cs) (news:=(([aj]:List As).map As.cs)) rfl rfl (InL.rdb (b:=b68) rfl (by simp[As.cs]) rfl) (yF (c:=As.cs) (by intro x;simp[As.cs,Value.oneCell']) _) (by first|omega|(simp;omega)|(simp_all;omega)) rfl fun A69 cap69=>⟨_,inferInstance,?_⟩)
     refine zH (A:=A69) ((((ag++x0.r.ag.take j)++[aj])).map As.cs) (by first|rfl|exact List.map_append.symm|(simp;done)) ?_
     refine rn [24,8,6,23,9,4] ?_
     refine dop 10 rfl (zJ rfl rfl rfl rfl rfl rfl rfl ?_)
     refine rn [28,15,7,10,43,2,9] ?_
     refine xZ [Res.blk r41.b 248 (HR.c ({ r41 with f0:=true,x3:=aj.e }:HR)),Res.row r41.pA r41.ps.length r41.pc 50 3 (r41.ps.map Y.c)] ?_
     refine yV (r:=Res.star [Res.blk r41.b 248 (HR.c ({ r41 with f0:=true,x3:=aj.e }:HR)),Res.row r41.pA r41.ps.length r41.pc 50 3 (r41.ps.map Y.c)]) (rest:=(a41++c41).map HR.res) (Ls:=(a41++({ r41 with f0:=true,x3:=aj.e }:HR) :: c41).map HR.res) (xP a41 c41 ({ r41 with f0:=true,x3:=aj.e }:HR)).symm ?_
     refine xN (Res.mp mb ((a41++r41 :: c41).map HR.kv)) (Res.mp mb ((a41++({ r41 with f0:=true,x3:=aj.e }:HR) :: c41).map HR.kv)) (congrArg (Res.mp mb) (hr_kv a41 c41 (r:=r41) (r2:=({ r41 with f0:=true,x3:=aj.e }:HR)) rfl rfl)) ?_
     refine zH (A:=A69) (((ag++x0.r.ag.take (j+1))).map As.cs) (by rw[←List.take_append_getElem lt_j,←haj,List.append_assoc]) ?_
     refine yB (A:=A69) ((ag++x0.r.ag.take (j+1))).length (by simp;omega) ?_
     refine zF (b:=lb) (.map (some mb) :: [.slice oA os.length oc,.int .i64 (IntKind.i64.wrap (n+1)),.int .i64 x0.r.ep,.slice A69 ((ag++x0.r.ag.take (j+1))).length cap69]) (by simp[splice];omega) ?_
     exact g_ag ((j+1),A69,cap69,(a41++({ r41 with f0:=true,x3:=aj.e }:HR) :: c41)) (by(try dsimp only);exact⟨(by first|exact lt_j|omega),(hO41.set rfl (by omega) (Nat.le_refl _))⟩)
    ·refine rn [12,7] ?_
     refine dregL (L0:=[Res.blk b7 55 (As.cs aj),Res.blk lb 242 (.map (some mb) :: [.slice oA os.length oc,.int .i64 (IntKind.i64.wrap (n+1)),.int .i64 x0.r.ep,.slice aA9 ((ag++x0.r.ag.take j)).length ac9])]) [10] mixed rfl zB ?_
     refine rn [23,0,2,23,1,2,23,2,6,23,3,4,23,4,5,23,5,45] ?_
     refine dop 6 rfl (g_lit rfl rfl rfl rfl rfl fun b68=>?_)
     refine zF (b:=b68) ((([aj]:List As).map As.cs).flatten) rfl ?_
     refine dop 7 rfl (zZ (A:=aA9) (els:=((ag++x0.r.ag.take j)).map As.cs) (news:=(([aj]:List As).map As.cs)) rfl rfl (InL.rdb (b:=b68) rfl (by simp[As.cs]) rfl) (yF (c:=As.cs) (by intro x;simp[As.cs,Value.oneCell']) _) (by first|omega|(simp;omega)|(simp_all;omega)) rfl fun A69 cap69=>⟨_,inferInstance,?_⟩)
     refine zH (A:=A69) ((((ag++x0.r.ag.take j)++[aj])).map As.cs) (by first|rfl|exact List.map_append.symm|(simp;done)) ?_
     refine rn [24,8,6,23,9,4] ?_
     refine dop 10 rfl (zJ rfl rfl rfl rfl rfl rfl rfl ?_)
     refine rn [28,15,7,10,43,2,9] ?_
     refine xZ [Res.blk r41.b 248 (HR.c r41),Res.row r41.pA r41.ps.length r41.pc 50 3 (r41.ps.map Y.c)] ?_
     refine yV (r:=Res.star [Res.blk r41.b 248 (HR.c r41),Res.row r41.pA r41.ps.length r41.pc 50 3 (r41.ps.map Y.c)]) (rest:=(a41++c41).map HR.res) (Ls:=(a41++r41 :: c41).map HR.res) (xP a41 c41 r41).symm ?_
     refine xN (Res.mp mb ((a41++r41 :: c41).map HR.kv)) (Res.mp mb ((a41++r41 :: c41).map HR.kv)) (congrArg (Res.mp mb) (hr_kv a41 c41 (r:=r41) (r2:=r41) rfl rfl)) ?_
     refine zH (A:=A69) (((ag++x0.r.ag.take (j+1))).map As.cs) (by rw[←List.take_append_getElem lt_j,←haj,List.append_assoc]) ?_
     refine yB (A:=A69) ((ag++x0.r.ag.take (j+1))).length (by simp;omega) ?_
     refine zF (b:=lb) (.map (some mb) :: [.slice oA os.length oc,.int .i64 (IntKind.i64.wrap (n+1)),.int .i64 x0.r.ep,.slice A69 ((ag++x0.r.ag.take (j+1))).length cap69]) (by simp[splice];omega) ?_
     exact g_ag ((j+1),A69,cap69,(a41++r41 :: c41)) (by(try dsimp only);exact⟨(by first|exact lt_j|omega),(hO41.set rfl (by omega) (Nat.le_refl _))⟩)
   ·refine rn [21,21,21,21,21,42,0,20,12,7] ?_
    refine dregL (L0:=[Res.blk b7 55 (As.cs aj),Res.blk lb 242 (.map (some mb) :: [.slice oA os.length oc,.int .i64 (IntKind.i64.wrap (n+1)),.int .i64 x0.r.ep,.slice aA9 ((ag++x0.r.ag.take j)).length ac9])]) [10] mixed rfl zB ?_
    refine rn [23,0,2,23,1,2,23,2,6,23,3,4,23,4,5,23,5,45] ?_
    refine dop 6 rfl (g_lit rfl rfl rfl rfl rfl fun b68=>?_)
    refine zF (b:=b68) ((([aj]:List As).map As.cs).flatten) rfl ?_
    refine dop 7 rfl (zZ (A:=aA9) (els:=((ag++x0.r.ag.take j)).map As.cs) (news:=(([aj]:List As).map As.cs)) rfl rfl (InL.rdb (b:=b68) rfl (by simp[As.cs]) rfl) (yF (c:=As.cs) (by intro x;simp[As.cs,Value.oneCell']) _) (by first|omega|(simp;omega)|(simp_all;omega)) rfl fun A69 cap69=>⟨_,inferInstance,?_⟩)
    refine zH (A:=A69) ((((ag++x0.r.ag.take j)++[aj])).map As.cs) (by first|rfl|exact List.map_append.symm|(simp;done)) ?_
    refine rn [24,8,6,23,9,4] ?_
    refine dop 10 rfl (zJ rfl rfl rfl rfl rfl rfl rfl ?_)
    refine rn [28,15,7,10,43,2,9] ?_
    refine xZ [Res.blk r41.b 248 (HR.c r41),Res.row r41.pA r41.ps.length r41.pc 50 3 (r41.ps.map Y.c)] ?_
    refine yV (r:=Res.star [Res.blk r41.b 248 (HR.c r41),Res.row r41.pA r41.ps.length r41.pc 50 3 (r41.ps.map Y.c)]) (rest:=(a41++c41).map HR.res) (Ls:=(a41++r41 :: c41).map HR.res) (xP a41 c41 r41).symm ?_
    refine xN (Res.mp mb ((a41++r41 :: c41).map HR.kv)) (Res.mp mb ((a41++r41 :: c41).map HR.kv)) (congrArg (Res.mp mb) (hr_kv a41 c41 (r:=r41) (r2:=r41) rfl rfl)) ?_
    refine zH (A:=A69) (((ag++x0.r.ag.take (j+1))).map As.cs) (by rw[←List.take_append_getElem lt_j,←haj,List.append_assoc]) ?_
    refine yB (A:=A69) ((ag++x0.r.ag.take (j+1))).length (by simp;omega) ?_
    refine zF (b:=lb) (.map (some mb) :: [.slice oA os.length oc,.int .i64 (IntKind.i64.wrap (n+1)),.int .i64 x0.r.ep,.slice A69 ((ag++x0.r.ag.take (j+1))).length cap69]) (by simp[splice];omega) ?_
    exact g_ag ((j+1),A69,cap69,(a41++r41 :: c41)) (by(try dsimp only);exact⟨(by first|exact lt_j|omega),(hO41.set rfl (by omega) (Nat.le_refl _))⟩)
  ·have eq_j:j=x0.r.ag.length:=by have h9:=of_decide_eq_false h2;omega
   subst eq_j
   refine zH (A:=aA9) ((ag++x0.r.ag).map As.cs) (by rw[List.take_length]) ?_
   refine yB (A:=aA9) (ag++x0.r.ag).length (by rw[List.take_length]) ?_
   refine zF (b:=lb) (.map (some mb) :: [.slice oA os.length oc,.int .i64 (IntKind.i64.wrap (n+1)),.int .i64 x0.r.ep,.slice aA9 ((ag++x0.r.ag)).length ac9]) (by rw[List.take_length]) ?_
   refine rn [16] ?_
   refine zD (zD (zN ?_))
   refine rn [7,8,1,4,5] ?_
   refine g_val 74 (v' := .slice x0.pA x0.r.ps.length x0.pc) rfl (rfl) ?_
   refine rn [47,2,0,14] ?_
   refine g_lk [0,4,5,74,75] (fun(x:Nat × List HR)=>[(76,.int .i64 ((x.1:Nat):Int))]) (fun(x:Nat × List HR)=>[Res.blk b4 35 (Op.c y),Res.blk b5 47 (RX.c x0),Res.blk lb 242 [.map (some mb),.slice oA (os).length oc,.int .i64 (IntKind.i64.wrap (n+1)),.int .i64 x0.r.ep,.slice aA9 ((ag++x0.r.ag)).length ac9],Res.row oA (os).length oc 3 1 ((os).map (fun v:Int=>[Value.int .i64 v])),Res.row aA9 ((ag++x0.r.ag)).length ac9 55 3 (((ag++x0.r.ag)).map As.cs),Res.mp mb ((x.2).map HR.kv),Res.star ((x.2).map HR.res),Res.row x0.O x0.r.ag.length x0.oc 55 3 (x0.r.ag.map As.cs),Res.row x0.pA x0.r.ps.length x0.pc 50 3 (x0.r.ps.map Y.c)]) (fun(x:Nat × List HR)=>x.1≤x0.r.ps.length∧HOk (B+x.1) x.2) (fun(x:Nat × List HR)=>x0.r.ps.length-x.1) (0,hs9) (by(try dsimp only);exact⟨Nat.zero_le _,hO9⟩) ?_
   rintro⟨j,hs9⟩ ⟨le_j,hO9⟩
   replace le_j:j≤x0.r.ps.length:=le_j
   replace hO9:HOk (B+j) hs9:=hO9
   refine zV (L' := [Res.blk b4 35 (Op.c y),Res.blk b5 47 (RX.c x0),Res.blk lb 242 [.map (some mb),.slice oA (os).length oc,.int .i64 (IntKind.i64.wrap (n+1)),.int .i64 x0.r.ep,.slice aA9 ((ag++x0.r.ag)).length ac9],Res.row oA (os).length oc 3 1 ((os).map (fun v:Int=>[Value.int .i64 v])),Res.row aA9 ((ag++x0.r.ag)).length ac9 55 3 (((ag++x0.r.ag)).map As.cs),Res.mp mb ((hs9).map HR.kv),Res.star ((hs9).map HR.res),Res.row x0.O x0.r.ag.length x0.oc 55 3 (x0.r.ag.map As.cs),Res.row x0.pA x0.r.ps.length x0.pc 50 3 (x0.r.ps.map Y.c)]) rfl ?_
   refine g_val 76 (v' := .int .i64 ((j:Nat):Int)) rfl rfl ?_
   refine rn [1,46,0,8] ?_
   refine zC rfl (fun h5=>?_) (fun h5=>?_)
   ·have lt_j:j<x0.r.ps.length:=by have h9:=of_decide_eq_true h5;omega
    obtain⟨pj,hpj⟩:∃z,z=x0.r.ps[j]:=⟨_,rfl⟩
    refine rn [12,7,8,14,1] ?_
    refine s_q (zP (i:=j) rfl rfl rfl (ird (A:=x0.pA)) (by first|exact lt_j|omega)) rfl ?_
    refine s_q (zS (i:=j) rfl (ird (A:=x0.pA)) (zR (by first|assumption|omega|(simp_all;done)|(simp_all;omega))) rfl) rfl ?_
    refine g_op (zK rfl fun b10=>?_)
    refine rn [33] ?_
    refine zF (b:=b10) (Y.c pj) (by rw[hpj]) ?_
    refine rn [0] ?_
    refine dregL (L0:=[Res.blk b10 50 (Y.c pj),Res.blk lb 242 (.map (some mb) :: [.slice oA os.length oc,.int .i64 (IntKind.i64.wrap (n+1)),.int .i64 x0.r.ep,.slice aA9 ((ag++x0.r.ag)).length ac9]),Res.blk b5 47 (RX.c x0)]) [] mixed rfl zB ?_
    refine rn [23,0,2,23,1,6,23,2,4,23,3,45,23,4,4,23,5,5] ?_
    refine dop 6 rfl (zG _ rfl (fun w1 hw1 ho1=>by have h7:=hpay_any (B+j) lb mb [.slice oA os.length oc,.int .i64 (IntKind.i64.wrap (n+1)),.int .i64 x0.r.ep,.slice aA9 ((ag++x0.r.ag)).length ac9] hs9 pj x0.r.ep w1 ho1 hO9 (hps _ (hpj ▸ List.getElem_mem lt_j)) (by omega);exact h7) rfl ?_)
    rintro hs86 hO86
    refine ii ?_
    refine rn [27,15,7,10,43,2,9] ?_
    exact g_ag ((j+1),hs86) (by(try dsimp only);exact⟨(by first|exact lt_j|omega),hO86⟩)
   ·have eq_j:j=x0.r.ps.length:=by have h9:=of_decide_eq_false h5;omega
    subst eq_j
    refine rn [16] ?_
    refine zD (zD (zN ?_))
    refine rn [7,1,4,5,0,14,8,14,8,14,8,14,8,8,1,44,3,0] ?_
    refine zC rfl (fun h6=>?_) (fun h6=>?_)
    ·refine rn [16] ?_
     refine zD (zD (zN ?_))
     refine rn [7,8] ?_
     refine dregL (L0:=[Res.blk b5 47 (RX.c x0)]) [] mixed rfl zB ?_
     refine rn [23,0,2,23,1,6,23,2,4,23,3,4,23,4,5,23,5,45] ?_
     refine dop 6 rfl (zG _ rfl (fun w1 hw1 ho1=>by have h7:=rG (B+x0.r.ps.length) lb mb oA oc os [.int .i64 (IntKind.i64.wrap (n+1)),.int .i64 x0.r.ep,.slice aA9 ((ag++x0.r.ag)).length ac9] (hs9) x0.r.i 1 x0 w1 ho1 hO9 hri (by omega);exact h7) rfl ?_)
     rintro⟨oA102,oc102,os102,hs102⟩ ⟨hO102,ho102⟩
     refine ii ?_
     refine rn [27,7,16] ?_
     refine xB rfl (zD (xB rfl (zD (zN ?_))))
     exact fin0 rfl (fun w' hw' => ⟨HL.mk oA102 oc102 os102 (IntKind.i64.wrap (n+1)) x0.r.ep aA9 ac9 (ag++x0.r.ag) hs102,(by(try dsimp only);exact⟨HOk.mono hO102 (by omega),by have h9:=ho102;simp only at h9 ⊢;omega,by simp only[List.length_append];omega⟩),rfl,zA w' hw'⟩) _ (.inr rfl)
    ·refine rn [12,7,8,1,44,3,0] ?_
     refine zC rfl (fun h7=>?_) (fun h7=>?_)
     ·refine rn [16] ?_
      refine zD (zD (xB rfl (zD (zN ?_))))
      refine rn [7,8] ?_
      refine dregL (L0:=[Res.blk b5 47 (RX.c x0)]) [] mixed rfl zB ?_
      refine rn [23,0,2,23,1,6,23,2,4,23,3,4,23,4,5] ?_
      refine dop 5 rfl (zG _ rfl (fun w1 hw1 ho1=>by have h7:=qS (B+x0.r.ps.length) lb mb ([.slice oA os.length oc,.int .i64 (IntKind.i64.wrap (n+1)),.int .i64 x0.r.ep,.slice aA9 ((ag++x0.r.ag)).length ac9]) (hs9) (x0.r.i) w1 ho1 hO9 hri;exact h7) rfl ?_)
      rintro⟨hs108,r108⟩ ⟨hO108,hr108⟩
      refine ii ?_
      replace hO108:HOk (B+x0.r.ps.length) hs108:=hO108
      replace hr108:r108∈hs108:=hr108
      obtain⟨a108,c108,hhs108⟩:=List.append_of_mem hr108
      subst hhs108
      have hl108:=hO108.len r108 (by simp)
      refine vF (r:=HR.res r108) (rest:=(a108++c108).map HR.res) (xP a108 c108 r108) ?_
      refine g_open (HR.rows r108) ?_
      refine rn [23,6,3,27,7,1,2,6,4,5,48,0] ?_
      refine zC rfl (fun h8=>?_) (fun h8=>?_)
      ·refine rn [1,2,6,4] ?_
       refine g_op (zJ rfl rfl rfl rfl rfl rfl rfl ?_)
       refine zF (b:=r108.b) (HR.c ({ r108 with f1:=true }:HR)) (by rfl) ?_
       refine rn [0,10,2,4,5,6,4,4] ?_
       refine g_op (zJ rfl rfl rfl rfl rfl rfl rfl ?_)
       refine zF (b:=r108.b) (HR.c ({ r108 with f1:=true,x4:=x0.r.ep }:HR)) (by rfl) ?_
       refine xZ [Res.blk r108.b 248 (HR.c ({ r108 with f1:=true,x4:=x0.r.ep }:HR)),Res.row r108.pA r108.ps.length r108.pc 50 3 (r108.ps.map Y.c)] ?_
       refine yV (r:=Res.star [Res.blk r108.b 248 (HR.c ({ r108 with f1:=true,x4:=x0.r.ep }:HR)),Res.row r108.pA r108.ps.length r108.pc 50 3 (r108.ps.map Y.c)]) (rest:=(a108++c108).map HR.res) (Ls:=(a108++({ r108 with f1:=true,x4:=x0.r.ep }:HR) :: c108).map HR.res) (xP a108 c108 ({ r108 with f1:=true,x4:=x0.r.ep }:HR)).symm ?_
       refine xN (Res.mp mb ((a108++r108 :: c108).map HR.kv)) (Res.mp mb ((a108++({ r108 with f1:=true,x4:=x0.r.ep }:HR) :: c108).map HR.kv)) (congrArg (Res.mp mb) (hr_kv a108 c108 (r:=r108) (r2:=({ r108 with f1:=true,x4:=x0.r.ep }:HR)) rfl rfl)) ?_
       refine rn [9,15,7,8] ?_
       refine dregL (L0:=[Res.blk b5 47 (RX.c x0)]) [] mixed rfl zB ?_
       refine rn [23,0,2,23,1,6,23,2,4,23,3,4,23,4,5,23,5,45] ?_
       refine dop 6 rfl (zG _ rfl (fun w1 hw1 ho1=>by have h7:=rG (B+x0.r.ps.length) lb mb oA oc os [.int .i64 (IntKind.i64.wrap (n+1)),.int .i64 x0.r.ep,.slice aA9 ((ag++x0.r.ag)).length ac9] ((a108++({ r108 with f1:=true,x4:=x0.r.ep }:HR) :: c108)) x0.r.i 0 x0 w1 ho1 (hO108.set (r2:=({ r108 with f1:=true,x4:=x0.r.ep }:HR)) rfl hl108 (Nat.le_refl _)) hri (by omega);exact h7) rfl ?_)
       rintro⟨oA129,oc129,os129,hs129⟩ ⟨hO129,ho129⟩
       refine ii ?_
       refine rn [27,7,16] ?_
       refine zN ?_
       exact fin0 rfl (fun w' hw' => ⟨HL.mk oA129 oc129 os129 (IntKind.i64.wrap (n+1)) x0.r.ep aA9 ac9 (ag++x0.r.ag) hs129,(by(try dsimp only);exact⟨HOk.mono hO129 (by omega),by have h9:=ho129;simp only at h9 ⊢;omega,by simp only[List.length_append];omega⟩),rfl,zA w' hw'⟩) _ (.inr rfl)
      ·refine xZ [Res.blk r108.b 248 (HR.c r108),Res.row r108.pA r108.ps.length r108.pc 50 3 (r108.ps.map Y.c)] ?_
       refine yV (r:=Res.star [Res.blk r108.b 248 (HR.c r108),Res.row r108.pA r108.ps.length r108.pc 50 3 (r108.ps.map Y.c)]) (rest:=(a108++c108).map HR.res) (Ls:=(a108++r108 :: c108).map HR.res) (xP a108 c108 r108).symm ?_
       refine xN (Res.mp mb ((a108++r108 :: c108).map HR.kv)) (Res.mp mb ((a108++r108 :: c108).map HR.kv)) (congrArg (Res.mp mb) (hr_kv a108 c108 (r:=r108) (r2:=r108) rfl rfl)) ?_
       refine rn [12,15,7,8] ?_
       refine dregL (L0:=[Res.blk b5 47 (RX.c x0)]) [] mixed rfl zB ?_
       refine rn [23,0,2,23,1,6,23,2,4,23,3,4,23,4,5,23,5,45] ?_
       refine dop 6 rfl (zG _ rfl (fun w1 hw1 ho1=>by have h7:=rG (B+x0.r.ps.length) lb mb oA oc os [.int .i64 (IntKind.i64.wrap (n+1)),.int .i64 x0.r.ep,.slice aA9 ((ag++x0.r.ag)).length ac9] ((a108++r108 :: c108)) x0.r.i 0 x0 w1 ho1 (hO108.set (r2:=r108) rfl hl108 (Nat.le_refl _)) hri (by omega);exact h7) rfl ?_)
       rintro⟨oA129,oc129,os129,hs129⟩ ⟨hO129,ho129⟩
       refine ii ?_
       refine rn [27,7,16] ?_
       refine zN ?_
       exact fin0 rfl (fun w' hw' => ⟨HL.mk oA129 oc129 os129 (IntKind.i64.wrap (n+1)) x0.r.ep aA9 ac9 (ag++x0.r.ag) hs129,(by(try dsimp only);exact⟨HOk.mono hO129 (by omega),by have h9:=ho129;simp only at h9 ⊢;omega,by simp only[List.length_append];omega⟩),rfl,zA w' hw'⟩) _ (.inr rfl)
     ·refine rn [12,7,1,44,3,0] ?_
      refine zC rfl (fun h9=>?_) (fun h9=>?_)
      ·refine rn [16] ?_
       refine zD (xB rfl (zD (xB rfl (zD (zN ?_)))))
       refine rn [7,8] ?_
       refine dregL (L0:=[Res.blk b5 47 (RX.c x0)]) [] mixed rfl zB ?_
       refine rn [23,0,2,23,1,6,23,2,4,23,3,4,23,4,5,23,5,45] ?_
       refine dop 6 rfl (zG _ rfl (fun w1 hw1 ho1=>by have h7:=rG (B+x0.r.ps.length) lb mb oA oc os [.int .i64 (IntKind.i64.wrap (n+1)),.int .i64 x0.r.ep,.slice aA9 ((ag++x0.r.ag)).length ac9] (hs9) x0.r.i 0 x0 w1 ho1 hO9 hri (by omega);exact h7) rfl ?_)
       rintro⟨oA129,oc129,os129,hs129⟩ ⟨hO129,ho129⟩
       refine ii ?_
       refine rn [27,7,16] ?_
       refine zN ?_
       exact fin0 rfl (fun w' hw' => ⟨HL.mk oA129 oc129 os129 (IntKind.i64.wrap (n+1)) x0.r.ep aA9 ac9 (ag++x0.r.ag) hs129,(by(try dsimp only);exact⟨HOk.mono hO129 (by omega),by have h9:=ho129;simp only at h9 ⊢;omega,by simp only[List.length_append];omega⟩),rfl,zA w' hw'⟩) _ (.inr rfl)
      ·refine rn [12,7,16] ?_
       refine xB rfl (zD (xB rfl (zD (xB rfl (zD (zN ?_))))))
       exact fin0 rfl (fun w' hw' => ⟨HL.mk oA oc os (IntKind.i64.wrap (n+1)) x0.r.ep aA9 ac9 (ag++x0.r.ag) hs9,(by(try dsimp only);exact⟨HOk.mono hO9 (by omega),by simp only;omega,by simp only[List.length_append];omega⟩),rfl,zA w' hw'⟩) _ (.inr rfl)
end Go.Proofs.YtdddiilocbbkkaaGreat
