/- TopDrains: for every configuration and all operations the law returns true. No condition. Part 4 of 28. -/
import Derived.Test.YtdddiilocbbkkaaGreatTD3
set_option linter.unusedVariables false
set_option linter.unusedSimpArgs false
namespace Go.Proofs.YtdddiilocbbkkaaGreat
open Go.RowKit Go.Eg
set_option maxHeartbeats 4000000
set_option synthInstance.maxSize 3000
set_option maxRecDepth 100000
structure V where
 bal:Int
 st:Int
 sl:Bool
 rq:Int
 ex:Int
 wd:Int
 dl:Int
 deriving DecidableEq
def V.c (x:V):List Value:=[.int .u64 x.bal,.int .i64 x.st,.bool x.sl,.int .i64 x.rq,.int .i64 x.ex,.int .i64 x.wd,.int .i64 x.dl]
def V.v (x:V):Value:=.agg x.c.toArray
structure V.ok (x:V):Prop where
 bal:0≤x.bal∧x.bal≤18446744073709551615
 st:-9223372036854775808≤x.st∧x.st≤9223372036854775807
 rq:-9223372036854775808≤x.rq∧x.rq≤9223372036854775807
 ex:-9223372036854775808≤x.ex∧x.ex≤9223372036854775807
 wd:-9223372036854775808≤x.wd∧x.wd≤9223372036854775807
 dl:-9223372036854775808≤x.dl∧x.dl≤9223372036854775807
theorem V.ext_iff' (x y:V):x=y↔(x.bal=y.bal∧x.st=y.st∧x.sl=y.sl∧x.rq=y.rq∧x.ex=y.ex∧x.wd=y.wd∧x.dl=y.dl):=by
 cases x;cases y;simp
structure C where
 capa:Int
 qsize:Int
 mind:Int
 maxd:Int
 supc:Int
 minb:Int
 maxb:Int
 minch:Int
 quot:Int
 fcap:Int
 unb:Int
 sld:Int
 rlen:Int
 elen:Int
 vis:Int
 pays:Int
 parts:Int
 merg:Int
 pnum:Int
 pden:Int
 deriving DecidableEq
def C.c (x:C):List Value:=[.int .i64 x.capa,.int .i64 x.qsize,.int .u64 x.mind,.int .u64 x.maxd,.int .u64 x.supc,.int .u64 x.minb,.int .u64 x.maxb,.int .u64 x.minch,.int .u64 x.quot,.int .u64 x.fcap,.int .i64 x.unb,.int .i64 x.sld,.int .i64 x.rlen,.int .i64 x.elen,.int .i64 x.vis,.int .i64 x.pays,.int .i64 x.parts,.int .i64 x.merg,.int .u64 x.pnum,.int .u64 x.pden]
def C.v (x:C):Value:=.agg x.c.toArray
structure C.ok (x:C):Prop where
 capa:-9223372036854775808≤x.capa∧x.capa≤9223372036854775807
 qsize:-9223372036854775808≤x.qsize∧x.qsize≤9223372036854775807
 mind:0≤x.mind∧x.mind≤18446744073709551615
 maxd:0≤x.maxd∧x.maxd≤18446744073709551615
 supc:0≤x.supc∧x.supc≤18446744073709551615
 minb:0≤x.minb∧x.minb≤18446744073709551615
 maxb:0≤x.maxb∧x.maxb≤18446744073709551615
 minch:0≤x.minch∧x.minch≤18446744073709551615
 quot:0≤x.quot∧x.quot≤18446744073709551615
 fcap:0≤x.fcap∧x.fcap≤18446744073709551615
 unb:-9223372036854775808≤x.unb∧x.unb≤9223372036854775807
 sld:-9223372036854775808≤x.sld∧x.sld≤9223372036854775807
 rlen:-9223372036854775808≤x.rlen∧x.rlen≤9223372036854775807
 elen:-9223372036854775808≤x.elen∧x.elen≤9223372036854775807
 vis:-9223372036854775808≤x.vis∧x.vis≤9223372036854775807
 pays:-9223372036854775808≤x.pays∧x.pays≤9223372036854775807
 parts:-9223372036854775808≤x.parts∧x.parts≤9223372036854775807
 merg:-9223372036854775808≤x.merg∧x.merg≤9223372036854775807
 pnum:0≤x.pnum∧x.pnum≤18446744073709551615
 pden:0≤x.pden∧x.pden≤18446744073709551615
theorem openC {w:World} (f:Nat) (cs:List Value) (h:OKc Tryz.prog w f 24 cs):∃x:C,cs=x.c∧x.ok:=by
 obtain⟨f,hl,h⟩:=OKc.struct Tryz.underlying24 h
 have hT:Tryz.prog.cellsOf 24=20:=by kernel_rfl
 have hc3:Tryz.prog.cellsOf 3=1:=by kernel_rfl
 have hc22:Tryz.prog.cellsOf 22=1:=by kernel_rfl
 rw[hT] at hl
 obtain⟨c0,c1,c2,c3,c4,c5,c6,c7,c8,c9,c10,c11,c12,c13,c14,c15,c16,c17,c18,c19,rfl⟩:∃c0 c1 c2 c3 c4 c5 c6 c7 c8 c9 c10 c11 c12 c13 c14 c15 c16 c17 c18 c19:Value,cs=[c0,c1,c2,c3,c4,c5,c6,c7,c8,c9,c10,c11,c12,c13,c14,c15,c16,c17,c18,c19]:=by
  match cs,hl with
  | [c0,c1,c2,c3,c4,c5,c6,c7,c8,c9,c10,c11,c12,c13,c14,c15,c16,c17,c18,c19],_=>exact⟨_,_,_,_,_,_,_,_,_,_,_,_,_,_,_,_,_,_,_,_,rfl⟩
 simp only[List.mem_cons,List.not_mem_nil,or_false,forall_eq_or_imp,forall_eq,hc3,hc22,List.drop_zero,List.drop_succ_cons,List.take_succ_cons,List.take_zero] at h
 obtain⟨h0,h1,h2,h3,h4,h5,h6,h7,h8,h9,h10,h11,h12,h13,h14,h15,h16,h17,h18,h19⟩:=h
 obtain⟨x0,e0,r0⟩:=OKc.int Tryz.underlying3 h0
 obtain rfl:c0=_:=by simpa using e0
 obtain⟨x1,e1,r1⟩:=OKc.int Tryz.underlying3 h1
 obtain rfl:c1=_:=by simpa using e1
 obtain⟨x2,e2,r2⟩:=OKc.int Tryz.underlying22 h2
 obtain rfl:c2=_:=by simpa using e2
 obtain⟨x3,e3,r3⟩:=OKc.int Tryz.underlying22 h3
 obtain rfl:c3=_:=by simpa using e3
 obtain⟨x4,e4,r4⟩:=OKc.int Tryz.underlying22 h4
 obtain rfl:c4=_:=by simpa using e4
 obtain⟨x5,e5,r5⟩:=OKc.int Tryz.underlying22 h5
 obtain rfl:c5=_:=by simpa using e5
 obtain⟨x6,e6,r6⟩:=OKc.int Tryz.underlying22 h6
 obtain rfl:c6=_:=by simpa using e6
 obtain⟨x7,e7,r7⟩:=OKc.int Tryz.underlying22 h7
 obtain rfl:c7=_:=by simpa using e7
 obtain⟨x8,e8,r8⟩:=OKc.int Tryz.underlying22 h8
 obtain rfl:c8=_:=by simpa using e8
 obtain⟨x9,e9,r9⟩:=OKc.int Tryz.underlying22 h9
 obtain rfl:c9=_:=by simpa using e9
 obtain⟨x10,e10,r10⟩:=OKc.int Tryz.underlying3 h10
 obtain rfl:c10=_:=by simpa using e10
 obtain⟨x11,e11,r11⟩:=OKc.int Tryz.underlying3 h11
 obtain rfl:c11=_:=by simpa using e11
 obtain⟨x12,e12,r12⟩:=OKc.int Tryz.underlying3 h12
 obtain rfl:c12=_:=by simpa using e12
 obtain⟨x13,e13,r13⟩:=OKc.int Tryz.underlying3 h13
 obtain rfl:c13=_:=by simpa using e13
 obtain⟨x14,e14,r14⟩:=OKc.int Tryz.underlying3 h14
 obtain rfl:c14=_:=by simpa using e14
 obtain⟨x15,e15,r15⟩:=OKc.int Tryz.underlying3 h15
 obtain rfl:c15=_:=by simpa using e15
 obtain⟨x16,e16,r16⟩:=OKc.int Tryz.underlying3 h16
 obtain rfl:c16=_:=by simpa using e16
 obtain⟨x17,e17,r17⟩:=OKc.int Tryz.underlying3 h17
 obtain rfl:c17=_:=by simpa using e17
 obtain⟨x18,e18,r18⟩:=OKc.int Tryz.underlying22 h18
 obtain rfl:c18=_:=by simpa using e18
 obtain⟨x19,e19,r19⟩:=OKc.int Tryz.underlying22 h19
 obtain rfl:c19=_:=by simpa using e19
 exact⟨⟨x0,x1,x2,x3,x4,x5,x6,x7,x8,x9,x10,x11,x12,x13,x14,x15,x16,x17,x18,x19⟩,rfl,⟨r0,r1,r2,r3,r4,r5,r6,r7,r8,r9,r10,r11,r12,r13,r14,r15,r16,r17,r18,r19⟩⟩
structure Op where
 k:Int
 i:Int
 t:Int
 a:Int
 deriving DecidableEq
def Op.c (x:Op):List Value:=[.int .i64 x.k,.int .i64 x.i,.int .i64 x.t,.int .u64 x.a]
structure Op.ok (x:Op):Prop where
 k:-9223372036854775808≤x.k∧x.k≤9223372036854775807
 i:-9223372036854775808≤x.i∧x.i≤9223372036854775807
 t:-9223372036854775808≤x.t∧x.t≤9223372036854775807
 a:0≤x.a∧x.a≤18446744073709551615
theorem Op.ext_iff' (x y:Op):x=y↔(x.k=y.k∧x.i=y.i∧x.t=y.t∧x.a=y.a):=by
 cases x;cases y;simp
theorem openOp {w:World} (f:Nat) (cs:List Value) (h:OKc Tryz.prog w f 35 cs):∃x:Op,cs=x.c∧x.ok:=by
 obtain⟨f,hl,h⟩:=OKc.struct Tryz.underlying35 h
 have hT:Tryz.prog.cellsOf 35=4:=by kernel_rfl
 have hc3:Tryz.prog.cellsOf 3=1:=by kernel_rfl
 have hc22:Tryz.prog.cellsOf 22=1:=by kernel_rfl
 rw[hT] at hl
 obtain⟨c0,c1,c2,c3,rfl⟩:∃c0 c1 c2 c3:Value,cs=[c0,c1,c2,c3]:=by
  match cs,hl with
  | [c0,c1,c2,c3],_=>exact⟨_,_,_,_,rfl⟩
 simp only[List.mem_cons,List.not_mem_nil,or_false,forall_eq_or_imp,forall_eq,hc3,hc22,List.drop_zero,List.drop_succ_cons,List.take_succ_cons,List.take_zero] at h
 obtain⟨h0,h1,h2,h3⟩:=h
 obtain⟨x0,e0,r0⟩:=OKc.int Tryz.underlying3 h0
 obtain rfl:c0=_:=by simpa using e0
 obtain⟨x1,e1,r1⟩:=OKc.int Tryz.underlying3 h1
 obtain rfl:c1=_:=by simpa using e1
 obtain⟨x2,e2,r2⟩:=OKc.int Tryz.underlying3 h2
 obtain rfl:c2=_:=by simpa using e2
 obtain⟨x3,e3,r3⟩:=OKc.int Tryz.underlying22 h3
 obtain rfl:c3=_:=by simpa using e3
 exact⟨⟨x0,x1,x2,x3⟩,rfl,⟨r0,r1,r2,r3⟩⟩
structure En where
 e:Int
 i:Int
 deriving DecidableEq
def En.c (x:En):List Value:=[.int .i64 x.e,.int .i64 x.i]
structure Rq where
 i:Int
 m:Int
 deriving DecidableEq
def Rq.c (x:Rq):List Value:=[.int .i64 x.i,.int .u64 x.m]
structure PP where
 a:Int
 b:Int
def PP.c (x:PP):List Value:=[.int .i64 x.a,.int .i64 x.b]
def dflt:C:=⟨16,8,16,64,1024,8,128,32,4,64,2,5,4,4,6,4,2,2,1,4⟩
theorem dflt_any (w:World):Pur Tryz.prog 30 [] w (dflt.v):=by
 refine g_st Tryz.func30 2 (WOK.start [] _) ?_
 refine rn [1] ?_
 refine g_op (zK rfl fun b0=>?_)
 refine rn [0,1] ?_
 refine s_q (yH (c:=dflt.c) rfl rfl) rfl ?_
 refine rn [33,0,11] ?_
 exact fin1 rfl (.cellw rfl rfl) (fun w' hw=>⟨by rfl,hw.upd⟩) _ (.inl rfl)
def btw (n lo hi:Int):Bool:=decide (lo≤n) && decide (n≤hi)
def rightB (c:C) (i:Int):Bool :=
 if i=1 then btw c.capa 1 4096 else if i=2 then btw c.qsize 1 4096 else if i=3 then decide (1≤c.mind) else if i=4 then decide (c.mind≤c.maxd)
 else if i=5 then decide (c.maxd≤c.supc) && decide (c.supc≤1152921504606846976) else if i=6 then decide (1≤c.minb) && decide (c.minb≤c.mind)
 else if i=7 then decide (c.maxd≤c.maxb) && decide (c.maxb≤c.supc) else if i=8 then decide (1≤c.minch) && decide (c.minch≤1152921504606846976)
 else if i=9 then decide (1≤c.quot) else if i=10 then decide (c.fcap≤1152921504606846976) else if i=11 then btw c.unb 1 1048576
 else if i=12 then decide (c.unb<c.sld) && decide (c.sld≤1048576) else if i=13 then btw c.rlen 1 4096 else if i=14 then btw c.elen 1 4096
 else if i=15 then btw c.vis 1 4096 else if i=16 then btw c.pays 1 4096 else if i=17 then decide (0≤c.parts) && (decide (c.parts<c.vis) && decide (c.parts<c.pays))
 else if i=18 then btw c.merg 0 4096 else if i=19 then decide (c.pnum≤c.pden) else decide (1≤c.pden) && decide (c.pden≤4294967296)
def chkF (c:C):Nat→Nat→Int
 | 0,_=>0
 | f+1,i=>if rightB c i then chkF c f (i+1) else i
def chk (c:C):Int:=chkF c 20 1
theorem chkF_right {c:C}:∀{f i:Nat},chkF c f i=0→0<i→∀j,i≤j→j<i+f→rightB c j=true
 | 0,i,_,_,j,h1,h2=>by omega
 | f+1,i,h,hi,j,h1,h2=>by
  unfold chkF at h
  split at h
  ·by_cases hj:j=i
   ·subst hj;assumption
   ·exact chkF_right h (by omega) j (by omega) (by omega)
  ·omega
theorem zT {c:C} (h:chk c=0) (j:Nat) (h1:1≤j) (h2:j≤20):rightB c j=true:=chkF_right h (by omega) j h1 (by omega)
theorem vO (n lo hi:Int) (w:World):Pur Tryz.prog 140 [.int .i64 n,.int .i64 lo,.int .i64 hi] w (.bool (btw n lo hi)):=by
 refine g_st Tryz.func140 15 (WOK.start [] _) ?_
 refine rn [1,3,0,1,2,2,56,2] ?_
 refine zU 10 rfl (fun h1=>?_) (fun h1=>?_)
 ·refine rn [22,2,22,2,22,56,41,3,0,11] ?_
  exact fin1 rfl (.tmp rfl) (fun w' hw=>⟨by first|rfl|(simp_all[btw];done)|(simp_all[btw];omega)|(simp_all[btw]<;>intros<;>omega),hw.upd⟩) _ (.inl rfl)
 ·refine rn [21,21,21,42,3,0,11] ?_
  exact fin1 rfl (.tmp rfl) (fun w' hw=>⟨by first|rfl|(simp_all[btw];done)|(simp_all[btw];omega)|(simp_all[btw]<;>intros<;>omega),hw.upd⟩) _ (.inl rfl)
theorem right_any (c:C) (i:Int) (w:World):Pur Tryz.prog 85 [c.v,.int .i64 i] w (.bool (rightB c i)):=by
 refine g_st Tryz.func85 166 (WOK.start [] _) ?_
 refine rn [1] ?_
 refine g_op (g_box rfl rfl rfl fun b2=>?_)
 refine rn [3,0,1,3,0,8,1,2,0,14,1,44,3,0] ?_
 refine zC rfl (fun h1=>?_) (fun h1=>?_)
 ·refine rn [1,4,5] ?_
  refine g_op (zI rfl (fun w hw=>vO _ _ _ w) rfl ?_)
  refine rn [3,0,11] ?_
  refine zM (zE ?_)
  exact fin1 rfl (.tmp rfl) (fun w' hw=>⟨by first|rfl|(simp_all[rightB];done)|(simp_all[rightB];omega)|(simp_all[rightB]<;>intros<;>omega),hw.upd⟩) _ (.inl rfl)
 ·refine rn [1,44,3,0] ?_
  refine zC rfl (fun h2=>?_) (fun h2=>?_)
  ·refine rn [1,4,5] ?_
   refine g_op (zI rfl (fun w hw=>vO _ _ _ w) rfl ?_)
   refine rn [3,0,11] ?_
   refine zM (zE ?_)
   exact fin1 rfl (.tmp rfl) (fun w' hw=>⟨by first|rfl|(simp_all[rightB];done)|(simp_all[rightB];omega)|(simp_all[rightB]<;>intros<;>omega),hw.upd⟩) _ (.inl rfl)
  ·refine rn [1,44,3,0] ?_
   refine zC rfl (fun h3=>?_) (fun h3=>?_)
   ·refine rn [1,4,5,53,3,0,11] ?_
    refine zM (zE ?_)
    exact fin1 rfl (.tmp rfl) (fun w' hw=>⟨by first|rfl|(simp_all[rightB];done)|(simp_all[rightB];omega)|(simp_all[rightB]<;>intros<;>omega),hw.upd⟩) _ (.inl rfl)
   ·refine rn [1,44,3,0] ?_
    refine zC rfl (fun h4=>?_) (fun h4=>?_)
    ·refine rn [1,4,5,4,5,53,3,0,11] ?_
     refine zM (zE ?_)
     exact fin1 rfl (.tmp rfl) (fun w' hw=>⟨by first|rfl|(simp_all[rightB];done)|(simp_all[rightB];omega)|(simp_all[rightB]<;>intros<;>omega),hw.upd⟩) _ (.inl rfl)
    ·refine rn [1,44,3,0] ?_
     refine zC rfl (fun h5=>?_) (fun h5=>?_)
     ·refine rn [1,4,5,4,5,53,2] ?_
      refine zU 36 rfl (fun h6=>?_) (fun h6=>?_)
      ·refine rn [22,4,22,5,22,2,22,56,41,3,0,11] ?_
       refine zM (zE ?_)
       exact fin1 rfl (.tmp rfl) (fun w' hw=>⟨by first|rfl|(simp_all[rightB];done)|(simp_all[rightB];omega)|(simp_all[rightB]<;>intros<;>omega),hw.upd⟩) _ (.inl rfl)
      ·refine rn [21,21,21,21,42,3,0,11] ?_
       refine zM (zE ?_)
       exact fin1 rfl (.tmp rfl) (fun w' hw=>⟨by first|rfl|(simp_all[rightB];done)|(simp_all[rightB];omega)|(simp_all[rightB]<;>intros<;>omega),hw.upd⟩) _ (.inl rfl)
     ·refine rn [1,44,3,0] ?_
      refine zC rfl (fun h7=>?_) (fun h7=>?_)
      ·refine rn [1,4,5,53,2] ?_
       refine zU 47 rfl (fun h8=>?_) (fun h8=>?_)
       ·refine rn [22,4,22,5,22,4,22,5,22,56,41,3,0,11] ?_
        refine zM (zE ?_)
        exact fin1 rfl (.tmp rfl) (fun w' hw=>⟨by first|rfl|(simp_all[rightB];done)|(simp_all[rightB];omega)|(simp_all[rightB]<;>intros<;>omega),hw.upd⟩) _ (.inl rfl)
       ·refine rn [21,21,21,21,21,42,3,0,11] ?_
        refine zM (zE ?_)
        exact fin1 rfl (.tmp rfl) (fun w' hw=>⟨by first|rfl|(simp_all[rightB];done)|(simp_all[rightB];omega)|(simp_all[rightB]<;>intros<;>omega),hw.upd⟩) _ (.inl rfl)
      ·refine rn [1,44,3,0] ?_
       refine zC rfl (fun h9=>?_) (fun h9=>?_)
       ·refine rn [1,4,5,4,5,53,2] ?_
        refine zU 61 rfl (fun h10=>?_) (fun h10=>?_)
        ·refine rn [22,4,22,5,22,4,22,5,22,56,41,3,0,11] ?_
         refine zM (zE ?_)
         exact fin1 rfl (.tmp rfl) (fun w' hw=>⟨by first|rfl|(simp_all[rightB];done)|(simp_all[rightB];omega)|(simp_all[rightB]<;>intros<;>omega),hw.upd⟩) _ (.inl rfl)
        ·refine rn [21,21,21,21,21,42,3,0,11] ?_
         refine zM (zE ?_)
         exact fin1 rfl (.tmp rfl) (fun w' hw=>⟨by first|rfl|(simp_all[rightB];done)|(simp_all[rightB];omega)|(simp_all[rightB]<;>intros<;>omega),hw.upd⟩) _ (.inl rfl)
       ·refine rn [1,44,3,0] ?_
        refine zC rfl (fun h11=>?_) (fun h11=>?_)
        ·refine rn [1,4,5,53,2] ?_
         refine zU 73 rfl (fun h12=>?_) (fun h12=>?_)
         ·refine rn [22,4,22,5,22,2,22,56,41,3,0,11] ?_
          refine zM (zE ?_)
          exact fin1 rfl (.tmp rfl) (fun w' hw=>⟨by first|rfl|(simp_all[rightB];done)|(simp_all[rightB];omega)|(simp_all[rightB]<;>intros<;>omega),hw.upd⟩) _ (.inl rfl)
         ·refine rn [21,21,21,21,42,3,0,11] ?_
          refine zM (zE ?_)
          exact fin1 rfl (.tmp rfl) (fun w' hw=>⟨by first|rfl|(simp_all[rightB];done)|(simp_all[rightB];omega)|(simp_all[rightB]<;>intros<;>omega),hw.upd⟩) _ (.inl rfl)
        ·refine rn [1,44,3,0] ?_
         refine zC rfl (fun h13=>?_) (fun h13=>?_)
         ·refine rn [1,4,5,53,3,0,11] ?_
          refine zM (zE ?_)
          exact fin1 rfl (.tmp rfl) (fun w' hw=>⟨by first|rfl|(simp_all[rightB];done)|(simp_all[rightB];omega)|(simp_all[rightB]<;>intros<;>omega),hw.upd⟩) _ (.inl rfl)
         ·refine rn [1,44,3,0] ?_
          refine zC rfl (fun h14=>?_) (fun h14=>?_)
          ·refine rn [1,4,5,2,56,3,0,11] ?_
           refine zM (zE ?_)
           exact fin1 rfl (.tmp rfl) (fun w' hw=>⟨by first|rfl|(simp_all[rightB];done)|(simp_all[rightB];omega)|(simp_all[rightB]<;>intros<;>omega),hw.upd⟩) _ (.inl rfl)
          ·refine rn [1,44,3,0] ?_
           refine zC rfl (fun h15=>?_) (fun h15=>?_)
           ·refine rn [1,4,5] ?_
            refine g_op (zI rfl (fun w hw=>vO _ _ _ w) rfl ?_)
            refine rn [3,0,11] ?_
            refine zM (zE ?_)
            exact fin1 rfl (.tmp rfl) (fun w' hw=>⟨by first|rfl|(simp_all[rightB];done)|(simp_all[rightB];omega)|(simp_all[rightB]<;>intros<;>omega),hw.upd⟩) _ (.inl rfl)
           ·refine rn [1,44,3,0] ?_
            refine zC rfl (fun h16=>?_) (fun h16=>?_)
            ·refine rn [1,4,5,4,5,55,2] ?_
             refine zU 102 rfl (fun h17=>?_) (fun h17=>?_)
             ·refine rn [22,4,22,5,22,56,41,3,0,11] ?_
              refine zM (zE ?_)
              exact fin1 rfl (.tmp rfl) (fun w' hw=>⟨by first|rfl|(simp_all[rightB];done)|(simp_all[rightB];omega)|(simp_all[rightB]<;>intros<;>omega),hw.upd⟩) _ (.inl rfl)
             ·refine rn [21,21,21,42,3,0,11] ?_
              refine zM (zE ?_)
              exact fin1 rfl (.tmp rfl) (fun w' hw=>⟨by first|rfl|(simp_all[rightB];done)|(simp_all[rightB];omega)|(simp_all[rightB]<;>intros<;>omega),hw.upd⟩) _ (.inl rfl)
            ·refine rn [1,44,3,0] ?_
             refine zC rfl (fun h18=>?_) (fun h18=>?_)
             ·refine rn [1,4,5] ?_
              refine g_op (zI rfl (fun w hw=>vO _ _ _ w) rfl ?_)
              refine rn [3,0,11] ?_
              refine zM (zE ?_)
              exact fin1 rfl (.tmp rfl) (fun w' hw=>⟨by first|rfl|(simp_all[rightB];done)|(simp_all[rightB];omega)|(simp_all[rightB]<;>intros<;>omega),hw.upd⟩) _ (.inl rfl)
             ·refine rn [1,44,3,0] ?_
              refine zC rfl (fun h19=>?_) (fun h19=>?_)
              ·refine rn [1,4,5] ?_
               refine g_op (zI rfl (fun w hw=>vO _ _ _ w) rfl ?_)
               refine rn [3,0,11] ?_
               refine zM (zE ?_)
               exact fin1 rfl (.tmp rfl) (fun w' hw=>⟨by first|rfl|(simp_all[rightB];done)|(simp_all[rightB];omega)|(simp_all[rightB]<;>intros<;>omega),hw.upd⟩) _ (.inl rfl)
              ·refine rn [1,44,3,0] ?_
               refine zC rfl (fun h20=>?_) (fun h20=>?_)
               ·refine rn [1,4,5] ?_
                refine g_op (zI rfl (fun w hw=>vO _ _ _ w) rfl ?_)
                refine rn [3,0,11] ?_
                refine zM (zE ?_)
                exact fin1 rfl (.tmp rfl) (fun w' hw=>⟨by first|rfl|(simp_all[rightB];done)|(simp_all[rightB];omega)|(simp_all[rightB]<;>intros<;>omega),hw.upd⟩) _ (.inl rfl)
               ·refine rn [1,44,3,0] ?_
                refine zC rfl (fun h21=>?_) (fun h21=>?_)
                ·refine rn [1,4,5] ?_
                 refine g_op (zI rfl (fun w hw=>vO _ _ _ w) rfl ?_)
                 refine rn [3,0,11] ?_
                 refine zM (zE ?_)
                 exact fin1 rfl (.tmp rfl) (fun w' hw=>⟨by first|rfl|(simp_all[rightB];done)|(simp_all[rightB];omega)|(simp_all[rightB]<;>intros<;>omega),hw.upd⟩) _ (.inl rfl)
                ·refine rn [1,44,3,0] ?_
                 refine zC rfl (fun h22=>?_) (fun h22=>?_)
                 ·refine rn [1,4,5,53,2] ?_
                  refine zU 132 rfl (fun h23=>?_) (fun h23=>?_)
                  ·refine rn [22,4,22,5,22,4,22,5,22,46,41,2] ?_
                   refine zU 139 rfl (fun h24=>?_) (fun h24=>?_)
                   ·refine rn [22,4,22,5,22,4,22,5,22,46,41,3,0,11] ?_
                    refine zM (zE ?_)
                    exact fin1 rfl (.tmp rfl) (fun w' hw=>⟨by first|rfl|(simp_all[rightB];done)|(simp_all[rightB];omega)|(simp_all[rightB]<;>intros<;>omega),hw.upd⟩) _ (.inl rfl)
                   ·refine rn [21,21,21,21,21,42,3,0,11] ?_
                    refine zM (zE ?_)
                    exact fin1 rfl (.tmp rfl) (fun w' hw=>⟨by first|rfl|(simp_all[rightB];done)|(simp_all[rightB];omega)|(simp_all[rightB]<;>intros<;>omega),hw.upd⟩) _ (.inl rfl)
                  ·refine rn [21,21,21,21,21,42,2,21,21,21,21,21,42,3,0,11] ?_
                   refine zM (zE ?_)
                   exact fin1 rfl (.tmp rfl) (fun w' hw=>⟨by first|rfl|(simp_all[rightB];done)|(simp_all[rightB];omega)|(simp_all[rightB]<;>intros<;>omega),hw.upd⟩) _ (.inl rfl)
                 ·refine rn [1,44,3,0] ?_
                  refine zC rfl (fun h25=>?_) (fun h25=>?_)
                  ·refine rn [1,4,5] ?_
                   refine g_op (zI rfl (fun w hw=>vO _ _ _ w) rfl ?_)
                   refine rn [3,0,11] ?_
                   refine zM (zE ?_)
                   exact fin1 rfl (.tmp rfl) (fun w' hw=>⟨by first|rfl|(simp_all[rightB];done)|(simp_all[rightB];omega)|(simp_all[rightB]<;>intros<;>omega),hw.upd⟩) _ (.inl rfl)
                  ·refine rn [1,44,3,0] ?_
                   refine zC rfl (fun h26=>?_) (fun h26=>?_)
                   ·refine rn [1,4,5,4,5,56,3,0,11] ?_
                    refine zM (zE ?_)
                    exact fin1 rfl (.tmp rfl) (fun w' hw=>⟨by first|rfl|(simp_all[rightB];done)|(simp_all[rightB];omega)|(simp_all[rightB]<;>intros<;>omega),hw.upd⟩) _ (.inl rfl)
                   ·refine rn [12,15,7,1,4,5,53,2] ?_
                    refine zU 161 rfl (fun h27=>?_) (fun h27=>?_)
                    ·refine rn [22,4,22,5,22,56,41,3,0,11] ?_
                     exact fin1 rfl (.tmp rfl) (fun w' hw=>⟨by first|rfl|(simp_all[rightB];done)|(simp_all[rightB];omega)|(simp_all[rightB]<;>intros<;>omega),hw.upd⟩) _ (.inl rfl)
                    ·refine rn [21,21,21,42,3,0,11] ?_
                     exact fin1 rfl (.tmp rfl) (fun w' hw=>⟨by first|rfl|(simp_all[rightB];done)|(simp_all[rightB];omega)|(simp_all[rightB]<;>intros<;>omega),hw.upd⟩) _ (.inl rfl)
theorem chk_any (c:C) (w:World):Pur Tryz.prog 29 [c.v] w (.int .i64 (chk c)):=by
 refine g_st Tryz.func29 13 (WOK.start [] _) ?_
 refine rn [1] ?_
 refine g_op (g_box rfl rfl rfl fun b1=>?_)
 refine rn [3,0,8,1,3,0,14] ?_
 refine g_loopk [1] (fun(i:Nat)=>[(3,.int .i64 (i:Int))]) (fun _=>[Res.blk b1 24 c.c]) (fun i=>1≤i∧i≤21∧chk c=chkF c (21-i) i) (fun i=>21-i) 1 ⟨by omega,by omega,rfl⟩ rfl ⟨rfl,trivial⟩ wok_id ?_
 rintro i ⟨hi1,hi2,hi3⟩
 refine rn [8,1,2,56,0] ?_
 refine zC rfl (fun h1=>?_) (fun h1=>?_)
 ·refine rn [12,7,8,14,1,45,2] ?_
  refine g_op (zI rfl (fun w hw=>right_any _ _ w) rfl ?_)
  refine rn [48,0] ?_
  refine zC rfl (fun h2=>?_) (fun h2=>?_)
  ·refine rn [1,2,3,0,11] ?_
   refine zM (zE (zE (zM (zE ?_))))
   exact fin1 rfl (.tmp rfl) (fun w' hw=>⟨by rw[hi3,show 21-i=(21-(i+1))+1 by simp_all;omega,chkF];simp_all,hw.upd⟩) _ (.inl rfl)
  ·refine rn [12,15,7,10,2,43,3,9] ?_
   exact vM (i+1) ⟨by omega,by simp_all;omega,by rw[hi3,show 21-i=(21-(i+1))+1 by simp_all;omega,chkF];simp_all⟩ (by simp_all;omega) ⟨rfl,rfl,trivial⟩ wok_id
 ·refine rn [16] ?_
  refine zD (zD (zN ?_))
  refine rn [7,1,3,0,11] ?_
  exact fin1 rfl (.tmp rfl) (fun w' hw=>⟨by rw[hi3,show 21-i=0 by simp_all;omega];rfl,hw.upd⟩) _ (.inl rfl)
def addB (l:List Int):Bool:=decide (l.sum≤18446744073709551615)
def addV (l:List Int):Int:=if l.sum≤18446744073709551615 then l.sum else 0
def okU (l:List Int):Prop:=∀x∈l,0≤x∧x≤18446744073709551615
theorem xF:∀{l:List Int},(∀x∈l,0≤x)→0≤l.sum
 | [],_=>by simp
 | x :: l,h=>by
  have:=xF (l:=l) fun y hy=>h y (by simp[hy])
  have:=h x (by simp)
  simp only[List.sum_cons];omega
theorem vB {l:List Int} (h:okU l) {k:Nat} (hk:k<l.length):(l.take (k+1)).sum=(l.take k).sum+l[k]∧0≤(l.take k).sum∧0≤l[k]∧l[k]≤18446744073709551615:=by
 have h1:=h l[k] (List.getElem_mem _)
 refine⟨?_,xF fun x hx=>(h x (List.mem_of_mem_take hx)).1,h1.1,h1.2⟩
 rw[←List.take_append_getElem hk,List.sum_append];simp
theorem sum_le {l:List Int} (h:okU l) (k:Nat):(l.take k).sum≤l.sum:=by
 have e:l.sum=(l.take k).sum+(l.drop k).sum:=by rw[←List.sum_append,List.take_append_drop]
 have:=xF (l:=l.drop k) fun x hx=>(h x (List.mem_of_mem_drop hx)).1
 omega
theorem add_over {l:List Int} (h:okU l) {k:Nat} (hk:18446744073709551615<(l.take k).sum):addB l=false∧addV l=0:=by
 have:=sum_le h k
 refine⟨decide_eq_false (by omega),if_neg (by omega)⟩
theorem rK {l:List Int} (h:l.sum≤18446744073709551615):addB l=true∧addV l=l.sum:=⟨decide_eq_true h,if_pos h⟩
theorem sat_any (A:Option Addr) (n cap:Nat) (l:List Int) (w:World) (ha:Old w A n 1 (l.map (fun v:Int=>[Value.int .u64 v]))) (hl:okU l) (hb:n≤1000000):Pur Tryz.prog 241 [.slice A n cap] w (.tuple [.int .u64 (if l.sum≤18446744073709551615 then l.sum else 18446744073709551615),.bool (!addB l)].toArray):=by
 refine g_st Tryz.func241 23 (WOK.start [] _) ?_
 have hn:n=l.length:=by simpa using ha.len
 refine rn [1,3,3,0,1,3,0,8,1,2,47,2,0,14] ?_
 refine g_lk [2,3,7,8] (fun(x:Nat)=>[(4,.int .u64 ((l.take x).sum)),(9,.int .i64 ((x:Nat):Int))]) (fun(x:Nat)=>[]) (fun(x:Nat)=>x≤n∧(l.take x).sum≤18446744073709551615) (fun(x:Nat)=>n-x) 0 (by(try dsimp only);exact⟨Nat.zero_le _,(by simp)⟩) ?_
 rintro k ⟨le_k,hs⟩
 replace le_k:k≤n:=le_k
 replace hs:(l.take k).sum≤18446744073709551615:=hs
 refine rn [1,46,0,8] ?_
 refine zC rfl (fun h1=>?_) (fun h1=>?_)
 ·have lt_k:k<n:=by have h9:=of_decide_eq_true h1;omega
  refine rn [12,7,8,14,1] ?_
  refine s_q (zP (i:=k) rfl rfl rfl (ha.rdb rfl) (by first|exact lt_k|omega)) rfl ?_
  refine s_q (yI (i:=k) (o:=0) rfl (ha.rdb rfl) (zR (by first|assumption|omega)) rfl rfl) rfl ?_
  refine rn [3,0,8,1,2,2,54,2,46,0] ?_
  refine zC rfl (fun h2=>?_) (fun h2=>?_)
  ·refine rn [1,3,3,0,11] ?_
   refine zE (zM (zE (zE (zM (zE ?_)))))
   exact fin2 rfl (.tmp rfl) (.tmp rfl) (fun w' hw' => ⟨by have h9:=vB hl (k:=k) (by omega);have h8:18446744073709551615<(l.take (k+1)).sum:=(by simp at h2;rw[IntKind.wrap_u64] at h2;omega);have h7:=add_over hl h8;have h6:=sum_le hl (k+1);rw[h7.1,if_neg (by omega)];rfl,hw'.upd⟩) _ (.inl rfl)
  ·refine rn [12,7,10,2,2] ?_
   refine s_q (yJ (z:=(l.take (k+1)).sum) rfl rfl (by have h9:=vB hl (k:=k) (by omega);simp at h2;rw[IntKind.wrap_u64] at h2 ⊢;omega)) rfl ?_
   refine rn [3,9,15,7,10,43,2,9] ?_
   exact g_ag (k+1) (by(try dsimp only);exact⟨(by first|exact lt_k|omega),(by have:=vB hl (k:=k) (by omega);simp at h2;rw[IntKind.wrap_u64] at h2;omega)⟩)
 ·have eq_k:k=n:=by have h9:=of_decide_eq_false h1;omega
  refine rn [16] ?_
  refine zD (zD (zN ?_))
  refine rn [7,1,2,3,3,0,11] ?_
  exact fin2 rfl (.tmp rfl) (.tmp rfl) (fun w' hw' => ⟨by have e8:l.take k=l:=(by rw[eq_k,hn,List.take_length]);rw[e8] at hs ⊢;have h7:=rK hs;rw[h7.1,if_pos hs];rfl,hw'.upd⟩) _ (.inl rfl)
theorem vP (A:Option Addr) (n cap:Nat) (l:List Int) (w:World) (ha:Old w A n 1 (l.map (fun v:Int=>[Value.int .u64 v]))) (hl:okU l) (hb:n≤1000000):Pur Tryz.prog 163 [.slice A n cap] w (.tuple [.int .u64 (addV l),.bool (addB l)].toArray):=by
 refine g_st Tryz.func163 13 (WOK.start [] _) ?_
 have hn:n=l.length:=by simpa using ha.len
 refine rn [1,3,3,0,1,2] ?_
 refine g_op (zI rfl (fun w1 hw1=>sat_any A (n) (cap) (l) w1 (Rdb.toOld (ha.rdb rfl) hw1) (by first|assumption|(intro x hx;simp at hx;first|(rcases hx with rfl|rfl<;>omega)|(rcases hx with rfl|rfl|rfl<;>omega)|(subst hx;omega))) (by first|omega|(simp;omega)|(simp;done))) rfl ?_)
 refine rn [2,40,40,3,3,0,8,1,2,0] ?_
 refine zC rfl (fun h1=>?_) (fun h1=>?_)
 ·refine rn [1,3,3,0,11,13] ?_
  exact fin2 rfl (.tmp rfl) (.tmp rfl) (fun w' hw' => ⟨by simp[addB] at h1;simp[addB,addV];omega,hw'.upd⟩) _ (.inl rfl)
 ·refine rn [12,7,1,2,3,3,0,11] ?_
  exact fin2 rfl (.tmp rfl) (.tmp rfl) (fun w' hw' => ⟨by simp[addB] at h1;simp[addB,addV,h1],hw'.upd⟩) _ (.inl rfl)
theorem max_any (w:World) : Pur Tryz.prog 137 [] w (.int .u64 18446744073709551615):=by
 refine g_st Tryz.func137 1 (WOK.start [] _) ?_
 refine rn [1,3,0,1,3,0,11] ?_
 exact fin1 rfl (.tmp rfl) (fun w' hw' => ⟨by rfl,hw'.upd⟩) _ (.inl rfl)
theorem radd_any (A:Option Addr) (n cap:Nat) (l:List Int) (w:World) (ha:Old w A n 1 (l.map (fun v:Int=>[Value.int .u64 v]))) (hl:okU l) (hb:n≤1000000):Pur Tryz.prog 81 [.slice A n cap] w (.tuple [.int .u64 (addV l),.bool (addB l)].toArray):=by
 refine g_st Tryz.func81 27 (WOK.start [] _) ?_
 have hn:n=l.length:=by simpa using ha.len
 refine rn [1,3,3,0,1,3,0,8,1,3,0,14] ?_
 refine g_lk [0,2,3] (fun(x:Nat)=>[(4,.int .u64 ((l.take x).sum)),(5,.int .i64 ((x:Nat):Int))]) (fun(x:Nat)=>[]) (fun(x:Nat)=>x≤n∧(l.take x).sum≤18446744073709551615) (fun(x:Nat)=>n-x) 0 (by(try dsimp only);exact⟨Nat.zero_le _,(by simp)⟩) ?_
 rintro k ⟨le_k,hs⟩
 replace le_k:k≤n:=le_k
 replace hs:(l.take k).sum≤18446744073709551615:=hs
 refine rn [8,1,2,2,47,46,0] ?_
 refine zC rfl (fun h1=>?_) (fun h1=>?_)
 ·have lt_k:k<n:=by have h9:=of_decide_eq_true h1;omega
  refine rn [12,7,8,14,8,8] ?_
  refine dreg [] mixed rfl ?_
  refine rn [23,0,2,23,1,2] ?_
  refine dq 2 rfl (zP (i:=k) rfl rfl rfl (ha.rdb rfl) (by first|exact lt_k|omega)) ?_
  refine dq 3 rfl (yI (i:=k) (o:=0) rfl (ha.rdb rfl) (zR (by first|assumption|omega)) rfl rfl) ?_
  refine rn [23,5,2] ?_
  refine dop 4 rfl (zI rfl (fun w1 hw1=>max_any w1) rfl ?_)
  refine dq 6 rfl (yZ (z:=18446744073709551615-(l.take k).sum) rfl rfl (by have h9:=vB hl (k:=k) (by omega);rw[IntKind.wrap_u64];omega)) ?_
  refine rn [23,7,55,27,7] ?_
  refine zC rfl (fun h2=>?_) (fun h2=>?_)
  ·refine rn [1,3,3,0,11] ?_
   refine zE (zM (zE (zE (zM (zE ?_)))))
   exact fin2 rfl (.tmp rfl) (.tmp rfl) (fun w' hw' => ⟨by have h9:=vB hl (k:=k) (by omega);have h8:18446744073709551615<(l.take (k+1)).sum:=(by simp at h2;omega);have h7:=add_over hl h8;rw[h7.1,h7.2],hw'.upd⟩) _ (.inl rfl)
  ·refine rn [12,7,10,2,2,2] ?_
   refine s_q (zP (i:=k) rfl rfl rfl (ha.rdb rfl) (by first|exact lt_k|omega)) rfl ?_
   refine s_q (yI (i:=k) (o:=0) rfl (ha.rdb rfl) (zR (by first|assumption|omega)) rfl rfl) rfl ?_
   refine s_q (yJ (z:=(l.take (k+1)).sum) rfl rfl (by have h9:=vB hl (k:=k) (by omega);simp at h2;rw[IntKind.wrap_u64];omega)) rfl ?_
   refine rn [3,9,15,7,10,2,43,3,9] ?_
   exact g_ag (k+1) (by(try dsimp only);exact⟨(by first|exact lt_k|omega),(by have:=vB hl (k:=k) (by omega);simp at h2;omega)⟩)
 ·have eq_k:k=n:=by have h9:=of_decide_eq_false h1;omega
  refine rn [16] ?_
  refine zD (zD (zN ?_))
  refine rn [7,1,2,3,3,0,11] ?_
  exact fin2 rfl (.tmp rfl) (.tmp rfl) (fun w' hw' => ⟨by have e8:l.take k=l:=(by rw[eq_k,hn,List.take_length]);rw[e8] at hs ⊢;have h7:=rK hs;rw[h7.1,h7.2],hw'.upd⟩) _ (.inl rfl)
def ceilB (d:Int):Bool := !decide (d=0)
def ceilV (a d:Int):Int:=if d=0 then 0 else if a=0 then 0 else(a-1)/d+1
def epoB (a d:Int):Bool := !decide (d=0) && decide (ceilV a d≤1099511627776)
def epoV (a d:Int):Int:=if epoB a d then ceilV a d else 0
def U64 (x:Int):Prop:=0≤x∧x≤18446744073709551615
theorem ceil_bd {a d:Int} (ha:U64 a) (hd:U64 d):0≤ceilV a d∧ceilV a d≤18446744073709551615:=by
 unfold U64 at *
 unfold ceilV
 split
 ·omega
 ·split
  ·omega
  ·have h1:0<d:=by omega
   have h2:0≤(a-1)/d:=Int.ediv_nonneg (by omega) (by omega)
   have h3:(a-1)/d≤a-1:=Int.ediv_le_self _ (by omega)
   omega
theorem ceil_mul {a d:Int} (ha:0≤a) (hd:0<d):a≤ceilV a d*d:=by
 unfold ceilV
 rw[if_neg (by omega)]
 split
 ·omega
 ·have h1:=Int.lt_ediv_add_one_mul_self (a-1) hd
  omega
def latB (l:List Int):Bool:=decide ((∀x∈l,0≤x)∧l.sum≤1099511627776)
def latV (l:List Int):Int:=if latB l then l.sum else 0
theorem lat_not {l:List Int} {k:Nat} (hk:k<l.length) (hs:∀x∈l.take k,0≤x) (h:l[k]<0∨1099511627776-(l.take k).sum<l[k]):latB l=false:=by
 unfold latB
 refine decide_eq_false fun hc=>?_
 have hk0:=hc.1 l[k] (List.getElem_mem _)
 have e:l.sum=(l.take (k+1)).sum+(l.drop (k+1)).sum:=by rw[←List.sum_append,List.take_append_drop]
 have e2:(l.take (k+1)).sum=(l.take k).sum+l[k]:=by rw[←List.take_append_getElem hk,List.sum_append];simp
 have:=xF (l:=l.drop (k+1)) fun x hx=>hc.1 x (List.mem_of_mem_drop hx)
 omega
theorem lat_succ {l:List Int} {k:Nat} (hk:k<l.length) (h1:∀x∈l.take k,0≤x) (h2:0≤l[k]):(∀x∈l.take (k+1),0≤x)∧(l.take (k+1)).sum=(l.take k).sum+l[k]∧0≤(l.take k).sum:=by
 refine⟨?_,?_,xF h1⟩
 ·rw[←List.take_append_getElem hk]
  intro x hx
  rcases List.mem_append.1 hx with hx|hx
  ·exact h1 x hx
  ·simp at hx;omega
 ·rw[←List.take_append_getElem hk,List.sum_append];simp
def I64 (x:Int):Prop:=-9223372036854775808≤x∧x≤9223372036854775807
theorem ceil_any (a d:Int) (w:World) (ha:U64 a) (hd:U64 d):Pur Tryz.prog 80 [.int .u64 a,.int .u64 d] w (.tuple [.int .u64 (ceilV a d),.bool (ceilB d)].toArray):=by
 refine g_st Tryz.func80 17 (WOK.start [] _) ?_
 refine rn [1,3,3,0,8,14,1,2,44,3,0] ?_
 refine zC rfl (fun h1=>?_) (fun h1=>?_)
 ·refine rn [1,3,3,0,11] ?_
  refine zM (zE ?_)
  exact fin2 rfl (.tmp rfl) (.tmp rfl) (fun w' hw' => ⟨by simp at h1;simp[ceilV,ceilB,h1],hw'.upd⟩) _ (.inl rfl)
 ·refine rn [1,2,44,3,0] ?_
  refine zC rfl (fun h2=>?_) (fun h2=>?_)
  ·refine rn [1,3,3,0,11] ?_
   refine zM (zE ?_)
   exact fin2 rfl (.tmp rfl) (.tmp rfl) (fun w' hw' => ⟨by simp at h1 h2;simp[ceilV,ceilB,h1,h2],hw'.upd⟩) _ (.inl rfl)
  ·refine rn [12,15,7,1,2] ?_
   refine s_q (yZ (z:=a-1) rfl rfl (by unfold U64 at *;simp at h1 h2;rw[IntKind.wrap_u64];omega)) rfl ?_
   refine rn [2] ?_
   refine s_q (q_quo rfl rfl (by simpa using h1)) rfl ?_
   refine g_val 15 (v' := .int .u64 ((a-1)/d)) rfl (by unfold U64 at *;simp at h1 h2;have e1:(a-1).tdiv d=(a-1)/d:=Int.tdiv_eq_ediv_of_nonneg (by omega);have e2:0≤(a-1)/d:=Int.ediv_nonneg (by omega) (by omega);have e3:(a-1)/d≤a-1:=Int.ediv_le_self _ (by omega);rw[e1,wu64 e2 (by omega)]) ?_
   refine s_q (yJ (z:=(a-1)/d+1) rfl rfl (by unfold U64 at *;simp at h1 h2;have e2:0≤(a-1)/d:=Int.ediv_nonneg (by omega) (by omega);have e3:(a-1)/d≤a-1:=Int.ediv_le_self _ (by omega);rw[wu64 (by omega) (by omega)])) rfl ?_
   refine rn [3,3,0,11] ?_
   exact fin2 rfl (.tmp rfl) (.tmp rfl) (fun w' hw' => ⟨by simp at h1 h2;simp[ceilV,ceilB,h1,h2],hw'.upd⟩) _ (.inl rfl)
theorem epo_any (a d:Int) (w:World) (ha:U64 a) (hd:U64 d):Pur Tryz.prog 25 [.int .u64 a,.int .u64 d] w (.tuple [.int .i64 (epoV a d),.bool (epoB a d)].toArray):=by
 refine g_st Tryz.func25 22 (WOK.start [] _) ?_
 refine rn [1,3,3,0,1,2,2] ?_
 refine g_op (zI rfl (fun w1 hw1=>ceil_any _ _ w1 ha hd) rfl ?_)
 refine rn [2,40,40,3,3,0,8,1,2,48,2] ?_
 refine zU 16 rfl (fun h1=>?_) (fun h1=>?_)
 ·refine rn [21,21,41,0,19,1,3,3,0,11,13] ?_
  exact fin2 rfl (.tmp rfl) (.tmp rfl) (fun w' hw' => ⟨by first|(simp_all[epoV,epoB,ceilB];done)|(simp_all[epoV,epoB,ceilB];omega),hw'.upd⟩) _ (.inl rfl)
 ·refine rn [22,2,22,55,42,0] ?_
  refine zC rfl (fun h2=>?_) (fun h2=>?_)
  ·refine rn [1,3,3,0,11,13] ?_
   exact fin2 rfl (.tmp rfl) (.tmp rfl) (fun w' hw' => ⟨by first|(simp_all[epoV,epoB,ceilB];done)|(simp_all[epoV,epoB,ceilB];omega),hw'.upd⟩) _ (.inl rfl)
  ·refine rn [12,7,1,2] ?_
   refine s_q (yR (z:=ceilV a d) rfl (by have h0:=ceil_bd ha hd;simp[ceilB] at h1;simp at h2;rw[wi64 (by omega) (by omega)])) rfl ?_
   refine rn [3,3,0,11] ?_
   exact fin2 rfl (.tmp rfl) (.tmp rfl) (fun w' hw' => ⟨by first|(simp_all[epoV,epoB,ceilB];done)|(simp_all[epoV,epoB,ceilB];omega),hw'.upd⟩) _ (.inl rfl)
theorem rT (e:Int) (A:Option Addr) (n cap:Nat) (l:List Int) (w:World) (he:I64 e) (hl:Rd w [] A n 1 (l.map (fun v:Int=>[Value.int .i64 v]))) (hok:∀x∈l,I64 x) (hb:n≤1000):Keep Tryz.prog 244 [.int .i64 e,.slice A n cap] w [] (.tuple [.int .i64 (latV (e :: l)),.bool (latB (e :: l))].toArray):=by
 refine g_st Tryz.func244 31 (WOK.start (fps []) _) ?_
 have hn:n=l.length:=by simpa using hl.old.len
 refine rn [1,3,3,0,1,3,0,8,1,2] ?_
 refine g_op (g_lit rfl rfl rfl rfl rfl fun b10=>?_)
 refine zF (b:=b10) ((([e]:List Int).map (fun v:Int=>[Value.int .i64 v])).flatten) rfl ?_
 refine rn [2] ?_
 refine xR (b:=b10) 1 1 (([e]:List Int).map (fun v:Int=>[Value.int .i64 v])) (zW (c:=(fun v:Int=>[Value.int .i64 v])) (fun _=>rfl) _) rfl rfl (by decide) ?_
 refine g_op (zZ (A:=(some ⟨b10,0,none⟩)) (els:=(([e]:List Int)).map (fun v:Int=>[Value.int .i64 v])) (news:=((l).map (fun v:Int=>[Value.int .i64 v]))) rfl rfl hl.rdb (yF (c:=(fun v:Int=>[Value.int .i64 v])) (by intro x;simp[Value.oneCell']) _) (by first|omega|(simp;omega)|(simp_all;omega)) rfl fun A12 cap12=>⟨_,inferInstance,?_⟩)
 refine zH (A:=A12) (((([e]:List Int)++l)).map (fun v:Int=>[Value.int .i64 v])) (by first|rfl|exact List.map_append.symm|(simp;done)) ?_
 refine zH (A:=A12) ((e :: l).map (fun v:Int=>[Value.int .i64 v])) (by simp) ?_
 refine yB (A:=A12) (e :: l).length (by simp;omega) ?_
 refine g_val 12 (v' := .slice A12 (e :: l).length cap12) rfl (by first|rfl|(simp[hn];omega)|(simp;omega)) ?_
 refine rn [47,2,0,14] ?_
 refine g_lk [4,5,12,13] (fun(x:Nat)=>[(6,.int .i64 (((e :: l).take x).sum)),(14,.int .i64 ((x:Nat):Int))]) (fun(x:Nat)=>[Res.row A12 (e :: l).length cap12 3 1 ((e :: l).map (fun v:Int=>[Value.int .i64 v]))]) (fun(x:Nat)=>x≤(e :: l).length∧(∀y∈(e :: l).take x,0≤y)∧((e :: l).take x).sum≤1099511627776) (fun(x:Nat)=>(e :: l).length-x) 0 (by(try dsimp only);exact⟨Nat.zero_le _,(by simp),(by simp)⟩) ?_
 rintro k ⟨le_k,hs,ht⟩
 replace le_k:k≤(e :: l).length:=le_k
 replace hs:∀y∈(e :: l).take k,0≤y:=hs
 replace ht:((e :: l).take k).sum≤1099511627776:=ht
 refine rn [1,46,0,8] ?_
 refine zC rfl (fun h1=>?_) (fun h1=>?_)
 ·have lt_k:k<(e :: l).length:=by have h9:=of_decide_eq_true h1;omega
  have hx:I64 ((e :: l)[k]):=by
    have hm:(e :: l)[k]∈(e :: l):=List.getElem_mem _
    rcases List.mem_cons.1 hm with h|h
    · rw[h];exact he
    · exact hok _ h
  unfold I64 at hx
  have h8:(e :: l).length≤1001:=by simp;omega
  have hs9:=xF hs
  refine rn [12,7,8,14,1] ?_
  refine s_q (zP (i:=k) rfl rfl rfl (ird (A:=A12)) (by first|exact lt_k|omega)) rfl ?_
  refine s_q (yI (i:=k) (o:=0) rfl (ird (A:=A12)) (zR (by first|assumption|omega|(simp_all;done)|(simp_all;omega))) rfl rfl) rfl ?_
  refine rn [3,0,8,1,2,46,2] ?_
  refine zU 20 rfl (fun h2=>?_) (fun h2=>?_)
  ·refine rn [21,21,21,21,41,0,19,1,3,3,0,11] ?_
   refine zE (zM (zE (zE (zM (zE ?_)))))
   exact fin2 rfl (.tmp rfl) (.tmp rfl) (fun w' hw' => ⟨(),trivial,by have h7:=lat_not lt_k hs (.inl (by simpa using h2));rw[latV,h7];rfl,zA w' hw'⟩) _ (.inl rfl)
  ·refine rn [22,2,22,2] ?_
   refine s_qg (yZ (z:=1099511627776-((e :: l).take k).sum) rfl rfl (by rw[wi64 (by omega) (by omega)])) rfl rfl rfl ?_
   refine rn [22,55,42,0] ?_
   refine zC rfl (fun h3=>?_) (fun h3=>?_)
   ·refine rn [1,3,3,0,11] ?_
    refine zE (zM (zE (zE (zM (zE ?_)))))
    exact fin2 rfl (.tmp rfl) (.tmp rfl) (fun w' hw' => ⟨(),trivial,by have h7:=lat_not lt_k hs (.inr (by simp at h3;omega));rw[latV,h7];rfl,zA w' hw'⟩) _ (.inl rfl)
   ·refine rn [12,7,10,2,2] ?_
    refine s_q (yJ (z:=((e :: l).take (k+1)).sum) rfl rfl (by have h9:=lat_succ lt_k hs (by simpa using h2);simp at h3;rw[wi64 (by omega) (by omega)];omega)) rfl ?_
    refine rn [3,9,15,7,10,43,2,9] ?_
    exact g_ag (k+1) (by(try dsimp only);exact⟨(by first|exact lt_k|omega),(lat_succ lt_k hs (by simpa using h2)).1,(by have h9:=lat_succ lt_k hs (by simpa using h2);simp at h3;omega)⟩)
 ·have eq_k:k=(e :: l).length:=by have h9:=of_decide_eq_false h1;omega
  refine rn [16] ?_
  refine zD (zD (zN ?_))
  refine rn [7,1,2,3,3,0,11] ?_
  exact fin2 rfl (.tmp rfl) (.tmp rfl) (fun w' hw' => ⟨(),trivial,by rw[eq_k,List.take_length] at hs ht ⊢;have h7:latB (e :: l)=true:=decide_eq_true ⟨hs,ht⟩;rw[latV,h7];rfl,zA w' hw'⟩) _ (.inl rfl)
structure Cok (c:C):Prop where
 capa:1≤c.capa∧c.capa≤4096
 minch:1≤c.minch∧c.minch≤1152921504606846976
 fcap:0≤c.fcap∧c.fcap≤1152921504606846976
 unb:1≤c.unb∧c.unb≤1048576
 sld:c.unb<c.sld∧c.sld≤1048576
 elen:1≤c.elen∧c.elen≤4096
 vis:1≤c.vis∧c.vis≤4096
 pays:1≤c.pays∧c.pays≤4096
 parts:0≤c.parts∧c.parts<c.vis∧c.parts<c.pays
theorem sO {c:C} (h:chk c=0) (hk:c.ok):Cok c:=by
 have h1:=zT h 1 (by omega) (by omega)
 have h8:=zT h 8 (by omega) (by omega)
 have h10:=zT h 10 (by omega) (by omega)
 have h11:=zT h 11 (by omega) (by omega)
 have h12:=zT h 12 (by omega) (by omega)
 have h14:=zT h 14 (by omega) (by omega)
 have h15:=zT h 15 (by omega) (by omega)
 have h16:=zT h 16 (by omega) (by omega)
 have h17:=zT h 17 (by omega) (by omega)
 simp[rightB,btw] at h1 h8 h10 h11 h12 h14 h15 h16 h17
 have:=hk.fcap
 exact⟨h1,h8,⟨by omega,h10⟩,h11,h12,h14,h15,h16,h17⟩
def blN (c:C):Int:=min (c.vis-c.parts) (c.pays-c.parts)
def blocksV (c:C):Int:=(c.capa-1)/blN c+1
def sweepV (c:C):Int:=(blocksV c-1)/c.elen
theorem wK {c:C} (h:Cok c):1≤blN c∧blN c≤4096:=by
 have:=h.parts;have:=h.vis;have:=h.pays
 unfold blN;omega
theorem xA {c:C} (h:Cok c):1≤blocksV c∧blocksV c≤4096:=by
 have h1:=h.capa;have h2:=wK h
 have h3:0≤(c.capa-1)/blN c:=Int.ediv_nonneg (by omega) (by omega)
 have h4:(c.capa-1)/blN c≤c.capa-1:=Int.ediv_le_self _ (by omega)
 unfold blocksV;omega
theorem pI {c:C} (h:Cok c):0≤sweepV c∧sweepV c≤4096:=by
 have h1:=xA h;have h2:=h.elen
 have h3:0≤(blocksV c-1)/c.elen:=Int.ediv_nonneg (by omega) (by omega)
 have h4:(blocksV c-1)/c.elen≤blocksV c-1:=Int.ediv_le_self _ (by omega)
 unfold sweepV;omega
def bndB (a b:Int) (c:C):Bool:=addB [a,b,c.fcap] && epoB (addV [a,b,c.fcap]) c.minch
def bndV (a b:Int) (c:C):Int:=if bndB a b c then max (epoV (addV [a,b,c.fcap]) c.minch) 1 else 0
def bdsB (e a b:Int) (c:C) (l:List Int):Bool:=bndB a b c && latB (e :: ([bndV a b c,1]++l))
def bdsV (e a b:Int) (c:C) (l:List Int):Int:=if bndB a b c then latV (e :: ([bndV a b c,1]++l)) else 0
theorem okU3 {a b d:Int} (ha:U64 a) (hb:U64 b) (hd:U64 d):okU [a,b,d]:=by
 intro x hx
 simp at hx
 rcases hx with rfl|rfl|rfl<;>assumption
theorem addV_U {l:List Int} (h:okU l):U64 (addV l):=by
 unfold addV U64
 split
 ·exact⟨xF fun x hx=>(h x hx).1,by assumption⟩
 ·omega
theorem bnd_bd {a b:Int} {c:C} (ha:U64 a) (hb:U64 b) (h:Cok c):0≤bndV a b c∧bndV a b c≤1099511627776:=by
 unfold bndV
 split
 ·rename_i h1
  simp only[bndB,Bool.and_eq_true] at h1
  have h2:=h1.2
  simp only[epoB,Bool.and_eq_true,decide_eq_true_eq] at h2
  unfold epoV
  rw[if_pos h1.2]
  omega
 ·omega
theorem okI2 {a b:Int} {c:C} {l:List Int} (ha:U64 a) (hb:U64 b) (hc:Cok c) (hok:∀x∈l,I64 x):∀x∈[bndV a b c,1]++l,I64 x:=by
 intro x hx
 have hbd:=bnd_bd (c:=c) ha hb hc
 simp only[List.mem_append,List.mem_cons,List.not_mem_nil,or_false] at hx
 rcases hx with(rfl|rfl)|hx
 ·exact⟨by omega,by omega⟩
 ·exact⟨by omega,by omega⟩
 ·exact hok x hx
theorem okM2 {c:C} (hc:Cok c):∀x∈[c.unb,sweepV c],I64 x:=by
 intro x hx
 have h1:=hc.unb
 have h2:=pI hc
 simp only[List.mem_cons,List.not_mem_nil,or_false] at hx
 rcases hx with rfl|rfl<;>exact⟨by omega,by omega⟩
theorem Cok.U {c:C} (h:Cok c):U64 c.fcap∧U64 c.minch:=by
 have:=h.fcap;have:=h.minch;unfold U64;omega
theorem sv_any (c:C) (w:World) (hc:Cok c):Pur Tryz.prog 138 [c.v] w (.int .i64 (c.vis-c.parts)):=by
 refine g_st Tryz.func138 8 (WOK.start [] _) ?_
 refine rn [1] ?_
 refine g_op (g_box rfl rfl rfl fun b1=>?_)
 refine rn [3,0,1,4,5,4,5] ?_
 refine s_q (yZ (z:=c.vis-c.parts) rfl rfl (by have h1:=hc.parts;have h2:=hc.vis;have h3:=hc.pays;have h4:=hc.capa;have h5:=wK hc;have h6:=xA hc;have h7:=hc.elen;rw[wi64 (by omega) (by omega)])) rfl ?_
 refine rn [3,0,11] ?_
 exact fin1 rfl (.tmp rfl) (fun w' hw' => ⟨by rfl,hw'.upd⟩) _ (.inl rfl)
theorem sp_any (c:C) (w:World) (hc:Cok c):Pur Tryz.prog 139 [c.v] w (.int .i64 (c.pays-c.parts)):=by
 refine g_st Tryz.func139 8 (WOK.start [] _) ?_
 refine rn [1] ?_
 refine g_op (g_box rfl rfl rfl fun b1=>?_)
 refine rn [3,0,1,4,5,4,5] ?_
 refine s_q (yZ (z:=c.pays-c.parts) rfl rfl (by have h1:=hc.parts;have h2:=hc.vis;have h3:=hc.pays;have h4:=hc.capa;have h5:=wK hc;have h6:=xA hc;have h7:=hc.elen;rw[wi64 (by omega) (by omega)])) rfl ?_
 refine rn [3,0,11] ?_
 exact fin1 rfl (.tmp rfl) (fun w' hw' => ⟨by rfl,hw'.upd⟩) _ (.inl rfl)
theorem sb_any (c:C) (w:World) (hc:Cok c):Pur Tryz.prog 84 [c.v] w (.int .i64 (blocksV c)):=by
 refine g_st Tryz.func84 15 (WOK.start [] _) ?_
 refine rn [1] ?_
 refine g_op (g_box rfl rfl rfl fun b1=>?_)
 refine rn [3,0,8] ?_
 refine dreg [] mixed rfl ?_
 refine rn [23,0,45,23,2,45] ?_
 refine dop 1 rfl (zI rfl (fun w1 hw1=>sv_any c w1 hc) rfl ?_)
 refine dop 3 rfl (zI rfl (fun w1 hw1=>sp_any c w1 hc) rfl ?_)
 refine rn [23,4,58] ?_
 refine g_val 8 (v' := .int .i64 (blN c)) rfl (rfl) ?_
 refine rn [23,5,3,27,7,1,4,5] ?_
 refine s_q (yZ (z:=c.capa-1) rfl rfl (by have h1:=hc.parts;have h2:=hc.vis;have h3:=hc.pays;have h4:=hc.capa;have h5:=wK hc;have h6:=xA hc;have h7:=hc.elen;rw[wi64 (by omega) (by omega)])) rfl ?_
 refine rn [2] ?_
 refine s_q (q_quo rfl rfl (by have h1:=hc.parts;have h2:=hc.vis;have h3:=hc.pays;have h4:=hc.capa;have h5:=wK hc;have h6:=xA hc;have h7:=hc.elen;omega)) rfl ?_
 refine g_val 13 (v' := .int .i64 ((c.capa-1)/blN c)) rfl (by have h1:=hc.parts;have h2:=hc.vis;have h3:=hc.pays;have h4:=hc.capa;have h5:=wK hc;have h6:=xA hc;have h7:=hc.elen;have e3:0≤(c.capa-1)/blN c:=Int.ediv_nonneg (by omega) (by omega);have e4:(c.capa-1)/blN c≤c.capa-1:=Int.ediv_le_self _ (by omega);rw[Int.tdiv_eq_ediv_of_nonneg (by omega),wi64 (by omega) (by omega)]) ?_
 refine s_q (yJ (z:=blocksV c) rfl rfl (by have h1:=hc.parts;have h2:=hc.vis;have h3:=hc.pays;have h4:=hc.capa;have h5:=wK hc;have h6:=xA hc;have h7:=hc.elen;have e3:0≤(c.capa-1)/blN c:=Int.ediv_nonneg (by omega) (by omega);have e4:(c.capa-1)/blN c≤c.capa-1:=Int.ediv_le_self _ (by omega);rw[wi64 (by omega) (by omega)];rfl)) rfl ?_
 refine rn [3,0,11] ?_
 exact fin1 rfl (.tmp rfl) (fun w' hw' => ⟨by rfl,hw'.upd⟩) _ (.inl rfl)
theorem sw_any (c:C) (w:World) (hc:Cok c):Pur Tryz.prog 28 [c.v] w (.int .i64 (sweepV c)):=by
 refine g_st Tryz.func28 9 (WOK.start [] _) ?_
 refine rn [1] ?_
 refine g_op (g_box rfl rfl rfl fun b1=>?_)
 refine rn [3,0,8] ?_
 refine dreg [] mixed rfl ?_
 refine rn [23,0,45,23,3,4,23,4,5] ?_
 refine dop 1 rfl (zI rfl (fun w1 hw1=>sb_any c w1 hc) rfl ?_)
 refine dq 2 rfl (yZ (z:=blocksV c-1) rfl rfl (by have h1:=hc.parts;have h2:=hc.vis;have h3:=hc.pays;have h4:=hc.capa;have h5:=wK hc;have h6:=xA hc;have h7:=hc.elen;rw[wi64 (by omega) (by omega)])) ?_
 refine dq 5 rfl (q_quo rfl rfl (by have h1:=hc.parts;have h2:=hc.vis;have h3:=hc.pays;have h4:=hc.capa;have h5:=wK hc;have h6:=xA hc;have h7:=hc.elen;omega)) ?_
 refine g_val 8 (v' := .int .i64 (sweepV c)) rfl (by have h1:=hc.parts;have h2:=hc.vis;have h3:=hc.pays;have h4:=hc.capa;have h5:=wK hc;have h6:=xA hc;have h7:=hc.elen;have e3:0≤(blocksV c-1)/c.elen:=Int.ediv_nonneg (by omega) (by omega);have e4:(blocksV c-1)/c.elen≤blocksV c-1:=Int.ediv_le_self _ (by omega);rw[Int.tdiv_eq_ediv_of_nonneg (by omega),wi64 (by omega) (by omega)];rfl) ?_
 refine rn [23,6,3,27,7,11] ?_
 exact fin1 rfl (.tmp rfl) (fun w' hw' => ⟨by rfl,hw'.upd⟩) _ (.inl rfl)
theorem bnd_any (a b:Int) (c:C) (w:World) (ha:U64 a) (hb:U64 b) (hc:Cok c):Pur Tryz.prog 289 [.int .u64 a,.int .u64 b,c.v] w (.tuple [.int .i64 (bndV a b c),.bool (bndB a b c)].toArray):=by
 refine g_st Tryz.func289 33 (WOK.start [] _) ?_
 refine rn [1] ?_
 refine g_op (g_box rfl rfl rfl fun b5=>?_)
 refine rn [3,3,0,1,2,2,4,5] ?_
 refine g_op (g_lit rfl rfl rfl rfl rfl fun b16=>?_)
 refine zF (b:=b16) ((([a,b,(c).fcap]:List Int).map (fun v:Int=>[Value.int .u64 v])).flatten) rfl ?_
 refine g_op (zI rfl (fun w1 hw1=>vP (some ⟨b16,0,none⟩) (3) (3) (([a,b,(c).fcap]:List Int)) w1 (Rdb.toOld (InL.rdb (b:=b16) (els:=(([a,b,(c).fcap]:List Int)).map (fun v:Int=>[Value.int .u64 v])) rfl (by simp) rfl) hw1) (okU3 ha hb hc.U.1) (by first|omega|(simp;omega)|(simp;done))) rfl ?_)
 refine rn [2,40,40,3,3,0,8,1,2,48,0] ?_
 refine zC rfl (fun h1=>?_) (fun h1=>?_)
 ·refine rn [1,3,3,0,11,13] ?_
  exact fin2 rfl (.tmp rfl) (.tmp rfl) (fun w' hw' => ⟨by first|(simp_all[bndV,bndB];done),hw'.upd⟩) _ (.inl rfl)
 ·refine rn [12,7,1,2,4,5] ?_
  refine g_op (zI rfl (fun w1 hw1=>epo_any _ _ w1 (addV_U (okU3 ha hb hc.U.1)) hc.U.2) rfl ?_)
  refine rn [2,40,40,3,3,0,8,1,2,48,0] ?_
  refine zC rfl (fun h2=>?_) (fun h2=>?_)
  ·refine rn [1,3,3,0,11,13] ?_
   exact fin2 rfl (.tmp rfl) (.tmp rfl) (fun w' hw' => ⟨by first|(simp_all[bndV,bndB];done),hw'.upd⟩) _ (.inl rfl)
  ·refine rn [12,7,1,2,59,3,3,0,11] ?_
   exact fin2 rfl (.tmp rfl) (.tmp rfl) (fun w' hw' => ⟨by first|(simp_all[bndV,bndB];done),hw'.upd⟩) _ (.inl rfl)
theorem bounds_any (e a b:Int) (c:C) (w:World) : Own2 (ι:=(Nat × Nat × Nat × Nat)) Tryz.prog 246 [.int .i64 e,.int .u64 a,.int .u64 b,c.v] w [] (fun x=>True) (fun x=>.func (.func 288) #[] [.pointer (some ⟨x.1,0,none⟩),.pointer (some ⟨x.2.1,0,none⟩),.pointer (some ⟨x.2.2.1,0,none⟩),.pointer (some ⟨x.2.2.2,0,none⟩)].toArray) (fun x=>[Res.blk x.1 22 [Value.int .u64 a],Res.blk x.2.1 22 [Value.int .u64 b],Res.blk x.2.2.1 24 c.c,Res.blk x.2.2.2 3 [Value.int .i64 e]]) (fun x=>[]):=by
 refine g_st Tryz.func246 10 (WOK.start (fps []) _) ?_
 refine rn [1] ?_
 refine g_op (g_box rfl rfl rfl fun b4=>?_)
 refine g_op (g_box rfl rfl rfl fun b5=>?_)
 refine g_op (g_box rfl rfl rfl fun b6=>?_)
 refine g_op (g_box rfl rfl rfl fun b7=>?_)
 refine rn [3,0,1,52,3,0,11] ?_
 exact fin1 rfl (.tmp rfl) (fun w' hw' => ⟨(b5,b6,b7,b4),(by exact trivial),by first|rfl|(simp_all;done),zA w' hw'⟩) _ (.inl rfl)
theorem bds_any (q1 q2 q3 q4:Nat) (e a b:Int) (c:C) (A:Option Addr) (n cap:Nat) (l:List Int) (w:World) (hw:W0 [Res.blk q1 22 [Value.int .u64 a],Res.blk q2 22 [Value.int .u64 b],Res.blk q3 24 c.c,Res.blk q4 3 [Value.int .i64 e]] w) (ha:U64 a) (hb:U64 b) (hc:Cok c) (he:I64 e) (hl:Rd w [Res.blk q1 22 [Value.int .u64 a],Res.blk q2 22 [Value.int .u64 b],Res.blk q3 24 c.c,Res.blk q4 3 [Value.int .i64 e]] A n 1 (l.map (fun v:Int=>[Value.int .i64 v]))) (hok:∀x∈l,I64 x) (hn9:n≤100):Keep Tryz.prog 288 [.slice A n cap,.pointer (some ⟨q1,0,none⟩),.pointer (some ⟨q2,0,none⟩),.pointer (some ⟨q3,0,none⟩),.pointer (some ⟨q4,0,none⟩)] w [Res.blk q1 22 [Value.int .u64 a],Res.blk q2 22 [Value.int .u64 b],Res.blk q3 24 c.c,Res.blk q4 3 [Value.int .i64 e]] (.tuple [.int .i64 (bdsV e a b c l),.bool (bdsB e a b c l)].toArray):=by
 refine g_st Tryz.func288 27 hw ?_
 have hn:n=l.length:=by simpa using hl.old.len
 refine rn [1,3,3,0,1,5,5,45] ?_
 refine g_op (zI rfl (fun w1 hw1=>bnd_any _ _ _ w1 ha hb hc) rfl ?_)
 refine rn [2,40,40,3,3,0,8,1,2,48,0] ?_
 refine zC rfl (fun h1=>?_) (fun h1=>?_)
 ·refine rn [1,3,3,0,11,13] ?_
  exact fin2 rfl (.tmp rfl) (.tmp rfl) (fun w' hw' => ⟨(),trivial,by first|(simp_all[bdsV,bdsB];done),zA w' hw'⟩) _ (.inl rfl)
 ·refine rn [12,7,8] ?_
  refine dreg [] mixed rfl ?_
  refine rn [23,0,5,23,1,2,23,3,2] ?_
  refine dop 2 rfl (g_lit rfl rfl rfl rfl rfl fun b21=>?_)
  refine zF (b:=b21) ((([(bndV (a) (b) (c)),1]:List Int).map (fun v:Int=>[Value.int .i64 v])).flatten) rfl ?_
  refine xR (b:=b21) 1 2 (([(bndV (a) (b) (c)),1]:List Int).map (fun v:Int=>[Value.int .i64 v])) (zW (c:=(fun v:Int=>[Value.int .i64 v])) (fun _=>rfl) _) rfl rfl (by decide) ?_
  refine dop 4 rfl (zZ (A:=(some ⟨b21,0,none⟩)) (els:=(([(bndV (a) (b) (c)),1]:List Int)).map (fun v:Int=>[Value.int .i64 v])) (news:=((l).map (fun v:Int=>[Value.int .i64 v]))) rfl rfl hl.rdb (yF (c:=(fun v:Int=>[Value.int .i64 v])) (by intro x;simp[Value.oneCell']) _) (by first|omega|(simp;omega)|(simp_all;omega)) rfl fun A23 cap23=>⟨_,inferInstance,?_⟩)
  refine zH (A:=A23) (((([(bndV (a) (b) (c)),1]:List Int)++l)).map (fun v:Int=>[Value.int .i64 v])) (by first|rfl|exact List.map_append.symm|(simp;done)) ?_
  refine dop 5 rfl (zL [] rfl (fun w1 hw1 ho1=>by exact rT (e) A23 ((2+n)) (cap23) ((([(bndV (a) (b) (c)),1]:List Int)++l)) w1 he (Rd.ofRow (A:=A23) hw1) (okI2 ha hb hc hok) (by first|omega|(simp;omega)|(simp;done))) rfl ?_)
  refine rn [23,6,40,23,7,40,23,8,3,23,9,3,27,7,11] ?_
  exact fin2 rfl (.tmp rfl) (.tmp rfl) (fun w' hw' => ⟨(),trivial,by first|(simp_all[bdsV,bdsB];done),zA w' hw'⟩) _ (.inl rfl)
theorem pay_any (e a b:Int) (c:C) (w:World) (ha:U64 a) (hb:U64 b) (hc:Cok c) (he:I64 e):Pur Tryz.prog 169 [.int .i64 e,.int .u64 a,.int .u64 b,c.v] w (.tuple [.int .i64 (bdsV e a b c [c.unb,sweepV c]),.bool (bdsB e a b c [c.unb,sweepV c])].toArray):=by
 refine g_st Tryz.func169 23 (WOK.start [] _) ?_
 refine rn [1] ?_
 refine g_op (g_box rfl rfl rfl fun b7=>?_)
 refine rn [3,3,0,8] ?_
 refine dreg [] mixed rfl ?_
 refine rn [23,0,2,23,1,2,23,2,2,23,3,45,23,5,4,23,6,5,23,7,45] ?_
 refine dop 4 rfl (zG [] rfl (fun w1 hw1 ho1=>by have h7:=bounds_any e a b c w1;exact h7) rfl ?_)
 rintro⟨ba,bb,bc,bd⟩ _
 refine ii ?_
 refine dop 8 rfl (zI rfl (fun w1 hw1=>sw_any c w1 hc) rfl ?_)
 refine dop 9 rfl (g_lit rfl rfl rfl rfl rfl fun b19=>?_)
 refine zF (b:=b19) ((([(c).unb,sweepV c]:List Int).map (fun v:Int=>[Value.int .i64 v])).flatten) rfl ?_
 refine dop 10 rfl (g_keepV [Res.blk ba 22 [Value.int .u64 a],Res.blk bb 22 [Value.int .u64 b],Res.blk bc 24 c.c,Res.blk bd 3 [Value.int .i64 e]] rfl rfl (fun w1 hw1 ho1=>by have h7:=bds_any ba bb bc bd e a b c (some ⟨b19,0,none⟩) 2 2 ([(c).unb,sweepV c]:List Int) w1 ho1 ha hb hc he (Rd.ofBlk (b:=b19) (els:=([(c).unb,sweepV c]:List Int).map (fun v:Int=>[Value.int .i64 v])) hw1 rfl (by simp) rfl) (okM2 hc) (by omega);exact h7) rfl ?_)
 refine rn [23,11,40,23,12,40,23,13,3,23,14,3,27,7,11] ?_
 exact fin2 rfl (.tmp rfl) (.tmp rfl) (fun w' hw' => ⟨by rfl,hw'.upd⟩) _ (.inl rfl)
end Go.Proofs.YtdddiilocbbkkaaGreat
