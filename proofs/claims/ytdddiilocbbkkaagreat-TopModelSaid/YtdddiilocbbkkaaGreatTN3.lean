/- TopModel, part 3. No condition. -/
import Derived.Test.YtdddiilocbbkkaaGreatTN2
import Derived.Laws.Bits64b
import Derived.RecoverIn
import Derived.Lib.Mul64
import Derived.Laws.Strings
import Derived.Test.YtdddiilocbbkkaaGreatRows
set_option linter.unusedVariables false
set_option linter.unusedSimpArgs false
namespace Go.Eg
open Go.RowKit
def bm (n m:Nat):Array Bool:=((List.range n).map m.testBit).toArray
theorem rx (n:Nat):bm n 0=Array.replicate n false:=by
 apply Array.ext
 ·simp[bm]
 intro i h1 h2;simp[bm]
theorem vT (n m i:Nat):(bm n m).setIfInBounds i true=bm n (m ||| 2 ^ i):=by
 apply Array.ext
 ·simp[bm]
 intro j h1 h2;simp only[bm,List.getElem_toArray,List.getElem_map,List.getElem_range,Nat.testBit_or,Nat.testBit_two_pow];by_cases h:i=j<;>simp[h]
structure At (is:List Nat) (B:Prop):Prop where
 go:B
structure QR (c:Nat) (P:Program) (κ:Cx) (e:Env) (L:List Res) (o:Oper) (v:Value):Prop where
 q:cf P κ e L o v
structure Hid (A:Prop):Prop where
 h:A
theorem at0 {A:Prop} (h:Hid A):At [] A:=⟨h.h⟩
section
variable {P:Program} {κ:Cx} {e:Env} {L:List Res} {o:Oper} {v:Value}
theorem qr2 (q:cf P κ e L o v):QR 2 P κ e L o v:=⟨q⟩
theorem qr3 (q:cf P κ e L o v):QR 3 P κ e L o v:=⟨q⟩
theorem qr4 (q:cf P κ e L o v):QR 4 P κ e L o v:=⟨q⟩
theorem qr5 (q:cf P κ e L o v):QR 5 P κ e L o v:=⟨q⟩
theorem qr6 (q:cf P κ e L o v):QR 6 P κ e L o v:=⟨q⟩
theorem yl (q:cf P κ e L o v):QR 40 P κ e L o v:=⟨q⟩
theorem yj (q:cf P κ e L o v):QR 41 P κ e L o v:=⟨q⟩
theorem yi (q:cf P κ e L o v):QR 42 P κ e L o v:=⟨q⟩
theorem yh (q:cf P κ e L o v):QR 43 P κ e L o v:=⟨q⟩
theorem yg (q:cf P κ e L o v):QR 44 P κ e L o v:=⟨q⟩
theorem yf (q:cf P κ e L o v):QR 45 P κ e L o v:=⟨q⟩
theorem ye (q:cf P κ e L o v):QR 46 P κ e L o v:=⟨q⟩
theorem yd (q:cf P κ e L o v):QR 47 P κ e L o v:=⟨q⟩
theorem yc (q:cf P κ e L o v):QR 48 P κ e L o v:=⟨q⟩
theorem yb (q:cf P κ e L o v):QR 49 P κ e L o v:=⟨q⟩
theorem ya (q:cf P κ e L o v):QR 50 P κ e L o v:=⟨q⟩
theorem xz (q:cf P κ e L o v):QR 51 P κ e L o v:=⟨q⟩
theorem xy (q:cf P κ e L o v):QR 52 P κ e L o v:=⟨q⟩
theorem xx (q:cf P κ e L o v):QR 53 P κ e L o v:=⟨q⟩
theorem xw (q:cf P κ e L o v):QR 54 P κ e L o v:=⟨q⟩
theorem xu (q:cf P κ e L o v):QR 55 P κ e L o v:=⟨q⟩
theorem xt (q:cf P κ e L o v):QR 56 P κ e L o v:=⟨q⟩
theorem xq (q:cf P κ e L o v):QR 57 P κ e L o v:=⟨q⟩
theorem xp (q:cf P κ e L o v):QR 58 P κ e L o v:=⟨q⟩
theorem xo (q:cf P κ e L o v):QR 59 P κ e L o v:=⟨q⟩
theorem xn (q:cf P κ e L o v):QR 60 P κ e L o v:=⟨q⟩
theorem xm (q:cf P κ e L o v):QR 61 P κ e L o v:=⟨q⟩
theorem xl (q:cf P κ e L o v):QR 62 P κ e L o v:=⟨q⟩
structure SW (P:Program) (κ:Cx) (e:Env) (L:List Res) (o:Oper) (L' : List Res):Prop where
 go:∀{X:Act→World→Prop} (Q:Exit→Act→World→Prop),G κ e L' X→G κ e L (owp κ.ρ P o Q X)
theorem Gi {ty:TypeId} {s:String} {af:Array Edge} {gd:Option (Nat × Bool)} {T n b T' : Nat} {x y:Operand} {vs c:List Value} {L' : List Res} [ht:Ty P T true n] (hx:ev e x=some (.pointer (some ⟨b,0,none⟩))) (hy:ev e y=some (.agg vs.toArray))
  (hn:Nat.beq vs.length n=true) (h1:vs.all Value.oneCell' = true) [_hi:InL L b T' c] (hle:Nat.beq c.length n=true) [hL:UpL L b T' c vs L']:SW P κ e L ⟨none,.store T x y,ty,s,af,gd⟩ L' := ⟨fun _ h=>zT hx hy hn h1 hle h⟩
end
section
variable {is:List Nat} {P:Program} {κ:Cx} {e:Env} {L L0:List Res} {Z:Act→World→Prop} {C:World→Prop} {Q:Exit→Act→World→Prop} {ops:Array Oper} {rest:List Oper} {T:List Nat} {c i:Nat} {d n m:Nat} {op:Op} {t:TypeId} {s:String} {af:Array Edge} {v:Value} {j:Nat} {b b2:Bool} {u:Tmp} {id:Nat} {fuel:Nat}
theorem rs0 (h:At is (G κ e L Z)):At (0 :: is) (G κ e L (wpListIn (FR κ.ρ) 0 P ops (Exit.then Z Q) [])):=⟨(fun h=>Dd (AQ h)) h.go⟩
theorem rs1 {l:List Oper} {y:Code} (h:At is (G κ e L (wpListIn (FR κ.ρ) 0 P l.toArray (Exit.then (y.wpIn (FR κ.ρ) 0 P Q) Q) l))):At (1 :: is) (G κ e L ((Code.seq (Code.region id l.toArray false) y).wpIn (FR κ.ρ) 0 P Q)):=⟨Dc (mr h.go)⟩
theorem rsq (h:At is (G κ ((d,v) :: e) L (wpListIn (FR κ.ρ) 0 P ops Q rest))) (hq:QR c P κ e L ⟨some d,op,t,s,af,none⟩ v:=by first|(apply qr2;exact iN rfl)|(apply qr3;exact tN rfl)|(apply qr4;exact rY rfl)|(apply qr5;exact vO rfl rfl)|(apply qr6;exact rV rfl)|(apply yl;exact uJ rfl rfl)|(apply yj;exact tK rfl rfl)|(apply yi;exact tL rfl rfl)|(apply yh;exact gB rfl rfl aK)|(apply yg;exact mR rfl rfl)|(apply yf;exact xT rfl rfl)|(apply ye;exact mL rfl rfl)|(apply yd;exact mO rfl)|(apply yc;exact mJ rfl)|(apply yb;exact yF rfl rfl)|(apply ya;exact gC (b:=false) rfl rfl rfl)|(apply xz;exact mK rfl rfl)|(apply xy;exact rX rfl rfl (fun _=>rfl))|(apply xx;exact mQ rfl rfl)|(apply xw;exact jo rfl rfl)|(apply xu;exact mP rfl rfl)|(apply xt;exact mN rfl rfl)|(apply xq;exact ji rfl rfl)|(apply xp;exact jl rfl rfl)|(apply xo;exact jm rfl rfl)|(apply xn;exact jj rfl rfl)|(apply xm;exact gC (b:=true) rfl rfl rfl)|(apply xl;exact qX rfl)) (hd:Nat.blt d κ.N=true:=by exact rfl):At (c :: is) (G κ e L (wpListIn (FR κ.ρ) 0 P ops Q (⟨some d,op,t,s,af,none⟩ :: rest))):=⟨s_q hq.q hd h.go⟩
theorem rs7 (h:At is (G κ e L Z)):At (7 :: is) (G κ e L (Exit.then Z Q .normal)):=⟨AQ h.go⟩
theorem rs9 (h:At is (G κ e L (Q .normal))):At (9 :: is) (G κ e L (wpListIn (FR κ.ρ) 0 P ops Q [])):=⟨Dd h.go⟩
theorem HC (h:At is (G κ e L (Q .ret))):At (11 :: is) (G κ e L (Code.ret.wpIn (FR κ.ρ) 0 P Q)):=⟨GF h.go⟩
theorem HB (h:At is (G κ e L (Q .normal))):At (12 :: is) (G κ e L (Code.skip.wpIn (FR κ.ρ) 0 P Q)):=⟨Er h.go⟩
theorem HA (h:At is (G κ e L (Q .ret))):At (13 :: is) (G κ e L (Exit.then Z Q .ret)):=⟨zD h.go⟩
theorem Gy (h:At is (G κ e L (Q .normal))):At (15 :: is) (G κ e L (Exit.inBlock id Q .normal)):=⟨Cp h.go⟩
theorem Gx (h:At is (G κ e L (Q (.exit id)))):At (16 :: is) (G κ e L ((Code.exit id).wpIn (FR κ.ρ) 0 P Q)):=⟨Ev h.go⟩
theorem Gw (h:At is (G κ e L (Q (.exit id)))):At (17 :: is) (G κ e L (Exit.then Z Q (.exit id))):=⟨zE h.go⟩
theorem Gv (h:At is (G κ e L (Q .ret))):At (18 :: is) (G κ e L (Exit.inBlock id Q .ret)):=⟨zL h.go⟩
theorem rs8 {x y:Code} (h:At is (G κ e L (x.wpIn (FR κ.ρ) 0 P (Exit.then (y.wpIn (FR κ.ρ) 0 P Q) Q)))):At (8 :: is) (G κ e L ((Code.seq x y).wpIn (FR κ.ρ) 0 P Q)):=⟨Dc h.go⟩
theorem HD {l:List Oper} (h:At is (G κ e L (wpListIn (FR κ.ρ) 0 P l.toArray Q l))):At (10 :: is) (G κ e L ((Code.region id l.toArray false).wpIn (FR κ.ρ) 0 P Q)):=⟨mr h.go⟩
theorem Gz {x:Code} (h:At is (G κ e L (x.wpIn (FR κ.ρ) 0 P (Exit.inBlock id Q)))):At (14 :: is) (G κ e L ((Code.block id x).wpIn (FR κ.ρ) 0 P Q)):=⟨Co h.go⟩
theorem Gu {x z:Code} {y:Operand} (h:At is (G κ e L (x.wpIn (FR κ.ρ) 0 P Q))) (hb:ev e y=some (.bool true):=by exact rfl):At (19 :: is) (G κ e L ((Code.cond y x z).wpIn (FR κ.ρ) 0 P Q)):=⟨Ep hb h.go⟩
theorem Gt {x z:Code} {y:Operand} (h:At is (G κ e L (z.wpIn (FR κ.ρ) 0 P Q))) (hb:ev e y=some (.bool false):=by exact rfl):At (20 :: is) (G κ e L ((Code.cond y x z).wpIn (FR κ.ρ) 0 P Q)):=⟨Cn hb h.go⟩
theorem Gs (h:At is (G κ ((d,undef) :: e) L (wpListIn (FR κ.ρ) 0 P ops Q rest))) (hj:(ops[j]?).bind (·.dst)=some u:=by exact rfl) (hu:look e u=some (.bool b2):=by exact rfl) (hc:(b2 == b)=false:=by exact rfl) (hd:Nat.blt d κ.N=true:=by exact rfl):At (21 :: is) (G κ e L (wpListIn (FR κ.ρ) 0 P ops Q (⟨some d,op,t,s,af,some (j,b)⟩ :: rest))):=⟨Ho hj hu hc hd h.go⟩
theorem Gr (h:At is (G κ ((d,v) :: e) L (wpListIn (FR κ.ρ) 0 P ops Q rest))) (hq:QR c P κ e L ⟨some d,op,t,s,af,some (j,b)⟩ v:=by first|(apply qr2;exact iN rfl)|(apply qr3;exact tN rfl)|(apply qr4;exact rY rfl)|(apply qr5;exact vO rfl rfl)|(apply qr6;exact rV rfl)|(apply yl;exact uJ rfl rfl)|(apply yj;exact tK rfl rfl)|(apply yi;exact tL rfl rfl)|(apply yh;exact gB rfl rfl aK)|(apply yg;exact mR rfl rfl)|(apply yf;exact xT rfl rfl)|(apply ye;exact mL rfl rfl)|(apply yd;exact mO rfl)|(apply yc;exact mJ rfl)|(apply yb;exact yF rfl rfl)|(apply ya;exact gC (b:=false) rfl rfl rfl)|(apply xz;exact mK rfl rfl)|(apply xy;exact rX rfl rfl (fun _=>rfl))|(apply xx;exact mQ rfl rfl)|(apply xw;exact jo rfl rfl)|(apply xu;exact mP rfl rfl)|(apply xt;exact mN rfl rfl)|(apply xq;exact ji rfl rfl)|(apply xp;exact jl rfl rfl)|(apply xo;exact jm rfl rfl)|(apply xn;exact jj rfl rfl)|(apply xm;exact gC (b:=true) rfl rfl rfl)|(apply xl;exact qX rfl)) (hd:Nat.blt d κ.N=true:=by exact rfl) (hj:(ops[j]?).bind (·.dst)=some u:=by exact rfl) (hu:look e u=some (.bool b):=by exact rfl):At (22 :: c :: is) (G κ e L (wpListIn (FR κ.ρ) 0 P ops Q (⟨some d,op,t,s,af,some (j,b)⟩ :: rest))):=⟨nh hq.q hd hj hu h.go⟩
theorem Gq (h:At is (G κ ((d,v) :: e) L (ca P ops T (Cls κ L0) Q fuel (bm n (m ||| 2 ^ i))))) (hi:ops[i]?=some ⟨some d,op,t,s,af,none⟩:=by exact rfl) (hq:QR c P κ e L0 ⟨some d,op,t,s,af,none⟩ v:=by first|(apply qr2;exact iN rfl)|(apply qr3;exact tN rfl)|(apply qr4;exact rY rfl)|(apply qr5;exact vO rfl rfl)|(apply qr6;exact rV rfl)|(apply yl;exact uJ rfl rfl)|(apply yj;exact tK rfl rfl)|(apply yi;exact tL rfl rfl)|(apply yh;exact gB rfl rfl aK)|(apply yg;exact mR rfl rfl)|(apply yf;exact xT rfl rfl)|(apply ye;exact mL rfl rfl)|(apply yd;exact mO rfl)|(apply yc;exact mJ rfl)|(apply yb;exact yF rfl rfl)|(apply ya;exact gC (b:=false) rfl rfl rfl)|(apply xz;exact mK rfl rfl)|(apply xy;exact rX rfl rfl (fun _=>rfl))|(apply xx;exact mQ rfl rfl)|(apply xw;exact jo rfl rfl)|(apply xu;exact mP rfl rfl)|(apply xt;exact mN rfl rfl)|(apply xq;exact ji rfl rfl)|(apply xp;exact jl rfl rfl)|(apply xo;exact jm rfl rfl)|(apply xn;exact jj rfl rfl)|(apply xm;exact gC (b:=true) rfl rfl rfl)|(apply xl;exact qX rfl)) (hb:fX ops T (bm n m) i=true:=by kernel_rfl) (hL:∀w,WOK κ.S κ.w0 L w→WOK κ.S κ.w0 L0 w:=by exact zG) (hd:Nat.blt d κ.N=true:=by exact rfl):At (23 :: i :: c :: is) (G κ e L (ca P ops T (Cls κ L0) Q (fuel+1) (bm n m))):=⟨d_q i hi hb hq.q hL hd (vT n m i) h.go⟩
theorem Gp (h:At is (G κ ((d,v) :: e) L (ca P ops T C Q fuel (bm n (m ||| 2 ^ i))))) (hi:ops[i]?=some ⟨some d,op,t,s,af,none⟩:=by exact rfl) (hq:∀ κ' : Cx,QR c P κ' e [] ⟨some d,op,t,s,af,none⟩ v:=by intro _;first|(apply qr2;exact iN rfl)|(apply qr3;exact tN rfl)|(apply qr4;exact rY rfl)|(apply qr5;exact vO rfl rfl)|(apply qr6;exact rV rfl)|(apply yl;exact uJ rfl rfl)|(apply yj;exact tK rfl rfl)|(apply yi;exact tL rfl rfl)|(apply yh;exact gB rfl rfl aK)|(apply yg;exact mR rfl rfl)|(apply yf;exact xT rfl rfl)|(apply ye;exact mL rfl rfl)|(apply yd;exact mO rfl)|(apply yc;exact mJ rfl)|(apply yb;exact yF rfl rfl)|(apply ya;exact gC (b:=false) rfl rfl rfl)|(apply xz;exact mK rfl rfl)|(apply xy;exact rX rfl rfl (fun _=>rfl))|(apply xx;exact mQ rfl rfl)|(apply xw;exact jo rfl rfl)|(apply xu;exact mP rfl rfl)|(apply xt;exact mN rfl rfl)|(apply xq;exact ji rfl rfl)|(apply xp;exact jl rfl rfl)|(apply xo;exact jm rfl rfl)|(apply xn;exact jj rfl rfl)|(apply xm;exact gC (b:=true) rfl rfl rfl)|(apply xl;exact qX rfl)) (hb:ip ops T (bm n m) i=true:=by kernel_rfl) (hd:Nat.blt d κ.N=true:=by exact rfl):At (24 :: i :: c :: is) (G κ e L (ca P ops T C Q (fuel+1) (bm n m))):=⟨d_p i hi hb (fun k=>(hq k).q) hd (vT n m i) h.go⟩
theorem Gn (h:At is (G κ ((d,undef) :: e) L (ca P ops T (Cls κ L0) Q fuel (bm n (m ||| 2 ^ i))))) (hi:ops[i]?=some ⟨some d,op,t,s,af,some (j,b)⟩:=by exact rfl) (hj:(ops[j]?).bind (·.dst)=some u:=by exact rfl) (hu:look e u=some (.bool b2):=by exact rfl) (hc:(b2 == b)=false:=by exact rfl) (hb:fX ops T (bm n m) i=true:=by kernel_rfl) (hL:∀w,WOK κ.S κ.w0 L w→WOK κ.S κ.w0 L0 w:=by exact zG) (hd:Nat.blt d κ.N=true:=by exact rfl):At (25 :: i :: is) (G κ e L (ca P ops T (Cls κ L0) Q (fuel+1) (bm n m))):=⟨Ht i hi hb hj hu hc hL hd (vT n m i) h.go⟩
theorem Gm (h:At is (G κ ((d,v) :: e) L (ca P ops T (Cls κ L0) Q fuel (bm n (m ||| 2 ^ i))))) (hi:ops[i]?=some ⟨some d,op,t,s,af,some (j,b)⟩:=by exact rfl) (hq:QR c P κ e L0 ⟨some d,op,t,s,af,some (j,b)⟩ v:=by first|(apply qr2;exact iN rfl)|(apply qr3;exact tN rfl)|(apply qr4;exact rY rfl)|(apply qr5;exact vO rfl rfl)|(apply qr6;exact rV rfl)|(apply yl;exact uJ rfl rfl)|(apply yj;exact tK rfl rfl)|(apply yi;exact tL rfl rfl)|(apply yh;exact gB rfl rfl aK)|(apply yg;exact mR rfl rfl)|(apply yf;exact xT rfl rfl)|(apply ye;exact mL rfl rfl)|(apply yd;exact mO rfl)|(apply yc;exact mJ rfl)|(apply yb;exact yF rfl rfl)|(apply ya;exact gC (b:=false) rfl rfl rfl)|(apply xz;exact mK rfl rfl)|(apply xy;exact rX rfl rfl (fun _=>rfl))|(apply xx;exact mQ rfl rfl)|(apply xw;exact jo rfl rfl)|(apply xu;exact mP rfl rfl)|(apply xt;exact mN rfl rfl)|(apply xq;exact ji rfl rfl)|(apply xp;exact jl rfl rfl)|(apply xo;exact jm rfl rfl)|(apply xn;exact jj rfl rfl)|(apply xm;exact gC (b:=true) rfl rfl rfl)|(apply xl;exact qX rfl)) (hj:(ops[j]?).bind (·.dst)=some u:=by exact rfl) (hu:look e u=some (.bool b):=by exact rfl)(hb:fX ops T (bm n m) i=true:=by kernel_rfl) (hL:∀w,WOK κ.S κ.w0 L w→WOK κ.S κ.w0 L0 w:=by exact zG) (hd:Nat.blt d κ.N=true:=by exact rfl):At (26 :: i :: c :: is) (G κ e L (ca P ops T (Cls κ L0) Q (fuel+1) (bm n m))):=⟨GO i hi hb hq.q hj hu hL hd (vT n m i) h.go⟩
theorem Gl (h:At is (G κ e L (Q .normal))) (hr:Region.ready .any ops (bm n m)=[]:=by kernel_rfl) (hL:∀w,WOK κ.S κ.w0 L w→WOK κ.S κ.w0 L0 w:=by exact zG) : At (27 :: is) (G κ e L (ca P ops T (Cls κ L0) Q 0 (bm n m))):=⟨Dg hr (.inr hL) h.go⟩
theorem Gk (h:At is (G κ e L (Q .normal))) (hr:Region.ready .any ops (bm n m)=[]:=by kernel_rfl) (ht:T.any (fun t=>(bm n m).getD t false)=true:=by kernel_rfl):At (28 :: is) (G κ e L (ca P ops T (Cls κ L0) Q 0 (bm n m))):=⟨Dg hr (.inl ht) h.go⟩
theorem Gj {T9:Nat} {x y:Operand} {L' : List Res} (h:At is (G κ e L' (wpListIn (FR κ.ρ) 0 P ops Q rest))) (hs:SW P κ e L ⟨none,.store T9 x y,t,s,af,none⟩ L' := by exact Gi rfl rfl rfl rfl rfl):At (33 :: is) (G κ e L (wpListIn (FR κ.ρ) 0 P ops Q (⟨none,.store T9 x y,t,s,af,none⟩ :: rest))):=⟨aa (hs.go Q h.go)⟩
theorem IP {is:List Nat} {B:Prop} (h:At (19 :: is) B):At (19 :: is) B:=h
theorem IN {is:List Nat} {B:Prop} (h:At (20 :: is) B):At (20 :: is) B:=h
theorem IM {is:List Nat} {B:Prop} (h:At (21 :: is) B):At (21 :: is) B:=h
theorem IL {is:List Nat} {B:Prop} (h:At (22 :: is) B):At (22 :: is) B:=h
theorem IK {is:List Nat} {B:Prop} (h:At (23 :: is) B):At (23 :: is) B:=h
theorem IJ {is:List Nat} {B:Prop} (h:At (24 :: is) B):At (24 :: is) B:=h
theorem II {is:List Nat} {B:Prop} (h:At (25 :: is) B):At (25 :: is) B:=h
theorem IH {is:List Nat} {B:Prop} (h:At (26 :: is) B):At (26 :: is) B:=h
theorem IG {is:List Nat} {B:Prop} (h:At (27 :: is) B):At (27 :: is) B:=h
theorem IF {is:List Nat} {B:Prop} (h:At (28 :: is) B):At (28 :: is) B:=h
theorem IE {is:List Nat} {B:Prop} (h:At (29 :: is) B):At (29 :: is) B:=h
theorem ID {is:List Nat} {B:Prop} (h:At (33 :: is) B):At (33 :: is) B:=h
theorem dq (i:Nat) (hi:ops[i]?=some ⟨some d,op,t,s,af,none⟩) (hq:cf P κ e L0 ⟨some d,op,t,s,af,none⟩ v) (h:G κ ((d,v) :: e) L (ca P ops T (Cls κ L0) Q fuel (bm n (m ||| 2 ^ i)))) (hb:fX ops T (bm n m) i=true:=by kernel_rfl) (hL:∀w,WOK κ.S κ.w0 L w→WOK κ.S κ.w0 L0 w:=by exact zG) (hd:Nat.blt d κ.N=true:=by exact rfl):G κ e L (ca P ops T (Cls κ L0) Q (fuel+1) (bm n m)):=d_q i hi hb hq hL hd (vT n m i) h
theorem dqg (i:Nat) (hi:ops[i]?=some ⟨some d,op,t,s,af,some (j,b)⟩) (hq:cf P κ e L0 ⟨some d,op,t,s,af,some (j,b)⟩ v) (hj:(ops[j]?).bind (·.dst)=some u) (hu:look e u=some (.bool b)) (h:G κ ((d,v) :: e) L (ca P ops T (Cls κ L0) Q fuel (bm n (m ||| 2 ^ i)))) (hb:fX ops T (bm n m) i=true:=by kernel_rfl) (hL:∀w,WOK κ.S κ.w0 L w→WOK κ.S κ.w0 L0 w:=by exact zG) (hd:Nat.blt d κ.N=true:=by exact rfl):G κ e L (ca P ops T (Cls κ L0) Q (fuel+1) (bm n m)):=GO i hi hb hq hj hu hL hd (vT n m i) h
theorem dp (i:Nat) (hi:ops[i]?=some ⟨some d,op,t,s,af,none⟩) (hq:∀ κ' : Cx,cf P κ' e [] ⟨some d,op,t,s,af,none⟩ v) (h:G κ ((d,v) :: e) L (ca P ops T C Q fuel (bm n (m ||| 2 ^ i)))) (hb:ip ops T (bm n m) i=true:=by kernel_rfl) (hd:Nat.blt d κ.N=true:=by exact rfl):G κ e L (ca P ops T C Q (fuel+1) (bm n m)):=d_p i hi hb hq hd (vT n m i) h
theorem dop {od:Option Nat} (i:Nat) (hi:ops[i]?=some ⟨od,op,t,s,af,none⟩) (h:G κ e L (owp none P ⟨od,op,t,s,af,none⟩ (fm Q) (ca P ops T (Cls κ L0) Q fuel (bm n (m ||| 2 ^ i))))) (hr:Region.ready .any ops (bm n m)=[i]:=by kernel_rfl) (hL:∀w,WOK κ.S κ.w0 L w→WOK κ.S κ.w0 L0 w:=by exact zG) : G κ e L (ca P ops T (Cls κ L0) Q (fuel+1) (bm n m)):=Hs i hi hr (vT n m i) hL h
theorem oV {od:Option Nat} (i:Nat) (hi:ops[i]?=some ⟨od,op,t,s,af,some (j,b)⟩) (hj:(ops[j]?).bind (·.dst)=some u) (hu:look e u=some (.bool b)) (h:G κ e L (owp none P ⟨od,op,t,s,af,some (j,b)⟩ (fm Q) (ca P ops T (Cls κ L0) Q fuel (bm n (m ||| 2 ^ i))))) (hr:Region.ready .any ops (bm n m)=[i]:=by kernel_rfl) (hL:∀w,WOK κ.S κ.w0 L w→WOK κ.S κ.w0 L0 w:=by exact zG) : G κ e L (ca P ops T (Cls κ L0) Q (fuel+1) (bm n m)):=GP i hi hr (vT n m i) hj hu hL h
theorem fJ {od:Option Nat} (i:Nat) (hi:ops[i]?=some ⟨od,op,t,s,af,none⟩) (h:G κ e L (owp none P ⟨od,op,t,s,af,none⟩ (fm Q) (ca P ops T (Cls κ L0) Q fuel (bm n (m ||| 2 ^ i))))) (hr:Region.ready .any ops (bm n m)=[i]:=by kernel_rfl) (ht:T.any (fun t=>(bm n m).getD t false)=true:=by kernel_rfl):G κ e L (ca P ops T (Cls κ L0) Q (fuel+1) (bm n m)):=FE i hi hr (vT n m i) ht h
theorem bu {K:Array Bool→Act→World→Prop} {od:Option Nat} (hi:ops[i]?=some ⟨od,op,t,s,af,none⟩) (h:G κ e L (owp none P ⟨od,op,t,s,af,none⟩ (fm Q) (K (bm n (m ||| 2 ^ i))))):Fsx P ops Q κ e L K (bm n m) i:=FF hi (vT n m i) h
theorem dls (N M:Nat) {ls:Array Bool} (h:G κ e L (ca P ops T C Q fuel (bm N M))) (hl:bm N M=ls:=by kernel_rfl):G κ e L (ca P ops T C Q fuel ls):=hl ▸ h
theorem bn (T:List Nat) (hm:P.follows .mixedOrders=true) (hn:ops.size=n) (h:G κ e L (ca P ops T (Cls κ L) Q n (bm n 0))):G κ e L ((Code.region id ops true).wpIn (FR none) 0 P Q):=Af T hm hn (rx n).symm h
theorem dR (T:List Nat) (hm:P.follows .mixedOrders=true) (hn:ops.size=n) (hL:∀w,WOK κ.S κ.w0 L w→WOK κ.S κ.w0 L0 w) (h:G κ e L (ca P ops T (Cls κ L0) Q n (bm n 0))):G κ e L ((Code.region id ops true).wpIn (FR none) 0 P Q):=tz T hm hn (rx n).symm hL h
end
theorem Ra {is:List Nat} {A B:Prop} (h:Hid A→At is B:=by intro hA;repeat (first|exact at0 hA|apply rs0|apply rs1|(apply ID;refine Gj ?_)|apply rs7|apply HC|apply Gy|apply HA|apply rs8|apply rs9|apply HD|(apply IK;refine Gq ?_)|apply HB|apply Gz|apply Gx|apply Gw|apply Gv|(apply IP;refine Gu ?_)|(apply IN;refine Gt ?_)|(apply IM;refine Gs ?_)|(apply IL;refine Gr ?_)|(apply IJ;refine Gp ?_)|(apply IG;refine Gl ?_)|(apply IF;refine Gk ?_)|(apply II;refine Gn ?_)|(apply IH;refine Gm ?_)|(apply IE;refine rs29 ?_)|refine rsq ?_)):Hid A→At is B:=h
theorem rn (is:List Nat) {A B:Prop} (k:A) (h:Hid A→At is B:=by exact Ra):B:=(h ⟨k⟩).go
theorem Rb {A B:Prop} (k:A) (h:Hid A→At [3,0,11] B:=by exact Ra):B:=(h ⟨k⟩).go
theorem Re {A B:Prop} (k:A) (h:Hid A→At [1,3,0,11,13] B:=by exact Ra):B:=(h ⟨k⟩).go
theorem Rf {A B:Prop} (k:A) (h:Hid A→At [23,0,45,23,1,4,23,2,5,23,3,4,23,4,5,23,5,2,23,6,6,23,7,4,23,8,5,23,10,2,23,11,6,23,12,4,23,13,5] B:=by exact Ra):B:=(h ⟨k⟩).go
theorem Rh {A B:Prop} (k:A) (h:Hid A→At [23,0,45,23,1,4,23,2,5,23,3,2,23,4,6,23,5,4,23,6,5,23,8,2,23,9,6,23,10,4,23,11,5] B:=by exact Ra):B:=(h ⟨k⟩).go
theorem Ri {A B:Prop} (k:A) (h:Hid A→At [1] B:=by exact Ra):B:=(h ⟨k⟩).go
theorem Rj {A B:Prop} (k:A) (h:Hid A→At [1,46,0,8] B:=by exact Ra):B:=(h ⟨k⟩).go
theorem Rk {A B:Prop} (k:A) (h:Hid A→At [23,0,2,23,1,6,23,2,4,23,3,5,23,4,4,23,5,5] B:=by exact Ra):B:=(h ⟨k⟩).go
theorem Rl {A B:Prop} (k:A) (h:Hid A→At [7,1,2,3,0,11] B:=by exact Ra):B:=(h ⟨k⟩).go
theorem Rm {A B:Prop} (k:A) (h:Hid A→At [33,0,11,13] B:=by exact Ra):B:=(h ⟨k⟩).go
theorem Rn {A B:Prop} (k:A) (h:Hid A→At [23,0,2,23,1,6,23,2,4,23,3,5,23,4,4,23,5,5,23,7,2] B:=by exact Ra):B:=(h ⟨k⟩).go
theorem Ro {A B:Prop} (k:A) (h:Hid A→At [2,40,40,3,3,0,8,1,2,48,0] B:=by exact Ra):B:=(h ⟨k⟩).go
theorem Rp {A B:Prop} (k:A) (h:Hid A→At [33,0,11] B:=by exact Ra):B:=(h ⟨k⟩).go
theorem Rr {A B:Prop} (k:A) (h:Hid A→At [1,44,3,0] B:=by exact Ra):B:=(h ⟨k⟩).go
theorem Rt {A B:Prop} (k:A) (h:Hid A→At [3,9,15,7,10,2,43,3,9] B:=by exact Ra):B:=(h ⟨k⟩).go
theorem Ru {A B:Prop} (k:A) (h:Hid A→At [16] B:=by exact Ra):B:=(h ⟨k⟩).go
theorem Rv {A B:Prop} (k:A) (h:Hid A→At [2,40,40,3,3,0,1,2,2,3,3,0,11] B:=by exact Ra):B:=(h ⟨k⟩).go
theorem Rw {A B:Prop} (k:A) (h:Hid A→At [8,1,2,2,47,46,0] B:=by exact Ra):B:=(h ⟨k⟩).go
theorem Rx {A B:Prop} (k:A) (h:Hid A→At [3,9,15,7,10,43,2,9] B:=by exact Ra):B:=(h ⟨k⟩).go
theorem Ry {A B:Prop} (k:A) (h:Hid A→At [12,7,8,14,1] B:=by exact Ra):B:=(h ⟨k⟩).go
theorem Rz {A B:Prop} (k:A) (h:Hid A→At [23,0,2,23,1,6,23,2,4,23,3,5,23,4,4,23,5,5,23,6,4,23,7,5] B:=by exact Ra):B:=(h ⟨k⟩).go
theorem RA {A B:Prop} (k:A) (h:Hid A→At [0,1,3,0,11] B:=by exact Ra):B:=(h ⟨k⟩).go
theorem RB {A B:Prop} (k:A) (h:Hid A→At [23,0,2,23,1,6,23,2,4,23,3,5,23,4,2,23,5,6,23,6,4,23,7,5,23,8,2,23,9,6,23,10,4,23,11,5] B:=by exact Ra):B:=(h ⟨k⟩).go
theorem RC {A B:Prop} (k:A) (h:Hid A→At [1,3,0,8,1,2,50,0,20,12,7,1,2,6,4,5,3,0,11] B:=by exact Ra):B:=(h ⟨k⟩).go
theorem RD {A B:Prop} (k:A) (h:Hid A→At [23,0,2,23,1,6,23,2,4,23,3,5,23,4,2,23,5,6,23,6,4,23,7,5,23,8,2] B:=by exact Ra):B:=(h ⟨k⟩).go
theorem RE {A B:Prop} (k:A) (h:Hid A→At [23,0,2,23,1,2,23,2,6,23,3,4,23,4,5,23,5,4,23,6,5] B:=by exact Ra):B:=(h ⟨k⟩).go
theorem RF {A B:Prop} (k:A) (h:Hid A→At [23,0,2,23,1,2,23,2,6,23,3,4,23,4,5,23,5,43,23,6,2,23,7,6,23,8,4,23,9,5,23,10,47] B:=by exact Ra):B:=(h ⟨k⟩).go
theorem RH {A B:Prop} (k:A) (h:Hid A→At [23,0,2,23,1,6,23,2,4] B:=by exact Ra):B:=(h ⟨k⟩).go
theorem RI {A B:Prop} (k:A) (h:Hid A→At [23,0,2,23,1,6,23,2,4,23,3,5,23,4,2,23,5,6,23,6,4,23,7,5,23,8,47,23,9,46,27,7] B:=by exact Ra):B:=(h ⟨k⟩).go
theorem RJ {A B:Prop} (k:A) (h:Hid A→At [23,0,2,23,1,6,23,2,4,23,3,5,23,4,2,23,5,6,23,6,4,23,7,5] B:=by exact Ra):B:=(h ⟨k⟩).go
theorem RK {A B:Prop} (k:A) (h:Hid A→At [12,15,7,10,43,2,9] B:=by exact Ra):B:=(h ⟨k⟩).go
theorem RL {A B:Prop} (k:A) (h:Hid A→At [1,3,3,0,11,13] B:=by exact Ra):B:=(h ⟨k⟩).go
theorem RM {A B:Prop} (k:A) (h:Hid A→At [12,7,8] B:=by exact Ra):B:=(h ⟨k⟩).go
theorem RN {A B:Prop} (k:A) (h:Hid A→At [1,3,0,11] B:=by exact Ra):B:=(h ⟨k⟩).go
theorem RO {A B:Prop} (k:A) (h:Hid A→At [23,18,2,23,19,40,23,20,40,23,21,40] B:=by exact Ra):B:=(h ⟨k⟩).go
theorem RP {A B:Prop} (k:A) (h:Hid A→At [12,15,7,10,2,43,3,9] B:=by exact Ra):B:=(h ⟨k⟩).go
theorem RQ {A B:Prop} (k:A) (h:Hid A→At [23,0,2,23,1,6,23,2,4,23,3,4,23,4,5,23,6,2,23,7,6,23,8,4,23,9,5,23,10,2,23,11,6,23,12,4,23,13,4,23,14,5] B:=by exact Ra):B:=(h ⟨k⟩).go
theorem RR {A B:Prop} (k:A) (h:Hid A→At [3,0,1,2] B:=by exact Ra):B:=(h ⟨k⟩).go
theorem RS {A B:Prop} (k:A) (h:Hid A→At [9,15,7,10,43,2,9] B:=by exact Ra):B:=(h ⟨k⟩).go
theorem RT {A B:Prop} (k:A) (h:Hid A→At [1,3,0,8,1,2,50,0,20,12,7,8] B:=by exact Ra):B:=(h ⟨k⟩).go
theorem RU {A B:Prop} (k:A) (h:Hid A→At [22,2,22,2,22,47,22,53,42,0] B:=by exact Ra):B:=(h ⟨k⟩).go
theorem RV {A B:Prop} (k:A) (h:Hid A→At [23,0,2,23,1,2] B:=by exact Ra):B:=(h ⟨k⟩).go
theorem RW {A B:Prop} (k:A) (h:Hid A→At [23,0,2,23,1,6,23,2,4,23,3,5,23,4,2,23,5,6,23,6,4,23,7,5,23,8,47] B:=by exact Ra):B:=(h ⟨k⟩).go
theorem RY {A B:Prop} (k:A) (h:Hid A→At [23,0,2,23,1,2,23,2,6,23,3,4,23,4,5,23,5,2,23,6,6,23,7,4,23,8,5] B:=by exact Ra):B:=(h ⟨k⟩).go
theorem RZ {A B:Prop} (k:A) (h:Hid A→At [23,10,2,23,11,40,24,12,40,24,13,40] B:=by exact Ra):B:=(h ⟨k⟩).go
theorem Sa {A B:Prop} (k:A) (h:Hid A→At [23,3,2,23,4,6,23,5,4,23,6,5,23,7,2,23,8,6,23,9,4,23,10,5] B:=by exact Ra):B:=(h ⟨k⟩).go
theorem Sb {A B:Prop} (k:A) (h:Hid A→At [42,2,22,4,22,5,22,4,22,5,22,51] B:=by exact Ra):B:=(h ⟨k⟩).go
theorem Sc {A B:Prop} (k:A) (h:Hid A→At [2,40,40,3,3,0,8,1,2,48,2] B:=by exact Ra):B:=(h ⟨k⟩).go
theorem Sd {A B:Prop} (k:A) (h:Hid A→At [23,8,2,23,9,40,24,10,40] B:=by exact Ra):B:=(h ⟨k⟩).go
theorem Se {A B:Prop} (k:A) (h:Hid A→At [0,1,45,33,0,11] B:=by exact Ra):B:=(h ⟨k⟩).go
theorem Sf {A B:Prop} (k:A) (h:Hid A→At [1,3,0,1,2,2] B:=by exact Ra):B:=(h ⟨k⟩).go
theorem Sg {A B:Prop} (k:A) (h:Hid A→At [12,7,8,14,8] B:=by exact Ra):B:=(h ⟨k⟩).go
theorem Sh {A B:Prop} (k:A) (h:Hid A→At [21,21,21,42,3,0,11] B:=by exact Ra):B:=(h ⟨k⟩).go
theorem Si {A B:Prop} (k:A) (h:Hid A→At [24,4,3,24,5,3,28,7,11] B:=by exact Ra):B:=(h ⟨k⟩).go
theorem Sj {A B:Prop} (k:A) (h:Hid A→At [1,3,0,8,1,2,50,0,20,12,7,1,2,6,4] B:=by exact Ra):B:=(h ⟨k⟩).go
theorem Sk {A B:Prop} (k:A) (h:Hid A→At [21,21,41,0,19,1,3,0,11,13] B:=by exact Ra):B:=(h ⟨k⟩).go
theorem Sl {A B:Prop} (k:A) (h:Hid A→At [1,3,3,3,0,1,2] B:=by exact Ra):B:=(h ⟨k⟩).go
theorem Sn {A B:Prop} (k:A) (h:Hid A→At [2,40,40] B:=by exact Ra):B:=(h ⟨k⟩).go
theorem So {A B:Prop} (k:A) (h:Hid A→At [7,1,3,0,11] B:=by exact Ra):B:=(h ⟨k⟩).go
theorem Sp {A B:Prop} (k:A) (h:Hid A→At [21,21,21,21,41,0,19,1,3,0,11,13] B:=by exact Ra):B:=(h ⟨k⟩).go
theorem Sq {A B:Prop} (k:A) (h:Hid A→At [1,3,0,1,2] B:=by exact Ra):B:=(h ⟨k⟩).go
theorem Sr {A B:Prop} (k:A) (h:Hid A→At [3,0,1,2,2] B:=by exact Ra):B:=(h ⟨k⟩).go
theorem Ss {A B:Prop} (k:A) (h:Hid A→At [28,7,1,2,2,2,4] B:=by exact Ra):B:=(h ⟨k⟩).go
theorem Su {A B:Prop} (k:A) (h:Hid A→At [3,0,8,1,2,47,2,0,14] B:=by exact Ra):B:=(h ⟨k⟩).go
theorem Sv {A B:Prop} (k:A) (h:Hid A→At [1,49,33,3,3,0,11,13] B:=by exact Ra):B:=(h ⟨k⟩).go
theorem Sw {A B:Prop} (k:A) (h:Hid A→At [0,8] B:=by exact Ra):B:=(h ⟨k⟩).go
theorem Sx {A B:Prop} (k:A) (h:Hid A→At [12,7,1,2] B:=by exact Ra):B:=(h ⟨k⟩).go
theorem Sy {A B:Prop} (k:A) (h:Hid A→At [1,3,0,1,3,0,8,1,3,0,14] B:=by exact Ra):B:=(h ⟨k⟩).go
theorem Sz {A B:Prop} (k:A) (h:Hid A→At [1,3,0,8,1,2,47,2,47,51] B:=by exact Ra):B:=(h ⟨k⟩).go
theorem SA {A B:Prop} (k:A) (h:Hid A→At [3,0,1,52,3,0,11] B:=by exact Ra):B:=(h ⟨k⟩).go
theorem SB {A B:Prop} (k:A) (h:Hid A→At [24,12,6,23,13,4] B:=by exact Ra):B:=(h ⟨k⟩).go
theorem SD {A B:Prop} (k:A) (h:Hid A→At [2] B:=by exact Ra):B:=(h ⟨k⟩).go
theorem SE {A B:Prop} (k:A) (h:Hid A→At [0,1,2,2] B:=by exact Ra):B:=(h ⟨k⟩).go
theorem SF {A B:Prop} (k:A) (h:Hid A→At [27,7,20,12,15,7,10,2,43,3,9] B:=by exact Ra):B:=(h ⟨k⟩).go
theorem SH {A B:Prop} (k:A) (h:Hid A→At [33,0,8,1,4,5,51,0] B:=by exact Ra):B:=(h ⟨k⟩).go
theorem SI {A B:Prop} (k:A) (h:Hid A→At [7,1,2,3,3,0,11] B:=by exact Ra):B:=(h ⟨k⟩).go
theorem SJ {A B:Prop} (k:A) (h:Hid A→At [0,1,2,3,0,11] B:=by exact Ra):B:=(h ⟨k⟩).go
theorem SK {A B:Prop} (k:A) (h:Hid A→At [47,2,0,14] B:=by exact Ra):B:=(h ⟨k⟩).go
theorem SL {A B:Prop} (k:A) (h:Hid A→At [3,0,1,4,5] B:=by exact Ra):B:=(h ⟨k⟩).go
theorem SM {A B:Prop} (k:A) (h:Hid A→At [22,4,22,5,22,55,42,2] B:=by exact Ra):B:=(h ⟨k⟩).go
theorem SO {A B:Prop} (k:A) (h:Hid A→At [7,1,2,2,2,3,3,3,0,11] B:=by exact Ra):B:=(h ⟨k⟩).go
theorem SQ {A B:Prop} (k:A) (h:Hid A→At [12,7,1,2,2] B:=by exact Ra):B:=(h ⟨k⟩).go
theorem SR {A B:Prop} (k:A) (h:Hid A→At [42,0,20,12,7,1,2] B:=by exact Ra):B:=(h ⟨k⟩).go
theorem SS {A B:Prop} (k:A) (h:Hid A→At [12,15,7,1,3,0,11] B:=by exact Ra):B:=(h ⟨k⟩).go
theorem SU {A B:Prop} (k:A) (h:Hid A→At [23,4,2,23,5,2] B:=by exact Ra):B:=(h ⟨k⟩).go
theorem SV {A B:Prop} (k:A) (h:Hid A→At [12,7,8,14,1,2,2] B:=by exact Ra):B:=(h ⟨k⟩).go
theorem SY {A B:Prop} (k:A) (h:Hid A→At [6,4] B:=by exact Ra):B:=(h ⟨k⟩).go
theorem SZ {A B:Prop} (k:A) (h:Hid A→At [1,3,0,8] B:=by exact Ra):B:=(h ⟨k⟩).go
theorem Na {A B:Prop} (k:A) (h:Hid A→At [2,22,2,22,55] B:=by exact Ra):B:=(h ⟨k⟩).go
theorem Nb {A B:Prop} (k:A) (h:Hid A→At [1,2] B:=by exact Ra):B:=(h ⟨k⟩).go
theorem Nc {A B:Prop} (k:A) (h:Hid A→At [28,7,11] B:=by exact Ra):B:=(h ⟨k⟩).go
theorem Nd {A B:Prop} (k:A) (h:Hid A→At [4] B:=by exact Ra):B:=(h ⟨k⟩).go
theorem Nf {A B:Prop} (k:A) (h:Hid A→At [28] B:=by exact Ra):B:=(h ⟨k⟩).go
abbrev W0 (L:List Res) (w:World):Prop:=WOK (fps L) w L w
theorem Γ {P:Program} {f:FuncId} {fn:Func} {c:Code} {args:List Value} {w:World} {R:Value→World→Prop} {S:List Nat} {L:List Res} (hf:P.funcs[f]?=some fn) (n:Nat) (hL:WOK S w L w)
 (h:G ⟨S,w,n,[],none⟩ (lR args) L (c.wpIn (FR none) 0 P (bodyPost P fn fun en w' => ∃v,en=.returned v∧R v w'))) (hb:fn.body=some c:=by exact rfl) (hn:fn.ntmps=n:=by exact rfl) (hle:args.length≤n:=by simp):Ret P f args w R:=Cl hf hb n hn hle S L hL _ rfl h
theorem cr {κ:Cx} {e:Env} {L:List Res} {Q:Exit→Act→World→Prop} {ι:Type} {E:ι→Env} {R:ι→List Res} {p:ι→Prop} {μ:ι→Nat} {x:ι} (y:ι) (hp:p y) (hμ:μ y<μ x:=by first|omega|(simp only;omega)) (he:fM (E y) e:=by repeat(first|exact trivial|refine⟨rfl,?_⟩)) (hL:∀w,WOK κ.S κ.w0 L w→WOK κ.S κ.w0 (R y) w:=by exact zG):G κ e L (Exit.then (nT κ E R p μ x) Q .normal):=xX y hp hμ he hL
theorem dP {P:Program} {κ:Cx} {e:Env} {L:List Res} {Q:Exit→Act→World→Prop} {ι:Type} {c:Code} (ks:List Nat) (E:ι→Env) (R:ι→List Res) (p:ι→Prop) (μ:ι→Nat) (x0:ι) (h0:p x0)
 (round:∀x,p x→G κ (E x++fk e ks) (R x) (c.wpIn (FR κ.ρ) 0 P (Exit.then (nT κ (fun x=>E x++fk e ks) R p μ x) Q))) (he:fM (E x0) e:=by repeat(first|exact trivial|refine⟨rfl,?_⟩)) (hL:∀w,WOK κ.S κ.w0 L w→WOK κ.S κ.w0 (R x0) w:=by exact zG):G κ e L ((Code.loop c).wpIn (FR κ.ρ) 0 P Q):=kx ks E R p μ x0 h0 rfl he hL round
def Jn {ι:Type} (κ:Cx) (E:ι→Env) (R:ι→List Res) (Q:Exit→Act→World→Prop):Exit→Act→World→Prop
 | .normal,a,w=>∃x,St κ (E x) (R x) a w
 | ex,a,w=>Q ex a w
theorem jL {P:Program} {ops:Array Oper} {Q Q' : Exit→Act→World→Prop} {C:World→Prop} {T:List Nat} (h:∀a w,Q' .normal a w→Q .normal a w):∀(fuel:Nat) (ls:Array Bool) (a:Act) (w:World),ca P ops T C Q' fuel ls a w→ca P ops T C Q fuel ls a w
 | 0,_,_,_,k=>⟨k.1,k.2.1,h _ _ k.2.2⟩
 | fuel+1,_,_,_,k=>⟨k.1,fun e=>h _ _ (k.2.1 e),fun i hi=>gl (fun ex a w hq=>by cases ex<;>first|exact h _ _ hq|exact hq.elim) (wpOpIn_mono (fun a w=>jL h fuel _ a w) (k.2.2 i hi))⟩
theorem dj {P:Program} {κ:Cx} {e:Env} {L:List Res} {ops:Array Oper} {Q:Exit→Act→World→Prop} {C:World→Prop} {T:List Nat} {fuel:Nat} {ls:Array Bool} {ι:Type} (ks:List Nat) (E:ι→Env) (R:ι→List Res)
 (h:G κ e L (ca P ops T C (Jn κ (fun x=>E x++fk e ks) R Q) fuel ls)) (hK:∀x,G κ (E x++fk e ks) (R x) (Q .normal)):G κ e L (ca P ops T C Q fuel ls):=fun a w hs=>jL (fun a w ⟨x,hx⟩=>hK x a w hx) fuel ls a w (h a w hs)
theorem eL {κ:Cx} {e:Env} {L:List Res} {Q:Exit→Act→World→Prop} {ι:Type} {E:ι→Env} {R:ι→List Res} (y:ι) (he:fM (E y) e:=by repeat(first|exact trivial|refine⟨rfl,?_⟩)) (hL:∀w,WOK κ.S κ.w0 L w→WOK κ.S κ.w0 (R y) w:=by exact zG):G κ e L (Jn κ E R Q .normal):=fun _ _ hs=>⟨y,hs.sub he hL⟩
theorem ird {κ:Cx} {L:List Res} {A:Option Addr} {n cap T k:Nat} {els:List (List Value)} [hi:InRow L A n cap T k els] (hn:n=els.length:=by first|rfl|assumption|(simp;done)|(simp_all;done)|(simp;omega)|(simp_all;omega)) (hc:∀c∈els,c.length=k:=by refine yA (fun _=>?_) _;rfl):Rdb κ L A n k els:=InRow.rdb hn hc
theorem ii {κ:Cx} {e:Env} {L Lin Lr Ln L' L'' : List Res} {X:Act→World→Prop} [hs:Swap L Lin Lr L'] [ha:App Ln L' L''] (h:G κ e L'' X):∃L' L'',Swap L Lin Lr L' ∧ App Ln L' L'' ∧ G κ e L'' X:=⟨L',L'',hs,ha,h⟩
end Go.Eg
namespace Go.Eg
open Go.RowKit
def BU (x:MapEntry):Prop:=(∃k:Int,x.key=.int .i64 k∧(Lit.int .i64 k).wf=true)∧∃n:Int,x.val=.int .i64 n
def Res.im (b:Nat):Res where
 fp:=[b]
 sat w:=∃es clock,w.heap[b]?=some (.map es clock)∧∀x∈es.toList,BU x
 loc w w' h hs:=by
  obtain⟨es,clock,h1,h2⟩:=hs;exact⟨es,clock,by rw[h b aM];exact h1,h2⟩
 lt w hs k hk:=by
  obtain⟨es,clock,h1,h2⟩:=hs;simp at hk;subst hk;exact yT h1
class ImT (P:Program) (T:Nat):Prop where
 ex:∃K E,P.underlying T=some (.map K E)∧P.underlying K=some (.int .i64)∧∀w:World,(zeroValue E).run P w=.ok (.int .i64 0) w
theorem ImT.of {P:Program} {T K E:Nat} (h1:P.underlying T=some (.map K E)) (h2:P.underlying K=some (.int .i64)) (h3:(P.info? E).bind (·.zero)=some (.int .i64 0)):ImT P T:=⟨K,E,h1,h2,fun w=>by
 obtain⟨i,hi,hz⟩:=Option.bind_eq_some_iff.1 h3;simp[zeroValue,typeInfo,hi,hz]⟩
class InIm (L:List Res) (b:Nat):Prop where
 at_:∃i:Nat,L[i]?=some (.im b)
instance InIm.tail {L:List Res} {r:Res} {b:Nat} [h:InIm L b]:InIm (r :: L) b:=⟨h.at_.elim fun i hi=>⟨i+1,hi⟩⟩
instance InIm.head {L:List Res} {b:Nat}:InIm (.im b :: L) b:=⟨0,rfl⟩
section
variable {P:Program} {κ:Cx} {e:Env} {L:List Res} {X:Act→World→Prop} {Q:Exit→Act→World→Prop} {d:Tmp} {ty:TypeId} {s:String} {af:Array Edge} {gd:Option (Nat × Bool)}
theorem vB {T b:Nat} {m k:Operand} {z:Int} [ht:ImT P T] (hm:ev e m=some (.map (some b))) (hk:ev e k=some (.int .i64 z)) (hz:(Lit.int .i64 z).wf=true) [hi:InIm L b] (hd:Nat.blt d κ.N=true)
  (h:∀n,G κ ((d,.int .i64 n) :: e) L X):G κ e L (owp κ.ρ P ⟨some d,.lookup T m k false,ty,s,af,gd⟩ Q X):=by
 obtain⟨i,hi'⟩:=hi.at_;obtain⟨K,E,hT,hK,hE⟩:=ht.ex;have hkd:=Maps.int_keyed hK;refine G.loud hd fun a w hs=>?_;obtain⟨es,clock,hb,hes⟩:=hs.wok.sat i _ hi';have hl:=Maps.keyOf_int_mk (P:=P) hK hz;have hck:=hkd.check w es.isEmpty hl;rcases hkd.find w hl es.toList (fun x hx=>by
  obtain⟨⟨k',hk',hw'⟩,_⟩:=hes x hx;rw[hk'];exact⟨_,Maps.keyOf_int_mk hK hw'⟩) with⟨hf,_⟩|⟨j,x,hf,hx,_⟩
 ·exact⟨.int .i64 0,w,L,by simp[execOp,hs.env.ev hm,hs.env.ev hk,Instr.lookup,run_underlying hT,MapKept.run_getObj_map hb,hck,hf,hE w,Result.andThen],hs.wok,h 0⟩
 obtain⟨_,n,hn⟩:=hes x (List.mem_of_getElem? hx);rw[hn] at hf;exact⟨.int .i64 n,w,L,by simp[execOp,hs.env.ev hm,hs.env.ev hk,Instr.lookup,run_underlying hT,MapKept.run_getObj_map hb,hck,hf,Result.andThen],hs.wok,h n⟩
theorem vW {ρ:Option Nat} {T b:Nat} {m k x:Operand} {z n:Int} [ht:ImT P T] (hm:ev e m=some (.map (some b))) (hk:ev e k=some (.int .i64 z)) (hx:ev e x=some (.int .i64 n)) (hz:(Lit.int .i64 z).wf=true) [hi:InIm L b]
  (h:G κ e L X):G κ e L (owp ρ P ⟨none,.mapUpdate T m k x,ty,s,af,gd⟩ Q X):=fun a w hs=>by
 obtain⟨i,hi'⟩:=hi.at_;obtain⟨K,E,hT,hK,hE⟩:=ht.ex;have hkd:=Maps.int_keyed hK;obtain⟨es,clock,hb,hes⟩:=hs.wok.sat i _ hi';have hl:=Maps.keyOf_int_mk (P:=P) hK hz;have hck:=hkd.check w false hl;have hset:L.set i (.im b)=L:=by
  apply List.ext_getElem?;intro j;by_cases hij:i=j
  ·subst hij;rw[List.getElem?_set_self (iB hi'),hi']
  rw[List.getElem?_set_ne hij]
 have fin:∀es' clock',(∀x∈es'.toList,BU x)→WOK κ.S κ.w0 L (ChangeMaps.setBlock w b (.map es' clock')):=fun es' clock' he' => by
  have:=hs.wok.change hi' (.im b) (Upd.setBlock w b (.map es' clock')) ⟨_,_,pO hb,he'⟩ (by simp[Res.im]);rwa [hset] at this
 rcases hkd.find w hl es.toList (fun x hx=>by
  obtain⟨⟨k',hk',hw'⟩,_⟩:=hes x hx;rw[hk'];exact⟨_,Maps.keyOf_int_mk hK hw'⟩) with⟨hf,_⟩|⟨j,y,hf,hy,hyk⟩
 ·have he:(execOp a.eval ⟨none,.mapUpdate T m k x,ty,s,af,gd⟩).run P w=.ok .skip (ChangeMaps.setBlock w b (.map (es.push ⟨.int .i64 z,.int .i64 n,clock⟩) (clock+1))):=by
   simp[execOp,hs.env.ev hm,hs.env.ev hk,hs.env.ev hx,Instr.mapUpdate,run_underlying hT,MapKept.run_getObj_map hb,hck,hf,MapKept.run_setObj_map _ hb,Result.andThen,ChangeMaps.setBlock]
  refine qF he <| h _ _ ⟨hs.defers,hs.size,hs.env,fin _ _ fun u hu=>?_⟩
  rw[Array.toList_push] at hu;rcases List.mem_append.1 hu with hu|hu
  ·exact hes u hu
  simp at hu;subst hu;exact⟨⟨z,rfl,hz⟩,n,rfl⟩
 have hst:=hkd.stays w hl;have hjy:es[j]?=some y:=by simpa using hy
 have he:(execOp a.eval ⟨none,.mapUpdate T m k x,ty,s,af,gd⟩).run P w=.ok .skip (ChangeMaps.setBlock w b (.map (es.modify j fun q=>{ q with key:=.int .i64 z,val:=.int .i64 n }) clock)):=by
  simp[execOp,hs.env.ev hm,hs.env.ev hk,hs.env.ev hx,Instr.mapUpdate,run_underlying hT,MapKept.run_getObj_map hb,hck,hf,hjy,hyk,hst,MapKept.run_setObj_map _ hb,Result.andThen,ChangeMaps.setBlock]
 refine qF he <| h _ _ ⟨hs.defers,hs.size,hs.env,fin _ _ fun u hu=>?_⟩
 obtain⟨q,hq,hqu⟩:=List.mem_iff_getElem.1 hu;subst hqu;simp only[Array.length_toList,Array.size_modify] at hq;simp only[Array.getElem_toList,Array.getElem_modify];split
 ·exact⟨⟨z,rfl,hz⟩,n,rfl⟩
 exact hes _ aM
theorem Et {b:Nat} {L' : List Res} [hs:Swap L [.mp b []] [.im b] L'] (h:G κ e L' X):G κ e L X :=
 sK (fun _ _ _ _ h=>h.less (fun h0=>by
  obtain⟨es,clock,h1,h2⟩:=h0;refine⟨es,clock,h1,fun x hx=>?_⟩;have:=h2.length_eq;simp[kvs] at this;simp[this] at hx) (fun _ q hq=>by simpa[Res.im,Res.mp] using hq)) hs h
end
def Gc (P:Program) (f:FuncId) (args:List Value) (w:World) (R:Value→World→Prop):Prop:=∀u,CallsDIn (FR none) 0 P f args.toArray u w fun en u' w' => u' = u∧∃v,en=.returned v∧R v w'
def Di {ι:Type} (P:Program) (f:FuncId) (args:List Value) (w:World) (Lin:List Res) (p:ι→Prop) (val:ι→Value) (Lnew Lrep:ι→List Res):Prop :=
 Gc P f args w fun v w' => ∃x,p x∧v=val x∧WOK (fps Lin) w (Lnew x++Lrep x) w'
section
variable {P:Program}
theorem AR {f:FuncId} {fn:Func} {c:Code} {args:List Value} {w:World} {R:Value→World→Prop} (hf:P.funcs[f]?=some fn) (hb:fn.body=some c) (n:Nat) (hn:fn.ntmps=n) (hle:args.length≤n)
  (S:List Nat) (L:List Res) (hL:WOK S w L w) (ea:Env) (hea:lR args=ea)
  (h:G ⟨S,w,n,[],none⟩ ea L (c.wpIn (FR none) 0 P (bodyPost P fn fun en w' => ∃v,en=.returned v∧R v w'))):Gc P f args w R:=by
 subst hea;subst hn;intro u;refine callsDIn_of_wp (F:=FR none) (n:=0) hf hb trivial (h _ _ ⟨rfl,?_,fun k v hk=>?_,hL⟩)
 ·simp;omega
 have:=(gc args 0 k v (List.replicate (fn.ntmps-args.length) undef) hk).2;have e:args.toArray++Array.replicate (fn.ntmps-args.toArray.size) undef=(args++List.replicate (fn.ntmps-args.length) undef).toArray:=by simp
 show(args.toArray++Array.replicate (fn.ntmps-args.toArray.size) undef)[k]?=some v;rw[e];simpa using this
variable {S:List Nat} {w0:World} {N:Nat} {D:List Deferred} {e:Env} {L:List Res} {X:Act→World→Prop} {Q:Exit→Act→World→Prop} {ty:TypeId} {s:String} {af:Array Edge} {gd:Option (Nat × Bool)}
def gL (f:FuncId) (cap:List Value) (vs:List Value):Deferred:={ target:=.fn (.func f) cap.toArray,args:=vs.toArray }
theorem ky {f:FuncId} {x0:Operand} {xs:List Operand} {vs fst cap:List Value} {ts:Array TypeId} (hx:ev e x0=some (.func (.func f) fst.toArray cap.toArray)) (hxs:evL e xs=some vs)
  (h:G ⟨S,w0,N,gL f cap (fst++vs) :: D,none⟩ e L X):G ⟨S,w0,N,D,none⟩ e L (owp none P ⟨none,.defer { callee:=.value x0,args:=xs.toArray,argTypes:=ts },ty,s,af,gd⟩ Q X):=fun a w hst=>by
 have hm:=ig hst.env xs vs (tA hxs);have hx' := hst.env.ev hx;have he:(execOp a.eval ⟨none,.defer { callee:=.value x0,args:=xs.toArray,argTypes:=ts },ty,s,af,gd⟩).run P w=.ok (.defer (gL f cap (fst++vs))) w:=by
  simp[execOp,resolve,Deferred.ofValue,hm,hx',gL]
 refine⟨fun _ _=>trivial,?_⟩;show Oper.uponIn (FR none) 0 P _ a X Q ((Oper.semAt none a.eval _).run P w);rw[Oper.semAt_none,he];exact h _ _ ⟨by show gL f cap (fst++vs) :: a.defers=_;rw[hst.defers],hst.size,fun k v hk=>hst.env k v hk,hst.wok⟩
variable {fn:Func} {R:Value→World→Prop}
theorem GI {ι:Type} {f:FuncId} {cap vs:List Value} (Lin:List Res) {p:ι→Prop} {val:ι→Value} {Lnew Lrep:ι→List Res} [hb:HasB P f] [hs:Sub L Lin]
  (hf:∀w,WOK S w0 L w→WOK (fps Lin) w Lin w→Di P f (vs++cap) w Lin p val Lnew Lrep)
  (h:∀x,p x→∃L' L'',Swap L Lin (Lrep x) L' ∧ App (Lnew x) L' L'' ∧ ∀ex,ex=.ret∨ex=.normal→G ⟨S,w0,N,D,none⟩ e L'' (jN P fn R ex)) :
  ∀ex,ex=.ret∨ex=.normal→G ⟨S,w0,N,gL f cap vs :: D,none⟩ e L (jN P fn R ex):=fun ex hex a w hst=>by
 have hr:LeavesInM (FR none) 0 P fn a.tmps (fun en w' => ∃v,en=.returned v∧R v w') a.defers .returning w:=by
  rw[hst.defers];refine⟨by simp,.inr ⟨fun hd=>by simp[FR] at hd,.func f,cap.toArray,f,(vs++cap).toArray,rfl,?_,fun _ _=>trivial,?_⟩⟩
  ·simp[invoke,gL,xY hb.has]
  refine CallsDIn.mono (hf w hst.wok (hst.wok.own' hs) .returning) ?_;rintro en u' w' ⟨rfl,v,rfl,x,hp,_,hw'⟩;obtain⟨L',L'',hL,ha,hg⟩:=h x hp;have hw2:WOK S w0 L'' w' := ha.eq ▸ hst.wok.swap (Lnew x) hL hw';exact hg .ret (.inl rfl) { a with defers:=D } w' ⟨rfl,hst.size,fun k v hk=>hst.env k v hk,hw2⟩
 rcases hex with rfl|rfl<;>exact hr
end
end Go.Eg
namespace Go.Eg
open Go.RowKit
class DropM (L Ls:List Res) (L' : outParam (List Res)):Prop where
 p:L.Perm (Ls++L')
instance DropM.nil {L:List Res}:DropM L [] L:=⟨.refl _⟩
instance DropM.cons {L L1 L' : List Res} {r:Res} {Ls:List Res} [h1:DropR L r L1] [h2:DropM L1 Ls L']:DropM L (r :: Ls) L' := ⟨h1.p.trans (h2.p.cons r)⟩
theorem au.star {ι:Type} {P:Program} {f:FuncId} {args:List Value} {w:World} {r0:Res} {Ls:List Res} {p:ι→Prop} {val:ι→Value} {r1:ι→Res} {Ls1:ι→List Res}
  (h:WOK (fps (r0 :: Ls)) w (r0 :: Ls) w→au P f args w (r0 :: Ls) p val (fun _=>[]) (fun x=>r1 x :: Ls1 x)) (hw:WOK (fps [r0,.star Ls]) w [r0,.star Ls] w) :
  au P f args w [r0,.star Ls] p val (fun _=>[]) (fun x=>[r1 x,.star (Ls1 x)]):=by
 have e:fps [r0,.star Ls]=fps (r0 :: Ls):=by simp[fps,Res.star]
 have hw1:WOK (fps (r0 :: Ls)) w (r0 :: Ls) w:=e ▸ ((hw.perm (.swap _ _ _)).opened.perm List.perm_append_comm);refine Ret.mono (h hw1) fun v w' ⟨x,hp,hv,hw2⟩=>⟨x,hp,hv,?_⟩
 rw[e];have h3:WOK (fps (r0 :: Ls)) w (Ls1 x++[r1 x]) w' := hw2.perm (by
  show(r1 x :: Ls1 x).Perm (Ls1 x++[r1 x]);exact(List.perm_append_comm (l₁:=[r1 x]) (l₂:=Ls1 x)))
 exact h3.closed.perm (.swap _ _ _)
def IV (P:Program) (f:FuncId) (args:List Value) (w:World) (R:Value→World→Prop):Prop:=CallsDIn (FR none) 0 P f args.toArray .returning w fun en u' w' => u' = .returning∧∃v,en=.returned v∧R v w'
def Dh {ι:Type} (P:Program) (f:FuncId) (args:List Value) (w:World) (Lin:List Res) (p:ι→Prop) (val:ι→Value) (Lnew Lrep:ι→List Res):Prop :=
 IV P f args w fun v w' => ∃x,p x∧v=val x∧WOK (fps Lin) w (Lnew x++Lrep x) w'
section
variable {P:Program} {S:List Nat} {w0:World} {N:Nat} {D:List Deferred} {e:Env} {L:List Res} {fn:Func} {R:Value→World→Prop}
theorem Hp {ι:Type} {f:FuncId} {cap vs:List Value} (Lin:List Res) {p:ι→Prop} {val:ι→Value} {Lnew Lrep:ι→List Res} [hb:HasB P f] [hs:Sub L Lin]
  (hf:∀w,WOK S w0 L w→WOK (fps Lin) w Lin w→Dh P f (vs++cap) w Lin p val Lnew Lrep)
  (h:∀x,p x→∃L' L'',Swap L Lin (Lrep x) L' ∧ App (Lnew x) L' L'' ∧ ∀ex,ex=.ret∨ex=.normal→G ⟨S,w0,N,D,none⟩ e L'' (jN P fn R ex)) :
  ∀ex,ex=.ret∨ex=.normal→G ⟨S,w0,N,gL f cap vs :: D,none⟩ e L (jN P fn R ex):=fun ex hex a w hst=>by
 have hr:LeavesInM (FR none) 0 P fn a.tmps (fun en w' => ∃v,en=.returned v∧R v w') a.defers .returning w:=by
  rw[hst.defers];refine⟨by simp,.inr ⟨fun hd=>by simp[FR] at hd,.func f,cap.toArray,f,(vs++cap).toArray,rfl,?_,fun _ _=>trivial,?_⟩⟩
  ·simp[invoke,gL,xY hb.has]
  refine CallsDIn.mono (hf w hst.wok (hst.wok.own' hs)) ?_;rintro en u' w' ⟨rfl,v,rfl,x,hp,_,hw'⟩;obtain⟨L',L'',hL,ha,hg⟩:=h x hp;have hw2:WOK S w0 L'' w' := ha.eq ▸ hst.wok.swap (Lnew x) hL hw';exact hg .ret (.inl rfl) { a with defers:=D } w' ⟨rfl,hst.size,fun k v hk=>hst.env k v hk,hw2⟩
 rcases hex with rfl|rfl<;>exact hr
end
end Go.Eg
namespace Go.Eg
open Go.RowKit
theorem au.into {ι:Type} {P:Program} {f:FuncId} {args:List Value} {w:World} {L Lin:List Res} {p:ι→Prop} {val:ι→Value} {Lnew Lrep:ι→List Res} {L' : ι→List Res} (hw:WOK (fps L) w L w) (hs:∀x,Swap L Lin (Lrep x) (L' x)) (hsub:Sub L Lin)
  (h:WOK (fps Lin) w Lin w→au P f args w Lin p val Lnew Lrep):au P f args w L p val Lnew L' :=
 Ret.mono (h (hw.own' hsub)) fun v w' ⟨x,hp,hv,hw'⟩=>⟨x,hp,hv,hw.swap (Lnew x) (hs x) hw'⟩
section
variable {P:Program} {κ:Cx} {e:Env} {L:List Res} {d:Tmp} {ty:TypeId} {s:String} {af:Array Edge} {gd:Option (Nat × Bool)}
theorem yo {T K E b:Nat} {m k:Operand} {kv v z:Value} {c:Bool} {D:List (Value × Value)} [ht:MpT P T K E] (hm:ev e m=some (.map (some b))) (hk:ev e k=some kv) [hi:InMp L b D] (hkl:Key P K kv) (hD:∀p∈D,Key P K p.1) (hz:∀w:World,(zeroValue E).run P w=.ok z w)
  (h:((kv,v)∈D∧(∀p∈D,p.1=kv→p.2=v)∧c=true)∨((∀p∈D,p.1≠kv)∧v=z∧c=false)) :
  cf P κ e L ⟨some d,.lookup T m k true,ty,s,af,gd⟩ (.tuple [v,.bool c].toArray):=by
 rcases h with⟨h1,h2,rfl⟩|⟨h1,rfl,rfl⟩
 ·exact wI hm hk hkl hD h1 h2
 exact mM hm hk hkl hD h1 hz
end
end Go.Eg
namespace Go.Eg
open Go.RowKit
variable {P:Program} {κ:Cx} {e:Env} {L:List Res} {d:Tmp} {ty:TypeId} {s:String} {af:Array Edge} {gd:Option (Nat × Bool)} {x y:Operand} {T T' : Nat} {a b:Nat}
theorem BH (a:Nat) (ha:a<18446744073709551616):bits .and .u64 (a:Int) 4294967295=((a%4294967296:Nat):Int):=by
 have h:=bits_and_u64_nat a 4294967295 ha aK;have e:a &&& 4294967295=a%4294967296:=Nat.and_two_pow_sub_one_eq_mod a 32;rw[e] at h;exact h
theorem rZ (hx:ev e x=some (.int .u64 (a:Int))) (hy:ev e y=some (.int .u64 4294967295)) (ha:a<18446744073709551616):cf P κ e L ⟨some d,.binOp .and T x y T',ty,s,af,gd⟩ (.int .u64 ((a%4294967296:Nat):Int)):=fun ac w he _=>by
 simp only[execOp,he.ev hx,he.ev hy];simp[eqGuard_at_int,binOp_and,intBits_and,BH a ha]
theorem uU (hx:ev e x=some (.int .u64 (a:Int))) (hy:ev e y=some (.int .u64 32)):cf P κ e L ⟨some d,.binOp .shr T x y T',ty,s,af,gd⟩ (.int .u64 ((a/4294967296:Nat):Int)):=fun ac w he _=>by
 have h:Op.shift .shr .u64 (a:Int) .u64 32=pure (.int .u64 ((a:Int)/2 ^ (32:Int).toNat)):=shift_shr .u64 .u64 a 32 aO aO;simp only[execOp,he.ev hx,he.ev hy];simp[eqGuard_at_int,binOp_shr,h]
theorem qV (hx:ev e x=some (.int .u64 (a:Int))) (hy:ev e y=some (.int .u64 (b:Int))) (hz:a*b<18446744073709551616):cf P κ e L ⟨some d,.binOp .mul T x y T',ty,s,af,gd⟩ (.int .u64 ((a*b:Nat):Int)) :=
 uB hx hy (by rw[←Int.natCast_mul,IntKind.wrap_u64];omega)
theorem kc (hx:ev e x=some (.int .u64 (a:Int))) (hy:ev e y=some (.int .u64 (b:Int))) (hz:a+b<18446744073709551616):cf P κ e L ⟨some d,.binOp .add T x y T',ty,s,af,gd⟩ (.int .u64 ((a+b:Nat):Int)) :=
 yI hx hy (by rw[←Int.natCast_add,IntKind.wrap_u64];omega)
theorem Bx (hx:ev e x=some (.int .u64 (a:Int))) (hy:ev e y=some (.int .u64 (b:Int))):cf P κ e L ⟨some d,.binOp .mul T x y T',ty,s,af,gd⟩ (.int .u64 ((a*b%18446744073709551616:Nat):Int)) :=
 uB hx hy (by rw[←Int.natCast_mul,IntKind.wrap_u64];omega)
end Go.Eg
namespace Go.Eg
open Go.RowKit
set_option maxRecDepth 100000
def eZ (i:Nat):Nat:=if i=0 then 0 else Nat.log2 i+1
def AE:List UInt8:=(List.range 256).map fun i=>(eZ i).toUInt8
theorem kq:∀i:Nat,i<256→i<2 ^ eZ i∧eZ i≤8∧(0<i→2 ^ eZ i≤2*i):=by decide +kernel
theorem AD:∀i:Nat,i<256→(AE[i]?.map UInt8.toNat)=some (eZ i):=by decide +kernel
section
variable {P:Program} {κ:Cx} {e:Env} {L:List Res} {d:Tmp} {ty:TypeId} {s:String} {af:Array Edge} {gd:Option (Nat × Bool)} {x y:Operand} {T T' : Nat} {a b n:Nat}
theorem ka {k:IntKind} (hx:ev e x=some (.int .u64 (a:Int))) (hy:ev e y=some (.int k (n:Int))) (hn:n≤64):cf P κ e L ⟨some d,.binOp .shl T x y T',ty,s,af,gd⟩ (.int .u64 ((a*2 ^ n%18446744073709551616:Nat):Int)):=fun ac w he _=>by
 have h:Op.shift .shl .u64 (a:Int) k (n:Int)=pure (.int .u64 (IntKind.u64.wrap ((a:Int)*2 ^ (n:Int).toNat))):=shift_shl .u64 k a n aK (by show(n:Int)≤64;omega);have h2:IntKind.u64.wrap ((a:Int)*2 ^ (n:Int).toNat)=((a*2 ^ n%18446744073709551616:Nat):Int):=by
  rw[IntKind.wrap_u64,Int.toNat_natCast,Int.natCast_emod,Int.natCast_mul,Int.natCast_pow];rfl
 rw[h2] at h;generalize ((a*2 ^ n%18446744073709551616:Nat):Int)=z at h ⊢;have e0:=(binOp_shl T _ _ _ _).trans h;simp only[execOp,he.ev hx,he.ev hy];simp[eqGuard_at_int,e0]
theorem uA {k:IntKind} (hx:ev e x=some (.int .u64 (a:Int))) (hy:ev e y=some (.int k (n:Int))) (hn:n≤64):cf P κ e L ⟨some d,.binOp .shr T x y T',ty,s,af,gd⟩ (.int .u64 ((a/2 ^ n:Nat):Int)):=fun ac w he _=>by
 have h:Op.shift .shr .u64 (a:Int) k (n:Int)=pure (.int .u64 ((a:Int)/2 ^ (n:Int).toNat)):=shift_shr .u64 k a n aK (by show(n:Int)≤64;omega);have h2:(a:Int)/2 ^ (n:Int).toNat=((a/2 ^ n:Nat):Int):=by rw[Int.toNat_natCast,Int.natCast_ediv,Int.natCast_pow];rfl
 rw[h2] at h;generalize ((a/2 ^ n:Nat):Int)=z at h ⊢;have e0:=(binOp_shr T _ _ _ _).trans h;simp only[execOp,he.ev hx,he.ev hy];simp[eqGuard_at_int,e0]
theorem EE {k:IntKind} {z:Int} (hx:ev e x=some (.int .u64 z)) (hy:ev e y=some (.int k (n:Int))) (hn:n≤64):cf P κ e L ⟨some d,.binOp .shr T x y T',ty,s,af,gd⟩ (.int .u64 (z/2 ^ n)):=fun ac w he _=>by
 have h:Op.shift .shr .u64 z k (n:Int)=pure (.int .u64 (z/2 ^ (n:Int).toNat)):=shift_shr .u64 k z n aK (by show(n:Int)≤64;omega);rw[Int.toNat_natCast] at h;have e0:=(binOp_shr T _ _ _ _).trans h;simp only[execOp,he.ev hx,he.ev hy];simp[eqGuard_at_int,e0]
theorem DW (hx:ev e x=some (.int .u64 (a:Int))) (hy:ev e y=some (.int .u64 (b:Int))) (ha:a<18446744073709551616) (hb:b<18446744073709551616):cf P κ e L ⟨some d,.binOp .or T x y T',ty,s,af,gd⟩ (.int .u64 ((a ||| b:Nat):Int)):=fun ac w he _=>by
 simp only[execOp,he.ev hx,he.ev hy];simp[eqGuard_at_int,binOp_or,intBits_or,bits_or_u64_nat a b ha hb]
theorem oC (hx:ev e x=some (.int .u64 (a:Int))) (hy:ev e y=some (.int .u64 (b:Int))) (ha:a<18446744073709551616) (hb:0<b):cf P κ e L ⟨some d,.binOp .quo T x y T',ty,s,af,gd⟩ (.int .u64 ((a/b:Nat):Int)):=by
 have h1:=fj (P:=P) (κ:=κ) (L:=L) (d:=d) (ty:=ty) (s:=s) (af:=af) (gd:=gd) (T:=T) (T' := T') hx hy aK;have e1:IntKind.u64.wrap (((a:Nat):Int).tdiv ((b:Nat):Int))=((a/b:Nat):Int):=by
  have h2:((a:Nat):Int).tdiv ((b:Nat):Int)=((a/b:Nat):Int):=rfl;have h3:a/b≤a:=Nat.div_le_self _ _;rw[h2];generalize a/b=q at h3 ⊢;rw[ey aK aK]
 rwa [e1] at h1
theorem ym (hx:ev e x=some (.int .u64 (a:Int))) (hy:ev e y=some (.int .u64 (b:Int))) (h:b≤a) (ha:a<18446744073709551616):cf P κ e L ⟨some d,.binOp .sub T x y T',ty,s,af,gd⟩ (.int .u64 ((a-b:Nat):Int)) :=
 yN hx hy (by rw[IntKind.wrap_u64];omega)
theorem tM {t:ByteArray} (hT:P.underlying T=some .string) (hx:ev e x=some (.string t)) (hy:ev e y=some (.int .u8 (a:Int))) (hb:t.data.toList=AE) (hi:a<256):cf P κ e L ⟨some d,.index T x y,ty,s,af,gd⟩ (.int .u8 ((eZ a:Nat):Int)):=fun ac w he _=>by
 have hsz:t.size=256:=by
  have:t.data.toList.length=256:=by rw[hb];simp[AE]
  simpa using this
 have hg:=AD a hi;rw[←hb] at hg;have hlt:a<t.data.size:=by show a<t.size;omega
 have hv:(t[a]'aK).toNat=eZ a:=by
  rw[Array.getElem?_toList,Array.getElem?_eq_getElem hlt] at hg;have h9:(t.data[a]'hlt).toNat=eZ a:=by simpa using hg
  exact h9
 have hr:=run_index_string (P:=P) w T t .u8 (a:Int) hT;rw[dif_pos ⟨by omega,by omega⟩] at hr;simp only[Int.toNat_natCast,hv] at hr;simp only[execOp,he.ev hx,he.ev hy];simp[hr]
end
structure dt (x n:Nat):Prop where
 lt:x<2 ^ n
 ge:2 ^ n≤2*x
theorem dt.up {x n:Nat} (k:Nat) (h:dt (x/2 ^ k) n):dt x (n+k):=by
 have hp:0<2 ^ k:=Nat.pow_pos aO;obtain⟨h1,h2⟩:=h;rw[Nat.div_lt_iff_lt_mul hp] at h1;refine⟨by rw[Nat.pow_add];exact h1,?_⟩;rw[Nat.pow_add];have h3:=Nat.mul_le_mul_right (2 ^ k) h2;have h4:=Nat.div_mul_le_self x (2 ^ k);rw[Nat.mul_assoc] at h3;omega
theorem dt.of8 {x:Nat} (h:x<256) (h0:0<x):dt x (eZ x)∧eZ x≤8:=⟨⟨(kq x h).1,(kq x h).2.2 h0⟩,(kq x h).2.1⟩
structure BT (y s:Nat):Prop where
 le:s≤63
 lo:9223372036854775808≤y*2 ^ s
 hi:y*2 ^ s<18446744073709551616
theorem dt.nrm {y n:Nat} (h:dt y n) (hn:n≤64) (hy:1≤y):BT y (64-n):=by
 have h0:n≠0:=fun hc=>by have:=h.lt;rw[hc] at this;simp at this;omega
 have hp:(2:Nat) ^ n*2 ^ (64-n)=18446744073709551616:=by rw[←Nat.pow_add,show n+(64-n)=64 by omega]
 refine⟨by omega,?_,?_⟩
 ·have h3:=Nat.mul_le_mul_right (2 ^ (64-n)) h.ge;rw[hp,Nat.mul_assoc] at h3;omega
 have h3:=Nat.mul_lt_mul_of_pos_right h.lt (Nat.pow_pos (n:=64-n) (show 0<2 by decide));rw[hp] at h3;exact h3
theorem wr1 (U v R:Nat) (h:U%v*4294967296+R/4294967296<18446744073709551616):IntKind.u64.wrap (IntKind.u64.wrap (IntKind.u64.wrap ((U:Int)*4294967296)+((R/4294967296:Nat):Int))-IntKind.u64.wrap (((U/v:Nat):Int)*((v*4294967296:Nat):Int)))=((U%v*4294967296+R/4294967296:Nat):Int):=by
 have hd:=Nat.div_add_mod U v;have e:((U/v:Nat):Int)*((v*4294967296:Nat):Int)=((v*(U/v):Nat):Int)*4294967296:=by
  have:U/v*(v*4294967296)=v*(U/v)*4294967296:=by rw[←Nat.mul_assoc,Nat.mul_comm (U/v)]
  rw[←Int.natCast_mul,this,Int.natCast_mul];rfl
 rw[e];generalize v*(U/v)=p at hd ⊢;generalize U%v=r at hd h ⊢;generalize R/4294967296=t at h ⊢;subst hd;simp only[IntKind.wrap_u64];omega
theorem wr2 (a b:Nat) (ha:a<4294967296) (hb:b<4294967296):IntKind.u64.wrap (IntKind.u64.wrap ((a:Int)*4294967296)+(b:Int))=((a*4294967296+b:Nat):Int):=by
 simp only[IntKind.wrap_u64];omega
theorem Db {q:Nat} (h:q<4294967296):decide ((4294967296:Int)≤(q:Int))=false:=by simp;omega
theorem Da (z:Int):decide (IntKind.u64.wrap z<0)=false:=by
 refine decide_eq_false ?_;rw[IntKind.wrap_u64];omega
theorem GA {a b:Nat} (h:a<b):decide ((b:Int)≤(a:Int))=false:=by simp;omega
theorem GM {a:Nat} (h:1≤a):decide ((a:Int)=0)=false:=by simp;omega
structure BV (hi lo y s v U R:Nat):Prop where
 v0:0<v
 fY:y*2 ^ s=v*4294967296
 vlt:v<4294967296
 fU:hi*2 ^ s%18446744073709551616 ||| lo/2 ^ (64-s)=U
 fR:lo*2 ^ s%18446744073709551616=R
 ult:U<v*4294967296
 rlt:R<18446744073709551616
 res:U/v*4294967296+(U%v*4294967296+R/4294967296)/v=(hi*18446744073709551616+lo)/y
 q1:U/v<4294967296
 q0:(U%v*4294967296+R/4294967296)/v<4294967296
 rem:U%v*4294967296+R/4294967296<v*4294967296
theorem Fy {v:Nat} (h:v<4294967296):v*4294967296<18446744073709551616:=by omega
theorem BV.more {hi lo y s v U R:Nat} (D:BV hi lo y s v U R):v*4294967296<18446744073709551616∧U<18446744073709551616∧U/v*v≤U∧U-U/v*v=U%v∧(U%v*4294967296+R/4294967296<18446744073709551616)∧(U%v*4294967296+R/4294967296)/v*v≤U%v*4294967296+R/4294967296:=by
 have m1:=Fy D.vlt;have m2:=Nat.lt_trans D.ult m1;have m3:=Nat.div_mul_le_self U v;refine⟨m1,m2,m3,?_,Nat.lt_trans D.rem m1,Nat.div_mul_le_self _ _⟩;have h4:=Nat.div_add_mod U v;rw[Nat.mul_comm v] at h4;generalize U/v*v=p at h4;generalize U%v=r at h4 ⊢;clear m1 m2 m3 D;omega
theorem GN (U R:Nat):(U*18446744073709551616+R)/4294967296=U*4294967296+R/4294967296:=by
 rw[show U*18446744073709551616+R=R+U*4294967296*4294967296 by omega,Nat.add_mul_div_right _ _ aO];omega
theorem FD {hi lo y s:Nat} (hy:1≤y) (hy2:y≤4294967296) (hh:hi<y) (hl:lo<18446744073709551616) (hs:BT y s):∃v U R,BV hi lo y s v U R:=by
 obtain⟨h1,h2,h3⟩:=hs;have hs31:31≤s:=by
  refine Classical.byContradiction fun hc=>?_;have h4:2 ^ s≤2 ^ 30:=Nat.pow_le_pow_right aO aK;have h5:=Nat.mul_le_mul hy2 h4;have h6:(4294967296:Nat)*2 ^ 30=4611686018427387904:=by decide
  omega
 obtain⟨v,hv⟩:∃v,y*2 ^ s=v*4294967296:=by
  rcases Nat.lt_or_ge 31 s with h4|h4
  ·refine⟨y*2 ^ (s-32),?_⟩;rw[Nat.mul_assoc,show(4294967296:Nat)=2 ^ 32 by decide,←Nat.pow_add,Nat.sub_add_cancel aK]
  have hs2:s=31:=by omega
  subst hs2;have h5:(2:Nat) ^ 31=2147483648:=by decide
  rw[h5] at h2 h3 ⊢;exact⟨2147483648,by omega⟩
 have hv0:0<v:=by omega
 have hp:0<2 ^ s:=Nat.pow_pos aO;have hpp:(2:Nat) ^ (64-s)*2 ^ s=18446744073709551616:=by rw[←Nat.pow_add,show 64-s+s=64 by omega]
 have hq:0<2 ^ (64-s):=Nat.pow_pos aO;have hhs:hi*2 ^ s<18446744073709551616:=Nat.lt_of_le_of_lt (Nat.mul_le_mul_right _ aK) h3;have hlq:lo/2 ^ (64-s)<2 ^ s:=by rw[Nat.div_lt_iff_lt_mul hq,Nat.mul_comm,hpp];exact hl
 have hU:hi*2 ^ s%18446744073709551616 ||| lo/2 ^ (64-s)=hi*2 ^ s+lo/2 ^ (64-s):=by
  rw[Nat.mod_eq_of_lt hhs,Nat.mul_comm hi,←Nat.two_pow_add_eq_or_of_lt hlq]
 have hR:lo*2 ^ s%18446744073709551616=lo%2 ^ (64-s)*2 ^ s:=by
  rw[←hpp,Nat.mul_mod_mul_right]
 generalize hUU:hi*2 ^ s+lo/2 ^ (64-s)=U at hU;have hrlt:=Nat.mod_lt (lo*2 ^ s) (show 0<18446744073709551616 by decide);generalize hRR:lo*2 ^ s%18446744073709551616=R at hR hrlt;have hN:U*18446744073709551616+R=(hi*18446744073709551616+lo)*2 ^ s:=by
  have h4:=Nat.div_add_mod lo (2 ^ (64-s));rw[←hUU,hR]
  conv=>rhs;rw[←h4]
  rw[←hpp];generalize lo/2 ^ (64-s)=a;generalize lo%2 ^ (64-s)=b;generalize 2 ^ (64-s)=c;generalize 2 ^ s=d;rw[Nat.add_mul,Nat.add_mul,Nat.add_mul];have e1:hi*d*(c*d)=hi*(c*d)*d:=by rw[Nat.mul_assoc,Nat.mul_comm d,Nat.mul_assoc,Nat.mul_assoc,Nat.mul_assoc]
  have e2:a*(c*d)=c*a*d:=by rw[←Nat.mul_assoc,Nat.mul_comm a]
  rw[e1,e2];omega
 have hult:U<v*4294967296:=by
  have h4:U*18446744073709551616+R<(v*4294967296)*18446744073709551616:=by
   rw[hN,←hv,Nat.mul_assoc,Nat.mul_comm (2 ^ s),←Nat.mul_assoc];exact Nat.mul_lt_mul_of_pos_right aK hp
  omega
 have hd:=Nat.div_add_mod U v;have hmd:=Nat.mod_lt U hv0;have hremlt:U%v*4294967296+R/4294967296<v*4294967296:=by omega
 refine⟨v,U,R,hv0,hv,by omega,hU,hRR,hult,hrlt,?_,?_,?_,hremlt⟩
 ·have e1:(hi*18446744073709551616+lo)/y=(U*18446744073709551616+R)/(v*4294967296):=by
   rw[hN,←hv,Nat.mul_div_mul_right _ _ hp]
  have e2:(U*18446744073709551616+R)/(v*4294967296)=(U*4294967296+R/4294967296)/v:=by
   have e4:(U*18446744073709551616+R)/4294967296=U*4294967296+R/4294967296:=GN U R;rw[Nat.mul_comm v,←Nat.div_div_eq_div_mul,e4]
  have e3:U*4294967296+R/4294967296=v*(U/v*4294967296)+(U%v*4294967296+R/4294967296):=by
   conv=>lhs;rw[←hd]
   rw[Nat.add_mul,Nat.mul_assoc];omega
  rw[e1,e2,e3,Nat.mul_add_div hv0]
 ·rw[Nat.div_lt_iff_lt_mul hv0];omega
 rw[Nat.div_lt_iff_lt_mul hv0];omega
end Go.Eg
namespace Go.Eg
open Go.RowKit
section
variable {P:Program} {κ:Cx} {e:Env} {L:List Res} {X:Act→World→Prop} {Q:Exit→Act→World→Prop} {d:Tmp} {ty:TypeId} {s:String} {af:Array Edge} {gd:Option (Nat × Bool)}
theorem tg {T E m i:Nat} {kd:IntKind} {x y:Operand} {z:Int} {cs:List Value} {v:Value} [ht:Arr P T E m 1] [hg:Ty P E true 1] (hx:ev e x=some (.agg cs.toArray)) (hy:ev e y=some (.int kd z)) (hz:z=(i:Int)) (him:i<m) (hv:cs[i]?=some v) :
  cf P κ e L ⟨some d,.index T x y,ty,s,af,gd⟩ (.agg [v].toArray):=fun a w he hw=>by
 obtain⟨f,hf,hs⟩:=Option.map_eq_some_iff.1 ht.siz;subst hz;obtain⟨hi,rfl⟩:=List.getElem?_eq_some_iff.1 hv;have hex:List.take 1 (List.drop i cs)=[cs[i]]:=by rw[List.drop_eq_getElem_cons hi];rfl
 simp[execOp,he.ev hx,he.ev hy,Instr.index,asIntOf,Sem.run_bind,run_underlying ht.und,sizeOf,typeInfo,hf,hs,him,part,hg.agg w,hi,hex]
theorem mu {f:FuncId} {x:Operand} {xs:List Operand} {vs:List Value} {ts:Array TypeId} {v:Value} [hb:HasB P f] (hx:ev e x=some (.func (.func f) #[] #[])) (hxs:xs.map (ev e)=vs.map some) (hf:∀w,WOK κ.S κ.w0 L w→Pur P f vs w v) (hd:Nat.blt d κ.N=true) (h:G κ ((d,v) :: e) L X) :
  G κ e L (owp κ.ρ P ⟨some d,.call { callee:=.value x,args:=xs.toArray,argTypes:=ts },ty,s,af,gd⟩ Q X):=uY (hb:=hb) hx hxs hf hd h
end
end Go.Eg
namespace Go.Eg
open Go.RowKit
section
variable {P:Program} {κ:Cx} {e:Env} {L:List Res} {X:Act→World→Prop} {Q:Exit→Act→World→Prop} {d:Tmp} {ty:TypeId} {s:String} {af:Array Edge} {gd:Option (Nat × Bool)}
theorem HO {K:Nat} {kd:IntKind} {z:Int} (hK:P.underlying K=some (.int kd)) (hz:(Lit.int kd z).wf=true):Key P K (.int kd z):=⟨_,Maps.keyOf_int_mk hK hz⟩
theorem vF {T K E b:Nat} {m k:Operand} {kv v:Value} {D:List (Value × Value)} [ht:MpT P T K E] (hm:ev e m=some (.map (some b))) (hk:ev e k=some kv) [hi:InMp L b D] (hkl:Key P K kv) (hD:∀p∈D,Key P K p.1) (hv:(kv,v)∈D) (hu:∀p∈D,p.1=kv→p.2=v) :
  cf P κ e L ⟨some d,.lookup T m k false,ty,s,af,gd⟩ v:=fun a w he hw=>by
 obtain⟨i,hi'⟩:=hi.at_;obtain⟨es,clock,hb,hp⟩:=hw.sat i _ hi';obtain⟨j,hf⟩:=kH (w:=w) ht.keyed hkl hp hD hv hu;obtain⟨l,hl⟩:=hkl;have hck:=ht.keyed.check w es.isEmpty hl;simp[execOp,he.ev hm,he.ev hk,Instr.lookup,run_underlying ht.und,MapKept.run_getObj_map hb,hck,hf,Result.andThen]
theorem tf {T K E b:Nat} {m k:Operand} {kv z:Value} {D:List (Value × Value)} [ht:MpT P T K E] (hm:ev e m=some (.map (some b))) (hk:ev e k=some kv) [hi:InMp L b D] (hkl:Key P K kv) (hD:∀p∈D,Key P K p.1) (hno:∀p∈D,p.1≠kv) (hz:∀w:World,(zeroValue E).run P w=.ok z w) :
  cf P κ e L ⟨some d,.lookup T m k false,ty,s,af,gd⟩ z:=fun a w he hw=>by
 obtain⟨i,hi'⟩:=hi.at_;obtain⟨es,clock,hb,hp⟩:=hw.sat i _ hi';have hf:=pF (w:=w) ht.keyed hkl hp hD hno;obtain⟨l,hl⟩:=hkl;have hck:=ht.keyed.check w es.isEmpty hl;simp[execOp,he.ev hm,he.ev hk,Instr.lookup,run_underlying ht.und,MapKept.run_getObj_map hb,hck,hf,hz w,Result.andThen]
theorem wL (b:Nat) {D:List (Value × Value)} (D' : List (Value × Value)) {L' : List Res} [hi:InMp L b D] (h:D=D') [hL:UpMp L b D D' L'] (hg:G κ e L' X):G κ e L X:=by
 subst h;obtain⟨i,hi',hs⟩:=hL.at_;have:L.set i (.mp b D)=L:=by
  apply List.ext_getElem?;intro j;by_cases hij:i=j
  ·subst hij;rw[List.getElem?_set_self (iB hi'),hi']
  rw[List.getElem?_set_ne hij]
 rw[this] at hs;subst hs;exact hg
theorem zv {E:Nat} {v:Value} (h3:(P.info? E).bind (·.zero)=some v):∀w:World,(zeroValue E).run P w=.ok v w:=fun w=>by
 obtain⟨i,hi,hz⟩:=Option.bind_eq_some_iff.1 h3;simp[zeroValue,typeInfo,hi,hz]
def Cd:Value→Option Bool
 | .nilFunc=>some false
 | .func _ _ _=>some true
 | _=>none
theorem nm {T:Nat} {v:Value} {b:Bool} (hu:∃x y z,P.underlying T=some (.func x y z)) (hv:Cd v=some b) (w:World):(Op.equal T v .nilFunc).run P w=.ok (!b) w:=by
 obtain⟨x,y,z,hu⟩:=hu;have key:∀d:Nat,(Op.equalIn (d+1) T v .nilFunc).run P w=.ok (!b) w:=fun d=>by
  cases v<;>simp[Cd] at hv<;>subst hv<;>simp[Op.equalIn,run_underlying hu]
 exact key 9999
theorem rF {T T' : Nat} {x y:Operand} {v:Value} {b:Bool} (hu:∃x y z,P.underlying T=some (.func x y z)) (hx:ev e x=some v) (hy:ev e y=some .nilFunc) (hv:Cd v=some b):cf P κ e L ⟨some d,.binOp .neq T x y T',ty,s,af,gd⟩ (.bool b):=fun a w he _=>by
 have e1:binOp .neq T v .nilFunc=(do pure (.bool (!(←Op.equal T v .nilFunc)))):=by cases v<;>rfl
 have e2:(eqGuard .neq T x y v .nilFunc).run P w=.ok () w:=by cases v<;>simp[Cd] at hv<;>simp[eqGuard,run_program]
 simp[execOp,Sem.run_bind,he.ev hx,he.ev hy,e2,e1,nm hu hv]
theorem Es (r r' : Res) {L' : List Res} [hs:Swap L [r] [r'] L'] (he:r=r') (h:G κ e L' X):G κ e L X:=fun a w hst=>by
 subst he;obtain⟨rest,h1,h2⟩:=hs.ex;exact h a w ⟨hst.defers,hst.size,hst.env,hst.wok.perm (h1.trans h2.symm)⟩
theorem mv (h:G κ e (.star [] :: L) X):G κ e L X:=fun a w hst=>h a w ⟨hst.defers,hst.size,hst.env,WOK.closed (Ls:=[]) (show WOK κ.S κ.w0 ([]++L) w from hst.wok)⟩
theorem kA (Ls Rs:List Res) {L' : List Res} [hd:DropM L (.star Ls :: Rs) L'] (h:G κ e (.star (Ls++Rs) :: L') X):G κ e L X:=fun a w hst =>
 h a w ⟨hst.defers,hst.size,hst.env,by
  have h1:=(hst.wok.perm hd.p)
  have h2:=(show WOK κ.S κ.w0 (.star Ls :: (Rs++L')) w from h1).opened;rw[←List.append_assoc] at h2;exact h2.closed⟩
theorem EK {T T' : Nat} {x:Operand} (hu:∃z,P.underlying T=some (.interface z)) (hx:ev e x=some .nilIface):cf P κ e L ⟨some d,.binOp .eql T x (.const .nilIface) T',ty,s,af,gd⟩ (.bool true):=fun a w he _=>by
 obtain⟨z,hu⟩:=hu;have key:∀d:Nat,(Op.equalIn (d+1) T .nilIface .nilIface).run P w=.ok true w:=fun d=>by simp[Op.equalIn,run_underlying hu]
 have e1:binOp .eql T .nilIface .nilIface=(do pure (.bool (←Op.equal T .nilIface .nilIface))):=rfl;have e2:(eqGuard .eql T x (.const .nilIface) .nilIface .nilIface).run P w=.ok () w:=by simp[eqGuard,run_program]
 have e3:(Op.equal T .nilIface .nilIface).run P w=.ok true w:=key 9999;have e4:a.eval (.const .nilIface)=.nilIface:=rfl;simp[execOp,Sem.run_bind,he.ev hx,e4,e2,e1,e3]
end
end Go.Eg
namespace Go.Proofs.YtdddiilocbbkkaaGreat
open Go.Eg
instance:Ty Tryz.prog 3 false 1:=Ty.of aL aL
instance:Ty Tryz.prog 4 false 1:=Ty.of aL aL
instance:Ty Tryz.prog 5 false 1:=Ty.of aL aL
instance:Ty Tryz.prog 22 false 1:=Ty.of aL aL
instance:Ty Tryz.prog 24 true 20:=Ty.of aL aL
instance:Ty Tryz.prog 25 false 1:=Ty.of aL aL
instance:Ty Tryz.prog 29 false 1:=Ty.of aL aL
instance:Ty Tryz.prog 35 true 4:=Ty.of aL aL
instance:Ty Tryz.prog 37 false 1:=Ty.of aL aL
instance:Ty Tryz.prog 38 false 1:=Ty.of aL aL
instance:Ty Tryz.prog 39 false 1:=Ty.of aL aL
instance:Ty Tryz.prog 40 false 1:=Ty.of aL aL
instance:Ty Tryz.prog 42 true 15:=Ty.of aL aL
instance:Ty Tryz.prog 44 false 1:=Ty.of aL aL
instance:Ty Tryz.prog 45 false 1:=Ty.of aL aL
instance:Ty Tryz.prog 47 true 9:=Ty.of aL aL
instance:Ty Tryz.prog 50 true 3:=Ty.of aL aL
instance:Ty Tryz.prog 52 true 7:=Ty.of aL aL
instance:Ty Tryz.prog 55 true 3:=Ty.of aL aL
instance:Ty Tryz.prog 56 false 1:=Ty.of aL aL
instance:Ty Tryz.prog 58 false 1:=Ty.of aL aL
instance:Ty Tryz.prog 60 true 16:=Ty.of aL aL
instance:Ty Tryz.prog 85 false 1:=Ty.of aL aL
instance:Ty Tryz.prog 86 false 1:=Ty.of aL aL
instance:Ty Tryz.prog 89 true 1:=Ty.of aL aL
instance:Ty Tryz.prog 90 false 1:=Ty.of aL aL
instance:Ty Tryz.prog 92 false 1:=Ty.of aL aL
instance:Ty Tryz.prog 94 false 1:=Ty.of aL aL
instance:Ty Tryz.prog 96 false 1:=Ty.of aL aL
instance:Ty Tryz.prog 98 false 1:=Ty.of aL aL
instance:Ty Tryz.prog 100 false 1:=Ty.of aL aL
instance:Ty Tryz.prog 102 false 1:=Ty.of aL aL
instance:Ty Tryz.prog 104 false 1:=Ty.of aL aL
instance:Ty Tryz.prog 106 true 2:=Ty.of aL aL
instance:Ty Tryz.prog 107 false 1:=Ty.of aL aL
instance:Ty Tryz.prog 110 true 2:=Ty.of aL aL
instance:Ty Tryz.prog 115 true 3:=Ty.of aL aL
instance:Ty Tryz.prog 128 true 3:=Ty.of aL aL
instance:Ty Tryz.prog 136 false 1:=Ty.of aL aL
instance:Ty Tryz.prog 139 false 1:=Ty.of aL aL
instance:Ty Tryz.prog 142 false 1:=Ty.of aL aL
instance:Ty Tryz.prog 145 false 1:=Ty.of aL aL
instance:Ty Tryz.prog 150 true 2:=Ty.of aL aL
instance:Ty Tryz.prog 161 false 1:=Ty.of aL aL
instance:Ty Tryz.prog 165 false 1:=Ty.of aL aL
instance:Ty Tryz.prog 176 false 1:=Ty.of aL aL
instance:Ty Tryz.prog 254 true 1:=Ty.of aL aL
instance:Ty Tryz.prog 255 true 20:=Ty.of aL aL
instance:Ty Tryz.prog 285 false 1:=Ty.of aL aL
instance:Ty Tryz.prog 295 false 1:=Ty.of aL aL
instance:Ty Tryz.prog 297 true 2:=Ty.of aL aL
instance:Ty Tryz.prog 321 false 1:=Ty.of aL aL
instance:Ty Tryz.prog 322 false 1:=Ty.of aL aL
instance:Ty Tryz.prog 324 true 3:=Ty.of aL aL
instance:Ty Tryz.prog 352 false 1:=Ty.of aL aL
instance:Ty Tryz.prog 354 true 2:=Ty.of aL aL
instance:Ty Tryz.prog 386 true 2:=Ty.of aL aL
instance:Zr Tryz.prog 3 [.int .i64 0]:=Zr.of aL
instance:Zr Tryz.prog 4 [.bool false]:=Zr.of aL
instance:Zr Tryz.prog 5 [.int .u8 0]:=Zr.of aL
instance:Zr Tryz.prog 22 [.int .u64 0]:=Zr.of aL
instance zr24:Zr Tryz.prog 24 [.int .i64 0,.int .i64 0,.int .u64 0,.int .u64 0,.int .u64 0,.int .u64 0,.int .u64 0,.int .u64 0,.int .u64 0,.int .u64 0,.int .i64 0,.int .i64 0,.int .i64 0,.int .i64 0,.int .i64 0,.int .i64 0,.int .i64 0,.int .i64 0,.int .u64 0,.int .u64 0]:=Zr.of aL
instance:Zr Tryz.prog 25 [.slice none 0 0]:=Zr.of aL
instance:Zr Tryz.prog 29 [.int .i64 0]:=Zr.of aL
instance zr35:Zr Tryz.prog 35 [.int .i64 0,.int .i64 0,.int .i64 0,.int .u64 0]:=Zr.of aL
instance:Zr Tryz.prog 37 [.slice none 0 0]:=Zr.of aL
instance:Zr Tryz.prog 38 [.slice none 0 0]:=Zr.of aL
instance zr42:Zr Tryz.prog 42 [.int .i64 0,.int .i64 0,.slice none 0 0,.int .u64 0,.int .u64 0,.int .u64 0,.int .u64 0,.slice none 0 0,.slice none 0 0,.slice none 0 0,.slice none 0 0,.slice none 0 0,.int .i64 0,.int .u64 0,.int .i64 0]:=Zr.of aL
instance:Zr Tryz.prog 45 [.slice none 0 0]:=Zr.of aL
instance zr47:Zr Tryz.prog 47 [.int .i64 0,.int .i64 0,.int .i64 0,.int .i64 0,.int .i64 0,.int .i64 0,.slice none 0 0,.slice none 0 0,.int .i64 0]:=Zr.of aL
instance zr50:Zr Tryz.prog 50 [.int .i64 0,.int .u64 0,.bool false]:=Zr.of aL
instance zr52:Zr Tryz.prog 52 [.int .u64 0,.int .i64 0,.bool false,.int .i64 0,.int .i64 0,.int .i64 0,.int .i64 0]:=Zr.of aL
instance zr55:Zr Tryz.prog 55 [.int .i64 0,.int .i64 0,.int .i64 0]:=Zr.of aL
instance:Zr Tryz.prog 58 [.slice none 0 0]:=Zr.of aL
instance zr60:Zr Tryz.prog 60 [.slice none 0 0,.int .i64 0,.int .i64 0,.slice none 0 0,.int .u64 0,.int .u64 0,.int .u64 0,.int .u64 0,.slice none 0 0,.slice none 0 0,.slice none 0 0,.slice none 0 0,.slice none 0 0,.int .i64 0,.int .u64 0,.int .i64 0]:=Zr.of aL
instance zr89:Zr Tryz.prog 89 [.pointer none]:=Zr.of aL
instance zr106:Zr Tryz.prog 106 [.int .i64 0,.int .i64 0]:=Zr.of aL
instance zr110:Zr Tryz.prog 110 [.int .i64 0,.int .u64 0]:=Zr.of aL
instance zr112:Zr Tryz.prog 112 [.pointer none,.int .i64 0,.int .i64 0,.int .u64 0,.int .u64 0,.int .u64 0,.int .u64 0,.int .u64 0,.int .u64 0,.int .u64 0,.int .u64 0,.int .i64 0,.int .i64 0,.int .i64 0,.int .i64 0,.int .i64 0,.int .i64 0,.int .i64 0,.int .i64 0,.int .u64 0,.int .u64 0,.pointer none,.pointer none,.pointer none,.slice none 0 0,.pointer none,.pointer none,.pointer none,.pointer none,.pointer none,.pointer none]:=Zr.of aL
instance:Zr Tryz.prog 115 [.int .u64 0,.int .u64 0,.int .u64 0]:=Zr.of aL
instance zr128:Zr Tryz.prog 128 [.int .i64 0,.int .i64 0,.int .i64 0]:=Zr.of aL
instance zr138:Zr Tryz.prog 138 [.int .u64 0,.int .u64 0,.int .u64 0,.int .u64 0]:=Zr.of aL
instance zr141:Zr Tryz.prog 141 [.slice none 0 0,.slice none 0 0,.int .i64 0]:=Zr.of aL
instance zr144:Zr Tryz.prog 144 [.int .u64 0,.int .u64 0,.int .u64 0,.int .u64 0,.int .u64 0]:=Zr.of aL
instance zr147:Zr Tryz.prog 147 [.int .i64 0,.int .i64 0,.int .u64 0,.int .u64 0,.int .u64 0,.int .u64 0,.int .u64 0,.int .u64 0,.int .u64 0,.int .u64 0,.int .i64 0,.int .i64 0,.int .i64 0,.int .i64 0,.int .i64 0,.int .i64 0,.int .i64 0,.int .i64 0,.int .u64 0,.int .u64 0,.int .i64 0,.int .i64 0,.slice none 0 0,.pointer none,.slice none 0 0,.pointer none,.slice none 0 0,.slice none 0 0,.int .i64 0,.pointer none]:=Zr.of aL
instance zr150:Zr Tryz.prog 150 [.int .i64 0,.int .u64 0]:=Zr.of aL
instance zr167:Zr Tryz.prog 167 [.int .i64 0,.slice none 0 0,.int .u64 0,.int .u64 0,.map none]:=Zr.of aL
instance zr171:Zr Tryz.prog 171 [.int .i64 0,.int .i64 0]:=Zr.of aL
instance zr175:Zr Tryz.prog 175 [.int .u64 0,.int .u64 0,.int .u64 0,.int .u64 0]:=Zr.of aL
instance zr178:Zr Tryz.prog 178 [.slice none 0 0,.int .i64 0]:=Zr.of aL
instance zr180:Zr Tryz.prog 180 [.int .i64 0]:=Zr.of aL
instance zr186:Zr Tryz.prog 186 [.int .u64 0,.int .u64 0,.int .u64 0,.int .u64 0]:=Zr.of aL
instance zr191:Zr Tryz.prog 191 [.pointer none,.pointer none]:=Zr.of aL
instance zr193:Zr Tryz.prog 193 [.slice none 0 0,.int .i64 0,.int .i64 0,.int .i64 0]:=Zr.of aL
instance zr195:Zr Tryz.prog 195 [.slice none 0 0,.int .i64 0,.int .i64 0,.int .i64 0]:=Zr.of aL
instance zr197:Zr Tryz.prog 197 [.slice none 0 0,.int .i64 0,.int .i64 0,.int .i64 0]:=Zr.of aL
instance zr254:Zr Tryz.prog 254 [.nilFunc]:=Zr.of aL
instance zr255:Zr Tryz.prog 255 [.nilFunc,.nilFunc,.nilFunc,.nilFunc,.nilFunc,.nilFunc,.nilFunc,.nilFunc,.nilFunc,.nilFunc,.nilFunc,.nilFunc,.nilFunc,.nilFunc,.nilFunc,.nilFunc,.nilFunc,.nilFunc,.nilFunc,.nilFunc]:=Zr.of aL
instance:Zr Tryz.prog 285 [.nilFunc]:=Zr.of aL
instance:Zr Tryz.prog 295 [.slice none 0 0]:=Zr.of aL
instance zr297:Zr Tryz.prog 297 [.int .i64 0,.int .i64 0]:=Zr.of aL
instance zr324:Zr Tryz.prog 324 [.int .i64 0,.nilFunc,.nilFunc]:=Zr.of aL
instance zr337:Zr Tryz.prog 337 [.bool false,.bool false]:=Zr.of aL
instance zr354:Zr Tryz.prog 354 [.nilFunc,.int .i64 0]:=Zr.of aL
instance zr366:Zr Tryz.prog 366 [.int .i64 0,.int .i64 0,.int .i64 0]:=Zr.of aL
instance zr374:Zr Tryz.prog 374 [.int .i64 0,.int .i64 0]:=Zr.of aL
instance zr386:Zr Tryz.prog 386 [.int .u64 0,.int .u64 0]:=Zr.of aL
instance:Fl Tryz.prog 24 0 0:=Fl.of aL
instance:Fl Tryz.prog 24 1 1:=Fl.of aL
instance:Fl Tryz.prog 24 2 2:=Fl.of aL
instance:Fl Tryz.prog 24 3 3:=Fl.of aL
instance:Fl Tryz.prog 24 4 4:=Fl.of aL
instance:Fl Tryz.prog 24 5 5:=Fl.of aL
instance:Fl Tryz.prog 24 6 6:=Fl.of aL
instance:Fl Tryz.prog 24 7 7:=Fl.of aL
instance:Fl Tryz.prog 24 8 8:=Fl.of aL
instance:Fl Tryz.prog 24 9 9:=Fl.of aL
instance:Fl Tryz.prog 24 10 10:=Fl.of aL
instance:Fl Tryz.prog 24 11 11:=Fl.of aL
instance:Fl Tryz.prog 24 12 12:=Fl.of aL
instance:Fl Tryz.prog 24 13 13:=Fl.of aL
instance:Fl Tryz.prog 24 14 14:=Fl.of aL
instance:Fl Tryz.prog 24 15 15:=Fl.of aL
instance:Fl Tryz.prog 24 16 16:=Fl.of aL
instance:Fl Tryz.prog 24 17 17:=Fl.of aL
instance:Fl Tryz.prog 24 18 18:=Fl.of aL
instance:Fl Tryz.prog 24 19 19:=Fl.of aL
instance:Fl Tryz.prog 35 0 0:=Fl.of aL
instance:Fl Tryz.prog 35 1 1:=Fl.of aL
instance:Fl Tryz.prog 35 2 2:=Fl.of aL
instance:Fl Tryz.prog 35 3 3:=Fl.of aL
instance:Fl Tryz.prog 42 0 0:=Fl.of aL
instance:Fl Tryz.prog 42 1 1:=Fl.of aL
instance:Fl Tryz.prog 42 2 2:=Fl.of aL
instance:Fl Tryz.prog 42 3 3:=Fl.of aL
instance:Fl Tryz.prog 42 4 4:=Fl.of aL
instance:Fl Tryz.prog 42 5 5:=Fl.of aL
instance:Fl Tryz.prog 42 6 6:=Fl.of aL
instance:Fl Tryz.prog 42 7 7:=Fl.of aL
instance:Fl Tryz.prog 42 8 8:=Fl.of aL
instance:Fl Tryz.prog 42 9 9:=Fl.of aL
instance:Fl Tryz.prog 42 10 10:=Fl.of aL
instance:Fl Tryz.prog 42 11 11:=Fl.of aL
instance:Fl Tryz.prog 42 12 12:=Fl.of aL
instance:Fl Tryz.prog 42 13 13:=Fl.of aL
instance:Fl Tryz.prog 42 14 14:=Fl.of aL
instance:Fl Tryz.prog 47 0 0:=Fl.of aL
instance:Fl Tryz.prog 47 1 1:=Fl.of aL
instance:Fl Tryz.prog 47 2 2:=Fl.of aL
instance:Fl Tryz.prog 47 3 3:=Fl.of aL
instance:Fl Tryz.prog 47 4 4:=Fl.of aL
instance:Fl Tryz.prog 47 5 5:=Fl.of aL
instance:Fl Tryz.prog 47 6 6:=Fl.of aL
instance:Fl Tryz.prog 47 7 7:=Fl.of aL
instance:Fl Tryz.prog 47 8 8:=Fl.of aL
instance:Fl Tryz.prog 50 1 1:=Fl.of aL
instance:Fl Tryz.prog 52 0 0:=Fl.of aL
instance:Fl Tryz.prog 52 1 1:=Fl.of aL
instance:Fl Tryz.prog 52 2 2:=Fl.of aL
instance:Fl Tryz.prog 52 3 3:=Fl.of aL
instance:Fl Tryz.prog 52 4 4:=Fl.of aL
instance:Fl Tryz.prog 52 5 5:=Fl.of aL
instance:Fl Tryz.prog 52 6 6:=Fl.of aL
instance:Fl Tryz.prog 55 0 0:=Fl.of aL
instance:Fl Tryz.prog 55 2 2:=Fl.of aL
instance:Fl Tryz.prog 60 0 0:=Fl.of aL
instance:Fl Tryz.prog 60 1 1:=Fl.of aL
instance:Fl Tryz.prog 89 0 0:=Fl.of aL
instance:Fl Tryz.prog 110 0 0:=Fl.of aL
instance:Fl Tryz.prog 110 1 1:=Fl.of aL
instance:Fl Tryz.prog 112 0 0:=Fl.of aL
instance:Fl Tryz.prog 112 1 1:=Fl.of aL
instance:Fl Tryz.prog 112 2 21:=Fl.of aL
instance:Fl Tryz.prog 112 3 22:=Fl.of aL
instance:Fl Tryz.prog 112 4 23:=Fl.of aL
instance:Fl Tryz.prog 112 5 24:=Fl.of aL
instance:Fl Tryz.prog 112 6 25:=Fl.of aL
instance:Fl Tryz.prog 112 7 26:=Fl.of aL
instance:Fl Tryz.prog 112 8 27:=Fl.of aL
instance:Fl Tryz.prog 112 9 28:=Fl.of aL
instance:Fl Tryz.prog 112 10 29:=Fl.of aL
instance:Fl Tryz.prog 112 11 30:=Fl.of aL
instance:Fl Tryz.prog 115 0 0:=Fl.of aL
instance:Fl Tryz.prog 115 1 1:=Fl.of aL
instance:Fl Tryz.prog 115 2 2:=Fl.of aL
instance:Fl Tryz.prog 128 0 0:=Fl.of aL
instance:Fl Tryz.prog 128 1 1:=Fl.of aL
instance:Fl Tryz.prog 128 2 2:=Fl.of aL
instance:Fl Tryz.prog 138 0 0:=Fl.of aL
instance:Fl Tryz.prog 138 1 1:=Fl.of aL
instance:Fl Tryz.prog 138 2 2:=Fl.of aL
instance:Fl Tryz.prog 138 3 3:=Fl.of aL
instance:Fl Tryz.prog 141 0 0:=Fl.of aL
instance:Fl Tryz.prog 141 1 1:=Fl.of aL
instance:Fl Tryz.prog 141 2 2:=Fl.of aL
instance:Fl Tryz.prog 144 0 0:=Fl.of aL
instance:Fl Tryz.prog 144 1 1:=Fl.of aL
instance:Fl Tryz.prog 144 2 2:=Fl.of aL
instance:Fl Tryz.prog 144 3 3:=Fl.of aL
instance:Fl Tryz.prog 144 4 4:=Fl.of aL
instance:Fl Tryz.prog 147 0 0:=Fl.of aL
instance:Fl Tryz.prog 147 1 20:=Fl.of aL
instance:Fl Tryz.prog 147 2 21:=Fl.of aL
instance:Fl Tryz.prog 147 3 22:=Fl.of aL
instance:Fl Tryz.prog 147 4 23:=Fl.of aL
instance:Fl Tryz.prog 147 5 24:=Fl.of aL
instance:Fl Tryz.prog 147 6 25:=Fl.of aL
instance:Fl Tryz.prog 147 7 26:=Fl.of aL
instance:Fl Tryz.prog 147 8 27:=Fl.of aL
instance:Fl Tryz.prog 147 9 28:=Fl.of aL
instance:Fl Tryz.prog 147 10 29:=Fl.of aL
instance:Fl Tryz.prog 150 0 0:=Fl.of aL
instance:Fl Tryz.prog 150 1 1:=Fl.of aL
instance:Fl Tryz.prog 167 0 0:=Fl.of aL
instance:Fl Tryz.prog 167 1 1:=Fl.of aL
instance:Fl Tryz.prog 167 2 2:=Fl.of aL
instance:Fl Tryz.prog 167 3 3:=Fl.of aL
instance:Fl Tryz.prog 167 4 4:=Fl.of aL
instance:Fl Tryz.prog 169 0 0:=Fl.of aL
instance:Fl Tryz.prog 171 0 0:=Fl.of aL
instance:Fl Tryz.prog 171 1 1:=Fl.of aL
instance:Fl Tryz.prog 173 0 0:=Fl.of aL
instance:Fl Tryz.prog 175 0 0:=Fl.of aL
instance:Fl Tryz.prog 175 1 3:=Fl.of aL
instance:Fl Tryz.prog 178 0 0:=Fl.of aL
instance:Fl Tryz.prog 178 1 1:=Fl.of aL
instance:Fl Tryz.prog 180 0 0:=Fl.of aL
instance:Fl Tryz.prog 182 0 0:=Fl.of aL
instance:Fl Tryz.prog 182 1 1:=Fl.of aL
instance:Fl Tryz.prog 182 2 2:=Fl.of aL
instance:Fl Tryz.prog 184 0 0:=Fl.of aL
instance:Fl Tryz.prog 186 0 0:=Fl.of aL
instance:Fl Tryz.prog 186 1 3:=Fl.of aL
instance:Fl Tryz.prog 189 0 0:=Fl.of aL
instance:Fl Tryz.prog 191 0 0:=Fl.of aL
instance:Fl Tryz.prog 193 0 0:=Fl.of aL
instance:Fl Tryz.prog 193 1 1:=Fl.of aL
instance:Fl Tryz.prog 193 2 2:=Fl.of aL
instance:Fl Tryz.prog 193 3 3:=Fl.of aL
instance:Fl Tryz.prog 195 0 0:=Fl.of aL
instance:Fl Tryz.prog 195 1 1:=Fl.of aL
instance:Fl Tryz.prog 195 2 2:=Fl.of aL
instance:Fl Tryz.prog 195 3 3:=Fl.of aL
instance:Fl Tryz.prog 197 0 0:=Fl.of aL
instance:Fl Tryz.prog 197 1 1:=Fl.of aL
instance:Fl Tryz.prog 197 2 2:=Fl.of aL
instance:Fl Tryz.prog 197 3 3:=Fl.of aL
instance:Fl Tryz.prog 254 0 0:=Fl.of aL
instance:Fl Tryz.prog 297 0 0:=Fl.of aL
instance:Fl Tryz.prog 297 1 1:=Fl.of aL
instance:Fl Tryz.prog 324 0 0:=Fl.of aL
instance:Fl Tryz.prog 324 1 1:=Fl.of aL
instance:Fl Tryz.prog 324 2 2:=Fl.of aL
instance:Fl Tryz.prog 354 0 0:=Fl.of aL
instance:Fl Tryz.prog 354 1 1:=Fl.of aL
instance:Fl Tryz.prog 366 0 0:=Fl.of aL
instance:Fl Tryz.prog 366 1 1:=Fl.of aL
instance:Fl Tryz.prog 366 2 2:=Fl.of aL
instance:Slc Tryz.prog 25 35 4:=⟨by kernel_rfl,by kernel_rfl⟩
instance:Slc Tryz.prog 32 4 1:=⟨by kernel_rfl,by kernel_rfl⟩
instance:Slc Tryz.prog 37 52 7:=⟨by kernel_rfl,by kernel_rfl⟩
instance:Slc Tryz.prog 38 3 1:=⟨by kernel_rfl,by kernel_rfl⟩
instance:Slc Tryz.prog 39 106 2:=⟨by kernel_rfl,by kernel_rfl⟩
instance:Slc Tryz.prog 40 110 2:=⟨by kernel_rfl,by kernel_rfl⟩
instance:Slc Tryz.prog 44 55 3:=⟨by kernel_rfl,by kernel_rfl⟩
instance:Slc Tryz.prog 45 50 3:=⟨by kernel_rfl,by kernel_rfl⟩
instance:Slc Tryz.prog 56 5 1:=⟨by kernel_rfl,by kernel_rfl⟩
instance:Slc Tryz.prog 58 47 9:=⟨by kernel_rfl,by kernel_rfl⟩
instance:Slc Tryz.prog 145 150 2:=⟨by kernel_rfl,by kernel_rfl⟩
instance:Slc Tryz.prog 161 22 1:=⟨by kernel_rfl,by kernel_rfl⟩
instance:Slc Tryz.prog 176 295 1:=⟨by kernel_rfl,by kernel_rfl⟩
instance:Slc Tryz.prog 295 297 2:=⟨by kernel_rfl,by kernel_rfl⟩
instance:Slc Tryz.prog 318 324 3:=⟨by kernel_rfl,by kernel_rfl⟩
instance:Slc Tryz.prog 349 285 1:=⟨by kernel_rfl,by kernel_rfl⟩
instance:Slc Tryz.prog 350 354 2:=⟨by kernel_rfl,by kernel_rfl⟩
instance:Slc Tryz.prog 363 366 3:=⟨by kernel_rfl,by kernel_rfl⟩
instance arr106:Arr Tryz.prog 106 3 2 1:=⟨by kernel_rfl,by kernel_rfl⟩
instance:Arr Tryz.prog 187 102 2 1:=⟨by kernel_rfl,by kernel_rfl⟩
instance arr255:Arr Tryz.prog 255 254 20 1:=⟨by kernel_rfl,by kernel_rfl⟩
instance arr337:Arr Tryz.prog 337 4 2 1:=⟨by kernel_rfl,by kernel_rfl⟩
instance arr386:Arr Tryz.prog 386 22 2 1:=⟨by kernel_rfl,by kernel_rfl⟩
instance:UInt' Tryz.prog 3 .i64:=⟨by kernel_rfl⟩
instance:UInt' Tryz.prog 5 .u8:=⟨by kernel_rfl⟩
instance:UInt' Tryz.prog 22 .u64:=⟨by kernel_rfl⟩
instance:UInt' Tryz.prog 198 .u64:=⟨by kernel_rfl⟩
instance:Ptr Tryz.prog 28:=⟨by kernel_rfl⟩
instance:Ptr Tryz.prog 86:=⟨by kernel_rfl⟩
instance:Ptr Tryz.prog 90:=⟨by kernel_rfl⟩
instance:Ptr Tryz.prog 92:=⟨by kernel_rfl⟩
instance:Ptr Tryz.prog 94:=⟨by kernel_rfl⟩
instance:Ptr Tryz.prog 96:=⟨by kernel_rfl⟩
instance:Ptr Tryz.prog 98:=⟨by kernel_rfl⟩
instance:Ptr Tryz.prog 100:=⟨by kernel_rfl⟩
instance:Ptr Tryz.prog 102:=⟨by kernel_rfl⟩
instance:Ptr Tryz.prog 104:=⟨by kernel_rfl⟩
instance:Ptr Tryz.prog 107:=⟨by kernel_rfl⟩
instance:Ptr Tryz.prog 326:=⟨by kernel_rfl⟩
instance:HasB Tryz.prog 8:=⟨by kernel_rfl⟩
instance hb9:HasB Tryz.prog 9:=⟨by kernel_rfl⟩
instance:HasB Tryz.prog 10:=⟨by kernel_rfl⟩
instance:HasB Tryz.prog 12:=⟨by kernel_rfl⟩
instance:HasB Tryz.prog 13:=⟨by kernel_rfl⟩
instance:HasB Tryz.prog 14:=⟨by kernel_rfl⟩
instance:HasB Tryz.prog 15:=⟨by kernel_rfl⟩
instance:HasB Tryz.prog 16:=⟨by kernel_rfl⟩
instance:HasB Tryz.prog 17:=⟨by kernel_rfl⟩
instance:HasB Tryz.prog 18:=⟨by kernel_rfl⟩
instance:HasB Tryz.prog 19:=⟨by kernel_rfl⟩
instance:HasB Tryz.prog 20:=⟨by kernel_rfl⟩
instance:HasB Tryz.prog 22:=⟨by kernel_rfl⟩
instance:HasB Tryz.prog 25:=⟨by kernel_rfl⟩
instance:HasB Tryz.prog 28:=⟨by kernel_rfl⟩
instance:HasB Tryz.prog 29:=⟨by kernel_rfl⟩
instance:HasB Tryz.prog 30:=⟨by kernel_rfl⟩
instance:HasB Tryz.prog 31:=⟨by kernel_rfl⟩
instance:HasB Tryz.prog 32:=⟨by kernel_rfl⟩
instance:HasB Tryz.prog 33:=⟨by kernel_rfl⟩
instance:HasB Tryz.prog 34:=⟨by kernel_rfl⟩
instance:HasB Tryz.prog 35:=⟨by kernel_rfl⟩
instance:HasB Tryz.prog 36:=⟨by kernel_rfl⟩
instance:HasB Tryz.prog 37:=⟨by kernel_rfl⟩
instance:HasB Tryz.prog 38:=⟨by kernel_rfl⟩
instance:HasB Tryz.prog 39:=⟨by kernel_rfl⟩
instance:HasB Tryz.prog 40:=⟨by kernel_rfl⟩
instance:HasB Tryz.prog 41:=⟨by kernel_rfl⟩
instance:HasB Tryz.prog 42:=⟨by kernel_rfl⟩
instance:HasB Tryz.prog 43:=⟨by kernel_rfl⟩
instance:HasB Tryz.prog 44:=⟨by kernel_rfl⟩
instance:HasB Tryz.prog 45:=⟨by kernel_rfl⟩
instance:HasB Tryz.prog 46:=⟨by kernel_rfl⟩
instance:HasB Tryz.prog 47:=⟨by kernel_rfl⟩
instance:HasB Tryz.prog 48:=⟨by kernel_rfl⟩
instance:HasB Tryz.prog 49:=⟨by kernel_rfl⟩
instance:HasB Tryz.prog 50:=⟨by kernel_rfl⟩
instance:HasB Tryz.prog 51:=⟨by kernel_rfl⟩
instance:HasB Tryz.prog 52:=⟨by kernel_rfl⟩
instance:HasB Tryz.prog 53:=⟨by kernel_rfl⟩
instance:HasB Tryz.prog 54:=⟨by kernel_rfl⟩
instance:HasB Tryz.prog 55:=⟨by kernel_rfl⟩
instance:HasB Tryz.prog 56:=⟨by kernel_rfl⟩
instance:HasB Tryz.prog 57:=⟨by kernel_rfl⟩
instance:HasB Tryz.prog 58:=⟨by kernel_rfl⟩
instance:HasB Tryz.prog 59:=⟨by kernel_rfl⟩
instance:HasB Tryz.prog 60:=⟨by kernel_rfl⟩
instance:HasB Tryz.prog 61:=⟨by kernel_rfl⟩
instance:HasB Tryz.prog 62:=⟨by kernel_rfl⟩
instance:HasB Tryz.prog 63:=⟨by kernel_rfl⟩
instance:HasB Tryz.prog 64:=⟨by kernel_rfl⟩
instance:HasB Tryz.prog 65:=⟨by kernel_rfl⟩
instance:HasB Tryz.prog 66:=⟨by kernel_rfl⟩
instance:HasB Tryz.prog 67:=⟨by kernel_rfl⟩
instance:HasB Tryz.prog 68:=⟨by kernel_rfl⟩
instance:HasB Tryz.prog 69:=⟨by kernel_rfl⟩
instance:HasB Tryz.prog 70:=⟨by kernel_rfl⟩
instance:HasB Tryz.prog 71:=⟨by kernel_rfl⟩
instance:HasB Tryz.prog 72:=⟨by kernel_rfl⟩
instance:HasB Tryz.prog 73:=⟨by kernel_rfl⟩
instance:HasB Tryz.prog 74:=⟨by kernel_rfl⟩
instance:HasB Tryz.prog 75:=⟨by kernel_rfl⟩
instance:HasB Tryz.prog 76:=⟨by kernel_rfl⟩
instance:HasB Tryz.prog 77:=⟨by kernel_rfl⟩
instance:HasB Tryz.prog 80:=⟨by kernel_rfl⟩
instance:HasB Tryz.prog 81:=⟨by kernel_rfl⟩
instance:HasB Tryz.prog 82:=⟨by kernel_rfl⟩
instance:HasB Tryz.prog 84:=⟨by kernel_rfl⟩
instance:HasB Tryz.prog 85:=⟨by kernel_rfl⟩
instance:HasB Tryz.prog 86:=⟨by kernel_rfl⟩
instance:HasB Tryz.prog 87:=⟨by kernel_rfl⟩
instance:HasB Tryz.prog 88:=⟨by kernel_rfl⟩
instance:HasB Tryz.prog 89:=⟨by kernel_rfl⟩
instance:HasB Tryz.prog 90:=⟨by kernel_rfl⟩
instance:HasB Tryz.prog 91:=⟨by kernel_rfl⟩
instance:HasB Tryz.prog 92:=⟨by kernel_rfl⟩
instance:HasB Tryz.prog 93:=⟨by kernel_rfl⟩
instance:HasB Tryz.prog 94:=⟨by kernel_rfl⟩
instance:HasB Tryz.prog 95:=⟨by kernel_rfl⟩
instance:HasB Tryz.prog 96:=⟨by kernel_rfl⟩
instance:HasB Tryz.prog 97:=⟨by kernel_rfl⟩
instance:HasB Tryz.prog 98:=⟨by kernel_rfl⟩
instance:HasB Tryz.prog 99:=⟨by kernel_rfl⟩
instance:HasB Tryz.prog 100:=⟨by kernel_rfl⟩
instance:HasB Tryz.prog 101:=⟨by kernel_rfl⟩
instance:HasB Tryz.prog 102:=⟨by kernel_rfl⟩
instance:HasB Tryz.prog 103:=⟨by kernel_rfl⟩
instance:HasB Tryz.prog 104:=⟨by kernel_rfl⟩
instance:HasB Tryz.prog 105:=⟨by kernel_rfl⟩
instance:HasB Tryz.prog 106:=⟨by kernel_rfl⟩
instance:HasB Tryz.prog 107:=⟨by kernel_rfl⟩
instance:HasB Tryz.prog 108:=⟨by kernel_rfl⟩
instance:HasB Tryz.prog 109:=⟨by kernel_rfl⟩
instance:HasB Tryz.prog 110:=⟨by kernel_rfl⟩
instance:HasB Tryz.prog 111:=⟨by kernel_rfl⟩
instance:HasB Tryz.prog 112:=⟨by kernel_rfl⟩
instance:HasB Tryz.prog 113:=⟨by kernel_rfl⟩
instance:HasB Tryz.prog 114:=⟨by kernel_rfl⟩
instance:HasB Tryz.prog 115:=⟨by kernel_rfl⟩
instance:HasB Tryz.prog 116:=⟨by kernel_rfl⟩
instance:HasB Tryz.prog 117:=⟨by kernel_rfl⟩
instance:HasB Tryz.prog 118:=⟨by kernel_rfl⟩
instance:HasB Tryz.prog 119:=⟨by kernel_rfl⟩
instance:HasB Tryz.prog 120:=⟨by kernel_rfl⟩
instance:HasB Tryz.prog 121:=⟨by kernel_rfl⟩
instance:HasB Tryz.prog 122:=⟨by kernel_rfl⟩
instance:HasB Tryz.prog 123:=⟨by kernel_rfl⟩
instance:HasB Tryz.prog 124:=⟨by kernel_rfl⟩
instance:HasB Tryz.prog 125:=⟨by kernel_rfl⟩
instance:HasB Tryz.prog 126:=⟨by kernel_rfl⟩
instance:HasB Tryz.prog 127:=⟨by kernel_rfl⟩
instance:HasB Tryz.prog 128:=⟨by kernel_rfl⟩
instance:HasB Tryz.prog 129:=⟨by kernel_rfl⟩
instance:HasB Tryz.prog 130:=⟨by kernel_rfl⟩
instance:HasB Tryz.prog 131:=⟨by kernel_rfl⟩
instance:HasB Tryz.prog 132:=⟨by kernel_rfl⟩
instance:HasB Tryz.prog 133:=⟨by kernel_rfl⟩
instance:HasB Tryz.prog 137:=⟨by kernel_rfl⟩
instance:HasB Tryz.prog 138:=⟨by kernel_rfl⟩
instance:HasB Tryz.prog 139:=⟨by kernel_rfl⟩
instance:HasB Tryz.prog 140:=⟨by kernel_rfl⟩
instance:HasB Tryz.prog 141:=⟨by kernel_rfl⟩
instance:HasB Tryz.prog 142:=⟨by kernel_rfl⟩
instance:HasB Tryz.prog 143:=⟨by kernel_rfl⟩
instance:HasB Tryz.prog 145:=⟨by kernel_rfl⟩
instance:HasB Tryz.prog 146:=⟨by kernel_rfl⟩
instance:HasB Tryz.prog 147:=⟨by kernel_rfl⟩
instance:HasB Tryz.prog 148:=⟨by kernel_rfl⟩
instance:HasB Tryz.prog 149:=⟨by kernel_rfl⟩
instance:HasB Tryz.prog 150:=⟨by kernel_rfl⟩
instance:HasB Tryz.prog 151:=⟨by kernel_rfl⟩
instance:HasB Tryz.prog 152:=⟨by kernel_rfl⟩
instance:HasB Tryz.prog 153:=⟨by kernel_rfl⟩
instance:HasB Tryz.prog 154:=⟨by kernel_rfl⟩
instance:HasB Tryz.prog 155:=⟨by kernel_rfl⟩
instance:HasB Tryz.prog 156:=⟨by kernel_rfl⟩
instance:HasB Tryz.prog 157:=⟨by kernel_rfl⟩
instance:HasB Tryz.prog 158:=⟨by kernel_rfl⟩
instance:HasB Tryz.prog 159:=⟨by kernel_rfl⟩
instance:HasB Tryz.prog 160:=⟨by kernel_rfl⟩
instance:HasB Tryz.prog 161:=⟨by kernel_rfl⟩
instance:HasB Tryz.prog 162:=⟨by kernel_rfl⟩
instance:HasB Tryz.prog 163:=⟨by kernel_rfl⟩
instance:HasB Tryz.prog 164:=⟨by kernel_rfl⟩
instance:HasB Tryz.prog 165:=⟨by kernel_rfl⟩
instance:HasB Tryz.prog 166:=⟨by kernel_rfl⟩
instance:HasB Tryz.prog 167:=⟨by kernel_rfl⟩
instance:HasB Tryz.prog 168:=⟨by kernel_rfl⟩
instance:HasB Tryz.prog 169:=⟨by kernel_rfl⟩
instance:HasB Tryz.prog 172:=⟨by kernel_rfl⟩
instance:HasB Tryz.prog 173:=⟨by kernel_rfl⟩
instance:HasB Tryz.prog 174:=⟨by kernel_rfl⟩
instance:HasB Tryz.prog 175:=⟨by kernel_rfl⟩
instance:HasB Tryz.prog 176:=⟨by kernel_rfl⟩
instance:HasB Tryz.prog 177:=⟨by kernel_rfl⟩
instance:HasB Tryz.prog 178:=⟨by kernel_rfl⟩
instance:HasB Tryz.prog 179:=⟨by kernel_rfl⟩
instance:HasB Tryz.prog 180:=⟨by kernel_rfl⟩
instance:HasB Tryz.prog 181:=⟨by kernel_rfl⟩
instance:HasB Tryz.prog 182:=⟨by kernel_rfl⟩
instance:HasB Tryz.prog 183:=⟨by kernel_rfl⟩
instance:HasB Tryz.prog 184:=⟨by kernel_rfl⟩
instance:HasB Tryz.prog 185:=⟨by kernel_rfl⟩
instance:HasB Tryz.prog 186:=⟨by kernel_rfl⟩
instance:HasB Tryz.prog 187:=⟨by kernel_rfl⟩
instance:HasB Tryz.prog 188:=⟨by kernel_rfl⟩
instance:HasB Tryz.prog 189:=⟨by kernel_rfl⟩
instance:HasB Tryz.prog 190:=⟨by kernel_rfl⟩
instance:HasB Tryz.prog 191:=⟨by kernel_rfl⟩
instance:HasB Tryz.prog 192:=⟨by kernel_rfl⟩
instance:HasB Tryz.prog 193:=⟨by kernel_rfl⟩
instance:HasB Tryz.prog 194:=⟨by kernel_rfl⟩
instance:HasB Tryz.prog 195:=⟨by kernel_rfl⟩
instance:HasB Tryz.prog 196:=⟨by kernel_rfl⟩
instance:HasB Tryz.prog 197:=⟨by kernel_rfl⟩
instance:HasB Tryz.prog 198:=⟨by kernel_rfl⟩
instance:HasB Tryz.prog 199:=⟨by kernel_rfl⟩
instance:HasB Tryz.prog 200:=⟨by kernel_rfl⟩
instance:HasB Tryz.prog 201:=⟨by kernel_rfl⟩
instance:HasB Tryz.prog 202:=⟨by kernel_rfl⟩
instance:HasB Tryz.prog 203:=⟨by kernel_rfl⟩
instance:HasB Tryz.prog 204:=⟨by kernel_rfl⟩
instance:HasB Tryz.prog 206:=⟨by kernel_rfl⟩
instance:HasB Tryz.prog 211:=⟨by kernel_rfl⟩
instance:HasB Tryz.prog 227:=⟨by kernel_rfl⟩
instance:HasB Tryz.prog 228:=⟨by kernel_rfl⟩
instance:HasB Tryz.prog 229:=⟨by kernel_rfl⟩
instance:HasB Tryz.prog 230:=⟨by kernel_rfl⟩
instance:HasB Tryz.prog 231:=⟨by kernel_rfl⟩
instance:HasB Tryz.prog 232:=⟨by kernel_rfl⟩
instance:HasB Tryz.prog 233:=⟨by kernel_rfl⟩
instance:HasB Tryz.prog 234:=⟨by kernel_rfl⟩
instance:HasB Tryz.prog 235:=⟨by kernel_rfl⟩
instance:HasB Tryz.prog 236:=⟨by kernel_rfl⟩
instance:HasB Tryz.prog 237:=⟨by kernel_rfl⟩
instance:HasB Tryz.prog 238:=⟨by kernel_rfl⟩
instance:HasB Tryz.prog 239:=⟨by kernel_rfl⟩
instance:HasB Tryz.prog 241:=⟨by kernel_rfl⟩
instance:HasB Tryz.prog 242:=⟨by kernel_rfl⟩
instance:HasB Tryz.prog 244:=⟨by kernel_rfl⟩
instance:HasB Tryz.prog 245:=⟨by kernel_rfl⟩
instance:HasB Tryz.prog 246:=⟨by kernel_rfl⟩
instance:HasB Tryz.prog 247:=⟨by kernel_rfl⟩
instance:HasB Tryz.prog 250:=⟨by kernel_rfl⟩
instance:HasB Tryz.prog 251:=⟨by kernel_rfl⟩
instance:HasB Tryz.prog 252:=⟨by kernel_rfl⟩
instance:HasB Tryz.prog 253:=⟨by kernel_rfl⟩
instance:HasB Tryz.prog 254:=⟨by kernel_rfl⟩
instance:HasB Tryz.prog 255:=⟨by kernel_rfl⟩
instance:HasB Tryz.prog 256:=⟨by kernel_rfl⟩
instance:HasB Tryz.prog 257:=⟨by kernel_rfl⟩
instance:HasB Tryz.prog 258:=⟨by kernel_rfl⟩
instance:HasB Tryz.prog 259:=⟨by kernel_rfl⟩
instance:HasB Tryz.prog 260:=⟨by kernel_rfl⟩
instance:HasB Tryz.prog 261:=⟨by kernel_rfl⟩
instance:HasB Tryz.prog 262:=⟨by kernel_rfl⟩
instance:HasB Tryz.prog 263:=⟨by kernel_rfl⟩
instance:HasB Tryz.prog 264:=⟨by kernel_rfl⟩
instance:HasB Tryz.prog 265:=⟨by kernel_rfl⟩
instance:HasB Tryz.prog 266:=⟨by kernel_rfl⟩
instance:HasB Tryz.prog 267:=⟨by kernel_rfl⟩
instance:HasB Tryz.prog 268:=⟨by kernel_rfl⟩
instance:HasB Tryz.prog 269:=⟨by kernel_rfl⟩
instance:HasB Tryz.prog 270:=⟨by kernel_rfl⟩
instance:HasB Tryz.prog 271:=⟨by kernel_rfl⟩
instance:HasB Tryz.prog 272:=⟨by kernel_rfl⟩
instance:HasB Tryz.prog 273:=⟨by kernel_rfl⟩
instance:HasB Tryz.prog 274:=⟨by kernel_rfl⟩
instance:HasB Tryz.prog 275:=⟨by kernel_rfl⟩
instance:HasB Tryz.prog 276:=⟨by kernel_rfl⟩
instance:HasB Tryz.prog 277:=⟨by kernel_rfl⟩
instance:HasB Tryz.prog 278:=⟨by kernel_rfl⟩
instance:HasB Tryz.prog 279:=⟨by kernel_rfl⟩
instance:HasB Tryz.prog 280:=⟨by kernel_rfl⟩
instance:HasB Tryz.prog 282:=⟨by kernel_rfl⟩
instance:HasB Tryz.prog 283:=⟨by kernel_rfl⟩
instance:HasB Tryz.prog 284:=⟨by kernel_rfl⟩
instance:HasB Tryz.prog 285:=⟨by kernel_rfl⟩
instance:HasB Tryz.prog 286:=⟨by kernel_rfl⟩
instance:HasB Tryz.prog 287:=⟨by kernel_rfl⟩
instance:HasB Tryz.prog 288:=⟨by kernel_rfl⟩
instance:HasB Tryz.prog 289:=⟨by kernel_rfl⟩
instance:HasB Tryz.prog 290:=⟨by kernel_rfl⟩
instance:HasB Tryz.prog 291:=⟨by kernel_rfl⟩
instance:HasB Tryz.prog 292:=⟨by kernel_rfl⟩
instance:HasB Tryz.prog 293:=⟨by kernel_rfl⟩
instance:HasB Tryz.prog 294:=⟨by kernel_rfl⟩
instance:HasB Tryz.prog 295:=⟨by kernel_rfl⟩
instance:HasB Tryz.prog 296:=⟨by kernel_rfl⟩
instance:HasB Tryz.prog 297:=⟨by kernel_rfl⟩
instance:HasB Tryz.prog 298:=⟨by kernel_rfl⟩
instance:HasB Tryz.prog 299:=⟨by kernel_rfl⟩
instance:HasB Tryz.prog 300:=⟨by kernel_rfl⟩
instance:HasB Tryz.prog 301:=⟨by kernel_rfl⟩
instance:HasB Tryz.prog 302:=⟨by kernel_rfl⟩
instance:HasB Tryz.prog 303:=⟨by kernel_rfl⟩
instance:HasB Tryz.prog 304:=⟨by kernel_rfl⟩
instance:HasB Tryz.prog 305:=⟨by kernel_rfl⟩
instance:HasB Tryz.prog 306:=⟨by kernel_rfl⟩
instance:HasB Tryz.prog 307:=⟨by kernel_rfl⟩
instance:HasB Tryz.prog 308:=⟨by kernel_rfl⟩
instance:HasB Tryz.prog 309:=⟨by kernel_rfl⟩
instance:HasB Tryz.prog 310:=⟨by kernel_rfl⟩
instance:HasB Tryz.prog 311:=⟨by kernel_rfl⟩
instance:HasB Tryz.prog 312:=⟨by kernel_rfl⟩
instance:HasB Tryz.prog 313:=⟨by kernel_rfl⟩
instance:HasB Tryz.prog 314:=⟨by kernel_rfl⟩
instance:HasB Tryz.prog 315:=⟨by kernel_rfl⟩
instance:HasB Tryz.prog 316:=⟨by kernel_rfl⟩
instance:HasB Tryz.prog 317:=⟨by kernel_rfl⟩
instance:HasB Tryz.prog 318:=⟨by kernel_rfl⟩
instance:HasB Tryz.prog 319:=⟨by kernel_rfl⟩
instance:HasB Tryz.prog 320:=⟨by kernel_rfl⟩
instance:HasB Tryz.prog 321:=⟨by kernel_rfl⟩
instance:HasB Tryz.prog 322:=⟨by kernel_rfl⟩
instance:HasB Tryz.prog 323:=⟨by kernel_rfl⟩
instance:HasB Tryz.prog 324:=⟨by kernel_rfl⟩
instance:HasB Tryz.prog 325:=⟨by kernel_rfl⟩
instance:HasB Tryz.prog 326:=⟨by kernel_rfl⟩
instance:Plc Tryz.prog 24 (dX [(0,1),(1,1),(2,1),(3,1),(4,1),(5,1),(6,1),(7,1),(8,1),(9,1),(10,1),(11,1),(12,1),(13,1),(14,1),(15,1),(16,1),(17,1),(18,1),(19,1)]) [.int .i64 0,.int .i64 0,.int .u64 0,.int .u64 0,.int .u64 0,.int .u64 0,.int .u64 0,.int .u64 0,.int .u64 0,.int .u64 0,.int .i64 0,.int .i64 0,.int .i64 0,.int .i64 0,.int .i64 0,.int .i64 0,.int .i64 0,.int .i64 0,.int .u64 0,.int .u64 0]:=Plc.struct zr24 (Tryz.prog.fieldsOf 24) aL aL
instance:Plc Tryz.prog 35 (dX [(0,1),(1,1),(2,1),(3,1)]) [.int .i64 0,.int .i64 0,.int .i64 0,.int .u64 0]:=Plc.struct zr35 (Tryz.prog.fieldsOf 35) aL aL
instance:Plc Tryz.prog 42 (dX [(0,1),(1,1),(2,1),(3,1),(4,1),(5,1),(6,1),(7,1),(8,1),(9,1),(10,1),(11,1),(12,1),(13,1),(14,1)]) [.int .i64 0,.int .i64 0,.slice none 0 0,.int .u64 0,.int .u64 0,.int .u64 0,.int .u64 0,.slice none 0 0,.slice none 0 0,.slice none 0 0,.slice none 0 0,.slice none 0 0,.int .i64 0,.int .u64 0,.int .i64 0]:=Plc.struct zr42 (Tryz.prog.fieldsOf 42) aL aL
instance:Plc Tryz.prog 47 (dX [(0,1),(1,1),(2,1),(3,1),(4,1),(5,1),(6,1),(7,1),(8,1)]) [.int .i64 0,.int .i64 0,.int .i64 0,.int .i64 0,.int .i64 0,.int .i64 0,.slice none 0 0,.slice none 0 0,.int .i64 0]:=Plc.struct zr47 (Tryz.prog.fieldsOf 47) aL aL
instance:Plc Tryz.prog 50 (dX [(0,1),(1,1),(2,1)]) [.int .i64 0,.int .u64 0,.bool false]:=Plc.struct zr50 (Tryz.prog.fieldsOf 50) aL aL
instance:Plc Tryz.prog 52 (dX [(0,1),(1,1),(2,1),(3,1),(4,1),(5,1),(6,1)]) [.int .u64 0,.int .i64 0,.bool false,.int .i64 0,.int .i64 0,.int .i64 0,.int .i64 0]:=Plc.struct zr52 (Tryz.prog.fieldsOf 52) aL aL
instance:Plc Tryz.prog 55 (dX [(0,1),(1,1),(2,1)]) [.int .i64 0,.int .i64 0,.int .i64 0]:=Plc.struct zr55 (Tryz.prog.fieldsOf 55) aL aL
instance:Plc Tryz.prog 60 (dX [(0,1),(1,15)]) [.slice none 0 0,.int .i64 0,.int .i64 0,.slice none 0 0,.int .u64 0,.int .u64 0,.int .u64 0,.int .u64 0,.slice none 0 0,.slice none 0 0,.slice none 0 0,.slice none 0 0,.slice none 0 0,.int .i64 0,.int .u64 0,.int .i64 0]:=Plc.struct zr60 (Tryz.prog.fieldsOf 60) aL aL
instance:Plc Tryz.prog 89 (dX [(0,1)]) [.pointer none]:=Plc.struct zr89 (Tryz.prog.fieldsOf 89) aL aL
instance:Plc Tryz.prog 106 (fun i=>some (i*1,1)) [.int .i64 0,.int .i64 0]:=Plc.array zr106 arr106
instance:Plc Tryz.prog 110 (dX [(0,1),(1,1)]) [.int .i64 0,.int .u64 0]:=Plc.struct zr110 (Tryz.prog.fieldsOf 110) aL aL
instance:Plc Tryz.prog 112 (dX [(0,1),(1,20),(21,1),(22,1),(23,1),(24,1),(25,1),(26,1),(27,1),(28,1),(29,1),(30,1)]) [.pointer none,.int .i64 0,.int .i64 0,.int .u64 0,.int .u64 0,.int .u64 0,.int .u64 0,.int .u64 0,.int .u64 0,.int .u64 0,.int .u64 0,.int .i64 0,.int .i64 0,.int .i64 0,.int .i64 0,.int .i64 0,.int .i64 0,.int .i64 0,.int .i64 0,.int .u64 0,.int .u64 0,.pointer none,.pointer none,.pointer none,.slice none 0 0,.pointer none,.pointer none,.pointer none,.pointer none,.pointer none,.pointer none]:=Plc.struct zr112 (Tryz.prog.fieldsOf 112) aL aL
instance:Plc Tryz.prog 128 (dX [(0,1),(1,1),(2,1)]) [.int .i64 0,.int .i64 0,.int .i64 0]:=Plc.struct zr128 (Tryz.prog.fieldsOf 128) aL aL
instance:Plc Tryz.prog 138 (dX [(0,1),(1,1),(2,1),(3,1)]) [.int .u64 0,.int .u64 0,.int .u64 0,.int .u64 0]:=Plc.struct zr138 (Tryz.prog.fieldsOf 138) aL aL
instance:Plc Tryz.prog 141 (dX [(0,1),(1,1),(2,1)]) [.slice none 0 0,.slice none 0 0,.int .i64 0]:=Plc.struct zr141 (Tryz.prog.fieldsOf 141) aL aL
instance:Plc Tryz.prog 144 (dX [(0,1),(1,1),(2,1),(3,1),(4,1)]) [.int .u64 0,.int .u64 0,.int .u64 0,.int .u64 0,.int .u64 0]:=Plc.struct zr144 (Tryz.prog.fieldsOf 144) aL aL
instance:Plc Tryz.prog 147 (dX [(0,20),(20,1),(21,1),(22,1),(23,1),(24,1),(25,1),(26,1),(27,1),(28,1),(29,1)]) [.int .i64 0,.int .i64 0,.int .u64 0,.int .u64 0,.int .u64 0,.int .u64 0,.int .u64 0,.int .u64 0,.int .u64 0,.int .u64 0,.int .i64 0,.int .i64 0,.int .i64 0,.int .i64 0,.int .i64 0,.int .i64 0,.int .i64 0,.int .i64 0,.int .u64 0,.int .u64 0,.int .i64 0,.int .i64 0,.slice none 0 0,.pointer none,.slice none 0 0,.pointer none,.slice none 0 0,.slice none 0 0,.int .i64 0,.pointer none]:=Plc.struct zr147 (Tryz.prog.fieldsOf 147) aL aL
instance:Plc Tryz.prog 150 (dX [(0,1),(1,1)]) [.int .i64 0,.int .u64 0]:=Plc.struct zr150 (Tryz.prog.fieldsOf 150) aL aL
instance:Plc Tryz.prog 167 (dX [(0,1),(1,1),(2,1),(3,1),(4,1)]) [.int .i64 0,.slice none 0 0,.int .u64 0,.int .u64 0,.map none]:=Plc.struct zr167 (Tryz.prog.fieldsOf 167) aL aL
instance:Plc Tryz.prog 171 (dX [(0,1),(1,1)]) [.int .i64 0,.int .i64 0]:=Plc.struct zr171 (Tryz.prog.fieldsOf 171) aL aL
instance:Plc Tryz.prog 175 (dX [(0,3),(3,1)]) [.int .u64 0,.int .u64 0,.int .u64 0,.int .u64 0]:=Plc.struct zr175 (Tryz.prog.fieldsOf 175) aL aL
instance:Plc Tryz.prog 178 (dX [(0,1),(1,1)]) [.slice none 0 0,.int .i64 0]:=Plc.struct zr178 (Tryz.prog.fieldsOf 178) aL aL
instance:Plc Tryz.prog 180 (dX [(0,1)]) [.int .i64 0]:=Plc.struct zr180 (Tryz.prog.fieldsOf 180) aL aL
instance:Plc Tryz.prog 186 (dX [(0,3),(3,1)]) [.int .u64 0,.int .u64 0,.int .u64 0,.int .u64 0]:=Plc.struct zr186 (Tryz.prog.fieldsOf 186) aL aL
instance:Plc Tryz.prog 191 (dX [(0,2)]) [.pointer none,.pointer none]:=Plc.struct zr191 (Tryz.prog.fieldsOf 191) aL aL
instance:Plc Tryz.prog 193 (dX [(0,1),(1,1),(2,1),(3,1)]) [.slice none 0 0,.int .i64 0,.int .i64 0,.int .i64 0]:=Plc.struct zr193 (Tryz.prog.fieldsOf 193) aL aL
instance:Plc Tryz.prog 195 (dX [(0,1),(1,1),(2,1),(3,1)]) [.slice none 0 0,.int .i64 0,.int .i64 0,.int .i64 0]:=Plc.struct zr195 (Tryz.prog.fieldsOf 195) aL aL
instance:Plc Tryz.prog 197 (dX [(0,1),(1,1),(2,1),(3,1)]) [.slice none 0 0,.int .i64 0,.int .i64 0,.int .i64 0]:=Plc.struct zr197 (Tryz.prog.fieldsOf 197) aL aL
instance:Plc Tryz.prog 254 (dX [(0,1)]) [.nilFunc]:=Plc.struct zr254 (Tryz.prog.fieldsOf 254) aL aL
instance:Plc Tryz.prog 255 (fun i=>some (i*1,1)) [.nilFunc,.nilFunc,.nilFunc,.nilFunc,.nilFunc,.nilFunc,.nilFunc,.nilFunc,.nilFunc,.nilFunc,.nilFunc,.nilFunc,.nilFunc,.nilFunc,.nilFunc,.nilFunc,.nilFunc,.nilFunc,.nilFunc,.nilFunc]:=Plc.array zr255 arr255
instance:Plc Tryz.prog 297 (dX [(0,1),(1,1)]) [.int .i64 0,.int .i64 0]:=Plc.struct zr297 (Tryz.prog.fieldsOf 297) aL aL
instance:Plc Tryz.prog 324 (dX [(0,1),(1,1),(2,1)]) [.int .i64 0,.nilFunc,.nilFunc]:=Plc.struct zr324 (Tryz.prog.fieldsOf 324) aL aL
instance:Plc Tryz.prog 337 (fun i=>some (i*1,1)) [.bool false,.bool false]:=Plc.array zr337 arr337
instance:Plc Tryz.prog 354 (dX [(0,1),(1,1)]) [.nilFunc,.int .i64 0]:=Plc.struct zr354 (Tryz.prog.fieldsOf 354) aL aL
instance:Plc Tryz.prog 366 (dX [(0,1),(1,1),(2,1)]) [.int .i64 0,.int .i64 0,.int .i64 0]:=Plc.struct zr366 (Tryz.prog.fieldsOf 366) aL aL
instance:Plc Tryz.prog 374 (dX [(0,1),(1,1)]) [.int .i64 0,.int .i64 0]:=Plc.struct zr374 (Tryz.prog.fieldsOf 374) aL aL
instance:Plc Tryz.prog 386 (fun i=>some (i*1,1)) [.int .u64 0,.int .u64 0]:=Plc.array zr386 arr386
instance:SlcF Tryz.prog 25 35 4 32:=⟨by kernel_rfl,by kernel_rfl,rfl,rfl⟩
instance:SlcF Tryz.prog 32 4 1 1:=⟨by kernel_rfl,by kernel_rfl,rfl,rfl⟩
instance:SlcF Tryz.prog 37 52 7 56:=⟨by kernel_rfl,by kernel_rfl,rfl,rfl⟩
instance:SlcF Tryz.prog 38 3 1 8:=⟨by kernel_rfl,by kernel_rfl,rfl,rfl⟩
instance:SlcF Tryz.prog 39 106 2 16:=⟨by kernel_rfl,by kernel_rfl,rfl,rfl⟩
instance:SlcF Tryz.prog 40 110 2 16:=⟨by kernel_rfl,by kernel_rfl,rfl,rfl⟩
instance:SlcF Tryz.prog 44 55 3 24:=⟨by kernel_rfl,by kernel_rfl,rfl,rfl⟩
instance:SlcF Tryz.prog 45 50 3 24:=⟨by kernel_rfl,by kernel_rfl,rfl,rfl⟩
instance:SlcF Tryz.prog 56 5 1 1:=⟨by kernel_rfl,by kernel_rfl,rfl,rfl⟩
instance:SlcF Tryz.prog 58 47 9 104:=⟨by kernel_rfl,by kernel_rfl,rfl,rfl⟩
instance:SlcF Tryz.prog 145 150 2 16:=⟨by kernel_rfl,by kernel_rfl,rfl,rfl⟩
instance:SlcF Tryz.prog 161 22 1 8:=⟨by kernel_rfl,by kernel_rfl,rfl,rfl⟩
instance:SlcF Tryz.prog 176 295 1 24:=⟨by kernel_rfl,by kernel_rfl,rfl,rfl⟩
instance:SlcF Tryz.prog 295 297 2 16:=⟨by kernel_rfl,by kernel_rfl,rfl,rfl⟩
instance:SlcF Tryz.prog 363 366 3 24:=⟨by kernel_rfl,by kernel_rfl,rfl,rfl⟩
instance:EqA Tryz.prog 106 3 0 2:=⟨by kernel_rfl,by kernel_rfl,by kernel_rfl,by kernel_rfl,by kernel_rfl⟩
instance:EqT Tryz.prog 35 [0,0,0,0]:=⟨by kernel_rfl,by kernel_rfl,by kernel_rfl,by kernel_rfl⟩
instance:EqT Tryz.prog 50 [0,0,1]:=⟨by kernel_rfl,by kernel_rfl,by kernel_rfl,by kernel_rfl⟩
instance:EqT Tryz.prog 52 [0,0,1,0,0,0,0]:=⟨by kernel_rfl,by kernel_rfl,by kernel_rfl,by kernel_rfl⟩
instance:EqT Tryz.prog 55 [0,0,0]:=⟨by kernel_rfl,by kernel_rfl,by kernel_rfl,by kernel_rfl⟩
instance:EqT Tryz.prog 110 [0,0]:=⟨by kernel_rfl,by kernel_rfl,by kernel_rfl,by kernel_rfl⟩
instance:MpT Tryz.prog 126 3 125:=⟨by kernel_rfl,Maps.int_keyed (q:=.i64) aL⟩
instance:MpT Tryz.prog 370 3 318:=⟨by kernel_rfl,Maps.int_keyed (q:=.i64) aL⟩
instance:MpT Tryz.prog 371 374 3:=⟨by kernel_rfl,Maps.Keyed.of_law (deep_law_laid (m:=4) aL aK (of_decide_eq_true aL) aL aL)⟩
theorem an:Tryz.prog.follows .mixedOrders=true:=by kernel_rfl
end Go.Proofs.YtdddiilocbbkkaaGreat
