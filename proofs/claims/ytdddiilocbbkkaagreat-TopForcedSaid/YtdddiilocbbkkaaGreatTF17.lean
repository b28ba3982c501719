/- TopForced: for every configuration and all operations the law returns true. No condition. Part 17 of 42. -/
import Derived.Test.YtdddiilocbbkkaaGreatTF5
import Derived.Test.YtdddiilocbbkkaaGreatTF13
import Derived.Test.YtdddiilocbbkkaaGreatTF14
import Derived.Test.YtdddiilocbbkkaaGreatTF16
set_option linter.unusedVariables false
set_option linter.unusedSimpArgs false
namespace Go.Proofs.YtdddiilocbbkkaaGreat
open Go.RowKit Go.Eg
set_option maxHeartbeats 4000000
set_option synthInstance.maxSize 3000
set_option maxRecDepth 100000
def nxt (s e : Int) : Int := if e = 7 then (if s = 2 ∨ s = 3 then 3 else if s = 4 ∨ s = 5 then 4 else 0) else if e = 6 ∧ s = 2 then 7 else if 1 ≤ e ∧ e ≤ 5 ∧ s = e then s + 1 else 0
def accV (v : V) (e : Int) : V × Int := if latB [e] = false then (V.z, 10) else if nxt v.st 2 = 0 then (V.z, 8) else ({ v with rq := e, st := nxt v.st 2 }, 0)
def asnV (v : V) (e : Int) (c : C) : V × Int := if v.st ≠ 3 ∨ v.ex ≠ -1 then (V.z, 8) else if latB [e, c.unb] = false then (V.z, 10) else ({ v with ex := e, wd := max v.wd (latV [e, c.unb]) }, 0)
def burnV (b : Int) (c : C) : Int := if c.pden < c.pnum then 0 else b * c.pnum / c.pden
def slaV (v : V) (e : Int) (c : C) : V × Int × Int := if v.sl = true then (V.z, 0, 9) else if nxt v.st 7 = 0 then (V.z, 0, 8) else if latB [e, c.sld] = false then (V.z, 0, 10)
 else ({ v with bal := IntKind.u64.wrap (v.bal - burnV v.bal c), st := nxt v.st 7, sl := true, rq := if v.st = 2 then e else v.rq, wd := max v.wd (latV [e, c.sld]), dl := -1 }, burnV v.bal c, 0)
def payV (v : V) (e : Int) : V × Int × Int := if nxt v.st 5 = 0 then (V.z, 0, 8) else if e < v.wd then (V.z, 0, 8) else ({ v with st := nxt v.st 5, bal := 0 }, v.bal, 0)
def swp (rd : List Bool) (n pays : Nat) : Nat → Nat → List Int → Nat → Nat × List Int × Nat
 | 0, at_, paid, made => (at_, paid, made)
 | k + 1, at_, paid, made => if paid.length = pays then (at_, paid, made) else swp rd n pays k ((at_ % n + 1) % n) (if rd[at_ % n]? = some true then paid ++ [((at_ % n : Nat) : Int)] else paid) (made + 1)
def sweepS (at_ : Nat) (rd : List Bool) (visits pays : Int) : Nat × List Int × Nat := if rd.length = 0 ∨ pays < 1 then (at_, [], 0) else swp rd rd.length pays.toNat (min visits (rd.length : Int)).toNat at_ [] 0
structure Eg where
 c : C
 blk : Nat
 l : List V
 dep : Int
 paid : Int
 burn : Int
 bo : List En
 lv : List Int
 cur : Nat
 m : M
 q : LL
 pend : List Int
 mg : List PP
 pt : List Rq
def Eg.ep (s : Eg) : Int := ((s.blk / s.c.elen.toNat : Nat) : Int)
structure Rc where
 k : Int
 code : Int
 i : Int
 blk : Int
 ep : Int
 dl : Int
 ag : List As
 ps : List Y
 vis : Int
structure Rs where
 code : Int
 i : Int
 dl : Int
def Rs.c (x : Rs) : List Value := [.int .i64 x.code, .int .i64 x.i, .int .i64 x.dl]
def setV (l : List V) (i : Int) (v : V) : List V := if hasV l i = true then l.set i.toNat v else l
def evV (l : List V) (i e : Int) : List V := if hasV l i = true ∧ nxt (gotV l i).st e ≠ 0 then l.set i.toNat { gotV l i with st := nxt (gotV l i).st e } else l
def depE (s : Eg) (o : Op) : Eg × Rs :=
 if o.a < s.c.mind ∨ s.c.maxd < o.a then (s, ⟨3, 0, 0⟩)
 else if s.c.capa ≤ (s.l.length : Int) then (s, ⟨5, 0, 0⟩)
 else if s.c.qsize.toNat - s.pend.length = 0 then (s, ⟨6, 0, 0⟩)
 else if ledC s.c.supc s.dep s.paid s.burn o.a ≠ 0 then (s, ⟨ledC s.c.supc s.dep s.paid s.burn o.a, 0, 0⟩)
 else ({ s with l := s.l ++ [⟨o.a, 1, false, -1, -1, -1, -1⟩], dep := s.dep + o.a, pend := s.pend ++ [(s.l.length : Int)] }, ⟨0, s.l.length, -1⟩)
def bals (l : List V) : List Int := l.map V.bal
def wgts (l : List V) (is : List Int) : List Int := is.map (ofW (bals l))
def leaveE (s : Eg) (cl i : Int) : Eg × Rs :=
 if hasV s.l i = false then (s, ⟨7, 0, 0⟩)
 else if (accV (gotV s.l i) s.ep).2 ≠ 0 then (s, ⟨(accV (gotV s.l i) s.ep).2, 0, 0⟩)
 else if freeL s.c.qsize.toNat cl s.q = 0 then (s, ⟨6, 0, 0⟩)
 else if addB (wgts s.l (aheadL cl s.q)) = false ∨ bdsB s.ep (addV (wgts s.l (aheadL cl s.q))) (accV (gotV s.l i) s.ep).1.bal s.c [s.c.unb, sweepV s.c] = false then (s, ⟨10, 0, 0⟩)
 else
  let d := bdsV s.ep (addV (wgts s.l (aheadL cl s.q))) (accV (gotV s.l i) s.ep).1.bal s.c [s.c.unb, sweepV s.c]
  ({ s with l := s.l.set i.toNat { (accV (gotV s.l i) s.ep).1 with dl := d }, q := pushL s.c.qsize.toNat cl i s.q }, ⟨0, i, d⟩)
def slashE (s : Eg) (i : Int) : Eg × Rs :=
  if hasV s.l i = false then (s, ⟨7, 0, 0⟩)
  else
    let v := gotV s.l i
    let r := slaV v s.ep s.c
    if r.2.2 = 9 ∨ r.2.2 = 8 then (s, ⟨r.2.2, 0, 0⟩)
    else if v.st = 2 ∧ freeL s.c.qsize.toNat 0 s.q = 0 then (s, ⟨6, 0, 0⟩)
    else if r.2.2 ≠ 0 then (s, ⟨r.2.2, 0, 0⟩)
    else ({ s with l := s.l.set i.toNat r.1, burn := if bookC s.dep s.paid s.burn r.2.1 = 0 then s.burn + r.2.1 else s.burn,
                   q := if v.st = 2 then pushL s.c.qsize.toNat 0 i s.q else s.q, bo := if v.st = 5 then putE s.bo r.1.wd i else s.bo }, ⟨0, i, -1⟩)
def consE (s : Eg) (i t : Int) : Eg × Rs :=
 if reqV s.l i t s.c ≠ 0 then (s, ⟨reqV s.l i t s.c, 0, 0⟩)
 else if s.c.qsize.toNat - s.mg.length = 0 then (s, ⟨6, 0, 0⟩)
 else ({ s with mg := s.mg ++ [⟨i, t⟩] }, ⟨0, i, -1⟩)
def prtC (l : List V) (i a : Int) : Int := if hasV l i = false then 7 else if a = 0 then 3 else if (gotV l i).st ≠ 2 then 8 else 0
def partE (s : Eg) (i a : Int) : Eg × Rs :=
 if prtC s.l i a ≠ 0 then (s, ⟨prtC s.l i a, 0, 0⟩)
 else if s.c.qsize.toNat - s.pt.length = 0 then (s, ⟨6, 0, 0⟩)
 else ({ s with pt := s.pt ++ [⟨i, a⟩] }, ⟨0, i, -1⟩)
def ripS (e : Int) (s : List V × List En) (i : Int) : List V × List En := if e < (gotV s.1 i).wd then (s.1, putE s.2 (gotV s.1 i).wd i) else (evV s.1 i 4, s.2)
def ripE (e : Int) (s : List V × List En) : List V × List En := (dueO e s.2).foldl (ripS e) (s.1, keepE e s.2)
def asgS (c : C) (s : List V × List En × List Int) (a : As) : List V × List En × List Int :=
 (setV s.1 a.i (asnV (gotV s.1 a.i) a.e c).1, putE s.2.1 (asnV (gotV s.1 a.i) a.e c).1.wd a.i, s.2.2 ++ [a.i])
def churnE (c : C) (l : List V) : Int := churn (actS l) c.minch c.quot
def bdyE (s : Eg) : Eg × List As :=
 let l1 := s.lv.foldl (fun l i => evV l i 3) s.l
 let r := ripE s.ep (l1, s.bo)
 let ch := churnE s.c r.1
 let st := stepM (bals r.1) s.ep ch s.q s.m
 let a := st.1.foldl (asgS s.c) (r.1, r.2, [])
 let ac := batF ch (bals a.1) s.pend 0 true
 let l4 := ac.foldl (fun l i => evV l i 1) a.1
 let t := s.mg.take s.c.merg.toNat
 ({ s with l := (runM s.c l4 t).1, bo := a.2.1, lv := a.2.2, m := st.2.2, q := st.2.1, pend := s.pend.drop ac.length, mg := s.mg.drop t.length }, st.1)
def fullS (l0 : List V) (e : Int) (s : List V × List Y) (i : Int) : List V × List Y := (setV s.1 i (payV (gotV l0 i) e).1, s.2 ++ [⟨i, (payV (gotV l0 i) e).2.1, true⟩])
def ledS (d u : Int) (p : Int) (y : Y) : Int := if bookC d p u y.a = 0 then p + y.a else p
def paysE (s : Eg) : Eg × List Y × Nat :=
 let t := s.pt.take s.c.parts.toNat
 let r := run s.c s.l t
 let p0 := pos r.2
 let w := sweepS s.cur (r.1.map fun v => decide (v.st = 5)) (s.c.vis - t.length) (s.c.pays - p0.length)
 let f := w.2.1.foldl (fullS r.1 s.ep) (r.1, p0)
 ({ s with l := f.1, paid := f.2.foldl (ledS s.dep s.burn) s.paid, cur := w.1, pt := s.pt.drop t.length }, f.2, t.length + w.2.2)
def tickE (s : Eg) : Eg × Rc :=
 let s1 := { s with blk := s.blk + 1 }
 let b := if (s.blk + 1) % s.c.elen.toNat = 0 then bdyE s1 else (s1, [])
 let p := paysE b.1
 (p.1, ⟨7, 0, -1, p.1.blk, p.1.ep, -1, b.2, p.2.1, p.2.2⟩)
def actE (s : Eg) (o : Op) : Eg × Rs :=
 if o.k = 1 then depE s o else if o.k = 2 then leaveE s 1 o.i else if o.k = 3 then leaveE s 0 o.i else if o.k = 4 then slashE s o.i
 else if o.k = 5 then consE s o.i o.t else if o.k = 6 then partE s o.i o.a else (s, ⟨11, 0, 0⟩)
def rcp (s : Eg) (o : Op) (x : Rs) : Rc := if x.code ≠ 0 then ⟨o.k, x.code, -1, s.blk, s.ep, -1, [], [], 0⟩ else ⟨o.k, 0, x.i, s.blk, s.ep, x.dl, [], [], 0⟩
def applyE (s : Eg) (o : Op) : Eg × Rc := if o.k = 7 then tickE s else ((actE s o).1, rcp s o (actE s o).2)
def newE (c : C) : Eg := ⟨c, 0, [], 0, 0, 0, [], [], 0, M0, ⟨[], []⟩, [], [], []⟩
end Go.Proofs.YtdddiilocbbkkaaGreat
