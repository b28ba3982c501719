/- One rule for each operation of the model that our programs use. No program in sight. -/
import Derived.Test.YtgbghjnlicldnaaA
import Derived.Maps.AppendAt
import Derived.Deep.Draws
namespace Go.Eg
open Go.RowKit

/-! ### Facts of the program's tables, closed -/
class Ty (P : Program) (T : TypeId) (agg : outParam Bool) (n : outParam Nat) : Prop where
  agg : ∀ w : World, (isAgg T).run P w = .ok agg w
  size : ∀ w : World, (sizeOf T).run P w = .ok n w
def isAggD : TypeDesc → Bool | .struct _ | .array _ _ => true | _ => false
theorem Ty.of {P : Program} {T : TypeId} {b : Bool} {n : Nat} (h1 : (P.underlying T).map isAggD = some b) (h2 : (P.info? T).map (·.size) = some n) : Ty P T b n := by
  obtain ⟨d, hd, rfl⟩ := Option.map_eq_some_iff.1 h1
  obtain ⟨i, hi, rfl⟩ := Option.map_eq_some_iff.1 h2
  refine ⟨fun w => ?_, fun w => ?_⟩
  · unfold isAgg
    rw [Sem.run_bind, run_underlying hd w]
    cases d <;> rfl
  · simp [sizeOf, typeInfo, hi]
/-- The zero value's cells. -/
class Zr (P : Program) (T : TypeId) (c : outParam (List Value)) : Prop where
  run : ∀ w : World, ∃ v, (zeroValue T).run P w = .ok v w ∧ v.cells = c.toArray
theorem Zr.of {P : Program} {T : TypeId} {c : List Value} (h : ((P.info? T).bind (·.zero)).map (·.cells) = some c.toArray) : Zr P T c := ⟨fun w => by
  obtain ⟨v, hv, hc⟩ := Option.map_eq_some_iff.1 h
  obtain ⟨i, hi, hz⟩ := Option.bind_eq_some_iff.1 hv
  exact ⟨v, by simp [zeroValue, typeInfo, hi, hz], hc⟩⟩
/-- Field f of struct T begins o cells behind the struct. -/
class Fl (P : Program) (T f : Nat) (o : outParam Nat) : Prop where
  run : ∀ (w : World) (a : Addr), (Instr.fieldAt T (.pointer (some a)) f).run P w = .ok (.pointer (some (a.add o))) w
theorem Fl.of {P : Program} {T f o : Nat} (h : (P.underlying T).bind (fun d => match d with | .struct fs => (fs[f]?).bind fun x => (P.info? x.type).map fun i => (x.offset, i.size == 0) | _ => none) = some (o, false)) : Fl P T f o := ⟨fun w a => by
  obtain ⟨d, hd, h⟩ := Option.bind_eq_some_iff.1 h
  cases d with
  | struct fs =>
    obtain ⟨x, hx, h⟩ := Option.bind_eq_some_iff.1 h
    obtain ⟨i, hi, h⟩ := Option.map_eq_some_iff.1 h
    simp only [Prod.mk.injEq] at h
    obtain ⟨rfl, hs⟩ := h
    have hs' : i.size ≠ 0 := by simpa using hs
    simp [Instr.fieldAt, Sem.run_bind, run_underlying hd, hx, Instr.sureAddr, fieldPlace, sizeOf, typeInfo, hi, hs']
  | _ => cases h⟩
class Slc (P : Program) (T : Nat) (E k : outParam Nat) : Prop where
  und : P.underlying T = some (.slice E)
  siz : (P.info? E).map (·.size) = some k
class Arr (P : Program) (T : Nat) (E m k : outParam Nat) : Prop where
  und : P.underlying T = some (.array m E)
  siz : (P.info? E).map (·.size) = some k
/-- the type's integer kind -/
class UInt' (P : Program) (T : Nat) (k : outParam IntKind) : Prop where
  und : P.underlying T = some (.int k)
/-- block b is among the resources -/
class InL (L : List Res) (b : Nat) (T : outParam Nat) (c : outParam (List Value)) : Prop where
  at_ : ∃ i : Nat, L[i]? = some (.blk b T c)
instance InL.head {L : List Res} {b T : Nat} {c : List Value} : InL (.blk b T c :: L) b T c := ⟨0, rfl⟩
instance InL.tail {L : List Res} {r : Res} {b T : Nat} {c : List Value} [h : InL L b T c] : InL (r :: L) b T c := ⟨h.at_.elim fun i hi => ⟨i + 1, hi⟩⟩
/-- .. and what the resources are when it holds c' -/
class UpL (L : List Res) (b : Nat) (T : outParam Nat) (c : outParam (List Value)) (c' : List Value) (L' : outParam (List Res)) : Prop where
  at_ : ∃ i : Nat, L[i]? = some (.blk b T c) ∧ L.set i (.blk b T c') = L'
instance UpL.head {L : List Res} {b T : Nat} {c c' : List Value} : UpL (.blk b T c :: L) b T c c' (.blk b T c' :: L) := ⟨0, rfl, rfl⟩
instance UpL.tail {L L' : List Res} {r : Res} {b T : Nat} {c c' : List Value} [h : UpL L b T c c' L'] : UpL (r :: L) b T c c' (r :: L') := ⟨h.at_.elim fun i hi => ⟨i + 1, hi.1, congrArg (r :: ·) hi.2⟩⟩
def Scal (v : Value) : Prop := v.oneCell' = true

/-! ### Places -/
def bo (A : Option Addr) : Nat := (A.getD default).block
def oo (A : Option Addr) : Nat := (A.getD default).off
@[simp] theorem bo_some (b o : Nat) (s : Option Nat) : bo (some ⟨b, o, s⟩) = b := rfl
@[simp] theorem oo_some (b o : Nat) (s : Option Nat) : oo (some ⟨b, o, s⟩) = o := rfl
theorem add_none (b o n : Nat) : Addr.add ⟨b, o, none⟩ n = ⟨b, o + n, none⟩ := by
  unfold Addr.add
  by_cases h : n = 0 <;> simp [h]

theorem flat_get {els : List (List Value)} {k : Nat} (hk : ∀ c ∈ els, c.length = k) {i o : Nat} {cs : List Value} {v : Value} (hi : els[i]? = some cs) (ho : cs[o]? = some v) : els.flatten[i * k + o]? = some v := by
  induction els generalizing i with
  | nil => simp at hi
  | cons c els ih =>
    have hc : c.length = k := hk c (by simp)
    cases i with
    | zero =>
      simp at hi; subst hi
      have hlt : o < c.length := by
        rcases Nat.lt_or_ge o c.length with h | h
        · exact h
        · rw [List.getElem?_eq_none h] at ho; cases ho
      simp only [List.flatten_cons, Nat.zero_mul, Nat.zero_add]
      rw [List.getElem?_append_left hlt]; exact ho
    | succ i =>
      simp at hi
      simp only [List.flatten_cons]
      have e : (i + 1) * k + o = c.length + (i * k + o) := by rw [Nat.succ_mul, hc]; omega
      rw [e, List.getElem?_append_right (by omega)]
      simpa using ih (fun c' hc' => hk c' (by simp [hc'])) hi
theorem flat_len {els : List (List Value)} {k : Nat} (hk : ∀ c ∈ els, c.length = k) : els.flatten.length = els.length * k := by
  induction els with
  | nil => simp
  | cons c els ih => simp [ih (fun c' hc' => hk c' (by simp [hc'])), hk c (by simp), Nat.succ_mul, Nat.add_comm]
theorem flat_set {els : List (List Value)} {k : Nat} (hk : ∀ c ∈ els, c.length = k) {i o : Nat} {cs : List Value} (hi : els[i]? = some cs) (ho : o < k) (v : Value) : els.flatten.set (i * k + o) v = (els.set i (cs.set o v)).flatten := by
  induction els generalizing i with
  | nil => simp at hi
  | cons c els ih =>
    have hc : c.length = k := hk c (by simp)
    cases i with
    | zero =>
      simp at hi; subst hi
      simp only [List.flatten_cons, Nat.zero_mul, Nat.zero_add, List.set_cons_zero]
      rw [List.set_append_left _ _ (by omega)]
    | succ i =>
      simp at hi
      simp only [List.flatten_cons, List.set_cons_succ]
      have e : (i + 1) * k + o = c.length + (i * k + o) := by rw [Nat.succ_mul, hc]; omega
      rw [e, List.set_append_right _ _ (by omega)]
      simpa using ih (fun c' hc' => hk c' (by simp [hc'])) hi

/-! ### A slice of the call's own, which may be nil and may grow -/
def Res.row (A : Option Addr) (n cap : Nat) (T : TypeId) (k : Nat) (els : List (List Value)) : Res where
  fp := if cap = 0 then [] else (A.map (·.block)).toList
  sat w := n = els.length ∧ (∀ c ∈ els, c.length = k) ∧ ((n = 0 ∧ cap = 0) ∨
    ∃ g cur, A = some ⟨g, 0, none⟩ ∧ w.heap[g]? = some (.cells cur T (0, 0)) ∧ n ≤ cap ∧ cap ≤ maxLen ∧ cur.size = cap * k ∧ cur.toList.take (n * k) = els.flatten)
  loc w w' h := by
    rintro ⟨h1, h2, h3⟩
    refine ⟨h1, h2, ?_⟩
    rcases h3 with h4 | ⟨g, cur, hA, hg, hle, hr⟩
    · exact .inl h4
    · by_cases hc : cap = 0
      · exact .inl ⟨by omega, hc⟩
      · refine .inr ⟨g, cur, hA, ?_, hle, hr⟩
        subst hA
        rw [h g (by simp [hc])]; exact hg
  lt w := by
    rintro ⟨_, _, h3⟩ b hb
    by_cases hc : cap = 0
    · simp [hc] at hb
    · rcases h3 with ⟨_, h4⟩ | ⟨g, cur, hA, hg, _⟩
      · exact absurd h4 hc
      · subst hA
        simp [hc] at hb; subst hb
        exact lt_of_get hg
/-- What reads as these elements when the call begins (an argument). -/
structure Old (w0 : World) (A : Option Addr) (n k : Nat) (els : List (List Value)) : Prop where
  len : n = els.length
  cat : ∀ c ∈ els, c.length = k
  at_ : 0 < n → A = some ⟨bo A, oo A, none⟩ ∧ ∀ j u, els.flatten[j]? = some u → w0.cell? ⟨bo A, oo A + j, none⟩ = some u
/-- What reads as these elements, in every state of this kind. -/
structure Rdb (κ : Cx) (L : List Res) (A : Option Addr) (n k : Nat) (els : List (List Value)) : Prop where
  len : n = els.length
  cat : ∀ c ∈ els, c.length = k
  at_ : ∀ w, WOK κ.S κ.w0 L w → 0 < n → A = some ⟨bo A, oo A, none⟩ ∧ ∀ j u, els.flatten[j]? = some u → w.cell? ⟨bo A, oo A + j, none⟩ = some u
theorem Rdb.old {κ : Cx} {L : List Res} {A : Option Addr} {n k : Nat} {els : List (List Value)} (h : Old κ.w0 A n k els) (hS : 0 < n → bo A ∉ κ.S) : Rdb κ L A n k els :=
  ⟨h.len, h.cat, fun w hw hn => by
    obtain ⟨h1, h3⟩ := h.at_ hn
    exact ⟨h1, fun j u hu => (hw.upd.cell (p := ⟨bo A, oo A + j, none⟩) (block_lt_of_cell (h3 j u hu)) (hS hn)).trans (h3 j u hu)⟩⟩
theorem Rdb.toOld {κ : Cx} {L : List Res} {A : Option Addr} {n k : Nat} {els : List (List Value)} (h : Rdb κ L A n k els) {w : World} (hw : WOK κ.S κ.w0 L w) : Old w A n k els := ⟨h.len, h.cat, h.at_ w hw⟩
theorem Old.rdb {S : List Nat} {w : World} {N : Nat} {D : List Deferred} {ρ : Option Nat} {L : List Res} {A : Option Addr} {n k : Nat} {els : List (List Value)} (h : Old w A n k els) (hS : S = []) : Rdb ⟨S, w, N, D, ρ⟩ L A n k els := Rdb.old h (by subst hS; simp)
/-- The facts that a row resource gives without a world. -/
theorem Rdb.row {κ : Cx} {L : List Res} {A : Option Addr} {n cap T k : Nat} {els : List (List Value)} (i : Nat) (hi : L[i]? = some (.row A n cap T k els)) (h1 : n = els.length) (h2 : ∀ c ∈ els, c.length = k) : Rdb κ L A n k els := by
  refine ⟨h1, h2, fun w hw hn => ?_⟩
  obtain ⟨_, _, h3⟩ := hw.sat i _ hi
  rcases h3 with ⟨h4, _⟩ | ⟨g, cur, hA, hg, hle, _, hsz, htk⟩
  · omega
  · subst hA
    refine ⟨rfl, fun j u hu => ?_⟩
    rw [← htk] at hu
    simp only [bo_some, oo_some, Nat.zero_add]
    rw [cell_of_row w g j cur _ _ hg]
    rw [List.getElem?_take] at hu
    split at hu
    · simpa using hu
    · cases hu
def subA (A : Option Addr) (cap l k : Nat) : Option Addr := if cap = l then A else A.map (·.add (l * k))
theorem flat_drop {els : List (List Value)} {k : Nat} (hk : ∀ c ∈ els, c.length = k) : ∀ l, (els.drop l).flatten = els.flatten.drop (l * k) := by
  induction els with
  | nil => intro l; simp
  | cons c els ih =>
    intro l
    cases l with
    | zero => simp
    | succ l =>
      have hc : c.length = k := hk c (by simp)
      simp only [List.drop_succ_cons, List.flatten_cons, ih (fun c' hc' => hk c' (by simp [hc'])) l]
      have e : (l + 1) * k = c.length + l * k := by rw [Nat.succ_mul, hc]; omega
      rw [e, ← List.drop_drop, List.drop_left' rfl]
theorem flat_take {els : List (List Value)} {k : Nat} (hk : ∀ c ∈ els, c.length = k) : ∀ l, (els.take l).flatten = els.flatten.take (l * k) := by
  induction els with
  | nil => intro l; simp
  | cons c els ih =>
    intro l
    cases l with
    | zero => simp
    | succ l =>
      have hc : c.length = k := hk c (by simp)
      simp only [List.take_succ_cons, List.flatten_cons, ih (fun c' hc' => hk c' (by simp [hc'])) l]
      have e : (l + 1) * k = c.length + l * k := by rw [Nat.succ_mul, hc]; omega
      rw [e, List.take_length_add_append]
theorem Rdb.sub {κ : Cx} {L : List Res} {A : Option Addr} {n k : Nat} {els : List (List Value)} (hr : Rdb κ L A n k els) {cap l h : Nat} (hl : l ≤ h) (hh : h ≤ n) (hc : n ≤ cap) :
    Rdb κ L (subA A cap l k) (h - l) k ((els.drop l).take (h - l)) := by
  have hlen := hr.len
  refine ⟨by simp; omega, fun c hm => hr.cat c (List.mem_of_mem_drop (List.mem_of_mem_take hm)), fun w hw hn => ?_⟩
  obtain ⟨h1, h2⟩ := hr.at_ w hw (by omega)
  have hne : ¬ cap = l := by omega
  have hA : subA A cap l k = some ⟨bo A, oo A + l * k, none⟩ := by
    unfold subA
    rw [if_neg hne]
    conv => lhs; rw [h1]
    simp [add_none]
  rw [hA]
  refine ⟨by simp, fun j u hu => ?_⟩
  simp only [bo_some, oo_some, Nat.add_assoc]
  refine h2 _ u ?_
  rw [flat_take (fun c hc' => hr.cat c (List.mem_of_mem_drop hc')), flat_drop hr.cat] at hu
  rw [List.getElem?_take] at hu
  split at hu
  · rwa [List.getElem?_drop] at hu
  · cases hu

theorem wi64 {n : Int} (h1 : -9223372036854775808 ≤ n) (h2 : n < 9223372036854775808) : IntKind.i64.wrap n = n := by rw [IntKind.wrap_i64]; omega
theorem wu64 {n : Int} (h1 : 0 ≤ n) (h2 : n < 18446744073709551616) : IntKind.u64.wrap n = n := by rw [IntKind.wrap_u64]; omega
theorem wrap_u64_eq (n : Int) : IntKind.u64.wrap n = n % 18446744073709551616 := IntKind.wrap_u64 n
section
variable {P : Program} {κ : Cx} {e : Env} {L : List Res} {X : Act → World → Prop} {Q : Exit → Act → World → Prop} {d : Tmp} {ty : TypeId} {s : String} {af : Array Edge} {gd : Option (Nat × Bool)}

/-! ### Quiet operations -/
theorem q_move {x : Operand} {v : Value} (hx : ev e x = some v) : QRun P κ e L ⟨some d, .move x, ty, s, af, gd⟩ v := fun a w he _ => by simp [execOp, he.ev hx]
theorem q_assign {x : Operand} {v : Value} (hx : ev e x = some v) : QRun P κ e L ⟨some d, .assign x, ty, s, af, gd⟩ v := fun a w he _ => by simp [execOp, he.ev hx]
theorem q_pick_t {c x y : Operand} {v : Value} (hc : ev e c = some (.bool true)) (hx : ev e x = some v) : QRun P κ e L ⟨some d, .pick c x y, ty, s, af, gd⟩ v := fun a w he _ => by
  simp [execOp, he.ev hc, he.ev hx, asBool]
theorem q_pick_f {c x y : Operand} {v : Value} (hc : ev e c = some (.bool false)) (hx : ev e y = some v) : QRun P κ e L ⟨some d, .pick c x y, ty, s, af, gd⟩ v := fun a w he _ => by
  simp [execOp, he.ev hc, he.ev hx, asBool]
theorem q_pick {c x y : Operand} {b : Bool} {u v : Value} (hc : ev e c = some (.bool b)) (hx : ev e x = some u) (hy : ev e y = some v) : QRun P κ e L ⟨some d, .pick c x y, ty, s, af, gd⟩ (if b then u else v) := fun a w he _ => by
  cases b <;> simp [execOp, he.ev hc, he.ev hx, he.ev hy, asBool]
theorem q_nilck {x : Operand} {p : Addr} (hx : ev e x = some (.pointer (some p))) : QRun P κ e L ⟨some d, .nilCheck x, ty, s, af, gd⟩ (.pointer (some p)) := fun a w he _ => by simp [execOp, he.ev hx]
theorem q_field {T f o b off : Nat} {x : Operand} [hf : Fl P T f o] (hx : ev e x = some (.pointer (some ⟨b, off, none⟩))) : QRun P κ e L ⟨some d, .fieldAddr T x f, ty, s, af, gd⟩ (.pointer (some ⟨b, off + o, none⟩)) := fun a w he _ => by
  simp [execOp, he.ev hx, hf.run w, add_none]
theorem run_load1 {T n : Nat} [ht : Ty P T false n] {w : World} {p : Addr} {v : Value} (hc : w.cell? p = some v) : (loadVar T p).run P w = .ok v w := by
  simp [loadVar, Sem.run_bind, ht.agg w, load, Sem.run, hc]
theorem run_loadN {T n : Nat} [ht : Ty P T true n] {w : World} {p : Addr} {cs : List Value} (hn : cs.length = n) (hc : ∀ j v, cs[j]? = some v → w.cell? (p.add j) = some v) : (loadVar T p).run P w = .ok (.agg cs.toArray) w := by
  have hl := run_loadCells_list (P := P) w p cs hc
  subst hn
  simp [loadVar, Sem.run_bind, ht.agg w, ht.size w, hl]
theorem InL.sat {κ : Cx} {L : List Res} {b T : Nat} {c : List Value} (h : InL L b T c) {w : World} (hw : WOK κ.S κ.w0 L w) : (Res.blk b T c).sat w := h.at_.elim fun i hi => hw.sat i _ hi
theorem blk_cell {w : World} {b T : Nat} {c : List Value} (h : (Res.blk b T c).sat w) {j : Nat} {v : Value} (hv : c[j]? = some v) : w.cell? ⟨b, j, none⟩ = some v := by
  rw [cell_of_row w b j c.toArray T (0, 0) h]; simpa using hv
/-- one cell of a block of our own -/
theorem q_load {T n b T' off : Nat} {x : Operand} {c : List Value} {v : Value} [ht : Ty P T false n] (hx : ev e x = some (.pointer (some ⟨b, off, none⟩))) [hi : InL L b T' c] (hv : c[off]? = some v) :
    QRun P κ e L ⟨some d, .load T x, ty, s, af, gd⟩ v := fun a w he hw => by
  simp [execOp, he.ev hx, Instr.loadAt, Instr.sureAddr, run_load1 (ht := ht) (blk_cell (hi.sat hw) hv)]
/-- a whole block of our own -/
theorem q_loadw {T n b T' : Nat} {x : Operand} {c : List Value} [ht : Ty P T true n] (hx : ev e x = some (.pointer (some ⟨b, 0, none⟩))) [hi : InL L b T' c] (hn : Nat.beq c.length n = true) :
    QRun P κ e L ⟨some d, .load T x, ty, s, af, gd⟩ (.agg c.toArray) := fun a w he hw => by
  simp [execOp, he.ev hx, Instr.loadAt, Instr.sureAddr, run_loadN (p := ⟨b, 0, none⟩) (ht := ht) (by simpa using hn) (fun j v hv => by rw [add_none, Nat.zero_add]; exact blk_cell (hi.sat hw) hv)]
/-- a part of a block of our own -/
theorem q_loadp {T n b T' off : Nat} {x : Operand} {c c' : List Value} [ht : Ty P T true n] (hx : ev e x = some (.pointer (some ⟨b, off, none⟩))) [hi : InL L b T' c] (hc : (c.drop off).take n = c') (hn : Nat.beq c'.length n = true) :
    QRun P κ e L ⟨some d, .load T x, ty, s, af, gd⟩ (.agg c'.toArray) := fun a w he hw => by
  have hn' : c'.length = n := by simpa using hn
  subst hc
  simp [execOp, he.ev hx, Instr.loadAt, Instr.sureAddr, run_loadN (p := ⟨b, off, none⟩) (ht := ht) hn' (fun j v hv => by
    rw [add_none]
    refine blk_cell (hi.sat hw) ?_
    rw [List.getElem?_take] at hv
    split at hv
    · rwa [List.getElem?_drop] at hv
    · cases hv)]
/-- one cell of an element -/
theorem q_load_el {T n k m i o off : Nat} {A : Option Addr} {x : Operand} {els : List (List Value)} {cs : List Value} {v : Value} [ht : Ty P T false n] (hx : ev e x = some (.pointer (some ⟨bo A, off, none⟩))) (hr : Rdb κ L A m k els)
    (hi : els[i]? = some cs) (ho : cs[o]? = some v) (hoff : off = oo A + i * k + o) : QRun P κ e L ⟨some d, .load T x, ty, s, af, gd⟩ v := fun a w he hw => by
  have hm : 0 < m := by
    rw [hr.len]
    rcases Nat.eq_zero_or_pos els.length with h | h
    · rw [List.eq_nil_of_length_eq_zero h] at hi; simp at hi
    · exact h
  obtain ⟨_, h2⟩ := hr.at_ w hw hm
  have := h2 _ v (flat_get hr.cat hi ho)
  subst hoff
  rw [← Nat.add_assoc] at this
  simp [execOp, he.ev hx, Instr.loadAt, Instr.sureAddr, run_load1 (ht := ht) this]
/-- a whole element -/
theorem q_load_ew {T k m i off : Nat} {A : Option Addr} {x : Operand} {els : List (List Value)} {cs : List Value} [ht : Ty P T true k] (hx : ev e x = some (.pointer (some ⟨bo A, off, none⟩))) (hr : Rdb κ L A m k els)
    (hi : els[i]? = some cs) (hoff : off = oo A + i * k) : QRun P κ e L ⟨some d, .load T x, ty, s, af, gd⟩ (.agg cs.toArray) := fun a w he hw => by
  have hm : 0 < m := by
    rw [hr.len]
    rcases Nat.eq_zero_or_pos els.length with h | h
    · rw [List.eq_nil_of_length_eq_zero h] at hi; simp at hi
    · exact h
  obtain ⟨_, h2⟩ := hr.at_ w hw hm
  have hk : cs.length = k := hr.cat cs (List.mem_of_getElem? hi)
  subst hoff
  simp [execOp, he.ev hx, Instr.loadAt, Instr.sureAddr, run_loadN (p := ⟨bo A, oo A + i * k, none⟩) (ht := ht) hk (fun j v hv => by
    rw [add_none, Nat.add_assoc]; exact h2 _ v (flat_get hr.cat hi hv))]
/-- x[i], its place -/
theorem q_index {T E k m cap i : Nat} {kd : IntKind} {A : Option Addr} {x y : Operand} {z : Int} {els : List (List Value)} [ht : Slc P T E k] (hx : ev e x = some (.slice A m cap)) (hy : ev e y = some (.int kd z)) (hz : z = (i : Int)) (hr : Rdb κ L A m k els)
    (him : i < m) : QRun P κ e L ⟨some d, .indexAddr T x y, ty, s, af, gd⟩ (.pointer (some ⟨bo A, oo A + i * k, none⟩)) := fun a w he hw => by
  obtain ⟨h1, _⟩ := hr.at_ w hw (by omega)
  have hu := ht.und; have hk := ht.siz
  obtain ⟨f, hf, rfl⟩ := Option.map_eq_some_iff.1 hk
  have hev := he.ev hx
  rw [h1] at hev
  subst hz
  have hlt : (i : Int) < (m : Int) := by omega
  simp [execOp, hev, he.ev hy, Instr.indexAt, asIntOf, Sem.run_bind, run_underlying hu, sizeOf, typeInfo, hf, add_none, him]
/-- a[i] of an array variable of our own, its place -/
theorem q_index_arr {T E k m b off i : Nat} {kd : IntKind} {x y : Operand} {z : Int} [ht : Arr P T E m k] (hx : ev e x = some (.pointer (some ⟨b, off, none⟩))) (hy : ev e y = some (.int kd z)) (hz : z = (i : Int)) (him : i < m) :
    QRun P κ e L ⟨some d, .indexAddr T x y, ty, s, af, gd⟩ (.pointer (some ⟨b, off + i * k, none⟩)) := fun a w he hw => by
  have hu := ht.und; have hk := ht.siz
  obtain ⟨f, hf, rfl⟩ := Option.map_eq_some_iff.1 hk
  subst hz
  simp [execOp, he.ev hx, he.ev hy, Instr.indexAt, asIntOf, Sem.run_bind, run_underlying hu, sizeOf, typeInfo, hf, add_none, him, Instr.sureAddr]
theorem q_len {T E k m cap : Nat} {A : Option Addr} {x : Operand} [ht : Slc P T E k] (hx : ev e x = some (.slice A m cap)) : QRun P κ e L ⟨some d, .call { callee := .builtin .len, args := #[x], argTypes := #[T] }, ty, s, af, gd⟩ (.int .i64 (m : Int)) := fun a w he _ => by
  simp [execOp, resolve, invoke, builtin, Builtin.len_, he.ev hx, run_underlying ht.und, goInt]
theorem q_len_str {T : Nat} {b : ByteArray} {x : Operand} (ht : P.underlying T = some .string) (hx : ev e x = some (.string b)) : QRun P κ e L ⟨some d, .call { callee := .builtin .len, args := #[x], argTypes := #[T] }, ty, s, af, gd⟩ (.int .i64 (b.size : Int)) := fun a w he _ => by
  simp [execOp, resolve, invoke, builtin, Builtin.len_, he.ev hx, run_underlying ht, goInt]
theorem q_min {k : IntKind} {x y : Operand} {a b : Int} {ts : Array TypeId} (hx : ev e x = some (.int k a)) (hy : ev e y = some (.int k b)) : QRun P κ e L ⟨some d, .call { callee := .builtin .min, args := #[x, y], argTypes := ts }, ty, s, af, gd⟩ (.int k (min a b)) := fun ac w he _ => by
  simp [execOp, resolve, invoke, builtin, Builtin.min_, Builtin.min2, he.ev hx, he.ev hy]
  omega
theorem q_max {k : IntKind} {x y : Operand} {a b : Int} {ts : Array TypeId} (hx : ev e x = some (.int k a)) (hy : ev e y = some (.int k b)) : QRun P κ e L ⟨some d, .call { callee := .builtin .max, args := #[x, y], argTypes := ts }, ty, s, af, gd⟩ (.int k (max a b)) := fun ac w he _ => by
  simp [execOp, resolve, invoke, builtin, Builtin.max_, Builtin.max2, he.ev hx, he.ev hy]
  omega
theorem q_extract {x : Operand} {vs : List Value} {i : Nat} {v : Value} (hx : ev e x = some (.tuple vs.toArray)) (hv : vs[i]? = some v) : QRun P κ e L ⟨some d, .extract x i, ty, s, af, gd⟩ v := fun a w he _ => by
  simp [execOp, he.ev hx, Instr.extract, hv]
theorem q_not {T : Nat} {x : Operand} {b : Bool} (hx : ev e x = some (.bool b)) : QRun P κ e L ⟨some d, .unOp .not T x, ty, s, af, gd⟩ (.bool !b) := fun a w he _ => by simp [execOp, he.ev hx, Op.unary]
theorem q_neg {T : Nat} {x : Operand} {k : IntKind} {n : Int} (hx : ev e x = some (.int k n)) : QRun P κ e L ⟨some d, .unOp .neg T x, ty, s, af, gd⟩ (.int k (k.wrap (0 - n))) := fun a w he _ => by simp [execOp, he.ev hx, Op.unary, Op.intArith]
theorem q_func {fn : Fn} {f c : Array Operand} {vf vc : Array Value} (hf : f.map (ev e) = vf.map some) (hc : c.map (ev e) = vc.map some) (hm : ∀ w : World, (Instr.makeFunc fn vf vc).run P w = .ok (.func fn vf vc) w) : QRun P κ e L ⟨some d, .makeFunc fn f c, ty, s, af, gd⟩ (.func fn vf vc) := fun a w he _ => by
  have key : ∀ (xs : Array Operand) (vs : Array Value), xs.map (ev e) = vs.map some → xs.map a.eval = vs := by
    intro xs vs h
    apply Array.ext
    · have := congrArg Array.size h; simpa using this
    · intro i h1 h2
      have h3 : (xs.map (ev e))[i]? = (vs.map some)[i]? := by rw [h]
      simp at h1
      simp [h1, h2] at h3
      simp [he.ev h3]
  have e1 := key f vf hf
  have e2 := key c vc hc
  simp [execOp, e1, e2, hm w]

section ints
variable {T T' : Nat} {k : IntKind} {x y : Operand} {a b : Int}
theorem q_add (hx : ev e x = some (.int k a)) (hy : ev e y = some (.int k b)) : QRun P κ e L ⟨some d, .binOp .add T x y T', ty, s, af, gd⟩ (.int k (k.wrap (a + b))) := fun ac w he _ => by
  simp [execOp, he.ev hx, he.ev hy, eqGuard_at_int, binOp_add, Op.intArith]
theorem q_sub (hx : ev e x = some (.int k a)) (hy : ev e y = some (.int k b)) : QRun P κ e L ⟨some d, .binOp .sub T x y T', ty, s, af, gd⟩ (.int k (k.wrap (a - b))) := fun ac w he _ => by
  simp [execOp, he.ev hx, he.ev hy, eqGuard_at_int, binOp_sub, Op.intArith]
theorem q_mul (hx : ev e x = some (.int k a)) (hy : ev e y = some (.int k b)) : QRun P κ e L ⟨some d, .binOp .mul T x y T', ty, s, af, gd⟩ (.int k (k.wrap (a * b))) := fun ac w he _ => by
  simp [execOp, he.ev hx, he.ev hy, eqGuard_at_int, binOp_mul, Op.intArith]
theorem q_quo (hx : ev e x = some (.int k a)) (hy : ev e y = some (.int k b)) (h0 : b ≠ 0) : QRun P κ e L ⟨some d, .binOp .quo T x y T', ty, s, af, gd⟩ (.int k (k.wrap (a.tdiv b))) := fun ac w he _ => by
  simp [execOp, he.ev hx, he.ev hy, eqGuard_at_int, binOp_quo, Op.intDiv, h0]
theorem q_rem (hx : ev e x = some (.int k a)) (hy : ev e y = some (.int k b)) (h0 : b ≠ 0) : QRun P κ e L ⟨some d, .binOp .rem T x y T', ty, s, af, gd⟩ (.int k (a.tmod b)) := fun ac w he _ => by
  simp [execOp, he.ev hx, he.ev hy, eqGuard_at_int, binOp_rem, Op.intDiv, h0]
/-- a sum, a difference, a product, spelled as one likes -/
theorem q_addz {z : Int} (hx : ev e x = some (.int k a)) (hy : ev e y = some (.int k b)) (hz : k.wrap (a + b) = z) : QRun P κ e L ⟨some d, .binOp .add T x y T', ty, s, af, gd⟩ (.int k z) := hz ▸ q_add hx hy
theorem q_subz {z : Int} (hx : ev e x = some (.int k a)) (hy : ev e y = some (.int k b)) (hz : k.wrap (a - b) = z) : QRun P κ e L ⟨some d, .binOp .sub T x y T', ty, s, af, gd⟩ (.int k z) := hz ▸ q_sub hx hy
theorem q_mulz {z : Int} (hx : ev e x = some (.int k a)) (hy : ev e y = some (.int k b)) (hz : k.wrap (a * b) = z) : QRun P κ e L ⟨some d, .binOp .mul T x y T', ty, s, af, gd⟩ (.int k z) := hz ▸ q_mul hx hy
/-- i++ of a counter that is far from its kind's end -/
theorem q_inc {i : Nat} (hx : ev e x = some (.int .i64 (i : Int))) (hy : ev e y = some (.int .i64 1)) (h : i < 9223372036854775807) : QRun P κ e L ⟨some d, .binOp .add T x y T', ty, s, af, gd⟩ (.int .i64 ((i + 1 : Nat) : Int)) :=
  q_addz hx hy (by rw [wi64 (by omega) (by omega)]; omega)
theorem q_eql (hx : ev e x = some (.int k a)) (hy : ev e y = some (.int k b)) : QRun P κ e L ⟨some d, .binOp .eql T x y T', ty, s, af, gd⟩ (.bool (decide (a = b))) := fun ac w he _ => by
  simp [execOp, he.ev hx, he.ev hy, eqGuard_at_int, binOp_eql]
  rfl
theorem q_neq (hx : ev e x = some (.int k a)) (hy : ev e y = some (.int k b)) : QRun P κ e L ⟨some d, .binOp .neq T x y T', ty, s, af, gd⟩ (.bool (!decide (a = b))) := fun ac w he _ => by
  simp [execOp, he.ev hx, he.ev hy, eqGuard_at_int, binOp_neq, bne]
  rfl
theorem q_lss (hx : ev e x = some (.int k a)) (hy : ev e y = some (.int k b)) : QRun P κ e L ⟨some d, .binOp .lss T x y T', ty, s, af, gd⟩ (.bool (decide (a < b))) := fun ac w he _ => by
  simp [execOp, he.ev hx, he.ev hy, eqGuard_at_int, binOp_lss]
theorem q_leq (hx : ev e x = some (.int k a)) (hy : ev e y = some (.int k b)) : QRun P κ e L ⟨some d, .binOp .leq T x y T', ty, s, af, gd⟩ (.bool (decide (a ≤ b))) := fun ac w he _ => by
  simp [execOp, he.ev hx, he.ev hy, eqGuard_at_int, binOp_leq]
theorem q_gtr (hx : ev e x = some (.int k a)) (hy : ev e y = some (.int k b)) : QRun P κ e L ⟨some d, .binOp .gtr T x y T', ty, s, af, gd⟩ (.bool (decide (b < a))) := fun ac w he _ => by
  simp [execOp, he.ev hx, he.ev hy, eqGuard_at_int, binOp_gtr]
theorem q_geq (hx : ev e x = some (.int k a)) (hy : ev e y = some (.int k b)) : QRun P κ e L ⟨some d, .binOp .geq T x y T', ty, s, af, gd⟩ (.bool (decide (b ≤ a))) := fun ac w he _ => by
  simp [execOp, he.ev hx, he.ev hy, eqGuard_at_int, binOp_geq]
theorem q_conv {k' : IntKind} {k0 : IntKind} [hT : UInt' P T k0] [hT' : UInt' P T' k'] (hx : ev e x = some (.int k a)) : QRun P κ e L ⟨some d, .convert T T' x, ty, s, af, gd⟩ (.int k' (k'.wrap a)) := fun ac w he _ => by
  simp [execOp, he.ev hx, convert, Sem.run_bind, run_underlying hT.und, run_underlying hT'.und, Conv.intToInt]
theorem q_convz {k' k0 : IntKind} {z : Int} [hT : UInt' P T k0] [hT' : UInt' P T' k'] (hx : ev e x = some (.int k a)) (hz : k'.wrap a = z) : QRun P κ e L ⟨some d, .convert T T' x, ty, s, af, gd⟩ (.int k' z) := hz ▸ q_conv (T := T) hx
end ints
theorem q_eql_bool {T T' : Nat} {x y : Operand} {a b : Bool} (hT : P.underlying T = some .bool) (hx : ev e x = some (.bool a)) (hy : ev e y = some (.bool b)) : QRun P κ e L ⟨some d, .binOp .eql T x y T', ty, s, af, gd⟩ (.bool (a == b)) := fun ac w he _ => by
  simp [execOp, he.ev hx, he.ev hy, eqGuard_at_bool, binOp, Op.equal, Op.maxDepth, run_equalIn_bool w _ T a b hT]
theorem q_neq_bool {T T' : Nat} {x y : Operand} {a b : Bool} (hT : P.underlying T = some .bool) (hx : ev e x = some (.bool a)) (hy : ev e y = some (.bool b)) : QRun P κ e L ⟨some d, .binOp .neq T x y T', ty, s, af, gd⟩ (.bool (!(a == b))) := fun ac w he _ => by
  simp [execOp, he.ev hx, he.ev hy, eqGuard_at_bool, binOp, Op.equal, Op.maxDepth, run_equalIn_bool w _ T a b hT]
class Ptr (P : Program) (T : Nat) : Prop where
  und : (P.underlying T).map (fun d => match d with | .pointer _ => true | _ => false) = some true
theorem Ptr.get {P : Program} {T : Nat} (h : Ptr P T) : ∃ t, P.underlying T = some (.pointer t) := by
  obtain ⟨u, hu, hd⟩ := Option.map_eq_some_iff.1 h.und
  cases u <;> simp at hd
  exact ⟨_, hu⟩
theorem run_ptr_nil {T t : Nat} (hu : P.underlying T = some (.pointer t)) (p : Option Addr) (w : World) : (Op.equal T (.pointer p) (.pointer none)).run P w = .ok p.isNone w := by
  have key : ∀ d : Nat, (Op.equalIn (d + 1) T (.pointer p) (.pointer none)).run P w = .ok p.isNone w := fun d => by
    cases p <;> simp [Op.equalIn, run_underlying hu]
  exact key 9999
theorem run_eqp {T t : Nat} (hu : P.underlying T = some (.pointer t)) (p : Option Addr) (w : World) : (binOp .eql T (.pointer p) (.pointer none)).run P w = .ok (.bool p.isNone) w := by
  have e1 : binOp .eql T (.pointer p) (.pointer none) = (do pure (.bool (← Op.equal T (.pointer p) (.pointer none)))) := by cases p <;> rfl
  rw [e1, Sem.run_bind, run_ptr_nil hu p w]
  rfl
theorem run_nep {T t : Nat} (hu : P.underlying T = some (.pointer t)) (p : Option Addr) (w : World) : (binOp .neq T (.pointer p) (.pointer none)).run P w = .ok (.bool (!p.isNone)) w := by
  have e1 : binOp .neq T (.pointer p) (.pointer none) = (do pure (.bool (!(← Op.equal T (.pointer p) (.pointer none))))) := by cases p <;> rfl
  rw [e1, Sem.run_bind, run_ptr_nil hu p w]
  rfl
theorem q_eqp {T T' : Nat} {x y : Operand} {p : Option Addr} {b : Bool} [h : Ptr P T] (hx : ev e x = some (.pointer p)) (hy : ev e y = some (.pointer none)) (hb : p.isNone = b) : QRun P κ e L ⟨some d, .binOp .eql T x y T', ty, s, af, gd⟩ (.bool b) := fun a w he _ => by
  obtain ⟨t, hu⟩ := h.get
  subst hb
  simp only [execOp, Sem.run_bind, he.ev hx, he.ev hy, eqGuard_at_pointer, Sem.run_pure, Result.andThen_ok, run_eqp hu p w]
theorem q_nep {T T' : Nat} {x y : Operand} {p : Option Addr} {b : Bool} [h : Ptr P T] (hx : ev e x = some (.pointer p)) (hy : ev e y = some (.pointer none)) (hb : (!p.isNone) = b) : QRun P κ e L ⟨some d, .binOp .neq T x y T', ty, s, af, gd⟩ (.bool b) := fun a w he _ => by
  obtain ⟨t, hu⟩ := h.get
  subst hb
  simp only [execOp, Sem.run_bind, he.ev hx, he.ev hy, eqGuard_at_pointer, Sem.run_pure, Result.andThen_ok, run_nep hu p w]
/-- A value of no matter what kind: quiet by a fact of its own. -/
theorem q_by {op : Op} {v : Value} (h : ∀ a w, EnvOK e a → WOK κ.S κ.w0 L w → (execOp a.eval ⟨some d, op, ty, s, af, gd⟩).run P w = .ok (.value v) w) : QRun P κ e L ⟨some d, op, ty, s, af, gd⟩ v := h
end
end Go.Eg
