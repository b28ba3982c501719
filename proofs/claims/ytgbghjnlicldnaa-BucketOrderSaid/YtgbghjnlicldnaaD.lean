/- Slices of the call's own: append, literals, make, copy, stores into elements; struct literals; comparisons of structs. No program in sight. -/
import Derived.Test.YtgbghjnlicldnaaC
namespace Go.Eg
open Go.RowKit

/-- a slice's type, with all that append and make want of its elements' type -/
class SlcF (P : Program) (T : Nat) (E k bt : outParam Nat) : Prop where
  und : P.underlying T = some (.slice E)
  inf : ((P.info? E).bind fun i => i.zero.map fun z => (i.size, i.bytes, z.cells.size)) = some (k, bt, k)
  kpos : Nat.blt 0 k = true
  bpos : Nat.blt 0 bt = true
theorem SlcF.get {P : Program} {T E k bt : Nat} (h : SlcF P T E k bt) : ∃ i z, P.info? E = some i ∧ i.zero = some z ∧ i.size = k ∧ i.bytes = bt ∧ z.cells.size = k ∧ 0 < k ∧ 0 < bt := by
  obtain ⟨i, hi, h1⟩ := Option.bind_eq_some_iff.1 h.inf
  obtain ⟨z, hz, h2⟩ := Option.map_eq_some_iff.1 h1
  simp only [Prod.mk.injEq] at h2
  exact ⟨i, z, hi, hz, h2.1, h2.2.1, h2.2.2, by simpa using h.kpos, by simpa using h.bpos⟩
class InRow (L : List Res) (A : Option Addr) (n cap T k : outParam Nat) (els : outParam (List (List Value))) : Prop where
  at_ : ∃ i : Nat, L[i]? = some (.row A n cap T k els)
instance InRow.head {L : List Res} {A : Option Addr} {n cap T k : Nat} {els : List (List Value)} : InRow (.row A n cap T k els :: L) A n cap T k els := ⟨0, rfl⟩
instance InRow.tail {L : List Res} {r : Res} {A : Option Addr} {n cap T k : Nat} {els : List (List Value)} [h : InRow L A n cap T k els] : InRow (r :: L) A n cap T k els := ⟨h.at_.elim fun i hi => ⟨i + 1, hi⟩⟩
/-- .. and the resources with r' in its place -/
class UpRow (L : List Res) (A : Option Addr) (n cap T k : outParam Nat) (els : outParam (List (List Value))) (r' : Res) (L' : outParam (List Res)) : Prop where
  at_ : ∃ i : Nat, L[i]? = some (.row A n cap T k els) ∧ L.set i r' = L'
instance UpRow.head {L : List Res} {A : Option Addr} {n cap T k : Nat} {els : List (List Value)} {r' : Res} : UpRow (.row A n cap T k els :: L) A n cap T k els r' (r' :: L) := ⟨0, rfl, rfl⟩
instance UpRow.tail {L L' : List Res} {r r' : Res} {A : Option Addr} {n cap T k : Nat} {els : List (List Value)} [h : UpRow L A n cap T k els r' L'] : UpRow (r :: L) A n cap T k els r' (r :: L') :=
  ⟨h.at_.elim fun i hi => ⟨i + 1, hi.1, congrArg (r :: ·) hi.2⟩⟩
theorem InRow.rdb {κ : Cx} {L : List Res} {A : Option Addr} {n cap T k : Nat} {els : List (List Value)} [h : InRow L A n cap T k els] (h1 : n = els.length) (h2 : ∀ c ∈ els, c.length = k) : Rdb κ L A n k els :=
  h.at_.elim fun i hi => Rdb.row i hi h1 h2
theorem InL.rdb {κ : Cx} {L : List Res} {b T n k : Nat} {c : List Value} {els : List (List Value)} [h : InL L b T c] (h1 : n = els.length) (h2 : ∀ c ∈ els, c.length = k) (hc : els.flatten = c) : Rdb κ L (some ⟨b, 0, none⟩) n k els :=
  ⟨h1, h2, fun w hw _ => ⟨rfl, fun j u hu => by rw [hc] at hu; simpa using blk_cell (h.sat hw) hu⟩⟩

section
variable {P : Program} (w : World)
theorem run_append_zero (t ty e : TypeId) (i : TypeInfo) (ht : P.underlying t = some (.slice e)) (hi : P.info? e = some i) (A B : Option Addr) (n cap c : Nat) (hle : n ≤ cap) :
    (Builtin.append_ #[t, t] ty #[.slice A n cap, .slice B 0 c]).run P w = .ok (.slice A n cap) w := by
  cases A <;> cases B <;> simp [Builtin.append_, run_underlying ht, sizeOf, typeInfo, hi, Builtin.lenOf, Builtin.firstCells, loadCells, loadCellsFrom, hle, storeCells]
theorem row_append (t ty e : TypeId) {k bt : Nat} (hs : SlcF P t e k bt) {A B : Option Addr} {n cap m c : Nat} {els news : List (List Value)} (hr : (Res.row A n cap e k els).sat w)
    (hnl : m = news.length) (hnc : ∀ c ∈ news, c.length = k) (hn : 0 < m → ∃ ad, B = some ad ∧ ∀ j u, news.flatten[j]? = some u → w.cell? (ad.add j) = some u) (h1 : ∀ c ∈ news, ∀ u ∈ c, u.oneCell' = true) (hb : (n + m) * bt ≤ 140737488355328) :
    ∃ A' cap' w', (Builtin.append_ #[t, t] ty #[.slice A n cap, .slice B m c]).run P w = .ok (.slice A' (n + m) cap') w' ∧ (Res.row A' (n + m) cap' e k (els ++ news)).sat w' ∧ Upd (Res.row A n cap e k els).fp w w' ∧
      ∀ b ∈ (Res.row A' (n + m) cap' e k (els ++ news)).fp, b ∈ (Res.row A n cap e k els).fp ∨ w.heap.size ≤ b := by
  obtain ⟨i, z, hi, hz, hsz, hby, hzs, hk, hbp⟩ := hs.get
  obtain ⟨hnl', hcat, hr3⟩ := hr
  have hle : n ≤ cap := by rcases hr3 with ⟨a, b⟩ | ⟨_, _, _, _, a, _⟩ <;> omega
  have hcat' : ∀ c ∈ els ++ news, c.length = k := fun c hc => (List.mem_append.1 hc).elim (hcat c) (hnc c)
  have hflat : (els ++ news).flatten.length = (n + m) * k := by rw [flat_len hcat']; simp [hnl', hnl]
  have hlen : n + m = (els ++ news).length := by simp [hnl', hnl]
  have hsmall : n + m ≤ 140737488355328 := Nat.le_trans (Nat.le_mul_of_pos_right _ hbp) hb
  have hmax : n + m ≤ maxLen := by unfold maxLen; omega
  rcases Nat.eq_zero_or_pos m with hm | hm
  · subst hm
    have hnn : news = [] := List.eq_nil_of_length_eq_zero hnl.symm
    subst hnn
    refine ⟨A, cap, w, run_append_zero w t ty e i hs.und hi A B n cap c hle, ?_, Upd.refl _ _, fun b hb => .inl hb⟩
    simpa using ⟨hnl', hcat, hr3⟩
  · obtain ⟨ad, rfl, hcells⟩ := hn hm
    have hfl : news.flatten.length = m * k := by rw [flat_len hnc, hnl]
    have grown : ∀ old (oldc : List Value), oldc = els.flatten → old < n + m →
        (Res.row (some ⟨w.heap.size, 0, none⟩) (n + m) (grownCap w (n + m) old e) e k (els ++ news)).sat (w.drew.alloc (.cells (oldc.toArray ++ news.flatten.toArray ++ Builtin.zeroCells z.cells (grownCap w (n + m) old e - (n + m))) e)) := by
      intro old oldc ho hlt
      subst ho
      have hge := grownCap_ge w (n + m) old e
      have hcm : grownCap w (n + m) old e ≤ maxLen := grownCap_le_maxLen w (n + m) old e hmax
      refine ⟨hlen, hcat', .inr ⟨w.heap.size, _, rfl, heap_alloc_new w.drew _, hge, hcm, ?_, ?_⟩⟩
      · have hel : els.flatten.length = n * k := by rw [flat_len hcat, hnl']
        simp only [Array.size_append, List.size_toArray, size_zeroCells, hzs, hel, hfl, ← Nat.add_mul]
        congr 1
        omega
      · simp only [Array.toList_append, List.append_assoc]
        rw [← List.append_assoc, ← List.flatten_append, ← hflat]
        exact List.take_left
    have ups : ∀ S o, Upd S w (w.drew.alloc o) := fun S o => (Upd.drew (Upd.refl S w)).trans (Upd.alloc w.drew o) (by simp)
    have hnz : ¬ (grownCap w (n + m) cap e = 0) := by have := grownCap_ge w (n + m) cap e; omega
    rcases hr3 with ⟨h0, hc0⟩ | ⟨g, cur, rfl, hg, _, hcm, hcs, htk⟩
    · subst h0; subst hc0
      have hel : els = [] := List.eq_nil_of_length_eq_zero hnl'.symm
      subst hel
      cases A with
      | none =>
        have hr := run_append_nil (P := P) w t ty e i z hs.und hi hz ad m c news.flatten (by rw [hfl, hsz]) hcells hm (by omega) (by rw [hby]; simp at hb; omega)
        have hg := grown 0 [] rfl (by omega)
        simp only [Nat.zero_add, List.nil_append, Array.empty_append] at hr hg ⊢
        exact ⟨_, _, _, hr, hg, ups _ _, by simp [Res.row]⟩
      | some b =>
        have hr := run_append_grow (P := P) w t ty e i z hs.und hi hz b 0 0 [] (by simp) (by simp) ad m c news.flatten (by rw [hfl, hsz]) hcells (by omega) (by omega) (growslice_fits (by omega) (by rw [hby]; exact hb))
        have hg := grown 0 [] rfl (by omega)
        exact ⟨_, _, _, hr, hg, ups _ _, by simp [Res.row]⟩
    · by_cases hroom : n + m ≤ cap
      · have hfit : n * i.size + news.flatten.length ≤ cur.size := by rw [hfl, hcs, hsz, ← Nat.add_mul]; exact Nat.mul_le_mul_right _ hroom
        have hr := run_append_room (P := P) w t ty e i hs.und hi g n cap cur hg ad m c news.flatten (by rw [hfl, hsz]) hcells (fun u hu => by obtain ⟨c, hc, hu⟩ := List.mem_flatten.1 hu; exact h1 c hc u hu) hroom hfit
        have hcap : ¬ cap = 0 := by omega
        refine ⟨_, _, _, hr, ⟨hlen, hcat', .inr ⟨g, _, rfl, setRow_heap w g cur _ e _ hg, hroom, hcm, ?_, ?_⟩⟩, ⟨rfl, rfl, rfl, by simp, fun q _ hq => setRow_other w g q _ (fun e => hq (by simp [Res.row, hcap, e]))⟩, by simp [Res.row, hcap]⟩
        · have hcur : cur.size = cap * k := hcs
          have hnk : n * k ≤ cap * k := Nat.mul_le_mul_right _ hle
          simp only [List.size_toArray, List.length_append, List.length_take, List.length_drop, Array.length_toList, hsz, hfl]
          rw [hsz, hfl, ← Nat.add_mul] at hfit
          rw [← hcur, Nat.min_eq_left (by omega), ← Nat.add_mul]
          omega
        · rw [hsz, htk, ← hflat, List.flatten_append]
          exact List.take_left
      · have holds : ∀ j u, els.flatten[j]? = some u → w.cell? ((⟨g, 0, none⟩ : Addr).add j) = some u := fun j u hu => by
          rw [add_none, Nat.zero_add, cell_of_row w g j cur _ _ hg]
          rw [← htk, List.getElem?_take] at hu
          split at hu
          · simpa using hu
          · cases hu
        have hr := run_append_grow (P := P) w t ty e i z hs.und hi hz ⟨g, 0, none⟩ n cap els.flatten (by rw [flat_len hcat, hsz, hnl']) holds ad m c news.flatten (by rw [hfl, hsz]) hcells (by omega) (by omega) (growslice_fits (by omega) (by rw [hby]; exact hb))
        have hg := grown cap els.flatten rfl (by omega)
        exact ⟨_, _, _, hr, hg, ups _ _, by simp [Res.row]⟩
end

section
variable {P : Program} {κ : Cx} {e : Env} {L : List Res} {X : Act → World → Prop} {Q : Exit → Act → World → Prop} {d : Tmp} {ty : TypeId} {s : String} {af : Array Edge} {gd : Option (Nat × Bool)}
/-- a nil slice taken for one of our own: 'var out []T' -/
theorem g_nilrow (t T k : Nat) (h0 : look e t = some (.slice none 0 0)) (h : ∀ A cap, cap = 0 → G κ ((t, .slice A 0 cap) :: e) (.row A 0 cap T k [] :: L) X) : G κ e L X := fun a w hs => by
  refine h none 0 rfl a w ⟨hs.defers, hs.size, fun k v hk => ?_, hs.wok.cons (Upd.refl _ _) _ ⟨rfl, by simp, .inl ⟨rfl, rfl⟩⟩ (by simp [Res.row])⟩
  simp only [look] at hk
  by_cases h : t = k
  · subst h; simp at hk; subst hk; exact hs.env t _ h0
  · rw [if_neg h] at hk; exact hs.env k v hk
/-- append onto a slice of our own -/
theorem g_append {T E k bt n cap m c : Nat} {x y : Operand} {A B : Option Addr} {els news : List (List Value)} [hs : SlcF P T E k bt] (hx : ev e x = some (.slice A n cap)) (hy : ev e y = some (.slice B m c)) [hi : InRow L A n cap E k els]
    (hr : Rdb κ L B m k news) (h1 : ∀ c ∈ news, ∀ u ∈ c, u.oneCell' = true) (hb : (n + m) * bt ≤ 140737488355328) (hd : Nat.blt d κ.N = true)
    (h : ∀ A' cap', ∃ L', UpRow L A n cap E k els (.row A' (n + m) cap' E k (els ++ news)) L' ∧ G κ ((d, .slice A' (n + m) cap') :: e) L' X) :
    G κ e L (owp κ.ρ P ⟨some d, .call { callee := .builtin .append, args := #[x, y], argTypes := #[T, T] }, ty, s, af, gd⟩ Q X) := fun a w hst => by
  obtain ⟨i0, hi0⟩ := hi.at_
  obtain ⟨A', cap', w', hrun, hsat, hu, hfp⟩ := row_append (P := P) w T ty E hs (hst.wok.sat i0 _ hi0) hr.len hr.cat (fun hm => by
    obtain ⟨h1, h2⟩ := hr.at_ w hst.wok hm
    exact ⟨_, h1, fun j u hu => by rw [add_none]; exact h2 j u hu⟩) h1 hb (B := B) (c := c)
  obtain ⟨L', hL, hg⟩ := h A' cap'
  obtain ⟨i, hi', rfl⟩ := hL.at_
  have he : (execOp a.eval ⟨some d, .call { callee := .builtin .append, args := #[x, y], argTypes := #[T, T] }, ty, s, af, gd⟩).run P w = .ok (.value (.slice A' (n + m) cap')) w' := by
    simp [execOp, resolve, invoke, builtin, hst.env.ev hx, hst.env.ev hy, hrun]
  exact in_value he (hg _ _ (st_next hst hd _ (hst.wok.change hi' _ hu hsat hfp)))

/-! ### struct and slice literals -/
def fillL (place : Nat → Option (Nat × Nat)) (c : List Value) : List (Nat × Value) → Option (List Value)
  | [] => some c
  | (i, v) :: rest =>
    match place i with
    | none => none
    | some (off, size) => if v.cells.size = size ∧ off + size ≤ c.length then fillL place (splice c off v.cells.toList) rest else none
theorem splice_foldl (vs : List Value) : ∀ (off j : Nat) (c : List Value), ((vs.zipIdx j).foldl (fun cs (p : Value × Nat) => cs.setIfInBounds (off + p.2) p.1) c.toArray) = (splice c (off + j) vs).toArray := by
  induction vs with
  | nil => intro off j c; rfl
  | cons v vs ih =>
    intro off j c
    simp only [List.zipIdx_cons, List.foldl_cons, splice]
    rw [List.setIfInBounds_toArray]
    exact ih off (j + 1) _
theorem fill_eq (place : Nat → Option (Nat × Nat)) : ∀ (ps : List (Nat × Value)) (c c' : List Value), fillL place c ps = some c' → Instr.fill place c.toArray ps = some c'.toArray
  | [], c, c', h => by simp [fillL] at h; subst h; rfl
  | (i, v) :: rest, c, c', h => by
    simp only [fillL] at h
    simp only [Instr.fill]
    cases hp : place i with
    | none => simp [hp] at h
    | some p =>
      obtain ⟨off, size⟩ := p
      simp only [hp] at h ⊢
      split at h
      · rename_i hc
        have h1 : ¬ (v.cells.size ≠ size || off + v.cells.size > c.toArray.size) = true := by simp; omega
        rw [if_neg h1]
        have h2 : (v.cells.zipIdx.foldl (fun cs (c, j) => cs.setIfInBounds (off + j) c) c.toArray) = (splice c off v.cells.toList).toArray := by
          rw [← Array.foldl_toList]
          have := splice_foldl v.cells.toList off 0 c
          simpa using this
        rw [h2]
        exact fill_eq place rest _ _ h
      · cases h
/-- where a struct's or an array's parts lie -/
class Plc (P : Program) (T : Nat) (place : outParam (Nat → Option (Nat × Nat))) (z : outParam (List Value)) : Prop where
  run : ∀ (w : World) (ps : List (Nat × Value)) (c : List Value), fillL place z ps = some c → (Instr.build T ps.toArray).run P w = .ok (.agg c.toArray) w
def placeL (l : List (Nat × Nat)) : Nat → Option (Nat × Nat) := fun i => l[i]?
theorem Plc.struct {P : Program} {T : Nat} {l : List (Nat × Nat)} {z : List Value} (hz : Zr P T z) (fs : Array Field) (hu : P.underlying T = some (.struct fs)) (hl : fs.toList.map (fun f => (P.info? f.type).map fun i => (f.offset, i.size)) = l.map some) : Plc P T (placeL l) z := by
  refine ⟨fun w ps c hc => ?_⟩
  obtain ⟨v, hv, hcells⟩ := hz.run w
  have hm : ∀ (gs : List Field) (l : List (Nat × Nat)), gs.map (fun f => (P.info? f.type).map fun i => (f.offset, i.size)) = l.map some → (gs.mapM (fun f => (do pure (f.offset, ← sizeOf f.type) : Sem (Nat × Nat)))).run P w = .ok l w := by
    intro gs
    induction gs with
    | nil => intro l h; cases l <;> simp at h; rfl
    | cons f gs ih =>
      intro l h
      cases l with
      | nil => simp at h
      | cons p l =>
        simp only [List.map_cons, List.cons.injEq] at h
        obtain ⟨i, hi, rfl⟩ := Option.map_eq_some_iff.1 h.1
        have hso : (sizeOf f.type).run P w = .ok i.size w := by simp [sizeOf, typeInfo, hi]
        simp only [List.mapM_cons, Sem.run_bind, hso, Result.andThen_ok, Sem.run_pure, ih l h.2]
  have hm' := hm fs.toList l hl
  have hf := fill_eq (placeL l) ps z c hc
  have e1 : (fs.mapM fun f => (do pure (f.offset, ← sizeOf f.type) : Sem (Nat × Nat))).run P w = .ok l.toArray w := by
    have : fs = fs.toList.toArray := by simp
    rw [this, List.mapM_toArray, Sem.run_map, hm']
    rfl
  have e2 : (fun x => l.toArray[x]?) = placeL l := by funext i; simp [placeL]
  simp only [Instr.build, Sem.run_bind, hv, Result.andThen_ok, run_underlying hu, e1, hcells]
  simp only [e2, hf]
  rfl
theorem Plc.array {P : Program} {T E m k : Nat} {z : List Value} (hz : Zr P T z) (ha : Arr P T E m k) : Plc P T (fun i => some (i * k, k)) z := by
  refine ⟨fun w ps c hc => ?_⟩
  obtain ⟨v, hv, hcells⟩ := hz.run w
  obtain ⟨i, hi, rfl⟩ := Option.map_eq_some_iff.1 ha.siz
  have hf := fill_eq _ ps z c hc
  simp only [Instr.build, Sem.run_bind, hv, Result.andThen_ok, run_underlying ha.und, sizeOf, typeInfo, run_program, hi, Sem.run_pure, hcells]
  simp only [hf]
  rfl
def evP (e : Env) : List (Nat × Operand) → Option (List (Nat × Value))
  | [] => some []
  | (i, x) :: r => match ev e x with
    | some v => match evP e r with
      | some vs => some ((i, v) :: vs)
      | none => none
    | none => none
theorem evP_map {e : Env} : ∀ (ps : List (Nat × Operand)) (vs : List (Nat × Value)), evP e ps = some vs → ps.map (fun p => (p.1, ev e p.2)) = vs.map (fun p => (p.1, some p.2))
  | [], vs, h => by simp [evP] at h; subst h; rfl
  | (i, x) :: r, vs, h => by
    simp only [evP] at h
    cases hx : ev e x with
    | none => simp [hx] at h
    | some v =>
      simp only [hx] at h
      cases hr : evP e r with
      | none => simp [hr] at h
      | some us =>
        simp only [hr, Option.some.injEq] at h
        subst h
        simp [hx, evP_map r us hr]
theorem map_ev2 {a : Act} (he : EnvOK e a) : ∀ (ps : List (Nat × Operand)) (vs : List (Nat × Value)), ps.map (fun p => (p.1, ev e p.2)) = vs.map (fun p => (p.1, some p.2)) → ps.map (fun p => (p.1, a.eval p.2)) = vs
  | [], [], _ => rfl
  | [], _ :: _, h => by simp at h
  | _ :: _, [], h => by simp at h
  | (i, x) :: ps, (j, v) :: vs, h => by
    simp at h
    simp [he.ev h.1.2, h.1.1, map_ev2 he ps vs h.2]
theorem q_build {T : Nat} {pl : Nat → Option (Nat × Nat)} {z c : List Value} {ps : List (Nat × Operand)} {vs : List (Nat × Value)} [hp : Plc P T pl z] (hv : evP e ps = some vs) (hc : fillL pl z vs = some c) :
    QRun P κ e L ⟨some d, .build T ps.toArray, ty, s, af, gd⟩ (.agg c.toArray) := fun a w he _ => by
  have hm := map_ev2 he ps vs (evP_map ps vs hv)
  have e1 : (ps.toArray.map fun (i, x) => (i, a.eval x)) = vs.toArray := by simp [← hm]
  simp [execOp, e1, hp.run w vs c hc]
/-- a slice literal of n elements -/
theorem g_lit {T E k n : Nat} {z c : List Value} {ps : List (Nat × Operand)} {vs : List (Nat × Value)} [hs : Slc P T E k] [hz : Zr P E z] (hzk : Nat.beq z.length k = true) (hn : Nat.ble (n * k) 16777216 = true) (hv : evP e ps = some vs)
    (hc : fillL (fun i => some (i * k, k)) (List.replicate n z).flatten vs = some c) (hd : Nat.blt d κ.N = true) (h : ∀ b, G κ ((d, .slice (some ⟨b, 0, none⟩) n n) :: e) (.blk b E c :: L) X) :
    G κ e L (owp κ.ρ P ⟨some d, .buildSlice T n ps.toArray, ty, s, af, gd⟩ Q X) := G.loud hd fun a w hst => by
  obtain ⟨v, hv0, hcells⟩ := hz.run w
  obtain ⟨i, hi, rfl⟩ := Option.map_eq_some_iff.1 hs.siz
  have hzk' : z.length = i.size := by simpa using hzk
  have hn' : n * i.size ≤ 16777216 := by simpa using hn
  have hm := map_ev2 hst.env ps vs (evP_map ps vs hv)
  have e1 : (ps.toArray.map fun (i, x) => (i, a.eval x)) = vs.toArray := by simp [← hm]
  have hf := fill_eq _ vs _ _ hc
  have hrep : n * i.size ≠ 0 → ((Array.range (n * i.size)).map (fun j => z.toArray[j % z.length]!)) = (List.replicate n z).flatten.toArray := fun h0 => by
    have hk : 0 < i.size := Nat.pos_of_ne_zero fun h => h0 (by simp [h])
    apply Array.ext
    · simp [hzk']
    · intro j h1 h2
      simp at h1
      have hq : j / i.size < n := by rw [Nat.div_lt_iff_lt_mul hk]; exact h1
      have hr : j % i.size < i.size := Nat.mod_lt _ hk
      have hg := flat_get (els := List.replicate n z) (k := i.size) (fun c hc => by rw [List.eq_of_mem_replicate hc]; exact hzk') (i := j / i.size) (o := j % i.size) (cs := z) (v := z[j % i.size]'(by omega)) (by rw [List.getElem?_replicate]; simp [hq]) (List.getElem?_eq_getElem _)
      have ej : j / i.size * i.size + j % i.size = j := by rw [Nat.mul_comm]; exact Nat.div_add_mod _ _
      rw [ej] at hg
      have h3 := (List.getElem?_eq_some_iff.1 hg).2
      simp [hzk', h3]
      rw [List.getElem?_eq_getElem (by omega)]
      rfl
  refine ⟨.slice (some ⟨w.heap.size, 0, none⟩) n n, w.alloc (.cells c.toArray E), .blk w.heap.size E c :: L, ?_, hst.wok.cons (Upd.alloc w _) _ (blk_new w E c) (by simp [Res.blk]), h _⟩
  have hnot : ¬ (16777216 < n * i.size) := by omega
  by_cases h0 : n * i.size = 0
  · have hz0 : (List.replicate n z).flatten = [] := by
      apply List.eq_nil_of_length_eq_zero
      rw [flat_len (k := i.size) (fun c hc => by rw [List.eq_of_mem_replicate hc]; exact hzk')]
      simpa using h0
    rw [hz0] at hf
    simp only [execOp, Instr.buildSlice, Sem.run_bind, run_underlying hs.und, Result.andThen_ok, sizeOf, typeInfo, run_program, hi, Sem.run_pure, h0, e1]
    have er : ∀ f : Nat → Value, (Array.range 0).map f = #[] := fun f => by simp [Array.range_zero']
    simp only [er, hf, Nat.not_lt_zero, Nat.reducePow, gt_iff_lt, if_false, if_true]
    rfl
  · have hr := hrep h0
    simp only [execOp, Instr.buildSlice, Sem.run_bind, run_underlying hs.und, Result.andThen_ok, sizeOf, typeInfo, run_program, hi, Sem.run_pure, e1]
    simp only [Nat.reducePow, gt_iff_lt, hnot, if_false, h0, Sem.run_bind, hv0, hcells, Result.andThen_ok, Sem.run_pure, List.size_toArray]
    rw [hr, hf]
    rfl
end
end Go.Eg
