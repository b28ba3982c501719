/- Stores into the elements of a slice of the call's own. No program in sight. -/
import Derived.Test.YtgbghjnlicldnaaJ
namespace Go.Eg
open Go.RowKit
theorem take_splice : ∀ (vs c : List Value) (off m : Nat), off + vs.length ≤ m → (splice c off vs).take m = splice (c.take m) off vs
  | [], _, _, _, _ => rfl
  | v :: vs, c, off, m, h => by
    simp only [List.length_cons] at h
    simp only [splice]
    rw [take_splice vs (c.set off v) (off + 1) m (by omega), List.take_set]
theorem flat_set1 {k : Nat} : ∀ (els : List (List Value)) (i o : Nat) (v : Value) (cs : List Value), (∀ c ∈ els, c.length = k) → els[i]? = some cs → o < k → els.flatten.set (i * k + o) v = (els.set i (cs.set o v)).flatten
  | [], i, o, v, cs, _, h, _ => by simp at h
  | c :: els, 0, o, v, cs, hk, h, ho => by
    have hc := hk c (by simp)
    simp at h; subst h
    simp only [List.flatten_cons, Nat.zero_mul, Nat.zero_add, List.set_cons_zero]
    rw [List.set_append_left _ _ (by omega)]
  | c :: els, i + 1, o, v, cs, hk, h, ho => by
    have hc := hk c (by simp)
    have e : (i + 1) * k + o - c.length = i * k + o := by rw [hc, Nat.succ_mul]; omega
    have hge : c.length ≤ (i + 1) * k + o := by rw [hc, Nat.succ_mul]; omega
    simp only [List.flatten_cons, List.set_cons_succ]
    rw [List.set_append_right _ _ hge, e, flat_set1 els i o v cs (fun c' hc' => hk c' (by simp [hc'])) (by simpa using h) ho]
theorem flat_splice {k : Nat} : ∀ (vs : List Value) (els : List (List Value)) (i o : Nat) (cs : List Value), (∀ c ∈ els, c.length = k) → els[i]? = some cs → o + vs.length ≤ k → splice els.flatten (i * k + o) vs = (els.set i (splice cs o vs)).flatten
  | [], els, i, o, cs, hk, h, ho => by
    simp only [splice]
    have hlt : i < els.length := (List.getElem?_eq_some_iff.1 h).1
    have e : els.set i cs = els := by
      apply List.ext_getElem?
      intro j
      rw [List.getElem?_set]
      split
      · rename_i hj; subst hj; first | (rw [if_pos hlt]; exact h.symm) | exact h.symm | simp_all
      · rfl
    rw [e]
  | v :: vs, els, i, o, cs, hk, h, ho => by
    simp only [List.length_cons] at ho
    have hlt : i < els.length := (List.getElem?_eq_some_iff.1 h).1
    have hcs : cs.length = k := hk cs (List.mem_of_getElem? h)
    simp only [splice]
    rw [flat_set1 els i o v cs hk h (by omega), Nat.add_assoc, flat_splice vs (els.set i (cs.set o v)) i (o + 1) (cs.set o v) (fun c hc => by
      rcases List.mem_or_eq_of_mem_set hc with h1 | h1
      · exact hk c h1
      · rw [h1]; simpa using hcs) (by simp [hlt]) (by omega), List.set_set]
section
variable {P : Program} {κ : Cx} {e : Env} {L : List Res} {X : Act → World → Prop} {Q : Exit → Act → World → Prop} {d : Tmp} {ty : TypeId} {s : String} {af : Array Edge} {gd : Option (Nat × Bool)}
/-- a store into part o of element i -/
theorem g_store_el {T n cap E k m i o off : Nat} {A : Option Addr} {els : List (List Value)} {x y : Operand} {v : Value} {cs vs cs' : List Value} {L' : List Res} {g : Bool} [ht : Ty P T g n] (hx : ev e x = some (.pointer (some ⟨bo A, off, none⟩))) (hy : ev e y = some v)
    (hv : v.cells = vs.toArray) (hn : vs.length = n) (h1 : vs.all Value.oneCell' = true) [_hi : InRow L A m cap E k els] (hi : els[i]? = some cs) (hle : o + n ≤ k) (hoff : off = oo A + i * k + o) (hc : splice cs o vs = cs') [hL : UpRow L A m cap E k els (.row A m cap E k (els.set i cs')) L']
    (h : G κ e L' X) : G κ e L (owp κ.ρ P ⟨none, .store T x y, ty, s, af, gd⟩ Q X) := fun a w hs => by
  obtain ⟨j, hj, rfl⟩ := hL.at_
  subst hc; subst hn
  obtain ⟨hlen, hcat, hr⟩ := hs.wok.sat j _ hj
  have hlt : i < els.length := (List.getElem?_eq_some_iff.1 hi).1
  have hcs : cs.length = k := hcat cs (List.mem_of_getElem? hi)
  rcases hr with ⟨h0, _⟩ | ⟨b, cur, rfl, hg, hmc, hcm, hsz, htk⟩
  · omega
  have hik : (i + 1) * k ≤ m * k := Nat.mul_le_mul_right _ (by omega)
  have hmk : m * k ≤ cap * k := Nat.mul_le_mul_right _ hmc
  rw [Nat.succ_mul] at hik
  have hcap : ¬ cap = 0 := by omega
  have hoff' : off = i * k + o := by simpa [oo] using hoff
  subst hoff'
  obtain ⟨w', hrun, hu, hs'⟩ := run_storeCells_blk (P := P) (T := E) vs cur.toList (i * k + o) 0 w (List.all_eq_true.1 h1) (by simp; omega) (by simpa [Res.blk] using hg)
  have hsat : (Res.row (some ⟨b, 0, none⟩) m cap E k (els.set i (splice cs o vs))).sat w' := by
    refine ⟨by simp [hlen], fun c hc => ?_, .inr ⟨b, _, rfl, hs', hmc, hcm, by simp [splice_length, hsz], ?_⟩⟩
    · rcases List.mem_or_eq_of_mem_set hc with h2 | h2
      · exact hcat c h2
      · rw [h2, splice_length]; exact hcs
    · simp only [Nat.add_zero]
      rw [take_splice _ _ _ _ (by omega), htk, flat_splice vs els i o cs hcat hi (by omega)]
  have hw := hs.wok.change hj (.row (some ⟨b, 0, none⟩) m cap E k (els.set i (splice cs o vs))) (by simpa [Res.row, hcap] using hu) hsat (fun q hq => .inl hq)
  have he : (execOp a.eval ⟨none, .store T x y, ty, s, af, gd⟩).run P w = .ok .skip w' := by
    have hx' := hs.env.ev hx
    simp only [bo, Option.getD_some] at hx'
    simp [execOp, hx', hs.env.ev hy, Instr.storeAt, Instr.sureAddr, storeVar, ht.size w, hv, hrun]
  exact in_skip he (h _ _ ⟨hs.defers, hs.size, hs.env, hw⟩)
theorem rep_cells (z : List Value) (n k : Nat) (hzk : z.length = k) : (madeCells z.toArray (n * k)).toList = (List.replicate n z).flatten := by
  subst hzk
  have hr : (madeCells z.toArray (n * z.length)) = (List.replicate n z).flatten.toArray := by
    apply Array.ext
    · simp [madeCells]
    · intro j h1 h2
      simp [madeCells] at h1
      have hk : 0 < z.length := Nat.pos_of_ne_zero fun h => by rw [h] at h1; simp at h1
      have hq : j / z.length < n := by rw [Nat.div_lt_iff_lt_mul hk]; exact h1
      have hr : j % z.length < z.length := Nat.mod_lt _ hk
      have hg := flat_get (els := List.replicate n z) (k := z.length) (fun c hc => by rw [List.eq_of_mem_replicate hc]) (i := j / z.length) (o := j % z.length) (cs := z) (v := z[j % z.length]) (by rw [List.getElem?_replicate]; simp [hq]) (List.getElem?_eq_getElem _)
      have ej : j / z.length * z.length + j % z.length = j := by rw [Nat.mul_comm]; exact Nat.div_add_mod _ _
      rw [ej] at hg
      have h3 := (List.getElem?_eq_some_iff.1 hg).2
      simp [madeCells, h3]
      rw [List.getElem?_eq_getElem hr]
      rfl
  rw [hr]
/-- make([]E, n) -/
theorem g_make {T E k bt n : Nat} {kd kd' : IntKind} {x y : Operand} {a b : Int} {zc : List Value} [hs : SlcF P T E k bt] [hz : Zr P E zc] (hx : ev e x = some (.int kd a)) (hy : ev e y = some (.int kd' b)) (ha : a = (n : Int)) (hb : b = (n : Int)) (hn : bt * n ≤ 281474976710656) (hd : Nat.blt d κ.N = true)
    (h : ∀ g, G κ ((d, .slice (some ⟨g, 0, none⟩) n n) :: e) (.row (some ⟨g, 0, none⟩) n n E k (List.replicate n zc) :: L) X) :
    G κ e L (owp κ.ρ P ⟨some d, .makeSlice T x y, ty, s, af, gd⟩ Q X) := G.loud hd fun ac w hst => by
  obtain ⟨i, z, hi, hz0, hsz, hby, hzs, hk, hbp⟩ := hs.get
  obtain ⟨v, hv, hcells⟩ := hz.run w
  have hvz : v = z := by
    have : (zeroValue E).run P w = .ok z w := by simp [zeroValue, typeInfo, hi, hz0]
    rw [this] at hv; injection hv with h1 _; exact h1.symm
  subst hvz
  subst ha; subst hb
  have hzl : zc.length = k := by rw [hcells] at hzs; simpa using hzs
  have hnm : n ≤ 281474976710656 := Nat.le_trans (Nat.le_mul_of_pos_left _ hbp) hn
  have hb' : (i.bytes : Int) * (n : Int) ≤ 281474976710656 := by
    have h : ((i.bytes * n : Nat) : Int) ≤ 281474976710656 := by rw [hby]; omega
    rwa [Int.natCast_mul] at h
  have hr := run_make (P := P) w T E i v hs.und hi hz0 kd kd' n n (by omega) (Int.le_refl _) hb' (by omega)
  simp only [Int.toNat_natCast] at hr
  refine ⟨.slice (some ⟨w.heap.size, 0, none⟩) n n, w.alloc (.cells (madeCells v.cells (n * i.size)) E), .row (some ⟨w.heap.size, 0, none⟩) n n E k (List.replicate n zc) :: L, ?_, hst.wok.cons (Upd.alloc w _) _ ?_ ?_, h _⟩
  · simp [execOp, hst.env.ev hx, hst.env.ev hy, hr]
  · have hrep := rep_cells zc n k hzl
    rw [hcells, hsz]
    refine ⟨by simp, fun c hc => by rw [List.eq_of_mem_replicate hc]; exact hzl, .inr ⟨w.heap.size, _, rfl, heap_alloc_new w _, Nat.le_refl _, by unfold maxLen; omega, by simp [madeCells], ?_⟩⟩
    rw [hrep]
    rw [List.take_of_length_le]
    rw [flat_len (k := k) (fun c hc => by rw [List.eq_of_mem_replicate hc]; exact hzl)]
    simp
  · intro q hq
    simp only [Res.row] at hq
    split at hq
    · simp at hq
    · simp at hq; omega
end
end Go.Eg
