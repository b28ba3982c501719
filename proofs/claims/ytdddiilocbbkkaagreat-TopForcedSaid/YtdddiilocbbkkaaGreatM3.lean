/- TopForced: for every configuration and all operations the law returns true. No condition. (the texts of the proof, part 3 of 12) -/
import Derived.Test.YtdddiilocbbkkaaGreatM2
set_option linter.unusedVariables false
set_option linter.unusedSimpArgs false
namespace Go.Eg
open Go.RowKit
structure Rg where
 A : Option Addr
 cap : Nat
 size : Nat
 first : Nat
 n : Nat
 s : List (List Value)
def Rg.c (g : Rg) : List Value := [.slice g.A g.s.length g.cap, .int .i64 g.size, .int .i64 g.first, .int .i64 g.n]
structure Rg.Rep (g : Rg) (k : Nat) (l : List (List Value)) : Prop where
 len : l.length = g.n
 le : g.n ≤ g.s.length
 sz : g.s.length ≤ g.size
 hi : g.size ≤ 1048576
 fst : g.first < g.s.length ∨ (g.s.length = 0 ∧ g.first = 0)
 get : ∀ j, j < g.n → g.s[(g.first + j) % g.s.length]? = l[j]?
 cp : g.s.length ≤ g.cap
 one : ∀ c ∈ g.s, c.length = k ∧ ∀ u ∈ c, u.oneCell' = true
def Rg.grown (g : Rg) (A : Option Addr) (z : List Value) : Rg :=
 { g with A := A, cap := min g.size (2 * g.s.length + 1), first := 0, s := g.s.drop g.first ++ g.s.take g.first ++ List.replicate (min g.size (2 * g.s.length + 1) - g.s.length) z }
theorem Rg.Rep.grown {g : Rg} {k : Nat} {l : List (List Value)} (h : g.Rep k l) (A : Option Addr) {z : List Value} (hz : z.length = k ∧ ∀ u ∈ z, u.oneCell' = true) (hn : g.n = g.s.length) (hs : g.n < g.size) : (g.grown A z).Rep k l ∧ (g.grown A z).n < (g.grown A z).s.length := by
 have h1 := h.le; have h2 := h.sz; have h3 := h.hi; have h4 := h.fst
 have hlen : (g.grown A z).s.length = min g.size (2 * g.s.length + 1) := by simp [Rg.grown]; omega
 refine ⟨⟨h.len, ?_, ?_, h.hi, .inl ?_, fun j hj => ?_, ?_, fun c hc => ?_⟩, ?_⟩
 ·rw [hlen]; simp only [Rg.grown]; omega
 ·rw [hlen]; simp only [Rg.grown]; omega
 ·rw [hlen]; simp only [Rg.grown]; omega
 ·rw [hlen]
  have hj' : j < g.n := hj
  rw [← h.get j hj']
  simp only [Rg.grown, Nat.zero_add]
  rw [Nat.mod_eq_of_lt (by omega), List.append_assoc]
  by_cases hjd : j < g.s.length - g.first
  ·rw [List.getElem?_append_left (by simp; omega), List.getElem?_drop, Nat.mod_eq_of_lt (by omega)]
  ·rw [List.getElem?_append_right (by simp; omega), List.getElem?_append_left (by simp; omega)]
   have e : (g.first + j) % g.s.length = g.first + j - g.s.length := by
    rw [Nat.mod_eq_sub_mod (by omega), Nat.mod_eq_of_lt (by omega)]
   rw [e, List.getElem?_take, if_pos (by simp; omega)]
   congr 1
   simp; omega
 ·rw [hlen]; simp [Rg.grown]
 ·simp only [Rg.grown, List.mem_append, List.mem_replicate] at hc
  rcases hc with (hc | hc) | hc
  ·exact h.one c (List.mem_of_mem_drop hc)
  ·exact h.one c (List.mem_of_mem_take hc)
  ·rw [hc.2]; exact hz
 ·rw [hlen]; simp only [Rg.grown]; omega
theorem mod_two {a m : Nat} (h : a < 2 * m) : a % m = if a < m then a else a - m := by
 split
 ·exact Nat.mod_eq_of_lt (by omega)
 ·rw [Nat.mod_eq_sub_mod (by omega), Nat.mod_eq_of_lt (by omega)]
def Rg.put (g : Rg) (x : List Value) : Rg := { g with n := g.n + 1, s := g.s.set ((g.first + g.n) % g.s.length) x }
theorem Rg.Rep.put {g : Rg} {k : Nat} {l : List (List Value)} (h : g.Rep k l) {x : List Value} (hx : x.length = k ∧ ∀ u ∈ x, u.oneCell' = true) (hn : g.n < g.s.length) : (g.put x).Rep k (l ++ [x]) := by
 have h4 := h.fst
 have hl : (g.put x).s.length = g.s.length := by simp [Rg.put]
 refine ⟨by simp [Rg.put, h.len], by rw [hl]; exact hn, by rw [hl]; exact h.sz, h.hi, by rw [hl]; exact .inl (by simp only [Rg.put]; omega), fun j hj => ?_, by rw [hl]; exact h.cp, fun c hc => ?_⟩
 ·rw [hl]
  simp only [Rg.put] at hj ⊢
  have e1 := mod_two (a := g.first + j) (m := g.s.length) (by omega)
  have e2 := mod_two (a := g.first + g.n) (m := g.s.length) (by omega)
  rw [List.getElem?_set]
  by_cases hjn : j = g.n
  ·subst hjn
   rw [if_pos rfl, if_pos (Nat.mod_lt _ (by omega)), List.getElem?_append_right (by rw [h.len]; omega)]
   simp [h.len]
  ·rw [if_neg (by rw [e1, e2]; split <;> split <;> omega), h.get j (by omega), List.getElem?_append_left (by rw [h.len]; omega)]
 ·rcases List.mem_or_eq_of_mem_set hc with h1 | h1
  ·exact h.one c h1
  ·rw [h1]; exact hx
def Rg.pop (g : Rg) (z : List Value) : Rg := { g with first := (g.first + 1) % g.s.length, n := g.n - 1, s := g.s.set g.first z }
theorem Rg.Rep.pop {g : Rg} {k : Nat} {x : List Value} {l : List (List Value)} (h : g.Rep k (x :: l)) {z : List Value} (hz : z.length = k ∧ ∀ u ∈ z, u.oneCell' = true) : (g.pop z).Rep k l := by
 have h4 := h.fst
 have h5 := h.len
 have h6 := h.le
 simp only [List.length_cons] at h5
 have hl : (g.pop z).s.length = g.s.length := by simp [Rg.pop]
 refine ⟨by simp only [Rg.pop]; omega, by rw [hl]; simp only [Rg.pop]; omega, by rw [hl]; exact h.sz, h.hi, by rw [hl]; exact .inl (Nat.mod_lt _ (by omega)), fun j hj => ?_, by rw [hl]; exact h.cp, fun c hc => ?_⟩
 ·rw [hl]
  simp only [Rg.pop] at hj ⊢
  have e0 := mod_two (a := g.first + 1) (m := g.s.length) (by omega)
  have e1 := mod_two (a := g.first + (j + 1)) (m := g.s.length) (by omega)
  have e2 := mod_two (a := (g.first + 1) % g.s.length + j) (m := g.s.length) (by rw [e0]; split <;> omega)
  have e3 : ((g.first + 1) % g.s.length + j) % g.s.length = (g.first + (j + 1)) % g.s.length := by
   rw [Nat.add_mod, Nat.mod_mod, ← Nat.add_mod]; congr 1; omega
  rw [e3, List.getElem?_set, if_neg (by rw [e1]; split <;> omega), h.get (j + 1) (by omega)]
  simp
 ·rcases List.mem_or_eq_of_mem_set hc with h1 | h1
  ·exact h.one c h1
  ·rw [h1]; exact hz
theorem Rg.Rep.head {g : Rg} {k : Nat} {l : List (List Value)} (h : g.Rep k l) {i : Nat} (hi : i < g.n) : (g.first + i) % g.s.length < g.s.length ∧ ∃ x, g.s[(g.first + i) % g.s.length]? = some x ∧ l[i]? = some x := by
 have h1 := h.le
 have h2 := h.len
 refine ⟨Nat.mod_lt _ (by omega), l[i]'(by omega), ?_, ?_⟩
 ·rw [h.get i hi]; exact List.getElem?_eq_getElem _
 ·exact List.getElem?_eq_getElem _
def Rg.init (n : Nat) : Rg := ⟨none, 0, n, 0, 0, []⟩
theorem Rg.Rep.init {n k : Nat} (h2 : n ≤ 1048576) : (Rg.init n).Rep k [] :=
 ⟨rfl, Nat.le_refl _, Nat.zero_le _, h2, .inr ⟨rfl, rfl⟩, fun j hj => absurd hj (Nat.not_lt_zero _), Nat.zero_le _, by simp [Rg.init]⟩
theorem Rg.Rep.at {g : Rg} {k : Nat} {α : Type} {c : α → List Value} {l : List α} (h : g.Rep k (l.map c)) {i : Nat} (hi : i < l.length) : g.s[(g.first + i) % g.s.length]? = some (c l[i]) := by
 have hn : i < g.n := by rw [← h.len]; simpa using hi
 rw [h.get i hn]; exact zS hi
theorem Rg.Rep.idx {g : Rg} {k : Nat} {α : Type} {c : α → List Value} {l : List α} (h : g.Rep k (l.map c)) {i : Nat} (hi : i < l.length) : (g.first + i) % g.s.length < g.s.length := by
 have hn : i < g.n := by rw [← h.len]; simpa using hi
 exact (h.head hn).1
theorem Rg.Rep.num {g : Rg} {k : Nat} {α : Type} {c : α → List Value} {l : List α} (h : g.Rep k (l.map c)) : g.n = l.length := by rw [← h.len]; simp
def pk {α : Type} (l : List α) (i : Int) : Option α := if 0 ≤ i then l[i.toNat]? else none
theorem pk_nat {α : Type} (l : List α) (i : Nat) : pk l (i : Int) = l[i]? := by simp [pk]
theorem Rg.Rep.hd {g : Rg} {k : Nat} {α : Type} {c : α → List Value} {x : α} {l : List α} (h : g.Rep k ((x :: l).map c)) : g.first < g.s.length ∧ g.s[g.first]? = some (c x) ∧ g.n = l.length + 1 := by
 have h1 := h.num
 have h2 := h.fst
 have h3 := h.le
 simp only [List.length_cons] at h1
 have h4 : g.first < g.s.length := by omega
 refine ⟨h4, ?_, h1⟩
 have := h.at (i := 0) (by simp)
 rw [Nat.add_zero, Nat.mod_eq_of_lt h4] at this
 simpa using this
end Go.Eg
namespace Go.Eg
open Go.RowKit
set_option linter.unusedSimpArgs false
set_option linter.unusedVariables false
def bm (n m : Nat) : Array Bool := ((List.range n).map m.testBit).toArray
theorem bm_zero (n : Nat) : bm n 0 = Array.replicate n false := by
 apply Array.ext
 ·simp [bm]
 ·intro i h1 h2
  simp [bm]
theorem bm_set (n m i : Nat) : (bm n m).setIfInBounds i true = bm n (m ||| 2 ^ i) := by
 apply Array.ext
 ·simp [bm]
 ·intro j h1 h2
  simp only [bm, List.getElem_toArray, List.getElem_map, List.getElem_range, Nat.testBit_or, Nat.testBit_two_pow]
  by_cases h : i = j <;> simp [h]
structure At (is : List Nat) (B : Prop) : Prop where
 go : B
structure QR (c : Nat) (P : Program) (κ : Cx) (e : Env) (L : List Res) (o : Oper) (v : Value) : Prop where
 q : QRun P κ e L o v
structure Hid (A : Prop) : Prop where
 h : A
theorem at0 {A : Prop} (h : Hid A) : At [] A := ⟨h.h⟩
section
variable {P : Program} {κ : Cx} {e : Env} {L : List Res} {o : Oper} {v : Value}
theorem qrc {i : Nat} (c : Nat) (_h : i = c) (q : QRun P κ e L o v) : QR i P κ e L o v := ⟨q⟩
structure SW (P : Program) (κ : Cx) (e : Env) (L : List Res) (o : Oper) (L' : List Res) : Prop where
 go : ∀ {X : Act → World → Prop} (Q : Exit → Act → World → Prop), G κ e L' X → G κ e L (owp κ.ρ P o Q X)
theorem sw_w {ty : TypeId} {s : String} {af : Array Edge} {gd : Option (Nat × Bool)} {T n b T' : Nat} {x y : Operand} {vs c : List Value} {L' : List Res} [ht : Ty P T true n] (hx : ev e x = some (.pointer (some ⟨b, 0, none⟩))) (hy : ev e y = some (.agg vs.toArray))
  (hn : Nat.beq vs.length n = true) (h1 : vs.all Value.oneCell' = true) [_hi : InL L b T' c] (hle : Nat.beq c.length n = true) [hL : UpL L b T' c vs L'] : SW P κ e L ⟨none, .store T x y, ty, s, af, gd⟩ L' := ⟨fun _ h => zL hx hy hn h1 hle h⟩
end
section
variable {is : List Nat} {P : Program} {κ : Cx} {e : Env} {L L0 : List Res} {Z : Act → World → Prop} {C : World → Prop} {Q : Exit → Act → World → Prop} {ops : Array Oper} {rest : List Oper} {T : List Nat} {c i : Nat} {d n m : Nat} {op : Op} {t : TypeId} {s : String} {af : Array Edge} {v : Value} {j : Nat} {b b2 : Bool} {u : Tmp} {id : Nat} {fuel : Nat}
theorem rs0 (h : At is (G κ e L Z)) : At (0 :: is) (G κ e L (wpListIn (FR κ.ρ) 0 P ops (Exit.then Z Q) [])) := ⟨(fun h => g_nil (g_then h)) h.go⟩
theorem rs1 {l : List Oper} {y : Code} (h : At is (G κ e L (wpListIn (FR κ.ρ) 0 P l.toArray (Exit.then (y.wpIn (FR κ.ρ) 0 P Q) Q) l))) : At (1 :: is) (G κ e L ((Code.seq (Code.region id l.toArray false) y).wpIn (FR κ.ρ) 0 P Q)) := ⟨g_seq (g_region h.go)⟩
theorem rsq (h : At is (G κ ((d, v) :: e) L (wpListIn (FR κ.ρ) 0 P ops Q rest))) (hq : QR c P κ e L ⟨some d, op, t, s, af, none⟩ v := by first | exact qrc 2 rfl (q_move rfl) | exact qrc 3 rfl (q_assign rfl) | exact qrc 4 rfl (q_field rfl) | exact qrc 5 rfl (yO rfl rfl) | exact qrc 6 rfl (q_nilck rfl) | exact qrc 40 rfl (q_extract rfl rfl) | exact qrc 41 rfl (q_pick_t rfl rfl) | exact qrc 42 rfl (q_pick_f rfl rfl) | exact qrc 43 rfl (q_inc rfl rfl (by omega)) | exact qrc 44 rfl (q_eql rfl rfl) | exact qrc 45 rfl (yK rfl rfl) | exact qrc 46 rfl (q_lss rfl rfl) | exact qrc 47 rfl (q_len rfl) | exact qrc 48 rfl (q_not rfl) | exact qrc 49 rfl (yH rfl rfl) | exact qrc 50 rfl (q_eqp (b := false) rfl rfl rfl) | exact qrc 51 rfl (q_neq rfl rfl) | exact qrc 52 rfl (q_funcL rfl rfl (fun _ => rfl)) | exact qrc 53 rfl (q_geq rfl rfl) | exact qrc 54 rfl (q_add rfl rfl) | exact qrc 55 rfl (q_gtr rfl rfl) | exact qrc 56 rfl (q_leq rfl rfl) | exact qrc 57 rfl (q_sub rfl rfl) | exact qrc 58 rfl (q_min rfl rfl) | exact qrc 59 rfl (q_max rfl rfl) | exact qrc 60 rfl (q_mul rfl rfl) | exact qrc 61 rfl (q_eqp (b := true) rfl rfl rfl) | exact qrc 62 rfl (q_conv rfl)) (hd : Nat.blt d κ.N = true := by exact rfl) : At (c :: is) (G κ e L (wpListIn (FR κ.ρ) 0 P ops Q (⟨some d, op, t, s, af, none⟩ :: rest))) := ⟨s_q hq.q hd h.go⟩
theorem rs7 (h : At is (G κ e L Z)) : At (7 :: is) (G κ e L (Exit.then Z Q .normal)) := ⟨g_then h.go⟩
theorem rs9 (h : At is (G κ e L (Q .normal))) : At (9 :: is) (G κ e L (wpListIn (FR κ.ρ) 0 P ops Q [])) := ⟨g_nil h.go⟩
theorem rs11 (h : At is (G κ e L (Q .ret))) : At (11 :: is) (G κ e L (Code.ret.wpIn (FR κ.ρ) 0 P Q)) := ⟨g_ret h.go⟩
theorem rs12 (h : At is (G κ e L (Q .normal))) : At (12 :: is) (G κ e L (Code.skip.wpIn (FR κ.ρ) 0 P Q)) := ⟨g_skip h.go⟩
theorem rs13 (h : At is (G κ e L (Q .ret))) : At (13 :: is) (G κ e L (Exit.then Z Q .ret)) := ⟨zD h.go⟩
theorem rs15 (h : At is (G κ e L (Q .normal))) : At (15 :: is) (G κ e L (Exit.inBlock id Q .normal)) := ⟨g_blk_n h.go⟩
theorem rs16 (h : At is (G κ e L (Q (.exit id)))) : At (16 :: is) (G κ e L ((Code.exit id).wpIn (FR κ.ρ) 0 P Q)) := ⟨g_exit h.go⟩
theorem rs17 (h : At is (G κ e L (Q (.exit id)))) : At (17 :: is) (G κ e L (Exit.then Z Q (.exit id))) := ⟨zE h.go⟩
theorem rs18 (h : At is (G κ e L (Q .ret))) : At (18 :: is) (G κ e L (Exit.inBlock id Q .ret)) := ⟨zN h.go⟩
theorem rs8 {x y : Code} (h : At is (G κ e L (x.wpIn (FR κ.ρ) 0 P (Exit.then (y.wpIn (FR κ.ρ) 0 P Q) Q)))) : At (8 :: is) (G κ e L ((Code.seq x y).wpIn (FR κ.ρ) 0 P Q)) := ⟨g_seq h.go⟩
theorem rs10 {l : List Oper} (h : At is (G κ e L (wpListIn (FR κ.ρ) 0 P l.toArray Q l))) : At (10 :: is) (G κ e L ((Code.region id l.toArray false).wpIn (FR κ.ρ) 0 P Q)) := ⟨g_region h.go⟩
theorem rs14 {x : Code} (h : At is (G κ e L (x.wpIn (FR κ.ρ) 0 P (Exit.inBlock id Q)))) : At (14 :: is) (G κ e L ((Code.block id x).wpIn (FR κ.ρ) 0 P Q)) := ⟨g_block h.go⟩
theorem rs19 {x z : Code} {y : Operand} (h : At is (G κ e L (x.wpIn (FR κ.ρ) 0 P Q))) (hb : ev e y = some (.bool true) := by exact rfl) : At (19 :: is) (G κ e L ((Code.cond y x z).wpIn (FR κ.ρ) 0 P Q)) := ⟨g_true hb h.go⟩
theorem rs20 {x z : Code} {y : Operand} (h : At is (G κ e L (z.wpIn (FR κ.ρ) 0 P Q))) (hb : ev e y = some (.bool false) := by exact rfl) : At (20 :: is) (G κ e L ((Code.cond y x z).wpIn (FR κ.ρ) 0 P Q)) := ⟨g_false hb h.go⟩
theorem rs21 (h : At is (G κ ((d, undef) :: e) L (wpListIn (FR κ.ρ) 0 P ops Q rest))) (hj : (ops[j]?).bind (·.dst) = some u := by exact rfl) (hu : look e u = some (.bool b2) := by exact rfl) (hc : (b2 == b) = false := by exact rfl) (hd : Nat.blt d κ.N = true := by exact rfl) : At (21 :: is) (G κ e L (wpListIn (FR κ.ρ) 0 P ops Q (⟨some d, op, t, s, af, some (j, b)⟩ :: rest))) := ⟨g_gf hj hu hc hd h.go⟩
theorem rs22 (h : At is (G κ ((d, v) :: e) L (wpListIn (FR κ.ρ) 0 P ops Q rest))) (hq : QR c P κ e L ⟨some d, op, t, s, af, some (j, b)⟩ v := by first | exact qrc 2 rfl (q_move rfl) | exact qrc 3 rfl (q_assign rfl) | exact qrc 4 rfl (q_field rfl) | exact qrc 5 rfl (yO rfl rfl) | exact qrc 6 rfl (q_nilck rfl) | exact qrc 40 rfl (q_extract rfl rfl) | exact qrc 41 rfl (q_pick_t rfl rfl) | exact qrc 42 rfl (q_pick_f rfl rfl) | exact qrc 43 rfl (q_inc rfl rfl (by omega)) | exact qrc 44 rfl (q_eql rfl rfl) | exact qrc 45 rfl (yK rfl rfl) | exact qrc 46 rfl (q_lss rfl rfl) | exact qrc 47 rfl (q_len rfl) | exact qrc 48 rfl (q_not rfl) | exact qrc 49 rfl (yH rfl rfl) | exact qrc 50 rfl (q_eqp (b := false) rfl rfl rfl) | exact qrc 51 rfl (q_neq rfl rfl) | exact qrc 52 rfl (q_funcL rfl rfl (fun _ => rfl)) | exact qrc 53 rfl (q_geq rfl rfl) | exact qrc 54 rfl (q_add rfl rfl) | exact qrc 55 rfl (q_gtr rfl rfl) | exact qrc 56 rfl (q_leq rfl rfl) | exact qrc 57 rfl (q_sub rfl rfl) | exact qrc 58 rfl (q_min rfl rfl) | exact qrc 59 rfl (q_max rfl rfl) | exact qrc 60 rfl (q_mul rfl rfl) | exact qrc 61 rfl (q_eqp (b := true) rfl rfl rfl) | exact qrc 62 rfl (q_conv rfl)) (hd : Nat.blt d κ.N = true := by exact rfl) (hj : (ops[j]?).bind (·.dst) = some u := by exact rfl) (hu : look e u = some (.bool b) := by exact rfl) : At (22 :: c :: is) (G κ e L (wpListIn (FR κ.ρ) 0 P ops Q (⟨some d, op, t, s, af, some (j, b)⟩ :: rest))) := ⟨s_qg hq.q hd hj hu h.go⟩
theorem rs23 (h : At is (G κ ((d, v) :: e) L (wpAnyC P ops T (Cls κ L0) Q fuel (bm n (m ||| 2 ^ i))))) (hi : ops[i]? = some ⟨some d, op, t, s, af, none⟩ := by exact rfl) (hq : QR c P κ e L0 ⟨some d, op, t, s, af, none⟩ v := by first | exact qrc 2 rfl (q_move rfl) | exact qrc 3 rfl (q_assign rfl) | exact qrc 4 rfl (q_field rfl) | exact qrc 5 rfl (yO rfl rfl) | exact qrc 6 rfl (q_nilck rfl) | exact qrc 40 rfl (q_extract rfl rfl) | exact qrc 41 rfl (q_pick_t rfl rfl) | exact qrc 42 rfl (q_pick_f rfl rfl) | exact qrc 43 rfl (q_inc rfl rfl (by omega)) | exact qrc 44 rfl (q_eql rfl rfl) | exact qrc 45 rfl (yK rfl rfl) | exact qrc 46 rfl (q_lss rfl rfl) | exact qrc 47 rfl (q_len rfl) | exact qrc 48 rfl (q_not rfl) | exact qrc 49 rfl (yH rfl rfl) | exact qrc 50 rfl (q_eqp (b := false) rfl rfl rfl) | exact qrc 51 rfl (q_neq rfl rfl) | exact qrc 52 rfl (q_funcL rfl rfl (fun _ => rfl)) | exact qrc 53 rfl (q_geq rfl rfl) | exact qrc 54 rfl (q_add rfl rfl) | exact qrc 55 rfl (q_gtr rfl rfl) | exact qrc 56 rfl (q_leq rfl rfl) | exact qrc 57 rfl (q_sub rfl rfl) | exact qrc 58 rfl (q_min rfl rfl) | exact qrc 59 rfl (q_max rfl rfl) | exact qrc 60 rfl (q_mul rfl rfl) | exact qrc 61 rfl (q_eqp (b := true) rfl rfl rfl) | exact qrc 62 rfl (q_conv rfl)) (hb : firstB ops T (bm n m) i = true := by kernel_rfl) (hL : ∀ w, WOK κ.S κ.w0 L w → WOK κ.S κ.w0 L0 w := by exact zB) (hd : Nat.blt d κ.N = true := by exact rfl) : At (23 :: i :: c :: is) (G κ e L (wpAnyC P ops T (Cls κ L0) Q (fuel + 1) (bm n m))) := ⟨d_q i hi hb hq.q hL hd (bm_set n m i) h.go⟩
theorem rs24 (h : At is (G κ ((d, v) :: e) L (wpAnyC P ops T C Q fuel (bm n (m ||| 2 ^ i))))) (hi : ops[i]? = some ⟨some d, op, t, s, af, none⟩ := by exact rfl) (hq : ∀ κ' : Cx, QR c P κ' e [] ⟨some d, op, t, s, af, none⟩ v := by intro _; first | exact qrc 2 rfl (q_move rfl) | exact qrc 3 rfl (q_assign rfl) | exact qrc 4 rfl (q_field rfl) | exact qrc 5 rfl (yO rfl rfl) | exact qrc 6 rfl (q_nilck rfl) | exact qrc 40 rfl (q_extract rfl rfl) | exact qrc 41 rfl (q_pick_t rfl rfl) | exact qrc 42 rfl (q_pick_f rfl rfl) | exact qrc 43 rfl (q_inc rfl rfl (by omega)) | exact qrc 44 rfl (q_eql rfl rfl) | exact qrc 45 rfl (yK rfl rfl) | exact qrc 46 rfl (q_lss rfl rfl) | exact qrc 47 rfl (q_len rfl) | exact qrc 48 rfl (q_not rfl) | exact qrc 49 rfl (yH rfl rfl) | exact qrc 50 rfl (q_eqp (b := false) rfl rfl rfl) | exact qrc 51 rfl (q_neq rfl rfl) | exact qrc 52 rfl (q_funcL rfl rfl (fun _ => rfl)) | exact qrc 53 rfl (q_geq rfl rfl) | exact qrc 54 rfl (q_add rfl rfl) | exact qrc 55 rfl (q_gtr rfl rfl) | exact qrc 56 rfl (q_leq rfl rfl) | exact qrc 57 rfl (q_sub rfl rfl) | exact qrc 58 rfl (q_min rfl rfl) | exact qrc 59 rfl (q_max rfl rfl) | exact qrc 60 rfl (q_mul rfl rfl) | exact qrc 61 rfl (q_eqp (b := true) rfl rfl rfl) | exact qrc 62 rfl (q_conv rfl)) (hb : firstP ops T (bm n m) i = true := by kernel_rfl) (hd : Nat.blt d κ.N = true := by exact rfl) : At (24 :: i :: c :: is) (G κ e L (wpAnyC P ops T C Q (fuel + 1) (bm n m))) := ⟨d_p i hi hb (fun k => (hq k).q) hd (bm_set n m i) h.go⟩
theorem rs25 (h : At is (G κ ((d, undef) :: e) L (wpAnyC P ops T (Cls κ L0) Q fuel (bm n (m ||| 2 ^ i))))) (hi : ops[i]? = some ⟨some d, op, t, s, af, some (j, b)⟩ := by exact rfl) (hj : (ops[j]?).bind (·.dst) = some u := by exact rfl) (hu : look e u = some (.bool b2) := by exact rfl) (hc : (b2 == b) = false := by exact rfl) (hb : firstB ops T (bm n m) i = true := by kernel_rfl) (hL : ∀ w, WOK κ.S κ.w0 L w → WOK κ.S κ.w0 L0 w := by exact zB) (hd : Nat.blt d κ.N = true := by exact rfl) : At (25 :: i :: is) (G κ e L (wpAnyC P ops T (Cls κ L0) Q (fuel + 1) (bm n m))) := ⟨d_gf i hi hb hj hu hc hL hd (bm_set n m i) h.go⟩
theorem rs26 (h : At is (G κ ((d, v) :: e) L (wpAnyC P ops T (Cls κ L0) Q fuel (bm n (m ||| 2 ^ i))))) (hi : ops[i]? = some ⟨some d, op, t, s, af, some (j, b)⟩ := by exact rfl) (hq : QR c P κ e L0 ⟨some d, op, t, s, af, some (j, b)⟩ v := by first | exact qrc 2 rfl (q_move rfl) | exact qrc 3 rfl (q_assign rfl) | exact qrc 4 rfl (q_field rfl) | exact qrc 5 rfl (yO rfl rfl) | exact qrc 6 rfl (q_nilck rfl) | exact qrc 40 rfl (q_extract rfl rfl) | exact qrc 41 rfl (q_pick_t rfl rfl) | exact qrc 42 rfl (q_pick_f rfl rfl) | exact qrc 43 rfl (q_inc rfl rfl (by omega)) | exact qrc 44 rfl (q_eql rfl rfl) | exact qrc 45 rfl (yK rfl rfl) | exact qrc 46 rfl (q_lss rfl rfl) | exact qrc 47 rfl (q_len rfl) | exact qrc 48 rfl (q_not rfl) | exact qrc 49 rfl (yH rfl rfl) | exact qrc 50 rfl (q_eqp (b := false) rfl rfl rfl) | exact qrc 51 rfl (q_neq rfl rfl) | exact qrc 52 rfl (q_funcL rfl rfl (fun _ => rfl)) | exact qrc 53 rfl (q_geq rfl rfl) | exact qrc 54 rfl (q_add rfl rfl) | exact qrc 55 rfl (q_gtr rfl rfl) | exact qrc 56 rfl (q_leq rfl rfl) | exact qrc 57 rfl (q_sub rfl rfl) | exact qrc 58 rfl (q_min rfl rfl) | exact qrc 59 rfl (q_max rfl rfl) | exact qrc 60 rfl (q_mul rfl rfl) | exact qrc 61 rfl (q_eqp (b := true) rfl rfl rfl) | exact qrc 62 rfl (q_conv rfl)) (hj : (ops[j]?).bind (·.dst) = some u := by exact rfl) (hu : look e u = some (.bool b) := by exact rfl)(hb : firstB ops T (bm n m) i = true := by kernel_rfl) (hL : ∀ w, WOK κ.S κ.w0 L w → WOK κ.S κ.w0 L0 w := by exact zB) (hd : Nat.blt d κ.N = true := by exact rfl) : At (26 :: i :: c :: is) (G κ e L (wpAnyC P ops T (Cls κ L0) Q (fuel + 1) (bm n m))) := ⟨d_qg i hi hb hq.q hj hu hL hd (bm_set n m i) h.go⟩
theorem rs27 (h : At is (G κ e L (Q .normal))) (hr : Region.ready .any ops (bm n m) = [] := by kernel_rfl) (hL : ∀ w, WOK κ.S κ.w0 L w → WOK κ.S κ.w0 L0 w := by exact zB)  : At (27 :: is) (G κ e L (wpAnyC P ops T (Cls κ L0) Q 0 (bm n m))) := ⟨d_end hr (.inr hL) h.go⟩
theorem rs28 (h : At is (G κ e L (Q .normal))) (hr : Region.ready .any ops (bm n m) = [] := by kernel_rfl) (ht : T.any (fun t => (bm n m).getD t false) = true := by kernel_rfl) : At (28 :: is) (G κ e L (wpAnyC P ops T (Cls κ L0) Q 0 (bm n m))) := ⟨d_end hr (.inl ht) h.go⟩
theorem rs33 {T9 : Nat} {x y : Operand} {L' : List Res} (h : At is (G κ e L' (wpListIn (FR κ.ρ) 0 P ops Q rest))) (hs : SW P κ e L ⟨none, .store T9 x y, t, s, af, none⟩ L' := by exact sw_w rfl rfl rfl rfl rfl) : At (33 :: is) (G κ e L (wpListIn (FR κ.ρ) 0 P ops Q (⟨none, .store T9 x y, t, s, af, none⟩ :: rest))) := ⟨g_op (hs.go Q h.go)⟩
theorem dq (i : Nat) (hi : ops[i]? = some ⟨some d, op, t, s, af, none⟩) (hq : QRun P κ e L0 ⟨some d, op, t, s, af, none⟩ v) (h : G κ ((d, v) :: e) L (wpAnyC P ops T (Cls κ L0) Q fuel (bm n (m ||| 2 ^ i)))) (hb : firstB ops T (bm n m) i = true := by kernel_rfl) (hL : ∀ w, WOK κ.S κ.w0 L w → WOK κ.S κ.w0 L0 w := by exact zB) (hd : Nat.blt d κ.N = true := by exact rfl) : G κ e L (wpAnyC P ops T (Cls κ L0) Q (fuel + 1) (bm n m)) := d_q i hi hb hq hL hd (bm_set n m i) h
theorem dp (i : Nat) (hi : ops[i]? = some ⟨some d, op, t, s, af, none⟩) (hq : ∀ κ' : Cx, QRun P κ' e [] ⟨some d, op, t, s, af, none⟩ v) (h : G κ ((d, v) :: e) L (wpAnyC P ops T C Q fuel (bm n (m ||| 2 ^ i)))) (hb : firstP ops T (bm n m) i = true := by kernel_rfl) (hd : Nat.blt d κ.N = true := by exact rfl) : G κ e L (wpAnyC P ops T C Q (fuel + 1) (bm n m)) := d_p i hi hb hq hd (bm_set n m i) h
theorem dop {od : Option Nat} (i : Nat) (hi : ops[i]? = some ⟨od, op, t, s, af, none⟩) (h : G κ e L (owp none P ⟨od, op, t, s, af, none⟩ (onlyN Q) (wpAnyC P ops T (Cls κ L0) Q fuel (bm n (m ||| 2 ^ i))))) (hr : Region.ready .any ops (bm n m) = [i] := by kernel_rfl) (hL : ∀ w, WOK κ.S κ.w0 L w → WOK κ.S κ.w0 L0 w := by exact zB)  : G κ e L (wpAnyC P ops T (Cls κ L0) Q (fuel + 1) (bm n m)) := d_op i hi hr (bm_set n m i) hL h
theorem dtail {od : Option Nat} (i : Nat) (hi : ops[i]? = some ⟨od, op, t, s, af, none⟩) (h : G κ e L (owp none P ⟨od, op, t, s, af, none⟩ (onlyN Q) (wpAnyC P ops T (Cls κ L0) Q fuel (bm n (m ||| 2 ^ i))))) (hr : Region.ready .any ops (bm n m) = [i] := by kernel_rfl) (ht : T.any (fun t => (bm n m).getD t false) = true := by kernel_rfl) : G κ e L (wpAnyC P ops T (Cls κ L0) Q (fuel + 1) (bm n m)) := d_tail i hi hr (bm_set n m i) ht h
theorem dpick {K : Array Bool → Act → World → Prop} {od : Option Nat} (hi : ops[i]? = some ⟨od, op, t, s, af, none⟩) (h : G κ e L (owp none P ⟨od, op, t, s, af, none⟩ (onlyN Q) (K (bm n (m ||| 2 ^ i))))) : Pick P ops Q κ e L K (bm n m) i := d_pick hi (bm_set n m i) h
theorem dls (N M : Nat) {ls : Array Bool} (h : G κ e L (wpAnyC P ops T C Q fuel (bm N M))) (hl : bm N M = ls := by kernel_rfl) : G κ e L (wpAnyC P ops T C Q fuel ls) := hl ▸ h
theorem dreg (T : List Nat) (hm : P.follows .mixedOrders = true) (hn : ops.size = n) (h : G κ e L (wpAnyC P ops T (Cls κ L) Q n (bm n 0))) : G κ e L ((Code.region id ops true).wpIn (FR none) 0 P Q) := d_region T hm hn (bm_zero n).symm h
theorem dregL (T : List Nat) (hm : P.follows .mixedOrders = true) (hn : ops.size = n) (hL : ∀ w, WOK κ.S κ.w0 L w → WOK κ.S κ.w0 L0 w) (h : G κ e L (wpAnyC P ops T (Cls κ L0) Q n (bm n 0))) : G κ e L ((Code.region id ops true).wpIn (FR none) 0 P Q) := d_regionL T hm hn (bm_zero n).symm hL h
end
theorem rn (is : List Nat) {A B : Prop} (k : A) (h : Hid A → At is B := by intro hA; repeat (first | exact at0 hA | refine rs0 ?_ | refine rs1 ?_ | refine rsq ?_ | refine rs33 ?_ | refine rs7 ?_ | refine rs11 ?_ | refine rs15 ?_ | refine rs13 ?_ | refine rs8 ?_ | refine rs9 ?_ | refine rs10 ?_ | refine rs23 ?_ | refine rs12 ?_ | refine rs14 ?_ | refine rs16 ?_ | refine rs17 ?_ | refine rs18 ?_ | refine rs19 ?_ | refine rs20 ?_ | refine rs21 ?_ | refine rs22 ?_ | refine rs24 ?_ | refine rs27 ?_ | refine rs28 ?_ | refine rs25 ?_ | refine rs26 ?_ | refine rs29 ?_)) : B := (h ⟨k⟩).go
abbrev W0 (L : List Res) (w : World) : Prop := WOK (fps L) w L w
theorem g_st {P : Program} {f : FuncId} {fn : Func} {c : Code} {args : List Value} {w : World} {R : Value → World → Prop} {S : List Nat} {L : List Res} (hf : P.funcs[f]? = some fn) (n : Nat) (hL : WOK S w L w)
 (h : G ⟨S, w, n, [], none⟩ (argEnv args) L (c.wpIn (FR none) 0 P (bodyPost P fn fun en w' => ∃ v, en = .returned v ∧ R v w'))) (hb : fn.body = some c := by exact rfl) (hn : fn.ntmps = n := by exact rfl) (hle : args.length ≤ n := by simp) : Ret P f args w R := g_start hf hb n hn hle S L hL _ rfl h
theorem g_ag {κ : Cx} {e : Env} {L : List Res} {Q : Exit → Act → World → Prop} {ι : Type} {E : ι → Env} {R : ι → List Res} {p : ι → Prop} {μ : ι → Nat} {x : ι} (y : ι) (hp : p y) (hμ : μ y < μ x := by first | omega | (simp only; omega)) (he : subE (E y) e := by repeat (first | exact trivial | refine ⟨rfl, ?_⟩)) (hL : ∀ w, WOK κ.S κ.w0 L w → WOK κ.S κ.w0 (R y) w := by exact zB) : G κ e L (Exit.then (Round κ E R p μ x) Q .normal) := g_again y hp hμ he hL
theorem g_lk {P : Program} {κ : Cx} {e : Env} {L : List Res} {Q : Exit → Act → World → Prop} {ι : Type} {c : Code} (ks : List Nat) (E : ι → Env) (R : ι → List Res) (p : ι → Prop) (μ : ι → Nat) (x0 : ι) (h0 : p x0)
 (round : ∀ x, p x → G κ (E x ++ pickE e ks) (R x) (c.wpIn (FR κ.ρ) 0 P (Exit.then (Round κ (fun x => E x ++ pickE e ks) R p μ x) Q))) (he : subE (E x0) e := by repeat (first | exact trivial | refine ⟨rfl, ?_⟩)) (hL : ∀ w, WOK κ.S κ.w0 L w → WOK κ.S κ.w0 (R x0) w := by exact zB) : G κ e L ((Code.loop c).wpIn (FR κ.ρ) 0 P Q) := g_loopk ks E R p μ x0 h0 rfl he hL round
def Jn {ι : Type} (κ : Cx) (E : ι → Env) (R : ι → List Res) (Q : Exit → Act → World → Prop) : Exit → Act → World → Prop
 | .normal, a, w => ∃ x, St κ (E x) (R x) a w
 | ex, a, w => Q ex a w
theorem anyC_monoQ {P : Program} {ops : Array Oper} {Q Q' : Exit → Act → World → Prop} {C : World → Prop} {T : List Nat} (h : ∀ a w, Q' .normal a w → Q .normal a w) : ∀ (fuel : Nat) (ls : Array Bool) (a : Act) (w : World), wpAnyC P ops T C Q' fuel ls a w → wpAnyC P ops T C Q fuel ls a w
 | 0, _, _, _, k => ⟨k.1, k.2.1, h _ _ k.2.2⟩
 | fuel + 1, _, _, _, k => ⟨k.1, fun e => h _ _ (k.2.1 e), fun i hi => wpOp_monoQ (fun ex a w hq => by cases ex <;> first | exact h _ _ hq | exact hq.elim) (wpOpIn_mono (fun a w => anyC_monoQ h fuel _ a w) (k.2.2 i hi))⟩
theorem dj {P : Program} {κ : Cx} {e : Env} {L : List Res} {ops : Array Oper} {Q : Exit → Act → World → Prop} {C : World → Prop} {T : List Nat} {fuel : Nat} {ls : Array Bool} {ι : Type} (ks : List Nat) (E : ι → Env) (R : ι → List Res)
 (h : G κ e L (wpAnyC P ops T C (Jn κ (fun x => E x ++ pickE e ks) R Q) fuel ls)) (hK : ∀ x, G κ (E x ++ pickE e ks) (R x) (Q .normal)) : G κ e L (wpAnyC P ops T C Q fuel ls) := fun a w hs => anyC_monoQ (fun a w ⟨x, hx⟩ => hK x a w hx) fuel ls a w (h a w hs)
theorem g_jn {κ : Cx} {e : Env} {L : List Res} {Q : Exit → Act → World → Prop} {ι : Type} {E : ι → Env} {R : ι → List Res} (y : ι) (he : subE (E y) e := by repeat (first | exact trivial | refine ⟨rfl, ?_⟩)) (hL : ∀ w, WOK κ.S κ.w0 L w → WOK κ.S κ.w0 (R y) w := by exact zB) : G κ e L (Jn κ E R Q .normal) := fun _ _ hs => ⟨y, hs.sub he hL⟩
theorem ii {κ : Cx} {e : Env} {L Lin Lr Ln L' L'' : List Res} {X : Act → World → Prop} [hs : Swap L Lin Lr L'] [ha : App Ln L' L''] (h : G κ e L'' X) : ∃ L' L'', Swap L Lin Lr L' ∧ App Ln L' L'' ∧ G κ e L'' X := ⟨L', L'', hs, ha, h⟩
end Go.Eg
namespace Go.Proofs.YtdddiilocbbkkaaGreat
open Go.RowKit Go.Eg
set_option maxHeartbeats 4000000
set_option synthInstance.maxSize 3000
set_option maxRecDepth 100000
structure V where
 bal : Int
 st : Int
 sl : Bool
 rq : Int
 ex : Int
 wd : Int
 dl : Int
 deriving DecidableEq
def V.c (x : V) : List Value := [.int .u64 x.bal, .int .i64 x.st, .bool x.sl, .int .i64 x.rq, .int .i64 x.ex, .int .i64 x.wd, .int .i64 x.dl]
def V.v (x : V) : Value := .agg x.c.toArray
structure V.ok (x : V) : Prop where
 bal : 0 ≤ x.bal ∧ x.bal ≤ 18446744073709551615
 st : -9223372036854775808 ≤ x.st ∧ x.st ≤ 9223372036854775807
 rq : -9223372036854775808 ≤ x.rq ∧ x.rq ≤ 9223372036854775807
 ex : -9223372036854775808 ≤ x.ex ∧ x.ex ≤ 9223372036854775807
 wd : -9223372036854775808 ≤ x.wd ∧ x.wd ≤ 9223372036854775807
 dl : -9223372036854775808 ≤ x.dl ∧ x.dl ≤ 9223372036854775807
theorem V.ext_iff' (x y : V) : x = y ↔ (x.bal = y.bal ∧ x.st = y.st ∧ x.sl = y.sl ∧ x.rq = y.rq ∧ x.ex = y.ex ∧ x.wd = y.wd ∧ x.dl = y.dl) := by
 cases x; cases y; simp
structure C where
 capa : Int
 qsize : Int
 mind : Int
 maxd : Int
 supc : Int
 minb : Int
 maxb : Int
 minch : Int
 quot : Int
 fcap : Int
 unb : Int
 sld : Int
 rlen : Int
 elen : Int
 vis : Int
 pays : Int
 parts : Int
 merg : Int
 pnum : Int
 pden : Int
 deriving DecidableEq
def C.c (x : C) : List Value := [.int .i64 x.capa, .int .i64 x.qsize, .int .u64 x.mind, .int .u64 x.maxd, .int .u64 x.supc, .int .u64 x.minb, .int .u64 x.maxb, .int .u64 x.minch, .int .u64 x.quot, .int .u64 x.fcap, .int .i64 x.unb, .int .i64 x.sld, .int .i64 x.rlen, .int .i64 x.elen, .int .i64 x.vis, .int .i64 x.pays, .int .i64 x.parts, .int .i64 x.merg, .int .u64 x.pnum, .int .u64 x.pden]
def C.v (x : C) : Value := .agg x.c.toArray
structure C.ok (x : C) : Prop where
 capa : -9223372036854775808 ≤ x.capa ∧ x.capa ≤ 9223372036854775807
 qsize : -9223372036854775808 ≤ x.qsize ∧ x.qsize ≤ 9223372036854775807
 mind : 0 ≤ x.mind ∧ x.mind ≤ 18446744073709551615
 maxd : 0 ≤ x.maxd ∧ x.maxd ≤ 18446744073709551615
 supc : 0 ≤ x.supc ∧ x.supc ≤ 18446744073709551615
 minb : 0 ≤ x.minb ∧ x.minb ≤ 18446744073709551615
 maxb : 0 ≤ x.maxb ∧ x.maxb ≤ 18446744073709551615
 minch : 0 ≤ x.minch ∧ x.minch ≤ 18446744073709551615
 quot : 0 ≤ x.quot ∧ x.quot ≤ 18446744073709551615
 fcap : 0 ≤ x.fcap ∧ x.fcap ≤ 18446744073709551615
 unb : -9223372036854775808 ≤ x.unb ∧ x.unb ≤ 9223372036854775807
 sld : -9223372036854775808 ≤ x.sld ∧ x.sld ≤ 9223372036854775807
 rlen : -9223372036854775808 ≤ x.rlen ∧ x.rlen ≤ 9223372036854775807
 elen : -9223372036854775808 ≤ x.elen ∧ x.elen ≤ 9223372036854775807
 vis : -9223372036854775808 ≤ x.vis ∧ x.vis ≤ 9223372036854775807
 pays : -9223372036854775808 ≤ x.pays ∧ x.pays ≤ 9223372036854775807
 parts : -9223372036854775808 ≤ x.parts ∧ x.parts ≤ 9223372036854775807
 merg : -9223372036854775808 ≤ x.merg ∧ x.merg ≤ 9223372036854775807
 pnum : 0 ≤ x.pnum ∧ x.pnum ≤ 18446744073709551615
 pden : 0 ≤ x.pden ∧ x.pden ≤ 18446744073709551615
theorem openC {w : World} (f : Nat) (cs : List Value) (h : OKc Tryz.prog w f 24 cs) : ∃ x : C, cs = x.c ∧ x.ok := by
 obtain ⟨f, hl, h⟩ := OKc.struct Tryz.underlying24 h
 have hT : Tryz.prog.cellsOf 24 = 20 := by kernel_rfl
 have hc3 : Tryz.prog.cellsOf 3 = 1 := by kernel_rfl
 have hc22 : Tryz.prog.cellsOf 22 = 1 := by kernel_rfl
 rw [hT] at hl
 obtain ⟨c0, c1, c2, c3, c4, c5, c6, c7, c8, c9, c10, c11, c12, c13, c14, c15, c16, c17, c18, c19, rfl⟩ : ∃ c0 c1 c2 c3 c4 c5 c6 c7 c8 c9 c10 c11 c12 c13 c14 c15 c16 c17 c18 c19 : Value, cs = [c0, c1, c2, c3, c4, c5, c6, c7, c8, c9, c10, c11, c12, c13, c14, c15, c16, c17, c18, c19] := by
  match cs, hl with
  | [c0, c1, c2, c3, c4, c5, c6, c7, c8, c9, c10, c11, c12, c13, c14, c15, c16, c17, c18, c19], _ => exact ⟨_, _, _, _, _, _, _, _, _, _, _, _, _, _, _, _, _, _, _, _, rfl⟩
 simp only [List.mem_cons, List.not_mem_nil, or_false, forall_eq_or_imp, forall_eq, hc3, hc22, List.drop_zero, List.drop_succ_cons, List.take_succ_cons, List.take_zero] at h
 obtain ⟨h0, h1, h2, h3, h4, h5, h6, h7, h8, h9, h10, h11, h12, h13, h14, h15, h16, h17, h18, h19⟩ := h
 obtain ⟨x0, e0, r0⟩ := OKc.int Tryz.underlying3 h0
 obtain rfl : c0 = _ := by simpa using e0
 obtain ⟨x1, e1, r1⟩ := OKc.int Tryz.underlying3 h1
 obtain rfl : c1 = _ := by simpa using e1
 obtain ⟨x2, e2, r2⟩ := OKc.int Tryz.underlying22 h2
 obtain rfl : c2 = _ := by simpa using e2
 obtain ⟨x3, e3, r3⟩ := OKc.int Tryz.underlying22 h3
 obtain rfl : c3 = _ := by simpa using e3
 obtain ⟨x4, e4, r4⟩ := OKc.int Tryz.underlying22 h4
 obtain rfl : c4 = _ := by simpa using e4
 obtain ⟨x5, e5, r5⟩ := OKc.int Tryz.underlying22 h5
 obtain rfl : c5 = _ := by simpa using e5
 obtain ⟨x6, e6, r6⟩ := OKc.int Tryz.underlying22 h6
 obtain rfl : c6 = _ := by simpa using e6
 obtain ⟨x7, e7, r7⟩ := OKc.int Tryz.underlying22 h7
 obtain rfl : c7 = _ := by simpa using e7
 obtain ⟨x8, e8, r8⟩ := OKc.int Tryz.underlying22 h8
 obtain rfl : c8 = _ := by simpa using e8
 obtain ⟨x9, e9, r9⟩ := OKc.int Tryz.underlying22 h9
 obtain rfl : c9 = _ := by simpa using e9
 obtain ⟨x10, e10, r10⟩ := OKc.int Tryz.underlying3 h10
 obtain rfl : c10 = _ := by simpa using e10
 obtain ⟨x11, e11, r11⟩ := OKc.int Tryz.underlying3 h11
 obtain rfl : c11 = _ := by simpa using e11
 obtain ⟨x12, e12, r12⟩ := OKc.int Tryz.underlying3 h12
 obtain rfl : c12 = _ := by simpa using e12
 obtain ⟨x13, e13, r13⟩ := OKc.int Tryz.underlying3 h13
 obtain rfl : c13 = _ := by simpa using e13
 obtain ⟨x14, e14, r14⟩ := OKc.int Tryz.underlying3 h14
 obtain rfl : c14 = _ := by simpa using e14
 obtain ⟨x15, e15, r15⟩ := OKc.int Tryz.underlying3 h15
 obtain rfl : c15 = _ := by simpa using e15
 obtain ⟨x16, e16, r16⟩ := OKc.int Tryz.underlying3 h16
 obtain rfl : c16 = _ := by simpa using e16
 obtain ⟨x17, e17, r17⟩ := OKc.int Tryz.underlying3 h17
 obtain rfl : c17 = _ := by simpa using e17
 obtain ⟨x18, e18, r18⟩ := OKc.int Tryz.underlying22 h18
 obtain rfl : c18 = _ := by simpa using e18
 obtain ⟨x19, e19, r19⟩ := OKc.int Tryz.underlying22 h19
 obtain rfl : c19 = _ := by simpa using e19
 exact ⟨⟨x0, x1, x2, x3, x4, x5, x6, x7, x8, x9, x10, x11, x12, x13, x14, x15, x16, x17, x18, x19⟩, rfl, ⟨r0, r1, r2, r3, r4, r5, r6, r7, r8, r9, r10, r11, r12, r13, r14, r15, r16, r17, r18, r19⟩⟩
structure Op where
 k : Int
 i : Int
 t : Int
 a : Int
 deriving DecidableEq
def Op.c (x : Op) : List Value := [.int .i64 x.k, .int .i64 x.i, .int .i64 x.t, .int .u64 x.a]
structure Op.ok (x : Op) : Prop where
 k : -9223372036854775808 ≤ x.k ∧ x.k ≤ 9223372036854775807
 i : -9223372036854775808 ≤ x.i ∧ x.i ≤ 9223372036854775807
 t : -9223372036854775808 ≤ x.t ∧ x.t ≤ 9223372036854775807
 a : 0 ≤ x.a ∧ x.a ≤ 18446744073709551615
theorem Op.ext_iff' (x y : Op) : x = y ↔ (x.k = y.k ∧ x.i = y.i ∧ x.t = y.t ∧ x.a = y.a) := by
 cases x; cases y; simp
theorem openOp {w : World} (f : Nat) (cs : List Value) (h : OKc Tryz.prog w f 35 cs) : ∃ x : Op, cs = x.c ∧ x.ok := by
 obtain ⟨f, hl, h⟩ := OKc.struct Tryz.underlying35 h
 have hT : Tryz.prog.cellsOf 35 = 4 := by kernel_rfl
 have hc3 : Tryz.prog.cellsOf 3 = 1 := by kernel_rfl
 have hc22 : Tryz.prog.cellsOf 22 = 1 := by kernel_rfl
 rw [hT] at hl
 obtain ⟨c0, c1, c2, c3, rfl⟩ : ∃ c0 c1 c2 c3 : Value, cs = [c0, c1, c2, c3] := by
  match cs, hl with
  | [c0, c1, c2, c3], _ => exact ⟨_, _, _, _, rfl⟩
 simp only [List.mem_cons, List.not_mem_nil, or_false, forall_eq_or_imp, forall_eq, hc3, hc22, List.drop_zero, List.drop_succ_cons, List.take_succ_cons, List.take_zero] at h
 obtain ⟨h0, h1, h2, h3⟩ := h
 obtain ⟨x0, e0, r0⟩ := OKc.int Tryz.underlying3 h0
 obtain rfl : c0 = _ := by simpa using e0
 obtain ⟨x1, e1, r1⟩ := OKc.int Tryz.underlying3 h1
 obtain rfl : c1 = _ := by simpa using e1
 obtain ⟨x2, e2, r2⟩ := OKc.int Tryz.underlying3 h2
 obtain rfl : c2 = _ := by simpa using e2
 obtain ⟨x3, e3, r3⟩ := OKc.int Tryz.underlying22 h3
 obtain rfl : c3 = _ := by simpa using e3
 exact ⟨⟨x0, x1, x2, x3⟩, rfl, ⟨r0, r1, r2, r3⟩⟩
structure En where
 e : Int
 i : Int
 deriving DecidableEq
def En.c (x : En) : List Value := [.int .i64 x.e, .int .i64 x.i]
structure Rq where
 i : Int
 m : Int
 deriving DecidableEq
def Rq.c (x : Rq) : List Value := [.int .i64 x.i, .int .u64 x.m]
structure PP where
 a : Int
 b : Int
def PP.c (x : PP) : List Value := [.int .i64 x.a, .int .i64 x.b]
def dflt : C := ⟨16, 8, 16, 64, 1024, 8, 128, 32, 4, 64, 2, 5, 4, 4, 6, 4, 2, 2, 1, 4⟩
theorem dflt_any  (w : World) : Pur Tryz.prog 30 [] w (dflt.v) := by
 refine g_st Tryz.func30 2 (WOK.start [] _) ?_
 refine rn [1] ?_
 refine g_op (zI rfl fun b0 => ?_)
 refine rn [0,1] ?_
 refine s_q (yH (c := dflt.c) rfl rfl) rfl ?_
 refine rn [33,0,11] ?_
 exact fin1 rfl (.cellw rfl rfl) (fun w' hw => ⟨by rfl, hw.upd⟩) _ (.inl rfl)
def btw (n lo hi : Int) : Bool := decide (lo ≤ n) && decide (n ≤ hi)
def rightB (c : C) (i : Int) : Bool :=
 if i = 1 then btw c.capa 1 4096 else if i = 2 then btw c.qsize 1 4096 else if i = 3 then decide (1 ≤ c.mind) else if i = 4 then decide (c.mind ≤ c.maxd)
 else if i = 5 then decide (c.maxd ≤ c.supc) && decide (c.supc ≤ 1152921504606846976) else if i = 6 then decide (1 ≤ c.minb) && decide (c.minb ≤ c.mind)
 else if i = 7 then decide (c.maxd ≤ c.maxb) && decide (c.maxb ≤ c.supc) else if i = 8 then decide (1 ≤ c.minch) && decide (c.minch ≤ 1152921504606846976)
 else if i = 9 then decide (1 ≤ c.quot) else if i = 10 then decide (c.fcap ≤ 1152921504606846976) else if i = 11 then btw c.unb 1 1048576
 else if i = 12 then decide (c.unb < c.sld) && decide (c.sld ≤ 1048576) else if i = 13 then btw c.rlen 1 4096 else if i = 14 then btw c.elen 1 4096
 else if i = 15 then btw c.vis 1 4096 else if i = 16 then btw c.pays 1 4096 else if i = 17 then decide (0 ≤ c.parts) && (decide (c.parts < c.vis) && decide (c.parts < c.pays))
 else if i = 18 then btw c.merg 0 4096 else if i = 19 then decide (c.pnum ≤ c.pden) else decide (1 ≤ c.pden) && decide (c.pden ≤ 4294967296)
def chkF (c : C) : Nat → Nat → Int
 | 0, _ => 0
 | f + 1, i => if rightB c i then chkF c f (i + 1) else i
def chk (c : C) : Int := chkF c 20 1
theorem chkF_right {c : C} : ∀ {f i : Nat}, chkF c f i = 0 → 0 < i → ∀ j, i ≤ j → j < i + f → rightB c j = true
 | 0, i, _, _, j, h1, h2 => by omega
 | f + 1, i, h, hi, j, h1, h2 => by
  unfold chkF at h
  split at h
  ·by_cases hj : j = i
   ·subst hj; assumption
   ·exact chkF_right h (by omega) j (by omega) (by omega)
  ·omega
theorem zU {c : C} (h : chk c = 0) (j : Nat) (h1 : 1 ≤ j) (h2 : j ≤ 20) : rightB c j = true := chkF_right h (by omega) j h1 (by omega)
theorem btw_any (n lo hi : Int) (w : World) : Pur Tryz.prog 140 [.int .i64 n, .int .i64 lo, .int .i64 hi] w (.bool (btw n lo hi)) := by
 refine g_st Tryz.func140 15 (WOK.start [] _) ?_
 refine rn [1,3,0,1,2,2,56,2] ?_
 refine zV 10 rfl (fun h1 => ?_) (fun h1 => ?_)
 ·refine rn [22,2,22,2,22,56,41,3,0,11] ?_
  exact fin1 rfl (.tmp rfl) (fun w' hw => ⟨by first | rfl | (simp_all [btw]; done) | (simp_all [btw]; omega) | (simp_all [btw] <;> intros <;> omega), hw.upd⟩) _ (.inl rfl)
 ·refine rn [21,21,21,42,3,0,11] ?_
  exact fin1 rfl (.tmp rfl) (fun w' hw => ⟨by first | rfl | (simp_all [btw]; done) | (simp_all [btw]; omega) | (simp_all [btw] <;> intros <;> omega), hw.upd⟩) _ (.inl rfl)
theorem right_any (c : C) (i : Int) (w : World) : Pur Tryz.prog 85 [c.v, .int .i64 i] w (.bool (rightB c i)) := by
 refine g_st Tryz.func85 166 (WOK.start [] _) ?_
 refine rn [1] ?_
 refine g_op (g_box rfl rfl rfl fun b2 => ?_)
 refine rn [3,0,1,3,0,8,1,2,0,14,1,44,3,0] ?_
 refine zC rfl (fun h1 => ?_) (fun h1 => ?_)
 ·refine rn [1,4,5] ?_
  refine g_op (zG rfl (fun w hw => btw_any _ _ _ w) rfl ?_)
  refine rn [3,0,11] ?_
  refine zN (zD ?_)
  exact fin1 rfl (.tmp rfl) (fun w' hw => ⟨by first | rfl | (simp_all [rightB]; done) | (simp_all [rightB]; omega) | (simp_all [rightB] <;> intros <;> omega), hw.upd⟩) _ (.inl rfl)
 ·refine rn [1,44,3,0] ?_
  refine zC rfl (fun h2 => ?_) (fun h2 => ?_)
  ·refine rn [1,4,5] ?_
   refine g_op (zG rfl (fun w hw => btw_any _ _ _ w) rfl ?_)
   refine rn [3,0,11] ?_
   refine zN (zD ?_)
   exact fin1 rfl (.tmp rfl) (fun w' hw => ⟨by first | rfl | (simp_all [rightB]; done) | (simp_all [rightB]; omega) | (simp_all [rightB] <;> intros <;> omega), hw.upd⟩) _ (.inl rfl)
  ·refine rn [1,44,3,0] ?_
   refine zC rfl (fun h3 => ?_) (fun h3 => ?_)
   ·refine rn [1,4,5,53,3,0,11] ?_
    refine zN (zD ?_)
    exact fin1 rfl (.tmp rfl) (fun w' hw => ⟨by first | rfl | (simp_all [rightB]; done) | (simp_all [rightB]; omega) | (simp_all [rightB] <;> intros <;> omega), hw.upd⟩) _ (.inl rfl)
   ·refine rn [1,44,3,0] ?_
    refine zC rfl (fun h4 => ?_) (fun h4 => ?_)
    ·refine rn [1,4,5,4,5,53,3,0,11] ?_
     refine zN (zD ?_)
     exact fin1 rfl (.tmp rfl) (fun w' hw => ⟨by first | rfl | (simp_all [rightB]; done) | (simp_all [rightB]; omega) | (simp_all [rightB] <;> intros <;> omega), hw.upd⟩) _ (.inl rfl)
    ·refine rn [1,44,3,0] ?_
     refine zC rfl (fun h5 => ?_) (fun h5 => ?_)
     ·refine rn [1,4,5,4,5,53,2] ?_
      refine zV 36 rfl (fun h6 => ?_) (fun h6 => ?_)
      ·refine rn [22,4,22,5,22,2,22,56,41,3,0,11] ?_
       refine zN (zD ?_)
       exact fin1 rfl (.tmp rfl) (fun w' hw => ⟨by first | rfl | (simp_all [rightB]; done) | (simp_all [rightB]; omega) | (simp_all [rightB] <;> intros <;> omega), hw.upd⟩) _ (.inl rfl)
      ·refine rn [21,21,21,21,42,3,0,11] ?_
       refine zN (zD ?_)
       exact fin1 rfl (.tmp rfl) (fun w' hw => ⟨by first | rfl | (simp_all [rightB]; done) | (simp_all [rightB]; omega) | (simp_all [rightB] <;> intros <;> omega), hw.upd⟩) _ (.inl rfl)
     ·refine rn [1,44,3,0] ?_
      refine zC rfl (fun h7 => ?_) (fun h7 => ?_)
      ·refine rn [1,4,5,53,2] ?_
       refine zV 47 rfl (fun h8 => ?_) (fun h8 => ?_)
       ·refine rn [22,4,22,5,22,4,22,5,22,56,41,3,0,11] ?_
        refine zN (zD ?_)
        exact fin1 rfl (.tmp rfl) (fun w' hw => ⟨by first | rfl | (simp_all [rightB]; done) | (simp_all [rightB]; omega) | (simp_all [rightB] <;> intros <;> omega), hw.upd⟩) _ (.inl rfl)
       ·refine rn [21,21,21,21,21,42,3,0,11] ?_
        refine zN (zD ?_)
        exact fin1 rfl (.tmp rfl) (fun w' hw => ⟨by first | rfl | (simp_all [rightB]; done) | (simp_all [rightB]; omega) | (simp_all [rightB] <;> intros <;> omega), hw.upd⟩) _ (.inl rfl)
      ·refine rn [1,44,3,0] ?_
       refine zC rfl (fun h9 => ?_) (fun h9 => ?_)
       ·refine rn [1,4,5,4,5,53,2] ?_
        refine zV 61 rfl (fun h10 => ?_) (fun h10 => ?_)
        ·refine rn [22,4,22,5,22,4,22,5,22,56,41,3,0,11] ?_
         refine zN (zD ?_)
         exact fin1 rfl (.tmp rfl) (fun w' hw => ⟨by first | rfl | (simp_all [rightB]; done) | (simp_all [rightB]; omega) | (simp_all [rightB] <;> intros <;> omega), hw.upd⟩) _ (.inl rfl)
        ·refine rn [21,21,21,21,21,42,3,0,11] ?_
         refine zN (zD ?_)
         exact fin1 rfl (.tmp rfl) (fun w' hw => ⟨by first | rfl | (simp_all [rightB]; done) | (simp_all [rightB]; omega) | (simp_all [rightB] <;> intros <;> omega), hw.upd⟩) _ (.inl rfl)
       ·refine rn [1,44,3,0] ?_
        refine zC rfl (fun h11 => ?_) (fun h11 => ?_)
        ·refine rn [1,4,5,53,2] ?_
         refine zV 73 rfl (fun h12 => ?_) (fun h12 => ?_)
         ·refine rn [22,4,22,5,22,2,22,56,41,3,0,11] ?_
          refine zN (zD ?_)
          exact fin1 rfl (.tmp rfl) (fun w' hw => ⟨by first | rfl | (simp_all [rightB]; done) | (simp_all [rightB]; omega) | (simp_all [rightB] <;> intros <;> omega), hw.upd⟩) _ (.inl rfl)
         ·refine rn [21,21,21,21,42,3,0,11] ?_
          refine zN (zD ?_)
          exact fin1 rfl (.tmp rfl) (fun w' hw => ⟨by first | rfl | (simp_all [rightB]; done) | (simp_all [rightB]; omega) | (simp_all [rightB] <;> intros <;> omega), hw.upd⟩) _ (.inl rfl)
        ·refine rn [1,44,3,0] ?_
         refine zC rfl (fun h13 => ?_) (fun h13 => ?_)
         ·refine rn [1,4,5,53,3,0,11] ?_
          refine zN (zD ?_)
          exact fin1 rfl (.tmp rfl) (fun w' hw => ⟨by first | rfl | (simp_all [rightB]; done) | (simp_all [rightB]; omega) | (simp_all [rightB] <;> intros <;> omega), hw.upd⟩) _ (.inl rfl)
         ·refine rn [1,44,3,0] ?_
          refine zC rfl (fun h14 => ?_) (fun h14 => ?_)
          ·refine rn [1,4,5,2,56,3,0,11] ?_
           refine zN (zD ?_)
           exact fin1 rfl (.tmp rfl) (fun w' hw => ⟨by first | rfl | (simp_all [rightB]; done) | (simp_all [rightB]; omega) | (simp_all [rightB] <;> intros <;> omega), hw.upd⟩) _ (.inl rfl)
          ·refine rn [1,44,3,0] ?_
           refine zC rfl (fun h15 => ?_) (fun h15 => ?_)
           ·refine rn [1,4,5] ?_
            refine g_op (zG rfl (fun w hw => btw_any _ _ _ w) rfl ?_)
            refine rn [3,0,11] ?_
            refine zN (zD ?_)
            exact fin1 rfl (.tmp rfl) (fun w' hw => ⟨by first | rfl | (simp_all [rightB]; done) | (simp_all [rightB]; omega) | (simp_all [rightB] <;> intros <;> omega), hw.upd⟩) _ (.inl rfl)
           ·refine rn [1,44,3,0] ?_
            refine zC rfl (fun h16 => ?_) (fun h16 => ?_)
            ·refine rn [1,4,5,4,5,55,2] ?_
             refine zV 102 rfl (fun h17 => ?_) (fun h17 => ?_)
             ·refine rn [22,4,22,5,22,56,41,3,0,11] ?_
              refine zN (zD ?_)
              exact fin1 rfl (.tmp rfl) (fun w' hw => ⟨by first | rfl | (simp_all [rightB]; done) | (simp_all [rightB]; omega) | (simp_all [rightB] <;> intros <;> omega), hw.upd⟩) _ (.inl rfl)
             ·refine rn [21,21,21,42,3,0,11] ?_
              refine zN (zD ?_)
              exact fin1 rfl (.tmp rfl) (fun w' hw => ⟨by first | rfl | (simp_all [rightB]; done) | (simp_all [rightB]; omega) | (simp_all [rightB] <;> intros <;> omega), hw.upd⟩) _ (.inl rfl)
            ·refine rn [1,44,3,0] ?_
             refine zC rfl (fun h18 => ?_) (fun h18 => ?_)
             ·refine rn [1,4,5] ?_
              refine g_op (zG rfl (fun w hw => btw_any _ _ _ w) rfl ?_)
              refine rn [3,0,11] ?_
              refine zN (zD ?_)
              exact fin1 rfl (.tmp rfl) (fun w' hw => ⟨by first | rfl | (simp_all [rightB]; done) | (simp_all [rightB]; omega) | (simp_all [rightB] <;> intros <;> omega), hw.upd⟩) _ (.inl rfl)
             ·refine rn [1,44,3,0] ?_
              refine zC rfl (fun h19 => ?_) (fun h19 => ?_)
              ·refine rn [1,4,5] ?_
               refine g_op (zG rfl (fun w hw => btw_any _ _ _ w) rfl ?_)
               refine rn [3,0,11] ?_
               refine zN (zD ?_)
               exact fin1 rfl (.tmp rfl) (fun w' hw => ⟨by first | rfl | (simp_all [rightB]; done) | (simp_all [rightB]; omega) | (simp_all [rightB] <;> intros <;> omega), hw.upd⟩) _ (.inl rfl)
              ·refine rn [1,44,3,0] ?_
               refine zC rfl (fun h20 => ?_) (fun h20 => ?_)
               ·refine rn [1,4,5] ?_
                refine g_op (zG rfl (fun w hw => btw_any _ _ _ w) rfl ?_)
                refine rn [3,0,11] ?_
                refine zN (zD ?_)
                exact fin1 rfl (.tmp rfl) (fun w' hw => ⟨by first | rfl | (simp_all [rightB]; done) | (simp_all [rightB]; omega) | (simp_all [rightB] <;> intros <;> omega), hw.upd⟩) _ (.inl rfl)
               ·refine rn [1,44,3,0] ?_
                refine zC rfl (fun h21 => ?_) (fun h21 => ?_)
                ·refine rn [1,4,5] ?_
                 refine g_op (zG rfl (fun w hw => btw_any _ _ _ w) rfl ?_)
                 refine rn [3,0,11] ?_
                 refine zN (zD ?_)
                 exact fin1 rfl (.tmp rfl) (fun w' hw => ⟨by first | rfl | (simp_all [rightB]; done) | (simp_all [rightB]; omega) | (simp_all [rightB] <;> intros <;> omega), hw.upd⟩) _ (.inl rfl)
                ·refine rn [1,44,3,0] ?_
                 refine zC rfl (fun h22 => ?_) (fun h22 => ?_)
                 ·refine rn [1,4,5,53,2] ?_
                  refine zV 132 rfl (fun h23 => ?_) (fun h23 => ?_)
                  ·refine rn [22,4,22,5,22,4,22,5,22,46,41,2] ?_
                   refine zV 139 rfl (fun h24 => ?_) (fun h24 => ?_)
                   ·refine rn [22,4,22,5,22,4,22,5,22,46,41,3,0,11] ?_
                    refine zN (zD ?_)
                    exact fin1 rfl (.tmp rfl) (fun w' hw => ⟨by first | rfl | (simp_all [rightB]; done) | (simp_all [rightB]; omega) | (simp_all [rightB] <;> intros <;> omega), hw.upd⟩) _ (.inl rfl)
                   ·refine rn [21,21,21,21,21,42,3,0,11] ?_
                    refine zN (zD ?_)
                    exact fin1 rfl (.tmp rfl) (fun w' hw => ⟨by first | rfl | (simp_all [rightB]; done) | (simp_all [rightB]; omega) | (simp_all [rightB] <;> intros <;> omega), hw.upd⟩) _ (.inl rfl)
                  ·refine rn [21,21,21,21,21,42,2,21,21,21,21,21,42,3,0,11] ?_
                   refine zN (zD ?_)
                   exact fin1 rfl (.tmp rfl) (fun w' hw => ⟨by first | rfl | (simp_all [rightB]; done) | (simp_all [rightB]; omega) | (simp_all [rightB] <;> intros <;> omega), hw.upd⟩) _ (.inl rfl)
                 ·refine rn [1,44,3,0] ?_
                  refine zC rfl (fun h25 => ?_) (fun h25 => ?_)
                  ·refine rn [1,4,5] ?_
                   refine g_op (zG rfl (fun w hw => btw_any _ _ _ w) rfl ?_)
                   refine rn [3,0,11] ?_
                   refine zN (zD ?_)
                   exact fin1 rfl (.tmp rfl) (fun w' hw => ⟨by first | rfl | (simp_all [rightB]; done) | (simp_all [rightB]; omega) | (simp_all [rightB] <;> intros <;> omega), hw.upd⟩) _ (.inl rfl)
                  ·refine rn [1,44,3,0] ?_
                   refine zC rfl (fun h26 => ?_) (fun h26 => ?_)
                   ·refine rn [1,4,5,4,5,56,3,0,11] ?_
                    refine zN (zD ?_)
                    exact fin1 rfl (.tmp rfl) (fun w' hw => ⟨by first | rfl | (simp_all [rightB]; done) | (simp_all [rightB]; omega) | (simp_all [rightB] <;> intros <;> omega), hw.upd⟩) _ (.inl rfl)
                   ·refine rn [12,15,7,1,4,5,53,2] ?_
                    refine zV 161 rfl (fun h27 => ?_) (fun h27 => ?_)
                    ·refine rn [22,4,22,5,22,56,41,3,0,11] ?_
                     exact fin1 rfl (.tmp rfl) (fun w' hw => ⟨by first | rfl | (simp_all [rightB]; done) | (simp_all [rightB]; omega) | (simp_all [rightB] <;> intros <;> omega), hw.upd⟩) _ (.inl rfl)
                    ·refine rn [21,21,21,42,3,0,11] ?_
                     exact fin1 rfl (.tmp rfl) (fun w' hw => ⟨by first | rfl | (simp_all [rightB]; done) | (simp_all [rightB]; omega) | (simp_all [rightB] <;> intros <;> omega), hw.upd⟩) _ (.inl rfl)
theorem chk_any (c : C) (w : World) : Pur Tryz.prog 29 [c.v] w (.int .i64 (chk c)) := by
 refine g_st Tryz.func29 13 (WOK.start [] _) ?_
 refine rn [1] ?_
 refine g_op (g_box rfl rfl rfl fun b1 => ?_)
 refine rn [3,0,8,1,3,0,14] ?_
 refine g_loopk [1] (fun (i : Nat) => [(3, .int .i64 (i : Int))]) (fun _ => [Res.blk b1 24 c.c]) (fun i => 1 ≤ i ∧ i ≤ 21 ∧ chk c = chkF c (21 - i) i) (fun i => 21 - i) 1 ⟨by omega, by omega, rfl⟩ rfl ⟨rfl, trivial⟩ wok_id ?_
 rintro i ⟨hi1, hi2, hi3⟩
 refine rn [8,1,2,56,0] ?_
 refine zC rfl (fun h1 => ?_) (fun h1 => ?_)
 ·refine rn [12,7,8,14,1,45,2] ?_
  refine g_op (zG rfl (fun w hw => right_any _ _ w) rfl ?_)
  refine rn [48,0] ?_
  refine zC rfl (fun h2 => ?_) (fun h2 => ?_)
  ·refine rn [1,2,3,0,11] ?_
   refine zN (zD (zD (zN (zD ?_))))
   exact fin1 rfl (.tmp rfl) (fun w' hw => ⟨by rw [hi3, show 21 - i = (21 - (i + 1)) + 1 by simp_all; omega, chkF]; simp_all, hw.upd⟩) _ (.inl rfl)
  ·refine rn [12,15,7,10,2,43,3,9] ?_
   exact g_again (i + 1) ⟨by omega, by simp_all; omega, by rw [hi3, show 21 - i = (21 - (i + 1)) + 1 by simp_all; omega, chkF]; simp_all⟩ (by simp_all; omega) ⟨rfl, rfl, trivial⟩ wok_id
 ·refine rn [16] ?_
  refine zE (zE (zQ ?_))
  refine rn [7,1,3,0,11] ?_
  exact fin1 rfl (.tmp rfl) (fun w' hw => ⟨by rw [hi3, show 21 - i = 0 by simp_all; omega]; rfl, hw.upd⟩) _ (.inl rfl)
def addB (l : List Int) : Bool := decide (l.sum ≤ 18446744073709551615)
def addV (l : List Int) : Int := if l.sum ≤ 18446744073709551615 then l.sum else 0
def okU (l : List Int) : Prop := ∀ x ∈ l, 0 ≤ x ∧ x ≤ 18446744073709551615
theorem sum_nn : ∀ {l : List Int}, (∀ x ∈ l, 0 ≤ x) → 0 ≤ l.sum
 | [], _ => by simp
 | x :: l, h => by
  have := sum_nn (l := l) fun y hy => h y (by simp [hy])
  have := h x (by simp)
  simp only [List.sum_cons]; omega
theorem sum_take {l : List Int} (h : okU l) {k : Nat} (hk : k < l.length) : (l.take (k + 1)).sum = (l.take k).sum + l[k] ∧ 0 ≤ (l.take k).sum ∧ 0 ≤ l[k] ∧ l[k] ≤ 18446744073709551615 := by
 have h1 := h l[k] (List.getElem_mem _)
 refine ⟨?_, sum_nn fun x hx => (h x (List.mem_of_mem_take hx)).1, h1.1, h1.2⟩
 rw [← List.take_append_getElem hk, List.sum_append]; simp
theorem sum_le {l : List Int} (h : okU l) (k : Nat) : (l.take k).sum ≤ l.sum := by
 have e : l.sum = (l.take k).sum + (l.drop k).sum := by rw [← List.sum_append, List.take_append_drop]
 have := sum_nn (l := l.drop k) fun x hx => (h x (List.mem_of_mem_drop hx)).1
 omega
theorem add_over {l : List Int} (h : okU l) {k : Nat} (hk : 18446744073709551615 < (l.take k).sum) : addB l = false ∧ addV l = 0 := by
 have := sum_le h k
 refine ⟨decide_eq_false (by omega), if_neg (by omega)⟩
theorem add_fits {l : List Int} (h : l.sum ≤ 18446744073709551615) : addB l = true ∧ addV l = l.sum := ⟨decide_eq_true h, if_pos h⟩
theorem sat_any (A : Option Addr) (n cap : Nat) (l : List Int) (w : World) (ha : Old w A n 1 (l.map (fun v : Int => [Value.int .u64 v]))) (hl : okU l) (hb : n ≤ 1000000) : Pur Tryz.prog 241 [.slice A n cap] w (.tuple [.int .u64 (if l.sum ≤ 18446744073709551615 then l.sum else 18446744073709551615), .bool (!addB l)].toArray) := by
 refine g_st Tryz.func241 23 (WOK.start [] _) ?_
 have hn : n = l.length := by simpa using ha.len
 refine rn [1,3,3,0,1,3,0,8,1,2,47,2,0,14] ?_
 refine g_lk [2, 3, 7, 8] (fun (x : Nat) => [(4, .int .u64 ((l.take x).sum)), (9, .int .i64 ((x : Nat) : Int))]) (fun (x : Nat) => []) (fun (x : Nat) => x ≤ n ∧ (l.take x).sum ≤ 18446744073709551615) (fun (x : Nat) => n - x) 0 (by (try dsimp only); exact ⟨Nat.zero_le _, (by simp)⟩) ?_
 rintro k ⟨le_k, hs⟩
 replace le_k : k ≤ n := le_k
 replace hs : (l.take k).sum ≤ 18446744073709551615 := hs
 refine rn [1,46,0,8] ?_
 refine zC rfl (fun h1 => ?_) (fun h1 => ?_)
 ·have lt_k : k < n := by have h9 := of_decide_eq_true h1; omega
  refine rn [12,7,8,14,1] ?_
  refine s_q (zR (i := k) rfl rfl rfl (ha.rdb rfl) (by first | exact lt_k | omega)) rfl ?_
  refine s_q (yL (i := k) (o := 0) rfl (ha.rdb rfl) (zS (by first | assumption | omega)) rfl rfl) rfl ?_
  refine rn [3,0,8,1,2,2,54,2,46,0] ?_
  refine zC rfl (fun h2 => ?_) (fun h2 => ?_)
  ·refine rn [1,3,3,0,11] ?_
   refine zD (zN (zD (zD (zN (zD ?_)))))
   exact fin2 rfl (.tmp rfl) (.tmp rfl) (fun w' hw' => ⟨by have h9 := sum_take hl (k := k) (by omega); have h8 : 18446744073709551615 < (l.take (k + 1)).sum := (by simp at h2; rw [IntKind.wrap_u64] at h2; omega); have h7 := add_over hl h8; have h6 := sum_le hl (k + 1); rw [h7.1, if_neg (by omega)]; rfl, hw'.upd⟩) _ (.inl rfl)
  ·refine rn [12,7,10,2,2] ?_
   refine s_q (yM (z := (l.take (k + 1)).sum) rfl rfl (by have h9 := sum_take hl (k := k) (by omega); simp at h2; rw [IntKind.wrap_u64] at h2 ⊢; omega)) rfl ?_
   refine rn [3,9,15,7,10,43,2,9] ?_
   exact g_ag (k + 1) (by (try dsimp only); exact ⟨(by first | exact lt_k | omega), (by have := sum_take hl (k := k) (by omega); simp at h2; rw [IntKind.wrap_u64] at h2; omega)⟩)
 ·have eq_k : k = n := by have h9 := of_decide_eq_false h1; omega
  refine rn [16] ?_
  refine zE (zE (zQ ?_))
  refine rn [7,1,2,3,3,0,11] ?_
  exact fin2 rfl (.tmp rfl) (.tmp rfl) (fun w' hw' => ⟨by have e8 : l.take k = l := (by rw [eq_k, hn, List.take_length]); rw [e8] at hs ⊢; have h7 := add_fits hs; rw [h7.1, if_pos hs]; rfl, hw'.upd⟩) _ (.inl rfl)
theorem add_any (A : Option Addr) (n cap : Nat) (l : List Int) (w : World) (ha : Old w A n 1 (l.map (fun v : Int => [Value.int .u64 v]))) (hl : okU l) (hb : n ≤ 1000000) : Pur Tryz.prog 163 [.slice A n cap] w (.tuple [.int .u64 (addV l), .bool (addB l)].toArray) := by
 refine g_st Tryz.func163 13 (WOK.start [] _) ?_
 have hn : n = l.length := by simpa using ha.len
 refine rn [1,3,3,0,1,2] ?_
 refine g_op (zG rfl (fun w1 hw1 => sat_any A (n) (cap) (l) w1 (Rdb.toOld (ha.rdb rfl) hw1) (by first | assumption | (intro x hx; simp at hx; first | (rcases hx with rfl | rfl <;> omega) | (rcases hx with rfl | rfl | rfl <;> omega) | (subst hx; omega))) (by first | omega | (simp; omega) | (simp; done))) rfl ?_)
 refine rn [2,40,40,3,3,0,8,1,2,0] ?_
 refine zC rfl (fun h1 => ?_) (fun h1 => ?_)
 ·refine rn [1,3,3,0,11,13] ?_
  exact fin2 rfl (.tmp rfl) (.tmp rfl) (fun w' hw' => ⟨by simp [addB] at h1; simp [addB, addV]; omega, hw'.upd⟩) _ (.inl rfl)
 ·refine rn [12,7,1,2,3,3,0,11] ?_
  exact fin2 rfl (.tmp rfl) (.tmp rfl) (fun w' hw' => ⟨by simp [addB] at h1; simp [addB, addV, h1], hw'.upd⟩) _ (.inl rfl)
def ceilB (d : Int) : Bool := !decide (d = 0)
def ceilV (a d : Int) : Int := if d = 0 then 0 else if a = 0 then 0 else (a - 1) / d + 1
def epoB (a d : Int) : Bool := !decide (d = 0) && decide (ceilV a d ≤ 1099511627776)
def epoV (a d : Int) : Int := if epoB a d then ceilV a d else 0
def U64 (x : Int) : Prop := 0 ≤ x ∧ x ≤ 18446744073709551615
theorem ceil_bd {a d : Int} (ha : U64 a) (hd : U64 d) : 0 ≤ ceilV a d ∧ ceilV a d ≤ 18446744073709551615 := by
 unfold U64 at *
 unfold ceilV
 split
 ·omega
 ·split
  ·omega
  ·have h1 : 0 < d := by omega
   have h2 : 0 ≤ (a - 1) / d := Int.ediv_nonneg (by omega) (by omega)
   have h3 : (a - 1) / d ≤ a - 1 := Int.ediv_le_self _ (by omega)
   omega
def latB (l : List Int) : Bool := decide ((∀ x ∈ l, 0 ≤ x) ∧ l.sum ≤ 1099511627776)
def latV (l : List Int) : Int := if latB l then l.sum else 0
theorem lat_not {l : List Int} {k : Nat} (hk : k < l.length) (hs : ∀ x ∈ l.take k, 0 ≤ x) (h : l[k] < 0 ∨ 1099511627776 - (l.take k).sum < l[k]) : latB l = false := by
 unfold latB
 refine decide_eq_false fun hc => ?_
 have hk0 := hc.1 l[k] (List.getElem_mem _)
 have e : l.sum = (l.take (k + 1)).sum + (l.drop (k + 1)).sum := by rw [← List.sum_append, List.take_append_drop]
 have e2 : (l.take (k + 1)).sum = (l.take k).sum + l[k] := by rw [← List.take_append_getElem hk, List.sum_append]; simp
 have := sum_nn (l := l.drop (k + 1)) fun x hx => hc.1 x (List.mem_of_mem_drop hx)
 omega
theorem lat_succ {l : List Int} {k : Nat} (hk : k < l.length) (h1 : ∀ x ∈ l.take k, 0 ≤ x) (h2 : 0 ≤ l[k]) : (∀ x ∈ l.take (k + 1), 0 ≤ x) ∧ (l.take (k + 1)).sum = (l.take k).sum + l[k] ∧ 0 ≤ (l.take k).sum := by
 refine ⟨?_, ?_, sum_nn h1⟩
 ·rw [← List.take_append_getElem hk]
  intro x hx
  rcases List.mem_append.1 hx with hx | hx
  ·exact h1 x hx
  ·simp at hx; omega
 ·rw [← List.take_append_getElem hk, List.sum_append]; simp
def I64 (x : Int) : Prop := -9223372036854775808 ≤ x ∧ x ≤ 9223372036854775807
theorem ceil_any (a d : Int) (w : World) (ha : U64 a) (hd : U64 d) : Pur Tryz.prog 80 [.int .u64 a, .int .u64 d] w (.tuple [.int .u64 (ceilV a d), .bool (ceilB d)].toArray) := by
 refine g_st Tryz.func80 17 (WOK.start [] _) ?_
 refine rn [1,3,3,0,8,14,1,2,44,3,0] ?_
 refine zC rfl (fun h1 => ?_) (fun h1 => ?_)
 ·refine rn [1,3,3,0,11] ?_
  refine zN (zD ?_)
  exact fin2 rfl (.tmp rfl) (.tmp rfl) (fun w' hw' => ⟨by simp at h1; simp [ceilV, ceilB, h1], hw'.upd⟩) _ (.inl rfl)
 ·refine rn [1,2,44,3,0] ?_
  refine zC rfl (fun h2 => ?_) (fun h2 => ?_)
  ·refine rn [1,3,3,0,11] ?_
   refine zN (zD ?_)
   exact fin2 rfl (.tmp rfl) (.tmp rfl) (fun w' hw' => ⟨by simp at h1 h2; simp [ceilV, ceilB, h1, h2], hw'.upd⟩) _ (.inl rfl)
  ·refine rn [12,15,7,1,2] ?_
   refine s_q (yY (z := a - 1) rfl rfl (by unfold U64 at *; simp at h1 h2; rw [IntKind.wrap_u64]; omega)) rfl ?_
   refine rn [2] ?_
   refine s_q (q_quo rfl rfl (by simpa using h1)) rfl ?_
   refine g_val 15 (v' := .int .u64 ((a - 1) / d)) rfl (by unfold U64 at *; simp at h1 h2; have e1 : (a - 1).tdiv d = (a - 1) / d := Int.tdiv_eq_ediv_of_nonneg (by omega); have e2 : 0 ≤ (a - 1) / d := Int.ediv_nonneg (by omega) (by omega); have e3 : (a - 1) / d ≤ a - 1 := Int.ediv_le_self _ (by omega); rw [e1, wu64 e2 (by omega)]) ?_
   refine s_q (yM (z := (a - 1) / d + 1) rfl rfl (by unfold U64 at *; simp at h1 h2; have e2 : 0 ≤ (a - 1) / d := Int.ediv_nonneg (by omega) (by omega); have e3 : (a - 1) / d ≤ a - 1 := Int.ediv_le_self _ (by omega); rw [wu64 (by omega) (by omega)])) rfl ?_
   refine rn [3,3,0,11] ?_
   exact fin2 rfl (.tmp rfl) (.tmp rfl) (fun w' hw' => ⟨by simp at h1 h2; simp [ceilV, ceilB, h1, h2], hw'.upd⟩) _ (.inl rfl)
theorem epo_any (a d : Int) (w : World) (ha : U64 a) (hd : U64 d) : Pur Tryz.prog 25 [.int .u64 a, .int .u64 d] w (.tuple [.int .i64 (epoV a d), .bool (epoB a d)].toArray) := by
 refine g_st Tryz.func25 22 (WOK.start [] _) ?_
 refine rn [1,3,3,0,1,2,2] ?_
 refine g_op (zG rfl (fun w1 hw1 => ceil_any _ _ w1 ha hd) rfl ?_)
 refine rn [2,40,40,3,3,0,8,1,2,48,2] ?_
 refine zV 16 rfl (fun h1 => ?_) (fun h1 => ?_)
 ·refine rn [21,21,41,0,19,1,3,3,0,11,13] ?_
  exact fin2 rfl (.tmp rfl) (.tmp rfl) (fun w' hw' => ⟨by first | (simp_all [epoV, epoB, ceilB]; done) | (simp_all [epoV, epoB, ceilB]; omega), hw'.upd⟩) _ (.inl rfl)
 ·refine rn [22,2,22,55,42,0] ?_
  refine zC rfl (fun h2 => ?_) (fun h2 => ?_)
  ·refine rn [1,3,3,0,11,13] ?_
   exact fin2 rfl (.tmp rfl) (.tmp rfl) (fun w' hw' => ⟨by first | (simp_all [epoV, epoB, ceilB]; done) | (simp_all [epoV, epoB, ceilB]; omega), hw'.upd⟩) _ (.inl rfl)
  ·refine rn [12,7,1,2] ?_
   refine s_q (yQ (z := ceilV a d) rfl (by have h0 := ceil_bd ha hd; simp [ceilB] at h1; simp at h2; rw [wi64 (by omega) (by omega)])) rfl ?_
   refine rn [3,3,0,11] ?_
   exact fin2 rfl (.tmp rfl) (.tmp rfl) (fun w' hw' => ⟨by first | (simp_all [epoV, epoB, ceilB]; done) | (simp_all [epoV, epoB, ceilB]; omega), hw'.upd⟩) _ (.inl rfl)
theorem later_any (e : Int) (A : Option Addr) (n cap : Nat) (l : List Int) (w : World) (he : I64 e) (hl : Rd w [] A n 1 (l.map (fun v : Int => [Value.int .i64 v]))) (hok : ∀ x ∈ l, I64 x) (hb : n ≤ 1000) : Keep Tryz.prog 244 [.int .i64 e, .slice A n cap] w [] (.tuple [.int .i64 (latV (e :: l)), .bool (latB (e :: l))].toArray) := by
 refine g_st Tryz.func244 31 (WOK.start (fps []) _) ?_
 have hn : n = l.length := by simpa using hl.old.len
 refine rn [1,3,3,0,1,3,0,8,1,2] ?_
 refine g_op (g_lit rfl rfl rfl rfl rfl fun b10 => ?_)
 refine zJ (b := b10) ((([e] : List Int).map (fun v : Int => [Value.int .i64 v])).flatten) rfl ?_
 refine rn [2] ?_
 refine g_blkRow (b := b10) 1 1 (([e] : List Int).map (fun v : Int => [Value.int .i64 v])) (zM (c := (fun v : Int => [Value.int .i64 v])) (fun _ => rfl) _) rfl rfl (by decide) ?_
 refine g_op (zY (A := (some ⟨b10, 0, none⟩)) (els := (([e] : List Int)).map (fun v : Int => [Value.int .i64 v])) (news := ((l).map (fun v : Int => [Value.int .i64 v]))) rfl rfl hl.rdb (yG (c := (fun v : Int => [Value.int .i64 v])) (by intro x; simp [Value.oneCell']) _) (by first | omega | (simp; omega) | (simp_all; omega)) rfl fun A12 cap12 => ⟨_, inferInstance, ?_⟩)
 refine zF (A := A12) (((([e] : List Int) ++ l)).map (fun v : Int => [Value.int .i64 v])) (by first | rfl | exact List.map_append.symm | (simp; done)) ?_
 refine zF (A := A12) ((e :: l).map (fun v : Int => [Value.int .i64 v])) (by simp) ?_
 refine yC (A := A12) (e :: l).length (by simp; omega) ?_
 refine g_val 12 (v' := .slice A12 (e :: l).length cap12) rfl (by first | rfl | (simp [hn]; omega) | (simp; omega)) ?_
 refine rn [47,2,0,14] ?_
 refine g_lk [4, 5, 12, 13] (fun (x : Nat) => [(6, .int .i64 (((e :: l).take x).sum)), (14, .int .i64 ((x : Nat) : Int))]) (fun (x : Nat) => [Res.row A12 (e :: l).length cap12 3 1 ((e :: l).map (fun v : Int => [Value.int .i64 v]))]) (fun (x : Nat) => x ≤ (e :: l).length ∧ (∀ y ∈ (e :: l).take x, 0 ≤ y) ∧ ((e :: l).take x).sum ≤ 1099511627776) (fun (x : Nat) => (e :: l).length - x) 0 (by (try dsimp only); exact ⟨Nat.zero_le _, (by simp), (by simp)⟩) ?_
 rintro k ⟨le_k, hs, ht⟩
 replace le_k : k ≤ (e :: l).length := le_k
 replace hs : ∀ y ∈ (e :: l).take k, 0 ≤ y := hs
 replace ht : ((e :: l).take k).sum ≤ 1099511627776 := ht
 refine rn [1,46,0,8] ?_
 refine zC rfl (fun h1 => ?_) (fun h1 => ?_)
 ·have lt_k : k < (e :: l).length := by have h9 := of_decide_eq_true h1; omega
  have hx : I64 ((e :: l)[k]) := by
    have hm : (e :: l)[k] ∈ (e :: l) := List.getElem_mem _
    rcases List.mem_cons.1 hm with h | h
    · rw [h]; exact he
    · exact hok _ h
  unfold I64 at hx
  have h8 : (e :: l).length ≤ 1001 := by simp; omega
  have hs9 := sum_nn hs
  refine rn [12,7,8,14,1] ?_
  refine s_q (zR (i := k) rfl rfl rfl (InRow.rdb (A := A12) (els := ((e :: l)).map (fun v : Int => [Value.int .i64 v])) (by first | rfl | assumption | (simp; done) | (simp_all; done) | (simp; omega) | (simp_all; omega)) (zM (c := (fun v : Int => [Value.int .i64 v])) (fun _ => rfl) _)) (by first | exact lt_k | omega)) rfl ?_
  refine s_q (yL (i := k) (o := 0) rfl (InRow.rdb (A := A12) (els := ((e :: l)).map (fun v : Int => [Value.int .i64 v])) (by first | rfl | assumption | (simp; done) | (simp_all; done) | (simp; omega) | (simp_all; omega)) (zM (c := (fun v : Int => [Value.int .i64 v])) (fun _ => rfl) _)) (zS (by first | assumption | omega | (simp_all; done) | (simp_all; omega))) rfl rfl) rfl ?_
  refine rn [3,0,8,1,2,46,2] ?_
  refine zV 20 rfl (fun h2 => ?_) (fun h2 => ?_)
  ·refine rn [21,21,21,21,41,0,19,1,3,3,0,11] ?_
   refine zD (zN (zD (zD (zN (zD ?_)))))
   exact fin2 rfl (.tmp rfl) (.tmp rfl) (fun w' hw' => ⟨(), trivial, by have h7 := lat_not lt_k hs (.inl (by simpa using h2)); rw [latV, h7]; rfl, zA w' hw'⟩) _ (.inl rfl)
  ·refine rn [22,2,22,2] ?_
   refine s_qg (yY (z := 1099511627776 - ((e :: l).take k).sum) rfl rfl (by rw [wi64 (by omega) (by omega)])) rfl rfl rfl ?_
   refine rn [22,55,42,0] ?_
   refine zC rfl (fun h3 => ?_) (fun h3 => ?_)
   ·refine rn [1,3,3,0,11] ?_
    refine zD (zN (zD (zD (zN (zD ?_)))))
    exact fin2 rfl (.tmp rfl) (.tmp rfl) (fun w' hw' => ⟨(), trivial, by have h7 := lat_not lt_k hs (.inr (by simp at h3; omega)); rw [latV, h7]; rfl, zA w' hw'⟩) _ (.inl rfl)
   ·refine rn [12,7,10,2,2] ?_
    refine s_q (yM (z := ((e :: l).take (k + 1)).sum) rfl rfl (by have h9 := lat_succ lt_k hs (by simpa using h2); simp at h3; rw [wi64 (by omega) (by omega)]; omega)) rfl ?_
    refine rn [3,9,15,7,10,43,2,9] ?_
    exact g_ag (k + 1) (by (try dsimp only); exact ⟨(by first | exact lt_k | omega), (lat_succ lt_k hs (by simpa using h2)).1, (by have h9 := lat_succ lt_k hs (by simpa using h2); simp at h3; omega)⟩)
 ·have eq_k : k = (e :: l).length := by have h9 := of_decide_eq_false h1; omega
  refine rn [16] ?_
  refine zE (zE (zQ ?_))
  refine rn [7,1,2,3,3,0,11] ?_
  exact fin2 rfl (.tmp rfl) (.tmp rfl) (fun w' hw' => ⟨(), trivial, by rw [eq_k, List.take_length] at hs ht ⊢; have h7 : latB (e :: l) = true := decide_eq_true ⟨hs, ht⟩; rw [latV, h7]; rfl, zA w' hw'⟩) _ (.inl rfl)
structure Cok (c : C) : Prop where
 capa : 1 ≤ c.capa ∧ c.capa ≤ 4096
 minch : 1 ≤ c.minch ∧ c.minch ≤ 1152921504606846976
 fcap : 0 ≤ c.fcap ∧ c.fcap ≤ 1152921504606846976
 unb : 1 ≤ c.unb ∧ c.unb ≤ 1048576
 sld : c.unb < c.sld ∧ c.sld ≤ 1048576
 elen : 1 ≤ c.elen ∧ c.elen ≤ 4096
 vis : 1 ≤ c.vis ∧ c.vis ≤ 4096
 pays : 1 ≤ c.pays ∧ c.pays ≤ 4096
 parts : 0 ≤ c.parts ∧ c.parts < c.vis ∧ c.parts < c.pays
theorem chk_ok {c : C} (h : chk c = 0) (hk : c.ok) : Cok c := by
 have h1 := zU h 1 (by omega) (by omega)
 have h8 := zU h 8 (by omega) (by omega)
 have h10 := zU h 10 (by omega) (by omega)
 have h11 := zU h 11 (by omega) (by omega)
 have h12 := zU h 12 (by omega) (by omega)
 have h14 := zU h 14 (by omega) (by omega)
 have h15 := zU h 15 (by omega) (by omega)
 have h16 := zU h 16 (by omega) (by omega)
 have h17 := zU h 17 (by omega) (by omega)
 simp [rightB, btw] at h1 h8 h10 h11 h12 h14 h15 h16 h17
 have := hk.fcap
 exact ⟨h1, h8, ⟨by omega, h10⟩, h11, h12, h14, h15, h16, h17⟩
def blN (c : C) : Int := min (c.vis - c.parts) (c.pays - c.parts)
def blocksV (c : C) : Int := (c.capa - 1) / blN c + 1
def sweepV (c : C) : Int := (blocksV c - 1) / c.elen
theorem bl_pos {c : C} (h : Cok c) : 1 ≤ blN c ∧ blN c ≤ 4096 := by
 have := h.parts; have := h.vis; have := h.pays
 unfold blN; omega
theorem blocks_bd {c : C} (h : Cok c) : 1 ≤ blocksV c ∧ blocksV c ≤ 4096 := by
 have h1 := h.capa; have h2 := bl_pos h
 have h3 : 0 ≤ (c.capa - 1) / blN c := Int.ediv_nonneg (by omega) (by omega)
 have h4 : (c.capa - 1) / blN c ≤ c.capa - 1 := Int.ediv_le_self _ (by omega)
 unfold blocksV; omega
theorem sweep_bd {c : C} (h : Cok c) : 0 ≤ sweepV c ∧ sweepV c ≤ 4096 := by
 have h1 := blocks_bd h; have h2 := h.elen
 have h3 : 0 ≤ (blocksV c - 1) / c.elen := Int.ediv_nonneg (by omega) (by omega)
 have h4 : (blocksV c - 1) / c.elen ≤ blocksV c - 1 := Int.ediv_le_self _ (by omega)
 unfold sweepV; omega
def bndB (a b : Int) (c : C) : Bool := addB [a, b, c.fcap] && epoB (addV [a, b, c.fcap]) c.minch
def bndV (a b : Int) (c : C) : Int := if bndB a b c then max (epoV (addV [a, b, c.fcap]) c.minch) 1 else 0
def bdsB (e a b : Int) (c : C) (l : List Int) : Bool := bndB a b c && latB (e :: ([bndV a b c, 1] ++ l))
def bdsV (e a b : Int) (c : C) (l : List Int) : Int := if bndB a b c then latV (e :: ([bndV a b c, 1] ++ l)) else 0
theorem okU3 {a b d : Int} (ha : U64 a) (hb : U64 b) (hd : U64 d) : okU [a, b, d] := by
 intro x hx
 simp at hx
 rcases hx with rfl | rfl | rfl <;> assumption
theorem addV_U {l : List Int} (h : okU l) : U64 (addV l) := by
 unfold addV U64
 split
 ·exact ⟨sum_nn fun x hx => (h x hx).1, by assumption⟩
 ·omega
theorem bnd_bd {a b : Int} {c : C} (ha : U64 a) (hb : U64 b) (h : Cok c) : 0 ≤ bndV a b c ∧ bndV a b c ≤ 1099511627776 := by
 unfold bndV
 split
 ·rename_i h1
  simp only [bndB, Bool.and_eq_true] at h1
  have h2 := h1.2
  simp only [epoB, Bool.and_eq_true, decide_eq_true_eq] at h2
  unfold epoV
  rw [if_pos h1.2]
  omega
 ·omega
theorem okI2 {a b : Int} {c : C} {l : List Int} (ha : U64 a) (hb : U64 b) (hc : Cok c) (hok : ∀ x ∈ l, I64 x) : ∀ x ∈ [bndV a b c, 1] ++ l, I64 x := by
 intro x hx
 have hbd := bnd_bd (c := c) ha hb hc
 simp only [List.mem_append, List.mem_cons, List.not_mem_nil, or_false] at hx
 rcases hx with (rfl | rfl) | hx
 ·exact ⟨by omega, by omega⟩
 ·exact ⟨by omega, by omega⟩
 ·exact hok x hx
theorem okM2 {c : C} (hc : Cok c) : ∀ x ∈ [c.unb, sweepV c], I64 x := by
 intro x hx
 have h1 := hc.unb
 have h2 := sweep_bd hc
 simp only [List.mem_cons, List.not_mem_nil, or_false] at hx
 rcases hx with rfl | rfl <;> exact ⟨by omega, by omega⟩
theorem Cok.U {c : C} (h : Cok c) : U64 c.fcap ∧ U64 c.minch := by
 have := h.fcap; have := h.minch; unfold U64; omega
theorem sv_any (c : C) (w : World) (hc : Cok c) : Pur Tryz.prog 138 [c.v] w (.int .i64 (c.vis - c.parts)) := by
 refine g_st Tryz.func138 8 (WOK.start [] _) ?_
 refine rn [1] ?_
 refine g_op (g_box rfl rfl rfl fun b1 => ?_)
 refine rn [3,0,1,4,5,4,5] ?_
 refine s_q (yY (z := c.vis - c.parts) rfl rfl (by have h1 := hc.parts; have h2 := hc.vis; have h3 := hc.pays; have h4 := hc.capa; have h5 := bl_pos hc; have h6 := blocks_bd hc; have h7 := hc.elen; rw [wi64 (by omega) (by omega)])) rfl ?_
 refine rn [3,0,11] ?_
 exact fin1 rfl (.tmp rfl) (fun w' hw' => ⟨by rfl, hw'.upd⟩) _ (.inl rfl)
theorem sp_any (c : C) (w : World) (hc : Cok c) : Pur Tryz.prog 139 [c.v] w (.int .i64 (c.pays - c.parts)) := by
 refine g_st Tryz.func139 8 (WOK.start [] _) ?_
 refine rn [1] ?_
 refine g_op (g_box rfl rfl rfl fun b1 => ?_)
 refine rn [3,0,1,4,5,4,5] ?_
 refine s_q (yY (z := c.pays - c.parts) rfl rfl (by have h1 := hc.parts; have h2 := hc.vis; have h3 := hc.pays; have h4 := hc.capa; have h5 := bl_pos hc; have h6 := blocks_bd hc; have h7 := hc.elen; rw [wi64 (by omega) (by omega)])) rfl ?_
 refine rn [3,0,11] ?_
 exact fin1 rfl (.tmp rfl) (fun w' hw' => ⟨by rfl, hw'.upd⟩) _ (.inl rfl)
theorem sb_any (c : C) (w : World) (hc : Cok c) : Pur Tryz.prog 84 [c.v] w (.int .i64 (blocksV c)) := by
 refine g_st Tryz.func84 15 (WOK.start [] _) ?_
 refine rn [1] ?_
 refine g_op (g_box rfl rfl rfl fun b1 => ?_)
 refine rn [3,0,8] ?_
 refine dreg [] mixed rfl ?_
 refine rn [23,0,45,23,2,45] ?_
 refine dop 1 rfl (zG rfl (fun w1 hw1 => sv_any c w1 hc) rfl ?_)
 refine dop 3 rfl (zG rfl (fun w1 hw1 => sp_any c w1 hc) rfl ?_)
 refine rn [23,4,58] ?_
 refine g_val 8 (v' := .int .i64 (blN c)) rfl (rfl) ?_
 refine rn [23,5,3,27,7,1,4,5] ?_
 refine s_q (yY (z := c.capa - 1) rfl rfl (by have h1 := hc.parts; have h2 := hc.vis; have h3 := hc.pays; have h4 := hc.capa; have h5 := bl_pos hc; have h6 := blocks_bd hc; have h7 := hc.elen; rw [wi64 (by omega) (by omega)])) rfl ?_
 refine rn [2] ?_
 refine s_q (q_quo rfl rfl (by have h1 := hc.parts; have h2 := hc.vis; have h3 := hc.pays; have h4 := hc.capa; have h5 := bl_pos hc; have h6 := blocks_bd hc; have h7 := hc.elen; omega)) rfl ?_
 refine g_val 13 (v' := .int .i64 ((c.capa - 1) / blN c)) rfl (by have h1 := hc.parts; have h2 := hc.vis; have h3 := hc.pays; have h4 := hc.capa; have h5 := bl_pos hc; have h6 := blocks_bd hc; have h7 := hc.elen; have e3 : 0 ≤ (c.capa - 1) / blN c := Int.ediv_nonneg (by omega) (by omega); have e4 : (c.capa - 1) / blN c ≤ c.capa - 1 := Int.ediv_le_self _ (by omega); rw [Int.tdiv_eq_ediv_of_nonneg (by omega), wi64 (by omega) (by omega)]) ?_
 refine s_q (yM (z := blocksV c) rfl rfl (by have h1 := hc.parts; have h2 := hc.vis; have h3 := hc.pays; have h4 := hc.capa; have h5 := bl_pos hc; have h6 := blocks_bd hc; have h7 := hc.elen; have e3 : 0 ≤ (c.capa - 1) / blN c := Int.ediv_nonneg (by omega) (by omega); have e4 : (c.capa - 1) / blN c ≤ c.capa - 1 := Int.ediv_le_self _ (by omega); rw [wi64 (by omega) (by omega)]; rfl)) rfl ?_
 refine rn [3,0,11] ?_
 exact fin1 rfl (.tmp rfl) (fun w' hw' => ⟨by rfl, hw'.upd⟩) _ (.inl rfl)
theorem sw_any (c : C) (w : World) (hc : Cok c) : Pur Tryz.prog 28 [c.v] w (.int .i64 (sweepV c)) := by
 refine g_st Tryz.func28 9 (WOK.start [] _) ?_
 refine rn [1] ?_
 refine g_op (g_box rfl rfl rfl fun b1 => ?_)
 refine rn [3,0,8] ?_
 refine dreg [] mixed rfl ?_
 refine rn [23,0,45,23,3,4,23,4,5] ?_
 refine dop 1 rfl (zG rfl (fun w1 hw1 => sb_any c w1 hc) rfl ?_)
 refine dq 2 rfl (yY (z := blocksV c - 1) rfl rfl (by have h1 := hc.parts; have h2 := hc.vis; have h3 := hc.pays; have h4 := hc.capa; have h5 := bl_pos hc; have h6 := blocks_bd hc; have h7 := hc.elen; rw [wi64 (by omega) (by omega)])) ?_
 refine dq 5 rfl (q_quo rfl rfl (by have h1 := hc.parts; have h2 := hc.vis; have h3 := hc.pays; have h4 := hc.capa; have h5 := bl_pos hc; have h6 := blocks_bd hc; have h7 := hc.elen; omega)) ?_
 refine g_val 8 (v' := .int .i64 (sweepV c)) rfl (by have h1 := hc.parts; have h2 := hc.vis; have h3 := hc.pays; have h4 := hc.capa; have h5 := bl_pos hc; have h6 := blocks_bd hc; have h7 := hc.elen; have e3 : 0 ≤ (blocksV c - 1) / c.elen := Int.ediv_nonneg (by omega) (by omega); have e4 : (blocksV c - 1) / c.elen ≤ blocksV c - 1 := Int.ediv_le_self _ (by omega); rw [Int.tdiv_eq_ediv_of_nonneg (by omega), wi64 (by omega) (by omega)]; rfl) ?_
 refine rn [23,6,3,27,7,11] ?_
 exact fin1 rfl (.tmp rfl) (fun w' hw' => ⟨by rfl, hw'.upd⟩) _ (.inl rfl)
theorem bnd_any (a b : Int) (c : C) (w : World) (ha : U64 a) (hb : U64 b) (hc : Cok c) : Pur Tryz.prog 289 [.int .u64 a, .int .u64 b, c.v] w (.tuple [.int .i64 (bndV a b c), .bool (bndB a b c)].toArray) := by
 refine g_st Tryz.func289 33 (WOK.start [] _) ?_
 refine rn [1] ?_
 refine g_op (g_box rfl rfl rfl fun b5 => ?_)
 refine rn [3,3,0,1,2,2,4,5] ?_
 refine g_op (g_lit rfl rfl rfl rfl rfl fun b16 => ?_)
 refine zJ (b := b16) ((([a, b, (c).fcap] : List Int).map (fun v : Int => [Value.int .u64 v])).flatten) rfl ?_
 refine g_op (zG rfl (fun w1 hw1 => add_any (some ⟨b16, 0, none⟩) (3) (3) (([a, b, (c).fcap] : List Int)) w1 (Rdb.toOld (InL.rdb (b := b16) (els := (([a, b, (c).fcap] : List Int)).map (fun v : Int => [Value.int .u64 v])) rfl (by simp) rfl) hw1) (okU3 ha hb hc.U.1) (by first | omega | (simp; omega) | (simp; done))) rfl ?_)
 refine rn [2,40,40,3,3,0,8,1,2,48,0] ?_
 refine zC rfl (fun h1 => ?_) (fun h1 => ?_)
 ·refine rn [1,3,3,0,11,13] ?_
  exact fin2 rfl (.tmp rfl) (.tmp rfl) (fun w' hw' => ⟨by first | (simp_all [bndV, bndB]; done), hw'.upd⟩) _ (.inl rfl)
 ·refine rn [12,7,1,2,4,5] ?_
  refine g_op (zG rfl (fun w1 hw1 => epo_any _ _ w1 (addV_U (okU3 ha hb hc.U.1)) hc.U.2) rfl ?_)
  refine rn [2,40,40,3,3,0,8,1,2,48,0] ?_
  refine zC rfl (fun h2 => ?_) (fun h2 => ?_)
  ·refine rn [1,3,3,0,11,13] ?_
   exact fin2 rfl (.tmp rfl) (.tmp rfl) (fun w' hw' => ⟨by first | (simp_all [bndV, bndB]; done), hw'.upd⟩) _ (.inl rfl)
  ·refine rn [12,7,1,2,59,3,3,0,11] ?_
   exact fin2 rfl (.tmp rfl) (.tmp rfl) (fun w' hw' => ⟨by first | (simp_all [bndV, bndB]; done), hw'.upd⟩) _ (.inl rfl)
theorem bounds_any (e a b : Int) (c : C) (w : World)  : Own2 (ι := (Nat × Nat × Nat × Nat)) Tryz.prog 246 [.int .i64 e, .int .u64 a, .int .u64 b, c.v] w [] (fun x => True) (fun x => .func (.func 288) #[] [.pointer (some ⟨x.1, 0, none⟩), .pointer (some ⟨x.2.1, 0, none⟩), .pointer (some ⟨x.2.2.1, 0, none⟩), .pointer (some ⟨x.2.2.2, 0, none⟩)].toArray) (fun x => [Res.blk x.1 22 [Value.int .u64 a], Res.blk x.2.1 22 [Value.int .u64 b], Res.blk x.2.2.1 24 c.c, Res.blk x.2.2.2 3 [Value.int .i64 e]]) (fun x => []) := by
 refine g_st Tryz.func246 10 (WOK.start (fps []) _) ?_
 refine rn [1] ?_
 refine g_op (g_box rfl rfl rfl fun b4 => ?_)
 refine g_op (g_box rfl rfl rfl fun b5 => ?_)
 refine g_op (g_box rfl rfl rfl fun b6 => ?_)
 refine g_op (g_box rfl rfl rfl fun b7 => ?_)
 refine rn [3,0,1,52,3,0,11] ?_
 exact fin1 rfl (.tmp rfl) (fun w' hw' => ⟨(b5, b6, b7, b4), (by exact trivial), by first | rfl | (simp_all; done), zA w' hw'⟩) _ (.inl rfl)
theorem bds_any (q1 q2 q3 q4 : Nat) (e a b : Int) (c : C) (A : Option Addr) (n cap : Nat) (l : List Int) (w : World) (hw : W0 [Res.blk q1 22 [Value.int .u64 a], Res.blk q2 22 [Value.int .u64 b], Res.blk q3 24 c.c, Res.blk q4 3 [Value.int .i64 e]] w) (ha : U64 a) (hb : U64 b) (hc : Cok c) (he : I64 e) (hl : Rd w [Res.blk q1 22 [Value.int .u64 a], Res.blk q2 22 [Value.int .u64 b], Res.blk q3 24 c.c, Res.blk q4 3 [Value.int .i64 e]] A n 1 (l.map (fun v : Int => [Value.int .i64 v]))) (hok : ∀ x ∈ l, I64 x) (hn9 : n ≤ 100) : Keep Tryz.prog 288 [.slice A n cap, .pointer (some ⟨q1, 0, none⟩), .pointer (some ⟨q2, 0, none⟩), .pointer (some ⟨q3, 0, none⟩), .pointer (some ⟨q4, 0, none⟩)] w [Res.blk q1 22 [Value.int .u64 a], Res.blk q2 22 [Value.int .u64 b], Res.blk q3 24 c.c, Res.blk q4 3 [Value.int .i64 e]] (.tuple [.int .i64 (bdsV e a b c l), .bool (bdsB e a b c l)].toArray) := by
 refine g_st Tryz.func288 27 hw ?_
 have hn : n = l.length := by simpa using hl.old.len
 refine rn [1,3,3,0,1,5,5,45] ?_
 refine g_op (zG rfl (fun w1 hw1 => bnd_any _ _ _ w1 ha hb hc) rfl ?_)
 refine rn [2,40,40,3,3,0,8,1,2,48,0] ?_
 refine zC rfl (fun h1 => ?_) (fun h1 => ?_)
 ·refine rn [1,3,3,0,11,13] ?_
  exact fin2 rfl (.tmp rfl) (.tmp rfl) (fun w' hw' => ⟨(), trivial, by first | (simp_all [bdsV, bdsB]; done), zA w' hw'⟩) _ (.inl rfl)
 ·refine rn [12,7,8] ?_
  refine dreg [] mixed rfl ?_
  refine rn [23,0,5,23,1,2,23,3,2] ?_
  refine dop 2 rfl (g_lit rfl rfl rfl rfl rfl fun b21 => ?_)
  refine zJ (b := b21) ((([(bndV (a) (b) (c)), 1] : List Int).map (fun v : Int => [Value.int .i64 v])).flatten) rfl ?_
  refine g_blkRow (b := b21) 1 2 (([(bndV (a) (b) (c)), 1] : List Int).map (fun v : Int => [Value.int .i64 v])) (zM (c := (fun v : Int => [Value.int .i64 v])) (fun _ => rfl) _) rfl rfl (by decide) ?_
  refine dop 4 rfl (zY (A := (some ⟨b21, 0, none⟩)) (els := (([(bndV (a) (b) (c)), 1] : List Int)).map (fun v : Int => [Value.int .i64 v])) (news := ((l).map (fun v : Int => [Value.int .i64 v]))) rfl rfl hl.rdb (yG (c := (fun v : Int => [Value.int .i64 v])) (by intro x; simp [Value.oneCell']) _) (by first | omega | (simp; omega) | (simp_all; omega)) rfl fun A23 cap23 => ⟨_, inferInstance, ?_⟩)
  refine zF (A := A23) (((([(bndV (a) (b) (c)), 1] : List Int) ++ l)).map (fun v : Int => [Value.int .i64 v])) (by first | rfl | exact List.map_append.symm | (simp; done)) ?_
  refine dop 5 rfl (zK [] rfl (fun w1 hw1 ho1 => by exact later_any (e) A23 ((2 + n)) (cap23) ((([(bndV (a) (b) (c)), 1] : List Int) ++ l)) w1 he (Rd.ofRow (A := A23) hw1) (okI2 ha hb hc hok) (by first | omega | (simp; omega) | (simp; done))) rfl ?_)
  refine rn [23,6,40,23,7,40,23,8,3,23,9,3,27,7,11] ?_
  exact fin2 rfl (.tmp rfl) (.tmp rfl) (fun w' hw' => ⟨(), trivial, by first | (simp_all [bdsV, bdsB]; done), zA w' hw'⟩) _ (.inl rfl)
theorem pay_any (e a b : Int) (c : C) (w : World) (ha : U64 a) (hb : U64 b) (hc : Cok c) (he : I64 e) : Pur Tryz.prog 169 [.int .i64 e, .int .u64 a, .int .u64 b, c.v] w (.tuple [.int .i64 (bdsV e a b c [c.unb, sweepV c]), .bool (bdsB e a b c [c.unb, sweepV c])].toArray) := by
 refine g_st Tryz.func169 23 (WOK.start [] _) ?_
 refine rn [1] ?_
 refine g_op (g_box rfl rfl rfl fun b7 => ?_)
 refine rn [3,3,0,8] ?_
 refine dreg [] mixed rfl ?_
 refine rn [23,0,2,23,1,2,23,2,2,23,3,45,23,5,4,23,6,5,23,7,45] ?_
 refine dop 4 rfl (zH [] rfl (fun w1 hw1 ho1 => by have h7 := bounds_any e a b c w1; exact h7) rfl ?_)
 rintro ⟨ba, bb, bc, bd⟩ _
 refine ii ?_
 refine dop 8 rfl (zG rfl (fun w1 hw1 => sw_any c w1 hc) rfl ?_)
 refine dop 9 rfl (g_lit rfl rfl rfl rfl rfl fun b19 => ?_)
 refine zJ (b := b19) ((([(c).unb, sweepV c] : List Int).map (fun v : Int => [Value.int .i64 v])).flatten) rfl ?_
 refine dop 10 rfl (g_keepV [Res.blk ba 22 [Value.int .u64 a], Res.blk bb 22 [Value.int .u64 b], Res.blk bc 24 c.c, Res.blk bd 3 [Value.int .i64 e]] rfl rfl (fun w1 hw1 ho1 => by have h7 := bds_any ba bb bc bd e a b c (some ⟨b19, 0, none⟩) 2 2 ([(c).unb, sweepV c] : List Int) w1 ho1 ha hb hc he (Rd.ofBlk (b := b19) (els := ([(c).unb, sweepV c] : List Int).map (fun v : Int => [Value.int .i64 v])) hw1 rfl (by simp) rfl) (okM2 hc) (by omega); exact h7) rfl ?_)
 refine rn [23,11,40,23,12,40,23,13,3,23,14,3,27,7,11] ?_
 exact fin2 rfl (.tmp rfl) (.tmp rfl) (fun w' hw' => ⟨by rfl, hw'.upd⟩) _ (.inl rfl)
theorem copy1 (s : List (List Value)) {f M : Nat} {z : List Value} (hf : f ≤ s.length) (hM : s.length ≤ M) : (List.replicate M z).take 0 ++ ((s.drop f).take (s.length - f)).take (min (s.length - f) M) ++ (List.replicate M z).drop (0 + min (s.length - f) M) = s.drop f ++ List.replicate (M - (s.length - f)) z := by
 have e : min (s.length - f) M = s.length - f := by omega
 rw [e, List.take_zero, List.nil_append, List.take_of_length_le (by simp), List.take_of_length_le (by simp), Nat.zero_add, List.drop_replicate]
theorem copy2 (s : List (List Value)) {f M : Nat} {z : List Value} (hf : f ≤ s.length) (hM : s.length ≤ M) : (s.drop f ++ List.replicate (M - (s.length - f)) z).take (s.length - f) ++ ((s.drop 0).take (f - 0)).take (min f (M - (s.length - f))) ++ (s.drop f ++ List.replicate (M - (s.length - f)) z).drop (s.length - f + min f (M - (s.length - f))) = s.drop f ++ s.take f ++ List.replicate (M - s.length) z := by
 have e : min f (M - (s.length - f)) = f := by omega
 have h1 : (s.drop f).length = s.length - f := by simp
 rw [e, List.drop_zero, Nat.sub_zero, List.take_left' h1, List.take_take, Nat.min_self, ← List.drop_drop, List.drop_left' h1, List.drop_replicate]
 congr 2; omega
theorem len_grown {s : List (List Value)} (f : Nat) {M : Nat} {z : List Value} (hf : f ≤ s.length) (hM : s.length ≤ M) : (s.drop f ++ s.take f ++ List.replicate (M - s.length) z).length = M := by
 simp; omega
abbrev rB_i (b : Nat) (g : Rg) : Res := Res.blk b 193 (Rg.c g)
abbrev rW_i (g : Rg) : Res := Res.row (Rg.A g) (Rg.s g).length (Rg.cap g) 3 1 (Rg.s g)
theorem grow_i (b : Nat) (g : Rg)  (l : List (List Value)) (w : World) (hw : W0 [rB_i b g, rW_i g] w) (h : g.Rep 1 l) (hs : g.n < g.size) : Own2 (ι := Rg) Tryz.prog 165 [.pointer (some ⟨b, 0, none⟩)] w [rB_i b g, rW_i g] (fun x => x.Rep 1 l ∧ x.n < x.s.length ∧ x.size = g.size) (fun x => .tuple #[]) (fun x => []) (fun x => [rB_i b x, rW_i x]) := by
 refine g_st Tryz.func165 58 hw ?_
 refine rn [8,8] ?_
 refine dreg [] mixed rfl ?_
 refine rn [23,0,2,23,1,6,23,2,4,23,3,5,23,4,2,23,5,6,23,6,4,23,7,5,23,8,47,23,9,46,27,7] ?_
 refine zC rfl (fun h1 => ?_) (fun h1 => ?_)
 ·refine rn [11,13] ?_
  exact fin0 rfl (fun w' hw' => ⟨g, (by (try dsimp only); exact ⟨h, by simpa using h1, rfl⟩), by first | rfl | (simp_all; done), zA w' hw'⟩) _ (.inl rfl)
 ·refine rn [12,7,8] ?_
  refine dreg [] mixed rfl ?_
  have hn : g.n = g.s.length := by have := h.le; simp at h1; omega
  have q1 := h.sz; have q2 := h.hi; have q3 := h.fst; have q4 := h.cp
  refine rn [23,0,2,23,1,6,23,2,4,23,3,5,23,4,2,23,5,6,23,6,4,23,7,5,23,8,47] ?_
  refine dq 9 rfl (q_mulz rfl rfl (wi64 (by omega) (by omega))) ?_
  refine dq 10 rfl (yM rfl rfl (wi64 (by omega) (by omega))) ?_
  refine rn [23,11,58] ?_
  refine dop 12 rfl (g_make (n := (min g.size (2 * g.s.length + 1))) rfl rfl (by omega) (by omega) (by omega) rfl fun g26 => ?_)
  refine rn [23,13,3,27,7,8] ?_
  refine dregL (L0 := [Res.blk b 193 (Rg.c g), Res.row (Rg.A g) (Rg.s g).length (Rg.cap g) 3 1 (Rg.s g)]) [] mixed rfl zB ?_
  refine rn [23,0,2,23,1,2,23,2,6,23,3,4,23,4,5,23,5,2,23,6,6,23,7,4,23,8,5] ?_
  refine dq 9 rfl (xF (l := g.first) rfl rfl rfl (by omega)) ?_
  refine dop 10 rfl (g_copy (A := some ⟨g26, 0, none⟩) (n := (min g.size (2 * g.s.length + 1))) (cap := (min g.size (2 * g.s.length + 1))) (els := List.replicate (min g.size (2 * g.s.length + 1)) [Value.int .i64 0]) (l := 0) rfl rfl (fun _ => by simp) (Rdb.sub (Rdb.row 2 rfl rfl (fun c hc => (h.one c hc).1)) (l := g.first) (h := g.s.length) (by omega) (Nat.le_refl _) q4) (by omega) (fun c hc => (h.one c (List.mem_of_mem_drop (List.mem_of_mem_take hc))).2) rfl ?_)
  refine zX (L' := [Res.row (some ⟨g26, 0, none⟩) (min g.size (2 * g.s.length + 1)) (min g.size (2 * g.s.length + 1)) 3 1 (g.s.drop g.first ++ List.replicate ((min g.size (2 * g.s.length + 1)) - (g.s.length - g.first)) [Value.int .i64 0]), Res.blk b 193 (Rg.c g), Res.row (Rg.A g) (Rg.s g).length (Rg.cap g) 3 1 (Rg.s g)]) (by rw [copy1 _ (by omega) (by omega)]) ?_
  have ek : min (g.s.length - g.first) (min g.size (2 * g.s.length + 1)) = g.s.length - g.first := by omega
  refine rn [23,11,3,27,7,8] ?_
  refine dregL (L0 := [Res.blk b 193 (Rg.c g), Res.row (Rg.A g) (Rg.s g).length (Rg.cap g) 3 1 (Rg.s g)]) [] mixed rfl zB ?_
  refine rn [23,0,2,23,1,2] ?_
  refine dq 2 rfl (xF (l := g.s.length - g.first) rfl rfl (by omega) (by omega)) ?_
  refine rn [23,3,2,23,4,6,23,5,4,23,6,5,23,7,2,23,8,6,23,9,4,23,10,5] ?_
  refine dq 11 rfl (yV (h := g.first) rfl rfl rfl (by omega)) ?_
  refine dop 12 rfl (g_copy (A := some ⟨g26, 0, none⟩) (n := (min g.size (2 * g.s.length + 1))) (cap := (min g.size (2 * g.s.length + 1))) (els := g.s.drop g.first ++ List.replicate ((min g.size (2 * g.s.length + 1)) - (g.s.length - g.first)) [Value.int .i64 0]) (l := g.s.length - g.first) rfl rfl (fun h0 => by unfold subA; rw [if_neg (by omega)]; simp [yP]) (Rdb.sub (Rdb.row 2 rfl rfl (fun c hc => (h.one c hc).1)) (l := 0) (h := g.first) (by omega) (by omega) q4) (by omega) (fun c hc => (h.one c (List.mem_of_mem_drop (List.mem_of_mem_take hc))).2) rfl ?_)
  refine zX (L' := [Res.row (some ⟨g26, 0, none⟩) (Rg.s (Rg.grown g (some ⟨g26, 0, none⟩) [Value.int .i64 0])).length (Rg.cap (Rg.grown g (some ⟨g26, 0, none⟩) [Value.int .i64 0])) 3 1 (Rg.s (Rg.grown g (some ⟨g26, 0, none⟩) [Value.int .i64 0])), Res.blk b 193 (Rg.c g), Res.row (Rg.A g) (Rg.s g).length (Rg.cap g) 3 1 (Rg.s g)]) (by rw [copy2 _ (by omega) (by omega)]; simp only [Rg.grown, len_grown _ (show g.first ≤ g.s.length by omega) (show g.s.length ≤ (min g.size (2 * g.s.length + 1)) by omega)]) ?_
  refine rn [27,7,10,2,2,2,6,4] ?_
  refine g_op (zP rfl rfl rfl rfl rfl rfl rfl ?_)
  refine rn [6,4] ?_
  refine g_op (zP rfl rfl rfl rfl rfl rfl rfl ?_)
  refine rn [9] ?_
  have hgr := h.grown (some ⟨g26, 0, none⟩) (z := [Value.int .i64 0]) ⟨rfl, by simp [Value.oneCell']⟩ hn hs
  have hgc : splice (splice g.c 0 [Value.slice (some ⟨g26, 0, none⟩) (min g.size (2 * g.s.length + 1)) (min g.size (2 * g.s.length + 1))]) 2 [Value.int .i64 0] = Rg.c (Rg.grown g (some ⟨g26, 0, none⟩) [Value.int .i64 0]) := by simp only [Rg.c, Rg.grown, len_grown _ (show g.first ≤ g.s.length by omega) (show g.s.length ≤ (min g.size (2 * g.s.length + 1)) by omega)]; simp [splice]
  refine zX (L' := [Res.row (some ⟨g26, 0, none⟩) (Rg.s (Rg.grown g (some ⟨g26, 0, none⟩) [Value.int .i64 0])).length (Rg.cap (Rg.grown g (some ⟨g26, 0, none⟩) [Value.int .i64 0])) 3 1 (Rg.s (Rg.grown g (some ⟨g26, 0, none⟩) [Value.int .i64 0])), Res.blk b 193 (Rg.c (Rg.grown g (some ⟨g26, 0, none⟩) [Value.int .i64 0])), Res.row (Rg.A g) (Rg.s g).length (Rg.cap g) 3 1 (Rg.s g)]) (by rw [← hgc]) ?_
  exact fin0 rfl (fun w' hw' => ⟨(Rg.grown g (some ⟨g26, 0, none⟩) [Value.int .i64 0]), (by first | exact ⟨hgr.1, hgr.2, rfl⟩ | (dsimp only; exact ⟨hgr.1, hgr.2, rfl⟩)), rfl, by have h9 := zB (L' := [Res.blk b 193 (Rg.c (Rg.grown g (some ⟨g26, 0, none⟩) [Value.int .i64 0])), Res.row (some ⟨g26, 0, none⟩) (Rg.s (Rg.grown g (some ⟨g26, 0, none⟩) [Value.int .i64 0])).length (Rg.cap (Rg.grown g (some ⟨g26, 0, none⟩) [Value.int .i64 0])) 3 1 (Rg.s (Rg.grown g (some ⟨g26, 0, none⟩) [Value.int .i64 0]))]) w' hw'; exact h9⟩) _ (.inr rfl)
theorem new_i (n : Nat) (w : World) (hn : 1 ≤ n ∧ n ≤ 1048576) : Own2 (ι := (Nat × Rg)) Tryz.prog 40 [.int .i64 (n : Int)] w [] (fun x => x.2.Rep 1 (([] : List Int).map (fun v : Int => [Value.int .i64 v])) ∧ x.2.size = n) (fun x => .pointer (some ⟨x.1, 0, none⟩)) (fun x => [rB_i x.1 x.2, rW_i x.2]) (fun x => []) := by
 refine g_st Tryz.func40 12 (WOK.start (fps []) _) ?_
 refine rn [1,3,0,8,1,2,46] ?_
 refine yD 4 (b := false) rfl (by simp; omega) ?_
 refine rn [2,22,2,22,55] ?_
 refine yD 7 (b := false) rfl (by simp; omega) ?_
 refine rn [42,0,20,12,7,1,2] ?_
 refine s_q (yH (c := Rg.c (Rg.init n)) rfl rfl) rfl ?_
 refine g_op (g_box rfl rfl rfl fun b11 => ?_)
 refine rn [3,0,11] ?_
 refine g_nores none 3 1 ?_
 exact fin1 rfl (.tmp rfl) (fun w' hw' => ⟨(b11, Rg.init n), (by first | exact ⟨.init hn.2, rfl⟩ | (dsimp only; exact ⟨.init hn.2, rfl⟩)), rfl, by have h9 := zB (L' := [Res.blk b11 193 (Rg.c (Rg.init n)), Res.row none 0 0 3 1 []]) w' hw'; exact h9⟩) _ (.inl rfl)
theorem len_i (b : Nat) (g : Rg) (l : List Int) (w : World) (hw : W0 [rB_i b g, rW_i g] w) (h : g.Rep 1 (l.map (fun v : Int => [Value.int .i64 v]))) : Keep Tryz.prog 92 [.pointer (some ⟨b, 0, none⟩)] w [rB_i b g, rW_i g] (.int .i64 (l.length : Int)) := by
 refine g_st Tryz.func92 9 hw ?_
 refine rn [1,3,0,8,1,2,50,0,20,12,7,1,2,6,4,5,3,0,11] ?_
 exact fin1 rfl (.tmp rfl) (fun w' hw' => ⟨(), trivial, by rw [h.num], zA w' hw'⟩) _ (.inl rfl)
theorem free_i (b : Nat) (g : Rg) (l : List Int) (w : World) (hw : W0 [rB_i b g, rW_i g] w) (h : g.Rep 1 (l.map (fun v : Int => [Value.int .i64 v]))) : Keep Tryz.prog 104 [.pointer (some ⟨b, 0, none⟩)] w [rB_i b g, rW_i g] (.int .i64 ((g.size - l.length : Nat) : Int)) := by
 refine g_st Tryz.func104 14 hw ?_
 have q1 := h.sz; have q2 := h.hi; have q3 := h.le
 refine rn [1,3,0,8,1,2,50,0,20,12,7,8] ?_
 refine dreg [] mixed rfl ?_
 refine rn [23,0,2,23,1,6,23,2,4,23,3,5,23,4,2,23,5,6,23,6,4,23,7,5] ?_
 refine dq 8 rfl (q_subn (a := (Rg.size g)) (b := (Rg.n g)) rfl rfl (by first | omega | (simp; omega) | (simp_all; omega)) (by first | omega | (simp; omega) | (simp_all; omega))) ?_
 refine rn [23,9,3,27,7,11] ?_
 exact fin1 rfl (.tmp rfl) (fun w' hw' => ⟨(), trivial, by rw [h.num], zA w' hw'⟩) _ (.inl rfl)
theorem peek_i (b : Nat) (g : Rg) (l : List Int) (i : Int) (w : World) (hw : W0 [rB_i b g, rW_i g] w) (h : g.Rep 1 (l.map (fun v : Int => [Value.int .i64 v]))) : Keep Tryz.prog 93 [.pointer (some ⟨b, 0, none⟩), .int .i64 i] w [rB_i b g, rW_i g] (.tuple [.int .i64 ((pk l i).getD 0), .bool (pk l i).isSome].toArray) := by
 refine g_st Tryz.func93 34 hw ?_
 refine rn [1,3,3,0,1,3,0,8,1,2,46,2] ?_
 refine zV 9 rfl (fun h1 => ?_) (fun h1 => ?_)
 ·refine rn [21,21,21,21,41,0,19,1,2,3,3,0,11,13] ?_
  exact fin2 rfl (.tmp rfl) (.tmp rfl) (fun w' hw' => ⟨(), trivial, by have e : pk l i = none := (by unfold pk; rw [if_neg (by simp at h1; omega)]); rw [e]; rfl, zA w' hw'⟩) _ (.inl rfl)
 ·refine rn [22,2,22,2] ?_
  refine g_gt rfl rfl (zK _ rfl (fun w1 hw1 ho1 => by exact len_i b g l w1 ho1 h) rfl ?_)
  refine rn [22,53,42,0] ?_
  refine zC rfl (fun h2 => ?_) (fun h2 => ?_)
  ·refine rn [1,2,3,3,0,11,13] ?_
   exact fin2 rfl (.tmp rfl) (.tmp rfl) (fun w' hw' => ⟨(), trivial, by have e : pk l i = none := (by unfold pk; rw [if_pos (by simp at h1; omega), List.getElem?_eq_none (by simp at h1 h2; omega)]); rw [e]; rfl, zA w' hw'⟩) _ (.inl rfl)
  ·obtain ⟨i, rfl⟩ : ∃ i' : Nat, i = i' := ⟨i.toNat, by simp at h1; omega⟩
   have hi : i < l.length := by simp at h2; omega
   have q1 := h.sz; have q2 := h.hi; have q3 := h.le; have q4 := h.num; have q5 := h.fst
   refine rn [12,7,8] ?_
   refine dreg [] mixed rfl ?_
   refine rn [23,0,2,23,1,6,23,2,4,23,3,5,23,4,2,23,5,6,23,6,4,23,7,5,23,8,2] ?_
   refine dq 9 rfl (q_addn (a := g.first) (b := i) rfl rfl (by omega)) ?_
   refine rn [23,10,2,23,11,6,23,12,4,23,13,5,23,14,47] ?_
   refine dq 15 rfl (q_remn rfl rfl (by omega)) ?_
   refine dq 16 rfl (zR (i := (g.first + i) % g.s.length) rfl rfl rfl (InRow.rdb (A := Rg.A g) rfl (fun c hc => (h.one c hc).1)) (h.idx hi)) ?_
   refine dq 17 rfl (yL (i := (g.first + i) % g.s.length) (o := 0) rfl (InRow.rdb (A := Rg.A g) rfl (fun c hc => (h.one c hc).1)) (h.at hi) rfl rfl) ?_
   refine rn [23,18,3,23,19,3,27,7,11] ?_
   exact fin2 rfl (.tmp rfl) (.tmp rfl) (fun w' hw' => ⟨(), trivial, by rw [pk_nat, List.getElem?_eq_getElem hi]; rfl, zA w' hw'⟩) _ (.inl rfl)
theorem pop_i (b : Nat) (g : Rg) (l : List Int) (w : World) (hw : W0 [rB_i b g, rW_i g] w) (h : g.Rep 1 (l.map (fun v : Int => [Value.int .i64 v]))) : Own2 (ι := Rg) Tryz.prog 232 [.pointer (some ⟨b, 0, none⟩)] w [rB_i b g, rW_i g] (fun x => x.Rep 1 (l.tail.map (fun v : Int => [Value.int .i64 v])) ∧ x.size = g.size) (fun x => .tuple [.int .i64 (l.head?.getD 0), .bool l.head?.isSome].toArray) (fun x => []) (fun x => [rB_i b x, rW_i x]) := by
 refine g_st Tryz.func232 46 hw ?_
 refine rn [1,3,3,0,1,2] ?_
 refine g_op (zK _ rfl (fun w1 hw1 ho1 => by exact peek_i b g l _ w1 ho1 h) rfl ?_)
 refine rn [2,40,40,3,3,0,8,1,2,0] ?_
 refine zC rfl (fun h1 => ?_) (fun h1 => ?_)
 ·obtain ⟨x, l', rfl⟩ : ∃ x l', l = x :: l' := by cases l with | nil => simp [pk] at h1 | cons x l' => exact ⟨x, l', rfl⟩
  obtain ⟨qf, qg, qn⟩ := h.hd
  have q1 := h.sz; have q2 := h.hi; have q3 := h.le
  refine rn [1,3,0,8] ?_
  refine dreg [10] mixed rfl ?_
  refine rn [23,0,2,23,1,6,23,2,4,23,3,5,23,4,2,23,5,6,23,6,4,23,7,5,23,8,2] ?_
  refine dq 9 rfl (zR (i := g.first) rfl rfl rfl (InRow.rdb (A := Rg.A g) rfl (fun c hc => (h.one c hc).1)) qf) ?_
  refine dop 10 rfl (yA (A := Rg.A g) (i := g.first) (o := 0) (cs' := [Value.int .i64 0]) rfl rfl rfl rfl rfl qg (by decide) rfl rfl ?_)
  refine rn [28,7,8] ?_
  refine dreg [14] mixed rfl ?_
  refine rn [23,0,2,23,1,2,23,2,6,23,3,4,23,4,5,23,5,43,23,6,2,23,7,6,23,8,4,23,9,5,23,10,47] ?_
  refine dq 11 rfl (q_remn (a := ((Rg.first g) + 1)) (b := (Rg.s g).length) rfl rfl (by first | omega | (simp; omega) | (simp_all; omega))) ?_
  refine rn [24,12,6,23,13,4] ?_
  refine dop 14 rfl (zP rfl rfl rfl rfl rfl rfl rfl ?_)
  refine rn [28,7,10,2,6,4,5] ?_
  refine s_q (q_subn (a := (Rg.n g)) (b := 1) rfl rfl (by first | omega | (simp; omega) | (simp_all; omega)) (by first | omega | (simp; omega) | (simp_all; omega))) rfl ?_
  refine rn [6,4] ?_
  refine g_op (zP rfl rfl rfl rfl rfl rfl rfl ?_)
  refine rn [0,1,2,2,3,3,0,11] ?_
  refine zJ (b := b) (Rg.c (Rg.pop g [Value.int .i64 0])) (by simp [Rg.c, Rg.pop, splice]) ?_
  exact fin2 rfl (.tmp rfl) (.tmp rfl) (fun w' hw' => ⟨(Rg.pop g [Value.int .i64 0]), (by first | exact ⟨h.pop ⟨rfl, by simp [Value.oneCell']⟩, rfl⟩ | (dsimp only; exact ⟨h.pop ⟨rfl, by simp [Value.oneCell']⟩, rfl⟩)), by simp [pk], by have h9 := zB (L' := [Res.blk b 193 (Rg.c (Rg.pop g [Value.int .i64 0])), Res.row (Rg.A g) (Rg.s g).length (Rg.cap g) 3 1 ((Rg.s g).set (Rg.first g) [Value.int .i64 0])]) w' hw'; show WOK _ _ [rB_i b ((Rg.pop g [Value.int .i64 0])), rW_i ((Rg.pop g [Value.int .i64 0]))] _; dsimp only [rB_i, rW_i]; rw [show (Rg.s (Rg.pop g [Value.int .i64 0])).length = (Rg.s g).length from by simp [Rg.pop]]; exact h9⟩) _ (.inl rfl)
 ·obtain rfl : l = [] := by cases l with | cons x l' => simp [pk] at h1 | nil => rfl
  refine rn [12,7,1,2,2,3,3,0,11] ?_
  exact fin2 rfl (.tmp rfl) (.tmp rfl) (fun w' hw' => ⟨g, (by exact ⟨h, rfl⟩), by first | rfl | (simp_all; done), zA w' hw'⟩) _ (.inl rfl)
theorem push_i (b : Nat) (g : Rg) (l : List Int) (els : List Int) (A : Option Addr) (cap : Nat) (w : World) (hw : W0 [rB_i b g, rW_i g] w) (h : g.Rep 1 (l.map (fun v : Int => [Value.int .i64 v]))) (hrd : Rd w [rB_i b g, rW_i g] A els.length 1 (els.map (fun v : Int => [Value.int .i64 v]))) (hcap : els.length ≤ cap) : Own2 (ι := Rg) Tryz.prog 107 [.pointer (some ⟨b, 0, none⟩), .slice A els.length cap] w [rB_i b g, rW_i g] (fun x => x.Rep 1 ((l ++ els.take (min els.length (Rg.size g - l.length))).map (fun v : Int => [Value.int .i64 v])) ∧ x.size = g.size) (fun x => .int .i64 ((min els.length (Rg.size g - l.length)) : Nat)) (fun x => []) (fun x => [rB_i b x, rW_i x]) := by
 refine g_st Tryz.func107 53 hw ?_
 have q1 := h.sz; have q2 := h.hi; have q3 := h.le; have q4 := h.num
 refine rn [1,3,0,1,2,47,2] ?_
 refine g_op (zK _ rfl (fun w1 hw1 ho1 => by exact free_i b g l w1 ho1 h) rfl ?_)
 refine s_q (q_minn (a := els.length) (b := (Rg.size g - (l).length)) rfl rfl) rfl ?_
 refine rn [3,0,8,1,2,2] ?_
 refine s_q (yV (h := (min els.length (Rg.size g - l.length))) rfl rfl rfl (by omega)) rfl ?_
 refine rn [47,2,0,14] ?_
 refine g_lk [0, 4, 5, 15, 16] (fun (x : Nat × Rg) => [(17, .int .i64 ((x.1 : Nat) : Int))]) (fun (x : Nat × Rg) => [rB_i b x.2, rW_i x.2]) (fun (x : Nat × Rg) => x.1 ≤ (min els.length (Rg.size g - l.length)) ∧ Rg.Rep x.2 1 ((l ++ els.take x.1).map (fun v : Int => [Value.int .i64 v])) ∧ Rg.size x.2 = Rg.size g) (fun (x : Nat × Rg) => (min els.length (Rg.size g - l.length)) - x.1) (0, g) (by (try dsimp only); exact ⟨Nat.zero_le _, (by simpa using h), rfl⟩) ?_
 rintro ⟨k, g1⟩ ⟨le_k, hr, es⟩
 replace le_k : k ≤ (min els.length (Rg.size g - l.length)) := le_k
 replace hr : Rg.Rep g1 1 ((l ++ els.take k).map (fun v : Int => [Value.int .i64 v])) := hr
 replace es : Rg.size g1 = Rg.size g := es
 refine zX (L' := [rB_i b g1, rW_i g1]) rfl ?_
 refine g_val 17 (v' := .int .i64 ((k : Nat) : Int)) rfl rfl ?_
 refine rn [1,46,0,8] ?_
 refine zC rfl (fun h1 => ?_) (fun h1 => ?_)
 ·have lt_k : k < (min els.length (Rg.size g - l.length)) := by have h9 := of_decide_eq_true h1; omega
  refine rn [12,7,8,14,1] ?_
  refine s_q (zR (i := k) rfl rfl rfl (hrd.rdb.h (cap := cap) (by omega) hcap) (by first | exact lt_k | omega)) rfl ?_
  refine s_q (yL (i := k) (o := 0) rfl (hrd.rdb.h (cap := cap) (by omega) hcap) (take_get (l := els) (m := (min els.length (Rg.size g - l.length))) (by first | exact lt_k | omega) (by omega)) rfl rfl) rfl ?_
  refine rn [3,0,1,2] ?_
  refine g_op (zH _ rfl (fun w1 hw1 ho1 => by exact grow_i b g1 _ w1 ho1 hr (by have q1 := hr.num; simp at q1; omega)) rfl ?_)
  rintro g22 ⟨r22, n22, s22⟩
  refine ii ?_
  have q1 := r22.sz; have q2 := r22.hi; have q3 := r22.fst
  refine rn [0,8] ?_
  refine dreg [21] mixed rfl ?_
  refine rn [23,0,2,23,1,6,23,2,4,23,3,5,23,4,2,23,5,6,23,6,4,23,7,5,23,8,2,23,9,6,23,10,4,23,11,5] ?_
  refine dq 12 rfl (q_addn (a := (Rg.first g22)) (b := (Rg.n g22)) rfl rfl (by first | omega | (simp; omega) | (simp_all; omega))) ?_
  refine rn [23,13,2,23,14,6,23,15,4,23,16,5,23,17,47] ?_
  refine dq 18 rfl (q_remn (a := ((Rg.first g22) + (Rg.n g22))) (b := (Rg.s g22).length) rfl rfl (by first | omega | (simp; omega) | (simp_all; omega))) ?_
  refine rn [23,19,2] ?_
  refine dq 20 rfl (zR (i := (g22.first + g22.n) % g22.s.length) rfl rfl rfl (InRow.rdb (A := Rg.A g22) rfl (fun c hc => (r22.one c hc).1)) (Nat.mod_lt _ (by omega))) ?_
  refine dop 21 rfl (yA (A := Rg.A g22) (i := (g22.first + g22.n) % g22.s.length) (o := 0) (cs' := ((fun v : Int => [Value.int .i64 v]) els[k])) rfl rfl rfl rfl rfl (List.getElem?_eq_getElem (Nat.mod_lt _ (by omega))) (by simp) rfl (yE (r22.one _ (List.getElem_mem _)).1) ?_)
  refine rn [28,7,10,2,6,4,5,43,6,4] ?_
  refine g_op (zP rfl rfl rfl rfl rfl rfl rfl ?_)
  refine rn [9,15,7,10,43,2,9] ?_
  refine zX (L' := [rB_i b (Rg.put g22 ((fun v : Int => [Value.int .i64 v]) els[k])), rW_i (Rg.put g22 ((fun v : Int => [Value.int .i64 v]) els[k]))]) (by simp [rB_i, rW_i, Rg.put, Rg.c, splice]) ?_
  exact g_ag ((k + 1), (Rg.put g22 ((fun v : Int => [Value.int .i64 v]) els[k]))) (by (try dsimp only); exact ⟨(by first | exact lt_k | omega), (by rw [← app_take_succ (by omega)]; exact r22.put ⟨rfl, by simp [Value.oneCell']⟩ n22), (by simp only [Rg.put]; omega)⟩)
 ·have eq_k : k = (min els.length (Rg.size g - l.length)) := by have h9 := of_decide_eq_false h1; omega
  refine rn [16] ?_
  refine zE (zE (zQ ?_))
  refine rn [7,1,2,3,0,11] ?_
  exact fin1 rfl (.tmp rfl) (fun w' hw' => ⟨g1, (by exact ⟨by rw [← eq_k]; exact hr, es⟩), by first | rfl | (simp_all; done), zA w' hw'⟩) _ (.inl rfl)
theorem all_i (b : Nat) (g : Rg) (l : List Int) (w : World) (hw : W0 [rB_i b g, rW_i g] w) (h : g.Rep 1 (l.map (fun v : Int => [Value.int .i64 v]))) : Own2 (ι := (Option Addr × Nat)) Tryz.prog 49 [.pointer (some ⟨b, 0, none⟩)] w [rB_i b g, rW_i g] (fun x => True) (fun x => .slice x.1 l.length x.2) (fun x => [Res.row x.1 l.length x.2 3 1 (l.map (fun v : Int => [Value.int .i64 v]))]) (fun x => [rB_i b g, rW_i g]) := by
 refine g_st Tryz.func49 24 hw ?_
 have q1 := h.sz; have q2 := h.hi; have q3 := h.le; have q4 := h.num
 refine rn [1,3,0,1,3] ?_
 refine g_nilrow 3 3 1 rfl fun A3 cap3 hc3 => ?_
 refine rn [0,8,1,2] ?_
 refine g_op (zK _ rfl (fun w1 hw1 ho1 => by exact len_i b g l w1 ho1 h) rfl ?_)
 refine rn [2,0,14] ?_
 refine zF (A := A3) ((l.take 0).map (fun v : Int => [Value.int .i64 v])) (by simp) ?_
 refine g_lk [0, 2, 8] (fun (x : Nat × Option Addr × Nat) => [(3, .slice x.2.1 x.1 x.2.2), (9, .int .i64 ((x.1 : Nat) : Int))]) (fun (x : Nat × Option Addr × Nat) => [Res.row x.2.1 x.1 x.2.2 3 1 ((l.take x.1).map (fun v : Int => [Value.int .i64 v])), rB_i b g, rW_i g]) (fun (x : Nat × Option Addr × Nat) => x.1 ≤ l.length) (fun (x : Nat × Option Addr × Nat) => l.length - x.1) (0, A3, cap3) (by (try dsimp only); exact Nat.zero_le _) ?_
 rintro ⟨k, A, cap⟩ le_k
 replace le_k : k ≤ l.length := le_k
 refine zX (L' := [Res.row A k cap 3 1 ((l.take k).map (fun v : Int => [Value.int .i64 v])), rB_i b g, rW_i g]) rfl ?_
 refine g_val 3 (v' := .slice A k cap) rfl rfl ?_
 refine g_val 9 (v' := .int .i64 ((k : Nat) : Int)) rfl rfl ?_
 refine rn [1,46,0,8] ?_
 refine zC rfl (fun h1 => ?_) (fun h1 => ?_)
 ·have lt_k : k < l.length := by have h9 := of_decide_eq_true h1; omega
  refine rn [12,7,8,14,1,2,3,0,1,2,2] ?_
  refine g_op (zK _ rfl (fun w1 hw1 ho1 => by exact peek_i b g l _ w1 ho1 h) rfl ?_)
  refine rn [2,40,40,3] ?_
  refine g_val 5 (v' := .int .i64 l[k]) rfl (by rw [pk_nat, List.getElem?_eq_getElem lt_k]; rfl) ?_
  refine rn [3,0,10,2,2] ?_
  refine g_op (g_lit rfl rfl rfl rfl rfl fun b20 => ?_)
  refine g_op (zY (A := A) (els := (l.take k).map (fun v : Int => [Value.int .i64 v])) (news := [(fun v : Int => [Value.int .i64 v]) l[k]]) rfl rfl (InL.rdb (b := b20) rfl (by simp) rfl) (by simp [Value.oneCell']) (by omega) rfl fun A' cap' => ⟨_, inferInstance, ?_⟩)
  refine zF (A := A') ((l.take (k + 1)).map (fun v : Int => [Value.int .i64 v])) (map_take_succ lt_k) ?_
  refine rn [3,9,15,7,10,43,2,9] ?_
  exact g_ag ((k + 1), A', cap') (by (try dsimp only); exact (by first | exact lt_k | omega))
 ·have eq_k : k = l.length := by have h9 := of_decide_eq_false h1; omega
  subst eq_k
  refine rn [16] ?_
  refine zE (zE (zQ ?_))
  refine rn [7,1,2,3,0,11] ?_
  refine zF (A := A) (l.map (fun v : Int => [Value.int .i64 v])) (by simp) ?_
  exact fin1 rfl (.tmp rfl) (fun w' hw' => ⟨(A, cap), (by first | exact trivial | (dsimp only; exact trivial)), rfl, by have h9 := zB (L' := [Res.row A l.length cap 3 1 (l.map (fun v : Int => [Value.int .i64 v])), rB_i b g, rW_i g]) w' hw'; exact h9⟩) _ (.inl rfl)
theorem lenN_i  (w : World)  : Pur Tryz.prog 92 [.pointer none] w (.int .i64 0) := by
 refine g_st Tryz.func92 9 (WOK.start [] _) ?_
 refine rn [1,3,0,8,1,2,61,0,19,1,3,0,11,13] ?_
 exact fin1 rfl (.tmp rfl) (fun w' hw' => ⟨by rfl, hw'.upd⟩) _ (.inl rfl)
theorem freeN_i  (w : World)  : Pur Tryz.prog 104 [.pointer none] w (.int .i64 0) := by
 refine g_st Tryz.func104 14 (WOK.start [] _) ?_
 refine rn [1,3,0,8,1,2,61,0,19,1,3,0,11,13] ?_
 exact fin1 rfl (.tmp rfl) (fun w' hw' => ⟨by rfl, hw'.upd⟩) _ (.inl rfl)
theorem peekN_i (i : Int) (w : World)  : Pur Tryz.prog 93 [.pointer none, .int .i64 i] w (.tuple [.int .i64 0, .bool false].toArray) := by
 refine g_st Tryz.func93 34 (WOK.start [] _) ?_
 refine rn [1,3,3,0,1,3,0,8,1,2,46,2] ?_
 refine zV 9 rfl (fun h1 => ?_) (fun h1 => ?_)
 ·refine rn [21,21,21,21,41,0,19,1,2,3,3,0,11,13] ?_
  exact fin2 rfl (.tmp rfl) (.tmp rfl) (fun w' hw' => ⟨by rfl, hw'.upd⟩) _ (.inl rfl)
 ·refine rn [22,2,22,2] ?_
  refine g_gt rfl rfl (zG rfl (fun w1 hw1 => lenN_i w1) rfl ?_)
  refine rn [22,53,42,0] ?_
  refine zC rfl (fun h2 => ?_) (fun h2 => ?_)
  ·refine rn [1,2,3,3,0,11,13] ?_
   exact fin2 rfl (.tmp rfl) (.tmp rfl) (fun w' hw' => ⟨by rfl, hw'.upd⟩) _ (.inl rfl)
  ·exfalso; simp at h1 h2; omega
theorem popN_i  (w : World)  : Pur Tryz.prog 232 [.pointer none] w (.tuple [.int .i64 0, .bool false].toArray) := by
 refine g_st Tryz.func232 46 (WOK.start [] _) ?_
 refine rn [1,3,3,0,1,2] ?_
 refine g_op (zG rfl (fun w1 hw1 => peekN_i _ w1) rfl ?_)
 refine rn [2,40,40,3,3,0,8,1,2,0,20,12,7,1,2,2,3,3,0,11] ?_
 exact fin2 rfl (.tmp rfl) (.tmp rfl) (fun w' hw' => ⟨by rfl, hw'.upd⟩) _ (.inl rfl)
theorem allN_i  (w : World)  : Pur Tryz.prog 49 [.pointer none] w (.slice none 0 0) := by
 refine g_st Tryz.func49 24 (WOK.start [] _) ?_
 refine rn [1,3,0,1,3,0,8,1,2] ?_
 refine g_op (zG rfl (fun w1 hw1 => lenN_i w1) rfl ?_)
 refine rn [2,0,14] ?_
 refine g_lk [0, 2, 8] (fun (x : Nat) => [(3, .slice none 0 0), (9, .int .i64 ((x : Nat) : Int))]) (fun (x : Nat) => []) (fun (x : Nat) => x ≤ 0) (fun (x : Nat) => 0 - x) 0 (by (try dsimp only); exact Nat.zero_le _) ?_
 rintro k le_k
 replace le_k : k ≤ 0 := le_k
 refine rn [1,46,0,8] ?_
 refine zC rfl (fun h1 => ?_) (fun h1 => ?_)
 ·have lt_k : k < 0 := by have h9 := of_decide_eq_true h1; omega
  exfalso; omega
 ·have eq_k : k = 0 := by have h9 := of_decide_eq_false h1; omega
  refine rn [16] ?_
  refine zE (zE (zQ ?_))
  refine rn [7,1,2,3,0,11] ?_
  exact fin1 rfl (.tmp rfl) (fun w' hw' => ⟨by rfl, hw'.upd⟩) _ (.inl rfl)
end Go.Proofs.YtdddiilocbbkkaaGreat
