/- clear; a slice compared with nil; a row cut short. No program in sight. -/
import Derived.Test.YtgbghjnlicldnaaV
namespace Go.Eg
open Go.RowKit
set_option linter.unusedVariables false
set_option linter.unusedSimpArgs false
theorem zrep (z : List Value) (n k : Nat) (hzk : z.length = k) : (Builtin.zeroCells z.toArray n).toList = (List.replicate n z).flatten := by
  have e : Builtin.zeroCells z.toArray n = madeCells z.toArray (n * z.toArray.size) := rfl
  rw [e, List.size_toArray, hzk]
  exact rep_cells z n k hzk
section
variable {P : Program} {κ : Cx} {e : Env} {L : List Res} {X : Act → World → Prop} {Q : Exit → Act → World → Prop} {d : Tmp} {ty : TypeId} {s : String} {af : Array Edge} {gd : Option (Nat × Bool)}
theorem run_sl_nil {T E : Nat} (hu : P.underlying T = some (.slice E)) (A : Option Addr) (n c : Nat) (w : World) : (Op.equal T (.slice A n c) (.slice none 0 0)).run P w = .ok A.isNone w := by
  have key : ∀ d : Nat, (Op.equalIn (d + 1) T (.slice A n c) (.slice none 0 0)).run P w = .ok A.isNone w := fun d => by
    cases A <;> simp [Op.equalIn, run_underlying hu]
  exact key 9999
theorem q_eqsl {T T' E k n c : Nat} {x y : Operand} {A : Option Addr} [h : Slc P T E k] (hx : ev e x = some (.slice A n c)) (hy : ev e y = some (.slice none 0 0)) : QRun P κ e L ⟨some d, .binOp .eql T x y T', ty, s, af, gd⟩ (.bool A.isNone) := fun a w he _ => by
  have e1 : binOp .eql T (.slice A n c) (.slice none 0 0) = (do pure (.bool (← Op.equal T (.slice A n c) (.slice none 0 0)))) := by cases A <;> rfl
  have e2 : (eqGuard .eql T x y (.slice A n c) (.slice none 0 0)).run P w = .ok () w := by cases A <;> simp [eqGuard, run_program]
  simp only [execOp, Sem.run_bind, he.ev hx, he.ev hy, e2, Sem.run_pure, Result.andThen_ok, e1, run_sl_nil h.und]
/-- clear(D) where D lies at element l of a row of our own -/
theorem g_clear {T E k bt n cap l dl dc : Nat} {A D : Option Addr} {x : Operand} {els : List (List Value)} {zc : List Value} {L' : List Res} [hs : SlcF P T E k bt] [hz : Zr P E zc] (hx : ev e x = some (.slice D dl dc)) [_hi : InRow L A n cap E k els]
    (hD : 0 < dl → D = some ⟨bo A, oo A + l * k, none⟩) (hl : l + dl ≤ n) (h1 : ∀ u ∈ zc, u.oneCell' = true)
    [hL : UpRow L A n cap E k els (.row A n cap E k (els.take l ++ List.replicate dl zc ++ els.drop (l + dl))) L'] (h : G κ e L' X) :
    G κ e L (owp κ.ρ P ⟨none, .call { callee := .builtin .clear, args := #[x], argTypes := #[T] }, ty, s, af, gd⟩ Q X) := fun a w hst => by
  obtain ⟨j, hj, rfl⟩ := hL.at_
  obtain ⟨i, z, hi, hz0, hsz, hby, hzs, hk, hbp⟩ := hs.get
  obtain ⟨v, hv, hcells⟩ := hz.run w
  have hvz : v = z := by
    have : (zeroValue E).run P w = .ok z w := by simp [zeroValue, typeInfo, hi, hz0]
    rw [this] at hv; injection hv with h1 _; exact h1.symm
  subst hvz
  have hzl : zc.length = k := by rw [hcells] at hzs; simpa using hzs
  have hcat0 : ∀ c ∈ List.replicate dl zc, c.length = k := fun c hc => by rw [List.eq_of_mem_replicate hc]; exact hzl
  have hsat0 := hst.wok.sat j _ hj
  rcases Nat.eq_zero_or_pos dl with h0 | h0
  · subst h0
    have hr : (execOp a.eval ⟨none, .call { callee := .builtin .clear, args := #[x], argTypes := #[T] }, ty, s, af, gd⟩).run P w = .ok (.value (.tuple #[])) w := by
      cases D <;> simp [execOp, resolve, invoke, builtin, hst.env.ev hx, Builtin.clear_, run_underlying hs.und]
    refine in_value hr <| h _ _ ⟨hst.defers, hst.size, hst.env, hst.wok.change hj _ (Upd.refl _ _) ?_ (fun q hq => .inl hq)⟩
    simpa using hsat0
  · obtain ⟨hlen, hcat, hrow⟩ := hsat0
    rcases hrow with ⟨q0, _⟩ | ⟨b, cur, rfl, hg, hmc, hcm, hsz', htk⟩
    · omega
    have hlk : (l + dl) * k ≤ n * k := Nat.mul_le_mul_right _ hl
    have hnk : n * k ≤ cap * k := Nat.mul_le_mul_right _ hmc
    rw [Nat.add_mul] at hlk
    have hcap : ¬ cap = 0 := by omega
    have hD' := hD h0
    simp only [bo_some, oo_some, Nat.zero_add] at hD'
    subst hD'
    have hcl : (List.replicate dl zc).flatten.length = dl * k := by rw [flat_len hcat0, List.length_replicate]
    obtain ⟨w', hst', hu, hs'⟩ := run_storeCells_blk (P := P) (T := E) (List.replicate dl zc).flatten cur.toList (l * k) 0 w (fun u hu => by
      obtain ⟨c, hc, hu⟩ := List.mem_flatten.1 hu
      rw [List.eq_of_mem_replicate hc] at hu
      exact h1 u hu) (by rw [hcl]; simp; omega) (by simpa [Res.blk] using hg)
    have hzr : (Builtin.zeroCells v.cells dl).toList = (List.replicate dl zc).flatten := by rw [hcells]; exact zrep zc dl k hzl
    have hne : dl ≠ 0 := by omega
    have hr : (execOp a.eval ⟨none, .call { callee := .builtin .clear, args := #[x], argTypes := #[T] }, ty, s, af, gd⟩).run P w = .ok (.value (.tuple #[])) w' := by
      simp [execOp, resolve, invoke, builtin, hst.env.ev hx, Builtin.clear_, run_underlying hs.und, hv, hzr, hst']
    refine in_value hr <| h _ _ ⟨hst.defers, hst.size, hst.env, hst.wok.change hj _ (by simpa [Res.row, hcap] using hu) ?_ (fun q hq => .inl hq)⟩
    refine ⟨by simp; omega, fun c hc => ?_, .inr ⟨b, _, rfl, hs', hmc, hcm, by simp [splice_length, hsz'], ?_⟩⟩
    · rcases List.mem_append.1 hc with hc | hc
      · rcases List.mem_append.1 hc with hc | hc
        · exact hcat c (List.mem_of_mem_take hc)
        · exact hcat0 c hc
      · exact hcat c (List.mem_of_mem_drop hc)
    · simp only [Nat.add_zero]
      rw [take_splice _ _ _ _ (by rw [hcl]; omega), htk, flat_mid hcat hcat0 (by rw [List.length_replicate]; omega), List.length_replicate]
/-- s[:i] of a row is a row -/
theorem WOK.rowTake {S : List Nat} {w0 w : World} {A : Option Addr} {n cap T k : Nat} {els : List (List Value)} {L : List Res} (h : WOK S w0 (.row A n cap T k els :: L) w) (i : Nat) (hi : i ≤ n) : WOK S w0 (.row (subA A cap 0 k) i cap T k (els.take i) :: L) w := by
  have e : ∀ g, subA (some ⟨g, 0, none⟩) cap 0 k = some ⟨g, 0, none⟩ := fun g => by
    unfold subA
    split
    · rfl
    · simp [add_none]
  refine h.less (fun h0 => ?_) (fun h0 b hb => ?_)
  · obtain ⟨h1, h2, h3⟩ := h0
    refine ⟨by simp; omega, fun c hc => h2 c (List.mem_of_mem_take hc), ?_⟩
    rcases h3 with ⟨h4, h5⟩ | ⟨g, cur, rfl, hg, hle, hm, hsz, htk⟩
    · exact .inl ⟨by omega, h5⟩
    · refine .inr ⟨g, cur, e g, hg, by omega, hm, hsz, ?_⟩
      rw [flat_take h2, ← htk, List.take_take, Nat.min_eq_left (Nat.mul_le_mul_right _ hi)]
  · obtain ⟨h1, h2, h3⟩ := h0
    simp only [Res.row] at hb ⊢
    split at hb
    · simp at hb
    · rename_i hc
      rw [if_neg hc]
      rcases h3 with ⟨_, h5⟩ | ⟨g, cur, rfl, _⟩
      · exact absurd h5 hc
      · rw [e g] at hb; exact hb
theorem g_rowTake {A : Option Addr} {n cap T k : Nat} {els : List (List Value)} {L' : List Res} (i n' : Nat) (els' : List (List Value)) (hi : i ≤ n) (hn : i = n') (he : els.take i = els') [_hi : InRow L A n cap T k els] [hs : Swap L [.row A n cap T k els] [.row (subA A cap 0 k) n' cap T k els'] L'] (h : G κ e L' X) : G κ e L X := by
  subst hn; subst he
  exact g_swap1 (fun _ _ _ _ h => h.rowTake i hi) hs h
end
end Go.Eg
