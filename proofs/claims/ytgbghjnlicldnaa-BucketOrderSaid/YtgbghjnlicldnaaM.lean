/- copy onto a slice of the call's own. No program in sight. -/
import Derived.Test.YtgbghjnlicldnaaK
namespace Go.Eg
open Go.RowKit
theorem splice_mid : ∀ (vs p c q : List Value), c.length = vs.length → splice (p ++ c ++ q) p.length vs = p ++ vs ++ q
  | [], p, c, q, h => by
    have : c = [] := List.eq_nil_of_length_eq_zero h
    subst this
    simp [splice]
  | v :: vs, p, c, q, h => by
    cases c with
    | nil => simp at h
    | cons u c =>
      simp only [splice]
      have e : (p ++ (u :: c) ++ q).set p.length v = (p ++ [v]) ++ c ++ q := by simp
      rw [e]
      have := splice_mid vs (p ++ [v]) c q (by simpa using h)
      simp only [List.length_append, List.length_singleton] at this
      rw [this]; simp
theorem flat_mid {k : Nat} {els news : List (List Value)} {l : Nat} (hk : ∀ c ∈ els, c.length = k) (hk' : ∀ c ∈ news, c.length = k) (hl : l + news.length ≤ els.length) :
    splice els.flatten (l * k) news.flatten = (els.take l ++ news ++ els.drop (l + news.length)).flatten := by
  have e : els.flatten = (els.take l).flatten ++ ((els.drop l).take news.length).flatten ++ (els.drop (l + news.length)).flatten := by
    rw [← List.flatten_append, ← List.flatten_append]
    congr 1
    rw [List.append_assoc, ← List.drop_drop, List.take_append_drop, List.take_append_drop]
  have h1 : (els.take l).flatten.length = l * k := by
    rw [flat_len fun c hc => hk c (List.mem_of_mem_take hc), List.length_take, Nat.min_eq_left (by omega)]
  have h2 : ((els.drop l).take news.length).flatten.length = news.flatten.length := by
    rw [flat_len fun c hc => hk c (List.mem_of_mem_drop (List.mem_of_mem_take hc)), flat_len hk', List.length_take, List.length_drop, Nat.min_eq_left (by omega)]
  rw [e, ← h1, splice_mid _ _ _ _ h2, List.flatten_append, List.flatten_append]
section
variable {P : Program} {κ : Cx} {e : Env} {L : List Res} {X : Act → World → Prop} {Q : Exit → Act → World → Prop} {d : Tmp} {ty : TypeId} {s : String} {af : Array Edge} {gd : Option (Nat × Bool)}
theorem run_copy_gen {T T' E k bt : Nat} (hs : SlcF P T E k bt) (w : World) (D B : Option Addr) (dl dc m mc : Nat) (cs : List Value) (hlen : cs.length = min m dl * k)
    (hsrc : 0 < min m dl → ∃ ad, B = some ad ∧ ∀ j u, cs[j]? = some u → w.cell? (ad.add j) = some u) (hz : min m dl = 0 → cs = []) :
    (Builtin.copy_ #[T, T'] ty #[.slice D dl dc, .slice B m mc]).run P w = match D with | some a => ((storeCells a cs).run P w).andThen fun _ w => .ok (.int .i64 ((min m dl : Nat) : Int)) w | none => .ok (.int .i64 ((min m dl : Nat) : Int)) w := by
  obtain ⟨i, z, hi, hz0, hsz, _⟩ := hs.get
  have hfc : (Builtin.firstCells k (Nat.min m dl) (.slice B m mc)).run P w = .ok cs.toArray w := by
    rcases Nat.eq_zero_or_pos (min m dl) with h0 | h0
    · have hcs := hz h0
      subst hcs
      have h0' : Nat.min m dl = 0 := h0
      cases B with
      | none => simp [Builtin.firstCells]
      | some a => rw [h0']; simp [Builtin.firstCells, loadCells, loadCellsFrom]
    · obtain ⟨ad, rfl, hc⟩ := hsrc h0
      have hl := run_loadCells_list (P := P) w ad cs hc
      rw [hlen] at hl
      exact hl
  cases D <;> simp [Builtin.copy_, run_underlying hs.und, Builtin.lenOf, sizeOf, typeInfo, hi, hsz, hfc, goInt]
end
section
variable {P : Program} {κ : Cx} {e : Env} {L : List Res} {X : Act → World → Prop} {Q : Exit → Act → World → Prop} {d : Tmp} {ty : TypeId} {s : String} {af : Array Edge} {gd : Option (Nat × Bool)}
/-- copy(D, B) where D lies at element l of a row of our own -/
theorem g_copy {T T' E k bt n cap l dl dc m mc : Nat} {A D B : Option Addr} {x y : Operand} {els news : List (List Value)} {L' : List Res} [hs : SlcF P T E k bt] (hx : ev e x = some (.slice D dl dc)) (hy : ev e y = some (.slice B m mc)) [_hi : InRow L A n cap E k els]
    (hD : 0 < min m dl → D = some ⟨bo A, oo A + l * k, none⟩) (hr : Rdb κ L B m k news) (hl : l + min m dl ≤ n) (h1 : ∀ c ∈ news, ∀ u ∈ c, u.oneCell' = true) (hd : Nat.blt d κ.N = true)
    [hL : UpRow L A n cap E k els (.row A n cap E k (els.take l ++ news.take (min m dl) ++ els.drop (l + min m dl))) L'] (h : G κ ((d, .int .i64 ((min m dl : Nat) : Int)) :: e) L' X) :
    G κ e L (owp κ.ρ P ⟨some d, .call { callee := .builtin .copy, args := #[x, y], argTypes := #[T, T'] }, ty, s, af, gd⟩ Q X) := G.loud hd fun a w hst => by
  obtain ⟨j, hj, rfl⟩ := hL.at_
  have hnl : m = news.length := hr.len
  have hncat : ∀ c ∈ news.take (min m dl), c.length = k := fun c hc => hr.cat c (List.mem_of_mem_take hc)
  have hntl : (news.take (min m dl)).length = min m dl := by rw [List.length_take]; omega
  have hcl : (news.take (min m dl)).flatten.length = min m dl * k := by rw [flat_len hncat, hntl]
  have hrun := run_copy_gen (T' := T') (ty := ty) hs w D B dl dc m mc (news.take (min m dl)).flatten hcl (fun h0 => by
    obtain ⟨g1, g2⟩ := hr.at_ w hst.wok (by omega)
    exact ⟨_, g1, fun q u hu => by
      rw [add_none]
      apply g2
      rw [flat_take hr.cat] at hu
      rw [List.getElem?_take] at hu
      split at hu
      · exact hu
      · cases hu⟩) (fun h0 => by rw [h0]; simp)
  have hsat0 := hst.wok.sat j _ hj
  rcases Nat.eq_zero_or_pos (min m dl) with h0 | h0
  · refine ⟨.int .i64 ((min m dl : Nat) : Int), w, L.set j (.row A n cap E k (els.take l ++ news.take (min m dl) ++ els.drop (l + min m dl))), ?_, hst.wok.change hj _ (Upd.refl _ _) ?_ (fun q hq => .inl hq), h⟩
    · have : (news.take (min m dl)).flatten = [] := by rw [h0]; simp
      rw [this] at hrun
      cases D <;> simp [execOp, resolve, invoke, builtin, hst.env.ev hx, hst.env.ev hy, hrun, storeCells]
    · rw [h0]; simpa using hsat0
  · obtain ⟨hlen, hcat, hrow⟩ := hsat0
    rcases hrow with ⟨q0, _⟩ | ⟨b, cur, rfl, hg, hmc, hcm, hsz, htk⟩
    · omega
    have hlk : (l + min m dl) * k ≤ n * k := Nat.mul_le_mul_right _ hl
    have hnk : n * k ≤ cap * k := Nat.mul_le_mul_right _ hmc
    rw [Nat.add_mul] at hlk
    have hcap : ¬ cap = 0 := by omega
    have hD' := hD h0
    simp only [bo_some, oo_some, Nat.zero_add] at hD'
    subst hD'
    obtain ⟨w', hst', hu, hs'⟩ := run_storeCells_blk (P := P) (T := E) (news.take (min m dl)).flatten cur.toList (l * k) 0 w (fun u hu => by
      obtain ⟨c, hc, hu⟩ := List.mem_flatten.1 hu
      exact h1 c (List.mem_of_mem_take hc) u hu) (by rw [hcl]; simp; omega) (by simpa [Res.blk] using hg)
    refine ⟨.int .i64 ((min m dl : Nat) : Int), w', L.set j (.row (some ⟨b, 0, none⟩) n cap E k (els.take l ++ news.take (min m dl) ++ els.drop (l + min m dl))), ?_, hst.wok.change hj _ (by simpa [Res.row, hcap] using hu) ?_ (fun q hq => .inl hq), h⟩
    · simp [execOp, resolve, invoke, builtin, hst.env.ev hx, hst.env.ev hy, hrun, hst']
    · refine ⟨by simp; omega, fun c hc => ?_, .inr ⟨b, _, rfl, hs', hmc, hcm, by simp [splice_length, hsz], ?_⟩⟩
      · rcases List.mem_append.1 hc with hc | hc
        · rcases List.mem_append.1 hc with hc | hc
          · exact hcat c (List.mem_of_mem_take hc)
          · exact hncat c hc
        · exact hcat c (List.mem_of_mem_drop hc)
      · simp only [Nat.add_zero]
        rw [take_splice _ _ _ _ (by rw [hcl]; omega), htk, flat_mid hcat hncat (by rw [hntl]; omega), hntl]
end
end Go.Eg
