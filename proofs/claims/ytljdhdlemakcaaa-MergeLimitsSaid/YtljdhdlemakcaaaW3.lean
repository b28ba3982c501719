/- the table of statuses -/
import Derived.Test.YtljdhdlemakcaaaW2
namespace Go.Proofs.Ytljdhdlemakcaaa
open Go.RowKit Go.Eg
set_option synthInstance.maxSize 3000
set_option linter.unusedSimpArgs false
set_option linter.unusedVariables false
def tabL : List (Nat × Int × Int × Int) := [(2, 1, 1, 2), (4, 2, 2, 3), (6, 3, 3, 4), (8, 4, 4, 5), (10, 5, 5, 6), (12, 2, 6, 7), (14, 2, 7, 3), (16, 3, 7, 3), (18, 4, 7, 4), (20, 5, 7, 4)]
def tabR (j : Nat) : Int × Int × Int := (tabL.lookup j).getD (1, 1, 2)
def tabE (j : Nat) : Value × Value := (.agg [.int .i64 (tabR j).1, .int .i64 (tabR j).2.1].toArray, .int .i64 (tabR j).2.2)
theorem tabIn (j : Nat) : tabR j ∈ (1, 1, 2) :: tabL.map (·.2) := by
  unfold tabR
  cases h : tabL.lookup j with
  | none => simp
  | some x =>
    have := List.lookup_eq_some_iff.1 h
    obtain ⟨l1, l2, he, _⟩ := this
    rw [he]; simp
theorem keyAll : ∀ r ∈ (1, 1, 2) :: tabL.map (·.2), (keyOf Try.prog 71 (.agg [.int .i64 r.1, .int .i64 r.2.1].toArray)).isSome = true := by
  intro r hr
  simp only [tabL, List.map_cons, List.map_nil, List.mem_cons, List.not_mem_nil, or_false] at hr
  rcases hr with rfl | rfl | rfl | rfl | rfl | rfl | rfl | rfl | rfl | rfl | rfl <;> kernel_rfl
theorem tabKey (j : Nat) : Key Try.prog 71 (tabE j).1 := Option.isSome_iff_exists.1 (keyAll _ (tabIn j))
theorem tabNe : ∀ i ∈ [2, 4, 6, 8, 10, 12, 14, 16, 18, 20], ∀ j ∈ [2, 4, 6, 8, 10, 12, 14, 16, 18, 20], i ≠ j → ((tabR i).1, (tabR i).2.1) ≠ ((tabR j).1, (tabR j).2.1) := by decide
theorem tabDis : ∀ i ∈ [2, 4, 6, 8, 10, 12, 14, 16, 18, 20], ∀ j ∈ [2, 4, 6, 8, 10, 12, 14, 16, 18, 20], i ≠ j → (tabE i).1 ≠ (tabE j).1 := fun i hi j hj hne h => tabNe i hi j hj hne (by
  simp only [tabE, Value.agg.injEq] at h
  have h2 := congrArg Array.toList h
  simp at h2
  rw [h2.1, h2.2])

set_option maxHeartbeats 400000 in
theorem table_any  (w : World)  : Own2 (ι := Nat) Try.prog 39 [] w [] (fun x => True) (fun x => .map (some x)) (fun x => [Res.mp x ([2, 4, 6, 8, 10, 12, 14, 16, 18, 20].map tabE)]) (fun x => []) := by
  refine g_start Try.func39 rfl 13 rfl (by simp) (fps []) [] (WOK.start _ _) _ rfl ?_
  refine g_seq ?_
  refine g_region ?_
  refine s_q (q_assign rfl) rfl ?_
  refine g_nil ?_
  refine g_then ?_
  refine g_seq ?_
  refine d_regionL (L0 := []) [] mixed rfl rfl wok_sub ?_
  refine d_p 1 rfl (by kernel_rfl) (fun _ => q_build rfl rfl) rfl (ls' := #[false, true, false, false, false, false, false, false, false, false, false, false, false, false, false, false, false, false, false, false, false, false, false]) rfl ?_
  refine d_p 3 rfl (by kernel_rfl) (fun _ => q_build rfl rfl) rfl (ls' := #[false, true, false, true, false, false, false, false, false, false, false, false, false, false, false, false, false, false, false, false, false, false, false]) rfl ?_
  refine d_p 5 rfl (by kernel_rfl) (fun _ => q_build rfl rfl) rfl (ls' := #[false, true, false, true, false, true, false, false, false, false, false, false, false, false, false, false, false, false, false, false, false, false, false]) rfl ?_
  refine d_p 7 rfl (by kernel_rfl) (fun _ => q_build rfl rfl) rfl (ls' := #[false, true, false, true, false, true, false, true, false, false, false, false, false, false, false, false, false, false, false, false, false, false, false]) rfl ?_
  refine d_p 9 rfl (by kernel_rfl) (fun _ => q_build rfl rfl) rfl (ls' := #[false, true, false, true, false, true, false, true, false, true, false, false, false, false, false, false, false, false, false, false, false, false, false]) rfl ?_
  refine d_p 11 rfl (by kernel_rfl) (fun _ => q_build rfl rfl) rfl (ls' := #[false, true, false, true, false, true, false, true, false, true, false, true, false, false, false, false, false, false, false, false, false, false, false]) rfl ?_
  refine d_p 13 rfl (by kernel_rfl) (fun _ => q_build rfl rfl) rfl (ls' := #[false, true, false, true, false, true, false, true, false, true, false, true, false, true, false, false, false, false, false, false, false, false, false]) rfl ?_
  refine d_p 15 rfl (by kernel_rfl) (fun _ => q_build rfl rfl) rfl (ls' := #[false, true, false, true, false, true, false, true, false, true, false, true, false, true, false, true, false, false, false, false, false, false, false]) rfl ?_
  refine d_p 17 rfl (by kernel_rfl) (fun _ => q_build rfl rfl) rfl (ls' := #[false, true, false, true, false, true, false, true, false, true, false, true, false, true, false, true, false, true, false, false, false, false, false]) rfl ?_
  refine d_p 19 rfl (by kernel_rfl) (fun _ => q_build rfl rfl) rfl (ls' := #[false, true, false, true, false, true, false, true, false, true, false, true, false, true, false, true, false, true, false, true, false, false, false]) rfl ?_
  refine d_op 0 rfl (by kernel_rfl) (ls' := #[true, true, false, true, false, true, false, true, false, true, false, true, false, true, false, true, false, true, false, true, false, false, false]) rfl wok_sub (g_makeMap rfl fun b1 => ?_)
  refine d_inserts (fuel := 2) (b := b1) (mt := 68) [2, 4, 6, 8, 10, 12, 14, 16, 18, 20] (by decide) rfl (by decide) tabE (by
    intro j hj
    simp only [List.mem_cons, List.not_mem_nil, or_false] at hj
    rcases hj with rfl | rfl | rfl | rfl | rfl | rfl | rfl | rfl | rfl | rfl <;> exact ⟨_, _, _, _, _, _, rfl, rfl, rfl, rfl⟩) (fun j _ => tabKey j) tabDis (by kernel_rfl) (by kernel_rfl) (fun D => wok_sub) ?_
  refine d_p 21 rfl (by kernel_rfl) (fun _ => q_move rfl) rfl (ls' := #[true, true, true, true, true, true, true, true, true, true, true, true, true, true, true, true, true, true, true, true, true, true, false]) rfl ?_
  refine d_p 22 rfl (by kernel_rfl) (fun _ => q_assign rfl) rfl (ls' := #[true, true, true, true, true, true, true, true, true, true, true, true, true, true, true, true, true, true, true, true, true, true, true]) rfl ?_
  refine d_end (by kernel_rfl) (.inr wok_sub) ?_
  refine g_then ?_
  refine g_ret ?_
  exact fin1 rfl (.tmp rfl) (fun w' hw' => ⟨b1, (by first | exact trivial | (dsimp only; exact trivial)), by first | rfl | (simp_all; done), by have h9 := wok_sub (L' := [Res.mp b1 ([2, 4, 6, 8, 10, 12, 14, 16, 18, 20].map tabE)]) w' hw'; exact h9⟩) _ (.inl rfl)
end Go.Proofs.Ytljdhdlemakcaaa
