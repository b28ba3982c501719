/- walks that several laws use -/
import Derived.Test.YthfcpbfnbdoakaaH
import Derived.Test.YthfcpbfnbdoakaaT
namespace Go.Proofs.Ythfcpbfnbdoakaa
open Go.RowKit Go.Eg
set_option linter.unusedSimpArgs false
set_option linter.unusedVariables false
structure M where
  g : Int
  t : Int
  d : Int
  bf : Int
def M.c (x : M) : List Value := [.int .u64 x.g, .int .u64 x.t, .int .u64 x.d, .int .u64 x.bf]
structure R where
  b : Int
  s : Int
  g : Int
  t : Int
  d : Int
def R.c (x : R) : List Value := [.int .u64 x.b, .int .u64 x.s, .int .u64 x.g, .int .u64 x.t, .int .u64 x.d]

def U (n : Int) : Int := IntKind.u64.wrap n
def M.bal (m : M) : Int := U (U (m.g - m.t) - m.d)
def M.grant (m : M) (l : Int) : M := ⟨U (m.g + min l (U (18446744073709551615 - m.bal))), m.t, m.d, m.t⟩
def M.take (m : M) (w : Int) : M := if m.bal < w then m else ⟨m.g, U (m.t + w), m.d, m.bf⟩
def M.drop (m : M) : M := ⟨m.g, m.t, U (m.d + m.bal), m.bf⟩
def M.spent (m : M) : Int := U (m.t - m.bf)
def R.grant (m : R) (x : Int) : R := ⟨U (m.b + min x (U (18446744073709551615 - m.b))), 0, U (m.g + min x (U (18446744073709551615 - m.b))), m.t, m.d⟩
def R.take (m : R) (x : Int) : R := if m.b < x then m else ⟨U (m.b - x), U (m.s + x), m.g, U (m.t + x), m.d⟩
def R.drop (m : R) : R := ⟨0, m.s, m.g, m.t, U (m.d + m.b)⟩

theorem sub_any (a b : Int) (w : World) : Pur Try.prog 20 [.int .u64 a, .int .u64 b] w (.tuple [.int .u64 (if a < b then 0 else IntKind.u64.wrap (a - b)), .bool (!decide (a < b))].toArray) := by
  refine g_start Try.func20 rfl 12 rfl (by simp) [] [] (WOK.start _ _) _ rfl ?_
  refine g_seq ?_
  refine g_region ?_
  refine s_q (q_assign rfl) rfl ?_
  refine s_q (q_assign rfl) rfl ?_
  refine g_nil ?_
  refine g_then ?_
  refine g_seq ?_
  refine g_seq ?_
  refine g_region ?_
  refine s_q (q_move rfl) rfl ?_
  refine s_q (q_move rfl) rfl ?_
  refine s_q (q_gtr rfl rfl) rfl ?_
  refine g_nil ?_
  refine g_then ?_
  refine g_cond rfl (fun h1 => ?_) (fun h1 => ?_)
  · refine g_seq ?_
    refine g_region ?_
    refine s_q (q_assign rfl) rfl ?_
    refine s_q (q_assign rfl) rfl ?_
    refine g_nil ?_
    refine g_then ?_
    refine g_ret ?_
    refine g_then_ret ?_
    exact fin2 rfl (.tmp rfl) (.tmp rfl) (fun w' hw => ⟨by first | rfl | (simp_all ; done) | (simp_all ; omega) | (simp_all  <;> intros <;> omega), hw.upd⟩) _ (.inl rfl)
  · refine g_skip ?_
    refine g_then ?_
    refine g_seq ?_
    refine g_region ?_
    refine s_q (q_move rfl) rfl ?_
    refine s_q (q_move rfl) rfl ?_
    refine s_q (q_sub rfl rfl) rfl ?_
    refine s_q (q_assign rfl) rfl ?_
    refine s_q (q_assign rfl) rfl ?_
    refine g_nil ?_
    refine g_then ?_
    refine g_ret ?_
    exact fin2 rfl (.tmp rfl) (.tmp rfl) (fun w' hw => ⟨by first | rfl | (simp_all ; done) | (simp_all ; omega) | (simp_all  <;> intros <;> omega), hw.upd⟩) _ (.inl rfl)

theorem bal_any (b : Nat) (m : M) (w : World) (hb : (Res.blk b 50 m.c).sat w) : Pur Try.prog 19 [.pointer (some ⟨b, 0, none⟩)] w (.int .u64 m.bal) := by
  refine g_start Try.func19 rfl 20 rfl (by simp) [b] [.blk b 50 m.c] (WOK.start1 hb) _ rfl ?_
  refine g_seq ?_
  refine g_region ?_
  refine s_q (q_assign rfl) rfl ?_
  refine g_nil ?_
  refine g_then ?_
  refine g_seq ?_
  refine d_region [] mixed rfl rfl ?_
  refine d_q 0 rfl (by kernel_rfl) (q_move rfl) wok_id rfl (ls' := #[true, false, false, false, false, false, false, false, false, false, false, false, false, false, false, false, false, false]) rfl ?_
  refine d_q 1 rfl (by kernel_rfl) (q_nilck rfl) wok_id rfl (ls' := #[true, true, false, false, false, false, false, false, false, false, false, false, false, false, false, false, false, false]) rfl ?_
  refine d_q 2 rfl (by kernel_rfl) (q_field rfl) wok_id rfl (ls' := #[true, true, true, false, false, false, false, false, false, false, false, false, false, false, false, false, false, false]) rfl ?_
  refine d_q 3 rfl (by kernel_rfl) (q_field rfl) wok_id rfl (ls' := #[true, true, true, true, false, false, false, false, false, false, false, false, false, false, false, false, false, false]) rfl ?_
  refine d_q 4 rfl (by kernel_rfl) (q_load rfl rfl) wok_id rfl (ls' := #[true, true, true, true, true, false, false, false, false, false, false, false, false, false, false, false, false, false]) rfl ?_
  refine d_q 5 rfl (by kernel_rfl) (q_move rfl) wok_id rfl (ls' := #[true, true, true, true, true, true, false, false, false, false, false, false, false, false, false, false, false, false]) rfl ?_
  refine d_q 6 rfl (by kernel_rfl) (q_nilck rfl) wok_id rfl (ls' := #[true, true, true, true, true, true, true, false, false, false, false, false, false, false, false, false, false, false]) rfl ?_
  refine d_q 7 rfl (by kernel_rfl) (q_field rfl) wok_id rfl (ls' := #[true, true, true, true, true, true, true, true, false, false, false, false, false, false, false, false, false, false]) rfl ?_
  refine d_q 8 rfl (by kernel_rfl) (q_field rfl) wok_id rfl (ls' := #[true, true, true, true, true, true, true, true, true, false, false, false, false, false, false, false, false, false]) rfl ?_
  refine d_q 9 rfl (by kernel_rfl) (q_load rfl rfl) wok_id rfl (ls' := #[true, true, true, true, true, true, true, true, true, true, false, false, false, false, false, false, false, false]) rfl ?_
  refine d_q 10 rfl (by kernel_rfl) (q_sub rfl rfl) wok_id rfl (ls' := #[true, true, true, true, true, true, true, true, true, true, true, false, false, false, false, false, false, false]) rfl ?_
  refine d_q 11 rfl (by kernel_rfl) (q_move rfl) wok_id rfl (ls' := #[true, true, true, true, true, true, true, true, true, true, true, true, false, false, false, false, false, false]) rfl ?_
  refine d_q 12 rfl (by kernel_rfl) (q_nilck rfl) wok_id rfl (ls' := #[true, true, true, true, true, true, true, true, true, true, true, true, true, false, false, false, false, false]) rfl ?_
  refine d_q 13 rfl (by kernel_rfl) (q_field rfl) wok_id rfl (ls' := #[true, true, true, true, true, true, true, true, true, true, true, true, true, true, false, false, false, false]) rfl ?_
  refine d_q 14 rfl (by kernel_rfl) (q_field rfl) wok_id rfl (ls' := #[true, true, true, true, true, true, true, true, true, true, true, true, true, true, true, false, false, false]) rfl ?_
  refine d_q 15 rfl (by kernel_rfl) (q_load rfl rfl) wok_id rfl (ls' := #[true, true, true, true, true, true, true, true, true, true, true, true, true, true, true, true, false, false]) rfl ?_
  refine d_q 16 rfl (by kernel_rfl) (q_sub rfl rfl) wok_id rfl (ls' := #[true, true, true, true, true, true, true, true, true, true, true, true, true, true, true, true, true, false]) rfl ?_
  refine d_q 17 rfl (by kernel_rfl) (q_assign rfl) wok_id rfl (ls' := #[true, true, true, true, true, true, true, true, true, true, true, true, true, true, true, true, true, true]) rfl ?_
  refine d_end (by kernel_rfl) (.inr wok_id) ?_
  refine g_then ?_
  refine g_ret ?_
  exact fin1 rfl (.tmp rfl) (fun w' hw => ⟨by first | rfl | (simp_all ; done) | (simp_all ; omega) | (simp_all  <;> intros <;> omega), Upd.same1 hw.upd hb (InL.sat (by infer_instance) hw)⟩) _ (.inl rfl)

theorem free_any (b : Nat) (m : M) (w : World) (hb : (Res.blk b 50 m.c).sat w) : Pur Try.prog 18 [.pointer (some ⟨b, 0, none⟩)] w (.int .u64 (U (18446744073709551615 - m.bal))) := by
  refine g_start Try.func18 rfl 6 rfl (by simp) [b] [.blk b 50 m.c] (WOK.start1 hb) _ rfl ?_
  refine g_seq ?_
  refine g_region ?_
  refine s_q (q_assign rfl) rfl ?_
  refine g_nil ?_
  refine g_then ?_
  refine g_seq ?_
  refine g_region ?_
  refine s_q (q_move rfl) rfl ?_
  refine g_op (g_pure rfl (fun w hw => bal_any _ _ w (InL.sat (by infer_instance) hw)) rfl ?_)
  refine s_q (q_sub rfl rfl) rfl ?_
  refine s_q (q_assign rfl) rfl ?_
  refine g_nil ?_
  refine g_then ?_
  refine g_ret ?_
  exact fin1 rfl (.tmp rfl) (fun w' hw => ⟨by first | rfl | (simp_all ; done) | (simp_all ; omega) | (simp_all  <;> intros <;> omega), Upd.same1 hw.upd hb (InL.sat (by infer_instance) hw)⟩) _ (.inl rfl)

theorem grant_any (b : Nat) (m : M) (l : Int) (w : World) (hb : (Res.blk b 50 m.c).sat w) : Meth Try.prog 11 [.pointer (some ⟨b, 0, none⟩), .int .u64 l] w b 50 (.int .u64 (m.grant l).bal) ((m.grant l).c) := by
  refine g_start Try.func11 rfl 37 rfl (by simp) [b] [.blk b 50 m.c] (WOK.start1 hb) _ rfl ?_
  refine g_seq ?_
  refine g_region ?_
  refine s_q (q_assign rfl) rfl ?_
  refine g_nil ?_
  refine g_then ?_
  refine g_seq ?_
  refine g_seq ?_
  refine g_region ?_
  refine s_q (q_move rfl) rfl ?_
  refine s_q (q_eqp (b := false) rfl rfl rfl) rfl ?_
  refine g_nil ?_
  refine g_then ?_
  refine g_false rfl ?_
  refine g_skip ?_
  refine g_then ?_
  refine g_seq ?_
  refine d_region [13, 14, 15, 16, 17] mixed rfl rfl ?_
  refine d_q 0 rfl (by kernel_rfl) (q_move rfl) wok_id rfl (ls' := #[true, false, false, false, false, false, false, false, false, false, false, false, false, false, false, false, false, false]) rfl ?_
  refine d_q 1 rfl (by kernel_rfl) (q_nilck rfl) wok_id rfl (ls' := #[true, true, false, false, false, false, false, false, false, false, false, false, false, false, false, false, false, false]) rfl ?_
  refine d_q 2 rfl (by kernel_rfl) (q_field rfl) wok_id rfl (ls' := #[true, true, true, false, false, false, false, false, false, false, false, false, false, false, false, false, false, false]) rfl ?_
  refine d_q 3 rfl (by kernel_rfl) (q_field rfl) wok_id rfl (ls' := #[true, true, true, true, false, false, false, false, false, false, false, false, false, false, false, false, false, false]) rfl ?_
  refine d_q 4 rfl (by kernel_rfl) (q_field rfl) wok_id rfl (ls' := #[true, true, true, true, true, false, false, false, false, false, false, false, false, false, false, false, false, false]) rfl ?_
  refine d_q 5 rfl (by kernel_rfl) (q_load rfl rfl) wok_id rfl (ls' := #[true, true, true, true, true, true, false, false, false, false, false, false, false, false, false, false, false, false]) rfl ?_
  refine d_q 6 rfl (by kernel_rfl) (q_move rfl) wok_id rfl (ls' := #[true, true, true, true, true, true, true, false, false, false, false, false, false, false, false, false, false, false]) rfl ?_
  refine d_q 7 rfl (by kernel_rfl) (q_move rfl) wok_id rfl (ls' := #[true, true, true, true, true, true, true, true, false, false, false, false, false, false, false, false, false, false]) rfl ?_
  refine d_q 8 rfl (by kernel_rfl) (q_nilck rfl) wok_id rfl (ls' := #[true, true, true, true, true, true, true, true, true, false, false, false, false, false, false, false, false, false]) rfl ?_
  refine d_q 9 rfl (by kernel_rfl) (q_field rfl) wok_id rfl (ls' := #[true, true, true, true, true, true, true, true, true, true, false, false, false, false, false, false, false, false]) rfl ?_
  refine d_op 10 rfl (by kernel_rfl) (ls' := #[true, true, true, true, true, true, true, true, true, true, true, false, false, false, false, false, false, false]) rfl wok_id (g_pure rfl (fun w hw => free_any _ _ w (InL.sat (by infer_instance) hw)) rfl ?_)
  refine d_q 11 rfl (by kernel_rfl) (q_min rfl rfl) wok_id rfl (ls' := #[true, true, true, true, true, true, true, true, true, true, true, true, false, false, false, false, false, false]) rfl ?_
  refine d_q 12 rfl (by kernel_rfl) (q_add rfl rfl) wok_id rfl (ls' := #[true, true, true, true, true, true, true, true, true, true, true, true, true, false, false, false, false, false]) rfl ?_
  refine d_op 13 rfl (by kernel_rfl) (ls' := #[true, true, true, true, true, true, true, true, true, true, true, true, true, true, false, false, false, false]) rfl wok_id (G.quiet (q_nilck rfl) rfl ?_)
  refine d_tail 14 rfl (by kernel_rfl) (ls' := #[true, true, true, true, true, true, true, true, true, true, true, true, true, true, true, false, false, false]) rfl rfl (G.quiet (q_field rfl) rfl ?_)
  refine d_tail 15 rfl (by kernel_rfl) (ls' := #[true, true, true, true, true, true, true, true, true, true, true, true, true, true, true, true, false, false]) rfl rfl (G.quiet (q_field rfl) rfl ?_)
  refine d_tail 16 rfl (by kernel_rfl) (ls' := #[true, true, true, true, true, true, true, true, true, true, true, true, true, true, true, true, true, false]) rfl rfl (G.quiet (q_field rfl) rfl ?_)
  refine d_tail 17 rfl (by kernel_rfl) (ls' := #[true, true, true, true, true, true, true, true, true, true, true, true, true, true, true, true, true, true]) rfl rfl (g_store (c' := M.c ⟨U (m.g + min l (U (18446744073709551615 - m.bal))), m.t, m.d, m.bf⟩) rfl rfl rfl rfl rfl rfl rfl ?_)
  refine d_end (by kernel_rfl) (.inl rfl) ?_
  refine g_then ?_
  refine g_seq ?_
  refine g_region ?_
  refine s_q (q_move rfl) rfl ?_
  refine s_q (q_move rfl) rfl ?_
  refine s_q (q_nilck rfl) rfl ?_
  refine s_q (q_field rfl) rfl ?_
  refine s_q (q_field rfl) rfl ?_
  refine s_q (q_field rfl) rfl ?_
  refine s_q (q_load rfl rfl) rfl ?_
  refine s_q (q_nilck rfl) rfl ?_
  refine s_q (q_field rfl) rfl ?_
  refine g_op (g_store (c' := M.c (m.grant l)) rfl rfl rfl rfl rfl rfl rfl ?_)
  refine g_nil ?_
  refine g_then ?_
  refine g_seq ?_
  refine g_region ?_
  refine s_q (q_move rfl) rfl ?_
  refine s_q (q_nilck rfl) rfl ?_
  refine s_q (q_field rfl) rfl ?_
  refine g_op (g_pure rfl (fun w hw => bal_any _ _ w (InL.sat (by infer_instance) hw)) rfl ?_)
  refine s_q (q_assign rfl) rfl ?_
  refine g_nil ?_
  refine g_then ?_
  refine g_ret ?_
  exact fin1 rfl (.tmp rfl) (fun w' hw => ⟨by rfl, by exact InL.sat (by infer_instance) hw, hw.upd⟩) _ (.inl rfl)

theorem take_any (b : Nat) (m : M) (x : Int) (w : World) (hb : (Res.blk b 50 m.c).sat w) : Meth Try.prog 12 [.pointer (some ⟨b, 0, none⟩), .int .u64 x] w b 50 (.bool (!decide (m.bal < x))) ((m.take x).c) := by
  refine g_start Try.func12 rfl 32 rfl (by simp) [b] [.blk b 50 m.c] (WOK.start1 hb) _ rfl ?_
  refine g_seq ?_
  refine g_region ?_
  refine s_q (q_assign rfl) rfl ?_
  refine g_nil ?_
  refine g_then ?_
  refine g_seq ?_
  refine g_seq ?_
  refine g_region ?_
  refine s_q (q_move rfl) rfl ?_
  refine s_q (q_eqp (b := false) rfl rfl rfl) rfl ?_
  refine g_nil ?_
  refine g_then ?_
  refine g_false rfl ?_
  refine g_skip ?_
  refine g_then ?_
  refine g_seq ?_
  refine g_seq ?_
  refine g_region ?_
  refine s_q (q_move rfl) rfl ?_
  refine s_q (q_nilck rfl) rfl ?_
  refine s_q (q_field rfl) rfl ?_
  refine g_op (g_pure rfl (fun w hw => bal_any _ _ w (InL.sat (by infer_instance) hw)) rfl ?_)
  refine s_q (q_move rfl) rfl ?_
  refine g_op (g_pure rfl (fun w hw => sub_any _ _ w) rfl ?_)
  refine s_q (q_move rfl) rfl ?_
  refine s_q (q_extract rfl rfl) rfl ?_
  refine s_q (q_extract rfl rfl) rfl ?_
  refine s_q (q_assign rfl) rfl ?_
  refine s_q (q_assign rfl) rfl ?_
  refine g_nil ?_
  refine g_then ?_
  refine g_seq ?_
  refine g_region ?_
  refine s_q (q_move rfl) rfl ?_
  refine s_q (q_not rfl) rfl ?_
  refine g_nil ?_
  refine g_then ?_
  refine g_cond rfl (fun h1 => ?_) (fun h1 => ?_)
  · refine g_seq ?_
    refine g_region ?_
    refine s_q (q_assign rfl) rfl ?_
    refine g_nil ?_
    refine g_then ?_
    refine g_ret ?_
    refine g_then_ret ?_
    exact fin1 rfl (.tmp rfl) (fun w' hw => ⟨by first | rfl | (simp_all ; done) | (simp_all ; omega) | (simp_all  <;> intros <;> omega), by simp only [M.take]; split <;> first | exact InL.sat (by infer_instance) hw | (exfalso; simp_all; done) | (exfalso; simp_all; omega), hw.upd⟩) _ (.inl rfl)
  · refine g_skip ?_
    refine g_then ?_
    refine g_seq ?_
    refine g_region ?_
    refine s_q (q_move rfl) rfl ?_
    refine s_q (q_nilck rfl) rfl ?_
    refine s_q (q_field rfl) rfl ?_
    refine s_q (q_field rfl) rfl ?_
    refine s_q (q_field rfl) rfl ?_
    refine s_q (q_load rfl rfl) rfl ?_
    refine s_q (q_move rfl) rfl ?_
    refine s_q (q_add rfl rfl) rfl ?_
    refine s_q (q_nilck rfl) rfl ?_
    refine s_q (q_field rfl) rfl ?_
    refine s_q (q_field rfl) rfl ?_
    refine s_q (q_field rfl) rfl ?_
    refine g_op (g_store (c' := M.c ⟨m.g, U (m.t + x), m.d, m.bf⟩) rfl rfl rfl rfl rfl rfl rfl ?_)
    refine g_nil ?_
    refine g_then ?_
    refine g_seq ?_
    refine g_region ?_
    refine s_q (q_assign rfl) rfl ?_
    refine g_nil ?_
    refine g_then ?_
    refine g_ret ?_
    exact fin1 rfl (.tmp rfl) (fun w' hw => ⟨by first | rfl | (simp_all ; done) | (simp_all ; omega) | (simp_all  <;> intros <;> omega), by simp only [M.take]; split <;> first | exact InL.sat (by infer_instance) hw | (exfalso; simp_all; done) | (exfalso; simp_all; omega), hw.upd⟩) _ (.inl rfl)

theorem balance_any (b : Nat) (m : M) (w : World) (hb : (Res.blk b 50 m.c).sat w) : Pur Try.prog 13 [.pointer (some ⟨b, 0, none⟩)] w (.int .u64 m.bal) := by
  refine g_start Try.func13 rfl 9 rfl (by simp) [b] [.blk b 50 m.c] (WOK.start1 hb) _ rfl ?_
  refine g_seq ?_
  refine g_region ?_
  refine s_q (q_assign rfl) rfl ?_
  refine g_nil ?_
  refine g_then ?_
  refine g_seq ?_
  refine g_seq ?_
  refine g_region ?_
  refine s_q (q_move rfl) rfl ?_
  refine s_q (q_eqp (b := false) rfl rfl rfl) rfl ?_
  refine g_nil ?_
  refine g_then ?_
  refine g_false rfl ?_
  refine g_skip ?_
  refine g_then ?_
  refine g_seq ?_
  refine g_region ?_
  refine s_q (q_move rfl) rfl ?_
  refine s_q (q_nilck rfl) rfl ?_
  refine s_q (q_field rfl) rfl ?_
  refine g_op (g_pure rfl (fun w hw => bal_any _ _ w (InL.sat (by infer_instance) hw)) rfl ?_)
  refine s_q (q_assign rfl) rfl ?_
  refine g_nil ?_
  refine g_then ?_
  refine g_ret ?_
  exact fin1 rfl (.tmp rfl) (fun w' hw => ⟨by first | rfl | (simp_all ; done) | (simp_all ; omega) | (simp_all  <;> intros <;> omega), Upd.same1 hw.upd hb (InL.sat (by infer_instance) hw)⟩) _ (.inl rfl)

theorem spent_any (b : Nat) (m : M) (w : World) (hb : (Res.blk b 50 m.c).sat w) : Pur Try.prog 14 [.pointer (some ⟨b, 0, none⟩)] w (.int .u64 m.spent) := by
  refine g_start Try.func14 rfl 16 rfl (by simp) [b] [.blk b 50 m.c] (WOK.start1 hb) _ rfl ?_
  refine g_seq ?_
  refine g_region ?_
  refine s_q (q_assign rfl) rfl ?_
  refine g_nil ?_
  refine g_then ?_
  refine g_seq ?_
  refine g_seq ?_
  refine g_region ?_
  refine s_q (q_move rfl) rfl ?_
  refine s_q (q_eqp (b := false) rfl rfl rfl) rfl ?_
  refine g_nil ?_
  refine g_then ?_
  refine g_false rfl ?_
  refine g_skip ?_
  refine g_then ?_
  refine g_seq ?_
  refine d_region [] mixed rfl rfl ?_
  refine d_q 0 rfl (by kernel_rfl) (q_move rfl) wok_id rfl (ls' := #[true, false, false, false, false, false, false, false, false, false, false, false]) rfl ?_
  refine d_q 1 rfl (by kernel_rfl) (q_nilck rfl) wok_id rfl (ls' := #[true, true, false, false, false, false, false, false, false, false, false, false]) rfl ?_
  refine d_q 2 rfl (by kernel_rfl) (q_field rfl) wok_id rfl (ls' := #[true, true, true, false, false, false, false, false, false, false, false, false]) rfl ?_
  refine d_q 3 rfl (by kernel_rfl) (q_field rfl) wok_id rfl (ls' := #[true, true, true, true, false, false, false, false, false, false, false, false]) rfl ?_
  refine d_q 4 rfl (by kernel_rfl) (q_field rfl) wok_id rfl (ls' := #[true, true, true, true, true, false, false, false, false, false, false, false]) rfl ?_
  refine d_q 5 rfl (by kernel_rfl) (q_load rfl rfl) wok_id rfl (ls' := #[true, true, true, true, true, true, false, false, false, false, false, false]) rfl ?_
  refine d_q 6 rfl (by kernel_rfl) (q_move rfl) wok_id rfl (ls' := #[true, true, true, true, true, true, true, false, false, false, false, false]) rfl ?_
  refine d_q 7 rfl (by kernel_rfl) (q_nilck rfl) wok_id rfl (ls' := #[true, true, true, true, true, true, true, true, false, false, false, false]) rfl ?_
  refine d_q 8 rfl (by kernel_rfl) (q_field rfl) wok_id rfl (ls' := #[true, true, true, true, true, true, true, true, true, false, false, false]) rfl ?_
  refine d_q 9 rfl (by kernel_rfl) (q_load rfl rfl) wok_id rfl (ls' := #[true, true, true, true, true, true, true, true, true, true, false, false]) rfl ?_
  refine d_q 10 rfl (by kernel_rfl) (q_sub rfl rfl) wok_id rfl (ls' := #[true, true, true, true, true, true, true, true, true, true, true, false]) rfl ?_
  refine d_q 11 rfl (by kernel_rfl) (q_assign rfl) wok_id rfl (ls' := #[true, true, true, true, true, true, true, true, true, true, true, true]) rfl ?_
  refine d_end (by kernel_rfl) (.inr wok_id) ?_
  refine g_then ?_
  refine g_ret ?_
  exact fin1 rfl (.tmp rfl) (fun w' hw => ⟨by first | rfl | (simp_all ; done) | (simp_all ; omega) | (simp_all  <;> intros <;> omega), Upd.same1 hw.upd hb (InL.sat (by infer_instance) hw)⟩) _ (.inl rfl)

theorem drop_any (b : Nat) (m : M)  (w : World) (hb : (Res.blk b 50 m.c).sat w) : Meth Try.prog 15 [.pointer (some ⟨b, 0, none⟩)] w b 50 (.int .u64 m.bal) (m.drop.c) := by
  refine g_start Try.func15 rfl 23 rfl (by simp) [b] [.blk b 50 m.c] (WOK.start1 hb) _ rfl ?_
  refine g_seq ?_
  refine g_region ?_
  refine s_q (q_assign rfl) rfl ?_
  refine g_nil ?_
  refine g_then ?_
  refine g_seq ?_
  refine g_seq ?_
  refine g_region ?_
  refine s_q (q_move rfl) rfl ?_
  refine s_q (q_eqp (b := false) rfl rfl rfl) rfl ?_
  refine g_nil ?_
  refine g_then ?_
  refine g_false rfl ?_
  refine g_skip ?_
  refine g_then ?_
  refine g_seq ?_
  refine g_region ?_
  refine s_q (q_move rfl) rfl ?_
  refine s_q (q_nilck rfl) rfl ?_
  refine s_q (q_field rfl) rfl ?_
  refine g_op (g_pure rfl (fun w hw => bal_any _ _ w (InL.sat (by infer_instance) hw)) rfl ?_)
  refine s_q (q_assign rfl) rfl ?_
  refine g_nil ?_
  refine g_then ?_
  refine g_seq ?_
  refine g_region ?_
  refine s_q (q_move rfl) rfl ?_
  refine s_q (q_nilck rfl) rfl ?_
  refine s_q (q_field rfl) rfl ?_
  refine s_q (q_field rfl) rfl ?_
  refine s_q (q_field rfl) rfl ?_
  refine s_q (q_load rfl rfl) rfl ?_
  refine s_q (q_move rfl) rfl ?_
  refine s_q (q_add rfl rfl) rfl ?_
  refine s_q (q_nilck rfl) rfl ?_
  refine s_q (q_field rfl) rfl ?_
  refine s_q (q_field rfl) rfl ?_
  refine s_q (q_field rfl) rfl ?_
  refine g_op (g_store (c' := M.c m.drop) rfl rfl rfl rfl rfl rfl rfl ?_)
  refine g_nil ?_
  refine g_then ?_
  refine g_seq ?_
  refine g_region ?_
  refine s_q (q_move rfl) rfl ?_
  refine s_q (q_assign rfl) rfl ?_
  refine g_nil ?_
  refine g_then ?_
  refine g_ret ?_
  exact fin1 rfl (.tmp rfl) (fun w' hw => ⟨by rfl, by exact InL.sat (by infer_instance) hw, hw.upd⟩) _ (.inl rfl)

theorem totals_any (b : Nat) (m : M) (w : World) (hb : (Res.blk b 50 m.c).sat w) : Pur Try.prog 17 [.pointer (some ⟨b, 0, none⟩)] w (.agg [.int .u64 m.g, .int .u64 m.t, .int .u64 m.d].toArray) := by
  refine g_start Try.func17 rfl 11 rfl (by simp) [b] [.blk b 50 m.c] (WOK.start1 hb) _ rfl ?_
  refine g_seq ?_
  refine g_region ?_
  refine g_op (g_alloc rfl fun b2 => ?_)
  refine g_nil ?_
  refine g_then ?_
  refine g_seq ?_
  refine g_seq ?_
  refine g_region ?_
  refine s_q (q_move rfl) rfl ?_
  refine s_q (q_eqp (b := false) rfl rfl rfl) rfl ?_
  refine g_nil ?_
  refine g_then ?_
  refine g_false rfl ?_
  refine g_skip ?_
  refine g_then ?_
  refine g_seq ?_
  refine g_region ?_
  refine s_q (q_move rfl) rfl ?_
  refine s_q (q_nilck rfl) rfl ?_
  refine s_q (q_field rfl) rfl ?_
  refine s_q (q_field rfl) rfl ?_
  refine s_q (q_loadp (c' := [.int .u64 m.g, .int .u64 m.t, .int .u64 m.d]) rfl rfl rfl) rfl ?_
  refine g_op (g_storew rfl rfl rfl rfl rfl ?_)
  refine g_nil ?_
  refine g_then ?_
  refine g_ret ?_
  exact fin1 rfl (.cellw rfl rfl) (fun w' hw => ⟨by first | rfl | (simp_all ; done) | (simp_all ; omega) | (simp_all  <;> intros <;> omega), Upd.same1 hw.upd hb (InL.sat (by infer_instance) hw)⟩) _ (.inl rfl)

theorem max_any  (w : World) : Pur Try.prog 24 [] w (.int .u64 18446744073709551615) := by
  refine g_start Try.func24 rfl 1 rfl (by simp) [] [] (WOK.start _ _) _ rfl ?_
  refine g_seq ?_
  refine g_region ?_
  refine s_q (q_assign rfl) rfl ?_
  refine g_nil ?_
  refine g_then ?_
  refine g_seq ?_
  refine g_region ?_
  refine s_q (q_assign rfl) rfl ?_
  refine g_nil ?_
  refine g_then ?_
  refine g_ret ?_
  exact fin1 rfl (.tmp rfl) (fun w' hw => ⟨by rfl, hw.upd⟩) _ (.inl rfl)

theorem rgrant_any (b : Nat) (m : R) (x : Int) (w : World) (hb : (Res.blk b 38 m.c).sat w) : Meth Try.prog 21 [.pointer (some ⟨b, 0, none⟩), .int .u64 x] w b 38 (.tuple #[]) ((m.grant x).c) := by
  refine g_start Try.func21 rfl 33 rfl (by simp) [b] [.blk b 38 m.c] (WOK.start1 hb) _ rfl ?_
  refine g_seq ?_
  refine d_region [] mixed rfl rfl ?_
  refine d_q 0 rfl (by kernel_rfl) (q_move rfl) wok_id rfl (ls' := #[true, false, false, false, false, false, false, false, false]) rfl ?_
  refine d_q 2 rfl (by kernel_rfl) (q_move rfl) wok_id rfl (ls' := #[true, false, true, false, false, false, false, false, false]) rfl ?_
  refine d_q 3 rfl (by kernel_rfl) (q_nilck rfl) wok_id rfl (ls' := #[true, false, true, true, false, false, false, false, false]) rfl ?_
  refine d_q 4 rfl (by kernel_rfl) (q_field rfl) wok_id rfl (ls' := #[true, false, true, true, true, false, false, false, false]) rfl ?_
  refine d_q 5 rfl (by kernel_rfl) (q_load rfl rfl) wok_id rfl (ls' := #[true, false, true, true, true, true, false, false, false]) rfl ?_
  refine d_op 1 rfl (by kernel_rfl) (ls' := #[true, true, true, true, true, true, false, false, false]) rfl wok_id (g_pure rfl (fun w hw => max_any w) rfl ?_)
  refine d_q 6 rfl (by kernel_rfl) (q_sub rfl rfl) wok_id rfl (ls' := #[true, true, true, true, true, true, true, false, false]) rfl ?_
  refine d_q 7 rfl (by kernel_rfl) (q_min rfl rfl) wok_id rfl (ls' := #[true, true, true, true, true, true, true, true, false]) rfl ?_
  refine d_q 8 rfl (by kernel_rfl) (q_assign rfl) wok_id rfl (ls' := #[true, true, true, true, true, true, true, true, true]) rfl ?_
  refine d_end (by kernel_rfl) (.inr wok_id) ?_
  refine g_then ?_
  refine g_seq ?_
  refine g_region ?_
  refine s_q (q_move rfl) rfl ?_
  refine s_q (q_move rfl) rfl ?_
  refine s_q (q_nilck rfl) rfl ?_
  refine s_q (q_field rfl) rfl ?_
  refine s_q (q_load rfl rfl) rfl ?_
  refine s_q (q_move rfl) rfl ?_
  refine s_q (q_add rfl rfl) rfl ?_
  refine s_q (q_nilck rfl) rfl ?_
  refine s_q (q_field rfl) rfl ?_
  refine g_op (g_store (c' := R.c ⟨m.b, m.s, U (m.g + min x (U (18446744073709551615 - m.b))), m.t, m.d⟩) rfl rfl rfl rfl rfl rfl rfl ?_)
  refine g_nil ?_
  refine g_then ?_
  refine g_seq ?_
  refine g_region ?_
  refine s_q (q_move rfl) rfl ?_
  refine s_q (q_move rfl) rfl ?_
  refine s_q (q_nilck rfl) rfl ?_
  refine s_q (q_field rfl) rfl ?_
  refine s_q (q_load rfl rfl) rfl ?_
  refine s_q (q_move rfl) rfl ?_
  refine s_q (q_add rfl rfl) rfl ?_
  refine s_q (q_nilck rfl) rfl ?_
  refine s_q (q_field rfl) rfl ?_
  refine g_op (g_store (c' := R.c ⟨U (m.b + min x (U (18446744073709551615 - m.b))), m.s, U (m.g + min x (U (18446744073709551615 - m.b))), m.t, m.d⟩) rfl rfl rfl rfl rfl rfl rfl ?_)
  refine g_nil ?_
  refine g_then ?_
  refine g_region ?_
  refine s_q (q_move rfl) rfl ?_
  refine s_q (q_nilck rfl) rfl ?_
  refine s_q (q_field rfl) rfl ?_
  refine g_op (g_store (c' := R.c (m.grant x)) rfl rfl rfl rfl rfl rfl rfl ?_)
  refine g_nil ?_
  exact fin0 rfl (fun w' hw => ⟨by rfl, by exact InL.sat (by infer_instance) hw, hw.upd⟩) _ (.inr rfl)

theorem rtake_any (b : Nat) (m : R) (x : Int) (w : World) (hb : (Res.blk b 38 m.c).sat w) : Meth Try.prog 22 [.pointer (some ⟨b, 0, none⟩), .int .u64 x] w b 38 (.bool (!decide (m.b < x))) ((m.take x).c) := by
  refine g_start Try.func22 rfl 38 rfl (by simp) [b] [.blk b 38 m.c] (WOK.start1 hb) _ rfl ?_
  refine g_seq ?_
  refine g_region ?_
  refine s_q (q_assign rfl) rfl ?_
  refine g_nil ?_
  refine g_then ?_
  refine g_seq ?_
  refine g_seq ?_
  refine g_region ?_
  refine s_q (q_move rfl) rfl ?_
  refine s_q (q_move rfl) rfl ?_
  refine s_q (q_nilck rfl) rfl ?_
  refine s_q (q_field rfl) rfl ?_
  refine s_q (q_load rfl rfl) rfl ?_
  refine s_q (q_gtr rfl rfl) rfl ?_
  refine g_nil ?_
  refine g_then ?_
  refine g_cond rfl (fun h1 => ?_) (fun h1 => ?_)
  · refine g_seq ?_
    refine g_region ?_
    refine s_q (q_assign rfl) rfl ?_
    refine g_nil ?_
    refine g_then ?_
    refine g_ret ?_
    refine g_then_ret ?_
    exact fin1 rfl (.tmp rfl) (fun w' hw => ⟨by first | rfl | (simp_all ; done) | (simp_all ; omega) | (simp_all  <;> intros <;> omega), by simp only [R.take]; split <;> first | exact InL.sat (by infer_instance) hw | (exfalso; simp_all; done) | (exfalso; simp_all; omega), hw.upd⟩) _ (.inl rfl)
  · refine g_skip ?_
    refine g_then ?_
    refine g_seq ?_
    refine g_region ?_
    refine s_q (q_move rfl) rfl ?_
    refine s_q (q_move rfl) rfl ?_
    refine s_q (q_nilck rfl) rfl ?_
    refine s_q (q_field rfl) rfl ?_
    refine s_q (q_load rfl rfl) rfl ?_
    refine s_q (q_move rfl) rfl ?_
    refine s_q (q_sub rfl rfl) rfl ?_
    refine s_q (q_nilck rfl) rfl ?_
    refine s_q (q_field rfl) rfl ?_
    refine g_op (g_store (c' := R.c ⟨U (m.b - x), m.s, m.g, m.t, m.d⟩) rfl rfl rfl rfl rfl rfl rfl ?_)
    refine g_nil ?_
    refine g_then ?_
    refine g_seq ?_
    refine g_region ?_
    refine s_q (q_move rfl) rfl ?_
    refine s_q (q_move rfl) rfl ?_
    refine s_q (q_nilck rfl) rfl ?_
    refine s_q (q_field rfl) rfl ?_
    refine s_q (q_load rfl rfl) rfl ?_
    refine s_q (q_move rfl) rfl ?_
    refine s_q (q_add rfl rfl) rfl ?_
    refine s_q (q_nilck rfl) rfl ?_
    refine s_q (q_field rfl) rfl ?_
    refine g_op (g_store (c' := R.c ⟨U (m.b - x), U (m.s + x), m.g, m.t, m.d⟩) rfl rfl rfl rfl rfl rfl rfl ?_)
    refine g_nil ?_
    refine g_then ?_
    refine g_seq ?_
    refine g_region ?_
    refine s_q (q_move rfl) rfl ?_
    refine s_q (q_move rfl) rfl ?_
    refine s_q (q_nilck rfl) rfl ?_
    refine s_q (q_field rfl) rfl ?_
    refine s_q (q_load rfl rfl) rfl ?_
    refine s_q (q_move rfl) rfl ?_
    refine s_q (q_add rfl rfl) rfl ?_
    refine s_q (q_nilck rfl) rfl ?_
    refine s_q (q_field rfl) rfl ?_
    refine g_op (g_store (c' := R.c ⟨U (m.b - x), U (m.s + x), m.g, U (m.t + x), m.d⟩) rfl rfl rfl rfl rfl rfl rfl ?_)
    refine g_nil ?_
    refine g_then ?_
    refine g_seq ?_
    refine g_region ?_
    refine s_q (q_assign rfl) rfl ?_
    refine g_nil ?_
    refine g_then ?_
    refine g_ret ?_
    exact fin1 rfl (.tmp rfl) (fun w' hw => ⟨by first | rfl | (simp_all ; done) | (simp_all ; omega) | (simp_all  <;> intros <;> omega), by simp only [R.take]; split <;> first | exact InL.sat (by infer_instance) hw | (exfalso; simp_all; done) | (exfalso; simp_all; omega), hw.upd⟩) _ (.inl rfl)

theorem rdrop_any (b : Nat) (m : R)  (w : World) (hb : (Res.blk b 38 m.c).sat w) : Meth Try.prog 23 [.pointer (some ⟨b, 0, none⟩)] w b 38 (.int .u64 m.b) (m.drop.c) := by
  refine g_start Try.func23 rfl 21 rfl (by simp) [b] [.blk b 38 m.c] (WOK.start1 hb) _ rfl ?_
  refine g_seq ?_
  refine g_region ?_
  refine s_q (q_assign rfl) rfl ?_
  refine g_nil ?_
  refine g_then ?_
  refine g_seq ?_
  refine g_region ?_
  refine s_q (q_move rfl) rfl ?_
  refine s_q (q_nilck rfl) rfl ?_
  refine s_q (q_field rfl) rfl ?_
  refine s_q (q_load rfl rfl) rfl ?_
  refine s_q (q_assign rfl) rfl ?_
  refine g_nil ?_
  refine g_then ?_
  refine g_seq ?_
  refine g_region ?_
  refine s_q (q_move rfl) rfl ?_
  refine s_q (q_move rfl) rfl ?_
  refine s_q (q_nilck rfl) rfl ?_
  refine s_q (q_field rfl) rfl ?_
  refine s_q (q_load rfl rfl) rfl ?_
  refine s_q (q_move rfl) rfl ?_
  refine s_q (q_add rfl rfl) rfl ?_
  refine s_q (q_nilck rfl) rfl ?_
  refine s_q (q_field rfl) rfl ?_
  refine g_op (g_store rfl rfl rfl rfl rfl rfl rfl ?_)
  refine g_nil ?_
  refine g_then ?_
  refine g_seq ?_
  refine g_region ?_
  refine s_q (q_move rfl) rfl ?_
  refine s_q (q_nilck rfl) rfl ?_
  refine s_q (q_field rfl) rfl ?_
  refine g_op (g_store rfl rfl rfl rfl rfl rfl rfl ?_)
  refine g_nil ?_
  refine g_then ?_
  refine g_seq ?_
  refine g_region ?_
  refine s_q (q_move rfl) rfl ?_
  refine s_q (q_assign rfl) rfl ?_
  refine g_nil ?_
  refine g_then ?_
  refine g_ret ?_
  exact fin1 rfl (.tmp rfl) (fun w' hw => ⟨by rfl, by exact InL.sat (by infer_instance) hw, hw.upd⟩) _ (.inl rfl)

def M0 : M := ⟨0, 0, 0, 0⟩
def R0 : R := ⟨0, 0, 0, 0, 0⟩

theorem new_any (w : World) : New Try.prog 10 [] w 50 (M0.c) := by
  refine g_start Try.func10 rfl 3 rfl (by simp) [] [] (WOK.start _ _) _ rfl ?_
  refine g_seq ?_
  refine g_region ?_
  refine s_q (q_assign rfl) rfl ?_
  refine g_nil ?_
  refine g_then ?_
  refine g_seq ?_
  refine g_region ?_
  refine s_q (q_build (c := M0.c) rfl rfl) rfl ?_
  refine g_op (g_box rfl rfl rfl fun b2 => ?_)
  refine s_q (q_assign rfl) rfl ?_
  refine g_nil ?_
  refine g_then ?_
  refine g_ret ?_
  exact fin1 rfl (.tmp rfl) (fun w' hw => ⟨_, rfl, InL.sat (by infer_instance) hw, hw.upd, by simpa using hw.fr 0 _ rfl _ (by simp [Res.blk])⟩) _ (.inl rfl)

theorem alive_any  (w : World) : Pur Try.prog 9 [] w (.bool true) := by
  refine g_start Try.func9 rfl 39 rfl (by simp) [] [] (WOK.start _ _) _ rfl ?_
  refine g_seq ?_
  refine g_region ?_
  refine s_q (q_assign rfl) rfl ?_
  refine g_nil ?_
  refine g_then ?_
  refine g_seq ?_
  refine g_region ?_
  refine g_op (g_new rfl (fun w hw => new_any w) rfl fun bn2 => ?_)
  refine s_q (q_assign rfl) rfl ?_
  refine g_nil ?_
  refine g_then ?_
  refine g_seq ?_
  refine g_region ?_
  refine s_q (q_move rfl) rfl ?_
  refine s_q (q_nep (b := true) rfl rfl rfl) rfl ?_
  refine s_q (q_move rfl) rfl ?_
  refine s_qg (q_move rfl) rfl rfl rfl ?_
  refine g_gt rfl rfl (g_meth rfl (fun w hw => grant_any _ _ _ w hw) rfl ?_)
  refine s_qg (q_eql rfl rfl) rfl rfl rfl ?_
  refine g_litb 8 (b := true) rfl (by decide) ?_
  refine s_q (q_pick_t rfl rfl) rfl ?_
  refine s_q (q_move rfl) rfl ?_
  refine s_qg (q_move rfl) rfl rfl rfl ?_
  refine g_gt rfl rfl (g_meth rfl (fun w hw => take_any _ _ _ w hw) rfl ?_)
  refine g_litb 12 (b := true) rfl (by decide) ?_
  refine s_q (q_pick_t rfl rfl) rfl ?_
  refine s_q (q_move rfl) rfl ?_
  refine s_qg (q_move rfl) rfl rfl rfl ?_
  refine g_gt rfl rfl (g_pure rfl (fun w hw => spent_any _ _ w (InL.sat (by infer_instance) hw)) rfl ?_)
  refine s_qg (q_eql rfl rfl) rfl rfl rfl ?_
  refine g_litb 17 (b := true) rfl (by decide) ?_
  refine s_q (q_pick_t rfl rfl) rfl ?_
  refine s_q (q_move rfl) rfl ?_
  refine s_qg (q_move rfl) rfl rfl rfl ?_
  refine g_gt rfl rfl (g_meth rfl (fun w hw => grant_any _ _ _ w hw) rfl ?_)
  refine s_qg (q_eql rfl rfl) rfl rfl rfl ?_
  refine g_litb 22 (b := true) rfl (by decide) ?_
  refine s_q (q_pick_t rfl rfl) rfl ?_
  refine s_q (q_move rfl) rfl ?_
  refine s_qg (q_move rfl) rfl rfl rfl ?_
  refine g_gt rfl rfl (g_pure rfl (fun w hw => balance_any _ _ w (InL.sat (by infer_instance) hw)) rfl ?_)
  refine s_qg (q_eql rfl rfl) rfl rfl rfl ?_
  refine g_litb 27 (b := true) rfl (by decide) ?_
  refine s_q (q_pick_t rfl rfl) rfl ?_
  refine s_q (q_move rfl) rfl ?_
  refine s_qg (q_move rfl) rfl rfl rfl ?_
  refine g_gt rfl rfl (g_pure rfl (fun w hw => spent_any _ _ w (InL.sat (by infer_instance) hw)) rfl ?_)
  refine s_qg (q_eql rfl rfl) rfl rfl rfl ?_
  refine g_litb 32 (b := true) rfl (by decide) ?_
  refine s_q (q_pick_t rfl rfl) rfl ?_
  refine s_q (q_move rfl) rfl ?_
  refine s_qg (q_move rfl) rfl rfl rfl ?_
  refine g_gt rfl rfl (g_meth rfl (fun w hw => take_any _ _ _ w hw) rfl ?_)
  refine s_qg (q_not rfl) rfl rfl rfl ?_
  refine g_litb 37 (b := true) rfl (by decide) ?_
  refine s_q (q_pick_t rfl rfl) rfl ?_
  refine s_q (q_assign rfl) rfl ?_
  refine g_nil ?_
  refine g_then ?_
  refine g_ret ?_
  exact fin1 rfl (.tmp rfl) (fun w' hw => ⟨by rfl, hw.upd⟩) _ (.inl rfl)
end Go.Proofs.Ythfcpbfnbdoakaa
