/- The shallow reading of one function, and that the function does it. Written by a program. -/
import Derived.Test.YtlcklnbgknhhkaaFnC
set_option linter.unusedVariables false
namespace Go.Proofs.Ytlcklnbgknhhkaa
open Go Go.HW

def termios_within_S (x0 x1 : Value) (h : Heap) (R : Value → Heap → Prop) : Prop :=
  sGe x0 (.int .i64 0) fun x6 =>
  sAnd x6 (fun k =>
  sLe x0 x1 fun x10 =>
  k x10) fun x11 =>
  R x11 h
set_option maxRecDepth 100000 in
theorem termios_within_runs {x0 x1 : Value} {h : Heap} {R : Value → Heap → Prop} (H : termios_within_S x0 x1 h R) : termios_within_c x0 x1 h R := by
  unfold termios_within_S at H
  refine runs_of (b := ⟨#[x0, x1, undef, undef, undef, undef, undef, undef, undef, undef, undef, undef], []⟩) Try.call60 Try.func60 rfl (by kernel_rfl) (fun w0 HA => ?_)
  refine wp_seq ?_
  refine lwp_list ?_
  refine ls_assign (x := (.bool false)) (by kernel_rfl) (by kernel_rfl) ?_
  refine ls_nil ?_
  refine then_normal ?_
  refine fr_eq (b := ⟨#[x0, x1, undef, undef, (.bool false), undef, undef, undef, undef, undef, undef, undef], []⟩) (by kernel_rfl) ?_
  refine wp_seq ?_
  refine lwp_list ?_
  refine ls_move (x := x0) (by kernel_rfl) (by kernel_rfl) ?_
  refine ls_p (d := some 6) (by kernel_rfl) (by kernel_rfl) (p_sGe (by kernel_rfl) (by kernel_rfl) H) (fun x6 H => ?_)
  refine ls_move (x := x6) (by kernel_rfl) (by kernel_rfl) ?_
  refine ls_and [(), (), (), ()] (fun K a w => ∃ (D : Nat → Value) (x11 : Value), a = ⟨#[x0, x1, undef, undef, (.bool false), x0, x6, x6, (D 0), (D 1), (D 2), x11], []⟩ ∧ At w0 w h ∧ K x11) H (fun hb H => ?_) (fun hb H => ?_) ?_
  · refine ls_move (x := x0) (by rw [hb]; kernel_rfl) (by kernel_rfl) ?_
    refine ls_move (x := x1) (by rw [hb]; kernel_rfl) (by kernel_rfl) ?_
    refine ls_p (d := some 10) (by kernel_rfl) (by rw [hb]; kernel_rfl) (p_sLe (by kernel_rfl) (by kernel_rfl) H) (fun x10 H => ?_)
    refine ls_pick_t (x := x10) (by kernel_rfl) (by rw [hb]; kernel_rfl) (by kernel_rfl) ?_
    refine ls_nil ?_
    refine then_normal ?_
    exact ⟨(fun i => ([x0, x1, x10]).getD i undef), x10, by kernel_rfl, HA, H⟩
  · refine ls_skip (d := some 8) (by kernel_rfl) (by rw [hb]; kernel_rfl) ?_
    refine ls_skip (d := some 9) (by kernel_rfl) (by rw [hb]; kernel_rfl) ?_
    refine ls_skip (d := some 10) (by kernel_rfl) (by rw [hb]; kernel_rfl) ?_
    refine ls_pick_f (y := (.bool false)) (by kernel_rfl) (by rw [hb]; kernel_rfl) (by kernel_rfl) ?_
    refine ls_nil ?_
    refine then_normal ?_
    exact ⟨(fun i => ([undef, undef, undef]).getD i undef), (.bool false), by kernel_rfl, HA, H⟩
  · rintro _ w ⟨D, x11, rfl, HA, H⟩
    refine ls_assign (x := x11) (by kernel_rfl) (by kernel_rfl) ?_
    refine ls_nil ?_
    refine then_normal ?_
    refine fr_eq (b := ⟨#[x0, x1, undef, undef, x11, x0, x6, x6, (D 0), (D 1), (D 2), x11], []⟩) (by kernel_rfl) ?_
    refine wp_ret ?_
    exact end1 (Try.results60) (by kernel_rfl) (by kernel_rfl) HA H _ (.inr rfl)

end Go.Proofs.Ytlcklnbgknhhkaa
