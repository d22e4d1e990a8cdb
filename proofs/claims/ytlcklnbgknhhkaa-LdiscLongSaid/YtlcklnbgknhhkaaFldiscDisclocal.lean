/- The shallow reading of one function, and that the function does it. Written by a program. -/
import Derived.Test.YtlcklnbgknhhkaaFnC
set_option linter.unusedVariables false
namespace Go.Proofs.Ytlcklnbgknhhkaa
open Go Go.HW

def ldisc_Disc_local_S (x0 x1 : Value) (h : Heap) (R : Value → Heap → Prop) : Prop :=
  sNil x0 fun x6 =>
  sOff x6 0 fun x7 =>
  sOff x7 2 fun x8 =>
  sLd h x8 fun x9 =>
  sBits .and .i64 x9 x1 fun x11 =>
  sNe x11 (.int .i64 0) fun x12 =>
  R x12 h
set_option maxRecDepth 100000 in
theorem ldisc_Disc_local_runs {x0 x1 : Value} {h : Heap} {R : Value → Heap → Prop} (H : ldisc_Disc_local_S x0 x1 h R) : ldisc_Disc_local_c x0 x1 h R := by
  unfold ldisc_Disc_local_S at H
  refine runs_of (b := ⟨#[x0, x1, undef, undef, undef, undef, undef, undef, undef, undef, undef, undef, undef], []⟩) Try.call41 Try.func41 rfl (by kernel_rfl) (fun w0 HA => ?_)
  refine wp_seq ?_
  refine lwp_list ?_
  refine ls_assign (x := (.bool false)) (by kernel_rfl) (by kernel_rfl) ?_
  refine ls_nil ?_
  refine then_normal ?_
  refine fr_eq (b := ⟨#[x0, x1, undef, undef, (.bool false), undef, undef, undef, undef, undef, undef, undef, undef], []⟩) (by kernel_rfl) ?_
  refine wp_seq ?_
  refine lwp_list ?_
  refine ls_move (x := x0) (by kernel_rfl) (by kernel_rfl) ?_
  refine ls_p (d := some 6) (by kernel_rfl) (by kernel_rfl) (p_nil (by kernel_rfl) H) (fun x6 H => ?_)
  refine ls_p (d := some 7) (by kernel_rfl) (by kernel_rfl) (p_off Try.underlying72 rfl (fun w => ⟨_, Try.sizeOf28 w⟩) rfl (by kernel_rfl) H) (fun x7 H => ?_)
  refine ls_p (d := some 8) (by kernel_rfl) (by kernel_rfl) (p_off Try.underlying28 rfl (fun w => ⟨_, Try.sizeOf3 w⟩) rfl (by kernel_rfl) H) (fun x8 H => ?_)
  refine ls_y (d := some 9) (by kernel_rfl) (by kernel_rfl) HA (y_ld Try.isAgg3 (by kernel_rfl) H) (fun x9 H => ?_)
  refine ls_move (x := x1) (by kernel_rfl) (by kernel_rfl) ?_
  refine ls_fr (b := ⟨#[x0, x1, undef, undef, (.bool false), x0, x6, x7, x8, x9, x1, undef, undef], []⟩) (by kernel_rfl) ?_
  refine ls_p (d := some 11) (by kernel_rfl) (by kernel_rfl) (p_bits (by decide) (by kernel_rfl) (by kernel_rfl) H) (fun x11 H => ?_)
  refine ls_p (d := some 12) (by kernel_rfl) (by kernel_rfl) (p_sNe (by kernel_rfl) (by kernel_rfl) H) (fun x12 H => ?_)
  refine ls_assign (x := x12) (by kernel_rfl) (by kernel_rfl) ?_
  refine ls_nil ?_
  refine then_normal ?_
  refine fr_eq (b := ⟨#[x0, x1, undef, undef, x12, x0, x6, x7, x8, x9, x1, x11, x12], []⟩) (by kernel_rfl) ?_
  refine wp_ret ?_
  exact end1 (Try.results41) (by kernel_rfl) (by kernel_rfl) HA H _ (.inr rfl)

end Go.Proofs.Ytlcklnbgknhhkaa
