/- The shallow reading of one function, and that the function does it. Written by a program. -/
import Derived.Test.YtlcklnbgknhhkaaFnC
set_option linter.unusedVariables false
namespace Go.Proofs.Ytlcklnbgknhhkaa
open Go Go.HW

def ldisc_Disc_extended_1_S (x0 : Value) (h : Heap) (R : Value → Heap → Prop) : Prop :=
  ldisc_isBlank_c x0 h fun x4 h => 
  sNot x4 fun x5 =>
  R x5 h
set_option maxRecDepth 100000 in
theorem ldisc_Disc_extended_1_runs {x0 : Value} {h : Heap} {R : Value → Heap → Prop} (H : ldisc_Disc_extended_1_S x0 h R) : ldisc_Disc_extended_1_c x0 h R := by
  unfold ldisc_Disc_extended_1_S at H
  refine runs_of (b := ⟨#[x0, undef, undef, undef, undef, undef], []⟩) Try.call87 Try.func87 rfl (by kernel_rfl) (fun w0 HA => ?_)
  refine wp_seq ?_
  refine lwp_list ?_
  refine ls_assign (x := (.bool false)) (by kernel_rfl) (by kernel_rfl) ?_
  refine ls_nil ?_
  refine then_normal ?_
  refine fr_eq (b := ⟨#[x0, undef, (.bool false), undef, undef, undef], []⟩) (by kernel_rfl) ?_
  refine wp_seq ?_
  refine lwp_list ?_
  refine ls_move (x := x0) (by kernel_rfl) (by kernel_rfl) ?_
  refine ls_d (d := some 4) (by kernel_rfl) (by kernel_rfl) HA (d_call (by kernel_rfl) (by kernel_rfl) H) (fun x4 h w H HA => ?_)
  refine ls_p (d := some 5) (by kernel_rfl) (by kernel_rfl) (p_not (by kernel_rfl) H) (fun x5 H => ?_)
  refine ls_assign (x := x5) (by kernel_rfl) (by kernel_rfl) ?_
  refine ls_nil ?_
  refine then_normal ?_
  refine fr_eq (b := ⟨#[x0, undef, x5, x0, x4, x5], []⟩) (by kernel_rfl) ?_
  refine wp_ret ?_
  exact end1 (Try.results87) (by kernel_rfl) (by kernel_rfl) HA H _ (.inr rfl)

end Go.Proofs.Ytlcklnbgknhhkaa
