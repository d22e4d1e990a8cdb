/- The shallow reading of one function, and that the function does it. Written by a program. -/
import Derived.Test.YtlcklnbgknhhkaaFnC
set_option linter.unusedVariables false
namespace Go.Proofs.Ytlcklnbgknhhkaa
open Go Go.HW

def ldisc_Disc_edit_1_S (x0 : Value) (h : Heap) (R : Value → Heap → Prop) : Prop :=
  R (.bool true) h
set_option maxRecDepth 100000 in
theorem ldisc_Disc_edit_1_runs {x0 : Value} {h : Heap} {R : Value → Heap → Prop} (H : ldisc_Disc_edit_1_S x0 h R) : ldisc_Disc_edit_1_c x0 h R := by
  unfold ldisc_Disc_edit_1_S at H
  refine runs_of (b := ⟨#[x0, undef, undef], []⟩) Try.call82 Try.func82 rfl (by kernel_rfl) (fun w0 HA => ?_)
  refine wp_seq ?_
  refine lwp_list ?_
  refine ls_assign (x := (.bool false)) (by kernel_rfl) (by kernel_rfl) ?_
  refine ls_nil ?_
  refine then_normal ?_
  refine fr_eq (b := ⟨#[x0, undef, (.bool false)], []⟩) (by kernel_rfl) ?_
  refine wp_seq ?_
  refine lwp_list ?_
  refine ls_assign (x := (.bool true)) (by kernel_rfl) (by kernel_rfl) ?_
  refine ls_nil ?_
  refine then_normal ?_
  refine fr_eq (b := ⟨#[x0, undef, (.bool true)], []⟩) (by kernel_rfl) ?_
  refine wp_ret ?_
  exact end1 (Try.results82) (by kernel_rfl) (by kernel_rfl) HA H _ (.inr rfl)

end Go.Proofs.Ytlcklnbgknhhkaa
