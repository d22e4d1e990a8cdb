/- The shallow reading of one function, and that the function does it. Written by a program. -/
import Derived.Test.YtecoejjpdogklaaFnC
set_option linter.unusedVariables false
namespace Go.Proofs.Ytecoejjpdogklaa
open Go Go.HW

def fifo_Queue_taken_1_S (x0 : Value) (h : Heap) (R : Value → Heap → Prop) : Prop :=
  sBox h x0 98 fun x1 h => 
  sOff x1 1 fun x3 =>
  sLd h x3 fun x4 =>
  R x4 h
set_option maxRecDepth 100000 in
theorem fifo_Queue_taken_1_runs {x0 : Value} {h : Heap} {R : Value → Heap → Prop} (H : fifo_Queue_taken_1_S x0 h R) : fifo_Queue_taken_1_c x0 h R := by
  unfold fifo_Queue_taken_1_S at H
  refine runs_of (b := ⟨#[x0, undef, undef, undef, undef], []⟩) Try.call70 Try.func70 rfl (by kernel_rfl) (fun w0 HA => ?_)
  refine wp_seq ?_
  refine lwp_list ?_
  refine ls_d (d := some 1) (by kernel_rfl) (by kernel_rfl) HA (d_box (by kernel_rfl) H) (fun x1 h w H HA => ?_)
  refine ls_assign (x := (.bool false)) (by kernel_rfl) (by kernel_rfl) ?_
  refine ls_nil ?_
  refine then_normal ?_
  refine fr_eq (b := ⟨#[x0, x1, (.bool false), undef, undef], []⟩) (by kernel_rfl) ?_
  refine wp_seq ?_
  refine lwp_list ?_
  refine ls_p (d := some 3) (by kernel_rfl) (by kernel_rfl) (p_off Try.underlying98 rfl (fun w => ⟨_, Try.sizeOf4 w⟩) rfl (by kernel_rfl) H) (fun x3 H => ?_)
  refine ls_y (d := some 4) (by kernel_rfl) (by kernel_rfl) HA (y_ld Try.isAgg4 (by kernel_rfl) H) (fun x4 H => ?_)
  refine ls_assign (x := x4) (by kernel_rfl) (by kernel_rfl) ?_
  refine ls_nil ?_
  refine then_normal ?_
  refine fr_eq (b := ⟨#[x0, x1, x4, x3, x4], []⟩) (by kernel_rfl) ?_
  refine wp_ret ?_
  exact end1 (Try.results70) (by kernel_rfl) (by kernel_rfl) HA H _ (.inr rfl)

end Go.Proofs.Ytecoejjpdogklaa
