/- The shallow reading of one function, and that the function does it. Written by a program. -/
import Derived.Test.YtecoejjpdogklaaFnC
set_option linter.unusedVariables false
namespace Go.Proofs.Ytecoejjpdogklaa
open Go Go.HW

def fifo_Queue_Clear_S (x0 : Value) (h : Heap) (R : Value → Heap → Prop) : Prop :=
  sNil x0 fun x3 =>
  sOff x3 3 fun x4 =>
  sSt h x4 (.slice none 0 0) fun h => 
  R unit h
set_option maxRecDepth 100000 in
theorem fifo_Queue_Clear_runs {x0 : Value} {h : Heap} {R : Value → Heap → Prop} (H : fifo_Queue_Clear_S x0 h R) : fifo_Queue_Clear_c x0 h R := by
  unfold fifo_Queue_Clear_S at H
  refine runs_of (b := ⟨#[x0, undef, undef, undef, undef], []⟩) Try.call42 Try.func42 rfl (by kernel_rfl) (fun w0 HA => ?_)
  refine lwp_list ?_
  refine ls_move (x := x0) (by kernel_rfl) (by kernel_rfl) ?_
  refine ls_p (d := some 3) (by kernel_rfl) (by kernel_rfl) (p_nil (by kernel_rfl) H) (fun x3 H => ?_)
  refine ls_p (d := some 4) (by kernel_rfl) (by kernel_rfl) (p_off Try.underlying96 rfl (fun w => ⟨_, Try.sizeOf94 w⟩) rfl (by kernel_rfl) H) (fun x4 H => ?_)
  refine ls_d (d := none) (by kernel_rfl) (by kernel_rfl) HA (d_st Try.sizeOf94 (by kernel_rfl) (by kernel_rfl) H) (fun _ h w H HA => ?_)
  refine ls_nil ?_
  exact end0 (Try.results42) (by kernel_rfl) HA H _ (.inl rfl)

end Go.Proofs.Ytecoejjpdogklaa
