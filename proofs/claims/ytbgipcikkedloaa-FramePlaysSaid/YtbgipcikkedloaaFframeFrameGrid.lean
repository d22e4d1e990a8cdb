/- The shallow reading of one function, and that the function does it. Written by a program. -/
import Derived.Test.YtbgipcikkedloaaFnC
set_option linter.unusedVariables false
namespace Go.Proofs.Ytbgipcikkedloaa
open Go Go.HW

def frame_Frame_Grid_S (x0 : Value) (h : Heap) (R : Value → Heap → Prop) : Prop :=
  sNil x0 fun x4 =>
  sOff x4 0 fun x5 =>
  sLd h x5 fun x6 =>
  grid_Grid_Clone_c x6 h fun x7 h => 
  R x7 h
set_option maxRecDepth 100000 in
theorem frame_Frame_Grid_runs {x0 : Value} {h : Heap} {R : Value → Heap → Prop} (H : frame_Frame_Grid_S x0 h R) : frame_Frame_Grid_c x0 h R := by
  unfold frame_Frame_Grid_S at H
  refine runs_of (b := ⟨#[x0, undef, undef, undef, undef, undef, undef, undef], []⟩) Try.call12 Try.func12 rfl (by kernel_rfl) (fun w0 HA => ?_)
  refine wp_seq ?_
  refine lwp_list ?_
  refine ls_assign (x := (.pointer none)) (by kernel_rfl) (by kernel_rfl) ?_
  refine ls_nil ?_
  refine then_normal ?_
  refine fr_eq (b := ⟨#[x0, undef, (.pointer none), undef, undef, undef, undef, undef], []⟩) (by kernel_rfl) ?_
  refine wp_seq ?_
  refine lwp_list ?_
  refine ls_move (x := x0) (by kernel_rfl) (by kernel_rfl) ?_
  refine ls_p (d := some 4) (by kernel_rfl) (by kernel_rfl) (p_nil (by kernel_rfl) H) (fun x4 H => ?_)
  refine ls_p (d := some 5) (by kernel_rfl) (by kernel_rfl) (p_off Try.underlying38 rfl (fun w => ⟨_, Try.sizeOf26 w⟩) rfl (by kernel_rfl) H) (fun x5 H => ?_)
  refine ls_y (d := some 6) (by kernel_rfl) (by kernel_rfl) HA (y_ld Try.isAgg26 (by kernel_rfl) H) (fun x6 H => ?_)
  refine ls_d (d := some 7) (by kernel_rfl) (by kernel_rfl) HA (d_call (by kernel_rfl) (by kernel_rfl) H) (fun x7 h w H HA => ?_)
  refine ls_assign (x := x7) (by kernel_rfl) (by kernel_rfl) ?_
  refine ls_nil ?_
  refine then_normal ?_
  refine fr_eq (b := ⟨#[x0, undef, x7, x0, x4, x5, x6, x7], []⟩) (by kernel_rfl) ?_
  refine wp_ret ?_
  exact end1 (Try.results12) (by kernel_rfl) (by kernel_rfl) HA H _ (.inr rfl)

end Go.Proofs.Ytbgipcikkedloaa
