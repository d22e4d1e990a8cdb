/- The shallow reading of one function, and that the function does it. Written by a program. -/
import Derived.Test.YtbgipcikkedloaaFnC
set_option linter.unusedVariables false
namespace Go.Proofs.Ytbgipcikkedloaa
open Go Go.HW

def frame_New_S (x0 x1 : Value) (h : Heap) (R : Value → Heap → Prop) : Prop :=
  grid_New_c x0 x1 h fun x8 h => 
  sEqlNil x8 fun x10 =>
  sIf x10 (R (.pointer none) h) (sBuild #[.pointer none, .slice none 0 0] [(0, 1, x8)] fun x12 =>
  sBox h x12 38 fun x13 h_1 => 
  R x13 h_1)
set_option maxRecDepth 100000 in
theorem frame_New_runs {x0 x1 : Value} {h : Heap} {R : Value → Heap → Prop} (H : frame_New_S x0 x1 h R) : frame_New_c x0 x1 h R := by
  unfold frame_New_S at H
  refine runs_of (b := ⟨#[x0, x1, undef, undef, undef, undef, undef, undef, undef, undef, undef, undef, undef, undef], []⟩) Try.call11 Try.func11 rfl (by kernel_rfl) (fun w0 HA => ?_)
  refine wp_seq ?_
  refine lwp_list ?_
  refine ls_assign (x := (.pointer none)) (by kernel_rfl) (by kernel_rfl) ?_
  refine ls_nil ?_
  refine then_normal ?_
  refine fr_eq (b := ⟨#[x0, x1, undef, undef, (.pointer none), undef, undef, undef, undef, undef, undef, undef, undef, undef], []⟩) (by kernel_rfl) ?_
  refine wp_seq ?_
  refine lwp_list ?_
  refine ls_move (x := x0) (by kernel_rfl) (by kernel_rfl) ?_
  refine ls_move (x := x1) (by kernel_rfl) (by kernel_rfl) ?_
  refine ls_d (d := some 8) (by kernel_rfl) (by kernel_rfl) HA (d_call (by kernel_rfl) (by kernel_rfl) H) (fun x8 h w H HA => ?_)
  refine ls_assign (x := x8) (by kernel_rfl) (by kernel_rfl) ?_
  refine ls_nil ?_
  refine then_normal ?_
  refine fr_eq (b := ⟨#[x0, x1, undef, undef, (.pointer none), x8, x0, x1, x8, undef, undef, undef, undef, undef], []⟩) (by kernel_rfl) ?_
  refine wp_seq ?_
  refine wp_seq ?_
  refine lwp_list ?_
  refine ls_move (x := x8) (by kernel_rfl) (by kernel_rfl) ?_
  refine ls_p (d := some 10) (by kernel_rfl) (by kernel_rfl) (p_eqlNil Try.underlying26 (by kernel_rfl) (by kernel_rfl) H) (fun x10 H => ?_)
  refine ls_nil ?_
  refine then_normal ?_
  refine fr_eq (b := ⟨#[x0, x1, undef, undef, (.pointer none), x8, x0, x1, x8, x8, x10, undef, undef, undef], []⟩) (by kernel_rfl) ?_
  refine wp_if rfl H (fun H => ?_) (fun H => ?_)
  · refine wp_seq ?_
    refine lwp_list ?_
    refine ls_assign (x := (.pointer none)) (by kernel_rfl) (by kernel_rfl) ?_
    refine ls_nil ?_
    refine then_normal ?_
    refine fr_eq (b := ⟨#[x0, x1, undef, undef, (.pointer none), x8, x0, x1, x8, x8, x10, undef, undef, undef], []⟩) (by kernel_rfl) ?_
    refine wp_ret ?_
    refine then_ret ?_
    exact end1 (Try.results11) (by kernel_rfl) (by kernel_rfl) HA H _ (.inr rfl)
  · refine wp_skip ?_
    refine then_normal ?_
    refine fr_eq (b := ⟨#[x0, x1, undef, undef, (.pointer none), x8, x0, x1, x8, x8, x10, undef, undef, undef], []⟩) (by kernel_rfl) ?_
    refine wp_seq ?_
    refine lwp_list ?_
    refine ls_move (x := x8) (by kernel_rfl) (by kernel_rfl) ?_
    refine ls_p (d := some 12) (by kernel_rfl) (by kernel_rfl) (p_lit (pl := [(0, 1), (1, 1)]) Try.zeroValue38 Try.underlying38 ⟨(by kernel_rfl), Try.sizeOf26, (by kernel_rfl), Try.sizeOf22, trivial⟩ (by kernel_rfl) (by kernel_rfl) H) (fun x12 H => ?_)
    refine ls_d (d := some 13) (by kernel_rfl) (by kernel_rfl) HA (d_box (by kernel_rfl) H) (fun x13 h_1 w_1 H HA_1 => ?_)
    refine ls_assign (x := x13) (by kernel_rfl) (by kernel_rfl) ?_
    refine ls_nil ?_
    refine then_normal ?_
    refine fr_eq (b := ⟨#[x0, x1, undef, undef, x13, x8, x0, x1, x8, x8, x10, x8, x12, x13], []⟩) (by kernel_rfl) ?_
    refine wp_ret ?_
    exact end1 (Try.results11) (by kernel_rfl) (by kernel_rfl) HA_1 H _ (.inr rfl)

end Go.Proofs.Ytbgipcikkedloaa
