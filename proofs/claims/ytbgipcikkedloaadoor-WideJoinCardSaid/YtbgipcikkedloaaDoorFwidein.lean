/- The shallow reading of one function, and that the function does it. Written by a program. -/
import Derived.Test.YtbgipcikkedloaaDoorFnC
set_option linter.unusedVariables false
namespace Go.Proofs.YtbgipcikkedloaaDoor
open Go Go.HW

def wide_in_S (x0 x1 : Value) (h : Heap) (R : Value → Heap → Prop) : Prop :=
  slices_BinarySearchFunc_wide_row_wide_row_rune_c x0 x1 (.func (.func 16) #[] #[]) h fun x10 h => 
  sTup x10 0 fun x11 =>
  sTup x10 1 fun x12 =>
  R x12 h
set_option maxRecDepth 100000 in
theorem wide_in_runs {x0 x1 : Value} {h : Heap} {R : Value → Heap → Prop} (H : wide_in_S x0 x1 h R) : wide_in_c x0 x1 h R := by
  unfold wide_in_S at H
  refine runs_of (b := ⟨#[x0, x1, undef, undef, undef, undef, undef, undef, undef, undef, undef, undef, undef, undef], []⟩) Tryd.call13 Tryd.func13 rfl (by kernel_rfl) (fun w0 HA => ?_)
  refine wp_seq ?_
  refine lwp_list ?_
  refine ls_assign (x := (.bool false)) (by kernel_rfl) (by kernel_rfl) ?_
  refine ls_nil ?_
  refine then_normal ?_
  refine fr_eq (b := ⟨#[x0, x1, undef, undef, (.bool false), undef, undef, undef, undef, undef, undef, undef, undef, undef], []⟩) (by kernel_rfl) ?_
  refine wp_seq ?_
  refine lwp_list ?_
  refine ls_move (x := x0) (by kernel_rfl) (by kernel_rfl) ?_
  refine ls_move (x := x1) (by kernel_rfl) (by kernel_rfl) ?_
  refine ls_d (d := some 10) (by kernel_rfl) (by kernel_rfl) HA (d_call (by kernel_rfl) (by kernel_rfl) H) (fun x10 h w H HA => ?_)
  refine ls_move (x := x10) (by kernel_rfl) (by kernel_rfl) ?_
  refine ls_p (d := some 11) (by kernel_rfl) (by kernel_rfl) (p_tup (by kernel_rfl) H) (fun x11 H => ?_)
  refine ls_p (d := some 12) (by kernel_rfl) (by kernel_rfl) (p_tup (by kernel_rfl) H) (fun x12 H => ?_)
  refine ls_fr (b := ⟨#[x0, x1, undef, undef, (.bool false), undef, undef, x10, x0, x1, x10, x11, x12, undef], []⟩) (by kernel_rfl) ?_
  refine ls_assign (x := x11) (by kernel_rfl) (by kernel_rfl) ?_
  refine ls_assign (x := x12) (by kernel_rfl) (by kernel_rfl) ?_
  refine ls_nil ?_
  refine then_normal ?_
  refine fr_eq (b := ⟨#[x0, x1, undef, undef, (.bool false), x11, x12, x10, x0, x1, x10, x11, x12, undef], []⟩) (by kernel_rfl) ?_
  refine wp_seq ?_
  refine lwp_list ?_
  refine ls_move (x := x12) (by kernel_rfl) (by kernel_rfl) ?_
  refine ls_assign (x := x12) (by kernel_rfl) (by kernel_rfl) ?_
  refine ls_nil ?_
  refine then_normal ?_
  refine fr_eq (b := ⟨#[x0, x1, undef, undef, x12, x11, x12, x10, x0, x1, x10, x11, x12, x12], []⟩) (by kernel_rfl) ?_
  refine wp_ret ?_
  exact end1 (Tryd.results13) (by kernel_rfl) (by kernel_rfl) HA H _ (.inr rfl)

end Go.Proofs.YtbgipcikkedloaaDoor
