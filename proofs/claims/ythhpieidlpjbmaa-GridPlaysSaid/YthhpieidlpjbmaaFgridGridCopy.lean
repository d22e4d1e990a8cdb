/- The shallow reading of one function, and that the function does it. Written by a program. -/
import Derived.Test.YthhpieidlpjbmaaFnC
set_option linter.unusedVariables false
namespace Go.Proofs.Ythhpieidlpjbmaa
open Go Go.HW

def grid_Grid_Copy_S (x0 x1 x2 x3 : Value) (h : Heap) (R : Value → Heap → Prop) : Prop :=
  sBox h x1 23 fun x5 h => 
  sLdN h x5 4 fun x11 =>
  grid_Grid_Blit_c x0 x0 x11 x2 x3 h fun x14 h_1 => 
  R x14 h_1
set_option maxRecDepth 100000 in
theorem grid_Grid_Copy_runs {x0 x1 x2 x3 : Value} {h : Heap} {R : Value → Heap → Prop} (H : grid_Grid_Copy_S x0 x1 x2 x3 h R) : grid_Grid_Copy_c x0 x1 x2 x3 h R := by
  unfold grid_Grid_Copy_S at H
  refine runs_of (b := ⟨#[x0, x1, x2, x3, undef, undef, undef, undef, undef, undef, undef, undef, undef, undef, undef], []⟩) Try.call21 Try.func21 rfl (by kernel_rfl) (fun w0 HA => ?_)
  refine wp_seq ?_
  refine lwp_list ?_
  refine ls_d (d := some 5) (by kernel_rfl) (by kernel_rfl) HA (d_box (by kernel_rfl) H) (fun x5 h w H HA => ?_)
  refine ls_assign (x := (.int .i64 0)) (by kernel_rfl) (by kernel_rfl) ?_
  refine ls_nil ?_
  refine then_normal ?_
  refine fr_eq (b := ⟨#[x0, x1, x2, x3, undef, x5, undef, undef, (.int .i64 0), undef, undef, undef, undef, undef, undef], []⟩) (by kernel_rfl) ?_
  refine wp_seq ?_
  refine lwp_list ?_
  refine ls_move (x := x0) (by kernel_rfl) (by kernel_rfl) ?_
  refine ls_move (x := x0) (by kernel_rfl) (by kernel_rfl) ?_
  refine ls_y (d := some 11) (by kernel_rfl) (by kernel_rfl) HA (y_ldn Try.isAgg23 Try.sizeOf23 (by kernel_rfl) H) (fun x11 H => ?_)
  refine ls_move (x := x2) (by kernel_rfl) (by kernel_rfl) ?_
  refine ls_move (x := x3) (by kernel_rfl) (by kernel_rfl) ?_
  refine ls_d (d := some 14) (by kernel_rfl) (by kernel_rfl) HA (d_call (by kernel_rfl) (by kernel_rfl) H) (fun x14 h_1 w_1 H HA_1 => ?_)
  refine ls_fr (b := ⟨#[x0, x1, x2, x3, undef, x5, undef, undef, (.int .i64 0), x0, x0, x11, x2, x3, x14], []⟩) (by kernel_rfl) ?_
  refine ls_assign (x := x14) (by kernel_rfl) (by kernel_rfl) ?_
  refine ls_nil ?_
  refine then_normal ?_
  refine fr_eq (b := ⟨#[x0, x1, x2, x3, undef, x5, undef, undef, x14, x0, x0, x11, x2, x3, x14], []⟩) (by kernel_rfl) ?_
  refine wp_ret ?_
  exact end1 (Try.results21) (by kernel_rfl) (by kernel_rfl) HA_1 H _ (.inr rfl)

end Go.Proofs.Ythhpieidlpjbmaa
