/- The shallow reading of one function, and that the function does it. Written by a program. -/
import Derived.Test.YthhpieidlpjbmaaFnC
set_option linter.unusedVariables false
namespace Go.Proofs.Ythhpieidlpjbmaa
open Go Go.HW

def grid_Grid_Size_S (x0 : Value) (h : Heap) (R : Value → Heap → Prop) : Prop :=
  sNil x0 fun x5 =>
  sOff x5 0 fun x6 =>
  sLd h x6 fun x7 =>
  sNil x0 fun x9 =>
  sOff x9 1 fun x10 =>
  sLd h x10 fun x11 =>
  R (.tuple #[x7, x11]) h
set_option maxRecDepth 100000 in
theorem grid_Grid_Size_runs {x0 : Value} {h : Heap} {R : Value → Heap → Prop} (H : grid_Grid_Size_S x0 h R) : grid_Grid_Size_c x0 h R := by
  unfold grid_Grid_Size_S at H
  refine runs_of (b := ⟨#[x0, undef, undef, undef, undef, undef, undef, undef, undef, undef, undef, undef], []⟩) Try.call46 Try.func46 rfl (by kernel_rfl) (fun w0 HA => ?_)
  refine wp_seq ?_
  refine lwp_list ?_
  refine ls_assign (x := (.int .i64 0)) (by kernel_rfl) (by kernel_rfl) ?_
  refine ls_assign (x := (.int .i64 0)) (by kernel_rfl) (by kernel_rfl) ?_
  refine ls_nil ?_
  refine then_normal ?_
  refine fr_eq (b := ⟨#[x0, undef, (.int .i64 0), (.int .i64 0), undef, undef, undef, undef, undef, undef, undef, undef], []⟩) (by kernel_rfl) ?_
  refine wp_seq ?_
  refine lwp_qt (by kernel_rfl) (by kernel_rfl) HA ?_
  refine lq_move (x := x0) (by kernel_rfl) (by kernel_rfl) ?_
  refine lq_p (d := some 5) (by kernel_rfl) (by kernel_rfl) (p_nil (by kernel_rfl) H) (fun x5 H => ?_)
  refine lq_p (d := some 6) (by kernel_rfl) (by kernel_rfl) (p_off Try.underlying68 rfl (fun w => ⟨_, Try.sizeOf3 w⟩) rfl (by kernel_rfl) H) (fun x6 H => ?_)
  refine lq_y (d := some 7) (by kernel_rfl) (by kernel_rfl) HA (y_ld Try.isAgg3 (by kernel_rfl) H) (fun x7 H => ?_)
  refine lq_move (x := x0) (by kernel_rfl) (by kernel_rfl) ?_
  refine lq_p (d := some 9) (by kernel_rfl) (by kernel_rfl) (p_nil (by kernel_rfl) H) (fun x9 H => ?_)
  refine lq_p (d := some 10) (by kernel_rfl) (by kernel_rfl) (p_off Try.underlying68 rfl (fun w => ⟨_, Try.sizeOf3 w⟩) rfl (by kernel_rfl) H) (fun x10 H => ?_)
  refine lq_y (d := some 11) (by kernel_rfl) (by kernel_rfl) HA (y_ld Try.isAgg3 (by kernel_rfl) H) (fun x11 H => ?_)
  refine lq_assign (x := x7) (by kernel_rfl) (by kernel_rfl) ?_
  refine lq_assign (x := x11) (by kernel_rfl) (by kernel_rfl) ?_
  refine lq_nil ?_
  intro w HA
  refine then_normal ?_
  refine fr_eq (b := ⟨#[x0, undef, x7, x11, x0, x5, x6, x7, x0, x9, x10, x11], []⟩) (by kernel_rfl) ?_
  refine wp_ret ?_
  exact end2 (Try.results46) (by kernel_rfl) (by kernel_rfl) (by kernel_rfl) HA H _ (.inr rfl)

end Go.Proofs.Ythhpieidlpjbmaa
