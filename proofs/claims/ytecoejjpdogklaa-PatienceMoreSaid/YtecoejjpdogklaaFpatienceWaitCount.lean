/- The shallow reading of one function, and that the function does it. Written by a program. -/
import Derived.Test.YtecoejjpdogklaaFnC
set_option linter.unusedVariables false
namespace Go.Proofs.Ytecoejjpdogklaa
open Go Go.HW

def patience_Wait_Count_S (x0 : Value) (h : Heap) (R : Value → Heap → Prop) : Prop :=
  sNil x0 fun x4 =>
  sOff x4 3 fun x5 =>
  sLd h x5 fun x6 =>
  sNil x0 fun x8 =>
  sOff x8 2 fun x9 =>
  sLd h x9 fun x10 =>
  sMin x6 x10 fun x11 =>
  R x11 h
set_option maxRecDepth 100000 in
theorem patience_Wait_Count_runs {x0 : Value} {h : Heap} {R : Value → Heap → Prop} (H : patience_Wait_Count_S x0 h R) : patience_Wait_Count_c x0 h R := by
  unfold patience_Wait_Count_S at H
  refine runs_of (b := ⟨#[x0, undef, undef, undef, undef, undef, undef, undef, undef, undef, undef, undef], []⟩) Try.call18 Try.func18 rfl (by kernel_rfl) (fun w0 HA => ?_)
  refine wp_seq ?_
  refine lwp_list ?_
  refine ls_assign (x := (.int .i64 0)) (by kernel_rfl) (by kernel_rfl) ?_
  refine ls_nil ?_
  refine then_normal ?_
  refine fr_eq (b := ⟨#[x0, undef, (.int .i64 0), undef, undef, undef, undef, undef, undef, undef, undef, undef], []⟩) (by kernel_rfl) ?_
  refine wp_seq ?_
  refine lwp_qt (by kernel_rfl) (by kernel_rfl) HA ?_
  refine lq_move (x := x0) (by kernel_rfl) (by kernel_rfl) ?_
  refine lq_p (d := some 4) (by kernel_rfl) (by kernel_rfl) (p_nil (by kernel_rfl) H) (fun x4 H => ?_)
  refine lq_p (d := some 5) (by kernel_rfl) (by kernel_rfl) (p_off Try.underlying82 rfl (fun w => ⟨_, Try.sizeOf3 w⟩) rfl (by kernel_rfl) H) (fun x5 H => ?_)
  refine lq_y (d := some 6) (by kernel_rfl) (by kernel_rfl) HA (y_ld Try.isAgg3 (by kernel_rfl) H) (fun x6 H => ?_)
  refine lq_move (x := x0) (by kernel_rfl) (by kernel_rfl) ?_
  refine lq_p (d := some 8) (by kernel_rfl) (by kernel_rfl) (p_nil (by kernel_rfl) H) (fun x8 H => ?_)
  refine lq_p (d := some 9) (by kernel_rfl) (by kernel_rfl) (p_off Try.underlying82 rfl (fun w => ⟨_, Try.sizeOf3 w⟩) rfl (by kernel_rfl) H) (fun x9 H => ?_)
  refine lq_y (d := some 10) (by kernel_rfl) (by kernel_rfl) HA (y_ld Try.isAgg3 (by kernel_rfl) H) (fun x10 H => ?_)
  refine lq_p (d := some 11) (by kernel_rfl) (by kernel_rfl) (p_min (by kernel_rfl) (by kernel_rfl) H) (fun x11 H => ?_)
  refine lq_assign (x := x11) (by kernel_rfl) (by kernel_rfl) ?_
  refine lq_nil ?_
  intro w HA
  refine then_normal ?_
  refine fr_eq (b := ⟨#[x0, undef, x11, x0, x4, x5, x6, x0, x8, x9, x10, x11], []⟩) (by kernel_rfl) ?_
  refine wp_ret ?_
  exact end1 (Try.results18) (by kernel_rfl) (by kernel_rfl) HA H _ (.inr rfl)

end Go.Proofs.Ytecoejjpdogklaa
