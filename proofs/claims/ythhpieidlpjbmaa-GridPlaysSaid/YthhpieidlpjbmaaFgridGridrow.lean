/- The shallow reading of one function, and that the function does it. Written by a program. -/
import Derived.Test.YthhpieidlpjbmaaFnC
set_option linter.unusedVariables false
namespace Go.Proofs.Ythhpieidlpjbmaa
open Go Go.HW

def grid_Grid_row_S (x0 x1 : Value) (h : Heap) (R : Value → Heap → Prop) : Prop :=
  sNil x0 fun x6 =>
  sOff x6 2 fun x7 =>
  sLd h x7 fun x8 =>
  sNil x0 fun x11 =>
  sOff x11 0 fun x12 =>
  sLd h x12 fun x13 =>
  sMul .i64 x1 x13 fun x14 =>
  sAdd .i64 x1 (.int .i64 1) fun x16 =>
  sNil x0 fun x18 =>
  sOff x18 0 fun x19 =>
  sLd h x19 fun x20 =>
  sMul .i64 x16 x20 fun x21 =>
  sSl x8 (some x14) (some x21) 4 fun x22 =>
  R x22 h
set_option maxRecDepth 100000 in
theorem grid_Grid_row_runs {x0 x1 : Value} {h : Heap} {R : Value → Heap → Prop} (H : grid_Grid_row_S x0 x1 h R) : grid_Grid_row_c x0 x1 h R := by
  unfold grid_Grid_row_S at H
  refine runs_of (b := ⟨#[x0, x1, undef, undef, undef, undef, undef, undef, undef, undef, undef, undef, undef, undef, undef, undef, undef, undef, undef, undef, undef, undef, undef], []⟩) Try.call37 Try.func37 rfl (by kernel_rfl) (fun w0 HA => ?_)
  refine wp_seq ?_
  refine lwp_list ?_
  refine ls_assign (x := (.slice none 0 0)) (by kernel_rfl) (by kernel_rfl) ?_
  refine ls_nil ?_
  refine then_normal ?_
  refine fr_eq (b := ⟨#[x0, x1, undef, undef, (.slice none 0 0), undef, undef, undef, undef, undef, undef, undef, undef, undef, undef, undef, undef, undef, undef, undef, undef, undef, undef], []⟩) (by kernel_rfl) ?_
  refine wp_seq ?_
  refine lwp_qt (by kernel_rfl) (by kernel_rfl) HA ?_
  refine lq_move (x := x0) (by kernel_rfl) (by kernel_rfl) ?_
  refine lq_p (d := some 6) (by kernel_rfl) (by kernel_rfl) (p_nil (by kernel_rfl) H) (fun x6 H => ?_)
  refine lq_p (d := some 7) (by kernel_rfl) (by kernel_rfl) (p_off Try.underlying68 rfl (fun w => ⟨_, Try.sizeOf35 w⟩) rfl (by kernel_rfl) H) (fun x7 H => ?_)
  refine lq_y (d := some 8) (by kernel_rfl) (by kernel_rfl) HA (y_ld Try.isAgg35 (by kernel_rfl) H) (fun x8 H => ?_)
  refine lq_move (x := x1) (by kernel_rfl) (by kernel_rfl) ?_
  refine lq_move (x := x0) (by kernel_rfl) (by kernel_rfl) ?_
  refine lq_fr (b := ⟨#[x0, x1, undef, undef, (.slice none 0 0), x0, x6, x7, x8, x1, x0, undef, undef, undef, undef, undef, undef, undef, undef, undef, undef, undef, undef], []⟩) (by kernel_rfl) ?_
  refine lq_p (d := some 11) (by kernel_rfl) (by kernel_rfl) (p_nil (by kernel_rfl) H) (fun x11 H => ?_)
  refine lq_p (d := some 12) (by kernel_rfl) (by kernel_rfl) (p_off Try.underlying68 rfl (fun w => ⟨_, Try.sizeOf3 w⟩) rfl (by kernel_rfl) H) (fun x12 H => ?_)
  refine lq_y (d := some 13) (by kernel_rfl) (by kernel_rfl) HA (y_ld Try.isAgg3 (by kernel_rfl) H) (fun x13 H => ?_)
  refine lq_p (d := some 14) (by kernel_rfl) (by kernel_rfl) (p_mul (by kernel_rfl) (by kernel_rfl) H) (fun x14 H => ?_)
  refine lq_move (x := x1) (by kernel_rfl) (by kernel_rfl) ?_
  refine lq_p (d := some 16) (by kernel_rfl) (by kernel_rfl) (p_add (by kernel_rfl) (by kernel_rfl) H) (fun x16 H => ?_)
  refine lq_fr (b := ⟨#[x0, x1, undef, undef, (.slice none 0 0), x0, x6, x7, x8, x1, x0, x11, x12, x13, x14, x1, x16, undef, undef, undef, undef, undef, undef], []⟩) (by kernel_rfl) ?_
  refine lq_move (x := x0) (by kernel_rfl) (by kernel_rfl) ?_
  refine lq_p (d := some 18) (by kernel_rfl) (by kernel_rfl) (p_nil (by kernel_rfl) H) (fun x18 H => ?_)
  refine lq_p (d := some 19) (by kernel_rfl) (by kernel_rfl) (p_off Try.underlying68 rfl (fun w => ⟨_, Try.sizeOf3 w⟩) rfl (by kernel_rfl) H) (fun x19 H => ?_)
  refine lq_y (d := some 20) (by kernel_rfl) (by kernel_rfl) HA (y_ld Try.isAgg3 (by kernel_rfl) H) (fun x20 H => ?_)
  refine lq_p (d := some 21) (by kernel_rfl) (by kernel_rfl) (p_mul (by kernel_rfl) (by kernel_rfl) H) (fun x21 H => ?_)
  refine lq_p (d := some 22) (by kernel_rfl) (by kernel_rfl) (p_sl Try.underlying35 Try.sizeOf27 (by kernel_rfl) (by kernel_rfl) (by kernel_rfl) H) (fun x22 H => ?_)
  refine lq_fr (b := ⟨#[x0, x1, undef, undef, (.slice none 0 0), x0, x6, x7, x8, x1, x0, x11, x12, x13, x14, x1, x16, x0, x18, x19, x20, x21, x22], []⟩) (by kernel_rfl) ?_
  refine lq_assign (x := x22) (by kernel_rfl) (by kernel_rfl) ?_
  refine lq_nil ?_
  intro w HA
  refine then_normal ?_
  refine fr_eq (b := ⟨#[x0, x1, undef, undef, x22, x0, x6, x7, x8, x1, x0, x11, x12, x13, x14, x1, x16, x0, x18, x19, x20, x21, x22], []⟩) (by kernel_rfl) ?_
  refine wp_ret ?_
  exact end1 (Try.results37) (by kernel_rfl) (by kernel_rfl) HA H _ (.inr rfl)

end Go.Proofs.Ythhpieidlpjbmaa
