/- The shallow reading of one function, and that the function does it. Written by a program. -/
import Derived.Test.YtecoejjpdogklaaFnC
set_option linter.unusedVariables false
namespace Go.Proofs.Ytecoejjpdogklaa
open Go Go.HW

def uart_Line_Waits_S (x0 : Value) (h : Heap) (R : Value → Heap → Prop) : Prop :=
  sNil x0 fun x5 =>
  sOff x5 0 fun x6 =>
  sOff x6 0 fun x7 =>
  sLd h x7 fun x8 =>
  sLen x8 fun x9 =>
  sNil x0 fun x11 =>
  sOff x11 2 fun x12 =>
  sOff x12 0 fun x13 =>
  sLd h x13 fun x14 =>
  sLen x14 fun x15 =>
  R (.tuple #[x9, x15]) h
set_option maxRecDepth 100000 in
theorem uart_Line_Waits_runs {x0 : Value} {h : Heap} {R : Value → Heap → Prop} (H : uart_Line_Waits_S x0 h R) : uart_Line_Waits_c x0 h R := by
  unfold uart_Line_Waits_S at H
  refine runs_of (b := ⟨#[x0, undef, undef, undef, undef, undef, undef, undef, undef, undef, undef, undef, undef, undef, undef, undef], []⟩) Try.call36 Try.func36 rfl (by kernel_rfl) (fun w0 HA => ?_)
  refine wp_seq ?_
  refine lwp_list ?_
  refine ls_assign (x := (.int .i64 0)) (by kernel_rfl) (by kernel_rfl) ?_
  refine ls_assign (x := (.int .i64 0)) (by kernel_rfl) (by kernel_rfl) ?_
  refine ls_nil ?_
  refine then_normal ?_
  refine fr_eq (b := ⟨#[x0, undef, (.int .i64 0), (.int .i64 0), undef, undef, undef, undef, undef, undef, undef, undef, undef, undef, undef, undef], []⟩) (by kernel_rfl) ?_
  refine wp_seq ?_
  refine lwp_qt (by kernel_rfl) (by kernel_rfl) HA ?_
  refine lq_move (x := x0) (by kernel_rfl) (by kernel_rfl) ?_
  refine lq_p (d := some 5) (by kernel_rfl) (by kernel_rfl) (p_nil (by kernel_rfl) H) (fun x5 H => ?_)
  refine lq_p (d := some 6) (by kernel_rfl) (by kernel_rfl) (p_off Try.underlying90 rfl (fun w => ⟨_, Try.sizeOf86 w⟩) rfl (by kernel_rfl) H) (fun x6 H => ?_)
  refine lq_p (d := some 7) (by kernel_rfl) (by kernel_rfl) (p_off Try.underlying86 rfl (fun w => ⟨_, Try.sizeOf53 w⟩) rfl (by kernel_rfl) H) (fun x7 H => ?_)
  refine lq_y (d := some 8) (by kernel_rfl) (by kernel_rfl) HA (y_ld Try.isAgg53 (by kernel_rfl) H) (fun x8 H => ?_)
  refine lq_p (d := some 9) (by kernel_rfl) (by kernel_rfl) (p_len Try.underlying53 (by kernel_rfl) H) (fun x9 H => ?_)
  refine lq_fr (b := ⟨#[x0, undef, (.int .i64 0), (.int .i64 0), x0, x5, x6, x7, x8, x9, undef, undef, undef, undef, undef, undef], []⟩) (by kernel_rfl) ?_
  refine lq_move (x := x0) (by kernel_rfl) (by kernel_rfl) ?_
  refine lq_p (d := some 11) (by kernel_rfl) (by kernel_rfl) (p_nil (by kernel_rfl) H) (fun x11 H => ?_)
  refine lq_p (d := some 12) (by kernel_rfl) (by kernel_rfl) (p_off Try.underlying90 rfl (fun w => ⟨_, Try.sizeOf88 w⟩) rfl (by kernel_rfl) H) (fun x12 H => ?_)
  refine lq_p (d := some 13) (by kernel_rfl) (by kernel_rfl) (p_off Try.underlying88 rfl (fun w => ⟨_, Try.sizeOf42 w⟩) rfl (by kernel_rfl) H) (fun x13 H => ?_)
  refine lq_y (d := some 14) (by kernel_rfl) (by kernel_rfl) HA (y_ld Try.isAgg42 (by kernel_rfl) H) (fun x14 H => ?_)
  refine lq_p (d := some 15) (by kernel_rfl) (by kernel_rfl) (p_len Try.underlying42 (by kernel_rfl) H) (fun x15 H => ?_)
  refine lq_fr (b := ⟨#[x0, undef, (.int .i64 0), (.int .i64 0), x0, x5, x6, x7, x8, x9, x0, x11, x12, x13, x14, x15], []⟩) (by kernel_rfl) ?_
  refine lq_assign (x := x9) (by kernel_rfl) (by kernel_rfl) ?_
  refine lq_assign (x := x15) (by kernel_rfl) (by kernel_rfl) ?_
  refine lq_nil ?_
  intro w HA
  refine then_normal ?_
  refine fr_eq (b := ⟨#[x0, undef, x9, x15, x0, x5, x6, x7, x8, x9, x0, x11, x12, x13, x14, x15], []⟩) (by kernel_rfl) ?_
  refine wp_ret ?_
  exact end2 (Try.results36) (by kernel_rfl) (by kernel_rfl) (by kernel_rfl) HA H _ (.inr rfl)

end Go.Proofs.Ytecoejjpdogklaa
