/- The shallow reading of one function, and that the function does it. Written by a program. -/
import Derived.Test.YtecoejjpdogklaaFnC
set_option linter.unusedVariables false
namespace Go.Proofs.Ytecoejjpdogklaa
open Go Go.HW

def uart_Line_Send_S (x0 x1 : Value) (h : Heap) (R : Value → Heap → Prop) : Prop :=
  sNil x0 fun x6 =>
  sOff x6 2 fun x7 =>
  uart_row_byte_put_c x7 x1 h fun x9 h => 
  R x9 h
set_option maxRecDepth 100000 in
theorem uart_Line_Send_runs {x0 x1 : Value} {h : Heap} {R : Value → Heap → Prop} (H : uart_Line_Send_S x0 x1 h R) : uart_Line_Send_c x0 x1 h R := by
  unfold uart_Line_Send_S at H
  refine runs_of (b := ⟨#[x0, x1, undef, undef, undef, undef, undef, undef, undef, undef], []⟩) Try.call33 Try.func33 rfl (by kernel_rfl) (fun w0 HA => ?_)
  refine wp_seq ?_
  refine lwp_list ?_
  refine ls_assign (x := (.int .i64 0)) (by kernel_rfl) (by kernel_rfl) ?_
  refine ls_nil ?_
  refine then_normal ?_
  refine fr_eq (b := ⟨#[x0, x1, undef, undef, (.int .i64 0), undef, undef, undef, undef, undef], []⟩) (by kernel_rfl) ?_
  refine wp_seq ?_
  refine lwp_list ?_
  refine ls_move (x := x0) (by kernel_rfl) (by kernel_rfl) ?_
  refine ls_p (d := some 6) (by kernel_rfl) (by kernel_rfl) (p_nil (by kernel_rfl) H) (fun x6 H => ?_)
  refine ls_p (d := some 7) (by kernel_rfl) (by kernel_rfl) (p_off Try.underlying90 rfl (fun w => ⟨_, Try.sizeOf88 w⟩) rfl (by kernel_rfl) H) (fun x7 H => ?_)
  refine ls_move (x := x1) (by kernel_rfl) (by kernel_rfl) ?_
  refine ls_d (d := some 9) (by kernel_rfl) (by kernel_rfl) HA (d_call (by kernel_rfl) (by kernel_rfl) H) (fun x9 h w H HA => ?_)
  refine ls_assign (x := x9) (by kernel_rfl) (by kernel_rfl) ?_
  refine ls_nil ?_
  refine then_normal ?_
  refine fr_eq (b := ⟨#[x0, x1, undef, undef, x9, x0, x6, x7, x1, x9], []⟩) (by kernel_rfl) ?_
  refine wp_ret ?_
  exact end1 (Try.results33) (by kernel_rfl) (by kernel_rfl) HA H _ (.inr rfl)

end Go.Proofs.Ytecoejjpdogklaa
