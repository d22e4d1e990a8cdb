/- The shallow reading of one function, and that the function does it. Written by a program. -/
import Derived.Test.YtecoejjpdogklaaFnC
set_option linter.unusedVariables false
namespace Go.Proofs.Ytecoejjpdogklaa
open Go Go.HW

def slices_ContainsFunc_fifo_entry_fifo_entry_S (x0 x1 : Value) (h : Heap) (R : Value → Heap → Prop) : Prop :=
  slices_IndexFunc_fifo_entry_fifo_entry_c x0 x1 h fun x7 h => 
  sGe x7 (.int .i64 0) fun x8 =>
  R x8 h
set_option maxRecDepth 100000 in
theorem slices_ContainsFunc_fifo_entry_fifo_entry_runs {x0 x1 : Value} {h : Heap} {R : Value → Heap → Prop} (H : slices_ContainsFunc_fifo_entry_fifo_entry_S x0 x1 h R) : slices_ContainsFunc_fifo_entry_fifo_entry_c x0 x1 h R := by
  unfold slices_ContainsFunc_fifo_entry_fifo_entry_S at H
  refine runs_of (b := ⟨#[x0, x1, undef, undef, undef, undef, undef, undef, undef], []⟩) Try.call69 Try.func69 rfl (by kernel_rfl) (fun w0 HA => ?_)
  refine wp_seq ?_
  refine lwp_list ?_
  refine ls_assign (x := (.bool false)) (by kernel_rfl) (by kernel_rfl) ?_
  refine ls_nil ?_
  refine then_normal ?_
  refine fr_eq (b := ⟨#[x0, x1, undef, undef, (.bool false), undef, undef, undef, undef], []⟩) (by kernel_rfl) ?_
  refine wp_seq ?_
  refine lwp_list ?_
  refine ls_move (x := x0) (by kernel_rfl) (by kernel_rfl) ?_
  refine ls_move (x := x1) (by kernel_rfl) (by kernel_rfl) ?_
  refine ls_d (d := some 7) (by kernel_rfl) (by kernel_rfl) HA (d_call (by kernel_rfl) (by kernel_rfl) H) (fun x7 h w H HA => ?_)
  refine ls_p (d := some 8) (by kernel_rfl) (by kernel_rfl) (p_sGe (by kernel_rfl) (by kernel_rfl) H) (fun x8 H => ?_)
  refine ls_assign (x := x8) (by kernel_rfl) (by kernel_rfl) ?_
  refine ls_nil ?_
  refine then_normal ?_
  refine fr_eq (b := ⟨#[x0, x1, undef, undef, x8, x0, x1, x7, x8], []⟩) (by kernel_rfl) ?_
  refine wp_ret ?_
  exact end1 (Try.results69) (by kernel_rfl) (by kernel_rfl) HA H _ (.inr rfl)

end Go.Proofs.Ytecoejjpdogklaa
