/- The shallow reading of one function, and that the function does it. Written by a program. -/
import Derived.Test.YtecoejjpdogklaaFnC
set_option linter.unusedVariables false
namespace Go.Proofs.Ytecoejjpdogklaa
open Go Go.HW

def uart_row_api_Item_take_S (x0 x1 : Value) (h : Heap) (R : Value → Heap → Prop) : Prop :=
  sMax x1 (.int .i64 0) fun x7 =>
  sNil x0 fun x9 =>
  sOff x9 0 fun x10 =>
  sLd h x10 fun x11 =>
  sLen x11 fun x12 =>
  sMin x7 x12 fun x13 =>
  sNil x0 fun x15 =>
  sOff x15 0 fun x16 =>
  sLd h x16 fun x17 =>
  sSl x17 none (some x13) 2 fun x19 =>
  slices_Clone_api_Item_api_Item_c x19 h fun x20 h => 
  sNil x0 fun x23 =>
  sOff x23 0 fun x24 =>
  sLd h x24 fun x25 =>
  sSl x25 (some x13) none 2 fun x27 =>
  sNil x0 fun x28 =>
  sOff x28 0 fun x29 =>
  sSt h x29 x27 fun h_1 => 
  R x20 h_1
set_option maxRecDepth 100000 in
theorem uart_row_api_Item_take_runs {x0 x1 : Value} {h : Heap} {R : Value → Heap → Prop} (H : uart_row_api_Item_take_S x0 x1 h R) : uart_row_api_Item_take_c x0 x1 h R := by
  unfold uart_row_api_Item_take_S at H
  refine runs_of (b := ⟨#[x0, x1, undef, undef, undef, undef, undef, undef, undef, undef, undef, undef, undef, undef, undef, undef, undef, undef, undef, undef, undef, undef, undef, undef, undef, undef, undef, undef, undef, undef, undef], []⟩) Try.call60 Try.func60 rfl (by kernel_rfl) (fun w0 HA => ?_)
  refine wp_seq ?_
  refine lwp_list ?_
  refine ls_assign (x := (.slice none 0 0)) (by kernel_rfl) (by kernel_rfl) ?_
  refine ls_nil ?_
  refine then_normal ?_
  refine fr_eq (b := ⟨#[x0, x1, undef, undef, (.slice none 0 0), undef, undef, undef, undef, undef, undef, undef, undef, undef, undef, undef, undef, undef, undef, undef, undef, undef, undef, undef, undef, undef, undef, undef, undef, undef, undef], []⟩) (by kernel_rfl) ?_
  refine wp_seq ?_
  refine lwp_list ?_
  refine ls_move (x := x1) (by kernel_rfl) (by kernel_rfl) ?_
  refine ls_p (d := some 7) (by kernel_rfl) (by kernel_rfl) (p_max (by kernel_rfl) (by kernel_rfl) H) (fun x7 H => ?_)
  refine ls_move (x := x0) (by kernel_rfl) (by kernel_rfl) ?_
  refine ls_p (d := some 9) (by kernel_rfl) (by kernel_rfl) (p_nil (by kernel_rfl) H) (fun x9 H => ?_)
  refine ls_p (d := some 10) (by kernel_rfl) (by kernel_rfl) (p_off Try.underlying86 rfl (fun w => ⟨_, Try.sizeOf53 w⟩) rfl (by kernel_rfl) H) (fun x10 H => ?_)
  refine ls_y (d := some 11) (by kernel_rfl) (by kernel_rfl) HA (y_ld Try.isAgg53 (by kernel_rfl) H) (fun x11 H => ?_)
  refine ls_fr (b := ⟨#[x0, x1, undef, undef, (.slice none 0 0), undef, x1, x7, x0, x9, x10, x11, undef, undef, undef, undef, undef, undef, undef, undef, undef, undef, undef, undef, undef, undef, undef, undef, undef, undef, undef], []⟩) (by kernel_rfl) ?_
  refine ls_p (d := some 12) (by kernel_rfl) (by kernel_rfl) (p_len Try.underlying53 (by kernel_rfl) H) (fun x12 H => ?_)
  refine ls_p (d := some 13) (by kernel_rfl) (by kernel_rfl) (p_min (by kernel_rfl) (by kernel_rfl) H) (fun x13 H => ?_)
  refine ls_assign (x := x13) (by kernel_rfl) (by kernel_rfl) ?_
  refine ls_nil ?_
  refine then_normal ?_
  refine fr_eq (b := ⟨#[x0, x13, undef, undef, (.slice none 0 0), undef, x1, x7, x0, x9, x10, x11, x12, x13, undef, undef, undef, undef, undef, undef, undef, undef, undef, undef, undef, undef, undef, undef, undef, undef, undef], []⟩) (by kernel_rfl) ?_
  refine wp_seq ?_
  refine lwp_list ?_
  refine ls_move (x := x0) (by kernel_rfl) (by kernel_rfl) ?_
  refine ls_p (d := some 15) (by kernel_rfl) (by kernel_rfl) (p_nil (by kernel_rfl) H) (fun x15 H => ?_)
  refine ls_p (d := some 16) (by kernel_rfl) (by kernel_rfl) (p_off Try.underlying86 rfl (fun w => ⟨_, Try.sizeOf53 w⟩) rfl (by kernel_rfl) H) (fun x16 H => ?_)
  refine ls_y (d := some 17) (by kernel_rfl) (by kernel_rfl) HA (y_ld Try.isAgg53 (by kernel_rfl) H) (fun x17 H => ?_)
  refine ls_move (x := x13) (by kernel_rfl) (by kernel_rfl) ?_
  refine ls_p (d := some 19) (by kernel_rfl) (by kernel_rfl) (p_sl Try.underlying53 Try.sizeOf48 (by kernel_rfl) (by kernel_rfl) (by kernel_rfl) H) (fun x19 H => ?_)
  refine ls_fr (b := ⟨#[x0, x13, undef, undef, (.slice none 0 0), undef, x1, x7, x0, x9, x10, x11, x12, x13, x0, x15, x16, x17, x13, x19, undef, undef, undef, undef, undef, undef, undef, undef, undef, undef, undef], []⟩) (by kernel_rfl) ?_
  refine ls_d (d := some 20) (by kernel_rfl) (by kernel_rfl) HA (d_call (by kernel_rfl) (by kernel_rfl) H) (fun x20 h w H HA => ?_)
  refine ls_assign (x := x20) (by kernel_rfl) (by kernel_rfl) ?_
  refine ls_nil ?_
  refine then_normal ?_
  refine fr_eq (b := ⟨#[x0, x13, undef, undef, (.slice none 0 0), x20, x1, x7, x0, x9, x10, x11, x12, x13, x0, x15, x16, x17, x13, x19, x20, undef, undef, undef, undef, undef, undef, undef, undef, undef, undef], []⟩) (by kernel_rfl) ?_
  refine wp_seq ?_
  refine lwp_list ?_
  refine ls_move (x := x0) (by kernel_rfl) (by kernel_rfl) ?_
  refine ls_move (x := x0) (by kernel_rfl) (by kernel_rfl) ?_
  refine ls_p (d := some 23) (by kernel_rfl) (by kernel_rfl) (p_nil (by kernel_rfl) H) (fun x23 H => ?_)
  refine ls_p (d := some 24) (by kernel_rfl) (by kernel_rfl) (p_off Try.underlying86 rfl (fun w => ⟨_, Try.sizeOf53 w⟩) rfl (by kernel_rfl) H) (fun x24 H => ?_)
  refine ls_y (d := some 25) (by kernel_rfl) (by kernel_rfl) HA (y_ld Try.isAgg53 (by kernel_rfl) H) (fun x25 H => ?_)
  refine ls_move (x := x13) (by kernel_rfl) (by kernel_rfl) ?_
  refine ls_fr (b := ⟨#[x0, x13, undef, undef, (.slice none 0 0), x20, x1, x7, x0, x9, x10, x11, x12, x13, x0, x15, x16, x17, x13, x19, x20, x0, x0, x23, x24, x25, x13, undef, undef, undef, undef], []⟩) (by kernel_rfl) ?_
  refine ls_p (d := some 27) (by kernel_rfl) (by kernel_rfl) (p_sl Try.underlying53 Try.sizeOf48 (by kernel_rfl) (by kernel_rfl) (by kernel_rfl) H) (fun x27 H => ?_)
  refine ls_p (d := some 28) (by kernel_rfl) (by kernel_rfl) (p_nil (by kernel_rfl) H) (fun x28 H => ?_)
  refine ls_p (d := some 29) (by kernel_rfl) (by kernel_rfl) (p_off Try.underlying86 rfl (fun w => ⟨_, Try.sizeOf53 w⟩) rfl (by kernel_rfl) H) (fun x29 H => ?_)
  refine ls_d (d := none) (by kernel_rfl) (by kernel_rfl) HA (d_st Try.sizeOf53 (by kernel_rfl) (by kernel_rfl) H) (fun _ h_1 w_1 H HA_1 => ?_)
  refine ls_nil ?_
  refine then_normal ?_
  refine fr_eq (b := ⟨#[x0, x13, undef, undef, (.slice none 0 0), x20, x1, x7, x0, x9, x10, x11, x12, x13, x0, x15, x16, x17, x13, x19, x20, x0, x0, x23, x24, x25, x13, x27, x28, x29, undef], []⟩) (by kernel_rfl) ?_
  refine wp_seq ?_
  refine lwp_list ?_
  refine ls_move (x := x20) (by kernel_rfl) (by kernel_rfl) ?_
  refine ls_assign (x := x20) (by kernel_rfl) (by kernel_rfl) ?_
  refine ls_nil ?_
  refine then_normal ?_
  refine fr_eq (b := ⟨#[x0, x13, undef, undef, x20, x20, x1, x7, x0, x9, x10, x11, x12, x13, x0, x15, x16, x17, x13, x19, x20, x0, x0, x23, x24, x25, x13, x27, x28, x29, x20], []⟩) (by kernel_rfl) ?_
  refine wp_ret ?_
  exact end1 (Try.results60) (by kernel_rfl) (by kernel_rfl) HA_1 H _ (.inr rfl)

end Go.Proofs.Ytecoejjpdogklaa
