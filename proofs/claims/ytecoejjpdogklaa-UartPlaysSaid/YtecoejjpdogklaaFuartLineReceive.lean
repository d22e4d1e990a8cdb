/- The shallow reading of one function, and that the function does it. Written by a program. -/
import Derived.Test.YtecoejjpdogklaaFnC
set_option linter.unusedVariables false
namespace Go.Proofs.Ytecoejjpdogklaa
open Go Go.HW

def uart_Line_Receive_S (x0 x1 x2 : Value) (h : Heap) (R : Value → Heap → Prop) : Prop :=
  sBits .and .i64 x2 (.int .i64 6) fun x10 =>
  sNil x0 fun x12 =>
  sOff x12 4 fun x13 =>
  sLd h x13 fun x14 =>
  sBits .or .i64 x10 x14 fun x15 =>
  sBuild #[.int .u8 0, .int .i64 0] [(0, 1, x1), (1, 1, x15)] fun x16 =>
  sNew h #[.int .u8 0, .int .i64 0] 48 fun x7 h => 
  sStN h x7 x16 2 fun h_1 => 
  sNil x0 fun x18 =>
  sOff x18 0 fun x19 =>
  sLdN h_1 x7 2 fun x20 =>
  sSlit h_1 #[.int .u8 0, .int .i64 0] [(0, 2, x20)] 48 1 fun x21 h_2 => 
  uart_row_api_Item_put_c x19 x21 h_2 fun x22 h_3 => 
  sEq x22 (.int .i64 0) fun x23 =>
  sIf x23 (sNil x0 fun x25 =>
  sOff x25 4 fun x26 =>
  sSt h_3 x26 (.int .i64 1) fun h_4 => 
  R (.bool false) h_4) (sNil x0 fun x28 =>
  sOff x28 4 fun x29 =>
  sSt h_3 x29 (.int .i64 0) fun h_5 => 
  R (.bool true) h_5)
set_option maxRecDepth 100000 in
theorem uart_Line_Receive_runs {x0 x1 x2 : Value} {h : Heap} {R : Value → Heap → Prop} (H : uart_Line_Receive_S x0 x1 x2 h R) : uart_Line_Receive_c x0 x1 x2 h R := by
  unfold uart_Line_Receive_S at H
  refine runs_of (b := ⟨#[x0, x1, x2, undef, undef, undef, undef, undef, undef, undef, undef, undef, undef, undef, undef, undef, undef, undef, undef, undef, undef, undef, undef, undef, undef, undef, undef, undef, undef, undef], []⟩) Try.call30 Try.func30 rfl (by kernel_rfl) (fun w0 HA => ?_)
  refine wp_seq ?_
  refine lwp_list ?_
  refine ls_assign (x := (.bool false)) (by kernel_rfl) (by kernel_rfl) ?_
  refine ls_nil ?_
  refine then_normal ?_
  refine fr_eq (b := ⟨#[x0, x1, x2, undef, undef, undef, (.bool false), undef, undef, undef, undef, undef, undef, undef, undef, undef, undef, undef, undef, undef, undef, undef, undef, undef, undef, undef, undef, undef, undef, undef], []⟩) (by kernel_rfl) ?_
  refine wp_seq ?_
  refine lwp_list ?_
  refine ls_move (x := x1) (by kernel_rfl) (by kernel_rfl) ?_
  refine ls_move (x := x2) (by kernel_rfl) (by kernel_rfl) ?_
  refine ls_p (d := some 10) (by kernel_rfl) (by kernel_rfl) (p_bits (by decide) (by kernel_rfl) (by kernel_rfl) H) (fun x10 H => ?_)
  refine ls_move (x := x0) (by kernel_rfl) (by kernel_rfl) ?_
  refine ls_p (d := some 12) (by kernel_rfl) (by kernel_rfl) (p_nil (by kernel_rfl) H) (fun x12 H => ?_)
  refine ls_p (d := some 13) (by kernel_rfl) (by kernel_rfl) (p_off Try.underlying90 rfl (fun w => ⟨_, Try.sizeOf3 w⟩) rfl (by kernel_rfl) H) (fun x13 H => ?_)
  refine ls_fr (b := ⟨#[x0, x1, x2, undef, undef, undef, (.bool false), undef, x1, x2, x10, x0, x12, x13, undef, undef, undef, undef, undef, undef, undef, undef, undef, undef, undef, undef, undef, undef, undef, undef], []⟩) (by kernel_rfl) ?_
  refine ls_y (d := some 14) (by kernel_rfl) (by kernel_rfl) HA (y_ld Try.isAgg3 (by kernel_rfl) H) (fun x14 H => ?_)
  refine ls_p (d := some 15) (by kernel_rfl) (by kernel_rfl) (p_bits (by decide) (by kernel_rfl) (by kernel_rfl) H) (fun x15 H => ?_)
  refine ls_p (d := some 16) (by kernel_rfl) (by kernel_rfl) (p_lit (pl := [(0, 1), (1, 1)]) Try.zeroValue48 Try.underlying48 ⟨(by kernel_rfl), Try.sizeOf5, (by kernel_rfl), Try.sizeOf3, trivial⟩ (by kernel_rfl) (by kernel_rfl) H) (fun x16 H => ?_)
  refine ls_d (d := some 7) (by kernel_rfl) (by kernel_rfl) HA (d_alloc Try.zeroValue48 H) (fun x7 h w H HA => ?_)
  refine ls_d (d := none) (by kernel_rfl) (by kernel_rfl) HA (d_stn Try.sizeOf48 (by kernel_rfl) (by kernel_rfl) H) (fun _ h_1 w_1 H HA_1 => ?_)
  refine ls_nil ?_
  refine then_normal ?_
  refine fr_eq (b := ⟨#[x0, x1, x2, undef, undef, undef, (.bool false), x7, x1, x2, x10, x0, x12, x13, x14, x15, x16, undef, undef, undef, undef, undef, undef, undef, undef, undef, undef, undef, undef, undef], []⟩) (by kernel_rfl) ?_
  refine wp_seq ?_
  refine wp_seq ?_
  refine lwp_mx (Nat.testBit 48) (Nat.testBit 0) (Nat.testBit 71) [0, 1, 3, 0, 8, 31, 63] (fun h' => h' = h_1) [0, 1, 2, 3, 4, 5, 6] (by kernel_rfl) (by kernel_rfl) (by kernel_rfl) HA_1 rfl ?_
  intro w_2 HA_2
  refine lm_al (x := x0) (d := some 17) (by kernel_rfl) rfl (by kernel_rfl) (by kernel_rfl) (al_move (by kernel_rfl)) ?_
  refine lm_p (d := some 18) (by kernel_rfl) rfl (by kernel_rfl) (by kernel_rfl) (p_nil (by kernel_rfl) H) (fun x18 H => ?_)
  refine lm_p (d := some 19) (by kernel_rfl) rfl (by kernel_rfl) (by kernel_rfl) (p_off Try.underlying90 rfl (fun w => ⟨_, Try.sizeOf86 w⟩) rfl (by kernel_rfl) H) (fun x19 H => ?_)
  refine lm_f (d := some 20) (by kernel_rfl) rfl (by kernel_rfl) (by kernel_rfl) (by kernel_rfl) (of_eq (y_ldn Try.isAgg48 Try.sizeOf48 (by kernel_rfl) H)) (fun x20 H => ?_)
  refine lm_d (d := some 21) (by kernel_rfl) rfl (by kernel_rfl) (by kernel_rfl) (by kernel_rfl) HA_2 (d_slit (zc := #[.int .u8 0, .int .i64 0]) Try.underlying53 Try.sizeOf48 (by decide) (.inr ⟨by decide, _, Try.zeroValue48, (by kernel_rfl)⟩) (by kernel_rfl) (by kernel_rfl) H) (fun x21 h_2 w_3 H HA_3 => ?_)
  refine lm_d (d := some 22) (by kernel_rfl) rfl (by kernel_rfl) (by kernel_rfl) (by kernel_rfl) HA_3 (d_call (by kernel_rfl) (by kernel_rfl) H) (fun x22 h_3 w_4 H HA_4 => ?_)
  refine lm_fr (b := ⟨#[x0, x1, x2, undef, undef, undef, (.bool false), x7, x1, x2, x10, x0, x12, x13, x14, x15, x16, x0, x18, x19, x20, x21, x22, undef, undef, undef, undef, undef, undef, undef], []⟩) (by kernel_rfl) ?_
  refine lm_p (d := some 23) (by kernel_rfl) rfl (by kernel_rfl) (by kernel_rfl) (p_sEq (by kernel_rfl) (by kernel_rfl) H) (fun x23 H => ?_)
  refine lm_nil ?_
  refine then_normal ?_
  refine fr_eq (b := ⟨#[x0, x1, x2, undef, undef, undef, (.bool false), x7, x1, x2, x10, x0, x12, x13, x14, x15, x16, x0, x18, x19, x20, x21, x22, x23, undef, undef, undef, undef, undef, undef], []⟩) (by kernel_rfl) ?_
  refine wp_if rfl H (fun H => ?_) (fun H => ?_)
  · refine wp_seq ?_
    refine lwp_list ?_
    refine ls_move (x := x0) (by kernel_rfl) (by kernel_rfl) ?_
    refine ls_p (d := some 25) (by kernel_rfl) (by kernel_rfl) (p_nil (by kernel_rfl) H) (fun x25 H => ?_)
    refine ls_p (d := some 26) (by kernel_rfl) (by kernel_rfl) (p_off Try.underlying90 rfl (fun w => ⟨_, Try.sizeOf3 w⟩) rfl (by kernel_rfl) H) (fun x26 H => ?_)
    refine ls_d (d := none) (by kernel_rfl) (by kernel_rfl) HA_4 (d_st Try.sizeOf3 (by kernel_rfl) (by kernel_rfl) H) (fun _ h_4 w_5 H HA_5 => ?_)
    refine ls_nil ?_
    refine then_normal ?_
    refine fr_eq (b := ⟨#[x0, x1, x2, undef, undef, undef, (.bool false), x7, x1, x2, x10, x0, x12, x13, x14, x15, x16, x0, x18, x19, x20, x21, x22, x23, x0, x25, x26, undef, undef, undef], []⟩) (by kernel_rfl) ?_
    refine wp_seq ?_
    refine lwp_list ?_
    refine ls_assign (x := (.bool false)) (by kernel_rfl) (by kernel_rfl) ?_
    refine ls_nil ?_
    refine then_normal ?_
    refine fr_eq (b := ⟨#[x0, x1, x2, undef, undef, undef, (.bool false), x7, x1, x2, x10, x0, x12, x13, x14, x15, x16, x0, x18, x19, x20, x21, x22, x23, x0, x25, x26, undef, undef, undef], []⟩) (by kernel_rfl) ?_
    refine wp_ret ?_
    refine then_ret ?_
    exact end1 (Try.results30) (by kernel_rfl) (by kernel_rfl) HA_5 H _ (.inr rfl)
  · refine wp_skip ?_
    refine then_normal ?_
    refine fr_eq (b := ⟨#[x0, x1, x2, undef, undef, undef, (.bool false), x7, x1, x2, x10, x0, x12, x13, x14, x15, x16, x0, x18, x19, x20, x21, x22, x23, undef, undef, undef, undef, undef, undef], []⟩) (by kernel_rfl) ?_
    refine wp_seq ?_
    refine lwp_list ?_
    refine ls_move (x := x0) (by kernel_rfl) (by kernel_rfl) ?_
    refine ls_p (d := some 28) (by kernel_rfl) (by kernel_rfl) (p_nil (by kernel_rfl) H) (fun x28 H => ?_)
    refine ls_p (d := some 29) (by kernel_rfl) (by kernel_rfl) (p_off Try.underlying90 rfl (fun w => ⟨_, Try.sizeOf3 w⟩) rfl (by kernel_rfl) H) (fun x29 H => ?_)
    refine ls_d (d := none) (by kernel_rfl) (by kernel_rfl) HA_4 (d_st Try.sizeOf3 (by kernel_rfl) (by kernel_rfl) H) (fun _ h_5 w_6 H HA_6 => ?_)
    refine ls_nil ?_
    refine then_normal ?_
    refine fr_eq (b := ⟨#[x0, x1, x2, undef, undef, undef, (.bool false), x7, x1, x2, x10, x0, x12, x13, x14, x15, x16, x0, x18, x19, x20, x21, x22, x23, undef, undef, undef, x0, x28, x29], []⟩) (by kernel_rfl) ?_
    refine wp_seq ?_
    refine lwp_list ?_
    refine ls_assign (x := (.bool true)) (by kernel_rfl) (by kernel_rfl) ?_
    refine ls_nil ?_
    refine then_normal ?_
    refine fr_eq (b := ⟨#[x0, x1, x2, undef, undef, undef, (.bool true), x7, x1, x2, x10, x0, x12, x13, x14, x15, x16, x0, x18, x19, x20, x21, x22, x23, undef, undef, undef, x0, x28, x29], []⟩) (by kernel_rfl) ?_
    refine wp_ret ?_
    exact end1 (Try.results30) (by kernel_rfl) (by kernel_rfl) HA_6 H _ (.inr rfl)

end Go.Proofs.Ytecoejjpdogklaa
