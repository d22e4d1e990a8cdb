/- The shallow reading of one function, and that the function does it. Written by a program. -/
import Derived.Test.YtecoejjpdogklaaFnC
set_option linter.unusedVariables false
namespace Go.Proofs.Ytecoejjpdogklaa
open Go Go.HW

def uart_row_byte_put_S (x0 x1 : Value) (h : Heap) (R : Value → Heap → Prop) : Prop :=
  sLen x1 fun x7 =>
  sNil x0 fun x9 =>
  sOff x9 1 fun x10 =>
  sLd h x10 fun x11 =>
  sNil x0 fun x13 =>
  sOff x13 0 fun x14 =>
  sLd h x14 fun x15 =>
  sLen x15 fun x16 =>
  sSub .i64 x11 x16 fun x17 =>
  sMin x7 x17 fun x18 =>
  sNil x0 fun x21 =>
  sOff x21 0 fun x22 =>
  sLd h x22 fun x23 =>
  sSl x1 none (some x18) 1 fun x26 =>
  sApp h x23 x26 #[.int .u8 0] 5 1 fun x27 h => 
  sNil x0 fun x28 =>
  sOff x28 0 fun x29 =>
  sSt h x29 x27 fun h_1 => 
  R x18 h_1
set_option maxRecDepth 100000 in
theorem uart_row_byte_put_runs {x0 x1 : Value} {h : Heap} {R : Value → Heap → Prop} (H : uart_row_byte_put_S x0 x1 h R) : uart_row_byte_put_c x0 x1 h R := by
  unfold uart_row_byte_put_S at H
  refine runs_of (b := ⟨#[x0, x1, undef, undef, undef, undef, undef, undef, undef, undef, undef, undef, undef, undef, undef, undef, undef, undef, undef, undef, undef, undef, undef, undef, undef, undef, undef, undef, undef, undef, undef], []⟩) Try.call61 Try.func61 rfl (by kernel_rfl) (fun w0 HA => ?_)
  refine wp_seq ?_
  refine lwp_list ?_
  refine ls_assign (x := (.int .i64 0)) (by kernel_rfl) (by kernel_rfl) ?_
  refine ls_nil ?_
  refine then_normal ?_
  refine fr_eq (b := ⟨#[x0, x1, undef, undef, (.int .i64 0), undef, undef, undef, undef, undef, undef, undef, undef, undef, undef, undef, undef, undef, undef, undef, undef, undef, undef, undef, undef, undef, undef, undef, undef, undef, undef], []⟩) (by kernel_rfl) ?_
  refine wp_seq ?_
  refine lwp_qt (by kernel_rfl) (by kernel_rfl) HA ?_
  refine lq_move (x := x1) (by kernel_rfl) (by kernel_rfl) ?_
  refine lq_p (d := some 7) (by kernel_rfl) (by kernel_rfl) (p_len Try.underlying42 (by kernel_rfl) H) (fun x7 H => ?_)
  refine lq_move (x := x0) (by kernel_rfl) (by kernel_rfl) ?_
  refine lq_p (d := some 9) (by kernel_rfl) (by kernel_rfl) (p_nil (by kernel_rfl) H) (fun x9 H => ?_)
  refine lq_p (d := some 10) (by kernel_rfl) (by kernel_rfl) (p_off Try.underlying88 rfl (fun w => ⟨_, Try.sizeOf3 w⟩) rfl (by kernel_rfl) H) (fun x10 H => ?_)
  refine lq_y (d := some 11) (by kernel_rfl) (by kernel_rfl) HA (y_ld Try.isAgg3 (by kernel_rfl) H) (fun x11 H => ?_)
  refine lq_fr (b := ⟨#[x0, x1, undef, undef, (.int .i64 0), undef, x1, x7, x0, x9, x10, x11, undef, undef, undef, undef, undef, undef, undef, undef, undef, undef, undef, undef, undef, undef, undef, undef, undef, undef, undef], []⟩) (by kernel_rfl) ?_
  refine lq_move (x := x0) (by kernel_rfl) (by kernel_rfl) ?_
  refine lq_p (d := some 13) (by kernel_rfl) (by kernel_rfl) (p_nil (by kernel_rfl) H) (fun x13 H => ?_)
  refine lq_p (d := some 14) (by kernel_rfl) (by kernel_rfl) (p_off Try.underlying88 rfl (fun w => ⟨_, Try.sizeOf42 w⟩) rfl (by kernel_rfl) H) (fun x14 H => ?_)
  refine lq_y (d := some 15) (by kernel_rfl) (by kernel_rfl) HA (y_ld Try.isAgg42 (by kernel_rfl) H) (fun x15 H => ?_)
  refine lq_p (d := some 16) (by kernel_rfl) (by kernel_rfl) (p_len Try.underlying42 (by kernel_rfl) H) (fun x16 H => ?_)
  refine lq_p (d := some 17) (by kernel_rfl) (by kernel_rfl) (p_sub (by kernel_rfl) (by kernel_rfl) H) (fun x17 H => ?_)
  refine lq_fr (b := ⟨#[x0, x1, undef, undef, (.int .i64 0), undef, x1, x7, x0, x9, x10, x11, x0, x13, x14, x15, x16, x17, undef, undef, undef, undef, undef, undef, undef, undef, undef, undef, undef, undef, undef], []⟩) (by kernel_rfl) ?_
  refine lq_p (d := some 18) (by kernel_rfl) (by kernel_rfl) (p_min (by kernel_rfl) (by kernel_rfl) H) (fun x18 H => ?_)
  refine lq_assign (x := x18) (by kernel_rfl) (by kernel_rfl) ?_
  refine lq_nil ?_
  intro w HA
  refine then_normal ?_
  refine fr_eq (b := ⟨#[x0, x1, undef, undef, (.int .i64 0), x18, x1, x7, x0, x9, x10, x11, x0, x13, x14, x15, x16, x17, x18, undef, undef, undef, undef, undef, undef, undef, undef, undef, undef, undef, undef], []⟩) (by kernel_rfl) ?_
  refine wp_seq ?_
  refine lwp_mx (Nat.testBit 2304) (Nat.testBit 0) (Nat.testBit 1775) [0, 0, 2, 6, 14, 0, 0, 96, 254, 511, 1023, 2047] (fun h' => h' = h) [0, 1, 2, 3, 4, 5, 6, 7, 8, 9, 10, 11] (by kernel_rfl) (by kernel_rfl) (by kernel_rfl) HA rfl ?_
  intro w_1 HA_1
  refine lm_al (x := x0) (d := some 19) (by kernel_rfl) rfl (by kernel_rfl) (by kernel_rfl) (al_move (by kernel_rfl)) ?_
  refine lm_al (x := x0) (d := some 20) (by kernel_rfl) rfl (by kernel_rfl) (by kernel_rfl) (al_move (by kernel_rfl)) ?_
  refine lm_p (d := some 21) (by kernel_rfl) rfl (by kernel_rfl) (by kernel_rfl) (p_nil (by kernel_rfl) H) (fun x21 H => ?_)
  refine lm_p (d := some 22) (by kernel_rfl) rfl (by kernel_rfl) (by kernel_rfl) (p_off Try.underlying88 rfl (fun w => ⟨_, Try.sizeOf42 w⟩) rfl (by kernel_rfl) H) (fun x22 H => ?_)
  refine lm_f (d := some 23) (by kernel_rfl) rfl (by kernel_rfl) (by kernel_rfl) (by kernel_rfl) (of_eq (y_ld Try.isAgg42 (by kernel_rfl) H)) (fun x23 H => ?_)
  refine lm_al (x := x1) (d := some 24) (by kernel_rfl) rfl (by kernel_rfl) (by kernel_rfl) (al_move (by kernel_rfl)) ?_
  refine lm_fr (b := ⟨#[x0, x1, undef, undef, (.int .i64 0), x18, x1, x7, x0, x9, x10, x11, x0, x13, x14, x15, x16, x17, x18, x0, x0, x21, x22, x23, x1, undef, undef, undef, undef, undef, undef], []⟩) (by kernel_rfl) ?_
  refine lm_al (x := x18) (d := some 25) (by kernel_rfl) rfl (by kernel_rfl) (by kernel_rfl) (al_move (by kernel_rfl)) ?_
  refine lm_p (d := some 26) (by kernel_rfl) rfl (by kernel_rfl) (by kernel_rfl) (p_sl Try.underlying42 Try.sizeOf5 (by kernel_rfl) (by kernel_rfl) (by kernel_rfl) H) (fun x26 H => ?_)
  refine lm_d (d := some 27) (by kernel_rfl) rfl (by kernel_rfl) (by kernel_rfl) (by kernel_rfl) HA_1 (d_app (z := #[.int .u8 0]) Try.underlying42 Try.underlying42 (.inl ⟨_, rfl⟩) Try.typeInfo5 (by kernel_rfl) Try.sizeOf5 Try.zeroValue5 (by kernel_rfl) (by kernel_rfl) (by kernel_rfl) H) (fun x27 h w_2 H HA_2 => ?_)
  refine lm_p (d := some 28) (by kernel_rfl) rfl (by kernel_rfl) (by kernel_rfl) (p_nil (by kernel_rfl) H) (fun x28 H => ?_)
  refine lm_p (d := some 29) (by kernel_rfl) rfl (by kernel_rfl) (by kernel_rfl) (p_off Try.underlying88 rfl (fun w => ⟨_, Try.sizeOf42 w⟩) rfl (by kernel_rfl) H) (fun x29 H => ?_)
  refine lm_d (d := none) (by kernel_rfl) rfl (by kernel_rfl) (by kernel_rfl) (by kernel_rfl) HA_2 (d_st Try.sizeOf42 (by kernel_rfl) (by kernel_rfl) H) (fun _ h_1 w_3 H HA_3 => ?_)
  refine lm_nil ?_
  refine then_normal ?_
  refine fr_eq (b := ⟨#[x0, x1, undef, undef, (.int .i64 0), x18, x1, x7, x0, x9, x10, x11, x0, x13, x14, x15, x16, x17, x18, x0, x0, x21, x22, x23, x1, x18, x26, x27, x28, x29, undef], []⟩) (by kernel_rfl) ?_
  refine wp_seq ?_
  refine lwp_list ?_
  refine ls_move (x := x18) (by kernel_rfl) (by kernel_rfl) ?_
  refine ls_assign (x := x18) (by kernel_rfl) (by kernel_rfl) ?_
  refine ls_nil ?_
  refine then_normal ?_
  refine fr_eq (b := ⟨#[x0, x1, undef, undef, x18, x18, x1, x7, x0, x9, x10, x11, x0, x13, x14, x15, x16, x17, x18, x0, x0, x21, x22, x23, x1, x18, x26, x27, x28, x29, x18], []⟩) (by kernel_rfl) ?_
  refine wp_ret ?_
  exact end1 (Try.results61) (by kernel_rfl) (by kernel_rfl) HA_3 H _ (.inr rfl)

end Go.Proofs.Ytecoejjpdogklaa
