/- The shallow reading of one function, and that the function does it. Written by a program. -/
import Derived.Test.YtecoejjpdogklaaFnC
set_option linter.unusedVariables false
namespace Go.Proofs.Ytecoejjpdogklaa
open Go Go.HW

def fifo_Queue_Take_S (x0 : Value) (h : Heap) (R : Value → Heap → Prop) : Prop :=
  sNil x0 fun x6 =>
  sOff x6 3 fun x7 =>
  sLd h x7 fun x8 =>
  sLen x8 fun x9 =>
  sEq x9 (.int .i64 0) fun x10 =>
  sIf x10 (R (.tuple #[(.int .i64 0), (.bool false)]) h) (sNil x0 fun x12 =>
  sOff x12 3 fun x13 =>
  sLd h x13 fun x14 =>
  sIxS x14 (.int .i64 0) 2 fun x15 =>
  sOff x15 0 fun x16 =>
  sLd h x16 fun x17 =>
  sNil x0 fun x20 =>
  sOff x20 3 fun x21 =>
  sLd h x21 fun x22 =>
  sSl x22 (some (.int .i64 1)) none 2 fun x23 =>
  sNil x0 fun x24 =>
  sOff x24 3 fun x25 =>
  sSt h x25 x23 fun h => 
  R (.tuple #[x17, (.bool true)]) h)
set_option maxRecDepth 100000 in
theorem fifo_Queue_Take_runs {x0 : Value} {h : Heap} {R : Value → Heap → Prop} (H : fifo_Queue_Take_S x0 h R) : fifo_Queue_Take_c x0 h R := by
  unfold fifo_Queue_Take_S at H
  refine runs_of (b := ⟨#[x0, undef, undef, undef, undef, undef, undef, undef, undef, undef, undef, undef, undef, undef, undef, undef, undef, undef, undef, undef, undef, undef, undef, undef, undef, undef, undef], []⟩) Try.call41 Try.func41 rfl (by kernel_rfl) (fun w0 HA => ?_)
  refine wp_seq ?_
  refine lwp_list ?_
  refine ls_assign (x := (.int .i64 0)) (by kernel_rfl) (by kernel_rfl) ?_
  refine ls_assign (x := (.bool false)) (by kernel_rfl) (by kernel_rfl) ?_
  refine ls_nil ?_
  refine then_normal ?_
  refine fr_eq (b := ⟨#[x0, undef, (.int .i64 0), (.bool false), undef, undef, undef, undef, undef, undef, undef, undef, undef, undef, undef, undef, undef, undef, undef, undef, undef, undef, undef, undef, undef, undef, undef], []⟩) (by kernel_rfl) ?_
  refine wp_seq ?_
  refine wp_seq ?_
  refine lwp_list ?_
  refine ls_move (x := x0) (by kernel_rfl) (by kernel_rfl) ?_
  refine ls_p (d := some 6) (by kernel_rfl) (by kernel_rfl) (p_nil (by kernel_rfl) H) (fun x6 H => ?_)
  refine ls_p (d := some 7) (by kernel_rfl) (by kernel_rfl) (p_off Try.underlying96 rfl (fun w => ⟨_, Try.sizeOf94 w⟩) rfl (by kernel_rfl) H) (fun x7 H => ?_)
  refine ls_y (d := some 8) (by kernel_rfl) (by kernel_rfl) HA (y_ld Try.isAgg94 (by kernel_rfl) H) (fun x8 H => ?_)
  refine ls_p (d := some 9) (by kernel_rfl) (by kernel_rfl) (p_len Try.underlying94 (by kernel_rfl) H) (fun x9 H => ?_)
  refine ls_p (d := some 10) (by kernel_rfl) (by kernel_rfl) (p_sEq (by kernel_rfl) (by kernel_rfl) H) (fun x10 H => ?_)
  refine ls_nil ?_
  refine then_normal ?_
  refine fr_eq (b := ⟨#[x0, undef, (.int .i64 0), (.bool false), undef, x0, x6, x7, x8, x9, x10, undef, undef, undef, undef, undef, undef, undef, undef, undef, undef, undef, undef, undef, undef, undef, undef], []⟩) (by kernel_rfl) ?_
  refine wp_if rfl H (fun H => ?_) (fun H => ?_)
  · refine wp_seq ?_
    refine lwp_list ?_
    refine ls_assign (x := (.int .i64 0)) (by kernel_rfl) (by kernel_rfl) ?_
    refine ls_assign (x := (.bool false)) (by kernel_rfl) (by kernel_rfl) ?_
    refine ls_nil ?_
    refine then_normal ?_
    refine fr_eq (b := ⟨#[x0, undef, (.int .i64 0), (.bool false), undef, x0, x6, x7, x8, x9, x10, undef, undef, undef, undef, undef, undef, undef, undef, undef, undef, undef, undef, undef, undef, undef, undef], []⟩) (by kernel_rfl) ?_
    refine wp_ret ?_
    refine then_ret ?_
    exact end2 (Try.results41) (by kernel_rfl) (by kernel_rfl) (by kernel_rfl) HA H _ (.inr rfl)
  · refine wp_skip ?_
    refine then_normal ?_
    refine fr_eq (b := ⟨#[x0, undef, (.int .i64 0), (.bool false), undef, x0, x6, x7, x8, x9, x10, undef, undef, undef, undef, undef, undef, undef, undef, undef, undef, undef, undef, undef, undef, undef, undef], []⟩) (by kernel_rfl) ?_
    refine wp_seq ?_
    refine lwp_list ?_
    refine ls_move (x := x0) (by kernel_rfl) (by kernel_rfl) ?_
    refine ls_p (d := some 12) (by kernel_rfl) (by kernel_rfl) (p_nil (by kernel_rfl) H) (fun x12 H => ?_)
    refine ls_p (d := some 13) (by kernel_rfl) (by kernel_rfl) (p_off Try.underlying96 rfl (fun w => ⟨_, Try.sizeOf94 w⟩) rfl (by kernel_rfl) H) (fun x13 H => ?_)
    refine ls_y (d := some 14) (by kernel_rfl) (by kernel_rfl) HA (y_ld Try.isAgg94 (by kernel_rfl) H) (fun x14 H => ?_)
    refine ls_p (d := some 15) (by kernel_rfl) (by kernel_rfl) (p_ixs Try.underlying94 Try.sizeOf98 (by kernel_rfl) (by kernel_rfl) H) (fun x15 H => ?_)
    refine ls_p (d := some 16) (by kernel_rfl) (by kernel_rfl) (p_off Try.underlying98 rfl (fun w => ⟨_, Try.sizeOf3 w⟩) rfl (by kernel_rfl) H) (fun x16 H => ?_)
    refine ls_fr (b := ⟨#[x0, undef, (.int .i64 0), (.bool false), undef, x0, x6, x7, x8, x9, x10, x0, x12, x13, x14, x15, x16, undef, undef, undef, undef, undef, undef, undef, undef, undef, undef], []⟩) (by kernel_rfl) ?_
    refine ls_y (d := some 17) (by kernel_rfl) (by kernel_rfl) HA (y_ld Try.isAgg3 (by kernel_rfl) H) (fun x17 H => ?_)
    refine ls_assign (x := x17) (by kernel_rfl) (by kernel_rfl) ?_
    refine ls_nil ?_
    refine then_normal ?_
    refine fr_eq (b := ⟨#[x0, undef, (.int .i64 0), (.bool false), x17, x0, x6, x7, x8, x9, x10, x0, x12, x13, x14, x15, x16, x17, undef, undef, undef, undef, undef, undef, undef, undef, undef], []⟩) (by kernel_rfl) ?_
    refine wp_seq ?_
    refine lwp_list ?_
    refine ls_move (x := x0) (by kernel_rfl) (by kernel_rfl) ?_
    refine ls_move (x := x0) (by kernel_rfl) (by kernel_rfl) ?_
    refine ls_p (d := some 20) (by kernel_rfl) (by kernel_rfl) (p_nil (by kernel_rfl) H) (fun x20 H => ?_)
    refine ls_p (d := some 21) (by kernel_rfl) (by kernel_rfl) (p_off Try.underlying96 rfl (fun w => ⟨_, Try.sizeOf94 w⟩) rfl (by kernel_rfl) H) (fun x21 H => ?_)
    refine ls_y (d := some 22) (by kernel_rfl) (by kernel_rfl) HA (y_ld Try.isAgg94 (by kernel_rfl) H) (fun x22 H => ?_)
    refine ls_p (d := some 23) (by kernel_rfl) (by kernel_rfl) (p_sl Try.underlying94 Try.sizeOf98 (by kernel_rfl) (by kernel_rfl) (by kernel_rfl) H) (fun x23 H => ?_)
    refine ls_fr (b := ⟨#[x0, undef, (.int .i64 0), (.bool false), x17, x0, x6, x7, x8, x9, x10, x0, x12, x13, x14, x15, x16, x17, x0, x0, x20, x21, x22, x23, undef, undef, undef], []⟩) (by kernel_rfl) ?_
    refine ls_p (d := some 24) (by kernel_rfl) (by kernel_rfl) (p_nil (by kernel_rfl) H) (fun x24 H => ?_)
    refine ls_p (d := some 25) (by kernel_rfl) (by kernel_rfl) (p_off Try.underlying96 rfl (fun w => ⟨_, Try.sizeOf94 w⟩) rfl (by kernel_rfl) H) (fun x25 H => ?_)
    refine ls_d (d := none) (by kernel_rfl) (by kernel_rfl) HA (d_st Try.sizeOf94 (by kernel_rfl) (by kernel_rfl) H) (fun _ h w H HA => ?_)
    refine ls_nil ?_
    refine then_normal ?_
    refine fr_eq (b := ⟨#[x0, undef, (.int .i64 0), (.bool false), x17, x0, x6, x7, x8, x9, x10, x0, x12, x13, x14, x15, x16, x17, x0, x0, x20, x21, x22, x23, x24, x25, undef], []⟩) (by kernel_rfl) ?_
    refine wp_seq ?_
    refine lwp_list ?_
    refine ls_move (x := x17) (by kernel_rfl) (by kernel_rfl) ?_
    refine ls_assign (x := x17) (by kernel_rfl) (by kernel_rfl) ?_
    refine ls_assign (x := (.bool true)) (by kernel_rfl) (by kernel_rfl) ?_
    refine ls_nil ?_
    refine then_normal ?_
    refine fr_eq (b := ⟨#[x0, undef, x17, (.bool true), x17, x0, x6, x7, x8, x9, x10, x0, x12, x13, x14, x15, x16, x17, x0, x0, x20, x21, x22, x23, x24, x25, x17], []⟩) (by kernel_rfl) ?_
    refine wp_ret ?_
    exact end2 (Try.results41) (by kernel_rfl) (by kernel_rfl) (by kernel_rfl) HA H _ (.inr rfl)

end Go.Proofs.Ytecoejjpdogklaa
