/- The shallow reading of one function, and that the function does it. Written by a program. -/
import Derived.Test.YtecoejjpdogklaaFnC
set_option linter.unusedVariables false
namespace Go.Proofs.Ytecoejjpdogklaa
open Go Go.HW

def uart_Line_Read_S (x0 : Value) (h : Heap) (R : Value → Heap → Prop) : Prop :=
  sNew h #[.int .u8 0, .int .i64 0] 48 fun x2 h => 
  sNil x0 fun x6 =>
  sOff x6 0 fun x7 =>
  uart_row_api_Item_take_c x7 (.int .i64 1) h fun x8 h_1 => 
  sLen x8 fun x10 =>
  sEq x10 (.int .i64 0) fun x11 =>
  sIf x11 (sBuild #[.int .u8 0, .int .i64 0] [] fun x12 =>
  sStN h_1 x2 x12 2 fun h_2 => 
  sLdN h_2 x2 2 fun r2 =>
  R (.tuple #[r2, (.bool false)]) h_2) (sIxS x8 (.int .i64 0) 2 fun x14 =>
  sLdN h_1 x14 2 fun x15 =>
  sStN h_1 x2 x15 2 fun h_3 => 
  sLdN h_3 x2 2 fun r2_1 =>
  R (.tuple #[r2_1, (.bool true)]) h_3)
set_option maxRecDepth 100000 in
theorem uart_Line_Read_runs {x0 : Value} {h : Heap} {R : Value → Heap → Prop} (H : uart_Line_Read_S x0 h R) : uart_Line_Read_c x0 h R := by
  unfold uart_Line_Read_S at H
  refine runs_of (b := ⟨#[x0, undef, undef, undef, undef, undef, undef, undef, undef, undef, undef, undef, undef, undef, undef, undef], []⟩) Try.call31 Try.func31 rfl (by kernel_rfl) (fun w0 HA => ?_)
  refine wp_seq ?_
  refine lwp_list ?_
  refine ls_d (d := some 2) (by kernel_rfl) (by kernel_rfl) HA (d_alloc Try.zeroValue48 H) (fun x2 h w H HA => ?_)
  refine ls_assign (x := (.bool false)) (by kernel_rfl) (by kernel_rfl) ?_
  refine ls_nil ?_
  refine then_normal ?_
  refine fr_eq (b := ⟨#[x0, undef, x2, (.bool false), undef, undef, undef, undef, undef, undef, undef, undef, undef, undef, undef, undef], []⟩) (by kernel_rfl) ?_
  refine wp_seq ?_
  refine lwp_list ?_
  refine ls_move (x := x0) (by kernel_rfl) (by kernel_rfl) ?_
  refine ls_p (d := some 6) (by kernel_rfl) (by kernel_rfl) (p_nil (by kernel_rfl) H) (fun x6 H => ?_)
  refine ls_p (d := some 7) (by kernel_rfl) (by kernel_rfl) (p_off Try.underlying90 rfl (fun w => ⟨_, Try.sizeOf86 w⟩) rfl (by kernel_rfl) H) (fun x7 H => ?_)
  refine ls_d (d := some 8) (by kernel_rfl) (by kernel_rfl) HA (d_call (by kernel_rfl) (by kernel_rfl) H) (fun x8 h_1 w_1 H HA_1 => ?_)
  refine ls_assign (x := x8) (by kernel_rfl) (by kernel_rfl) ?_
  refine ls_nil ?_
  refine then_normal ?_
  refine fr_eq (b := ⟨#[x0, undef, x2, (.bool false), x8, x0, x6, x7, x8, undef, undef, undef, undef, undef, undef, undef], []⟩) (by kernel_rfl) ?_
  refine wp_seq ?_
  refine wp_seq ?_
  refine lwp_list ?_
  refine ls_move (x := x8) (by kernel_rfl) (by kernel_rfl) ?_
  refine ls_p (d := some 10) (by kernel_rfl) (by kernel_rfl) (p_len Try.underlying53 (by kernel_rfl) H) (fun x10 H => ?_)
  refine ls_p (d := some 11) (by kernel_rfl) (by kernel_rfl) (p_sEq (by kernel_rfl) (by kernel_rfl) H) (fun x11 H => ?_)
  refine ls_nil ?_
  refine then_normal ?_
  refine fr_eq (b := ⟨#[x0, undef, x2, (.bool false), x8, x0, x6, x7, x8, x8, x10, x11, undef, undef, undef, undef], []⟩) (by kernel_rfl) ?_
  refine wp_if rfl H (fun H => ?_) (fun H => ?_)
  · refine wp_seq ?_
    refine lwp_list ?_
    refine ls_p (d := some 12) (by kernel_rfl) (by kernel_rfl) (p_lit (pl := [(0, 1), (1, 1)]) Try.zeroValue48 Try.underlying48 ⟨(by kernel_rfl), Try.sizeOf5, (by kernel_rfl), Try.sizeOf3, trivial⟩ (by kernel_rfl) (by kernel_rfl) H) (fun x12 H => ?_)
    refine ls_d (d := none) (by kernel_rfl) (by kernel_rfl) HA_1 (d_stn Try.sizeOf48 (by kernel_rfl) (by kernel_rfl) H) (fun _ h_2 w_2 H HA_2 => ?_)
    refine ls_assign (x := (.bool false)) (by kernel_rfl) (by kernel_rfl) ?_
    refine ls_nil ?_
    refine then_normal ?_
    refine fr_eq (b := ⟨#[x0, undef, x2, (.bool false), x8, x0, x6, x7, x8, x8, x10, x11, x12, undef, undef, undef], []⟩) (by kernel_rfl) ?_
    refine wp_ret ?_
    refine then_ret ?_
    obtain ⟨r2, hr2, H⟩ := ld_n Try.isAgg48 Try.sizeOf48 H
    exact endR (vs := [r2, (.bool false)]) (Try.results31) (by kernel_rfl) ⟨⟨_, (by kernel_rfl), hr2⟩, (by kernel_rfl), trivial⟩ HA_2 H _ (.inr rfl)
  · refine wp_skip ?_
    refine then_normal ?_
    refine fr_eq (b := ⟨#[x0, undef, x2, (.bool false), x8, x0, x6, x7, x8, x8, x10, x11, undef, undef, undef, undef], []⟩) (by kernel_rfl) ?_
    refine wp_seq ?_
    refine lwp_list ?_
    refine ls_move (x := x8) (by kernel_rfl) (by kernel_rfl) ?_
    refine ls_p (d := some 14) (by kernel_rfl) (by kernel_rfl) (p_ixs Try.underlying53 Try.sizeOf48 (by kernel_rfl) (by kernel_rfl) H) (fun x14 H => ?_)
    refine ls_y (d := some 15) (by kernel_rfl) (by kernel_rfl) HA_1 (y_ldn Try.isAgg48 Try.sizeOf48 (by kernel_rfl) H) (fun x15 H => ?_)
    refine ls_d (d := none) (by kernel_rfl) (by kernel_rfl) HA_1 (d_stn Try.sizeOf48 (by kernel_rfl) (by kernel_rfl) H) (fun _ h_3 w_3 H HA_3 => ?_)
    refine ls_assign (x := (.bool true)) (by kernel_rfl) (by kernel_rfl) ?_
    refine ls_nil ?_
    refine then_normal ?_
    refine fr_eq (b := ⟨#[x0, undef, x2, (.bool true), x8, x0, x6, x7, x8, x8, x10, x11, undef, x8, x14, x15], []⟩) (by kernel_rfl) ?_
    refine wp_ret ?_
    obtain ⟨r2_1, hr2_1, H⟩ := ld_n Try.isAgg48 Try.sizeOf48 H
    exact endR (vs := [r2_1, (.bool true)]) (Try.results31) (by kernel_rfl) ⟨⟨_, (by kernel_rfl), hr2_1⟩, (by kernel_rfl), trivial⟩ HA_3 H _ (.inr rfl)

end Go.Proofs.Ytecoejjpdogklaa
