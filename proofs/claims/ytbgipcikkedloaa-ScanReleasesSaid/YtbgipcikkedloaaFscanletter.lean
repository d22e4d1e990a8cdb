/- The shallow reading of one function, and that the function does it. Written by a program. -/
import Derived.Test.YtbgipcikkedloaaFnC
set_option linter.unusedVariables false
namespace Go.Proofs.Ytbgipcikkedloaa
open Go Go.HW

def scan_letter_S (x0 x1 : Value) (h : Heap) (R : Value → Heap → Prop) : Prop :=
  sBits .and .i64 x1 (.int .i64 2) fun x7 =>
  sNe x7 (.int .i64 0) fun x8 =>
  sIf x8 (sAdd .i64 x0 (.int .i64 1) fun x10 =>
  sConv .u8 x10 fun x11 =>
  sSlit h #[.int .u8 0] [(0, 1, x11)] 5 1 fun x12 h => 
  R x12 h) (sBits .and .i64 x1 (.int .i64 1) fun x15 =>
  sNe x15 (.int .i64 0) fun x16 =>
  sIf x16 (sAdd .i64 (.int .i64 65) x0 fun x18 =>
  sConv .u8 x18 fun x19 =>
  sSlit h #[.int .u8 0] [(0, 1, x19)] 5 1 fun x20 h_1 => 
  R x20 h_1) (sAdd .i64 (.int .i64 97) x0 fun x22 =>
  sConv .u8 x22 fun x23 =>
  sSlit h #[.int .u8 0] [(0, 1, x23)] 5 1 fun x24 h_2 => 
  R x24 h_2))
set_option maxRecDepth 100000 in
theorem scan_letter_runs {x0 x1 : Value} {h : Heap} {R : Value → Heap → Prop} (H : scan_letter_S x0 x1 h R) : scan_letter_c x0 x1 h R := by
  unfold scan_letter_S at H
  refine runs_of (b := ⟨#[x0, x1, undef, undef, undef, undef, undef, undef, undef, undef, undef, undef, undef, undef, undef, undef, undef, undef, undef, undef, undef, undef, undef, undef, undef], []⟩) Try.call43 Try.func43 rfl (by kernel_rfl) (fun w0 HA => ?_)
  refine wp_seq ?_
  refine lwp_list ?_
  refine ls_assign (x := (.slice none 0 0)) (by kernel_rfl) (by kernel_rfl) ?_
  refine ls_nil ?_
  refine then_normal ?_
  refine fr_eq (b := ⟨#[x0, x1, undef, undef, (.slice none 0 0), undef, undef, undef, undef, undef, undef, undef, undef, undef, undef, undef, undef, undef, undef, undef, undef, undef, undef, undef, undef], []⟩) (by kernel_rfl) ?_
  refine wp_seq ?_
  refine wp_block ?_
  refine wp_seq ?_
  refine lwp_list ?_
  refine ls_move (x := x1) (by kernel_rfl) (by kernel_rfl) ?_
  refine ls_p (d := some 7) (by kernel_rfl) (by kernel_rfl) (p_bits (by decide) (by kernel_rfl) (by kernel_rfl) H) (fun x7 H => ?_)
  refine ls_p (d := some 8) (by kernel_rfl) (by kernel_rfl) (p_sNe (by kernel_rfl) (by kernel_rfl) H) (fun x8 H => ?_)
  refine ls_assign (x := x8) (by kernel_rfl) (by kernel_rfl) ?_
  refine ls_nil ?_
  refine then_normal ?_
  refine fr_eq (b := ⟨#[x0, x1, undef, undef, (.slice none 0 0), x8, x1, x7, x8, undef, undef, undef, undef, undef, undef, undef, undef, undef, undef, undef, undef, undef, undef, undef, undef], []⟩) (by kernel_rfl) ?_
  refine wp_if rfl H (fun H => ?_) (fun H => ?_)
  · refine wp_seq ?_
    refine lwp_list ?_
    refine ls_move (x := x0) (by kernel_rfl) (by kernel_rfl) ?_
    refine ls_p (d := some 10) (by kernel_rfl) (by kernel_rfl) (p_add (by kernel_rfl) (by kernel_rfl) H) (fun x10 H => ?_)
    refine ls_p (d := some 11) (by kernel_rfl) (by kernel_rfl) (p_conv Try.underlying3 Try.underlying5 (by kernel_rfl) H) (fun x11 H => ?_)
    refine ls_d (d := some 12) (by kernel_rfl) (by kernel_rfl) HA (d_slit (zc := #[.int .u8 0]) Try.underlying54 Try.sizeOf5 (by decide) (.inr ⟨by decide, _, Try.zeroValue5, (by kernel_rfl)⟩) (by kernel_rfl) (by kernel_rfl) H) (fun x12 h w H HA => ?_)
    refine ls_assign (x := x12) (by kernel_rfl) (by kernel_rfl) ?_
    refine ls_nil ?_
    refine then_normal ?_
    refine fr_eq (b := ⟨#[x0, x1, undef, undef, x12, x8, x1, x7, x8, x0, x10, x11, x12, undef, undef, undef, undef, undef, undef, undef, undef, undef, undef, undef, undef], []⟩) (by kernel_rfl) ?_
    refine wp_ret ?_
    refine block_ret ?_
    refine then_ret ?_
    exact end1 (Try.results43) (by kernel_rfl) (by kernel_rfl) HA H _ (.inr rfl)
  · refine wp_seq ?_
    refine lwp_list ?_
    refine ls_move (x := x1) (by kernel_rfl) (by kernel_rfl) ?_
    refine ls_p (d := some 15) (by kernel_rfl) (by kernel_rfl) (p_bits (by decide) (by kernel_rfl) (by kernel_rfl) H) (fun x15 H => ?_)
    refine ls_p (d := some 16) (by kernel_rfl) (by kernel_rfl) (p_sNe (by kernel_rfl) (by kernel_rfl) H) (fun x16 H => ?_)
    refine ls_assign (x := x16) (by kernel_rfl) (by kernel_rfl) ?_
    refine ls_nil ?_
    refine then_normal ?_
    refine fr_eq (b := ⟨#[x0, x1, undef, undef, (.slice none 0 0), x8, x1, x7, x8, undef, undef, undef, undef, x16, x1, x15, x16, undef, undef, undef, undef, undef, undef, undef, undef], []⟩) (by kernel_rfl) ?_
    refine wp_if rfl H (fun H => ?_) (fun H => ?_)
    · refine wp_seq ?_
      refine lwp_list ?_
      refine ls_move (x := x0) (by kernel_rfl) (by kernel_rfl) ?_
      refine ls_p (d := some 18) (by kernel_rfl) (by kernel_rfl) (p_add (by kernel_rfl) (by kernel_rfl) H) (fun x18 H => ?_)
      refine ls_p (d := some 19) (by kernel_rfl) (by kernel_rfl) (p_conv Try.underlying3 Try.underlying5 (by kernel_rfl) H) (fun x19 H => ?_)
      refine ls_d (d := some 20) (by kernel_rfl) (by kernel_rfl) HA (d_slit (zc := #[.int .u8 0]) Try.underlying54 Try.sizeOf5 (by decide) (.inr ⟨by decide, _, Try.zeroValue5, (by kernel_rfl)⟩) (by kernel_rfl) (by kernel_rfl) H) (fun x20 h_1 w_1 H HA_1 => ?_)
      refine ls_assign (x := x20) (by kernel_rfl) (by kernel_rfl) ?_
      refine ls_nil ?_
      refine then_normal ?_
      refine fr_eq (b := ⟨#[x0, x1, undef, undef, x20, x8, x1, x7, x8, undef, undef, undef, undef, x16, x1, x15, x16, x0, x18, x19, x20, undef, undef, undef, undef], []⟩) (by kernel_rfl) ?_
      refine wp_ret ?_
      refine block_ret ?_
      refine then_ret ?_
      exact end1 (Try.results43) (by kernel_rfl) (by kernel_rfl) HA_1 H _ (.inr rfl)
    · refine wp_skip ?_
      refine block_normal ?_
      refine then_normal ?_
      refine fr_eq (b := ⟨#[x0, x1, undef, undef, (.slice none 0 0), x8, x1, x7, x8, undef, undef, undef, undef, x16, x1, x15, x16, undef, undef, undef, undef, undef, undef, undef, undef], []⟩) (by kernel_rfl) ?_
      refine wp_seq ?_
      refine lwp_list ?_
      refine ls_move (x := x0) (by kernel_rfl) (by kernel_rfl) ?_
      refine ls_p (d := some 22) (by kernel_rfl) (by kernel_rfl) (p_add (by kernel_rfl) (by kernel_rfl) H) (fun x22 H => ?_)
      refine ls_p (d := some 23) (by kernel_rfl) (by kernel_rfl) (p_conv Try.underlying3 Try.underlying5 (by kernel_rfl) H) (fun x23 H => ?_)
      refine ls_d (d := some 24) (by kernel_rfl) (by kernel_rfl) HA (d_slit (zc := #[.int .u8 0]) Try.underlying54 Try.sizeOf5 (by decide) (.inr ⟨by decide, _, Try.zeroValue5, (by kernel_rfl)⟩) (by kernel_rfl) (by kernel_rfl) H) (fun x24 h_2 w_2 H HA_2 => ?_)
      refine ls_assign (x := x24) (by kernel_rfl) (by kernel_rfl) ?_
      refine ls_nil ?_
      refine then_normal ?_
      refine fr_eq (b := ⟨#[x0, x1, undef, undef, x24, x8, x1, x7, x8, undef, undef, undef, undef, x16, x1, x15, x16, undef, undef, undef, undef, x0, x22, x23, x24], []⟩) (by kernel_rfl) ?_
      refine wp_ret ?_
      exact end1 (Try.results43) (by kernel_rfl) (by kernel_rfl) HA_2 H _ (.inr rfl)

end Go.Proofs.Ytbgipcikkedloaa
