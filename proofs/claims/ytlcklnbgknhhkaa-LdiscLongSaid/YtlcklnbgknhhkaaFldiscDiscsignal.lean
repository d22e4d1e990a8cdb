/- The shallow reading of one function, and that the function does it. Written by a program. -/
import Derived.Test.YtlcklnbgknhhkaaFnC
set_option linter.unusedVariables false
namespace Go.Proofs.Ytlcklnbgknhhkaa
open Go Go.HW

def ldisc_Disc_signal_S (x0 x1 : Value) (h : Heap) (R : Value → Heap → Prop) : Prop :=
  ldisc_Disc_local_c x0 (.int .i64 64) h fun x7 h => 
  sNot x7 fun x8 =>
  sIf x8 (R (.int .i64 0) h) (ldisc_Disc_is_c x0 (.int .i64 0) x1 h fun x12 h_1 => 
  sIf x12 (R (.int .i64 1) h_1) (ldisc_Disc_is_c x0 (.int .i64 1) x1 h_1 fun x16 h_2 => 
  sIf x16 (R (.int .i64 2) h_2) (ldisc_Disc_is_c x0 (.int .i64 2) x1 h_2 fun x20 h_3 => 
  sIf x20 (R (.int .i64 3) h_3) (R (.int .i64 0) h_3))))
set_option maxRecDepth 100000 in
theorem ldisc_Disc_signal_runs {x0 x1 : Value} {h : Heap} {R : Value → Heap → Prop} (H : ldisc_Disc_signal_S x0 x1 h R) : ldisc_Disc_signal_c x0 x1 h R := by
  unfold ldisc_Disc_signal_S at H
  refine runs_of (b := ⟨#[x0, x1, undef, undef, undef, undef, undef, undef, undef, undef, undef, undef, undef, undef, undef, undef, undef, undef, undef, undef, undef], []⟩) Try.call65 Try.func65 rfl (by kernel_rfl) (fun w0 HA => ?_)
  refine wp_seq ?_
  refine lwp_list ?_
  refine ls_assign (x := (.int .i64 0)) (by kernel_rfl) (by kernel_rfl) ?_
  refine ls_nil ?_
  refine then_normal ?_
  refine fr_eq (b := ⟨#[x0, x1, undef, undef, (.int .i64 0), undef, undef, undef, undef, undef, undef, undef, undef, undef, undef, undef, undef, undef, undef, undef, undef], []⟩) (by kernel_rfl) ?_
  refine wp_seq ?_
  refine wp_block ?_
  refine wp_seq ?_
  refine lwp_list ?_
  refine ls_move (x := x0) (by kernel_rfl) (by kernel_rfl) ?_
  refine ls_d (d := some 7) (by kernel_rfl) (by kernel_rfl) HA (d_call (by kernel_rfl) (by kernel_rfl) H) (fun x7 h w H HA => ?_)
  refine ls_p (d := some 8) (by kernel_rfl) (by kernel_rfl) (p_not (by kernel_rfl) H) (fun x8 H => ?_)
  refine ls_assign (x := x8) (by kernel_rfl) (by kernel_rfl) ?_
  refine ls_nil ?_
  refine then_normal ?_
  refine fr_eq (b := ⟨#[x0, x1, undef, undef, (.int .i64 0), x8, x0, x7, x8, undef, undef, undef, undef, undef, undef, undef, undef, undef, undef, undef, undef], []⟩) (by kernel_rfl) ?_
  refine wp_if rfl H (fun H => ?_) (fun H => ?_)
  · refine wp_seq ?_
    refine lwp_list ?_
    refine ls_assign (x := (.int .i64 0)) (by kernel_rfl) (by kernel_rfl) ?_
    refine ls_nil ?_
    refine then_normal ?_
    refine fr_eq (b := ⟨#[x0, x1, undef, undef, (.int .i64 0), x8, x0, x7, x8, undef, undef, undef, undef, undef, undef, undef, undef, undef, undef, undef, undef], []⟩) (by kernel_rfl) ?_
    refine wp_ret ?_
    refine block_ret ?_
    refine then_ret ?_
    exact end1 (Try.results65) (by kernel_rfl) (by kernel_rfl) HA H _ (.inr rfl)
  · refine wp_seq ?_
    refine lwp_list ?_
    refine ls_move (x := x0) (by kernel_rfl) (by kernel_rfl) ?_
    refine ls_move (x := x1) (by kernel_rfl) (by kernel_rfl) ?_
    refine ls_d (d := some 12) (by kernel_rfl) (by kernel_rfl) HA (d_call (by kernel_rfl) (by kernel_rfl) H) (fun x12 h_1 w_1 H HA_1 => ?_)
    refine ls_assign (x := x12) (by kernel_rfl) (by kernel_rfl) ?_
    refine ls_nil ?_
    refine then_normal ?_
    refine fr_eq (b := ⟨#[x0, x1, undef, undef, (.int .i64 0), x8, x0, x7, x8, x12, x0, x1, x12, undef, undef, undef, undef, undef, undef, undef, undef], []⟩) (by kernel_rfl) ?_
    refine wp_if rfl H (fun H => ?_) (fun H => ?_)
    · refine wp_seq ?_
      refine lwp_list ?_
      refine ls_assign (x := (.int .i64 1)) (by kernel_rfl) (by kernel_rfl) ?_
      refine ls_nil ?_
      refine then_normal ?_
      refine fr_eq (b := ⟨#[x0, x1, undef, undef, (.int .i64 1), x8, x0, x7, x8, x12, x0, x1, x12, undef, undef, undef, undef, undef, undef, undef, undef], []⟩) (by kernel_rfl) ?_
      refine wp_ret ?_
      refine block_ret ?_
      refine then_ret ?_
      exact end1 (Try.results65) (by kernel_rfl) (by kernel_rfl) HA_1 H _ (.inr rfl)
    · refine wp_seq ?_
      refine lwp_list ?_
      refine ls_move (x := x0) (by kernel_rfl) (by kernel_rfl) ?_
      refine ls_move (x := x1) (by kernel_rfl) (by kernel_rfl) ?_
      refine ls_d (d := some 16) (by kernel_rfl) (by kernel_rfl) HA_1 (d_call (by kernel_rfl) (by kernel_rfl) H) (fun x16 h_2 w_2 H HA_2 => ?_)
      refine ls_assign (x := x16) (by kernel_rfl) (by kernel_rfl) ?_
      refine ls_nil ?_
      refine then_normal ?_
      refine fr_eq (b := ⟨#[x0, x1, undef, undef, (.int .i64 0), x8, x0, x7, x8, x12, x0, x1, x12, x16, x0, x1, x16, undef, undef, undef, undef], []⟩) (by kernel_rfl) ?_
      refine wp_if rfl H (fun H => ?_) (fun H => ?_)
      · refine wp_seq ?_
        refine lwp_list ?_
        refine ls_assign (x := (.int .i64 2)) (by kernel_rfl) (by kernel_rfl) ?_
        refine ls_nil ?_
        refine then_normal ?_
        refine fr_eq (b := ⟨#[x0, x1, undef, undef, (.int .i64 2), x8, x0, x7, x8, x12, x0, x1, x12, x16, x0, x1, x16, undef, undef, undef, undef], []⟩) (by kernel_rfl) ?_
        refine wp_ret ?_
        refine block_ret ?_
        refine then_ret ?_
        exact end1 (Try.results65) (by kernel_rfl) (by kernel_rfl) HA_2 H _ (.inr rfl)
      · refine wp_seq ?_
        refine lwp_list ?_
        refine ls_move (x := x0) (by kernel_rfl) (by kernel_rfl) ?_
        refine ls_move (x := x1) (by kernel_rfl) (by kernel_rfl) ?_
        refine ls_d (d := some 20) (by kernel_rfl) (by kernel_rfl) HA_2 (d_call (by kernel_rfl) (by kernel_rfl) H) (fun x20 h_3 w_3 H HA_3 => ?_)
        refine ls_assign (x := x20) (by kernel_rfl) (by kernel_rfl) ?_
        refine ls_nil ?_
        refine then_normal ?_
        refine fr_eq (b := ⟨#[x0, x1, undef, undef, (.int .i64 0), x8, x0, x7, x8, x12, x0, x1, x12, x16, x0, x1, x16, x20, x0, x1, x20], []⟩) (by kernel_rfl) ?_
        refine wp_if rfl H (fun H => ?_) (fun H => ?_)
        · refine wp_seq ?_
          refine lwp_list ?_
          refine ls_assign (x := (.int .i64 3)) (by kernel_rfl) (by kernel_rfl) ?_
          refine ls_nil ?_
          refine then_normal ?_
          refine fr_eq (b := ⟨#[x0, x1, undef, undef, (.int .i64 3), x8, x0, x7, x8, x12, x0, x1, x12, x16, x0, x1, x16, x20, x0, x1, x20], []⟩) (by kernel_rfl) ?_
          refine wp_ret ?_
          refine block_ret ?_
          refine then_ret ?_
          exact end1 (Try.results65) (by kernel_rfl) (by kernel_rfl) HA_3 H _ (.inr rfl)
        · refine wp_skip ?_
          refine block_normal ?_
          refine then_normal ?_
          refine fr_eq (b := ⟨#[x0, x1, undef, undef, (.int .i64 0), x8, x0, x7, x8, x12, x0, x1, x12, x16, x0, x1, x16, x20, x0, x1, x20], []⟩) (by kernel_rfl) ?_
          refine wp_seq ?_
          refine lwp_list ?_
          refine ls_assign (x := (.int .i64 0)) (by kernel_rfl) (by kernel_rfl) ?_
          refine ls_nil ?_
          refine then_normal ?_
          refine fr_eq (b := ⟨#[x0, x1, undef, undef, (.int .i64 0), x8, x0, x7, x8, x12, x0, x1, x12, x16, x0, x1, x16, x20, x0, x1, x20], []⟩) (by kernel_rfl) ?_
          refine wp_ret ?_
          exact end1 (Try.results65) (by kernel_rfl) (by kernel_rfl) HA_3 H _ (.inr rfl)

end Go.Proofs.Ytlcklnbgknhhkaa
