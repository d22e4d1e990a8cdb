/- The shallow reading of one function, and that the function does it. Written by a program. -/
import Derived.Test.YtpgpbhbpamgboaaFnC
set_option linter.unusedVariables false
namespace Go.Proofs.Ytpgpbhbpamgboaa
open Go Go.HW

def betonyref14_Send_S (x0 x1 x2 : Value) (h : Heap) (R : Value → Heap → Prop) : Prop :=
  sLen x2 fun x8 =>
  sGt x8 (.int .i64 4096) fun x9 =>
  sIf x9 (R (.int .i64 10) h) (sGe x0 x1 fun x12 =>
  sIf x12 (R (.int .i64 3) h) (R (.int .i64 0) h))
set_option maxRecDepth 100000 in
theorem betonyref14_Send_runs {x0 x1 x2 : Value} {h : Heap} {R : Value → Heap → Prop} (H : betonyref14_Send_S x0 x1 x2 h R) : betonyref14_Send_c x0 x1 x2 h R := by
  unfold betonyref14_Send_S at H
  refine runs_of (b := ⟨#[x0, x1, x2, undef, undef, undef, undef, undef, undef, undef, undef, undef, undef], []⟩) Try.call22 Try.func22 rfl (by kernel_rfl) (fun w0 HA => ?_)
  refine wp_seq ?_
  refine lwp_list ?_
  refine ls_assign (x := (.int .i64 0)) (by kernel_rfl) (by kernel_rfl) ?_
  refine ls_nil ?_
  refine then_normal ?_
  refine fr_eq (b := ⟨#[x0, x1, x2, undef, undef, undef, (.int .i64 0), undef, undef, undef, undef, undef, undef], []⟩) (by kernel_rfl) ?_
  refine wp_seq ?_
  refine wp_seq ?_
  refine lwp_list ?_
  refine ls_move (x := x2) (by kernel_rfl) (by kernel_rfl) ?_
  refine ls_p (d := some 8) (by kernel_rfl) (by kernel_rfl) (p_len Try.underlying37 (by kernel_rfl) H) (fun x8 H => ?_)
  refine ls_p (d := some 9) (by kernel_rfl) (by kernel_rfl) (p_sGt (by kernel_rfl) (by kernel_rfl) H) (fun x9 H => ?_)
  refine ls_nil ?_
  refine then_normal ?_
  refine fr_eq (b := ⟨#[x0, x1, x2, undef, undef, undef, (.int .i64 0), x2, x8, x9, undef, undef, undef], []⟩) (by kernel_rfl) ?_
  refine wp_if rfl H (fun H => ?_) (fun H => ?_)
  · refine wp_seq ?_
    refine lwp_list ?_
    refine ls_assign (x := (.int .i64 10)) (by kernel_rfl) (by kernel_rfl) ?_
    refine ls_nil ?_
    refine then_normal ?_
    refine fr_eq (b := ⟨#[x0, x1, x2, undef, undef, undef, (.int .i64 10), x2, x8, x9, undef, undef, undef], []⟩) (by kernel_rfl) ?_
    refine wp_ret ?_
    refine then_ret ?_
    exact end1 (Try.results22) (by kernel_rfl) (by kernel_rfl) HA H _ (.inr rfl)
  · refine wp_skip ?_
    refine then_normal ?_
    refine fr_eq (b := ⟨#[x0, x1, x2, undef, undef, undef, (.int .i64 0), x2, x8, x9, undef, undef, undef], []⟩) (by kernel_rfl) ?_
    refine wp_seq ?_
    refine wp_seq ?_
    refine lwp_list ?_
    refine ls_move (x := x0) (by kernel_rfl) (by kernel_rfl) ?_
    refine ls_move (x := x1) (by kernel_rfl) (by kernel_rfl) ?_
    refine ls_p (d := some 12) (by kernel_rfl) (by kernel_rfl) (p_sGe (by kernel_rfl) (by kernel_rfl) H) (fun x12 H => ?_)
    refine ls_nil ?_
    refine then_normal ?_
    refine fr_eq (b := ⟨#[x0, x1, x2, undef, undef, undef, (.int .i64 0), x2, x8, x9, x0, x1, x12], []⟩) (by kernel_rfl) ?_
    refine wp_if rfl H (fun H => ?_) (fun H => ?_)
    · refine wp_seq ?_
      refine lwp_list ?_
      refine ls_assign (x := (.int .i64 3)) (by kernel_rfl) (by kernel_rfl) ?_
      refine ls_nil ?_
      refine then_normal ?_
      refine fr_eq (b := ⟨#[x0, x1, x2, undef, undef, undef, (.int .i64 3), x2, x8, x9, x0, x1, x12], []⟩) (by kernel_rfl) ?_
      refine wp_ret ?_
      refine then_ret ?_
      exact end1 (Try.results22) (by kernel_rfl) (by kernel_rfl) HA H _ (.inr rfl)
    · refine wp_skip ?_
      refine then_normal ?_
      refine fr_eq (b := ⟨#[x0, x1, x2, undef, undef, undef, (.int .i64 0), x2, x8, x9, x0, x1, x12], []⟩) (by kernel_rfl) ?_
      refine wp_seq ?_
      refine lwp_list ?_
      refine ls_assign (x := (.int .i64 0)) (by kernel_rfl) (by kernel_rfl) ?_
      refine ls_nil ?_
      refine then_normal ?_
      refine fr_eq (b := ⟨#[x0, x1, x2, undef, undef, undef, (.int .i64 0), x2, x8, x9, x0, x1, x12], []⟩) (by kernel_rfl) ?_
      refine wp_ret ?_
      exact end1 (Try.results22) (by kernel_rfl) (by kernel_rfl) HA H _ (.inr rfl)

end Go.Proofs.Ytpgpbhbpamgboaa
