/- The shallow reading of one function, and that the function does it. Written by a program. -/
import Derived.Test.YtpgpbhbpamgboaaDoorFnC
set_option linter.unusedVariables false
namespace Go.Proofs.YtpgpbhbpamgboaaDoor
open Go Go.HW

def charset_name_S (x0 : Value) (h : Heap) (R : Value → Heap → Prop) : Prop :=
  sEq x0 (.int .u8 0) fun x4 =>
  sIf x4 (R (.int .u8 66) h) (R x0 h)
set_option maxRecDepth 100000 in
theorem charset_name_runs {x0 : Value} {h : Heap} {R : Value → Heap → Prop} (H : charset_name_S x0 h R) : charset_name_c x0 h R := by
  unfold charset_name_S at H
  refine runs_of (b := ⟨#[x0, undef, undef, undef, undef, undef], []⟩) Tryd.call13 Tryd.func13 rfl (by kernel_rfl) (fun w0 HA => ?_)
  refine wp_seq ?_
  refine lwp_list ?_
  refine ls_assign (x := (.int .u8 0)) (by kernel_rfl) (by kernel_rfl) ?_
  refine ls_nil ?_
  refine then_normal ?_
  refine fr_eq (b := ⟨#[x0, undef, (.int .u8 0), undef, undef, undef], []⟩) (by kernel_rfl) ?_
  refine wp_seq ?_
  refine wp_seq ?_
  refine lwp_list ?_
  refine ls_move (x := x0) (by kernel_rfl) (by kernel_rfl) ?_
  refine ls_p (d := some 4) (by kernel_rfl) (by kernel_rfl) (p_sEq (by kernel_rfl) (by kernel_rfl) H) (fun x4 H => ?_)
  refine ls_nil ?_
  refine then_normal ?_
  refine fr_eq (b := ⟨#[x0, undef, (.int .u8 0), x0, x4, undef], []⟩) (by kernel_rfl) ?_
  refine wp_if rfl H (fun H => ?_) (fun H => ?_)
  · refine wp_seq ?_
    refine lwp_list ?_
    refine ls_assign (x := (.int .u8 66)) (by kernel_rfl) (by kernel_rfl) ?_
    refine ls_nil ?_
    refine then_normal ?_
    refine fr_eq (b := ⟨#[x0, undef, (.int .u8 66), x0, x4, undef], []⟩) (by kernel_rfl) ?_
    refine wp_ret ?_
    refine then_ret ?_
    exact end1 (Tryd.results13) (by kernel_rfl) (by kernel_rfl) HA H _ (.inr rfl)
  · refine wp_skip ?_
    refine then_normal ?_
    refine fr_eq (b := ⟨#[x0, undef, (.int .u8 0), x0, x4, undef], []⟩) (by kernel_rfl) ?_
    refine wp_seq ?_
    refine lwp_list ?_
    refine ls_move (x := x0) (by kernel_rfl) (by kernel_rfl) ?_
    refine ls_assign (x := x0) (by kernel_rfl) (by kernel_rfl) ?_
    refine ls_nil ?_
    refine then_normal ?_
    refine fr_eq (b := ⟨#[x0, undef, x0, x0, x4, x0], []⟩) (by kernel_rfl) ?_
    refine wp_ret ?_
    exact end1 (Tryd.results13) (by kernel_rfl) (by kernel_rfl) HA H _ (.inr rfl)

end Go.Proofs.YtpgpbhbpamgboaaDoor
