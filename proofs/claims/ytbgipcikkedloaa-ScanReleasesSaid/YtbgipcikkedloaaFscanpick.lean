/- The shallow reading of one function, and that the function does it. Written by a program. -/
import Derived.Test.YtbgipcikkedloaaFnC
set_option linter.unusedVariables false
namespace Go.Proofs.Ytbgipcikkedloaa
open Go Go.HW

def scan_pick_S (x0 x1 x2 x3 : Value) (h : Heap) (R : Value → Heap → Prop) : Prop :=
  sIf x3 (sIxB x1 x2 fun x12 =>
  sSlit h #[.int .u8 0] [(0, 1, x12)] 5 1 fun x13 h => 
  R x13 h) (sIxB x0 x2 fun x16 =>
  sSlit h #[.int .u8 0] [(0, 1, x16)] 5 1 fun x17 h_1 => 
  R x17 h_1)
set_option maxRecDepth 100000 in
theorem scan_pick_runs {x0 x1 x2 x3 : Value} {h : Heap} {R : Value → Heap → Prop} (H : scan_pick_S x0 x1 x2 x3 h R) : scan_pick_c x0 x1 x2 x3 h R := by
  unfold scan_pick_S at H
  refine runs_of (b := ⟨#[x0, x1, x2, x3, undef, undef, undef, undef, undef, undef, undef, undef, undef, undef, undef, undef, undef, undef], []⟩) Try.call44 Try.func44 rfl (by kernel_rfl) (fun w0 HA => ?_)
  refine wp_seq ?_
  refine lwp_list ?_
  refine ls_assign (x := (.slice none 0 0)) (by kernel_rfl) (by kernel_rfl) ?_
  refine ls_nil ?_
  refine then_normal ?_
  refine fr_eq (b := ⟨#[x0, x1, x2, x3, undef, undef, undef, undef, (.slice none 0 0), undef, undef, undef, undef, undef, undef, undef, undef, undef], []⟩) (by kernel_rfl) ?_
  refine wp_seq ?_
  refine wp_seq ?_
  refine lwp_list ?_
  refine ls_move (x := x3) (by kernel_rfl) (by kernel_rfl) ?_
  refine ls_nil ?_
  refine then_normal ?_
  refine fr_eq (b := ⟨#[x0, x1, x2, x3, undef, undef, undef, undef, (.slice none 0 0), x3, undef, undef, undef, undef, undef, undef, undef, undef], []⟩) (by kernel_rfl) ?_
  refine wp_if rfl H (fun H => ?_) (fun H => ?_)
  · refine wp_seq ?_
    refine lwp_list ?_
    refine ls_move (x := x1) (by kernel_rfl) (by kernel_rfl) ?_
    refine ls_move (x := x2) (by kernel_rfl) (by kernel_rfl) ?_
    refine ls_p (d := some 12) (by kernel_rfl) (by kernel_rfl) (p_ixb Try.underlying9 (by kernel_rfl) (by kernel_rfl) H) (fun x12 H => ?_)
    refine ls_d (d := some 13) (by kernel_rfl) (by kernel_rfl) HA (d_slit (zc := #[.int .u8 0]) Try.underlying54 Try.sizeOf5 (by decide) (.inr ⟨by decide, _, Try.zeroValue5, (by kernel_rfl)⟩) (by kernel_rfl) (by kernel_rfl) H) (fun x13 h w H HA => ?_)
    refine ls_assign (x := x13) (by kernel_rfl) (by kernel_rfl) ?_
    refine ls_nil ?_
    refine then_normal ?_
    refine fr_eq (b := ⟨#[x0, x1, x2, x3, undef, undef, undef, undef, x13, x3, x1, x2, x12, x13, undef, undef, undef, undef], []⟩) (by kernel_rfl) ?_
    refine wp_ret ?_
    refine then_ret ?_
    exact end1 (Try.results44) (by kernel_rfl) (by kernel_rfl) HA H _ (.inr rfl)
  · refine wp_skip ?_
    refine then_normal ?_
    refine fr_eq (b := ⟨#[x0, x1, x2, x3, undef, undef, undef, undef, (.slice none 0 0), x3, undef, undef, undef, undef, undef, undef, undef, undef], []⟩) (by kernel_rfl) ?_
    refine wp_seq ?_
    refine lwp_list ?_
    refine ls_move (x := x0) (by kernel_rfl) (by kernel_rfl) ?_
    refine ls_move (x := x2) (by kernel_rfl) (by kernel_rfl) ?_
    refine ls_p (d := some 16) (by kernel_rfl) (by kernel_rfl) (p_ixb Try.underlying9 (by kernel_rfl) (by kernel_rfl) H) (fun x16 H => ?_)
    refine ls_d (d := some 17) (by kernel_rfl) (by kernel_rfl) HA (d_slit (zc := #[.int .u8 0]) Try.underlying54 Try.sizeOf5 (by decide) (.inr ⟨by decide, _, Try.zeroValue5, (by kernel_rfl)⟩) (by kernel_rfl) (by kernel_rfl) H) (fun x17 h_1 w_1 H HA_1 => ?_)
    refine ls_assign (x := x17) (by kernel_rfl) (by kernel_rfl) ?_
    refine ls_nil ?_
    refine then_normal ?_
    refine fr_eq (b := ⟨#[x0, x1, x2, x3, undef, undef, undef, undef, x17, x3, undef, undef, undef, undef, x0, x2, x16, x17], []⟩) (by kernel_rfl) ?_
    refine wp_ret ?_
    exact end1 (Try.results44) (by kernel_rfl) (by kernel_rfl) HA_1 H _ (.inr rfl)

end Go.Proofs.Ytbgipcikkedloaa
