/- The shallow reading of one function, and that the function does it. Written by a program. -/
import Derived.Test.YtlcklnbgknhhkaaFnC
set_option linter.unusedVariables false
namespace Go.Proofs.Ytlcklnbgknhhkaa
open Go Go.HW

def ldisc_New_S (x0 : Value) (h : Heap) (R : Value → Heap → Prop) : Prop :=
  sBox h x0 28 fun x1 h => 
  sLdN h x1 17 fun x3 =>
  termios_Right_c x3 h fun x4 h_1 => 
  sNot x4 fun x5 =>
  sIf x5 (R (.pointer none) h_1) (sLdN h_1 x1 17 fun x6 =>
  sBuild #[.int .i64 0, .int .i64 0, .int .i64 0, .int .i64 0, .int .i64 0, .int .i64 0, .int .i64 0, .int .i64 0, .int .i64 0, .int .i64 0, .int .i64 0, .int .i64 0, .int .i64 0, .int .i64 0, .int .i64 0, .int .i64 0, .int .i64 0, .slice none 0 0, .slice none 0 0, .slice none 0 0, .bool false, .bool false, .slice none 0 0] [(0, 17, x6)] fun x7 =>
  sBox h_1 x7 72 fun x8 h_2 => 
  R x8 h_2)
set_option maxRecDepth 100000 in
theorem ldisc_New_runs {x0 : Value} {h : Heap} {R : Value → Heap → Prop} (H : ldisc_New_S x0 h R) : ldisc_New_c x0 h R := by
  unfold ldisc_New_S at H
  refine runs_of (b := ⟨#[x0, undef, undef, undef, undef, undef, undef, undef, undef], []⟩) Try.call13 Try.func13 rfl (by kernel_rfl) (fun w0 HA => ?_)
  refine wp_seq ?_
  refine lwp_list ?_
  refine ls_d (d := some 1) (by kernel_rfl) (by kernel_rfl) HA (d_box (by kernel_rfl) H) (fun x1 h w H HA => ?_)
  refine ls_assign (x := (.pointer none)) (by kernel_rfl) (by kernel_rfl) ?_
  refine ls_nil ?_
  refine then_normal ?_
  refine fr_eq (b := ⟨#[x0, x1, (.pointer none), undef, undef, undef, undef, undef, undef], []⟩) (by kernel_rfl) ?_
  refine wp_seq ?_
  refine wp_seq ?_
  refine lwp_list ?_
  refine ls_y (d := some 3) (by kernel_rfl) (by kernel_rfl) HA (y_ldn Try.isAgg28 Try.sizeOf28 (by kernel_rfl) H) (fun x3 H => ?_)
  refine ls_d (d := some 4) (by kernel_rfl) (by kernel_rfl) HA (d_call (by kernel_rfl) (by kernel_rfl) H) (fun x4 h_1 w_1 H HA_1 => ?_)
  refine ls_p (d := some 5) (by kernel_rfl) (by kernel_rfl) (p_not (by kernel_rfl) H) (fun x5 H => ?_)
  refine ls_nil ?_
  refine then_normal ?_
  refine fr_eq (b := ⟨#[x0, x1, (.pointer none), x3, x4, x5, undef, undef, undef], []⟩) (by kernel_rfl) ?_
  refine wp_if rfl H (fun H => ?_) (fun H => ?_)
  · refine wp_seq ?_
    refine lwp_list ?_
    refine ls_assign (x := (.pointer none)) (by kernel_rfl) (by kernel_rfl) ?_
    refine ls_nil ?_
    refine then_normal ?_
    refine fr_eq (b := ⟨#[x0, x1, (.pointer none), x3, x4, x5, undef, undef, undef], []⟩) (by kernel_rfl) ?_
    refine wp_ret ?_
    refine then_ret ?_
    exact end1 (Try.results13) (by kernel_rfl) (by kernel_rfl) HA_1 H _ (.inr rfl)
  · refine wp_skip ?_
    refine then_normal ?_
    refine fr_eq (b := ⟨#[x0, x1, (.pointer none), x3, x4, x5, undef, undef, undef], []⟩) (by kernel_rfl) ?_
    refine wp_seq ?_
    refine lwp_list ?_
    refine ls_y (d := some 6) (by kernel_rfl) (by kernel_rfl) HA_1 (y_ldn Try.isAgg28 Try.sizeOf28 (by kernel_rfl) H) (fun x6 H => ?_)
    refine ls_p (d := some 7) (by kernel_rfl) (by kernel_rfl) (p_lit (pl := [(0, 17), (17, 1), (18, 1), (19, 1), (20, 1), (21, 1), (22, 1)]) Try.zeroValue72 Try.underlying72 ⟨(by kernel_rfl), Try.sizeOf28, (by kernel_rfl), Try.sizeOf30, (by kernel_rfl), Try.sizeOf22, (by kernel_rfl), Try.sizeOf30, (by kernel_rfl), Try.sizeOf4, (by kernel_rfl), Try.sizeOf4, (by kernel_rfl), Try.sizeOf30, trivial⟩ (by kernel_rfl) (by kernel_rfl) H) (fun x7 H => ?_)
    refine ls_d (d := some 8) (by kernel_rfl) (by kernel_rfl) HA_1 (d_box (by kernel_rfl) H) (fun x8 h_2 w_2 H HA_2 => ?_)
    refine ls_assign (x := x8) (by kernel_rfl) (by kernel_rfl) ?_
    refine ls_nil ?_
    refine then_normal ?_
    refine fr_eq (b := ⟨#[x0, x1, x8, x3, x4, x5, x6, x7, x8], []⟩) (by kernel_rfl) ?_
    refine wp_ret ?_
    exact end1 (Try.results13) (by kernel_rfl) (by kernel_rfl) HA_2 H _ (.inr rfl)

end Go.Proofs.Ytlcklnbgknhhkaa
