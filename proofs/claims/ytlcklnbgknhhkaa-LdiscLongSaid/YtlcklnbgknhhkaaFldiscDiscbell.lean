/- The shallow reading of one function, and that the function does it. Written by a program. -/
import Derived.Test.YtlcklnbgknhhkaaFnC
set_option linter.unusedVariables false
namespace Go.Proofs.Ytlcklnbgknhhkaa
open Go Go.HW

def ldisc_Disc_bell_S (x0 : Value) (h : Heap) (R : Value → Heap → Prop) : Prop :=
  ldisc_Disc_in_c x0 (.int .i64 64) h fun x3 h => 
  sIf x3 (sNil x0 fun x6 =>
  sOff x6 22 fun x7 =>
  sLd h x7 fun x8 =>
  sSlit h #[.int .u8 0] [(0, 1, (.int .u8 7))] 5 1 fun x9 h_1 => 
  sApp h_1 x8 x9 #[.int .u8 0] 5 1 fun x10 h_2 => 
  sNil x0 fun x11 =>
  sOff x11 22 fun x12 =>
  sSt h_2 x12 x10 fun h_3 => 
  R unit h_3) (R unit h)
set_option maxRecDepth 100000 in
theorem ldisc_Disc_bell_runs {x0 : Value} {h : Heap} {R : Value → Heap → Prop} (H : ldisc_Disc_bell_S x0 h R) : ldisc_Disc_bell_c x0 h R := by
  unfold ldisc_Disc_bell_S at H
  refine runs_of (b := ⟨#[x0, undef, undef, undef, undef, undef, undef, undef, undef, undef, undef, undef, undef], []⟩) Try.call76 Try.func76 rfl (by kernel_rfl) (fun w0 HA => ?_)
  refine wp_seq ?_
  refine lwp_list ?_
  refine ls_move (x := x0) (by kernel_rfl) (by kernel_rfl) ?_
  refine ls_d (d := some 3) (by kernel_rfl) (by kernel_rfl) HA (d_call (by kernel_rfl) (by kernel_rfl) H) (fun x3 h w H HA => ?_)
  refine ls_nil ?_
  refine then_normal ?_
  refine fr_eq (b := ⟨#[x0, undef, x0, x3, undef, undef, undef, undef, undef, undef, undef, undef, undef], []⟩) (by kernel_rfl) ?_
  refine wp_if rfl H (fun H => ?_) (fun H => ?_)
  · refine lwp_list ?_
    refine ls_move (x := x0) (by kernel_rfl) (by kernel_rfl) ?_
    refine ls_move (x := x0) (by kernel_rfl) (by kernel_rfl) ?_
    refine ls_p (d := some 6) (by kernel_rfl) (by kernel_rfl) (p_nil (by kernel_rfl) H) (fun x6 H => ?_)
    refine ls_p (d := some 7) (by kernel_rfl) (by kernel_rfl) (p_off Try.underlying72 rfl (fun w => ⟨_, Try.sizeOf30 w⟩) rfl (by kernel_rfl) H) (fun x7 H => ?_)
    refine ls_y (d := some 8) (by kernel_rfl) (by kernel_rfl) HA (y_ld Try.isAgg30 (by kernel_rfl) H) (fun x8 H => ?_)
    refine ls_d (d := some 9) (by kernel_rfl) (by kernel_rfl) HA (d_slit (zc := #[.int .u8 0]) Try.underlying30 Try.sizeOf5 (by decide) (.inr ⟨by decide, _, Try.zeroValue5, (by kernel_rfl)⟩) (by kernel_rfl) (by kernel_rfl) H) (fun x9 h_1 w_1 H HA_1 => ?_)
    refine ls_fr (b := ⟨#[x0, undef, x0, x3, x0, x0, x6, x7, x8, x9, undef, undef, undef], []⟩) (by kernel_rfl) ?_
    refine ls_d (d := some 10) (by kernel_rfl) (by kernel_rfl) HA_1 (d_app (z := #[.int .u8 0]) Try.underlying30 Try.underlying30 (.inl ⟨_, rfl⟩) Try.typeInfo5 (by kernel_rfl) Try.sizeOf5 Try.zeroValue5 (by kernel_rfl) (by kernel_rfl) (by kernel_rfl) H) (fun x10 h_2 w_2 H HA_2 => ?_)
    refine ls_p (d := some 11) (by kernel_rfl) (by kernel_rfl) (p_nil (by kernel_rfl) H) (fun x11 H => ?_)
    refine ls_p (d := some 12) (by kernel_rfl) (by kernel_rfl) (p_off Try.underlying72 rfl (fun w => ⟨_, Try.sizeOf30 w⟩) rfl (by kernel_rfl) H) (fun x12 H => ?_)
    refine ls_d (d := none) (by kernel_rfl) (by kernel_rfl) HA_2 (d_st Try.sizeOf30 (by kernel_rfl) (by kernel_rfl) H) (fun _ h_3 w_3 H HA_3 => ?_)
    refine ls_nil ?_
    exact end0 (Try.results76) (by kernel_rfl) HA_3 H _ (.inl rfl)
  · refine wp_skip ?_
    exact end0 (Try.results76) (by kernel_rfl) HA H _ (.inl rfl)

end Go.Proofs.Ytlcklnbgknhhkaa
