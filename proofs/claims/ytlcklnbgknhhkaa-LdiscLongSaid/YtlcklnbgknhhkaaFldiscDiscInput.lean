/- The shallow reading of one function, and that the function does it. Written by a program. -/
import Derived.Test.YtlcklnbgknhhkaaFnC
set_option linter.unusedVariables false
namespace Go.Proofs.Ytlcklnbgknhhkaa
open Go Go.HW

def ldisc_Disc_Input_S (x0 x1 : Value) (h : Heap) (R : Value → Heap → Prop) : Prop :=
  sNil x0 fun x7 =>
  sOff x7 22 fun x8 =>
  sSt h x8 (.slice none 0 0) fun h => 
  ldisc_Disc_byte_c x0 x1 h fun x11 h_1 => 
  sNil x0 fun x13 =>
  sOff x13 22 fun x14 =>
  sLd h_1 x14 fun x15 =>
  R (.tuple #[x15, x11]) h_1
set_option maxRecDepth 100000 in
theorem ldisc_Disc_Input_runs {x0 x1 : Value} {h : Heap} {R : Value → Heap → Prop} (H : ldisc_Disc_Input_S x0 x1 h R) : ldisc_Disc_Input_c x0 x1 h R := by
  unfold ldisc_Disc_Input_S at H
  refine runs_of (b := ⟨#[x0, x1, undef, undef, undef, undef, undef, undef, undef, undef, undef, undef, undef, undef, undef, undef, undef], []⟩) Try.call19 Try.func19 rfl (by kernel_rfl) (fun w0 HA => ?_)
  refine wp_seq ?_
  refine lwp_list ?_
  refine ls_assign (x := (.slice none 0 0)) (by kernel_rfl) (by kernel_rfl) ?_
  refine ls_assign (x := (.int .i64 0)) (by kernel_rfl) (by kernel_rfl) ?_
  refine ls_nil ?_
  refine then_normal ?_
  refine fr_eq (b := ⟨#[x0, x1, undef, undef, (.slice none 0 0), (.int .i64 0), undef, undef, undef, undef, undef, undef, undef, undef, undef, undef, undef], []⟩) (by kernel_rfl) ?_
  refine wp_seq ?_
  refine lwp_list ?_
  refine ls_move (x := x0) (by kernel_rfl) (by kernel_rfl) ?_
  refine ls_p (d := some 7) (by kernel_rfl) (by kernel_rfl) (p_nil (by kernel_rfl) H) (fun x7 H => ?_)
  refine ls_p (d := some 8) (by kernel_rfl) (by kernel_rfl) (p_off Try.underlying72 rfl (fun w => ⟨_, Try.sizeOf30 w⟩) rfl (by kernel_rfl) H) (fun x8 H => ?_)
  refine ls_d (d := none) (by kernel_rfl) (by kernel_rfl) HA (d_st Try.sizeOf30 (by kernel_rfl) (by kernel_rfl) H) (fun _ h w H HA => ?_)
  refine ls_nil ?_
  refine then_normal ?_
  refine fr_eq (b := ⟨#[x0, x1, undef, undef, (.slice none 0 0), (.int .i64 0), x0, x7, x8, undef, undef, undef, undef, undef, undef, undef, undef], []⟩) (by kernel_rfl) ?_
  refine wp_seq ?_
  refine lwp_list ?_
  refine ls_move (x := x0) (by kernel_rfl) (by kernel_rfl) ?_
  refine ls_move (x := x1) (by kernel_rfl) (by kernel_rfl) ?_
  refine ls_d (d := some 11) (by kernel_rfl) (by kernel_rfl) HA (d_call (by kernel_rfl) (by kernel_rfl) H) (fun x11 h_1 w_1 H HA_1 => ?_)
  refine ls_assign (x := x11) (by kernel_rfl) (by kernel_rfl) ?_
  refine ls_nil ?_
  refine then_normal ?_
  refine fr_eq (b := ⟨#[x0, x1, undef, undef, (.slice none 0 0), x11, x0, x7, x8, x0, x1, x11, undef, undef, undef, undef, undef], []⟩) (by kernel_rfl) ?_
  refine wp_seq ?_
  refine lwp_list ?_
  refine ls_move (x := x0) (by kernel_rfl) (by kernel_rfl) ?_
  refine ls_p (d := some 13) (by kernel_rfl) (by kernel_rfl) (p_nil (by kernel_rfl) H) (fun x13 H => ?_)
  refine ls_p (d := some 14) (by kernel_rfl) (by kernel_rfl) (p_off Try.underlying72 rfl (fun w => ⟨_, Try.sizeOf30 w⟩) rfl (by kernel_rfl) H) (fun x14 H => ?_)
  refine ls_y (d := some 15) (by kernel_rfl) (by kernel_rfl) HA_1 (y_ld Try.isAgg30 (by kernel_rfl) H) (fun x15 H => ?_)
  refine ls_move (x := x11) (by kernel_rfl) (by kernel_rfl) ?_
  refine ls_assign (x := x15) (by kernel_rfl) (by kernel_rfl) ?_
  refine ls_fr (b := ⟨#[x0, x1, undef, undef, x15, x11, x0, x7, x8, x0, x1, x11, x0, x13, x14, x15, x11], []⟩) (by kernel_rfl) ?_
  refine ls_assign (x := x11) (by kernel_rfl) (by kernel_rfl) ?_
  refine ls_nil ?_
  refine then_normal ?_
  refine fr_eq (b := ⟨#[x0, x1, undef, undef, x15, x11, x0, x7, x8, x0, x1, x11, x0, x13, x14, x15, x11], []⟩) (by kernel_rfl) ?_
  refine wp_ret ?_
  exact end2 (Try.results19) (by kernel_rfl) (by kernel_rfl) (by kernel_rfl) HA_1 H _ (.inr rfl)

end Go.Proofs.Ytlcklnbgknhhkaa
