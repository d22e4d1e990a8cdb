/- The shallow reading of one function, and that the function does it. Written by a program. -/
import Derived.Test.YtlcklnbgknhhkaaFnC
set_option linter.unusedVariables false
namespace Go.Proofs.Ytlcklnbgknhhkaa
open Go Go.HW

def ldisc_Disc_show_S (x0 x1 : Value) (h : Heap) (R : Value → Heap → Prop) : Prop :=
  ldisc_Disc_local_c x0 (.int .i64 2) h fun x5 h => 
  sIf x5 (∃ C : Heap → Prop, C h ∧ (sNil x0 fun x8 =>
  sOff x8 22 fun x9 =>
  sLdC C x9 fun x10 =>
  ldisc_Disc_picture_c x0 x1 h fun x13 h_1 => C h_1 ∧ (
  sApp h_1 x10 x13 #[.int .u8 0] 5 1 fun x14 h_2 => 
  sNil x0 fun x15 =>
  sOff x15 22 fun x16 =>
  sSt h_2 x16 x14 fun h_3 => 
  R unit h_3))) (R unit h)
set_option maxRecDepth 100000 in
theorem ldisc_Disc_show_runs {x0 x1 : Value} {h : Heap} {R : Value → Heap → Prop} (H : ldisc_Disc_show_S x0 x1 h R) : ldisc_Disc_show_c x0 x1 h R := by
  unfold ldisc_Disc_show_S at H
  refine runs_of (b := ⟨#[x0, x1, undef, undef, undef, undef, undef, undef, undef, undef, undef, undef, undef, undef, undef, undef, undef], []⟩) Try.call66 Try.func66 rfl (by kernel_rfl) (fun w0 HA => ?_)
  refine wp_seq ?_
  refine lwp_list ?_
  refine ls_move (x := x0) (by kernel_rfl) (by kernel_rfl) ?_
  refine ls_d (d := some 5) (by kernel_rfl) (by kernel_rfl) HA (d_call (by kernel_rfl) (by kernel_rfl) H) (fun x5 h w H HA => ?_)
  refine ls_nil ?_
  refine then_normal ?_
  refine fr_eq (b := ⟨#[x0, x1, undef, undef, x0, x5, undef, undef, undef, undef, undef, undef, undef, undef, undef, undef, undef], []⟩) (by kernel_rfl) ?_
  refine wp_if rfl H (fun H => ?_) (fun H => ?_)
  · obtain ⟨C, HC, H⟩ := H
    refine lwp_mx (Nat.testBit 2432) (Nat.testBit 128) (Nat.testBit 1647) [0, 0, 2, 6, 14, 0, 0, 96, 254, 511, 1023, 2047] (Nat.testBit 0) C [0, 1, 2, 3, 4, 5, 6, 7, 8, 9, 10, 11] (by kernel_rfl) (by kernel_rfl) (by kernel_rfl) (by kernel_rfl) HA HC ?_
    intro w_1 HA_1
    refine lm_al (x := x0) (d := some 6) (by kernel_rfl) rfl (by kernel_rfl) (by kernel_rfl) (al_move (by kernel_rfl)) ?_
    refine lm_al (x := x0) (d := some 7) (by kernel_rfl) rfl (by kernel_rfl) (by kernel_rfl) (al_move (by kernel_rfl)) ?_
    refine lm_p (d := some 8) (by kernel_rfl) rfl (by kernel_rfl) (by kernel_rfl) (p_nil (by kernel_rfl) H) (fun x8 H => ?_)
    refine lm_p (d := some 9) (by kernel_rfl) rfl (by kernel_rfl) (by kernel_rfl) (p_off Try.underlying72 rfl (fun w => ⟨_, Try.sizeOf30 w⟩) rfl (by kernel_rfl) H) (fun x9 H => ?_)
    refine lm_f (d := some 10) (by kernel_rfl) rfl (by kernel_rfl) (by kernel_rfl) (by kernel_rfl) (by kernel_rfl) (c_ld Try.isAgg30 (by kernel_rfl) H) (fun x10 H => ?_)
    refine lm_al (x := x0) (d := some 11) (by kernel_rfl) rfl (by kernel_rfl) (by kernel_rfl) (al_move (by kernel_rfl)) ?_
    refine lm_fr (b := ⟨#[x0, x1, undef, undef, x0, x5, x0, x0, x8, x9, x10, x0, undef, undef, undef, undef, undef], []⟩) (by kernel_rfl) ?_
    refine lm_al (x := x1) (d := some 12) (by kernel_rfl) rfl (by kernel_rfl) (by kernel_rfl) (al_move (by kernel_rfl)) ?_
    refine lm_dc (d := some 13) (by kernel_rfl) rfl (by kernel_rfl) (by kernel_rfl) (by kernel_rfl) HA_1 (d_call (by kernel_rfl) (by kernel_rfl) H) (fun x13 h_1 w_2 H HA_2 => ?_)
    refine lm_d (d := some 14) (by kernel_rfl) rfl (by kernel_rfl) (by kernel_rfl) (by kernel_rfl) HA_2 (d_app (z := #[.int .u8 0]) Try.underlying30 Try.underlying30 (.inl ⟨_, rfl⟩) Try.typeInfo5 (by kernel_rfl) Try.sizeOf5 Try.zeroValue5 (by kernel_rfl) (by kernel_rfl) (by kernel_rfl) H) (fun x14 h_2 w_3 H HA_3 => ?_)
    refine lm_p (d := some 15) (by kernel_rfl) rfl (by kernel_rfl) (by kernel_rfl) (p_nil (by kernel_rfl) H) (fun x15 H => ?_)
    refine lm_p (d := some 16) (by kernel_rfl) rfl (by kernel_rfl) (by kernel_rfl) (p_off Try.underlying72 rfl (fun w => ⟨_, Try.sizeOf30 w⟩) rfl (by kernel_rfl) H) (fun x16 H => ?_)
    refine lm_d (d := none) (by kernel_rfl) rfl (by kernel_rfl) (by kernel_rfl) (by kernel_rfl) HA_3 (d_st Try.sizeOf30 (by kernel_rfl) (by kernel_rfl) H) (fun _ h_3 w_4 H HA_4 => ?_)
    refine lm_nil ?_
    exact end0 (Try.results66) (by kernel_rfl) HA_4 H _ (.inl rfl)
  · refine wp_skip ?_
    exact end0 (Try.results66) (by kernel_rfl) HA H _ (.inl rfl)

end Go.Proofs.Ytlcklnbgknhhkaa
