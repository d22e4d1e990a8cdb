/- The shallow reading of one function, and that the function does it. Written by a program. -/
import Derived.Test.YtlcklnbgknhhkaaFnC
set_option linter.unusedVariables false
namespace Go.Proofs.Ytlcklnbgknhhkaa
open Go Go.HW

def ldisc_Disc_ready_j1 (R : Value → Heap → Prop) (x0 : Value) (h_1 : Heap) : Prop :=
  sNil x0 fun x27 =>
  sOff x27 17 fun x28 =>
  sSt h_1 x28 (.slice none 0 0) fun h_2 => 
  R unit h_2
def ldisc_Disc_ready_S (x0 : Value) (h : Heap) (R : Value → Heap → Prop) : Prop :=
  ∃ C : Heap → Prop, C h ∧ (ldisc_Disc_Ready_c x0 h fun x3 h => C h ∧ (
  sNil x0 fun x5 =>
  sOff x5 17 fun x6 =>
  sLdC C x6 fun x7 =>
  sLen x7 fun x8 =>
  sAdd .i64 x3 x8 fun x9 =>
  sGt x9 (.int .i64 1024) fun x10 =>
  sIf x10 (ldisc_Disc_bell_c x0 h fun x12 h_3 => 
  ldisc_Disc_ready_j1 R x0 h_3) (∃ C_1 : Heap → Prop, C_1 h ∧ (sNil x0 fun x15 =>
  sOff x15 18 fun x16 =>
  sLdC C_1 x16 fun x17 =>
  sNil x0 fun x19 =>
  sOff x19 17 fun x20 =>
  sLd h x20 fun x21 =>
  sSlit h #[.slice none 0 0] [(0, 1, x21)] 30 1 fun x22 h_4 => C_1 h_4 ∧ (
  sApp h_4 x17 x22 #[.slice none 0 0] 30 24 fun x23 h_5 => 
  sNil x0 fun x24 =>
  sOff x24 18 fun x25 =>
  sSt h_5 x25 x23 fun h_6 => 
  ldisc_Disc_ready_j1 R x0 h_6)))))
set_option maxRecDepth 100000 in
theorem ldisc_Disc_ready_runs {x0 : Value} {h : Heap} {R : Value → Heap → Prop} (H : ldisc_Disc_ready_S x0 h R) : ldisc_Disc_ready_c x0 h R := by
  unfold ldisc_Disc_ready_S at H
  refine runs_of (b := ⟨#[x0, undef, undef, undef, undef, undef, undef, undef, undef, undef, undef, undef, undef, undef, undef, undef, undef, undef, undef, undef, undef, undef, undef, undef, undef, undef, undef, undef, undef], []⟩) Try.call83 Try.func83 rfl (by kernel_rfl) (fun w0 HA => ?_)
  refine wp_seq ?_
  refine wp_seq ?_
  obtain ⟨C, HC, H⟩ := H
  refine lwp_mx (Nat.testBit 2) (Nat.testBit 2) (Nat.testBit 477) [0, 1, 0, 4, 12, 28, 60, 127, 255] (Nat.testBit 0) C [0, 1, 2, 3, 4, 5, 6, 7, 8] (by kernel_rfl) (by kernel_rfl) (by kernel_rfl) (by kernel_rfl) HA HC ?_
  intro w HA
  refine lm_al (x := x0) (d := some 2) (by kernel_rfl) rfl (by kernel_rfl) (by kernel_rfl) (al_move (by kernel_rfl)) ?_
  refine lm_dc (d := some 3) (by kernel_rfl) rfl (by kernel_rfl) (by kernel_rfl) (by kernel_rfl) HA (d_call (by kernel_rfl) (by kernel_rfl) H) (fun x3 h w_1 H HA_1 => ?_)
  refine lm_al (x := x0) (d := some 4) (by kernel_rfl) rfl (by kernel_rfl) (by kernel_rfl) (al_move (by kernel_rfl)) ?_
  refine lm_p (d := some 5) (by kernel_rfl) rfl (by kernel_rfl) (by kernel_rfl) (p_nil (by kernel_rfl) H) (fun x5 H => ?_)
  refine lm_p (d := some 6) (by kernel_rfl) rfl (by kernel_rfl) (by kernel_rfl) (p_off Try.underlying72 rfl (fun w => ⟨_, Try.sizeOf30 w⟩) rfl (by kernel_rfl) H) (fun x6 H => ?_)
  refine lm_f (d := some 7) (by kernel_rfl) rfl (by kernel_rfl) (by kernel_rfl) (by kernel_rfl) (by kernel_rfl) (c_ld Try.isAgg30 (by kernel_rfl) H) (fun x7 H => ?_)
  refine lm_fr (b := ⟨#[x0, undef, x0, x3, x0, x5, x6, x7, undef, undef, undef, undef, undef, undef, undef, undef, undef, undef, undef, undef, undef, undef, undef, undef, undef, undef, undef, undef, undef], []⟩) (by kernel_rfl) ?_
  refine lm_p (d := some 8) (by kernel_rfl) rfl (by kernel_rfl) (by kernel_rfl) (p_len Try.underlying30 (by kernel_rfl) H) (fun x8 H => ?_)
  refine lm_p (d := some 9) (by kernel_rfl) rfl (by kernel_rfl) (by kernel_rfl) (p_add (by kernel_rfl) (by kernel_rfl) H) (fun x9 H => ?_)
  refine lm_p (d := some 10) (by kernel_rfl) rfl (by kernel_rfl) (by kernel_rfl) (p_sGt (by kernel_rfl) (by kernel_rfl) H) (fun x10 H => ?_)
  refine lm_nil ?_
  refine then_normal ?_
  refine fr_eq (b := ⟨#[x0, undef, x0, x3, x0, x5, x6, x7, x8, x9, x10, undef, undef, undef, undef, undef, undef, undef, undef, undef, undef, undef, undef, undef, undef, undef, undef, undef, undef], []⟩) (by kernel_rfl) ?_
  refine wp_join (fun a w => ∃ (D : Nat → Value) (h_1 : Heap), a = ⟨#[x0, undef, x0, x3, x0, x5, x6, x7, x8, x9, x10, (D 0), (D 1), (D 2), (D 3), (D 4), (D 5), (D 6), (D 7), (D 8), (D 9), (D 10), (D 11), (D 12), (D 13), (D 14), undef, undef, undef], []⟩ ∧ At w0 w h_1 ∧ ldisc_Disc_ready_j1 R x0 h_1) ?_ ?_
  · refine wp_if rfl H (fun H => ?_) (fun H => ?_)
    · refine lwp_list ?_
      refine ls_move (x := x0) (by kernel_rfl) (by kernel_rfl) ?_
      refine ls_d (d := some 12) (by kernel_rfl) (by kernel_rfl) HA_1 (d_call (by kernel_rfl) (by kernel_rfl) H) (fun x12 h_3 w_4 H HA_4 => ?_)
      refine ls_nil ?_
      exact ⟨(fun i => ([x0, x12, undef, undef, undef, undef, undef, undef, undef, undef, undef, undef, undef, undef, undef]).getD i undef), h_3, by kernel_rfl, HA_4, H⟩
    · obtain ⟨C_1, HC, H⟩ := H
      refine lwp_mx (Nat.testBit 9728) (Nat.testBit 512) (Nat.testBit 6383) [0, 0, 2, 6, 14, 0, 32, 96, 224, 480, 1022, 2047, 4095, 8191] (Nat.testBit 256) C_1 [0, 1, 2, 3, 4, 5, 6, 7, 8, 9, 10, 11, 12, 13] (by kernel_rfl) (by kernel_rfl) (by kernel_rfl) (by kernel_rfl) HA_1 HC ?_
      intro w_5 HA_5
      refine lm_al (x := x0) (d := some 13) (by kernel_rfl) rfl (by kernel_rfl) (by kernel_rfl) (al_move (by kernel_rfl)) ?_
      refine lm_al (x := x0) (d := some 14) (by kernel_rfl) rfl (by kernel_rfl) (by kernel_rfl) (al_move (by kernel_rfl)) ?_
      refine lm_p (d := some 15) (by kernel_rfl) rfl (by kernel_rfl) (by kernel_rfl) (p_nil (by kernel_rfl) H) (fun x15 H => ?_)
      refine lm_p (d := some 16) (by kernel_rfl) rfl (by kernel_rfl) (by kernel_rfl) (p_off Try.underlying72 rfl (fun w => ⟨_, Try.sizeOf22 w⟩) rfl (by kernel_rfl) H) (fun x16 H => ?_)
      refine lm_f (d := some 17) (by kernel_rfl) rfl (by kernel_rfl) (by kernel_rfl) (by kernel_rfl) (by kernel_rfl) (c_ld Try.isAgg22 (by kernel_rfl) H) (fun x17 H => ?_)
      refine lm_al (x := x0) (d := some 18) (by kernel_rfl) rfl (by kernel_rfl) (by kernel_rfl) (al_move (by kernel_rfl)) ?_
      refine lm_fr (b := ⟨#[x0, undef, x0, x3, x0, x5, x6, x7, x8, x9, x10, undef, undef, x0, x0, x15, x16, x17, x0, undef, undef, undef, undef, undef, undef, undef, undef, undef, undef], []⟩) (by kernel_rfl) ?_
      refine lm_p (d := some 19) (by kernel_rfl) rfl (by kernel_rfl) (by kernel_rfl) (p_nil (by kernel_rfl) H) (fun x19 H => ?_)
      refine lm_p (d := some 20) (by kernel_rfl) rfl (by kernel_rfl) (by kernel_rfl) (p_off Try.underlying72 rfl (fun w => ⟨_, Try.sizeOf30 w⟩) rfl (by kernel_rfl) H) (fun x20 H => ?_)
      refine lm_b (d := some 21) (by kernel_rfl) rfl (by kernel_rfl) (by kernel_rfl) (by kernel_rfl) (by kernel_rfl) (y_ld Try.isAgg30 (by kernel_rfl) H) (fun x21 H => ?_)
      refine lm_dc (d := some 22) (by kernel_rfl) rfl (by kernel_rfl) (by kernel_rfl) (by kernel_rfl) HA_5 (d_slit (zc := #[.slice none 0 0]) Try.underlying22 Try.sizeOf30 (by decide) (.inr ⟨by decide, _, Try.zeroValue30, (by kernel_rfl)⟩) (by kernel_rfl) (by kernel_rfl) H) (fun x22 h_4 w_6 H HA_6 => ?_)
      refine lm_d (d := some 23) (by kernel_rfl) rfl (by kernel_rfl) (by kernel_rfl) (by kernel_rfl) HA_6 (d_app (z := #[.slice none 0 0]) Try.underlying22 Try.underlying22 (.inl ⟨_, rfl⟩) Try.typeInfo30 (by kernel_rfl) Try.sizeOf30 Try.zeroValue30 (by kernel_rfl) (by kernel_rfl) (by kernel_rfl) H) (fun x23 h_5 w_7 H HA_7 => ?_)
      refine lm_p (d := some 24) (by kernel_rfl) rfl (by kernel_rfl) (by kernel_rfl) (p_nil (by kernel_rfl) H) (fun x24 H => ?_)
      refine lm_fr (b := ⟨#[x0, undef, x0, x3, x0, x5, x6, x7, x8, x9, x10, undef, undef, x0, x0, x15, x16, x17, x0, x19, x20, x21, x22, x23, x24, undef, undef, undef, undef], []⟩) (by kernel_rfl) ?_
      refine lm_p (d := some 25) (by kernel_rfl) rfl (by kernel_rfl) (by kernel_rfl) (p_off Try.underlying72 rfl (fun w => ⟨_, Try.sizeOf22 w⟩) rfl (by kernel_rfl) H) (fun x25 H => ?_)
      refine lm_d (d := none) (by kernel_rfl) rfl (by kernel_rfl) (by kernel_rfl) (by kernel_rfl) HA_7 (d_st Try.sizeOf22 (by kernel_rfl) (by kernel_rfl) H) (fun _ h_6 w_8 H HA_8 => ?_)
      refine lm_nil ?_
      exact ⟨(fun i => ([undef, undef, x0, x0, x15, x16, x17, x0, x19, x20, x21, x22, x23, x24, x25]).getD i undef), h_6, by kernel_rfl, HA_8, H⟩
  · rintro _ w_2 ⟨D, h_1, rfl, HA_2, H⟩
    unfold ldisc_Disc_ready_j1 at H
    refine then_normal ?_
    refine fr_eq (b := ⟨#[x0, undef, x0, x3, x0, x5, x6, x7, x8, x9, x10, (D 0), (D 1), (D 2), (D 3), (D 4), (D 5), (D 6), (D 7), (D 8), (D 9), (D 10), (D 11), (D 12), (D 13), (D 14), undef, undef, undef], []⟩) (by kernel_rfl) ?_
    refine lwp_list ?_
    refine ls_move (x := x0) (by kernel_rfl) (by kernel_rfl) ?_
    refine ls_p (d := some 27) (by kernel_rfl) (by kernel_rfl) (p_nil (by kernel_rfl) H) (fun x27 H => ?_)
    refine ls_p (d := some 28) (by kernel_rfl) (by kernel_rfl) (p_off Try.underlying72 rfl (fun w => ⟨_, Try.sizeOf30 w⟩) rfl (by kernel_rfl) H) (fun x28 H => ?_)
    refine ls_d (d := none) (by kernel_rfl) (by kernel_rfl) HA_2 (d_st Try.sizeOf30 (by kernel_rfl) (by kernel_rfl) H) (fun _ h_2 w_3 H HA_3 => ?_)
    refine ls_nil ?_
    exact end0 (Try.results83) (by kernel_rfl) HA_3 H _ (.inl rfl)

end Go.Proofs.Ytlcklnbgknhhkaa
