/- The shallow reading of one function, and that the function does it. Written by a program. -/
import Derived.Test.YtlcklnbgknhhkaaFnC
set_option linter.unusedVariables false
namespace Go.Proofs.Ytlcklnbgknhhkaa
open Go Go.HW

def ldisc_Disc_Read_j1 (R : Value → Heap → Prop) (x59 x47 : Value) (h_5 : Heap) : Prop :=
  sLen x47 fun x78 =>
  sEq x78 (.int .i64 0) fun x79 =>
  R (.tuple #[x59, x79]) h_5
def ldisc_Disc_Read_S (x0 x1 : Value) (h : Heap) (R : Value → Heap → Prop) : Prop :=
  sLt x1 (.int .i64 1) fun x8 =>
  sIf x8 (R (.tuple #[(.slice none 0 0), (.bool false)]) h) (ldisc_Disc_local_c x0 (.int .i64 1) h fun x10 h => 
  sNot x10 fun x11 =>
  sIf x11 (sNil x0 fun x14 =>
  sOff x14 19 fun x15 =>
  sLd h x15 fun x16 =>
  sLen x16 fun x17 =>
  sMin x1 x17 fun x18 =>
  ∃ C : Heap → Prop, C h ∧ (sNil x0 fun x21 =>
  sOff x21 19 fun x22 =>
  sLd h x22 fun x23 =>
  sSl x23 none (some x18) 1 fun x25 =>
  slices_Clone_byte_byte_c x25 h fun x26 h_1 => C h_1 ∧ (
  sNil x0 fun x28 =>
  sOff x28 19 fun x29 =>
  sLdC C x29 fun x30 =>
  sSl x30 (some x18) none 1 fun x32 =>
  sNil x0 fun x33 =>
  sOff x33 19 fun x34 =>
  sSt h_1 x34 x32 fun h_2 => 
  R (.tuple #[x26, (.bool false)]) h_2))) (sNil x0 fun x37 =>
  sOff x37 18 fun x38 =>
  sLd h x38 fun x39 =>
  sLen x39 fun x40 =>
  sEq x40 (.int .i64 0) fun x41 =>
  sIf x41 (R (.tuple #[(.slice none 0 0), (.bool false)]) h) (sNil x0 fun x43 =>
  sOff x43 18 fun x44 =>
  sLd h x44 fun x45 =>
  sIxS x45 (.int .i64 0) 1 fun x46 =>
  sLd h x46 fun x47 =>
  sLen x47 fun x50 =>
  sMin x1 x50 fun x51 =>
  ∃ C_1 : Heap → Prop, C_1 h ∧ (sNil x0 fun x53 =>
  sOff x53 18 fun x54 =>
  sLdC C_1 x54 fun x55 =>
  sSl x47 none (some x51) 1 fun x58 =>
  slices_Clone_byte_byte_c x58 h fun x59 h_3 => C_1 h_3 ∧ (
  sSl x47 (some x51) none 1 fun x62 =>
  sIxS x55 (.int .i64 0) 1 fun x63 =>
  sSt h_3 x63 x62 fun h_4 => 
  sLen x47 fun x66 =>
  sEq x51 x66 fun x67 =>
  sIf x67 (sNil x0 fun x70 =>
  sOff x70 18 fun x71 =>
  sLd h_4 x71 fun x72 =>
  sSl x72 (some (.int .i64 1)) none 1 fun x73 =>
  sNil x0 fun x74 =>
  sOff x74 18 fun x75 =>
  sSt h_4 x75 x73 fun h_6 => 
  ldisc_Disc_Read_j1 R x59 x47 h_6) (ldisc_Disc_Read_j1 R x59 x47 h_4))))))
set_option maxRecDepth 100000 in
theorem ldisc_Disc_Read_runs {x0 x1 : Value} {h : Heap} {R : Value → Heap → Prop} (H : ldisc_Disc_Read_S x0 x1 h R) : ldisc_Disc_Read_c x0 x1 h R := by
  unfold ldisc_Disc_Read_S at H
  refine runs_of (b := ⟨([x0, x1, undef, undef, undef, undef, undef, undef, undef, undef, undef, undef, undef, undef, undef, undef, undef, undef, undef, undef, undef, undef, undef, undef, undef, undef, undef, undef, undef, undef, undef, undef, undef, undef, undef, undef, undef, undef, undef, undef, undef, undef, undef, undef, undef, undef, undef, undef, undef, undef] ++ [undef, undef, undef, undef, undef, undef, undef, undef, undef, undef, undef, undef, undef, undef, undef, undef, undef, undef, undef, undef, undef, undef, undef, undef, undef, undef, undef, undef, undef, undef]).toArray, []⟩) Try.call16 Try.func16 rfl (by kernel_rfl) (fun w0 HA => ?_)
  refine wp_seq ?_
  refine lwp_list ?_
  refine ls_assign (x := (.slice none 0 0)) (by kernel_rfl) (by kernel_rfl) ?_
  refine ls_assign (x := (.bool false)) (by kernel_rfl) (by kernel_rfl) ?_
  refine ls_nil ?_
  refine then_normal ?_
  refine fr_eq (b := ⟨([x0, x1, undef, undef, (.slice none 0 0), (.bool false), undef, undef, undef, undef, undef, undef, undef, undef, undef, undef, undef, undef, undef, undef, undef, undef, undef, undef, undef, undef, undef, undef, undef, undef, undef, undef, undef, undef, undef, undef, undef, undef, undef, undef, undef, undef, undef, undef, undef, undef, undef, undef, undef, undef] ++ [undef, undef, undef, undef, undef, undef, undef, undef, undef, undef, undef, undef, undef, undef, undef, undef, undef, undef, undef, undef, undef, undef, undef, undef, undef, undef, undef, undef, undef, undef]).toArray, []⟩) (by kernel_rfl) ?_
  refine wp_seq ?_
  refine wp_seq ?_
  refine lwp_list ?_
  refine ls_move (x := x1) (by kernel_rfl) (by kernel_rfl) ?_
  refine ls_p (d := some 8) (by kernel_rfl) (by kernel_rfl) (p_sLt (by kernel_rfl) (by kernel_rfl) H) (fun x8 H => ?_)
  refine ls_nil ?_
  refine then_normal ?_
  refine fr_eq (b := ⟨([x0, x1, undef, undef, (.slice none 0 0), (.bool false), undef, x1, x8, undef, undef, undef, undef, undef, undef, undef, undef, undef, undef, undef, undef, undef, undef, undef, undef, undef, undef, undef, undef, undef, undef, undef, undef, undef, undef, undef, undef, undef, undef, undef, undef, undef, undef, undef, undef, undef, undef, undef, undef, undef] ++ [undef, undef, undef, undef, undef, undef, undef, undef, undef, undef, undef, undef, undef, undef, undef, undef, undef, undef, undef, undef, undef, undef, undef, undef, undef, undef, undef, undef, undef, undef]).toArray, []⟩) (by kernel_rfl) ?_
  refine wp_if rfl H (fun H => ?_) (fun H => ?_)
  · refine wp_seq ?_
    refine lwp_list ?_
    refine ls_assign (x := (.slice none 0 0)) (by kernel_rfl) (by kernel_rfl) ?_
    refine ls_assign (x := (.bool false)) (by kernel_rfl) (by kernel_rfl) ?_
    refine ls_nil ?_
    refine then_normal ?_
    refine fr_eq (b := ⟨([x0, x1, undef, undef, (.slice none 0 0), (.bool false), undef, x1, x8, undef, undef, undef, undef, undef, undef, undef, undef, undef, undef, undef, undef, undef, undef, undef, undef, undef, undef, undef, undef, undef, undef, undef, undef, undef, undef, undef, undef, undef, undef, undef, undef, undef, undef, undef, undef, undef, undef, undef, undef, undef] ++ [undef, undef, undef, undef, undef, undef, undef, undef, undef, undef, undef, undef, undef, undef, undef, undef, undef, undef, undef, undef, undef, undef, undef, undef, undef, undef, undef, undef, undef, undef]).toArray, []⟩) (by kernel_rfl) ?_
    refine wp_ret ?_
    refine then_ret ?_
    exact end2 (Try.results16) (by kernel_rfl) (by kernel_rfl) (by kernel_rfl) HA H _ (.inr rfl)
  · refine wp_skip ?_
    refine then_normal ?_
    refine fr_eq (b := ⟨([x0, x1, undef, undef, (.slice none 0 0), (.bool false), undef, x1, x8, undef, undef, undef, undef, undef, undef, undef, undef, undef, undef, undef, undef, undef, undef, undef, undef, undef, undef, undef, undef, undef, undef, undef, undef, undef, undef, undef, undef, undef, undef, undef, undef, undef, undef, undef, undef, undef, undef, undef, undef, undef] ++ [undef, undef, undef, undef, undef, undef, undef, undef, undef, undef, undef, undef, undef, undef, undef, undef, undef, undef, undef, undef, undef, undef, undef, undef, undef, undef, undef, undef, undef, undef]).toArray, []⟩) (by kernel_rfl) ?_
    refine wp_seq ?_
    refine wp_seq ?_
    refine lwp_list ?_
    refine ls_move (x := x0) (by kernel_rfl) (by kernel_rfl) ?_
    refine ls_d (d := some 10) (by kernel_rfl) (by kernel_rfl) HA (d_call (by kernel_rfl) (by kernel_rfl) H) (fun x10 h w H HA => ?_)
    refine ls_p (d := some 11) (by kernel_rfl) (by kernel_rfl) (p_not (by kernel_rfl) H) (fun x11 H => ?_)
    refine ls_nil ?_
    refine then_normal ?_
    refine fr_eq (b := ⟨([x0, x1, undef, undef, (.slice none 0 0), (.bool false), undef, x1, x8, x0, x10, x11, undef, undef, undef, undef, undef, undef, undef, undef, undef, undef, undef, undef, undef, undef, undef, undef, undef, undef, undef, undef, undef, undef, undef, undef, undef, undef, undef, undef, undef, undef, undef, undef, undef, undef, undef, undef, undef, undef] ++ [undef, undef, undef, undef, undef, undef, undef, undef, undef, undef, undef, undef, undef, undef, undef, undef, undef, undef, undef, undef, undef, undef, undef, undef, undef, undef, undef, undef, undef, undef]).toArray, []⟩) (by kernel_rfl) ?_
    refine wp_if rfl H (fun H => ?_) (fun H => ?_)
    · refine wp_seq ?_
      refine lwp_list ?_
      refine ls_move (x := x1) (by kernel_rfl) (by kernel_rfl) ?_
      refine ls_move (x := x0) (by kernel_rfl) (by kernel_rfl) ?_
      refine ls_p (d := some 14) (by kernel_rfl) (by kernel_rfl) (p_nil (by kernel_rfl) H) (fun x14 H => ?_)
      refine ls_p (d := some 15) (by kernel_rfl) (by kernel_rfl) (p_off Try.underlying72 rfl (fun w => ⟨_, Try.sizeOf30 w⟩) rfl (by kernel_rfl) H) (fun x15 H => ?_)
      refine ls_y (d := some 16) (by kernel_rfl) (by kernel_rfl) HA (y_ld Try.isAgg30 (by kernel_rfl) H) (fun x16 H => ?_)
      refine ls_p (d := some 17) (by kernel_rfl) (by kernel_rfl) (p_len Try.underlying30 (by kernel_rfl) H) (fun x17 H => ?_)
      refine ls_fr (b := ⟨([x0, x1, undef, undef, (.slice none 0 0), (.bool false), undef, x1, x8, x0, x10, x11, x1, x0, x14, x15, x16, x17, undef, undef, undef, undef, undef, undef, undef, undef, undef, undef, undef, undef, undef, undef, undef, undef, undef, undef, undef, undef, undef, undef, undef, undef, undef, undef, undef, undef, undef, undef, undef, undef] ++ [undef, undef, undef, undef, undef, undef, undef, undef, undef, undef, undef, undef, undef, undef, undef, undef, undef, undef, undef, undef, undef, undef, undef, undef, undef, undef, undef, undef, undef, undef]).toArray, []⟩) (by kernel_rfl) ?_
      refine ls_p (d := some 18) (by kernel_rfl) (by kernel_rfl) (p_min (by kernel_rfl) (by kernel_rfl) H) (fun x18 H => ?_)
      refine ls_assign (x := x18) (by kernel_rfl) (by kernel_rfl) ?_
      refine ls_nil ?_
      refine then_normal ?_
      refine fr_eq (b := ⟨([x0, x18, undef, undef, (.slice none 0 0), (.bool false), undef, x1, x8, x0, x10, x11, x1, x0, x14, x15, x16, x17, x18, undef, undef, undef, undef, undef, undef, undef, undef, undef, undef, undef, undef, undef, undef, undef, undef, undef, undef, undef, undef, undef, undef, undef, undef, undef, undef, undef, undef, undef, undef, undef] ++ [undef, undef, undef, undef, undef, undef, undef, undef, undef, undef, undef, undef, undef, undef, undef, undef, undef, undef, undef, undef, undef, undef, undef, undef, undef, undef, undef, undef, undef, undef]).toArray, []⟩) (by kernel_rfl) ?_
      refine wp_seq ?_
      obtain ⟨C, HC, H⟩ := H
      refine lwp_mx (Nat.testBit 131200) (Nat.testBit 128) (Nat.testBit 128879) [0, 0, 2, 6, 14, 0, 62, 126, 0, 256, 768, 1792, 0, 7936, 254, 32767, 65535, 131071] (Nat.testBit 16) C [0, 1, 2, 3, 4, 5, 6, 7, 8, 9, 10, 11, 12, 13, 14, 15, 16, 17] (by kernel_rfl) (by kernel_rfl) (by kernel_rfl) (by kernel_rfl) HA HC ?_
      intro w_1 HA_1
      refine lm_al (x := x0) (d := some 19) (by kernel_rfl) rfl (by kernel_rfl) (by kernel_rfl) (al_move (by kernel_rfl)) ?_
      refine lm_al (x := x0) (d := some 20) (by kernel_rfl) rfl (by kernel_rfl) (by kernel_rfl) (al_move (by kernel_rfl)) ?_
      refine lm_p (d := some 21) (by kernel_rfl) rfl (by kernel_rfl) (by kernel_rfl) (p_nil (by kernel_rfl) H) (fun x21 H => ?_)
      refine lm_p (d := some 22) (by kernel_rfl) rfl (by kernel_rfl) (by kernel_rfl) (p_off Try.underlying72 rfl (fun w => ⟨_, Try.sizeOf30 w⟩) rfl (by kernel_rfl) H) (fun x22 H => ?_)
      refine lm_b (d := some 23) (by kernel_rfl) rfl (by kernel_rfl) (by kernel_rfl) (by kernel_rfl) (by kernel_rfl) (y_ld Try.isAgg30 (by kernel_rfl) H) (fun x23 H => ?_)
      refine lm_al (x := x18) (d := some 24) (by kernel_rfl) rfl (by kernel_rfl) (by kernel_rfl) (al_move (by kernel_rfl)) ?_
      refine lm_fr (b := ⟨([x0, x18, undef, undef, (.slice none 0 0), (.bool false), undef, x1, x8, x0, x10, x11, x1, x0, x14, x15, x16, x17, x18, x0, x0, x21, x22, x23, x18, undef, undef, undef, undef, undef, undef, undef, undef, undef, undef, undef, undef, undef, undef, undef, undef, undef, undef, undef, undef, undef, undef, undef, undef, undef] ++ [undef, undef, undef, undef, undef, undef, undef, undef, undef, undef, undef, undef, undef, undef, undef, undef, undef, undef, undef, undef, undef, undef, undef, undef, undef, undef, undef, undef, undef, undef]).toArray, []⟩) (by kernel_rfl) ?_
      refine lm_p (d := some 25) (by kernel_rfl) rfl (by kernel_rfl) (by kernel_rfl) (p_sl Try.underlying30 Try.sizeOf5 (by kernel_rfl) (by kernel_rfl) (by kernel_rfl) H) (fun x25 H => ?_)
      refine lm_dc (d := some 26) (by kernel_rfl) rfl (by kernel_rfl) (by kernel_rfl) (by kernel_rfl) HA_1 (d_call (by kernel_rfl) (by kernel_rfl) H) (fun x26 h_1 w_2 H HA_2 => ?_)
      refine lm_al (x := x0) (d := some 27) (by kernel_rfl) rfl (by kernel_rfl) (by kernel_rfl) (al_move (by kernel_rfl)) ?_
      refine lm_p (d := some 28) (by kernel_rfl) rfl (by kernel_rfl) (by kernel_rfl) (p_nil (by kernel_rfl) H) (fun x28 H => ?_)
      refine lm_p (d := some 29) (by kernel_rfl) rfl (by kernel_rfl) (by kernel_rfl) (p_off Try.underlying72 rfl (fun w => ⟨_, Try.sizeOf30 w⟩) rfl (by kernel_rfl) H) (fun x29 H => ?_)
      refine lm_f (d := some 30) (by kernel_rfl) rfl (by kernel_rfl) (by kernel_rfl) (by kernel_rfl) (by kernel_rfl) (c_ld Try.isAgg30 (by kernel_rfl) H) (fun x30 H => ?_)
      refine lm_fr (b := ⟨([x0, x18, undef, undef, (.slice none 0 0), (.bool false), undef, x1, x8, x0, x10, x11, x1, x0, x14, x15, x16, x17, x18, x0, x0, x21, x22, x23, x18, x25, x26, x0, x28, x29, x30, undef, undef, undef, undef, undef, undef, undef, undef, undef, undef, undef, undef, undef, undef, undef, undef, undef, undef, undef] ++ [undef, undef, undef, undef, undef, undef, undef, undef, undef, undef, undef, undef, undef, undef, undef, undef, undef, undef, undef, undef, undef, undef, undef, undef, undef, undef, undef, undef, undef, undef]).toArray, []⟩) (by kernel_rfl) ?_
      refine lm_al (x := x18) (d := some 31) (by kernel_rfl) rfl (by kernel_rfl) (by kernel_rfl) (al_move (by kernel_rfl)) ?_
      refine lm_p (d := some 32) (by kernel_rfl) rfl (by kernel_rfl) (by kernel_rfl) (p_sl Try.underlying30 Try.sizeOf5 (by kernel_rfl) (by kernel_rfl) (by kernel_rfl) H) (fun x32 H => ?_)
      refine lm_al (x := x26) (d := some 4) (by kernel_rfl) rfl (by kernel_rfl) (by kernel_rfl) (al_assign (by kernel_rfl)) ?_
      refine lm_p (d := some 33) (by kernel_rfl) rfl (by kernel_rfl) (by kernel_rfl) (p_nil (by kernel_rfl) H) (fun x33 H => ?_)
      refine lm_p (d := some 34) (by kernel_rfl) rfl (by kernel_rfl) (by kernel_rfl) (p_off Try.underlying72 rfl (fun w => ⟨_, Try.sizeOf30 w⟩) rfl (by kernel_rfl) H) (fun x34 H => ?_)
      refine lm_d (d := none) (by kernel_rfl) rfl (by kernel_rfl) (by kernel_rfl) (by kernel_rfl) HA_2 (d_st Try.sizeOf30 (by kernel_rfl) (by kernel_rfl) H) (fun _ h_2 w_3 H HA_3 => ?_)
      refine lm_nil ?_
      refine then_normal ?_
      refine fr_eq (b := ⟨([x0, x18, undef, undef, x26, (.bool false), undef, x1, x8, x0, x10, x11, x1, x0, x14, x15, x16, x17, x18, x0, x0, x21, x22, x23, x18, x25, x26, x0, x28, x29, x30, x18, x32, x33, x34, undef, undef, undef, undef, undef, undef, undef, undef, undef, undef, undef, undef, undef, undef, undef] ++ [undef, undef, undef, undef, undef, undef, undef, undef, undef, undef, undef, undef, undef, undef, undef, undef, undef, undef, undef, undef, undef, undef, undef, undef, undef, undef, undef, undef, undef, undef]).toArray, []⟩) (by kernel_rfl) ?_
      refine wp_seq ?_
      refine lwp_list ?_
      refine ls_move (x := x26) (by kernel_rfl) (by kernel_rfl) ?_
      refine ls_assign (x := x26) (by kernel_rfl) (by kernel_rfl) ?_
      refine ls_assign (x := (.bool false)) (by kernel_rfl) (by kernel_rfl) ?_
      refine ls_nil ?_
      refine then_normal ?_
      refine fr_eq (b := ⟨([x0, x18, undef, undef, x26, (.bool false), undef, x1, x8, x0, x10, x11, x1, x0, x14, x15, x16, x17, x18, x0, x0, x21, x22, x23, x18, x25, x26, x0, x28, x29, x30, x18, x32, x33, x34, x26, undef, undef, undef, undef, undef, undef, undef, undef, undef, undef, undef, undef, undef, undef] ++ [undef, undef, undef, undef, undef, undef, undef, undef, undef, undef, undef, undef, undef, undef, undef, undef, undef, undef, undef, undef, undef, undef, undef, undef, undef, undef, undef, undef, undef, undef]).toArray, []⟩) (by kernel_rfl) ?_
      refine wp_ret ?_
      refine then_ret ?_
      exact end2 (Try.results16) (by kernel_rfl) (by kernel_rfl) (by kernel_rfl) HA_3 H _ (.inr rfl)
    · refine wp_skip ?_
      refine then_normal ?_
      refine fr_eq (b := ⟨([x0, x1, undef, undef, (.slice none 0 0), (.bool false), undef, x1, x8, x0, x10, x11, undef, undef, undef, undef, undef, undef, undef, undef, undef, undef, undef, undef, undef, undef, undef, undef, undef, undef, undef, undef, undef, undef, undef, undef, undef, undef, undef, undef, undef, undef, undef, undef, undef, undef, undef, undef, undef, undef] ++ [undef, undef, undef, undef, undef, undef, undef, undef, undef, undef, undef, undef, undef, undef, undef, undef, undef, undef, undef, undef, undef, undef, undef, undef, undef, undef, undef, undef, undef, undef]).toArray, []⟩) (by kernel_rfl) ?_
      refine wp_seq ?_
      refine wp_seq ?_
      refine lwp_list ?_
      refine ls_move (x := x0) (by kernel_rfl) (by kernel_rfl) ?_
      refine ls_p (d := some 37) (by kernel_rfl) (by kernel_rfl) (p_nil (by kernel_rfl) H) (fun x37 H => ?_)
      refine ls_p (d := some 38) (by kernel_rfl) (by kernel_rfl) (p_off Try.underlying72 rfl (fun w => ⟨_, Try.sizeOf22 w⟩) rfl (by kernel_rfl) H) (fun x38 H => ?_)
      refine ls_y (d := some 39) (by kernel_rfl) (by kernel_rfl) HA (y_ld Try.isAgg22 (by kernel_rfl) H) (fun x39 H => ?_)
      refine ls_p (d := some 40) (by kernel_rfl) (by kernel_rfl) (p_len Try.underlying22 (by kernel_rfl) H) (fun x40 H => ?_)
      refine ls_p (d := some 41) (by kernel_rfl) (by kernel_rfl) (p_sEq (by kernel_rfl) (by kernel_rfl) H) (fun x41 H => ?_)
      refine ls_nil ?_
      refine then_normal ?_
      refine fr_eq (b := ⟨([x0, x1, undef, undef, (.slice none 0 0), (.bool false), undef, x1, x8, x0, x10, x11, undef, undef, undef, undef, undef, undef, undef, undef, undef, undef, undef, undef, undef, undef, undef, undef, undef, undef, undef, undef, undef, undef, undef, undef, x0, x37, x38, x39, x40, x41, undef, undef, undef, undef, undef, undef, undef, undef] ++ [undef, undef, undef, undef, undef, undef, undef, undef, undef, undef, undef, undef, undef, undef, undef, undef, undef, undef, undef, undef, undef, undef, undef, undef, undef, undef, undef, undef, undef, undef]).toArray, []⟩) (by kernel_rfl) ?_
      refine wp_if rfl H (fun H => ?_) (fun H => ?_)
      · refine wp_seq ?_
        refine lwp_list ?_
        refine ls_assign (x := (.slice none 0 0)) (by kernel_rfl) (by kernel_rfl) ?_
        refine ls_assign (x := (.bool false)) (by kernel_rfl) (by kernel_rfl) ?_
        refine ls_nil ?_
        refine then_normal ?_
        refine fr_eq (b := ⟨([x0, x1, undef, undef, (.slice none 0 0), (.bool false), undef, x1, x8, x0, x10, x11, undef, undef, undef, undef, undef, undef, undef, undef, undef, undef, undef, undef, undef, undef, undef, undef, undef, undef, undef, undef, undef, undef, undef, undef, x0, x37, x38, x39, x40, x41, undef, undef, undef, undef, undef, undef, undef, undef] ++ [undef, undef, undef, undef, undef, undef, undef, undef, undef, undef, undef, undef, undef, undef, undef, undef, undef, undef, undef, undef, undef, undef, undef, undef, undef, undef, undef, undef, undef, undef]).toArray, []⟩) (by kernel_rfl) ?_
        refine wp_ret ?_
        refine then_ret ?_
        exact end2 (Try.results16) (by kernel_rfl) (by kernel_rfl) (by kernel_rfl) HA H _ (.inr rfl)
      · refine wp_skip ?_
        refine then_normal ?_
        refine fr_eq (b := ⟨([x0, x1, undef, undef, (.slice none 0 0), (.bool false), undef, x1, x8, x0, x10, x11, undef, undef, undef, undef, undef, undef, undef, undef, undef, undef, undef, undef, undef, undef, undef, undef, undef, undef, undef, undef, undef, undef, undef, undef, x0, x37, x38, x39, x40, x41, undef, undef, undef, undef, undef, undef, undef, undef] ++ [undef, undef, undef, undef, undef, undef, undef, undef, undef, undef, undef, undef, undef, undef, undef, undef, undef, undef, undef, undef, undef, undef, undef, undef, undef, undef, undef, undef, undef, undef]).toArray, []⟩) (by kernel_rfl) ?_
        refine wp_seq ?_
        refine lwp_list ?_
        refine ls_move (x := x0) (by kernel_rfl) (by kernel_rfl) ?_
        refine ls_p (d := some 43) (by kernel_rfl) (by kernel_rfl) (p_nil (by kernel_rfl) H) (fun x43 H => ?_)
        refine ls_p (d := some 44) (by kernel_rfl) (by kernel_rfl) (p_off Try.underlying72 rfl (fun w => ⟨_, Try.sizeOf22 w⟩) rfl (by kernel_rfl) H) (fun x44 H => ?_)
        refine ls_y (d := some 45) (by kernel_rfl) (by kernel_rfl) HA (y_ld Try.isAgg22 (by kernel_rfl) H) (fun x45 H => ?_)
        refine ls_p (d := some 46) (by kernel_rfl) (by kernel_rfl) (p_ixs Try.underlying22 Try.sizeOf30 (by kernel_rfl) (by kernel_rfl) H) (fun x46 H => ?_)
        refine ls_y (d := some 47) (by kernel_rfl) (by kernel_rfl) HA (y_ld Try.isAgg30 (by kernel_rfl) H) (fun x47 H => ?_)
        refine ls_fr (b := ⟨([x0, x1, undef, undef, (.slice none 0 0), (.bool false), undef, x1, x8, x0, x10, x11, undef, undef, undef, undef, undef, undef, undef, undef, undef, undef, undef, undef, undef, undef, undef, undef, undef, undef, undef, undef, undef, undef, undef, undef, x0, x37, x38, x39, x40, x41, x0, x43, x44, x45, x46, x47, undef, undef] ++ [undef, undef, undef, undef, undef, undef, undef, undef, undef, undef, undef, undef, undef, undef, undef, undef, undef, undef, undef, undef, undef, undef, undef, undef, undef, undef, undef, undef, undef, undef]).toArray, []⟩) (by kernel_rfl) ?_
        refine ls_assign (x := x47) (by kernel_rfl) (by kernel_rfl) ?_
        refine ls_nil ?_
        refine then_normal ?_
        refine fr_eq (b := ⟨([x0, x1, undef, undef, (.slice none 0 0), (.bool false), x47, x1, x8, x0, x10, x11, undef, undef, undef, undef, undef, undef, undef, undef, undef, undef, undef, undef, undef, undef, undef, undef, undef, undef, undef, undef, undef, undef, undef, undef, x0, x37, x38, x39, x40, x41, x0, x43, x44, x45, x46, x47, undef, undef] ++ [undef, undef, undef, undef, undef, undef, undef, undef, undef, undef, undef, undef, undef, undef, undef, undef, undef, undef, undef, undef, undef, undef, undef, undef, undef, undef, undef, undef, undef, undef]).toArray, []⟩) (by kernel_rfl) ?_
        refine wp_seq ?_
        refine lwp_list ?_
        refine ls_move (x := x1) (by kernel_rfl) (by kernel_rfl) ?_
        refine ls_move (x := x47) (by kernel_rfl) (by kernel_rfl) ?_
        refine ls_p (d := some 50) (by kernel_rfl) (by kernel_rfl) (p_len Try.underlying30 (by kernel_rfl) H) (fun x50 H => ?_)
        refine ls_p (d := some 51) (by kernel_rfl) (by kernel_rfl) (p_min (by kernel_rfl) (by kernel_rfl) H) (fun x51 H => ?_)
        refine ls_assign (x := x51) (by kernel_rfl) (by kernel_rfl) ?_
        refine ls_nil ?_
        refine then_normal ?_
        refine fr_eq (b := ⟨([x0, x51, undef, undef, (.slice none 0 0), (.bool false), x47, x1, x8, x0, x10, x11, undef, undef, undef, undef, undef, undef, undef, undef, undef, undef, undef, undef, undef, undef, undef, undef, undef, undef, undef, undef, undef, undef, undef, undef, x0, x37, x38, x39, x40, x41, x0, x43, x44, x45, x46, x47, x1, x47] ++ [x50, x51, undef, undef, undef, undef, undef, undef, undef, undef, undef, undef, undef, undef, undef, undef, undef, undef, undef, undef, undef, undef, undef, undef, undef, undef, undef, undef, undef, undef]).toArray, []⟩) (by kernel_rfl) ?_
        refine wp_seq ?_
        obtain ⟨C_1, HC, H⟩ := H
        refine lwp_mx (Nat.testBit 8320) (Nat.testBit 128) (Nat.testBit 8055) [0, 1, 3, 7, 0, 0, 48, 112, 0, 0, 768, 240, 4095, 8191] (Nat.testBit 0) C_1 [0, 1, 2, 3, 4, 5, 6, 7, 8, 9, 10, 11, 12, 13] (by kernel_rfl) (by kernel_rfl) (by kernel_rfl) (by kernel_rfl) HA HC ?_
        intro w_4 HA_4
        refine lm_al (x := x0) (d := some 52) (by kernel_rfl) rfl (by kernel_rfl) (by kernel_rfl) (al_move (by kernel_rfl)) ?_
        refine lm_p (d := some 53) (by kernel_rfl) rfl (by kernel_rfl) (by kernel_rfl) (p_nil (by kernel_rfl) H) (fun x53 H => ?_)
        refine lm_p (d := some 54) (by kernel_rfl) rfl (by kernel_rfl) (by kernel_rfl) (p_off Try.underlying72 rfl (fun w => ⟨_, Try.sizeOf22 w⟩) rfl (by kernel_rfl) H) (fun x54 H => ?_)
        refine lm_f (d := some 55) (by kernel_rfl) rfl (by kernel_rfl) (by kernel_rfl) (by kernel_rfl) (by kernel_rfl) (c_ld Try.isAgg22 (by kernel_rfl) H) (fun x55 H => ?_)
        refine lm_al (x := x47) (d := some 56) (by kernel_rfl) rfl (by kernel_rfl) (by kernel_rfl) (al_move (by kernel_rfl)) ?_
        refine lm_al (x := x51) (d := some 57) (by kernel_rfl) rfl (by kernel_rfl) (by kernel_rfl) (al_move (by kernel_rfl)) ?_
        refine lm_fr (b := ⟨([x0, x51, undef, undef, (.slice none 0 0), (.bool false), x47, x1, x8, x0, x10, x11, undef, undef, undef, undef, undef, undef, undef, undef, undef, undef, undef, undef, undef, undef, undef, undef, undef, undef, undef, undef, undef, undef, undef, undef, x0, x37, x38, x39, x40, x41, x0, x43, x44, x45, x46, x47, x1, x47] ++ [x50, x51, x0, x53, x54, x55, x47, x51, undef, undef, undef, undef, undef, undef, undef, undef, undef, undef, undef, undef, undef, undef, undef, undef, undef, undef, undef, undef, undef, undef]).toArray, []⟩) (by kernel_rfl) ?_
        refine lm_p (d := some 58) (by kernel_rfl) rfl (by kernel_rfl) (by kernel_rfl) (p_sl Try.underlying30 Try.sizeOf5 (by kernel_rfl) (by kernel_rfl) (by kernel_rfl) H) (fun x58 H => ?_)
        refine lm_dc (d := some 59) (by kernel_rfl) rfl (by kernel_rfl) (by kernel_rfl) (by kernel_rfl) HA_4 (d_call (by kernel_rfl) (by kernel_rfl) H) (fun x59 h_3 w_5 H HA_5 => ?_)
        refine lm_al (x := x47) (d := some 60) (by kernel_rfl) rfl (by kernel_rfl) (by kernel_rfl) (al_move (by kernel_rfl)) ?_
        refine lm_al (x := x51) (d := some 61) (by kernel_rfl) rfl (by kernel_rfl) (by kernel_rfl) (al_move (by kernel_rfl)) ?_
        refine lm_p (d := some 62) (by kernel_rfl) rfl (by kernel_rfl) (by kernel_rfl) (p_sl Try.underlying30 Try.sizeOf5 (by kernel_rfl) (by kernel_rfl) (by kernel_rfl) H) (fun x62 H => ?_)
        refine lm_al (x := x59) (d := some 4) (by kernel_rfl) rfl (by kernel_rfl) (by kernel_rfl) (al_assign (by kernel_rfl)) ?_
        refine lm_fr (b := ⟨([x0, x51, undef, undef, x59, (.bool false), x47, x1, x8, x0, x10, x11, undef, undef, undef, undef, undef, undef, undef, undef, undef, undef, undef, undef, undef, undef, undef, undef, undef, undef, undef, undef, undef, undef, undef, undef, x0, x37, x38, x39, x40, x41, x0, x43, x44, x45, x46, x47, x1, x47] ++ [x50, x51, x0, x53, x54, x55, x47, x51, x58, x59, x47, x51, x62, undef, undef, undef, undef, undef, undef, undef, undef, undef, undef, undef, undef, undef, undef, undef, undef, undef]).toArray, []⟩) (by kernel_rfl) ?_
        refine lm_p (d := some 63) (by kernel_rfl) rfl (by kernel_rfl) (by kernel_rfl) (p_ixs Try.underlying22 Try.sizeOf30 (by kernel_rfl) (by kernel_rfl) H) (fun x63 H => ?_)
        refine lm_d (d := none) (by kernel_rfl) rfl (by kernel_rfl) (by kernel_rfl) (by kernel_rfl) HA_5 (d_st Try.sizeOf30 (by kernel_rfl) (by kernel_rfl) H) (fun _ h_4 w_6 H HA_6 => ?_)
        refine lm_nil ?_
        refine then_normal ?_
        refine fr_eq (b := ⟨([x0, x51, undef, undef, x59, (.bool false), x47, x1, x8, x0, x10, x11, undef, undef, undef, undef, undef, undef, undef, undef, undef, undef, undef, undef, undef, undef, undef, undef, undef, undef, undef, undef, undef, undef, undef, undef, x0, x37, x38, x39, x40, x41, x0, x43, x44, x45, x46, x47, x1, x47] ++ [x50, x51, x0, x53, x54, x55, x47, x51, x58, x59, x47, x51, x62, x63, undef, undef, undef, undef, undef, undef, undef, undef, undef, undef, undef, undef, undef, undef, undef, undef]).toArray, []⟩) (by kernel_rfl) ?_
        refine wp_seq ?_
        refine wp_seq ?_
        refine lwp_list ?_
        refine ls_move (x := x51) (by kernel_rfl) (by kernel_rfl) ?_
        refine ls_move (x := x47) (by kernel_rfl) (by kernel_rfl) ?_
        refine ls_p (d := some 66) (by kernel_rfl) (by kernel_rfl) (p_len Try.underlying30 (by kernel_rfl) H) (fun x66 H => ?_)
        refine ls_p (d := some 67) (by kernel_rfl) (by kernel_rfl) (p_sEq (by kernel_rfl) (by kernel_rfl) H) (fun x67 H => ?_)
        refine ls_nil ?_
        refine then_normal ?_
        refine fr_eq (b := ⟨([x0, x51, undef, undef, x59, (.bool false), x47, x1, x8, x0, x10, x11, undef, undef, undef, undef, undef, undef, undef, undef, undef, undef, undef, undef, undef, undef, undef, undef, undef, undef, undef, undef, undef, undef, undef, undef, x0, x37, x38, x39, x40, x41, x0, x43, x44, x45, x46, x47, x1, x47] ++ [x50, x51, x0, x53, x54, x55, x47, x51, x58, x59, x47, x51, x62, x63, x51, x47, x66, x67, undef, undef, undef, undef, undef, undef, undef, undef, undef, undef, undef, undef]).toArray, []⟩) (by kernel_rfl) ?_
        refine wp_join (fun a w => ∃ (D : Nat → Value) (h_5 : Heap), a = ⟨([x0, x51, undef, undef, x59, (.bool false), x47, x1, x8, x0, x10, x11, undef, undef, undef, undef, undef, undef, undef, undef, undef, undef, undef, undef, undef, undef, undef, undef, undef, undef, undef, undef, undef, undef, undef, undef, x0, x37, x38, x39, x40, x41, x0, x43, x44, x45, x46, x47, x1, x47] ++ [x50, x51, x0, x53, x54, x55, x47, x51, x58, x59, x47, x51, x62, x63, x51, x47, x66, x67, (D 0), (D 1), (D 2), (D 3), (D 4), (D 5), (D 6), (D 7), undef, undef, undef, undef]).toArray, []⟩ ∧ At w0 w h_5 ∧ ldisc_Disc_Read_j1 R x59 x47 h_5) ?_ ?_
        · refine wp_if rfl H (fun H => ?_) (fun H => ?_)
          · refine lwp_list ?_
            refine ls_move (x := x0) (by kernel_rfl) (by kernel_rfl) ?_
            refine ls_move (x := x0) (by kernel_rfl) (by kernel_rfl) ?_
            refine ls_p (d := some 70) (by kernel_rfl) (by kernel_rfl) (p_nil (by kernel_rfl) H) (fun x70 H => ?_)
            refine ls_p (d := some 71) (by kernel_rfl) (by kernel_rfl) (p_off Try.underlying72 rfl (fun w => ⟨_, Try.sizeOf22 w⟩) rfl (by kernel_rfl) H) (fun x71 H => ?_)
            refine ls_y (d := some 72) (by kernel_rfl) (by kernel_rfl) HA_6 (y_ld Try.isAgg22 (by kernel_rfl) H) (fun x72 H => ?_)
            refine ls_p (d := some 73) (by kernel_rfl) (by kernel_rfl) (p_sl Try.underlying22 Try.sizeOf30 (by kernel_rfl) (by kernel_rfl) (by kernel_rfl) H) (fun x73 H => ?_)
            refine ls_fr (b := ⟨([x0, x51, undef, undef, x59, (.bool false), x47, x1, x8, x0, x10, x11, undef, undef, undef, undef, undef, undef, undef, undef, undef, undef, undef, undef, undef, undef, undef, undef, undef, undef, undef, undef, undef, undef, undef, undef, x0, x37, x38, x39, x40, x41, x0, x43, x44, x45, x46, x47, x1, x47] ++ [x50, x51, x0, x53, x54, x55, x47, x51, x58, x59, x47, x51, x62, x63, x51, x47, x66, x67, x0, x0, x70, x71, x72, x73, undef, undef, undef, undef, undef, undef]).toArray, []⟩) (by kernel_rfl) ?_
            refine ls_p (d := some 74) (by kernel_rfl) (by kernel_rfl) (p_nil (by kernel_rfl) H) (fun x74 H => ?_)
            refine ls_p (d := some 75) (by kernel_rfl) (by kernel_rfl) (p_off Try.underlying72 rfl (fun w => ⟨_, Try.sizeOf22 w⟩) rfl (by kernel_rfl) H) (fun x75 H => ?_)
            refine ls_d (d := none) (by kernel_rfl) (by kernel_rfl) HA_6 (d_st Try.sizeOf22 (by kernel_rfl) (by kernel_rfl) H) (fun _ h_6 w_8 H HA_8 => ?_)
            refine ls_nil ?_
            exact ⟨(fun i => ([x0, x0, x70, x71, x72, x73, x74, x75]).getD i undef), h_6, by kernel_rfl, HA_8, H⟩
          · refine wp_skip ?_
            exact ⟨(fun i => ([undef, undef, undef, undef, undef, undef, undef, undef]).getD i undef), h_4, by kernel_rfl, HA_6, H⟩
        · rintro _ w_7 ⟨D, h_5, rfl, HA_7, H⟩
          unfold ldisc_Disc_Read_j1 at H
          refine then_normal ?_
          refine fr_eq (b := ⟨([x0, x51, undef, undef, x59, (.bool false), x47, x1, x8, x0, x10, x11, undef, undef, undef, undef, undef, undef, undef, undef, undef, undef, undef, undef, undef, undef, undef, undef, undef, undef, undef, undef, undef, undef, undef, undef, x0, x37, x38, x39, x40, x41, x0, x43, x44, x45, x46, x47, x1, x47] ++ [x50, x51, x0, x53, x54, x55, x47, x51, x58, x59, x47, x51, x62, x63, x51, x47, x66, x67, (D 0), (D 1), (D 2), (D 3), (D 4), (D 5), (D 6), (D 7), undef, undef, undef, undef]).toArray, []⟩) (by kernel_rfl) ?_
          refine wp_seq ?_
          refine lwp_list ?_
          refine ls_move (x := x59) (by kernel_rfl) (by kernel_rfl) ?_
          refine ls_move (x := x47) (by kernel_rfl) (by kernel_rfl) ?_
          refine ls_p (d := some 78) (by kernel_rfl) (by kernel_rfl) (p_len Try.underlying30 (by kernel_rfl) H) (fun x78 H => ?_)
          refine ls_p (d := some 79) (by kernel_rfl) (by kernel_rfl) (p_sEq (by kernel_rfl) (by kernel_rfl) H) (fun x79 H => ?_)
          refine ls_assign (x := x59) (by kernel_rfl) (by kernel_rfl) ?_
          refine ls_assign (x := x79) (by kernel_rfl) (by kernel_rfl) ?_
          refine ls_nil ?_
          refine then_normal ?_
          refine fr_eq (b := ⟨([x0, x51, undef, undef, x59, x79, x47, x1, x8, x0, x10, x11, undef, undef, undef, undef, undef, undef, undef, undef, undef, undef, undef, undef, undef, undef, undef, undef, undef, undef, undef, undef, undef, undef, undef, undef, x0, x37, x38, x39, x40, x41, x0, x43, x44, x45, x46, x47, x1, x47] ++ [x50, x51, x0, x53, x54, x55, x47, x51, x58, x59, x47, x51, x62, x63, x51, x47, x66, x67, (D 0), (D 1), (D 2), (D 3), (D 4), (D 5), (D 6), (D 7), x59, x47, x78, x79]).toArray, []⟩) (by kernel_rfl) ?_
          refine wp_ret ?_
          exact end2 (Try.results16) (by kernel_rfl) (by kernel_rfl) (by kernel_rfl) HA_7 H _ (.inr rfl)

end Go.Proofs.Ytlcklnbgknhhkaa
