/- The shallow reading of one function, and that the function does it. Written by a program. -/
import Derived.Test.YtpgpbhbpamgboaaDoorFnC
set_option linter.unusedVariables false
namespace Go.Proofs.YtpgpbhbpamgboaaDoor
open Go Go.HW

def charset_Sets_Is_S (x0 : Value) (h : Heap) (R : Value → Heap → Prop) : Prop :=
  ∃ C : Heap → Prop, C h ∧ (sNil x0 fun x6 =>
  sOff x6 0 fun x7 =>
  sIxA x7 (.int .i64 0) 2 1 fun x8 =>
  sLdC C x8 fun x9 =>
  charset_name_c x9 h fun x10 h => C h ∧ (
  sNil x0 fun x12 =>
  sOff x12 0 fun x13 =>
  sIxA x13 (.int .i64 1) 2 1 fun x14 =>
  sLdC C x14 fun x15 =>
  charset_name_c x15 h fun x16 h_1 => C h_1 ∧ (
  sNil x0 fun x18 =>
  sOff x18 2 fun x19 =>
  sLdC C x19 fun x20 =>
  R (.tuple #[x10, x16, x20]) h_1)))
set_option maxRecDepth 100000 in
theorem charset_Sets_Is_runs {x0 : Value} {h : Heap} {R : Value → Heap → Prop} (H : charset_Sets_Is_S x0 h R) : charset_Sets_Is_c x0 h R := by
  unfold charset_Sets_Is_S at H
  refine runs_of (b := ⟨#[x0, undef, undef, undef, undef, undef, undef, undef, undef, undef, undef, undef, undef, undef, undef, undef, undef, undef, undef, undef, undef], []⟩) Tryd.call11 Tryd.func11 rfl (by kernel_rfl) (fun w0 HA => ?_)
  refine wp_seq ?_
  refine lwp_list ?_
  refine ls_assign (x := (.int .u8 0)) (by kernel_rfl) (by kernel_rfl) ?_
  refine ls_assign (x := (.int .u8 0)) (by kernel_rfl) (by kernel_rfl) ?_
  refine ls_assign (x := (.int .i64 0)) (by kernel_rfl) (by kernel_rfl) ?_
  refine ls_nil ?_
  refine then_normal ?_
  refine fr_eq (b := ⟨#[x0, undef, (.int .u8 0), (.int .u8 0), (.int .i64 0), undef, undef, undef, undef, undef, undef, undef, undef, undef, undef, undef, undef, undef, undef, undef, undef], []⟩) (by kernel_rfl) ?_
  refine wp_seq ?_
  obtain ⟨C, HC, H⟩ := H
  refine lwp_mx (Nat.testBit 2080) (Nat.testBit 2080) (Nat.testBit 488399) [0, 1, 3, 7, 15, 31, 0, 64, 192, 448, 960, 2047, 0, 4096, 12288, 28672, 4095, 69631, 262143] C [0, 1, 2, 3, 4, 5, 6, 7, 8, 9, 10, 11, 12, 13, 14, 15, 16, 17, 18] (by kernel_rfl) (by kernel_rfl) (by kernel_rfl) HA HC ?_
  intro w HA
  refine lm_al (x := x0) (d := some 5) (by kernel_rfl) rfl (by kernel_rfl) (by kernel_rfl) (al_move (by kernel_rfl)) ?_
  refine lm_p (d := some 6) (by kernel_rfl) rfl (by kernel_rfl) (by kernel_rfl) (p_nil (by kernel_rfl) H) (fun x6 H => ?_)
  refine lm_p (d := some 7) (by kernel_rfl) rfl (by kernel_rfl) (by kernel_rfl) (p_off Tryd.underlying24 rfl (fun w => ⟨_, Tryd.sizeOf22 w⟩) rfl (by kernel_rfl) H) (fun x7 H => ?_)
  refine lm_p (d := some 8) (by kernel_rfl) rfl (by kernel_rfl) (by kernel_rfl) (p_ixa Tryd.underlying22 Tryd.sizeOf5 (by kernel_rfl) (by kernel_rfl) H) (fun x8 H => ?_)
  refine lm_f (d := some 9) (by kernel_rfl) rfl (by kernel_rfl) (by kernel_rfl) (by kernel_rfl) (c_ld Tryd.isAgg5 (by kernel_rfl) H) (fun x9 H => ?_)
  refine lm_dc (d := some 10) (by kernel_rfl) rfl (by kernel_rfl) (by kernel_rfl) HA (d_call (by kernel_rfl) (by kernel_rfl) H) (fun x10 h w_1 H HA_1 => ?_)
  refine lm_fr (b := ⟨#[x0, undef, (.int .u8 0), (.int .u8 0), (.int .i64 0), x0, x6, x7, x8, x9, x10, undef, undef, undef, undef, undef, undef, undef, undef, undef, undef], []⟩) (by kernel_rfl) ?_
  refine lm_al (x := x0) (d := some 11) (by kernel_rfl) rfl (by kernel_rfl) (by kernel_rfl) (al_move (by kernel_rfl)) ?_
  refine lm_p (d := some 12) (by kernel_rfl) rfl (by kernel_rfl) (by kernel_rfl) (p_nil (by kernel_rfl) H) (fun x12 H => ?_)
  refine lm_p (d := some 13) (by kernel_rfl) rfl (by kernel_rfl) (by kernel_rfl) (p_off Tryd.underlying24 rfl (fun w => ⟨_, Tryd.sizeOf22 w⟩) rfl (by kernel_rfl) H) (fun x13 H => ?_)
  refine lm_p (d := some 14) (by kernel_rfl) rfl (by kernel_rfl) (by kernel_rfl) (p_ixa Tryd.underlying22 Tryd.sizeOf5 (by kernel_rfl) (by kernel_rfl) H) (fun x14 H => ?_)
  refine lm_f (d := some 15) (by kernel_rfl) rfl (by kernel_rfl) (by kernel_rfl) (by kernel_rfl) (c_ld Tryd.isAgg5 (by kernel_rfl) H) (fun x15 H => ?_)
  refine lm_dc (d := some 16) (by kernel_rfl) rfl (by kernel_rfl) (by kernel_rfl) HA_1 (d_call (by kernel_rfl) (by kernel_rfl) H) (fun x16 h_1 w_2 H HA_2 => ?_)
  refine lm_fr (b := ⟨#[x0, undef, (.int .u8 0), (.int .u8 0), (.int .i64 0), x0, x6, x7, x8, x9, x10, x0, x12, x13, x14, x15, x16, undef, undef, undef, undef], []⟩) (by kernel_rfl) ?_
  refine lm_al (x := x0) (d := some 17) (by kernel_rfl) rfl (by kernel_rfl) (by kernel_rfl) (al_move (by kernel_rfl)) ?_
  refine lm_p (d := some 18) (by kernel_rfl) rfl (by kernel_rfl) (by kernel_rfl) (p_nil (by kernel_rfl) H) (fun x18 H => ?_)
  refine lm_p (d := some 19) (by kernel_rfl) rfl (by kernel_rfl) (by kernel_rfl) (p_off Tryd.underlying24 rfl (fun w => ⟨_, Tryd.sizeOf3 w⟩) rfl (by kernel_rfl) H) (fun x19 H => ?_)
  refine lm_f (d := some 20) (by kernel_rfl) rfl (by kernel_rfl) (by kernel_rfl) (by kernel_rfl) (c_ld Tryd.isAgg3 (by kernel_rfl) H) (fun x20 H => ?_)
  refine lm_al (x := x10) (d := some 2) (by kernel_rfl) rfl (by kernel_rfl) (by kernel_rfl) (al_assign (by kernel_rfl)) ?_
  refine lm_al (x := x16) (d := some 3) (by kernel_rfl) rfl (by kernel_rfl) (by kernel_rfl) (al_assign (by kernel_rfl)) ?_
  refine lm_fr (b := ⟨#[x0, undef, x10, x16, (.int .i64 0), x0, x6, x7, x8, x9, x10, x0, x12, x13, x14, x15, x16, x0, x18, x19, x20], []⟩) (by kernel_rfl) ?_
  refine lm_al (x := x20) (d := some 4) (by kernel_rfl) rfl (by kernel_rfl) (by kernel_rfl) (al_assign (by kernel_rfl)) ?_
  refine lm_nil ?_
  refine then_normal ?_
  refine fr_eq (b := ⟨#[x0, undef, x10, x16, x20, x0, x6, x7, x8, x9, x10, x0, x12, x13, x14, x15, x16, x0, x18, x19, x20], []⟩) (by kernel_rfl) ?_
  refine wp_ret ?_
  exact end3 (Tryd.results11) (by kernel_rfl) (by kernel_rfl) (by kernel_rfl) (by kernel_rfl) HA_2 H _ (.inr rfl)

end Go.Proofs.YtpgpbhbpamgboaaDoor
