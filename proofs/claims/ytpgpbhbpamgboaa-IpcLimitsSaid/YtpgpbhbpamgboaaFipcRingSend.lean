/- The shallow reading of one function, and that the function does it. Written by a program. -/
import Derived.Test.YtpgpbhbpamgboaaFnC
set_option linter.unusedVariables false
namespace Go.Proofs.Ytpgpbhbpamgboaa
open Go Go.HW

def ipc_Ring_Send_S (x0 x1 x2 : Value) (h : Heap) (R : Value → Heap → Prop) : Prop :=
  sLen x2 fun x9 =>
  sGt x9 (.int .i64 4096) fun x10 =>
  sIf x10 (R (.int .i64 10) h) (sNil x0 fun x13 =>
  sOff x13 2 fun x14 =>
  sLd h x14 fun x15 =>
  sNil x0 fun x17 =>
  sOff x17 0 fun x18 =>
  sLd h x18 fun x19 =>
  sLen x19 fun x20 =>
  sEq x15 x20 fun x21 =>
  sIf x21 (R (.int .i64 3) h) (∃ C : Heap → Prop, C h ∧ (sNil x0 fun x23 =>
  sOff x23 0 fun x24 =>
  sLdC C x24 fun x25 =>
  sNil x0 fun x27 =>
  sOff x27 1 fun x28 =>
  sLdC C x28 fun x29 =>
  sNil x0 fun x31 =>
  sOff x31 2 fun x32 =>
  sLdC C x32 fun x33 =>
  sAdd .i64 x29 x33 fun x34 =>
  sNil x0 fun x36 =>
  sOff x36 0 fun x37 =>
  sLdC C x37 fun x38 =>
  sLen x38 fun x39 =>
  sRem .i64 x34 x39 fun x40 =>
  slices_Clone_byte_byte_c x2 h fun x43 h => C h ∧ (
  sBuild #[.int .i64 0, .slice none 0 0] [(0, 1, x1), (1, 1, x43)] fun x44 =>
  sIxS x25 x40 2 fun x45 =>
  sStN h x45 x44 2 fun h_1 => 
  sNil x0 fun x47 =>
  sOff x47 2 fun x48 =>
  sLd h_1 x48 fun x49 =>
  sAdd .i64 x49 (.int .i64 1) fun x50 =>
  sNil x0 fun x51 =>
  sOff x51 2 fun x52 =>
  sSt h_1 x52 x50 fun h_2 => 
  R (.int .i64 0) h_2))))
set_option maxRecDepth 100000 in
theorem ipc_Ring_Send_runs {x0 x1 x2 : Value} {h : Heap} {R : Value → Heap → Prop} (H : ipc_Ring_Send_S x0 x1 x2 h R) : ipc_Ring_Send_c x0 x1 x2 h R := by
  unfold ipc_Ring_Send_S at H
  refine runs_of (b := ⟨#[x0, x1, x2, undef, undef, undef, undef, undef, undef, undef, undef, undef, undef, undef, undef, undef, undef, undef, undef, undef, undef, undef, undef, undef, undef, undef, undef, undef, undef, undef, undef, undef, undef, undef, undef, undef, undef, undef, undef, undef, undef, undef, undef, undef, undef, undef, undef, undef, undef, undef, undef, undef, undef], []⟩) Try.call23 Try.func23 rfl (by kernel_rfl) (fun w0 HA => ?_)
  refine wp_seq ?_
  refine lwp_list ?_
  refine ls_assign (x := (.int .i64 0)) (by kernel_rfl) (by kernel_rfl) ?_
  refine ls_nil ?_
  refine then_normal ?_
  refine fr_eq (b := ⟨#[x0, x1, x2, undef, undef, undef, (.int .i64 0), undef, undef, undef, undef, undef, undef, undef, undef, undef, undef, undef, undef, undef, undef, undef, undef, undef, undef, undef, undef, undef, undef, undef, undef, undef, undef, undef, undef, undef, undef, undef, undef, undef, undef, undef, undef, undef, undef, undef, undef, undef, undef, undef, undef, undef, undef], []⟩) (by kernel_rfl) ?_
  refine wp_seq ?_
  refine wp_block ?_
  refine wp_seq ?_
  refine lwp_list ?_
  refine ls_move (x := x2) (by kernel_rfl) (by kernel_rfl) ?_
  refine ls_p (d := some 9) (by kernel_rfl) (by kernel_rfl) (p_len Try.underlying37 (by kernel_rfl) H) (fun x9 H => ?_)
  refine ls_p (d := some 10) (by kernel_rfl) (by kernel_rfl) (p_sGt (by kernel_rfl) (by kernel_rfl) H) (fun x10 H => ?_)
  refine ls_assign (x := x10) (by kernel_rfl) (by kernel_rfl) ?_
  refine ls_nil ?_
  refine then_normal ?_
  refine fr_eq (b := ⟨#[x0, x1, x2, undef, undef, undef, (.int .i64 0), x10, x2, x9, x10, undef, undef, undef, undef, undef, undef, undef, undef, undef, undef, undef, undef, undef, undef, undef, undef, undef, undef, undef, undef, undef, undef, undef, undef, undef, undef, undef, undef, undef, undef, undef, undef, undef, undef, undef, undef, undef, undef, undef, undef, undef, undef], []⟩) (by kernel_rfl) ?_
  refine wp_if rfl H (fun H => ?_) (fun H => ?_)
  · refine wp_seq ?_
    refine lwp_list ?_
    refine ls_assign (x := (.int .i64 10)) (by kernel_rfl) (by kernel_rfl) ?_
    refine ls_nil ?_
    refine then_normal ?_
    refine fr_eq (b := ⟨#[x0, x1, x2, undef, undef, undef, (.int .i64 10), x10, x2, x9, x10, undef, undef, undef, undef, undef, undef, undef, undef, undef, undef, undef, undef, undef, undef, undef, undef, undef, undef, undef, undef, undef, undef, undef, undef, undef, undef, undef, undef, undef, undef, undef, undef, undef, undef, undef, undef, undef, undef, undef, undef, undef, undef], []⟩) (by kernel_rfl) ?_
    refine wp_ret ?_
    refine block_ret ?_
    refine then_ret ?_
    exact end1 (Try.results23) (by kernel_rfl) (by kernel_rfl) HA H _ (.inr rfl)
  · refine wp_seq ?_
    refine lwp_qt (by kernel_rfl) (by kernel_rfl) HA ?_
    refine lq_move (x := x0) (by kernel_rfl) (by kernel_rfl) ?_
    refine lq_p (d := some 13) (by kernel_rfl) (by kernel_rfl) (p_nil (by kernel_rfl) H) (fun x13 H => ?_)
    refine lq_p (d := some 14) (by kernel_rfl) (by kernel_rfl) (p_off Try.underlying56 rfl (fun w => ⟨_, Try.sizeOf3 w⟩) rfl (by kernel_rfl) H) (fun x14 H => ?_)
    refine lq_y (d := some 15) (by kernel_rfl) (by kernel_rfl) HA (y_ld Try.isAgg3 (by kernel_rfl) H) (fun x15 H => ?_)
    refine lq_move (x := x0) (by kernel_rfl) (by kernel_rfl) ?_
    refine lq_p (d := some 17) (by kernel_rfl) (by kernel_rfl) (p_nil (by kernel_rfl) H) (fun x17 H => ?_)
    refine lq_fr (b := ⟨#[x0, x1, x2, undef, undef, undef, (.int .i64 0), x10, x2, x9, x10, undef, x0, x13, x14, x15, x0, x17, undef, undef, undef, undef, undef, undef, undef, undef, undef, undef, undef, undef, undef, undef, undef, undef, undef, undef, undef, undef, undef, undef, undef, undef, undef, undef, undef, undef, undef, undef, undef, undef, undef, undef, undef], []⟩) (by kernel_rfl) ?_
    refine lq_p (d := some 18) (by kernel_rfl) (by kernel_rfl) (p_off Try.underlying56 rfl (fun w => ⟨_, Try.sizeOf34 w⟩) rfl (by kernel_rfl) H) (fun x18 H => ?_)
    refine lq_y (d := some 19) (by kernel_rfl) (by kernel_rfl) HA (y_ld Try.isAgg34 (by kernel_rfl) H) (fun x19 H => ?_)
    refine lq_p (d := some 20) (by kernel_rfl) (by kernel_rfl) (p_len Try.underlying34 (by kernel_rfl) H) (fun x20 H => ?_)
    refine lq_p (d := some 21) (by kernel_rfl) (by kernel_rfl) (p_sEq (by kernel_rfl) (by kernel_rfl) H) (fun x21 H => ?_)
    refine lq_assign (x := x21) (by kernel_rfl) (by kernel_rfl) ?_
    refine lq_nil ?_
    intro w HA
    refine then_normal ?_
    refine fr_eq (b := ⟨#[x0, x1, x2, undef, undef, undef, (.int .i64 0), x10, x2, x9, x10, x21, x0, x13, x14, x15, x0, x17, x18, x19, x20, x21, undef, undef, undef, undef, undef, undef, undef, undef, undef, undef, undef, undef, undef, undef, undef, undef, undef, undef, undef, undef, undef, undef, undef, undef, undef, undef, undef, undef, undef, undef, undef], []⟩) (by kernel_rfl) ?_
    refine wp_if rfl H (fun H => ?_) (fun H => ?_)
    · refine wp_seq ?_
      refine lwp_list ?_
      refine ls_assign (x := (.int .i64 3)) (by kernel_rfl) (by kernel_rfl) ?_
      refine ls_nil ?_
      refine then_normal ?_
      refine fr_eq (b := ⟨#[x0, x1, x2, undef, undef, undef, (.int .i64 3), x10, x2, x9, x10, x21, x0, x13, x14, x15, x0, x17, x18, x19, x20, x21, undef, undef, undef, undef, undef, undef, undef, undef, undef, undef, undef, undef, undef, undef, undef, undef, undef, undef, undef, undef, undef, undef, undef, undef, undef, undef, undef, undef, undef, undef, undef], []⟩) (by kernel_rfl) ?_
      refine wp_ret ?_
      refine block_ret ?_
      refine then_ret ?_
      exact end1 (Try.results23) (by kernel_rfl) (by kernel_rfl) HA H _ (.inr rfl)
    · refine wp_skip ?_
      refine block_normal ?_
      refine then_normal ?_
      refine fr_eq (b := ⟨#[x0, x1, x2, undef, undef, undef, (.int .i64 0), x10, x2, x9, x10, x21, x0, x13, x14, x15, x0, x17, x18, x19, x20, x21, undef, undef, undef, undef, undef, undef, undef, undef, undef, undef, undef, undef, undef, undef, undef, undef, undef, undef, undef, undef, undef, undef, undef, undef, undef, undef, undef, undef, undef, undef, undef], []⟩) (by kernel_rfl) ?_
      refine wp_seq ?_
      obtain ⟨C, HC, H⟩ := H
      refine lwp_mx (Nat.testBit 18874368) (Nat.testBit 2097152) (Nat.testBit 14612343) [0, 1, 3, 7, 0, 16, 48, 112, 0, 256, 768, 1792, 4080, 0, 8192, 24576, 57344, 122880, 262128, 0, 0, 1048576, 3670016, 8388607, 16777215] C [0, 1, 2, 3, 4, 5, 6, 7, 8, 9, 10, 11, 12, 13, 14, 15, 16, 17, 18, 19, 20, 21, 22, 23, 24] (by kernel_rfl) (by kernel_rfl) (by kernel_rfl) HA HC ?_
      intro w_1 HA_1
      refine lm_al (x := x0) (d := some 22) (by kernel_rfl) rfl (by kernel_rfl) (by kernel_rfl) (al_move (by kernel_rfl)) ?_
      refine lm_p (d := some 23) (by kernel_rfl) rfl (by kernel_rfl) (by kernel_rfl) (p_nil (by kernel_rfl) H) (fun x23 H => ?_)
      refine lm_p (d := some 24) (by kernel_rfl) rfl (by kernel_rfl) (by kernel_rfl) (p_off Try.underlying56 rfl (fun w => ⟨_, Try.sizeOf34 w⟩) rfl (by kernel_rfl) H) (fun x24 H => ?_)
      refine lm_f (d := some 25) (by kernel_rfl) rfl (by kernel_rfl) (by kernel_rfl) (by kernel_rfl) (c_ld Try.isAgg34 (by kernel_rfl) H) (fun x25 H => ?_)
      refine lm_al (x := x0) (d := some 26) (by kernel_rfl) rfl (by kernel_rfl) (by kernel_rfl) (al_move (by kernel_rfl)) ?_
      refine lm_p (d := some 27) (by kernel_rfl) rfl (by kernel_rfl) (by kernel_rfl) (p_nil (by kernel_rfl) H) (fun x27 H => ?_)
      refine lm_fr (b := ⟨#[x0, x1, x2, undef, undef, undef, (.int .i64 0), x10, x2, x9, x10, x21, x0, x13, x14, x15, x0, x17, x18, x19, x20, x21, x0, x23, x24, x25, x0, x27, undef, undef, undef, undef, undef, undef, undef, undef, undef, undef, undef, undef, undef, undef, undef, undef, undef, undef, undef, undef, undef, undef, undef, undef, undef], []⟩) (by kernel_rfl) ?_
      refine lm_p (d := some 28) (by kernel_rfl) rfl (by kernel_rfl) (by kernel_rfl) (p_off Try.underlying56 rfl (fun w => ⟨_, Try.sizeOf3 w⟩) rfl (by kernel_rfl) H) (fun x28 H => ?_)
      refine lm_f (d := some 29) (by kernel_rfl) rfl (by kernel_rfl) (by kernel_rfl) (by kernel_rfl) (c_ld Try.isAgg3 (by kernel_rfl) H) (fun x29 H => ?_)
      refine lm_al (x := x0) (d := some 30) (by kernel_rfl) rfl (by kernel_rfl) (by kernel_rfl) (al_move (by kernel_rfl)) ?_
      refine lm_p (d := some 31) (by kernel_rfl) rfl (by kernel_rfl) (by kernel_rfl) (p_nil (by kernel_rfl) H) (fun x31 H => ?_)
      refine lm_p (d := some 32) (by kernel_rfl) rfl (by kernel_rfl) (by kernel_rfl) (p_off Try.underlying56 rfl (fun w => ⟨_, Try.sizeOf3 w⟩) rfl (by kernel_rfl) H) (fun x32 H => ?_)
      refine lm_f (d := some 33) (by kernel_rfl) rfl (by kernel_rfl) (by kernel_rfl) (by kernel_rfl) (c_ld Try.isAgg3 (by kernel_rfl) H) (fun x33 H => ?_)
      refine lm_fr (b := ⟨#[x0, x1, x2, undef, undef, undef, (.int .i64 0), x10, x2, x9, x10, x21, x0, x13, x14, x15, x0, x17, x18, x19, x20, x21, x0, x23, x24, x25, x0, x27, x28, x29, x0, x31, x32, x33, undef, undef, undef, undef, undef, undef, undef, undef, undef, undef, undef, undef, undef, undef, undef, undef, undef, undef, undef], []⟩) (by kernel_rfl) ?_
      refine lm_p (d := some 34) (by kernel_rfl) rfl (by kernel_rfl) (by kernel_rfl) (p_add (by kernel_rfl) (by kernel_rfl) H) (fun x34 H => ?_)
      refine lm_al (x := x0) (d := some 35) (by kernel_rfl) rfl (by kernel_rfl) (by kernel_rfl) (al_move (by kernel_rfl)) ?_
      refine lm_p (d := some 36) (by kernel_rfl) rfl (by kernel_rfl) (by kernel_rfl) (p_nil (by kernel_rfl) H) (fun x36 H => ?_)
      refine lm_p (d := some 37) (by kernel_rfl) rfl (by kernel_rfl) (by kernel_rfl) (p_off Try.underlying56 rfl (fun w => ⟨_, Try.sizeOf34 w⟩) rfl (by kernel_rfl) H) (fun x37 H => ?_)
      refine lm_f (d := some 38) (by kernel_rfl) rfl (by kernel_rfl) (by kernel_rfl) (by kernel_rfl) (c_ld Try.isAgg34 (by kernel_rfl) H) (fun x38 H => ?_)
      refine lm_p (d := some 39) (by kernel_rfl) rfl (by kernel_rfl) (by kernel_rfl) (p_len Try.underlying34 (by kernel_rfl) H) (fun x39 H => ?_)
      refine lm_fr (b := ⟨#[x0, x1, x2, undef, undef, undef, (.int .i64 0), x10, x2, x9, x10, x21, x0, x13, x14, x15, x0, x17, x18, x19, x20, x21, x0, x23, x24, x25, x0, x27, x28, x29, x0, x31, x32, x33, x34, x0, x36, x37, x38, x39, undef, undef, undef, undef, undef, undef, undef, undef, undef, undef, undef, undef, undef], []⟩) (by kernel_rfl) ?_
      refine lm_p (d := some 40) (by kernel_rfl) rfl (by kernel_rfl) (by kernel_rfl) (p_rem (by kernel_rfl) (by kernel_rfl) H) (fun x40 H => ?_)
      refine lm_al (x := x1) (d := some 41) (by kernel_rfl) rfl (by kernel_rfl) (by kernel_rfl) (al_move (by kernel_rfl)) ?_
      refine lm_al (x := x2) (d := some 42) (by kernel_rfl) rfl (by kernel_rfl) (by kernel_rfl) (al_move (by kernel_rfl)) ?_
      refine lm_dc (d := some 43) (by kernel_rfl) rfl (by kernel_rfl) (by kernel_rfl) HA_1 (d_call (by kernel_rfl) (by kernel_rfl) H) (fun x43 h w_2 H HA_2 => ?_)
      refine lm_p (d := some 44) (by kernel_rfl) rfl (by kernel_rfl) (by kernel_rfl) (p_lit (pl := [(0, 1), (1, 1)]) Try.zeroValue39 Try.underlying39 ⟨(by kernel_rfl), Try.sizeOf3, (by kernel_rfl), Try.sizeOf37, trivial⟩ (by kernel_rfl) (by kernel_rfl) H) (fun x44 H => ?_)
      refine lm_p (d := some 45) (by kernel_rfl) rfl (by kernel_rfl) (by kernel_rfl) (p_ixs Try.underlying34 Try.sizeOf39 (by kernel_rfl) (by kernel_rfl) H) (fun x45 H => ?_)
      refine lm_fr (b := ⟨#[x0, x1, x2, undef, undef, undef, (.int .i64 0), x10, x2, x9, x10, x21, x0, x13, x14, x15, x0, x17, x18, x19, x20, x21, x0, x23, x24, x25, x0, x27, x28, x29, x0, x31, x32, x33, x34, x0, x36, x37, x38, x39, x40, x1, x2, x43, x44, x45, undef, undef, undef, undef, undef, undef, undef], []⟩) (by kernel_rfl) ?_
      refine lm_d (d := none) (by kernel_rfl) rfl (by kernel_rfl) (by kernel_rfl) (by kernel_rfl) HA_2 (d_stn Try.sizeOf39 (by kernel_rfl) (by kernel_rfl) H) (fun _ h_1 w_3 H HA_3 => ?_)
      refine lm_nil ?_
      refine then_normal ?_
      refine fr_eq (b := ⟨#[x0, x1, x2, undef, undef, undef, (.int .i64 0), x10, x2, x9, x10, x21, x0, x13, x14, x15, x0, x17, x18, x19, x20, x21, x0, x23, x24, x25, x0, x27, x28, x29, x0, x31, x32, x33, x34, x0, x36, x37, x38, x39, x40, x1, x2, x43, x44, x45, undef, undef, undef, undef, undef, undef, undef], []⟩) (by kernel_rfl) ?_
      refine wp_seq ?_
      refine lwp_list ?_
      refine ls_move (x := x0) (by kernel_rfl) (by kernel_rfl) ?_
      refine ls_p (d := some 47) (by kernel_rfl) (by kernel_rfl) (p_nil (by kernel_rfl) H) (fun x47 H => ?_)
      refine ls_p (d := some 48) (by kernel_rfl) (by kernel_rfl) (p_off Try.underlying56 rfl (fun w => ⟨_, Try.sizeOf3 w⟩) rfl (by kernel_rfl) H) (fun x48 H => ?_)
      refine ls_y (d := some 49) (by kernel_rfl) (by kernel_rfl) HA_3 (y_ld Try.isAgg3 (by kernel_rfl) H) (fun x49 H => ?_)
      refine ls_p (d := some 50) (by kernel_rfl) (by kernel_rfl) (p_add (by kernel_rfl) (by kernel_rfl) H) (fun x50 H => ?_)
      refine ls_p (d := some 51) (by kernel_rfl) (by kernel_rfl) (p_nil (by kernel_rfl) H) (fun x51 H => ?_)
      refine ls_fr (b := ⟨#[x0, x1, x2, undef, undef, undef, (.int .i64 0), x10, x2, x9, x10, x21, x0, x13, x14, x15, x0, x17, x18, x19, x20, x21, x0, x23, x24, x25, x0, x27, x28, x29, x0, x31, x32, x33, x34, x0, x36, x37, x38, x39, x40, x1, x2, x43, x44, x45, x0, x47, x48, x49, x50, x51, undef], []⟩) (by kernel_rfl) ?_
      refine ls_p (d := some 52) (by kernel_rfl) (by kernel_rfl) (p_off Try.underlying56 rfl (fun w => ⟨_, Try.sizeOf3 w⟩) rfl (by kernel_rfl) H) (fun x52 H => ?_)
      refine ls_d (d := none) (by kernel_rfl) (by kernel_rfl) HA_3 (d_st Try.sizeOf3 (by kernel_rfl) (by kernel_rfl) H) (fun _ h_2 w_4 H HA_4 => ?_)
      refine ls_nil ?_
      refine then_normal ?_
      refine fr_eq (b := ⟨#[x0, x1, x2, undef, undef, undef, (.int .i64 0), x10, x2, x9, x10, x21, x0, x13, x14, x15, x0, x17, x18, x19, x20, x21, x0, x23, x24, x25, x0, x27, x28, x29, x0, x31, x32, x33, x34, x0, x36, x37, x38, x39, x40, x1, x2, x43, x44, x45, x0, x47, x48, x49, x50, x51, x52], []⟩) (by kernel_rfl) ?_
      refine wp_seq ?_
      refine lwp_list ?_
      refine ls_assign (x := (.int .i64 0)) (by kernel_rfl) (by kernel_rfl) ?_
      refine ls_nil ?_
      refine then_normal ?_
      refine fr_eq (b := ⟨#[x0, x1, x2, undef, undef, undef, (.int .i64 0), x10, x2, x9, x10, x21, x0, x13, x14, x15, x0, x17, x18, x19, x20, x21, x0, x23, x24, x25, x0, x27, x28, x29, x0, x31, x32, x33, x34, x0, x36, x37, x38, x39, x40, x1, x2, x43, x44, x45, x0, x47, x48, x49, x50, x51, x52], []⟩) (by kernel_rfl) ?_
      refine wp_ret ?_
      exact end1 (Try.results23) (by kernel_rfl) (by kernel_rfl) HA_4 H _ (.inr rfl)

end Go.Proofs.Ytpgpbhbpamgboaa
