/- The shallow reading of one function, and that the function does it. Written by a program. -/
import Derived.Test.YtpgpbhbpamgboaaFnC
set_option linter.unusedVariables false
namespace Go.Proofs.Ytpgpbhbpamgboaa
open Go Go.HW

def ipc_Ring_Take_S (x0 : Value) (h : Heap) (R : Value → Heap → Prop) : Prop :=
  sNew h #[.int .i64 0, .slice none 0 0] 39 fun x2 h => 
  sNil x0 fun x6 =>
  sOff x6 2 fun x7 =>
  sLd h x7 fun x8 =>
  sEq x8 (.int .i64 0) fun x9 =>
  sIf x9 (sBuild #[.int .i64 0, .slice none 0 0] [] fun x10 =>
  sStN h x2 x10 2 fun h_1 => 
  sLdN h_1 x2 2 fun r2 =>
  R (.tuple #[r2, (.bool false)]) h_1) (∃ C : Heap → Prop, C h ∧ (sNil x0 fun x12 =>
  sOff x12 0 fun x13 =>
  sLdC C x13 fun x14 =>
  sNil x0 fun x16 =>
  sOff x16 1 fun x17 =>
  sLdC C x17 fun x18 =>
  sIxS x14 x18 2 fun x19 =>
  sLdNC C x19 2 fun x20 =>
  sNew h #[.int .i64 0, .slice none 0 0] 39 fun x4 h_2 => C h_2 ∧ (
  sStN h_2 x4 x20 2 fun h_3 => 
  sNil x0 fun x22 =>
  sOff x22 0 fun x23 =>
  sLd h_3 x23 fun x24 =>
  sNil x0 fun x26 =>
  sOff x26 1 fun x27 =>
  sLd h_3 x27 fun x28 =>
  sBuild #[.int .i64 0, .slice none 0 0] [] fun x29 =>
  sIxS x24 x28 2 fun x30 =>
  sStN h_3 x30 x29 2 fun h_4 => 
  sNil x0 fun x33 =>
  sOff x33 1 fun x34 =>
  sLd h_4 x34 fun x35 =>
  sAdd .i64 x35 (.int .i64 1) fun x36 =>
  sNil x0 fun x38 =>
  sOff x38 0 fun x39 =>
  sLd h_4 x39 fun x40 =>
  sLen x40 fun x41 =>
  sRem .i64 x36 x41 fun x42 =>
  sNil x0 fun x43 =>
  sOff x43 1 fun x44 =>
  sSt h_4 x44 x42 fun h_5 => 
  sNil x0 fun x46 =>
  sOff x46 2 fun x47 =>
  sLd h_5 x47 fun x48 =>
  sSub .i64 x48 (.int .i64 1) fun x49 =>
  sNil x0 fun x50 =>
  sOff x50 2 fun x51 =>
  sSt h_5 x51 x49 fun h_6 => 
  sLdN h_6 x4 2 fun x52 =>
  sStN h_6 x2 x52 2 fun h_7 => 
  sLdN h_7 x2 2 fun r2_1 =>
  R (.tuple #[r2_1, (.bool true)]) h_7)))
set_option maxRecDepth 100000 in
theorem ipc_Ring_Take_runs {x0 : Value} {h : Heap} {R : Value → Heap → Prop} (H : ipc_Ring_Take_S x0 h R) : ipc_Ring_Take_c x0 h R := by
  unfold ipc_Ring_Take_S at H
  refine runs_of (b := ⟨#[x0, undef, undef, undef, undef, undef, undef, undef, undef, undef, undef, undef, undef, undef, undef, undef, undef, undef, undef, undef, undef, undef, undef, undef, undef, undef, undef, undef, undef, undef, undef, undef, undef, undef, undef, undef, undef, undef, undef, undef, undef, undef, undef, undef, undef, undef, undef, undef, undef, undef, undef, undef, undef], []⟩) Try.call20 Try.func20 rfl (by kernel_rfl) (fun w0 HA => ?_)
  refine wp_seq ?_
  refine lwp_list ?_
  refine ls_d (d := some 2) (by kernel_rfl) (by kernel_rfl) HA (d_alloc Try.zeroValue39 H) (fun x2 h w H HA => ?_)
  refine ls_assign (x := (.bool false)) (by kernel_rfl) (by kernel_rfl) ?_
  refine ls_nil ?_
  refine then_normal ?_
  refine fr_eq (b := ⟨#[x0, undef, x2, (.bool false), undef, undef, undef, undef, undef, undef, undef, undef, undef, undef, undef, undef, undef, undef, undef, undef, undef, undef, undef, undef, undef, undef, undef, undef, undef, undef, undef, undef, undef, undef, undef, undef, undef, undef, undef, undef, undef, undef, undef, undef, undef, undef, undef, undef, undef, undef, undef, undef, undef], []⟩) (by kernel_rfl) ?_
  refine wp_seq ?_
  refine wp_seq ?_
  refine lwp_list ?_
  refine ls_move (x := x0) (by kernel_rfl) (by kernel_rfl) ?_
  refine ls_p (d := some 6) (by kernel_rfl) (by kernel_rfl) (p_nil (by kernel_rfl) H) (fun x6 H => ?_)
  refine ls_p (d := some 7) (by kernel_rfl) (by kernel_rfl) (p_off Try.underlying56 rfl (fun w => ⟨_, Try.sizeOf3 w⟩) rfl (by kernel_rfl) H) (fun x7 H => ?_)
  refine ls_y (d := some 8) (by kernel_rfl) (by kernel_rfl) HA (y_ld Try.isAgg3 (by kernel_rfl) H) (fun x8 H => ?_)
  refine ls_p (d := some 9) (by kernel_rfl) (by kernel_rfl) (p_sEq (by kernel_rfl) (by kernel_rfl) H) (fun x9 H => ?_)
  refine ls_nil ?_
  refine then_normal ?_
  refine fr_eq (b := ⟨#[x0, undef, x2, (.bool false), undef, x0, x6, x7, x8, x9, undef, undef, undef, undef, undef, undef, undef, undef, undef, undef, undef, undef, undef, undef, undef, undef, undef, undef, undef, undef, undef, undef, undef, undef, undef, undef, undef, undef, undef, undef, undef, undef, undef, undef, undef, undef, undef, undef, undef, undef, undef, undef, undef], []⟩) (by kernel_rfl) ?_
  refine wp_if rfl H (fun H => ?_) (fun H => ?_)
  · refine wp_seq ?_
    refine lwp_list ?_
    refine ls_p (d := some 10) (by kernel_rfl) (by kernel_rfl) (p_lit (pl := [(0, 1), (1, 1)]) Try.zeroValue39 Try.underlying39 ⟨(by kernel_rfl), Try.sizeOf3, (by kernel_rfl), Try.sizeOf37, trivial⟩ (by kernel_rfl) (by kernel_rfl) H) (fun x10 H => ?_)
    refine ls_d (d := none) (by kernel_rfl) (by kernel_rfl) HA (d_stn Try.sizeOf39 (by kernel_rfl) (by kernel_rfl) H) (fun _ h_1 w_1 H HA_1 => ?_)
    refine ls_assign (x := (.bool false)) (by kernel_rfl) (by kernel_rfl) ?_
    refine ls_nil ?_
    refine then_normal ?_
    refine fr_eq (b := ⟨#[x0, undef, x2, (.bool false), undef, x0, x6, x7, x8, x9, x10, undef, undef, undef, undef, undef, undef, undef, undef, undef, undef, undef, undef, undef, undef, undef, undef, undef, undef, undef, undef, undef, undef, undef, undef, undef, undef, undef, undef, undef, undef, undef, undef, undef, undef, undef, undef, undef, undef, undef, undef, undef, undef], []⟩) (by kernel_rfl) ?_
    refine wp_ret ?_
    refine then_ret ?_
    obtain ⟨r2, hr2, H⟩ := ld_n Try.isAgg39 Try.sizeOf39 H
    exact endR (vs := [r2, (.bool false)]) (Try.results20) (by kernel_rfl) ⟨⟨_, (by kernel_rfl), hr2⟩, (by kernel_rfl), trivial⟩ HA_1 H _ (.inr rfl)
  · refine wp_skip ?_
    refine then_normal ?_
    refine fr_eq (b := ⟨#[x0, undef, x2, (.bool false), undef, x0, x6, x7, x8, x9, undef, undef, undef, undef, undef, undef, undef, undef, undef, undef, undef, undef, undef, undef, undef, undef, undef, undef, undef, undef, undef, undef, undef, undef, undef, undef, undef, undef, undef, undef, undef, undef, undef, undef, undef, undef, undef, undef, undef, undef, undef, undef, undef], []⟩) (by kernel_rfl) ?_
    refine wp_seq ?_
    obtain ⟨C, HC, H⟩ := H
    refine lwp_mx (Nat.testBit 3072) (Nat.testBit 1024) (Nat.testBit 375) [0, 1, 3, 7, 0, 16, 48, 112, 255, 511, 0, 2047] C [0, 1, 2, 3, 4, 5, 6, 7, 8, 9, 10, 11] (by kernel_rfl) (by kernel_rfl) (by kernel_rfl) HA HC ?_
    intro w_2 HA_2
    refine lm_al (x := x0) (d := some 11) (by kernel_rfl) rfl (by kernel_rfl) (by kernel_rfl) (al_move (by kernel_rfl)) ?_
    refine lm_p (d := some 12) (by kernel_rfl) rfl (by kernel_rfl) (by kernel_rfl) (p_nil (by kernel_rfl) H) (fun x12 H => ?_)
    refine lm_p (d := some 13) (by kernel_rfl) rfl (by kernel_rfl) (by kernel_rfl) (p_off Try.underlying56 rfl (fun w => ⟨_, Try.sizeOf34 w⟩) rfl (by kernel_rfl) H) (fun x13 H => ?_)
    refine lm_f (d := some 14) (by kernel_rfl) rfl (by kernel_rfl) (by kernel_rfl) (by kernel_rfl) (c_ld Try.isAgg34 (by kernel_rfl) H) (fun x14 H => ?_)
    refine lm_al (x := x0) (d := some 15) (by kernel_rfl) rfl (by kernel_rfl) (by kernel_rfl) (al_move (by kernel_rfl)) ?_
    refine lm_p (d := some 16) (by kernel_rfl) rfl (by kernel_rfl) (by kernel_rfl) (p_nil (by kernel_rfl) H) (fun x16 H => ?_)
    refine lm_fr (b := ⟨#[x0, undef, x2, (.bool false), undef, x0, x6, x7, x8, x9, undef, x0, x12, x13, x14, x0, x16, undef, undef, undef, undef, undef, undef, undef, undef, undef, undef, undef, undef, undef, undef, undef, undef, undef, undef, undef, undef, undef, undef, undef, undef, undef, undef, undef, undef, undef, undef, undef, undef, undef, undef, undef, undef], []⟩) (by kernel_rfl) ?_
    refine lm_p (d := some 17) (by kernel_rfl) rfl (by kernel_rfl) (by kernel_rfl) (p_off Try.underlying56 rfl (fun w => ⟨_, Try.sizeOf3 w⟩) rfl (by kernel_rfl) H) (fun x17 H => ?_)
    refine lm_f (d := some 18) (by kernel_rfl) rfl (by kernel_rfl) (by kernel_rfl) (by kernel_rfl) (c_ld Try.isAgg3 (by kernel_rfl) H) (fun x18 H => ?_)
    refine lm_p (d := some 19) (by kernel_rfl) rfl (by kernel_rfl) (by kernel_rfl) (p_ixs Try.underlying34 Try.sizeOf39 (by kernel_rfl) (by kernel_rfl) H) (fun x19 H => ?_)
    refine lm_f (d := some 20) (by kernel_rfl) rfl (by kernel_rfl) (by kernel_rfl) (by kernel_rfl) (c_ldn Try.isAgg39 Try.sizeOf39 (by kernel_rfl) H) (fun x20 H => ?_)
    refine lm_dc (d := some 4) (by kernel_rfl) rfl (by kernel_rfl) (by kernel_rfl) HA_2 (d_alloc Try.zeroValue39 H) (fun x4 h_2 w_3 H HA_3 => ?_)
    refine lm_d (d := none) (by kernel_rfl) rfl (by kernel_rfl) (by kernel_rfl) (by kernel_rfl) HA_3 (d_stn Try.sizeOf39 (by kernel_rfl) (by kernel_rfl) H) (fun _ h_3 w_4 H HA_4 => ?_)
    refine lm_nil ?_
    refine then_normal ?_
    refine fr_eq (b := ⟨#[x0, undef, x2, (.bool false), x4, x0, x6, x7, x8, x9, undef, x0, x12, x13, x14, x0, x16, x17, x18, x19, x20, undef, undef, undef, undef, undef, undef, undef, undef, undef, undef, undef, undef, undef, undef, undef, undef, undef, undef, undef, undef, undef, undef, undef, undef, undef, undef, undef, undef, undef, undef, undef, undef], []⟩) (by kernel_rfl) ?_
    refine wp_seq ?_
    refine lwp_mx (Nat.testBit 1024) (Nat.testBit 0) (Nat.testBit 887) [0, 1, 3, 7, 0, 16, 48, 112, 0, 511, 1023] (fun h' => h' = h_3) [0, 1, 2, 3, 4, 5, 6, 7, 8, 9, 10] (by kernel_rfl) (by kernel_rfl) (by kernel_rfl) HA_4 rfl ?_
    intro w_5 HA_5
    refine lm_al (x := x0) (d := some 21) (by kernel_rfl) rfl (by kernel_rfl) (by kernel_rfl) (al_move (by kernel_rfl)) ?_
    refine lm_p (d := some 22) (by kernel_rfl) rfl (by kernel_rfl) (by kernel_rfl) (p_nil (by kernel_rfl) H) (fun x22 H => ?_)
    refine lm_p (d := some 23) (by kernel_rfl) rfl (by kernel_rfl) (by kernel_rfl) (p_off Try.underlying56 rfl (fun w => ⟨_, Try.sizeOf34 w⟩) rfl (by kernel_rfl) H) (fun x23 H => ?_)
    refine lm_f (d := some 24) (by kernel_rfl) rfl (by kernel_rfl) (by kernel_rfl) (by kernel_rfl) (of_eq (y_ld Try.isAgg34 (by kernel_rfl) H)) (fun x24 H => ?_)
    refine lm_al (x := x0) (d := some 25) (by kernel_rfl) rfl (by kernel_rfl) (by kernel_rfl) (al_move (by kernel_rfl)) ?_
    refine lm_p (d := some 26) (by kernel_rfl) rfl (by kernel_rfl) (by kernel_rfl) (p_nil (by kernel_rfl) H) (fun x26 H => ?_)
    refine lm_fr (b := ⟨#[x0, undef, x2, (.bool false), x4, x0, x6, x7, x8, x9, undef, x0, x12, x13, x14, x0, x16, x17, x18, x19, x20, x0, x22, x23, x24, x0, x26, undef, undef, undef, undef, undef, undef, undef, undef, undef, undef, undef, undef, undef, undef, undef, undef, undef, undef, undef, undef, undef, undef, undef, undef, undef, undef], []⟩) (by kernel_rfl) ?_
    refine lm_p (d := some 27) (by kernel_rfl) rfl (by kernel_rfl) (by kernel_rfl) (p_off Try.underlying56 rfl (fun w => ⟨_, Try.sizeOf3 w⟩) rfl (by kernel_rfl) H) (fun x27 H => ?_)
    refine lm_f (d := some 28) (by kernel_rfl) rfl (by kernel_rfl) (by kernel_rfl) (by kernel_rfl) (of_eq (y_ld Try.isAgg3 (by kernel_rfl) H)) (fun x28 H => ?_)
    refine lm_p (d := some 29) (by kernel_rfl) rfl (by kernel_rfl) (by kernel_rfl) (p_lit (pl := [(0, 1), (1, 1)]) Try.zeroValue39 Try.underlying39 ⟨(by kernel_rfl), Try.sizeOf3, (by kernel_rfl), Try.sizeOf37, trivial⟩ (by kernel_rfl) (by kernel_rfl) H) (fun x29 H => ?_)
    refine lm_p (d := some 30) (by kernel_rfl) rfl (by kernel_rfl) (by kernel_rfl) (p_ixs Try.underlying34 Try.sizeOf39 (by kernel_rfl) (by kernel_rfl) H) (fun x30 H => ?_)
    refine lm_d (d := none) (by kernel_rfl) rfl (by kernel_rfl) (by kernel_rfl) (by kernel_rfl) HA_5 (d_stn Try.sizeOf39 (by kernel_rfl) (by kernel_rfl) H) (fun _ h_4 w_6 H HA_6 => ?_)
    refine lm_nil ?_
    refine then_normal ?_
    refine fr_eq (b := ⟨#[x0, undef, x2, (.bool false), x4, x0, x6, x7, x8, x9, undef, x0, x12, x13, x14, x0, x16, x17, x18, x19, x20, x0, x22, x23, x24, x0, x26, x27, x28, x29, x30, undef, undef, undef, undef, undef, undef, undef, undef, undef, undef, undef, undef, undef, undef, undef, undef, undef, undef, undef, undef, undef, undef], []⟩) (by kernel_rfl) ?_
    refine wp_seq ?_
    refine lwp_mx (Nat.testBit 16384) (Nat.testBit 0) (Nat.testBit 15855) [0, 0, 2, 6, 14, 30, 0, 64, 192, 448, 960, 2046, 4095, 8191, 16383] (fun h' => h' = h_4) [0, 1, 2, 3, 4, 5, 6, 7, 8, 9, 10, 11, 12, 13, 14] (by kernel_rfl) (by kernel_rfl) (by kernel_rfl) HA_6 rfl ?_
    intro w_7 HA_7
    refine lm_al (x := x0) (d := some 31) (by kernel_rfl) rfl (by kernel_rfl) (by kernel_rfl) (al_move (by kernel_rfl)) ?_
    refine lm_al (x := x0) (d := some 32) (by kernel_rfl) rfl (by kernel_rfl) (by kernel_rfl) (al_move (by kernel_rfl)) ?_
    refine lm_p (d := some 33) (by kernel_rfl) rfl (by kernel_rfl) (by kernel_rfl) (p_nil (by kernel_rfl) H) (fun x33 H => ?_)
    refine lm_p (d := some 34) (by kernel_rfl) rfl (by kernel_rfl) (by kernel_rfl) (p_off Try.underlying56 rfl (fun w => ⟨_, Try.sizeOf3 w⟩) rfl (by kernel_rfl) H) (fun x34 H => ?_)
    refine lm_f (d := some 35) (by kernel_rfl) rfl (by kernel_rfl) (by kernel_rfl) (by kernel_rfl) (of_eq (y_ld Try.isAgg3 (by kernel_rfl) H)) (fun x35 H => ?_)
    refine lm_p (d := some 36) (by kernel_rfl) rfl (by kernel_rfl) (by kernel_rfl) (p_add (by kernel_rfl) (by kernel_rfl) H) (fun x36 H => ?_)
    refine lm_fr (b := ⟨#[x0, undef, x2, (.bool false), x4, x0, x6, x7, x8, x9, undef, x0, x12, x13, x14, x0, x16, x17, x18, x19, x20, x0, x22, x23, x24, x0, x26, x27, x28, x29, x30, x0, x0, x33, x34, x35, x36, undef, undef, undef, undef, undef, undef, undef, undef, undef, undef, undef, undef, undef, undef, undef, undef], []⟩) (by kernel_rfl) ?_
    refine lm_al (x := x0) (d := some 37) (by kernel_rfl) rfl (by kernel_rfl) (by kernel_rfl) (al_move (by kernel_rfl)) ?_
    refine lm_p (d := some 38) (by kernel_rfl) rfl (by kernel_rfl) (by kernel_rfl) (p_nil (by kernel_rfl) H) (fun x38 H => ?_)
    refine lm_p (d := some 39) (by kernel_rfl) rfl (by kernel_rfl) (by kernel_rfl) (p_off Try.underlying56 rfl (fun w => ⟨_, Try.sizeOf34 w⟩) rfl (by kernel_rfl) H) (fun x39 H => ?_)
    refine lm_f (d := some 40) (by kernel_rfl) rfl (by kernel_rfl) (by kernel_rfl) (by kernel_rfl) (of_eq (y_ld Try.isAgg34 (by kernel_rfl) H)) (fun x40 H => ?_)
    refine lm_p (d := some 41) (by kernel_rfl) rfl (by kernel_rfl) (by kernel_rfl) (p_len Try.underlying34 (by kernel_rfl) H) (fun x41 H => ?_)
    refine lm_p (d := some 42) (by kernel_rfl) rfl (by kernel_rfl) (by kernel_rfl) (p_rem (by kernel_rfl) (by kernel_rfl) H) (fun x42 H => ?_)
    refine lm_fr (b := ⟨#[x0, undef, x2, (.bool false), x4, x0, x6, x7, x8, x9, undef, x0, x12, x13, x14, x0, x16, x17, x18, x19, x20, x0, x22, x23, x24, x0, x26, x27, x28, x29, x30, x0, x0, x33, x34, x35, x36, x0, x38, x39, x40, x41, x42, undef, undef, undef, undef, undef, undef, undef, undef, undef, undef], []⟩) (by kernel_rfl) ?_
    refine lm_p (d := some 43) (by kernel_rfl) rfl (by kernel_rfl) (by kernel_rfl) (p_nil (by kernel_rfl) H) (fun x43 H => ?_)
    refine lm_p (d := some 44) (by kernel_rfl) rfl (by kernel_rfl) (by kernel_rfl) (p_off Try.underlying56 rfl (fun w => ⟨_, Try.sizeOf3 w⟩) rfl (by kernel_rfl) H) (fun x44 H => ?_)
    refine lm_d (d := none) (by kernel_rfl) rfl (by kernel_rfl) (by kernel_rfl) (by kernel_rfl) HA_7 (d_st Try.sizeOf3 (by kernel_rfl) (by kernel_rfl) H) (fun _ h_5 w_8 H HA_8 => ?_)
    refine lm_nil ?_
    refine then_normal ?_
    refine fr_eq (b := ⟨#[x0, undef, x2, (.bool false), x4, x0, x6, x7, x8, x9, undef, x0, x12, x13, x14, x0, x16, x17, x18, x19, x20, x0, x22, x23, x24, x0, x26, x27, x28, x29, x30, x0, x0, x33, x34, x35, x36, x0, x38, x39, x40, x41, x42, x43, x44, undef, undef, undef, undef, undef, undef, undef, undef], []⟩) (by kernel_rfl) ?_
    refine wp_seq ?_
    refine lwp_list ?_
    refine ls_move (x := x0) (by kernel_rfl) (by kernel_rfl) ?_
    refine ls_p (d := some 46) (by kernel_rfl) (by kernel_rfl) (p_nil (by kernel_rfl) H) (fun x46 H => ?_)
    refine ls_p (d := some 47) (by kernel_rfl) (by kernel_rfl) (p_off Try.underlying56 rfl (fun w => ⟨_, Try.sizeOf3 w⟩) rfl (by kernel_rfl) H) (fun x47 H => ?_)
    refine ls_y (d := some 48) (by kernel_rfl) (by kernel_rfl) HA_8 (y_ld Try.isAgg3 (by kernel_rfl) H) (fun x48 H => ?_)
    refine ls_p (d := some 49) (by kernel_rfl) (by kernel_rfl) (p_sub (by kernel_rfl) (by kernel_rfl) H) (fun x49 H => ?_)
    refine ls_p (d := some 50) (by kernel_rfl) (by kernel_rfl) (p_nil (by kernel_rfl) H) (fun x50 H => ?_)
    refine ls_fr (b := ⟨#[x0, undef, x2, (.bool false), x4, x0, x6, x7, x8, x9, undef, x0, x12, x13, x14, x0, x16, x17, x18, x19, x20, x0, x22, x23, x24, x0, x26, x27, x28, x29, x30, x0, x0, x33, x34, x35, x36, x0, x38, x39, x40, x41, x42, x43, x44, x0, x46, x47, x48, x49, x50, undef, undef], []⟩) (by kernel_rfl) ?_
    refine ls_p (d := some 51) (by kernel_rfl) (by kernel_rfl) (p_off Try.underlying56 rfl (fun w => ⟨_, Try.sizeOf3 w⟩) rfl (by kernel_rfl) H) (fun x51 H => ?_)
    refine ls_d (d := none) (by kernel_rfl) (by kernel_rfl) HA_8 (d_st Try.sizeOf3 (by kernel_rfl) (by kernel_rfl) H) (fun _ h_6 w_9 H HA_9 => ?_)
    refine ls_nil ?_
    refine then_normal ?_
    refine fr_eq (b := ⟨#[x0, undef, x2, (.bool false), x4, x0, x6, x7, x8, x9, undef, x0, x12, x13, x14, x0, x16, x17, x18, x19, x20, x0, x22, x23, x24, x0, x26, x27, x28, x29, x30, x0, x0, x33, x34, x35, x36, x0, x38, x39, x40, x41, x42, x43, x44, x0, x46, x47, x48, x49, x50, x51, undef], []⟩) (by kernel_rfl) ?_
    refine wp_seq ?_
    refine lwp_list ?_
    refine ls_y (d := some 52) (by kernel_rfl) (by kernel_rfl) HA_9 (y_ldn Try.isAgg39 Try.sizeOf39 (by kernel_rfl) H) (fun x52 H => ?_)
    refine ls_d (d := none) (by kernel_rfl) (by kernel_rfl) HA_9 (d_stn Try.sizeOf39 (by kernel_rfl) (by kernel_rfl) H) (fun _ h_7 w_10 H HA_10 => ?_)
    refine ls_assign (x := (.bool true)) (by kernel_rfl) (by kernel_rfl) ?_
    refine ls_nil ?_
    refine then_normal ?_
    refine fr_eq (b := ⟨#[x0, undef, x2, (.bool true), x4, x0, x6, x7, x8, x9, undef, x0, x12, x13, x14, x0, x16, x17, x18, x19, x20, x0, x22, x23, x24, x0, x26, x27, x28, x29, x30, x0, x0, x33, x34, x35, x36, x0, x38, x39, x40, x41, x42, x43, x44, x0, x46, x47, x48, x49, x50, x51, x52], []⟩) (by kernel_rfl) ?_
    refine wp_ret ?_
    obtain ⟨r2_1, hr2_1, H⟩ := ld_n Try.isAgg39 Try.sizeOf39 H
    exact endR (vs := [r2_1, (.bool true)]) (Try.results20) (by kernel_rfl) ⟨⟨_, (by kernel_rfl), hr2_1⟩, (by kernel_rfl), trivial⟩ HA_10 H _ (.inr rfl)

end Go.Proofs.Ytpgpbhbpamgboaa
