/- Texts in one. -/
import Derived.Test.YtlcklnbgknhhkaaFnC
import Derived.Test.YtlcklnbgknhhkaaPk4
section
/- The shallow reading of one function, and that the function does it. Written by a program. -/
set_option linter.unusedVariables false
namespace Go.Proofs.Ytlcklnbgknhhkaa
open Go Go.HW

def pty_New_S (x0 : Value) (h : Heap) (R : Value → Heap → Prop) : Prop :=
  sBox h x0 28 fun x1 h => 
  sLdN h x1 17 fun x4 =>
  ldisc_New_c x4 h fun x5 h_1 => 
  sEqlNil x5 fun x7 =>
  sIf x7 (R (.pointer none) h_1) (sBuild #[.pointer none, .slice none 0 0, .int .i64 0, .int .i64 0, .int .i64 0, .bool false, .int .u8 0, .bool false, .bool false] [(0, 1, x5), (3, 1, (.int .i64 80)), (4, 1, (.int .i64 24))] fun x9 =>
  sBox h_1 x9 83 fun x10 h_2 => 
  R x10 h_2)
set_option maxRecDepth 100000 in
theorem pty_New_runs {x0 : Value} {h : Heap} {R : Value → Heap → Prop} (H : pty_New_S x0 h R) : pty_New_c x0 h R := by
  unfold pty_New_S at H
  refine runs_of (b := ⟨#[x0, undef, undef, undef, undef, undef, undef, undef, undef, undef, undef], []⟩) Try.call33 Try.func33 rfl (by kernel_rfl) (fun w0 HA => ?_)
  refine wp_seq ?_
  refine lwp_list ?_
  refine ls_d (d := some 1) (by kernel_rfl) (by kernel_rfl) HA (d_box (by kernel_rfl) H) (fun x1 h w H HA => ?_)
  refine ls_assign (x := (.pointer none)) (by kernel_rfl) (by kernel_rfl) ?_
  refine ls_nil ?_
  refine then_normal ?_
  refine fr_eq (b := ⟨#[x0, x1, (.pointer none), undef, undef, undef, undef, undef, undef, undef, undef], []⟩) (by kernel_rfl) ?_
  refine wp_seq ?_
  refine lwp_list ?_
  refine ls_y (d := some 4) (by kernel_rfl) (by kernel_rfl) HA (y_ldn Try.isAgg28 Try.sizeOf28 (by kernel_rfl) H) (fun x4 H => ?_)
  refine ls_d (d := some 5) (by kernel_rfl) (by kernel_rfl) HA (d_call (by kernel_rfl) (by kernel_rfl) H) (fun x5 h_1 w_1 H HA_1 => ?_)
  refine ls_assign (x := x5) (by kernel_rfl) (by kernel_rfl) ?_
  refine ls_nil ?_
  refine then_normal ?_
  refine fr_eq (b := ⟨#[x0, x1, (.pointer none), x5, x4, x5, undef, undef, undef, undef, undef], []⟩) (by kernel_rfl) ?_
  refine wp_seq ?_
  refine wp_seq ?_
  refine lwp_list ?_
  refine ls_move (x := x5) (by kernel_rfl) (by kernel_rfl) ?_
  refine ls_p (d := some 7) (by kernel_rfl) (by kernel_rfl) (p_eqlNil Try.underlying24 (by kernel_rfl) (by kernel_rfl) H) (fun x7 H => ?_)
  refine ls_nil ?_
  refine then_normal ?_
  refine fr_eq (b := ⟨#[x0, x1, (.pointer none), x5, x4, x5, x5, x7, undef, undef, undef], []⟩) (by kernel_rfl) ?_
  refine wp_if rfl H (fun H => ?_) (fun H => ?_)
  · refine wp_seq ?_
    refine lwp_list ?_
    refine ls_assign (x := (.pointer none)) (by kernel_rfl) (by kernel_rfl) ?_
    refine ls_nil ?_
    refine then_normal ?_
    refine fr_eq (b := ⟨#[x0, x1, (.pointer none), x5, x4, x5, x5, x7, undef, undef, undef], []⟩) (by kernel_rfl) ?_
    refine wp_ret ?_
    refine then_ret ?_
    exact end1 (Try.results33) (by kernel_rfl) (by kernel_rfl) HA_1 H _ (.inr rfl)
  · refine wp_skip ?_
    refine then_normal ?_
    refine fr_eq (b := ⟨#[x0, x1, (.pointer none), x5, x4, x5, x5, x7, undef, undef, undef], []⟩) (by kernel_rfl) ?_
    refine wp_seq ?_
    refine lwp_list ?_
    refine ls_move (x := x5) (by kernel_rfl) (by kernel_rfl) ?_
    refine ls_p (d := some 9) (by kernel_rfl) (by kernel_rfl) (p_lit (pl := [(0, 1), (1, 1), (2, 1), (3, 1), (4, 1), (5, 1), (6, 1), (7, 1), (8, 1)]) Try.zeroValue83 Try.underlying83 ⟨(by kernel_rfl), Try.sizeOf24, (by kernel_rfl), Try.sizeOf30, (by kernel_rfl), Try.sizeOf3, (by kernel_rfl), Try.sizeOf3, (by kernel_rfl), Try.sizeOf3, (by kernel_rfl), Try.sizeOf4, (by kernel_rfl), Try.sizeOf5, (by kernel_rfl), Try.sizeOf4, (by kernel_rfl), Try.sizeOf4, trivial⟩ (by kernel_rfl) (by kernel_rfl) H) (fun x9 H => ?_)
    refine ls_d (d := some 10) (by kernel_rfl) (by kernel_rfl) HA_1 (d_box (by kernel_rfl) H) (fun x10 h_2 w_2 H HA_2 => ?_)
    refine ls_assign (x := x10) (by kernel_rfl) (by kernel_rfl) ?_
    refine ls_nil ?_
    refine then_normal ?_
    refine fr_eq (b := ⟨#[x0, x1, x10, x5, x4, x5, x5, x7, x5, x9, x10], []⟩) (by kernel_rfl) ?_
    refine wp_ret ?_
    exact end1 (Try.results33) (by kernel_rfl) (by kernel_rfl) HA_2 H _ (.inr rfl)

end Go.Proofs.Ytlcklnbgknhhkaa

end

section
/- The shallow reading of one function, and that the function does it. Written by a program. -/
set_option linter.unusedVariables false
namespace Go.Proofs.Ytlcklnbgknhhkaa
open Go Go.HW

def pty_Pair_write_S (x0 x1 : Value) (h : Heap) (R : Value → Heap → Prop) : Prop :=
  ∃ C : Heap → Prop, C h ∧ (sNil x0 fun x9 =>
  sOff x9 0 fun x10 =>
  sLd h x10 fun x11 =>
  ldisc_Disc_Setting_c x11 h fun x12 h => C h ∧ (
  sFld x12 1 fun x13 =>
  sNil x0 fun x15 =>
  sOff x15 2 fun x16 =>
  sLdC C x16 fun x17 =>
  opost_Byte_c x13 x17 x1 h fun x19 h_1 => 
  sTup x19 0 fun x20 =>
  sTup x19 1 fun x21 =>
  sNil x0 fun x23 =>
  sOff x23 1 fun x24 =>
  sLd h_1 x24 fun x25 =>
  sLen x25 fun x26 =>
  sLen x20 fun x28 =>
  sAdd .i64 x26 x28 fun x29 =>
  sGt x29 (.int .i64 4096) fun x30 =>
  sIf x30 (R (.bool false) h_1) (sNil x0 fun x33 =>
  sOff x33 1 fun x34 =>
  sLd h_1 x34 fun x35 =>
  sApp h_1 x35 x20 #[.int .u8 0] 5 1 fun x37 h_2 => 
  sNil x0 fun x38 =>
  sOff x38 1 fun x39 =>
  sSt h_2 x39 x37 fun h_3 => 
  sNil x0 fun x42 =>
  sOff x42 2 fun x43 =>
  sSt h_3 x43 x21 fun h_4 => 
  R (.bool true) h_4)))
set_option maxRecDepth 100000 in
theorem pty_Pair_write_runs {x0 x1 : Value} {h : Heap} {R : Value → Heap → Prop} (H : pty_Pair_write_S x0 x1 h R) : pty_Pair_write_c x0 x1 h R := by
  unfold pty_Pair_write_S at H
  refine runs_of (b := ⟨#[x0, x1, undef, undef, undef, undef, undef, undef, undef, undef, undef, undef, undef, undef, undef, undef, undef, undef, undef, undef, undef, undef, undef, undef, undef, undef, undef, undef, undef, undef, undef, undef, undef, undef, undef, undef, undef, undef, undef, undef, undef, undef, undef, undef], []⟩) Try.call57 Try.func57 rfl (by kernel_rfl) (fun w0 HA => ?_)
  refine wp_seq ?_
  refine lwp_list ?_
  refine ls_assign (x := (.bool false)) (by kernel_rfl) (by kernel_rfl) ?_
  refine ls_nil ?_
  refine then_normal ?_
  refine fr_eq (b := ⟨#[x0, x1, undef, undef, (.bool false), undef, undef, undef, undef, undef, undef, undef, undef, undef, undef, undef, undef, undef, undef, undef, undef, undef, undef, undef, undef, undef, undef, undef, undef, undef, undef, undef, undef, undef, undef, undef, undef, undef, undef, undef, undef, undef, undef, undef], []⟩) (by kernel_rfl) ?_
  refine wp_seq ?_
  obtain ⟨C, HC, H⟩ := H
  refine lwp_mx (Nat.testBit 2064) (Nat.testBit 16) (Nat.testBit 128487) [0, 1, 3, 7, 15, 31, 0, 64, 192, 448, 0, 2047, 4095, 8191, 8191, 16383, 65535] (Nat.testBit 8) C [0, 1, 2, 3, 4, 5, 6, 7, 8, 9, 10, 11, 12, 13, 14, 15, 16] (by kernel_rfl) (by kernel_rfl) (by kernel_rfl) (by kernel_rfl) HA HC ?_
  intro w HA
  refine lm_al (x := x0) (d := some 8) (by kernel_rfl) rfl (by kernel_rfl) (by kernel_rfl) (al_move (by kernel_rfl)) ?_
  refine lm_p (d := some 9) (by kernel_rfl) rfl (by kernel_rfl) (by kernel_rfl) (p_nil (by kernel_rfl) H) (fun x9 H => ?_)
  refine lm_p (d := some 10) (by kernel_rfl) rfl (by kernel_rfl) (by kernel_rfl) (p_off Try.underlying83 rfl (fun w => ⟨_, Try.sizeOf24 w⟩) rfl (by kernel_rfl) H) (fun x10 H => ?_)
  refine lm_b (d := some 11) (by kernel_rfl) rfl (by kernel_rfl) (by kernel_rfl) (by kernel_rfl) (by kernel_rfl) (y_ld Try.isAgg24 (by kernel_rfl) H) (fun x11 H => ?_)
  refine lm_dc (d := some 12) (by kernel_rfl) rfl (by kernel_rfl) (by kernel_rfl) (by kernel_rfl) HA (d_call (by kernel_rfl) (by kernel_rfl) H) (fun x12 h w_1 H HA_1 => ?_)
  refine lm_p (d := some 13) (by kernel_rfl) rfl (by kernel_rfl) (by kernel_rfl) (p_fld Try.underlying28 rfl Try.isAgg3 rfl (by kernel_rfl) H) (fun x13 H => ?_)
  refine lm_fr (b := ⟨#[x0, x1, undef, undef, (.bool false), undef, undef, undef, x0, x9, x10, x11, x12, x13, undef, undef, undef, undef, undef, undef, undef, undef, undef, undef, undef, undef, undef, undef, undef, undef, undef, undef, undef, undef, undef, undef, undef, undef, undef, undef, undef, undef, undef, undef], []⟩) (by kernel_rfl) ?_
  refine lm_al (x := x0) (d := some 14) (by kernel_rfl) rfl (by kernel_rfl) (by kernel_rfl) (al_move (by kernel_rfl)) ?_
  refine lm_p (d := some 15) (by kernel_rfl) rfl (by kernel_rfl) (by kernel_rfl) (p_nil (by kernel_rfl) H) (fun x15 H => ?_)
  refine lm_p (d := some 16) (by kernel_rfl) rfl (by kernel_rfl) (by kernel_rfl) (p_off Try.underlying83 rfl (fun w => ⟨_, Try.sizeOf3 w⟩) rfl (by kernel_rfl) H) (fun x16 H => ?_)
  refine lm_f (d := some 17) (by kernel_rfl) rfl (by kernel_rfl) (by kernel_rfl) (by kernel_rfl) (by kernel_rfl) (c_ld Try.isAgg3 (by kernel_rfl) H) (fun x17 H => ?_)
  refine lm_al (x := x1) (d := some 18) (by kernel_rfl) rfl (by kernel_rfl) (by kernel_rfl) (al_move (by kernel_rfl)) ?_
  refine lm_d (d := some 19) (by kernel_rfl) rfl (by kernel_rfl) (by kernel_rfl) (by kernel_rfl) HA_1 (d_call (by kernel_rfl) (by kernel_rfl) H) (fun x19 h_1 w_2 H HA_2 => ?_)
  refine lm_fr (b := ⟨#[x0, x1, undef, undef, (.bool false), undef, undef, undef, x0, x9, x10, x11, x12, x13, x0, x15, x16, x17, x1, x19, undef, undef, undef, undef, undef, undef, undef, undef, undef, undef, undef, undef, undef, undef, undef, undef, undef, undef, undef, undef, undef, undef, undef, undef], []⟩) (by kernel_rfl) ?_
  refine lm_al (x := x19) (d := some 7) (by kernel_rfl) rfl (by kernel_rfl) (by kernel_rfl) (al_move (by kernel_rfl)) ?_
  refine lm_p (d := some 20) (by kernel_rfl) rfl (by kernel_rfl) (by kernel_rfl) (p_tup (by kernel_rfl) H) (fun x20 H => ?_)
  refine lm_p (d := some 21) (by kernel_rfl) rfl (by kernel_rfl) (by kernel_rfl) (p_tup (by kernel_rfl) H) (fun x21 H => ?_)
  refine lm_al (x := x20) (d := some 5) (by kernel_rfl) rfl (by kernel_rfl) (by kernel_rfl) (al_assign (by kernel_rfl)) ?_
  refine lm_al (x := x21) (d := some 6) (by kernel_rfl) rfl (by kernel_rfl) (by kernel_rfl) (al_assign (by kernel_rfl)) ?_
  refine lm_nil ?_
  refine then_normal ?_
  refine fr_eq (b := ⟨#[x0, x1, undef, undef, (.bool false), x20, x21, x19, x0, x9, x10, x11, x12, x13, x0, x15, x16, x17, x1, x19, x20, x21, undef, undef, undef, undef, undef, undef, undef, undef, undef, undef, undef, undef, undef, undef, undef, undef, undef, undef, undef, undef, undef, undef], []⟩) (by kernel_rfl) ?_
  refine wp_seq ?_
  refine wp_seq ?_
  refine lwp_list ?_
  refine ls_move (x := x0) (by kernel_rfl) (by kernel_rfl) ?_
  refine ls_p (d := some 23) (by kernel_rfl) (by kernel_rfl) (p_nil (by kernel_rfl) H) (fun x23 H => ?_)
  refine ls_p (d := some 24) (by kernel_rfl) (by kernel_rfl) (p_off Try.underlying83 rfl (fun w => ⟨_, Try.sizeOf30 w⟩) rfl (by kernel_rfl) H) (fun x24 H => ?_)
  refine ls_y (d := some 25) (by kernel_rfl) (by kernel_rfl) HA_2 (y_ld Try.isAgg30 (by kernel_rfl) H) (fun x25 H => ?_)
  refine ls_p (d := some 26) (by kernel_rfl) (by kernel_rfl) (p_len Try.underlying30 (by kernel_rfl) H) (fun x26 H => ?_)
  refine ls_move (x := x20) (by kernel_rfl) (by kernel_rfl) ?_
  refine ls_fr (b := ⟨#[x0, x1, undef, undef, (.bool false), x20, x21, x19, x0, x9, x10, x11, x12, x13, x0, x15, x16, x17, x1, x19, x20, x21, x0, x23, x24, x25, x26, x20, undef, undef, undef, undef, undef, undef, undef, undef, undef, undef, undef, undef, undef, undef, undef, undef], []⟩) (by kernel_rfl) ?_
  refine ls_p (d := some 28) (by kernel_rfl) (by kernel_rfl) (p_len Try.underlying30 (by kernel_rfl) H) (fun x28 H => ?_)
  refine ls_p (d := some 29) (by kernel_rfl) (by kernel_rfl) (p_add (by kernel_rfl) (by kernel_rfl) H) (fun x29 H => ?_)
  refine ls_p (d := some 30) (by kernel_rfl) (by kernel_rfl) (p_sGt (by kernel_rfl) (by kernel_rfl) H) (fun x30 H => ?_)
  refine ls_nil ?_
  refine then_normal ?_
  refine fr_eq (b := ⟨#[x0, x1, undef, undef, (.bool false), x20, x21, x19, x0, x9, x10, x11, x12, x13, x0, x15, x16, x17, x1, x19, x20, x21, x0, x23, x24, x25, x26, x20, x28, x29, x30, undef, undef, undef, undef, undef, undef, undef, undef, undef, undef, undef, undef, undef], []⟩) (by kernel_rfl) ?_
  refine wp_if rfl H (fun H => ?_) (fun H => ?_)
  · refine wp_seq ?_
    refine lwp_list ?_
    refine ls_assign (x := (.bool false)) (by kernel_rfl) (by kernel_rfl) ?_
    refine ls_nil ?_
    refine then_normal ?_
    refine fr_eq (b := ⟨#[x0, x1, undef, undef, (.bool false), x20, x21, x19, x0, x9, x10, x11, x12, x13, x0, x15, x16, x17, x1, x19, x20, x21, x0, x23, x24, x25, x26, x20, x28, x29, x30, undef, undef, undef, undef, undef, undef, undef, undef, undef, undef, undef, undef, undef], []⟩) (by kernel_rfl) ?_
    refine wp_ret ?_
    refine then_ret ?_
    exact end1 (Try.results57) (by kernel_rfl) (by kernel_rfl) HA_2 H _ (.inr rfl)
  · refine wp_skip ?_
    refine then_normal ?_
    refine fr_eq (b := ⟨#[x0, x1, undef, undef, (.bool false), x20, x21, x19, x0, x9, x10, x11, x12, x13, x0, x15, x16, x17, x1, x19, x20, x21, x0, x23, x24, x25, x26, x20, x28, x29, x30, undef, undef, undef, undef, undef, undef, undef, undef, undef, undef, undef, undef, undef], []⟩) (by kernel_rfl) ?_
    refine wp_seq ?_
    refine lwp_list ?_
    refine ls_move (x := x0) (by kernel_rfl) (by kernel_rfl) ?_
    refine ls_move (x := x0) (by kernel_rfl) (by kernel_rfl) ?_
    refine ls_p (d := some 33) (by kernel_rfl) (by kernel_rfl) (p_nil (by kernel_rfl) H) (fun x33 H => ?_)
    refine ls_p (d := some 34) (by kernel_rfl) (by kernel_rfl) (p_off Try.underlying83 rfl (fun w => ⟨_, Try.sizeOf30 w⟩) rfl (by kernel_rfl) H) (fun x34 H => ?_)
    refine ls_y (d := some 35) (by kernel_rfl) (by kernel_rfl) HA_2 (y_ld Try.isAgg30 (by kernel_rfl) H) (fun x35 H => ?_)
    refine ls_move (x := x20) (by kernel_rfl) (by kernel_rfl) ?_
    refine ls_fr (b := ⟨#[x0, x1, undef, undef, (.bool false), x20, x21, x19, x0, x9, x10, x11, x12, x13, x0, x15, x16, x17, x1, x19, x20, x21, x0, x23, x24, x25, x26, x20, x28, x29, x30, x0, x0, x33, x34, x35, x20, undef, undef, undef, undef, undef, undef, undef], []⟩) (by kernel_rfl) ?_
    refine ls_d (d := some 37) (by kernel_rfl) (by kernel_rfl) HA_2 (d_app (z := #[.int .u8 0]) Try.underlying30 Try.underlying30 (.inl ⟨_, rfl⟩) Try.typeInfo5 (by kernel_rfl) Try.sizeOf5 Try.zeroValue5 (by kernel_rfl) (by kernel_rfl) (by kernel_rfl) H) (fun x37 h_2 w_3 H HA_3 => ?_)
    refine ls_p (d := some 38) (by kernel_rfl) (by kernel_rfl) (p_nil (by kernel_rfl) H) (fun x38 H => ?_)
    refine ls_p (d := some 39) (by kernel_rfl) (by kernel_rfl) (p_off Try.underlying83 rfl (fun w => ⟨_, Try.sizeOf30 w⟩) rfl (by kernel_rfl) H) (fun x39 H => ?_)
    refine ls_d (d := none) (by kernel_rfl) (by kernel_rfl) HA_3 (d_st Try.sizeOf30 (by kernel_rfl) (by kernel_rfl) H) (fun _ h_3 w_4 H HA_4 => ?_)
    refine ls_nil ?_
    refine then_normal ?_
    refine fr_eq (b := ⟨#[x0, x1, undef, undef, (.bool false), x20, x21, x19, x0, x9, x10, x11, x12, x13, x0, x15, x16, x17, x1, x19, x20, x21, x0, x23, x24, x25, x26, x20, x28, x29, x30, x0, x0, x33, x34, x35, x20, x37, x38, x39, undef, undef, undef, undef], []⟩) (by kernel_rfl) ?_
    refine wp_seq ?_
    refine lwp_list ?_
    refine ls_move (x := x0) (by kernel_rfl) (by kernel_rfl) ?_
    refine ls_move (x := x21) (by kernel_rfl) (by kernel_rfl) ?_
    refine ls_p (d := some 42) (by kernel_rfl) (by kernel_rfl) (p_nil (by kernel_rfl) H) (fun x42 H => ?_)
    refine ls_p (d := some 43) (by kernel_rfl) (by kernel_rfl) (p_off Try.underlying83 rfl (fun w => ⟨_, Try.sizeOf3 w⟩) rfl (by kernel_rfl) H) (fun x43 H => ?_)
    refine ls_d (d := none) (by kernel_rfl) (by kernel_rfl) HA_4 (d_st Try.sizeOf3 (by kernel_rfl) (by kernel_rfl) H) (fun _ h_4 w_5 H HA_5 => ?_)
    refine ls_nil ?_
    refine then_normal ?_
    refine fr_eq (b := ⟨#[x0, x1, undef, undef, (.bool false), x20, x21, x19, x0, x9, x10, x11, x12, x13, x0, x15, x16, x17, x1, x19, x20, x21, x0, x23, x24, x25, x26, x20, x28, x29, x30, x0, x0, x33, x34, x35, x20, x37, x38, x39, x0, x21, x42, x43], []⟩) (by kernel_rfl) ?_
    refine wp_seq ?_
    refine lwp_list ?_
    refine ls_assign (x := (.bool true)) (by kernel_rfl) (by kernel_rfl) ?_
    refine ls_nil ?_
    refine then_normal ?_
    refine fr_eq (b := ⟨#[x0, x1, undef, undef, (.bool true), x20, x21, x19, x0, x9, x10, x11, x12, x13, x0, x15, x16, x17, x1, x19, x20, x21, x0, x23, x24, x25, x26, x20, x28, x29, x30, x0, x0, x33, x34, x35, x20, x37, x38, x39, x0, x21, x42, x43], []⟩) (by kernel_rfl) ?_
    refine wp_ret ?_
    exact end1 (Try.results57) (by kernel_rfl) (by kernel_rfl) HA_5 H _ (.inr rfl)

end Go.Proofs.Ytlcklnbgknhhkaa

end

section
/- The shallow reading of one function, and that the function does it. Written by a program. -/
set_option linter.unusedVariables false
namespace Go.Proofs.Ytlcklnbgknhhkaa
open Go Go.HW

def pty_Pair_flag_S (x0 x1 x2 : Value) (h : Heap) (R : Value → Heap → Prop) : Prop :=
  sNil x0 fun x7 =>
  sOff x7 5 fun x8 =>
  sLd h x8 fun x9 =>
  sAnd x9 (fun k =>
  k x1) fun x12 =>
  sIf x12 (sNil x0 fun x14 =>
  sOff x14 6 fun x15 =>
  sLd h x15 fun x16 =>
  sBits .or .u8 x16 x2 fun x18 =>
  sNil x0 fun x19 =>
  sOff x19 6 fun x20 =>
  sSt h x20 x18 fun h => 
  R unit h) (R unit h)
set_option maxRecDepth 100000 in
theorem pty_Pair_flag_runs {x0 x1 x2 : Value} {h : Heap} {R : Value → Heap → Prop} (H : pty_Pair_flag_S x0 x1 x2 h R) : pty_Pair_flag_c x0 x1 x2 h R := by
  unfold pty_Pair_flag_S at H
  refine runs_of (b := ⟨#[x0, x1, x2, undef, undef, undef, undef, undef, undef, undef, undef, undef, undef, undef, undef, undef, undef, undef, undef, undef, undef], []⟩) Try.call58 Try.func58 rfl (by kernel_rfl) (fun w0 HA => ?_)
  refine wp_seq ?_
  refine lwp_list ?_
  refine ls_move (x := x0) (by kernel_rfl) (by kernel_rfl) ?_
  refine ls_p (d := some 7) (by kernel_rfl) (by kernel_rfl) (p_nil (by kernel_rfl) H) (fun x7 H => ?_)
  refine ls_p (d := some 8) (by kernel_rfl) (by kernel_rfl) (p_off Try.underlying83 rfl (fun w => ⟨_, Try.sizeOf4 w⟩) rfl (by kernel_rfl) H) (fun x8 H => ?_)
  refine ls_y (d := some 9) (by kernel_rfl) (by kernel_rfl) HA (y_ld Try.isAgg4 (by kernel_rfl) H) (fun x9 H => ?_)
  refine ls_move (x := x9) (by kernel_rfl) (by kernel_rfl) ?_
  refine ls_and [(), ()] (fun K a w => ∃ (D : Nat → Value) (x12 : Value), a = ⟨#[x0, x1, x2, undef, undef, undef, x0, x7, x8, x9, x9, (D 0), x12, undef, undef, undef, undef, undef, undef, undef, undef], []⟩ ∧ At w0 w h ∧ K x12) H (fun hb H => ?_) (fun hb H => ?_) ?_
  · refine ls_move (x := x1) (by rw [hb]; kernel_rfl) (by kernel_rfl) ?_
    refine ls_fr (b := ⟨#[x0, x1, x2, undef, undef, undef, x0, x7, x8, x9, x9, x1, undef, undef, undef, undef, undef, undef, undef, undef, undef], []⟩) (by kernel_rfl) ?_
    refine ls_pick_t (x := x1) (by kernel_rfl) (by rw [hb]; kernel_rfl) (by kernel_rfl) ?_
    refine ls_nil ?_
    refine then_normal ?_
    exact ⟨(fun i => ([x1]).getD i undef), x1, by kernel_rfl, HA, H⟩
  · refine ls_skip (d := some 11) (by kernel_rfl) (by rw [hb]; kernel_rfl) ?_
    refine ls_fr (b := ⟨#[x0, x1, x2, undef, undef, undef, x0, x7, x8, x9, x9, undef, undef, undef, undef, undef, undef, undef, undef, undef, undef], []⟩) (by kernel_rfl) ?_
    refine ls_pick_f (y := (.bool false)) (by kernel_rfl) (by rw [hb]; kernel_rfl) (by kernel_rfl) ?_
    refine ls_nil ?_
    refine then_normal ?_
    exact ⟨(fun i => ([undef]).getD i undef), (.bool false), by kernel_rfl, HA, H⟩
  · rintro _ w ⟨D, x12, rfl, HA, H⟩
    refine ls_nil ?_
    refine then_normal ?_
    refine fr_eq (b := ⟨#[x0, x1, x2, undef, undef, undef, x0, x7, x8, x9, x9, (D 0), x12, undef, undef, undef, undef, undef, undef, undef, undef], []⟩) (by kernel_rfl) ?_
    refine wp_if rfl H (fun H => ?_) (fun H => ?_)
    · refine lwp_list ?_
      refine ls_move (x := x0) (by kernel_rfl) (by kernel_rfl) ?_
      refine ls_p (d := some 14) (by kernel_rfl) (by kernel_rfl) (p_nil (by kernel_rfl) H) (fun x14 H => ?_)
      refine ls_p (d := some 15) (by kernel_rfl) (by kernel_rfl) (p_off Try.underlying83 rfl (fun w => ⟨_, Try.sizeOf5 w⟩) rfl (by kernel_rfl) H) (fun x15 H => ?_)
      refine ls_y (d := some 16) (by kernel_rfl) (by kernel_rfl) HA (y_ld Try.isAgg5 (by kernel_rfl) H) (fun x16 H => ?_)
      refine ls_move (x := x2) (by kernel_rfl) (by kernel_rfl) ?_
      refine ls_p (d := some 18) (by kernel_rfl) (by kernel_rfl) (p_bits (by decide) (by kernel_rfl) (by kernel_rfl) H) (fun x18 H => ?_)
      refine ls_fr (b := ⟨#[x0, x1, x2, undef, undef, undef, x0, x7, x8, x9, x9, (D 0), x12, x0, x14, x15, x16, x2, x18, undef, undef], []⟩) (by kernel_rfl) ?_
      refine ls_p (d := some 19) (by kernel_rfl) (by kernel_rfl) (p_nil (by kernel_rfl) H) (fun x19 H => ?_)
      refine ls_p (d := some 20) (by kernel_rfl) (by kernel_rfl) (p_off Try.underlying83 rfl (fun w => ⟨_, Try.sizeOf5 w⟩) rfl (by kernel_rfl) H) (fun x20 H => ?_)
      refine ls_d (d := none) (by kernel_rfl) (by kernel_rfl) HA (d_st Try.sizeOf5 (by kernel_rfl) (by kernel_rfl) H) (fun _ h w_1 H HA_1 => ?_)
      refine ls_nil ?_
      exact end0 (Try.results58) (by kernel_rfl) HA_1 H _ (.inl rfl)
    · refine wp_skip ?_
      exact end0 (Try.results58) (by kernel_rfl) HA H _ (.inl rfl)

end Go.Proofs.Ytlcklnbgknhhkaa

end

section
/- The shallow reading of one function, and that the function does it. Written by a program. -/
set_option linter.unusedVariables false
namespace Go.Proofs.Ytlcklnbgknhhkaa
open Go Go.HW

def pty_Pair_MasterWrite_j2 (next : Value → Value → Heap → Prop) (x26 x5_1 : Value) (h_1 : Heap) : Prop :=
  sAdd .i64 x26 (.int .i64 1) fun x92 =>
  next x5_1 x92 h_1
def pty_Pair_MasterWrite_l3 (next : Value → Value → Heap → Prop) (x0 x5 x34 x42 x43 x26 x45 : Value) (next1 : Value → Heap → Prop) (x46 : Value) (h_4 : Heap) : Prop :=
  sLt x46 x45 fun x47 =>
  sIf x47 (sIxS x42 x46 1 fun x48 =>
  sLd h_4 x48 fun x49 =>
  pty_Pair_write_c x0 x49 h_4 fun x52 h_5 => 
  sAdd .i64 x46 (.int .i64 1) fun x53 =>
  next1 x53 h_5) (sNot x34 fun x56 =>
  sAndH x56 h_4 (fun k_1 =>
  sNil x0 fun x59 =>
  sOff x59 0 fun x60 =>
  sLd h_4 x60 fun x61 =>
  ldisc_Disc_Stopped_c x61 h_4 fun x62 h_15 => 
  k_1 x62 h_15) fun x63 h_6 =>
  pty_Pair_flag_c x0 x63 (.int .u8 4) h_6 fun x64 h_7 => 
  sAndH x34 h_7 (fun k =>
  sNil x0 fun x69 =>
  sOff x69 0 fun x70 =>
  sLd h_7 x70 fun x71 =>
  ldisc_Disc_Stopped_c x71 h_7 fun x72 h_14 => 
  sNot x72 fun x73 =>
  k x73 h_14) fun x74 h_8 =>
  pty_Pair_flag_c x0 x74 (.int .u8 8) h_8 fun x75 h_9 => 
  sNe x43 (.int .i64 0) fun x77 =>
  sIf x77 (sSlit h_9 #[.int .i64 0] [(0, 1, x43)] 3 1 fun x80 h_10 => 
  sApp h_10 x5 x80 #[.int .i64 0] 3 8 fun x81 h_11 => 
  sNil x0 fun x84 =>
  sOff x84 0 fun x85 =>
  sLd h_11 x85 fun x86 =>
  ldisc_Disc_Setting_c x86 h_11 fun x87 h_12 => 
  sFld x87 2 fun x88 =>
  sBits .and .i64 x88 (.int .i64 128) fun x89 =>
  sEq x89 (.int .i64 0) fun x90 =>
  pty_Pair_flag_c x0 x90 (.int .u8 1) h_12 fun x91 h_13 => 
  pty_Pair_MasterWrite_j2 next x26 x81 h_13) (pty_Pair_MasterWrite_j2 next x26 x5 h_9))
def pty_Pair_MasterWrite_l1 (R : Value → Heap → Prop) (x0 x1 x25 : Value) (next : Value → Value → Heap → Prop) (x5 x26 : Value) (h : Heap) : Prop :=
  sLt x26 x25 fun x27 =>
  sIf x27 (sIxS x1 x26 1 fun x28 =>
  sLd h x28 fun x29 =>
  sNil x0 fun x31 =>
  sOff x31 0 fun x32 =>
  sLd h x32 fun x33 =>
  ldisc_Disc_Stopped_c x33 h fun x34 h_2 => 
  sNil x0 fun x37 =>
  sOff x37 0 fun x38 =>
  sLd h_2 x38 fun x39 =>
  ldisc_Disc_Input_c x39 x29 h_2 fun x41 h_3 => 
  sTup x41 0 fun x42 =>
  sTup x41 1 fun x43 =>
  sLen x42 fun x45 =>
  sLoop (S := Value) (fun nxt s h => pty_Pair_MasterWrite_l3 next x0 x5 x34 x42 x43 x26 x45 (fun x46' h => nxt x46' h) s h) (.int .i64 0) h_3) (sLen x1 fun x94 =>
  R (.tuple #[x94, x5, (.int .i64 0)]) h)
def pty_Pair_MasterWrite_S (x0 x1 : Value) (h : Heap) (R : Value → Heap → Prop) : Prop :=
  sNil x0 fun x16 =>
  sOff x16 7 fun x17 =>
  sLd h x17 fun x18 =>
  sIf x18 (R (.tuple #[(.int .i64 0), (.slice none 0 0), (.int .i64 16)]) h) (sNil x0 fun x21 =>
  sOff x21 8 fun x22 =>
  sLd h x22 fun x23 =>
  sIf x23 (R (.tuple #[(.int .i64 0), (.slice none 0 0), (.int .i64 13)]) h) (sLen x1 fun x25 =>
  sLoop (S := Value × Value) (fun nxt s h => pty_Pair_MasterWrite_l1 R x0 x1 x25 (fun x5' x26' h => nxt (x5', x26') h) s.1 s.2 h) ((.slice none 0 0), (.int .i64 0)) h))
set_option maxRecDepth 100000 in
theorem pty_Pair_MasterWrite_runs {x0 x1 : Value} {h : Heap} {R : Value → Heap → Prop} (H : pty_Pair_MasterWrite_S x0 x1 h R) : pty_Pair_MasterWrite_c x0 x1 h R := by
  unfold pty_Pair_MasterWrite_S at H
  refine runs_of (b := ⟨([x0, x1, undef, undef, undef, undef, undef, undef, undef, undef, undef, undef, undef, undef, undef, undef, undef, undef, undef, undef, undef, undef, undef, undef, undef, undef, undef, undef, undef, undef, undef, undef, undef, undef, undef, undef, undef, undef, undef, undef, undef, undef, undef, undef, undef, undef, undef, undef, undef, undef] ++ [undef, undef, undef, undef, undef, undef, undef, undef, undef, undef, undef, undef, undef, undef, undef, undef, undef, undef, undef, undef, undef, undef, undef, undef, undef, undef, undef, undef, undef, undef, undef, undef, undef, undef, undef, undef, undef, undef, undef, undef, undef, undef, undef, undef, undef, undef]).toArray, []⟩) Try.call34 Try.func34 rfl (by kernel_rfl) (fun w0 HA => ?_)
  refine wp_seq ?_
  refine lwp_list ?_
  refine ls_assign (x := (.int .i64 0)) (by kernel_rfl) (by kernel_rfl) ?_
  refine ls_assign (x := (.slice none 0 0)) (by kernel_rfl) (by kernel_rfl) ?_
  refine ls_assign (x := (.int .i64 0)) (by kernel_rfl) (by kernel_rfl) ?_
  refine ls_nil ?_
  refine then_normal ?_
  refine fr_eq (b := ⟨([x0, x1, undef, undef, (.int .i64 0), (.slice none 0 0), (.int .i64 0), undef, undef, undef, undef, undef, undef, undef, undef, undef, undef, undef, undef, undef, undef, undef, undef, undef, undef, undef, undef, undef, undef, undef, undef, undef, undef, undef, undef, undef, undef, undef, undef, undef, undef, undef, undef, undef, undef, undef, undef, undef, undef, undef] ++ [undef, undef, undef, undef, undef, undef, undef, undef, undef, undef, undef, undef, undef, undef, undef, undef, undef, undef, undef, undef, undef, undef, undef, undef, undef, undef, undef, undef, undef, undef, undef, undef, undef, undef, undef, undef, undef, undef, undef, undef, undef, undef, undef, undef, undef, undef]).toArray, []⟩) (by kernel_rfl) ?_
  refine wp_seq ?_
  refine wp_block ?_
  refine wp_seq ?_
  refine lwp_list ?_
  refine ls_move (x := x0) (by kernel_rfl) (by kernel_rfl) ?_
  refine ls_p (d := some 16) (by kernel_rfl) (by kernel_rfl) (p_nil (by kernel_rfl) H) (fun x16 H => ?_)
  refine ls_p (d := some 17) (by kernel_rfl) (by kernel_rfl) (p_off Try.underlying83 rfl (fun w => ⟨_, Try.sizeOf4 w⟩) rfl (by kernel_rfl) H) (fun x17 H => ?_)
  refine ls_y (d := some 18) (by kernel_rfl) (by kernel_rfl) HA (y_ld Try.isAgg4 (by kernel_rfl) H) (fun x18 H => ?_)
  refine ls_assign (x := x18) (by kernel_rfl) (by kernel_rfl) ?_
  refine ls_nil ?_
  refine then_normal ?_
  refine fr_eq (b := ⟨([x0, x1, undef, undef, (.int .i64 0), (.slice none 0 0), (.int .i64 0), undef, undef, undef, undef, undef, undef, undef, x18, x0, x16, x17, x18, undef, undef, undef, undef, undef, undef, undef, undef, undef, undef, undef, undef, undef, undef, undef, undef, undef, undef, undef, undef, undef, undef, undef, undef, undef, undef, undef, undef, undef, undef, undef] ++ [undef, undef, undef, undef, undef, undef, undef, undef, undef, undef, undef, undef, undef, undef, undef, undef, undef, undef, undef, undef, undef, undef, undef, undef, undef, undef, undef, undef, undef, undef, undef, undef, undef, undef, undef, undef, undef, undef, undef, undef, undef, undef, undef, undef, undef, undef]).toArray, []⟩) (by kernel_rfl) ?_
  refine wp_if rfl H (fun H => ?_) (fun H => ?_)
  · refine wp_seq ?_
    refine lwp_list ?_
    refine ls_assign (x := (.int .i64 0)) (by kernel_rfl) (by kernel_rfl) ?_
    refine ls_assign (x := (.slice none 0 0)) (by kernel_rfl) (by kernel_rfl) ?_
    refine ls_assign (x := (.int .i64 16)) (by kernel_rfl) (by kernel_rfl) ?_
    refine ls_nil ?_
    refine then_normal ?_
    refine fr_eq (b := ⟨([x0, x1, undef, undef, (.int .i64 0), (.slice none 0 0), (.int .i64 16), undef, undef, undef, undef, undef, undef, undef, x18, x0, x16, x17, x18, undef, undef, undef, undef, undef, undef, undef, undef, undef, undef, undef, undef, undef, undef, undef, undef, undef, undef, undef, undef, undef, undef, undef, undef, undef, undef, undef, undef, undef, undef, undef] ++ [undef, undef, undef, undef, undef, undef, undef, undef, undef, undef, undef, undef, undef, undef, undef, undef, undef, undef, undef, undef, undef, undef, undef, undef, undef, undef, undef, undef, undef, undef, undef, undef, undef, undef, undef, undef, undef, undef, undef, undef, undef, undef, undef, undef, undef, undef]).toArray, []⟩) (by kernel_rfl) ?_
    refine wp_ret ?_
    refine block_ret ?_
    refine then_ret ?_
    exact end3 (Try.results34) (by kernel_rfl) (by kernel_rfl) (by kernel_rfl) (by kernel_rfl) HA H _ (.inr rfl)
  · refine wp_seq ?_
    refine lwp_list ?_
    refine ls_move (x := x0) (by kernel_rfl) (by kernel_rfl) ?_
    refine ls_p (d := some 21) (by kernel_rfl) (by kernel_rfl) (p_nil (by kernel_rfl) H) (fun x21 H => ?_)
    refine ls_p (d := some 22) (by kernel_rfl) (by kernel_rfl) (p_off Try.underlying83 rfl (fun w => ⟨_, Try.sizeOf4 w⟩) rfl (by kernel_rfl) H) (fun x22 H => ?_)
    refine ls_y (d := some 23) (by kernel_rfl) (by kernel_rfl) HA (y_ld Try.isAgg4 (by kernel_rfl) H) (fun x23 H => ?_)
    refine ls_assign (x := x23) (by kernel_rfl) (by kernel_rfl) ?_
    refine ls_nil ?_
    refine then_normal ?_
    refine fr_eq (b := ⟨([x0, x1, undef, undef, (.int .i64 0), (.slice none 0 0), (.int .i64 0), undef, undef, undef, undef, undef, undef, undef, x18, x0, x16, x17, x18, x23, x0, x21, x22, x23, undef, undef, undef, undef, undef, undef, undef, undef, undef, undef, undef, undef, undef, undef, undef, undef, undef, undef, undef, undef, undef, undef, undef, undef, undef, undef] ++ [undef, undef, undef, undef, undef, undef, undef, undef, undef, undef, undef, undef, undef, undef, undef, undef, undef, undef, undef, undef, undef, undef, undef, undef, undef, undef, undef, undef, undef, undef, undef, undef, undef, undef, undef, undef, undef, undef, undef, undef, undef, undef, undef, undef, undef, undef]).toArray, []⟩) (by kernel_rfl) ?_
    refine wp_if rfl H (fun H => ?_) (fun H => ?_)
    · refine wp_seq ?_
      refine lwp_list ?_
      refine ls_assign (x := (.int .i64 0)) (by kernel_rfl) (by kernel_rfl) ?_
      refine ls_assign (x := (.slice none 0 0)) (by kernel_rfl) (by kernel_rfl) ?_
      refine ls_assign (x := (.int .i64 13)) (by kernel_rfl) (by kernel_rfl) ?_
      refine ls_nil ?_
      refine then_normal ?_
      refine fr_eq (b := ⟨([x0, x1, undef, undef, (.int .i64 0), (.slice none 0 0), (.int .i64 13), undef, undef, undef, undef, undef, undef, undef, x18, x0, x16, x17, x18, x23, x0, x21, x22, x23, undef, undef, undef, undef, undef, undef, undef, undef, undef, undef, undef, undef, undef, undef, undef, undef, undef, undef, undef, undef, undef, undef, undef, undef, undef, undef] ++ [undef, undef, undef, undef, undef, undef, undef, undef, undef, undef, undef, undef, undef, undef, undef, undef, undef, undef, undef, undef, undef, undef, undef, undef, undef, undef, undef, undef, undef, undef, undef, undef, undef, undef, undef, undef, undef, undef, undef, undef, undef, undef, undef, undef, undef, undef]).toArray, []⟩) (by kernel_rfl) ?_
      refine wp_ret ?_
      refine block_ret ?_
      refine then_ret ?_
      exact end3 (Try.results34) (by kernel_rfl) (by kernel_rfl) (by kernel_rfl) (by kernel_rfl) HA H _ (.inr rfl)
    · refine wp_skip ?_
      refine block_normal ?_
      refine then_normal ?_
      refine fr_eq (b := ⟨([x0, x1, undef, undef, (.int .i64 0), (.slice none 0 0), (.int .i64 0), undef, undef, undef, undef, undef, undef, undef, x18, x0, x16, x17, x18, x23, x0, x21, x22, x23, undef, undef, undef, undef, undef, undef, undef, undef, undef, undef, undef, undef, undef, undef, undef, undef, undef, undef, undef, undef, undef, undef, undef, undef, undef, undef] ++ [undef, undef, undef, undef, undef, undef, undef, undef, undef, undef, undef, undef, undef, undef, undef, undef, undef, undef, undef, undef, undef, undef, undef, undef, undef, undef, undef, undef, undef, undef, undef, undef, undef, undef, undef, undef, undef, undef, undef, undef, undef, undef, undef, undef, undef, undef]).toArray, []⟩) (by kernel_rfl) ?_
      refine wp_seq ?_
      refine wp_seq ?_
      refine lwp_list ?_
      refine ls_move (x := x1) (by kernel_rfl) (by kernel_rfl) ?_
      refine ls_p (d := some 25) (by kernel_rfl) (by kernel_rfl) (p_len Try.underlying30 (by kernel_rfl) H) (fun x25 H => ?_)
      refine ls_move (x := (.int .i64 0)) (by kernel_rfl) (by kernel_rfl) ?_
      refine ls_nil ?_
      refine then_normal ?_
      refine fr_eq (b := ⟨([x0, x1, undef, undef, (.int .i64 0), (.slice none 0 0), (.int .i64 0), undef, undef, undef, undef, undef, undef, undef, x18, x0, x16, x17, x18, x23, x0, x21, x22, x23, x1, x25, (.int .i64 0), undef, undef, undef, undef, undef, undef, undef, undef, undef, undef, undef, undef, undef, undef, undef, undef, undef, undef, undef, undef, undef, undef, undef] ++ [undef, undef, undef, undef, undef, undef, undef, undef, undef, undef, undef, undef, undef, undef, undef, undef, undef, undef, undef, undef, undef, undef, undef, undef, undef, undef, undef, undef, undef, undef, undef, undef, undef, undef, undef, undef, undef, undef, undef, undef, undef, undef, undef, undef, undef, undef]).toArray, []⟩) (by kernel_rfl) ?_
      refine wp_block ?_
      obtain ⟨I, m, H0, HB⟩ := H
      refine wp_loop (fun a w => ∃ (D : Nat → Value) (x5 x26 : Value) (h : Heap), a = ⟨([x0, x1, undef, undef, (.int .i64 0), x5, (.int .i64 0), undef, (D 0), (D 1), (D 2), (D 3), undef, (D 4), x18, x0, x16, x17, x18, x23, x0, x21, x22, x23, x1, x25, x26, (D 5), (D 6), (D 7), (D 8), (D 9), (D 10), (D 11), (D 12), (D 13), (D 14), (D 15), (D 16), (D 17), (D 18), (D 19), (D 20), (D 21), (D 22), (D 23), (D 24), (D 25), (D 26), (D 27)] ++ [(D 28), (D 29), (D 30), (D 31), (D 32), (D 33), (D 34), (D 35), (D 36), (D 37), (D 38), (D 39), (D 40), (D 41), (D 42), (D 43), (D 44), (D 45), (D 46), (D 47), (D 48), (D 49), (D 50), (D 51), (D 52), (D 53), (D 54), (D 55), (D 56), (D 57), (D 58), (D 59), (D 60), (D 61), (D 62), (D 63), (D 64), (D 65), (D 66), (D 67), (D 68), (D 69), (D 70), undef, undef, undef]).toArray, []⟩ ∧ At w0 w h ∧ I (x5, x26) h) (fun a w => m ((a.tmps.getD 5 undef), (a.tmps.getD 26 undef)) w.heap) ?_ ?_
      · exact ⟨(fun i => ([undef, undef, undef, undef, undef, undef, undef, undef, undef, undef, undef, undef, undef, undef, undef, undef, undef, undef, undef, undef, undef, undef, undef, undef, undef, undef, undef, undef, undef, undef, undef, undef, undef, undef, undef, undef, undef, undef, undef, undef, undef, undef, undef, undef, undef, undef, undef, undef, undef, undef] ++ [undef, undef, undef, undef, undef, undef, undef, undef, undef, undef, undef, undef, undef, undef, undef, undef, undef, undef, undef, undef, undef]).getD i undef), (.slice none 0 0), (.int .i64 0), h, by kernel_rfl, HA, H0⟩
      · rintro _ w ⟨D, x5, x26, h, rfl, HA, HI⟩
        have H : pty_Pair_MasterWrite_l1 R x0 x1 x25 (fun x5' x26' h' => I (x5', x26') h' ∧ m (x5', x26') h' < m (x5, x26) h) x5 x26 h := HB (x5, x26) h HI
        clear HB H0 HI
        unfold pty_Pair_MasterWrite_l1 at H
        refine wp_seq ?_
        refine lwp_list ?_
        refine ls_p (d := some 27) (by kernel_rfl) (by kernel_rfl) (p_sLt (by kernel_rfl) (by kernel_rfl) H) (fun x27 H => ?_)
        refine ls_nil ?_
        refine then_normal ?_
        refine fr_eq (b := ⟨([x0, x1, undef, undef, (.int .i64 0), x5, (.int .i64 0), undef, (D 0), (D 1), (D 2), (D 3), undef, (D 4), x18, x0, x16, x17, x18, x23, x0, x21, x22, x23, x1, x25, x26, x27, (D 6), (D 7), (D 8), (D 9), (D 10), (D 11), (D 12), (D 13), (D 14), (D 15), (D 16), (D 17), (D 18), (D 19), (D 20), (D 21), (D 22), (D 23), (D 24), (D 25), (D 26), (D 27)] ++ [(D 28), (D 29), (D 30), (D 31), (D 32), (D 33), (D 34), (D 35), (D 36), (D 37), (D 38), (D 39), (D 40), (D 41), (D 42), (D 43), (D 44), (D 45), (D 46), (D 47), (D 48), (D 49), (D 50), (D 51), (D 52), (D 53), (D 54), (D 55), (D 56), (D 57), (D 58), (D 59), (D 60), (D 61), (D 62), (D 63), (D 64), (D 65), (D 66), (D 67), (D 68), (D 69), (D 70), undef, undef, undef]).toArray, []⟩) (by kernel_rfl) ?_
        refine wp_seq ?_
        refine wp_if rfl H (fun H => ?_) (fun H => ?_)
        · refine wp_skip ?_
          refine then_normal ?_
          refine fr_eq (b := ⟨([x0, x1, undef, undef, (.int .i64 0), x5, (.int .i64 0), undef, (D 0), (D 1), (D 2), (D 3), undef, (D 4), x18, x0, x16, x17, x18, x23, x0, x21, x22, x23, x1, x25, x26, x27, (D 6), (D 7), (D 8), (D 9), (D 10), (D 11), (D 12), (D 13), (D 14), (D 15), (D 16), (D 17), (D 18), (D 19), (D 20), (D 21), (D 22), (D 23), (D 24), (D 25), (D 26), (D 27)] ++ [(D 28), (D 29), (D 30), (D 31), (D 32), (D 33), (D 34), (D 35), (D 36), (D 37), (D 38), (D 39), (D 40), (D 41), (D 42), (D 43), (D 44), (D 45), (D 46), (D 47), (D 48), (D 49), (D 50), (D 51), (D 52), (D 53), (D 54), (D 55), (D 56), (D 57), (D 58), (D 59), (D 60), (D 61), (D 62), (D 63), (D 64), (D 65), (D 66), (D 67), (D 68), (D 69), (D 70), undef, undef, undef]).toArray, []⟩) (by kernel_rfl) ?_
          refine wp_seq ?_
          refine wp_join (fun a w => ∃ (D_1 : Nat → Value) (x5_1 : Value) (h_1 : Heap), a = ⟨([x0, x1, undef, undef, (.int .i64 0), x5_1, (.int .i64 0), undef, (D_1 0), (D_1 1), (D_1 2), (D_1 3), undef, (D_1 4), x18, x0, x16, x17, x18, x23, x0, x21, x22, x23, x1, x25, x26, x27, (D_1 5), (D_1 6), (D_1 7), (D_1 8), (D_1 9), (D_1 10), (D_1 11), (D_1 12), (D_1 13), (D_1 14), (D_1 15), (D_1 16), (D_1 17), (D_1 18), (D_1 19), (D_1 20), (D_1 21), (D_1 22), (D_1 23), (D_1 24), (D_1 25), (D_1 26)] ++ [(D_1 27), (D_1 28), (D_1 29), (D_1 30), (D_1 31), (D_1 32), (D_1 33), (D_1 34), (D_1 35), (D_1 36), (D_1 37), (D_1 38), (D_1 39), (D_1 40), (D_1 41), (D_1 42), (D_1 43), (D_1 44), (D_1 45), (D_1 46), (D_1 47), (D_1 48), (D_1 49), (D_1 50), (D_1 51), (D_1 52), (D_1 53), (D_1 54), (D_1 55), (D_1 56), (D_1 57), (D_1 58), (D_1 59), (D_1 60), (D_1 61), (D_1 62), (D_1 63), (D_1 64), (D_1 65), (D_1 66), (D_1 67), (D_1 68), (D 70), undef, undef, undef]).toArray, []⟩ ∧ At w0 w h_1 ∧ pty_Pair_MasterWrite_j2 (fun x5' x26' h' => I (x5', x26') h' ∧ m (x5', x26') h' < m (x5, x26) h) x26 x5_1 h_1) ?_ ?_
          · refine wp_block ?_
            refine wp_seq ?_
            refine lwp_list ?_
            refine ls_p (d := some 28) (by kernel_rfl) (by kernel_rfl) (p_ixs Try.underlying30 Try.sizeOf5 (by kernel_rfl) (by kernel_rfl) H) (fun x28 H => ?_)
            refine ls_y (d := some 29) (by kernel_rfl) (by kernel_rfl) HA (y_ld Try.isAgg5 (by kernel_rfl) H) (fun x29 H => ?_)
            refine ls_assign (x := x29) (by kernel_rfl) (by kernel_rfl) ?_
            refine ls_nil ?_
            refine then_normal ?_
            refine fr_eq (b := ⟨([x0, x1, undef, undef, (.int .i64 0), x5, (.int .i64 0), undef, x29, (D 1), (D 2), (D 3), undef, (D 4), x18, x0, x16, x17, x18, x23, x0, x21, x22, x23, x1, x25, x26, x27, x28, x29, (D 8), (D 9), (D 10), (D 11), (D 12), (D 13), (D 14), (D 15), (D 16), (D 17), (D 18), (D 19), (D 20), (D 21), (D 22), (D 23), (D 24), (D 25), (D 26), (D 27)] ++ [(D 28), (D 29), (D 30), (D 31), (D 32), (D 33), (D 34), (D 35), (D 36), (D 37), (D 38), (D 39), (D 40), (D 41), (D 42), (D 43), (D 44), (D 45), (D 46), (D 47), (D 48), (D 49), (D 50), (D 51), (D 52), (D 53), (D 54), (D 55), (D 56), (D 57), (D 58), (D 59), (D 60), (D 61), (D 62), (D 63), (D 64), (D 65), (D 66), (D 67), (D 68), (D 69), (D 70), undef, undef, undef]).toArray, []⟩) (by kernel_rfl) ?_
            refine wp_seq ?_
            refine lwp_list ?_
            refine ls_move (x := x0) (by kernel_rfl) (by kernel_rfl) ?_
            refine ls_p (d := some 31) (by kernel_rfl) (by kernel_rfl) (p_nil (by kernel_rfl) H) (fun x31 H => ?_)
            refine ls_p (d := some 32) (by kernel_rfl) (by kernel_rfl) (p_off Try.underlying83 rfl (fun w => ⟨_, Try.sizeOf24 w⟩) rfl (by kernel_rfl) H) (fun x32 H => ?_)
            refine ls_y (d := some 33) (by kernel_rfl) (by kernel_rfl) HA (y_ld Try.isAgg24 (by kernel_rfl) H) (fun x33 H => ?_)
            refine ls_d (d := some 34) (by kernel_rfl) (by kernel_rfl) HA (d_call (by kernel_rfl) (by kernel_rfl) H) (fun x34 h_2 w_2 H HA_2 => ?_)
            refine ls_assign (x := x34) (by kernel_rfl) (by kernel_rfl) ?_
            refine ls_nil ?_
            refine then_normal ?_
            refine fr_eq (b := ⟨([x0, x1, undef, undef, (.int .i64 0), x5, (.int .i64 0), undef, x29, x34, (D 2), (D 3), undef, (D 4), x18, x0, x16, x17, x18, x23, x0, x21, x22, x23, x1, x25, x26, x27, x28, x29, x0, x31, x32, x33, x34, (D 13), (D 14), (D 15), (D 16), (D 17), (D 18), (D 19), (D 20), (D 21), (D 22), (D 23), (D 24), (D 25), (D 26), (D 27)] ++ [(D 28), (D 29), (D 30), (D 31), (D 32), (D 33), (D 34), (D 35), (D 36), (D 37), (D 38), (D 39), (D 40), (D 41), (D 42), (D 43), (D 44), (D 45), (D 46), (D 47), (D 48), (D 49), (D 50), (D 51), (D 52), (D 53), (D 54), (D 55), (D 56), (D 57), (D 58), (D 59), (D 60), (D 61), (D 62), (D 63), (D 64), (D 65), (D 66), (D 67), (D 68), (D 69), (D 70), undef, undef, undef]).toArray, []⟩) (by kernel_rfl) ?_
            refine wp_seq ?_
            refine lwp_list ?_
            refine ls_move (x := x0) (by kernel_rfl) (by kernel_rfl) ?_
            refine ls_p (d := some 37) (by kernel_rfl) (by kernel_rfl) (p_nil (by kernel_rfl) H) (fun x37 H => ?_)
            refine ls_p (d := some 38) (by kernel_rfl) (by kernel_rfl) (p_off Try.underlying83 rfl (fun w => ⟨_, Try.sizeOf24 w⟩) rfl (by kernel_rfl) H) (fun x38 H => ?_)
            refine ls_y (d := some 39) (by kernel_rfl) (by kernel_rfl) HA_2 (y_ld Try.isAgg24 (by kernel_rfl) H) (fun x39 H => ?_)
            refine ls_move (x := x29) (by kernel_rfl) (by kernel_rfl) ?_
            refine ls_d (d := some 41) (by kernel_rfl) (by kernel_rfl) HA_2 (d_call (by kernel_rfl) (by kernel_rfl) H) (fun x41 h_3 w_3 H HA_3 => ?_)
            refine ls_fr (b := ⟨([x0, x1, undef, undef, (.int .i64 0), x5, (.int .i64 0), undef, x29, x34, (D 2), (D 3), undef, (D 4), x18, x0, x16, x17, x18, x23, x0, x21, x22, x23, x1, x25, x26, x27, x28, x29, x0, x31, x32, x33, x34, (D 13), x0, x37, x38, x39, x29, x41, (D 20), (D 21), (D 22), (D 23), (D 24), (D 25), (D 26), (D 27)] ++ [(D 28), (D 29), (D 30), (D 31), (D 32), (D 33), (D 34), (D 35), (D 36), (D 37), (D 38), (D 39), (D 40), (D 41), (D 42), (D 43), (D 44), (D 45), (D 46), (D 47), (D 48), (D 49), (D 50), (D 51), (D 52), (D 53), (D 54), (D 55), (D 56), (D 57), (D 58), (D 59), (D 60), (D 61), (D 62), (D 63), (D 64), (D 65), (D 66), (D 67), (D 68), (D 69), (D 70), undef, undef, undef]).toArray, []⟩) (by kernel_rfl) ?_
            refine ls_move (x := x41) (by kernel_rfl) (by kernel_rfl) ?_
            refine ls_p (d := some 42) (by kernel_rfl) (by kernel_rfl) (p_tup (by kernel_rfl) H) (fun x42 H => ?_)
            refine ls_p (d := some 43) (by kernel_rfl) (by kernel_rfl) (p_tup (by kernel_rfl) H) (fun x43 H => ?_)
            refine ls_assign (x := x42) (by kernel_rfl) (by kernel_rfl) ?_
            refine ls_assign (x := x43) (by kernel_rfl) (by kernel_rfl) ?_
            refine ls_nil ?_
            refine then_normal ?_
            refine fr_eq (b := ⟨([x0, x1, undef, undef, (.int .i64 0), x5, (.int .i64 0), undef, x29, x34, x42, x43, undef, (D 4), x18, x0, x16, x17, x18, x23, x0, x21, x22, x23, x1, x25, x26, x27, x28, x29, x0, x31, x32, x33, x34, x41, x0, x37, x38, x39, x29, x41, x42, x43, (D 22), (D 23), (D 24), (D 25), (D 26), (D 27)] ++ [(D 28), (D 29), (D 30), (D 31), (D 32), (D 33), (D 34), (D 35), (D 36), (D 37), (D 38), (D 39), (D 40), (D 41), (D 42), (D 43), (D 44), (D 45), (D 46), (D 47), (D 48), (D 49), (D 50), (D 51), (D 52), (D 53), (D 54), (D 55), (D 56), (D 57), (D 58), (D 59), (D 60), (D 61), (D 62), (D 63), (D 64), (D 65), (D 66), (D 67), (D 68), (D 69), (D 70), undef, undef, undef]).toArray, []⟩) (by kernel_rfl) ?_
            refine wp_seq ?_
            refine wp_seq ?_
            refine lwp_list ?_
            refine ls_move (x := x42) (by kernel_rfl) (by kernel_rfl) ?_
            refine ls_p (d := some 45) (by kernel_rfl) (by kernel_rfl) (p_len Try.underlying30 (by kernel_rfl) H) (fun x45 H => ?_)
            refine ls_move (x := (.int .i64 0)) (by kernel_rfl) (by kernel_rfl) ?_
            refine ls_nil ?_
            refine then_normal ?_
            refine fr_eq (b := ⟨([x0, x1, undef, undef, (.int .i64 0), x5, (.int .i64 0), undef, x29, x34, x42, x43, undef, (D 4), x18, x0, x16, x17, x18, x23, x0, x21, x22, x23, x1, x25, x26, x27, x28, x29, x0, x31, x32, x33, x34, x41, x0, x37, x38, x39, x29, x41, x42, x43, x42, x45, (.int .i64 0), (D 25), (D 26), (D 27)] ++ [(D 28), (D 29), (D 30), (D 31), (D 32), (D 33), (D 34), (D 35), (D 36), (D 37), (D 38), (D 39), (D 40), (D 41), (D 42), (D 43), (D 44), (D 45), (D 46), (D 47), (D 48), (D 49), (D 50), (D 51), (D 52), (D 53), (D 54), (D 55), (D 56), (D 57), (D 58), (D 59), (D 60), (D 61), (D 62), (D 63), (D 64), (D 65), (D 66), (D 67), (D 68), (D 69), (D 70), undef, undef, undef]).toArray, []⟩) (by kernel_rfl) ?_
            refine wp_block ?_
            obtain ⟨I_1, m_1, H0, HB⟩ := H
            refine wp_loop (fun a w => ∃ (D_2 : Nat → Value) (x46 : Value) (h_4 : Heap), a = ⟨([x0, x1, undef, undef, (.int .i64 0), x5, (.int .i64 0), undef, x29, x34, x42, x43, undef, (D_2 0), x18, x0, x16, x17, x18, x23, x0, x21, x22, x23, x1, x25, x26, x27, x28, x29, x0, x31, x32, x33, x34, x41, x0, x37, x38, x39, x29, x41, x42, x43, x42, x45, x46, (D_2 1), (D_2 2), (D_2 3)] ++ [(D_2 4), (D_2 5), (D_2 6), (D_2 7), (D 32), (D 33), (D 34), (D 35), (D 36), (D 37), (D 38), (D 39), (D 40), (D 41), (D 42), (D 43), (D 44), (D 45), (D 46), (D 47), (D 48), (D 49), (D 50), (D 51), (D 52), (D 53), (D 54), (D 55), (D 56), (D 57), (D 58), (D 59), (D 60), (D 61), (D 62), (D 63), (D 64), (D 65), (D 66), (D 67), (D 68), (D 69), (D 70), undef, undef, undef]).toArray, []⟩ ∧ At w0 w h_4 ∧ I_1 x46 h_4) (fun a w => m_1 (a.tmps.getD 46 undef) w.heap) ?_ ?_
            · exact ⟨(fun i => ([(D 4), (D 25), (D 26), (D 27), (D 28), (D 29), (D 30), (D 31)]).getD i undef), (.int .i64 0), h_3, by kernel_rfl, HA_3, H0⟩
            · rintro _ w_4 ⟨D_2, x46, h_4, rfl, HA_4, HI⟩
              have H : pty_Pair_MasterWrite_l3 (fun x5' x26' h' => I (x5', x26') h' ∧ m (x5', x26') h' < m (x5, x26) h) x0 x5 x34 x42 x43 x26 x45 (fun x46' h' => I_1 x46' h' ∧ m_1 x46' h' < m_1 x46 h_4) x46 h_4 := HB x46 h_4 HI
              clear HB H0 HI
              unfold pty_Pair_MasterWrite_l3 at H
              refine wp_seq ?_
              refine lwp_list ?_
              refine ls_p (d := some 47) (by kernel_rfl) (by kernel_rfl) (p_sLt (by kernel_rfl) (by kernel_rfl) H) (fun x47 H => ?_)
              refine ls_nil ?_
              refine then_normal ?_
              refine fr_eq (b := ⟨([x0, x1, undef, undef, (.int .i64 0), x5, (.int .i64 0), undef, x29, x34, x42, x43, undef, (D_2 0), x18, x0, x16, x17, x18, x23, x0, x21, x22, x23, x1, x25, x26, x27, x28, x29, x0, x31, x32, x33, x34, x41, x0, x37, x38, x39, x29, x41, x42, x43, x42, x45, x46, x47, (D_2 2), (D_2 3)] ++ [(D_2 4), (D_2 5), (D_2 6), (D_2 7), (D 32), (D 33), (D 34), (D 35), (D 36), (D 37), (D 38), (D 39), (D 40), (D 41), (D 42), (D 43), (D 44), (D 45), (D 46), (D 47), (D 48), (D 49), (D 50), (D 51), (D 52), (D 53), (D 54), (D 55), (D 56), (D 57), (D 58), (D 59), (D 60), (D 61), (D 62), (D 63), (D 64), (D 65), (D 66), (D 67), (D 68), (D 69), (D 70), undef, undef, undef]).toArray, []⟩) (by kernel_rfl) ?_
              refine wp_seq ?_
              refine wp_if rfl H (fun H => ?_) (fun H => ?_)
              · refine wp_skip ?_
                refine then_normal ?_
                refine fr_eq (b := ⟨([x0, x1, undef, undef, (.int .i64 0), x5, (.int .i64 0), undef, x29, x34, x42, x43, undef, (D_2 0), x18, x0, x16, x17, x18, x23, x0, x21, x22, x23, x1, x25, x26, x27, x28, x29, x0, x31, x32, x33, x34, x41, x0, x37, x38, x39, x29, x41, x42, x43, x42, x45, x46, x47, (D_2 2), (D_2 3)] ++ [(D_2 4), (D_2 5), (D_2 6), (D_2 7), (D 32), (D 33), (D 34), (D 35), (D 36), (D 37), (D 38), (D 39), (D 40), (D 41), (D 42), (D 43), (D 44), (D 45), (D 46), (D 47), (D 48), (D 49), (D 50), (D 51), (D 52), (D 53), (D 54), (D 55), (D 56), (D 57), (D 58), (D 59), (D 60), (D 61), (D 62), (D 63), (D 64), (D 65), (D 66), (D 67), (D 68), (D 69), (D 70), undef, undef, undef]).toArray, []⟩) (by kernel_rfl) ?_
                refine wp_seq ?_
                refine wp_block ?_
                refine wp_seq ?_
                refine lwp_list ?_
                refine ls_p (d := some 48) (by kernel_rfl) (by kernel_rfl) (p_ixs Try.underlying30 Try.sizeOf5 (by kernel_rfl) (by kernel_rfl) H) (fun x48 H => ?_)
                refine ls_y (d := some 49) (by kernel_rfl) (by kernel_rfl) HA_4 (y_ld Try.isAgg5 (by kernel_rfl) H) (fun x49 H => ?_)
                refine ls_assign (x := x49) (by kernel_rfl) (by kernel_rfl) ?_
                refine ls_nil ?_
                refine then_normal ?_
                refine fr_eq (b := ⟨([x0, x1, undef, undef, (.int .i64 0), x5, (.int .i64 0), undef, x29, x34, x42, x43, undef, x49, x18, x0, x16, x17, x18, x23, x0, x21, x22, x23, x1, x25, x26, x27, x28, x29, x0, x31, x32, x33, x34, x41, x0, x37, x38, x39, x29, x41, x42, x43, x42, x45, x46, x47, x48, x49] ++ [(D_2 4), (D_2 5), (D_2 6), (D_2 7), (D 32), (D 33), (D 34), (D 35), (D 36), (D 37), (D 38), (D 39), (D 40), (D 41), (D 42), (D 43), (D 44), (D 45), (D 46), (D 47), (D 48), (D 49), (D 50), (D 51), (D 52), (D 53), (D 54), (D 55), (D 56), (D 57), (D 58), (D 59), (D 60), (D 61), (D 62), (D 63), (D 64), (D 65), (D 66), (D 67), (D 68), (D 69), (D 70), undef, undef, undef]).toArray, []⟩) (by kernel_rfl) ?_
                refine lwp_list ?_
                refine ls_move (x := x0) (by kernel_rfl) (by kernel_rfl) ?_
                refine ls_move (x := x49) (by kernel_rfl) (by kernel_rfl) ?_
                refine ls_d (d := some 52) (by kernel_rfl) (by kernel_rfl) HA_4 (d_call (by kernel_rfl) (by kernel_rfl) H) (fun x52 h_5 w_5 H HA_5 => ?_)
                refine ls_nil ?_
                refine block_normal ?_
                refine then_normal ?_
                refine fr_eq (b := ⟨([x0, x1, undef, undef, (.int .i64 0), x5, (.int .i64 0), undef, x29, x34, x42, x43, undef, x49, x18, x0, x16, x17, x18, x23, x0, x21, x22, x23, x1, x25, x26, x27, x28, x29, x0, x31, x32, x33, x34, x41, x0, x37, x38, x39, x29, x41, x42, x43, x42, x45, x46, x47, x48, x49] ++ [x0, x49, x52, (D_2 7), (D 32), (D 33), (D 34), (D 35), (D 36), (D 37), (D 38), (D 39), (D 40), (D 41), (D 42), (D 43), (D 44), (D 45), (D 46), (D 47), (D 48), (D 49), (D 50), (D 51), (D 52), (D 53), (D 54), (D 55), (D 56), (D 57), (D 58), (D 59), (D 60), (D 61), (D 62), (D 63), (D 64), (D 65), (D 66), (D 67), (D 68), (D 69), (D 70), undef, undef, undef]).toArray, []⟩) (by kernel_rfl) ?_
                refine lwp_list ?_
                refine ls_p (d := some 53) (by kernel_rfl) (by kernel_rfl) (p_add (by kernel_rfl) (by kernel_rfl) H) (fun x53 H => ?_)
                refine ls_move (x := x53) (by kernel_rfl) (by kernel_rfl) ?_
                refine ls_nil ?_
                exact ⟨⟨(fun i => ([x49, x47, x48, x49, x0, x49, x52, x53]).getD i undef), x53, h_5, by kernel_rfl, HA_5, H.1⟩, loop_lt HA_5.heap HA_4.heap (by kernel_rfl) (by kernel_rfl) H.2⟩
              · refine wp_exit ?_
                refine then_exit ?_
                refine then_exit ?_
                refine block_exit ?_
                refine then_normal ?_
                refine fr_eq (b := ⟨([x0, x1, undef, undef, (.int .i64 0), x5, (.int .i64 0), undef, x29, x34, x42, x43, undef, (D_2 0), x18, x0, x16, x17, x18, x23, x0, x21, x22, x23, x1, x25, x26, x27, x28, x29, x0, x31, x32, x33, x34, x41, x0, x37, x38, x39, x29, x41, x42, x43, x42, x45, x46, x47, (D_2 2), (D_2 3)] ++ [(D_2 4), (D_2 5), (D_2 6), (D_2 7), (D 32), (D 33), (D 34), (D 35), (D 36), (D 37), (D 38), (D 39), (D 40), (D 41), (D 42), (D 43), (D 44), (D 45), (D 46), (D 47), (D 48), (D 49), (D 50), (D 51), (D 52), (D 53), (D 54), (D 55), (D 56), (D 57), (D 58), (D 59), (D 60), (D 61), (D 62), (D 63), (D 64), (D 65), (D 66), (D 67), (D 68), (D 69), (D 70), undef, undef, undef]).toArray, []⟩) (by kernel_rfl) ?_
                refine wp_seq ?_
                refine lwp_list ?_
                refine ls_move (x := x0) (by kernel_rfl) (by kernel_rfl) ?_
                refine ls_move (x := x34) (by kernel_rfl) (by kernel_rfl) ?_
                refine ls_p (d := some 56) (by kernel_rfl) (by kernel_rfl) (p_not (by kernel_rfl) H) (fun x56 H => ?_)
                refine ls_move (x := x56) (by kernel_rfl) (by kernel_rfl) ?_
                refine ls_andh [(), (), (), (), (), ()] (fun K a w => ∃ (D_3 : Nat → Value) (x63 : Value) (h_6 : Heap), a = ⟨([x0, x1, undef, undef, (.int .i64 0), x5, (.int .i64 0), undef, x29, x34, x42, x43, undef, (D_2 0), x18, x0, x16, x17, x18, x23, x0, x21, x22, x23, x1, x25, x26, x27, x28, x29, x0, x31, x32, x33, x34, x41, x0, x37, x38, x39, x29, x41, x42, x43, x42, x45, x46, x47, (D_2 2), (D_2 3)] ++ [(D_2 4), (D_2 5), (D_2 6), (D_2 7), x0, x34, x56, x56, (D_3 0), (D_3 1), (D_3 2), (D_3 3), (D_3 4), x63, (D 42), (D 43), (D 44), (D 45), (D 46), (D 47), (D 48), (D 49), (D 50), (D 51), (D 52), (D 53), (D 54), (D 55), (D 56), (D 57), (D 58), (D 59), (D 60), (D 61), (D 62), (D 63), (D 64), (D 65), (D 66), (D 67), (D 68), (D 69), (D 70), undef, undef, undef]).toArray, []⟩ ∧ At w0 w h_6 ∧ K x63 h_6) H (fun hb_1 H => ?_) (fun hb_1 H => ?_) ?_
                · refine ls_move (x := x0) (by rw [hb_1]; kernel_rfl) (by kernel_rfl) ?_
                  refine ls_p (d := some 59) (by kernel_rfl) (by rw [hb_1]; kernel_rfl) (p_nil (by kernel_rfl) H) (fun x59 H => ?_)
                  refine ls_fr (b := ⟨([x0, x1, undef, undef, (.int .i64 0), x5, (.int .i64 0), undef, x29, x34, x42, x43, undef, (D_2 0), x18, x0, x16, x17, x18, x23, x0, x21, x22, x23, x1, x25, x26, x27, x28, x29, x0, x31, x32, x33, x34, x41, x0, x37, x38, x39, x29, x41, x42, x43, x42, x45, x46, x47, (D_2 2), (D_2 3)] ++ [(D_2 4), (D_2 5), (D_2 6), (D_2 7), x0, x34, x56, x56, x0, x59, (D 38), (D 39), (D 40), (D 41), (D 42), (D 43), (D 44), (D 45), (D 46), (D 47), (D 48), (D 49), (D 50), (D 51), (D 52), (D 53), (D 54), (D 55), (D 56), (D 57), (D 58), (D 59), (D 60), (D 61), (D 62), (D 63), (D 64), (D 65), (D 66), (D 67), (D 68), (D 69), (D 70), undef, undef, undef]).toArray, []⟩) (by kernel_rfl) ?_
                  refine ls_p (d := some 60) (by kernel_rfl) (by rw [hb_1]; kernel_rfl) (p_off Try.underlying83 rfl (fun w => ⟨_, Try.sizeOf24 w⟩) rfl (by kernel_rfl) H) (fun x60 H => ?_)
                  refine ls_y (d := some 61) (by kernel_rfl) (by rw [hb_1]; kernel_rfl) HA_4 (y_ld Try.isAgg24 (by kernel_rfl) H) (fun x61 H => ?_)
                  refine ls_d (d := some 62) (by kernel_rfl) (by rw [hb_1]; kernel_rfl) HA_4 (d_call (by kernel_rfl) (by kernel_rfl) H) (fun x62 h_15 w_15 H HA_15 => ?_)
                  refine ls_pick_t (x := x62) (by kernel_rfl) (by rw [hb_1]; kernel_rfl) (by kernel_rfl) ?_
                  refine ls_nil ?_
                  refine then_normal ?_
                  exact ⟨(fun i => ([x0, x59, x60, x61, x62]).getD i undef), x62, h_15, by kernel_rfl, HA_15, H⟩
                · refine ls_skip (d := some 58) (by kernel_rfl) (by rw [hb_1]; kernel_rfl) ?_
                  refine ls_skip (d := some 59) (by kernel_rfl) (by rw [hb_1]; kernel_rfl) ?_
                  refine ls_fr (b := ⟨([x0, x1, undef, undef, (.int .i64 0), x5, (.int .i64 0), undef, x29, x34, x42, x43, undef, (D_2 0), x18, x0, x16, x17, x18, x23, x0, x21, x22, x23, x1, x25, x26, x27, x28, x29, x0, x31, x32, x33, x34, x41, x0, x37, x38, x39, x29, x41, x42, x43, x42, x45, x46, x47, (D_2 2), (D_2 3)] ++ [(D_2 4), (D_2 5), (D_2 6), (D_2 7), x0, x34, x56, x56, undef, undef, (D 38), (D 39), (D 40), (D 41), (D 42), (D 43), (D 44), (D 45), (D 46), (D 47), (D 48), (D 49), (D 50), (D 51), (D 52), (D 53), (D 54), (D 55), (D 56), (D 57), (D 58), (D 59), (D 60), (D 61), (D 62), (D 63), (D 64), (D 65), (D 66), (D 67), (D 68), (D 69), (D 70), undef, undef, undef]).toArray, []⟩) (by kernel_rfl) ?_
                  refine ls_skip (d := some 60) (by kernel_rfl) (by rw [hb_1]; kernel_rfl) ?_
                  refine ls_skip (d := some 61) (by kernel_rfl) (by rw [hb_1]; kernel_rfl) ?_
                  refine ls_skip (d := some 62) (by kernel_rfl) (by rw [hb_1]; kernel_rfl) ?_
                  refine ls_pick_f (y := (.bool false)) (by kernel_rfl) (by rw [hb_1]; kernel_rfl) (by kernel_rfl) ?_
                  refine ls_nil ?_
                  refine then_normal ?_
                  exact ⟨(fun i => ([undef, undef, undef, undef, undef]).getD i undef), (.bool false), h_4, by kernel_rfl, HA_4, H⟩
                · rintro _ w_6 ⟨D_3, x63, h_6, rfl, HA_6, H⟩
                  refine ls_d (d := some 64) (by kernel_rfl) (by kernel_rfl) HA_6 (d_call (by kernel_rfl) (by kernel_rfl) H) (fun x64 h_7 w_7 H HA_7 => ?_)
                  refine ls_nil ?_
                  refine then_normal ?_
                  refine fr_eq (b := ⟨([x0, x1, undef, undef, (.int .i64 0), x5, (.int .i64 0), undef, x29, x34, x42, x43, undef, (D_2 0), x18, x0, x16, x17, x18, x23, x0, x21, x22, x23, x1, x25, x26, x27, x28, x29, x0, x31, x32, x33, x34, x41, x0, x37, x38, x39, x29, x41, x42, x43, x42, x45, x46, x47, (D_2 2), (D_2 3)] ++ [(D_2 4), (D_2 5), (D_2 6), (D_2 7), x0, x34, x56, x56, (D_3 0), (D_3 1), (D_3 2), (D_3 3), (D_3 4), x63, x64, (D 43), (D 44), (D 45), (D 46), (D 47), (D 48), (D 49), (D 50), (D 51), (D 52), (D 53), (D 54), (D 55), (D 56), (D 57), (D 58), (D 59), (D 60), (D 61), (D 62), (D 63), (D 64), (D 65), (D 66), (D 67), (D 68), (D 69), (D 70), undef, undef, undef]).toArray, []⟩) (by kernel_rfl) ?_
                  refine wp_seq ?_
                  refine lwp_list ?_
                  refine ls_move (x := x0) (by kernel_rfl) (by kernel_rfl) ?_
                  refine ls_move (x := x34) (by kernel_rfl) (by kernel_rfl) ?_
                  refine ls_move (x := x34) (by kernel_rfl) (by kernel_rfl) ?_
                  refine ls_andh [(), (), (), (), (), (), ()] (fun K a w => ∃ (D_4 : Nat → Value) (x74 : Value) (h_8 : Heap), a = ⟨([x0, x1, undef, undef, (.int .i64 0), x5, (.int .i64 0), undef, x29, x34, x42, x43, undef, (D_2 0), x18, x0, x16, x17, x18, x23, x0, x21, x22, x23, x1, x25, x26, x27, x28, x29, x0, x31, x32, x33, x34, x41, x0, x37, x38, x39, x29, x41, x42, x43, x42, x45, x46, x47, (D_2 2), (D_2 3)] ++ [(D_2 4), (D_2 5), (D_2 6), (D_2 7), x0, x34, x56, x56, (D_3 0), (D_3 1), (D_3 2), (D_3 3), (D_3 4), x63, x64, x0, x34, x34, (D_4 0), (D_4 1), (D_4 2), (D_4 3), (D_4 4), (D_4 5), x74, (D 53), (D 54), (D 55), (D 56), (D 57), (D 58), (D 59), (D 60), (D 61), (D 62), (D 63), (D 64), (D 65), (D 66), (D 67), (D 68), (D 69), (D 70), undef, undef, undef]).toArray, []⟩ ∧ At w0 w h_8 ∧ K x74 h_8) H (fun hb H => ?_) (fun hb H => ?_) ?_
                  · refine ls_move (x := x0) (by rw [hb]; kernel_rfl) (by kernel_rfl) ?_
                    refine ls_p (d := some 69) (by kernel_rfl) (by rw [hb]; kernel_rfl) (p_nil (by kernel_rfl) H) (fun x69 H => ?_)
                    refine ls_p (d := some 70) (by kernel_rfl) (by rw [hb]; kernel_rfl) (p_off Try.underlying83 rfl (fun w => ⟨_, Try.sizeOf24 w⟩) rfl (by kernel_rfl) H) (fun x70 H => ?_)
                    refine ls_fr (b := ⟨([x0, x1, undef, undef, (.int .i64 0), x5, (.int .i64 0), undef, x29, x34, x42, x43, undef, (D_2 0), x18, x0, x16, x17, x18, x23, x0, x21, x22, x23, x1, x25, x26, x27, x28, x29, x0, x31, x32, x33, x34, x41, x0, x37, x38, x39, x29, x41, x42, x43, x42, x45, x46, x47, (D_2 2), (D_2 3)] ++ [(D_2 4), (D_2 5), (D_2 6), (D_2 7), x0, x34, x56, x56, (D_3 0), (D_3 1), (D_3 2), (D_3 3), (D_3 4), x63, x64, x0, x34, x34, x0, x69, x70, (D 49), (D 50), (D 51), (D 52), (D 53), (D 54), (D 55), (D 56), (D 57), (D 58), (D 59), (D 60), (D 61), (D 62), (D 63), (D 64), (D 65), (D 66), (D 67), (D 68), (D 69), (D 70), undef, undef, undef]).toArray, []⟩) (by kernel_rfl) ?_
                    refine ls_y (d := some 71) (by kernel_rfl) (by rw [hb]; kernel_rfl) HA_7 (y_ld Try.isAgg24 (by kernel_rfl) H) (fun x71 H => ?_)
                    refine ls_d (d := some 72) (by kernel_rfl) (by rw [hb]; kernel_rfl) HA_7 (d_call (by kernel_rfl) (by kernel_rfl) H) (fun x72 h_14 w_14 H HA_14 => ?_)
                    refine ls_p (d := some 73) (by kernel_rfl) (by rw [hb]; kernel_rfl) (p_not (by kernel_rfl) H) (fun x73 H => ?_)
                    refine ls_pick_t (x := x73) (by kernel_rfl) (by rw [hb]; kernel_rfl) (by kernel_rfl) ?_
                    refine ls_nil ?_
                    refine then_normal ?_
                    exact ⟨(fun i => ([x0, x69, x70, x71, x72, x73]).getD i undef), x73, h_14, by kernel_rfl, HA_14, H⟩
                  · refine ls_skip (d := some 68) (by kernel_rfl) (by rw [hb]; kernel_rfl) ?_
                    refine ls_skip (d := some 69) (by kernel_rfl) (by rw [hb]; kernel_rfl) ?_
                    refine ls_skip (d := some 70) (by kernel_rfl) (by rw [hb]; kernel_rfl) ?_
                    refine ls_fr (b := ⟨([x0, x1, undef, undef, (.int .i64 0), x5, (.int .i64 0), undef, x29, x34, x42, x43, undef, (D_2 0), x18, x0, x16, x17, x18, x23, x0, x21, x22, x23, x1, x25, x26, x27, x28, x29, x0, x31, x32, x33, x34, x41, x0, x37, x38, x39, x29, x41, x42, x43, x42, x45, x46, x47, (D_2 2), (D_2 3)] ++ [(D_2 4), (D_2 5), (D_2 6), (D_2 7), x0, x34, x56, x56, (D_3 0), (D_3 1), (D_3 2), (D_3 3), (D_3 4), x63, x64, x0, x34, x34, undef, undef, undef, (D 49), (D 50), (D 51), (D 52), (D 53), (D 54), (D 55), (D 56), (D 57), (D 58), (D 59), (D 60), (D 61), (D 62), (D 63), (D 64), (D 65), (D 66), (D 67), (D 68), (D 69), (D 70), undef, undef, undef]).toArray, []⟩) (by kernel_rfl) ?_
                    refine ls_skip (d := some 71) (by kernel_rfl) (by rw [hb]; kernel_rfl) ?_
                    refine ls_skip (d := some 72) (by kernel_rfl) (by rw [hb]; kernel_rfl) ?_
                    refine ls_skip (d := some 73) (by kernel_rfl) (by rw [hb]; kernel_rfl) ?_
                    refine ls_pick_f (y := (.bool false)) (by kernel_rfl) (by rw [hb]; kernel_rfl) (by kernel_rfl) ?_
                    refine ls_nil ?_
                    refine then_normal ?_
                    exact ⟨(fun i => ([undef, undef, undef, undef, undef, undef]).getD i undef), (.bool false), h_7, by kernel_rfl, HA_7, H⟩
                  · rintro _ w_8 ⟨D_4, x74, h_8, rfl, HA_8, H⟩
                    refine ls_d (d := some 75) (by kernel_rfl) (by kernel_rfl) HA_8 (d_call (by kernel_rfl) (by kernel_rfl) H) (fun x75 h_9 w_9 H HA_9 => ?_)
                    refine ls_nil ?_
                    refine then_normal ?_
                    refine fr_eq (b := ⟨([x0, x1, undef, undef, (.int .i64 0), x5, (.int .i64 0), undef, x29, x34, x42, x43, undef, (D_2 0), x18, x0, x16, x17, x18, x23, x0, x21, x22, x23, x1, x25, x26, x27, x28, x29, x0, x31, x32, x33, x34, x41, x0, x37, x38, x39, x29, x41, x42, x43, x42, x45, x46, x47, (D_2 2), (D_2 3)] ++ [(D_2 4), (D_2 5), (D_2 6), (D_2 7), x0, x34, x56, x56, (D_3 0), (D_3 1), (D_3 2), (D_3 3), (D_3 4), x63, x64, x0, x34, x34, (D_4 0), (D_4 1), (D_4 2), (D_4 3), (D_4 4), (D_4 5), x74, x75, (D 54), (D 55), (D 56), (D 57), (D 58), (D 59), (D 60), (D 61), (D 62), (D 63), (D 64), (D 65), (D 66), (D 67), (D 68), (D 69), (D 70), undef, undef, undef]).toArray, []⟩) (by kernel_rfl) ?_
                    refine wp_seq ?_
                    refine lwp_list ?_
                    refine ls_move (x := x43) (by kernel_rfl) (by kernel_rfl) ?_
                    refine ls_p (d := some 77) (by kernel_rfl) (by kernel_rfl) (p_sNe (by kernel_rfl) (by kernel_rfl) H) (fun x77 H => ?_)
                    refine ls_nil ?_
                    refine then_normal ?_
                    refine fr_eq (b := ⟨([x0, x1, undef, undef, (.int .i64 0), x5, (.int .i64 0), undef, x29, x34, x42, x43, undef, (D_2 0), x18, x0, x16, x17, x18, x23, x0, x21, x22, x23, x1, x25, x26, x27, x28, x29, x0, x31, x32, x33, x34, x41, x0, x37, x38, x39, x29, x41, x42, x43, x42, x45, x46, x47, (D_2 2), (D_2 3)] ++ [(D_2 4), (D_2 5), (D_2 6), (D_2 7), x0, x34, x56, x56, (D_3 0), (D_3 1), (D_3 2), (D_3 3), (D_3 4), x63, x64, x0, x34, x34, (D_4 0), (D_4 1), (D_4 2), (D_4 3), (D_4 4), (D_4 5), x74, x75, x43, x77, (D 56), (D 57), (D 58), (D 59), (D 60), (D 61), (D 62), (D 63), (D 64), (D 65), (D 66), (D 67), (D 68), (D 69), (D 70), undef, undef, undef]).toArray, []⟩) (by kernel_rfl) ?_
                    refine wp_if rfl H (fun H => ?_) (fun H => ?_)
                    · refine wp_seq ?_
                      refine lwp_list ?_
                      refine ls_move (x := x5) (by kernel_rfl) (by kernel_rfl) ?_
                      refine ls_move (x := x43) (by kernel_rfl) (by kernel_rfl) ?_
                      refine ls_d (d := some 80) (by kernel_rfl) (by kernel_rfl) HA_9 (d_slit (zc := #[.int .i64 0]) Try.underlying56 Try.sizeOf3 (by decide) (.inr ⟨by decide, _, Try.zeroValue3, (by kernel_rfl)⟩) (by kernel_rfl) (by kernel_rfl) H) (fun x80 h_10 w_10 H HA_10 => ?_)
                      refine ls_d (d := some 81) (by kernel_rfl) (by kernel_rfl) HA_10 (d_app (z := #[.int .i64 0]) Try.underlying56 Try.underlying56 (.inl ⟨_, rfl⟩) Try.typeInfo3 (by kernel_rfl) Try.sizeOf3 Try.zeroValue3 (by kernel_rfl) (by kernel_rfl) (by kernel_rfl) H) (fun x81 h_11 w_11 H HA_11 => ?_)
                      refine ls_assign (x := x81) (by kernel_rfl) (by kernel_rfl) ?_
                      refine ls_nil ?_
                      refine then_normal ?_
                      refine fr_eq (b := ⟨([x0, x1, undef, undef, (.int .i64 0), x81, (.int .i64 0), undef, x29, x34, x42, x43, undef, (D_2 0), x18, x0, x16, x17, x18, x23, x0, x21, x22, x23, x1, x25, x26, x27, x28, x29, x0, x31, x32, x33, x34, x41, x0, x37, x38, x39, x29, x41, x42, x43, x42, x45, x46, x47, (D_2 2), (D_2 3)] ++ [(D_2 4), (D_2 5), (D_2 6), (D_2 7), x0, x34, x56, x56, (D_3 0), (D_3 1), (D_3 2), (D_3 3), (D_3 4), x63, x64, x0, x34, x34, (D_4 0), (D_4 1), (D_4 2), (D_4 3), (D_4 4), (D_4 5), x74, x75, x43, x77, x5, x43, x80, x81, (D 60), (D 61), (D 62), (D 63), (D 64), (D 65), (D 66), (D 67), (D 68), (D 69), (D 70), undef, undef, undef]).toArray, []⟩) (by kernel_rfl) ?_
                      refine lwp_list ?_
                      refine ls_move (x := x0) (by kernel_rfl) (by kernel_rfl) ?_
                      refine ls_move (x := x0) (by kernel_rfl) (by kernel_rfl) ?_
                      refine ls_p (d := some 84) (by kernel_rfl) (by kernel_rfl) (p_nil (by kernel_rfl) H) (fun x84 H => ?_)
                      refine ls_p (d := some 85) (by kernel_rfl) (by kernel_rfl) (p_off Try.underlying83 rfl (fun w => ⟨_, Try.sizeOf24 w⟩) rfl (by kernel_rfl) H) (fun x85 H => ?_)
                      refine ls_y (d := some 86) (by kernel_rfl) (by kernel_rfl) HA_11 (y_ld Try.isAgg24 (by kernel_rfl) H) (fun x86 H => ?_)
                      refine ls_d (d := some 87) (by kernel_rfl) (by kernel_rfl) HA_11 (d_call (by kernel_rfl) (by kernel_rfl) H) (fun x87 h_12 w_12 H HA_12 => ?_)
                      refine ls_fr (b := ⟨([x0, x1, undef, undef, (.int .i64 0), x81, (.int .i64 0), undef, x29, x34, x42, x43, undef, (D_2 0), x18, x0, x16, x17, x18, x23, x0, x21, x22, x23, x1, x25, x26, x27, x28, x29, x0, x31, x32, x33, x34, x41, x0, x37, x38, x39, x29, x41, x42, x43, x42, x45, x46, x47, (D_2 2), (D_2 3)] ++ [(D_2 4), (D_2 5), (D_2 6), (D_2 7), x0, x34, x56, x56, (D_3 0), (D_3 1), (D_3 2), (D_3 3), (D_3 4), x63, x64, x0, x34, x34, (D_4 0), (D_4 1), (D_4 2), (D_4 3), (D_4 4), (D_4 5), x74, x75, x43, x77, x5, x43, x80, x81, x0, x0, x84, x85, x86, x87, (D 66), (D 67), (D 68), (D 69), (D 70), undef, undef, undef]).toArray, []⟩) (by kernel_rfl) ?_
                      refine ls_p (d := some 88) (by kernel_rfl) (by kernel_rfl) (p_fld Try.underlying28 rfl Try.isAgg3 rfl (by kernel_rfl) H) (fun x88 H => ?_)
                      refine ls_p (d := some 89) (by kernel_rfl) (by kernel_rfl) (p_bits (by decide) (by kernel_rfl) (by kernel_rfl) H) (fun x89 H => ?_)
                      refine ls_p (d := some 90) (by kernel_rfl) (by kernel_rfl) (p_sEq (by kernel_rfl) (by kernel_rfl) H) (fun x90 H => ?_)
                      refine ls_d (d := some 91) (by kernel_rfl) (by kernel_rfl) HA_12 (d_call (by kernel_rfl) (by kernel_rfl) H) (fun x91 h_13 w_13 H HA_13 => ?_)
                      refine ls_nil ?_
                      refine block_normal ?_
                      exact ⟨(fun i => ([x29, x34, x42, x43, (D_2 0), x28, x29, x0, x31, x32, x33, x34, x41, x0, x37, x38, x39, x29, x41, x42, x43, x42, x45, x46, x47, (D_2 2), (D_2 3), (D_2 4), (D_2 5), (D_2 6), (D_2 7), x0, x34, x56, x56, (D_3 0), (D_3 1), (D_3 2), (D_3 3), (D_3 4), x63, x64, x0, x34, x34, (D_4 0), (D_4 1), (D_4 2), (D_4 3), (D_4 4)] ++ [(D_4 5), x74, x75, x43, x77, x5, x43, x80, x81, x0, x0, x84, x85, x86, x87, x88, x89, x90, x91]).getD i undef), x81, h_13, by kernel_rfl, HA_13, H⟩
                    · refine wp_skip ?_
                      refine block_normal ?_
                      exact ⟨(fun i => ([x29, x34, x42, x43, (D_2 0), x28, x29, x0, x31, x32, x33, x34, x41, x0, x37, x38, x39, x29, x41, x42, x43, x42, x45, x46, x47, (D_2 2), (D_2 3), (D_2 4), (D_2 5), (D_2 6), (D_2 7), x0, x34, x56, x56, (D_3 0), (D_3 1), (D_3 2), (D_3 3), (D_3 4), x63, x64, x0, x34, x34, (D_4 0), (D_4 1), (D_4 2), (D_4 3), (D_4 4)] ++ [(D_4 5), x74, x75, x43, x77, (D 56), (D 57), (D 58), (D 59), (D 60), (D 61), (D 62), (D 63), (D 64), (D 65), (D 66), (D 67), (D 68), (D 69)]).getD i undef), x5, h_9, by kernel_rfl, HA_9, H⟩
          · rintro _ w_1 ⟨D_1, x5_1, h_1, rfl, HA_1, H⟩
            unfold pty_Pair_MasterWrite_j2 at H
            refine then_normal ?_
            refine fr_eq (b := ⟨([x0, x1, undef, undef, (.int .i64 0), x5_1, (.int .i64 0), undef, (D_1 0), (D_1 1), (D_1 2), (D_1 3), undef, (D_1 4), x18, x0, x16, x17, x18, x23, x0, x21, x22, x23, x1, x25, x26, x27, (D_1 5), (D_1 6), (D_1 7), (D_1 8), (D_1 9), (D_1 10), (D_1 11), (D_1 12), (D_1 13), (D_1 14), (D_1 15), (D_1 16), (D_1 17), (D_1 18), (D_1 19), (D_1 20), (D_1 21), (D_1 22), (D_1 23), (D_1 24), (D_1 25), (D_1 26)] ++ [(D_1 27), (D_1 28), (D_1 29), (D_1 30), (D_1 31), (D_1 32), (D_1 33), (D_1 34), (D_1 35), (D_1 36), (D_1 37), (D_1 38), (D_1 39), (D_1 40), (D_1 41), (D_1 42), (D_1 43), (D_1 44), (D_1 45), (D_1 46), (D_1 47), (D_1 48), (D_1 49), (D_1 50), (D_1 51), (D_1 52), (D_1 53), (D_1 54), (D_1 55), (D_1 56), (D_1 57), (D_1 58), (D_1 59), (D_1 60), (D_1 61), (D_1 62), (D_1 63), (D_1 64), (D_1 65), (D_1 66), (D_1 67), (D_1 68), (D 70), undef, undef, undef]).toArray, []⟩) (by kernel_rfl) ?_
            refine lwp_list ?_
            refine ls_p (d := some 92) (by kernel_rfl) (by kernel_rfl) (p_add (by kernel_rfl) (by kernel_rfl) H) (fun x92 H => ?_)
            refine ls_move (x := x92) (by kernel_rfl) (by kernel_rfl) ?_
            refine ls_nil ?_
            exact ⟨⟨(fun i => ([(D_1 0), (D_1 1), (D_1 2), (D_1 3), (D_1 4), x27, (D_1 5), (D_1 6), (D_1 7), (D_1 8), (D_1 9), (D_1 10), (D_1 11), (D_1 12), (D_1 13), (D_1 14), (D_1 15), (D_1 16), (D_1 17), (D_1 18), (D_1 19), (D_1 20), (D_1 21), (D_1 22), (D_1 23), (D_1 24), (D_1 25), (D_1 26), (D_1 27), (D_1 28), (D_1 29), (D_1 30), (D_1 31), (D_1 32), (D_1 33), (D_1 34), (D_1 35), (D_1 36), (D_1 37), (D_1 38), (D_1 39), (D_1 40), (D_1 41), (D_1 42), (D_1 43), (D_1 44), (D_1 45), (D_1 46), (D_1 47), (D_1 48)] ++ [(D_1 49), (D_1 50), (D_1 51), (D_1 52), (D_1 53), (D_1 54), (D_1 55), (D_1 56), (D_1 57), (D_1 58), (D_1 59), (D_1 60), (D_1 61), (D_1 62), (D_1 63), (D_1 64), (D_1 65), (D_1 66), (D_1 67), (D_1 68), x92]).getD i undef), x5_1, x92, h_1, by kernel_rfl, HA_1, H.1⟩, loop_lt HA_1.heap HA.heap (by kernel_rfl) (by kernel_rfl) H.2⟩
        · refine wp_exit ?_
          refine then_exit ?_
          refine then_exit ?_
          refine block_exit ?_
          refine then_normal ?_
          refine fr_eq (b := ⟨([x0, x1, undef, undef, (.int .i64 0), x5, (.int .i64 0), undef, (D 0), (D 1), (D 2), (D 3), undef, (D 4), x18, x0, x16, x17, x18, x23, x0, x21, x22, x23, x1, x25, x26, x27, (D 6), (D 7), (D 8), (D 9), (D 10), (D 11), (D 12), (D 13), (D 14), (D 15), (D 16), (D 17), (D 18), (D 19), (D 20), (D 21), (D 22), (D 23), (D 24), (D 25), (D 26), (D 27)] ++ [(D 28), (D 29), (D 30), (D 31), (D 32), (D 33), (D 34), (D 35), (D 36), (D 37), (D 38), (D 39), (D 40), (D 41), (D 42), (D 43), (D 44), (D 45), (D 46), (D 47), (D 48), (D 49), (D 50), (D 51), (D 52), (D 53), (D 54), (D 55), (D 56), (D 57), (D 58), (D 59), (D 60), (D 61), (D 62), (D 63), (D 64), (D 65), (D 66), (D 67), (D 68), (D 69), (D 70), undef, undef, undef]).toArray, []⟩) (by kernel_rfl) ?_
          refine wp_seq ?_
          refine lwp_list ?_
          refine ls_move (x := x1) (by kernel_rfl) (by kernel_rfl) ?_
          refine ls_p (d := some 94) (by kernel_rfl) (by kernel_rfl) (p_len Try.underlying30 (by kernel_rfl) H) (fun x94 H => ?_)
          refine ls_move (x := x5) (by kernel_rfl) (by kernel_rfl) ?_
          refine ls_assign (x := x94) (by kernel_rfl) (by kernel_rfl) ?_
          refine ls_assign (x := x5) (by kernel_rfl) (by kernel_rfl) ?_
          refine ls_assign (x := (.int .i64 0)) (by kernel_rfl) (by kernel_rfl) ?_
          refine ls_nil ?_
          refine then_normal ?_
          refine fr_eq (b := ⟨([x0, x1, undef, undef, x94, x5, (.int .i64 0), undef, (D 0), (D 1), (D 2), (D 3), undef, (D 4), x18, x0, x16, x17, x18, x23, x0, x21, x22, x23, x1, x25, x26, x27, (D 6), (D 7), (D 8), (D 9), (D 10), (D 11), (D 12), (D 13), (D 14), (D 15), (D 16), (D 17), (D 18), (D 19), (D 20), (D 21), (D 22), (D 23), (D 24), (D 25), (D 26), (D 27)] ++ [(D 28), (D 29), (D 30), (D 31), (D 32), (D 33), (D 34), (D 35), (D 36), (D 37), (D 38), (D 39), (D 40), (D 41), (D 42), (D 43), (D 44), (D 45), (D 46), (D 47), (D 48), (D 49), (D 50), (D 51), (D 52), (D 53), (D 54), (D 55), (D 56), (D 57), (D 58), (D 59), (D 60), (D 61), (D 62), (D 63), (D 64), (D 65), (D 66), (D 67), (D 68), (D 69), (D 70), x1, x94, x5]).toArray, []⟩) (by kernel_rfl) ?_
          refine wp_ret ?_
          exact end3 (Try.results34) (by kernel_rfl) (by kernel_rfl) (by kernel_rfl) (by kernel_rfl) HA H _ (.inr rfl)

end Go.Proofs.Ytlcklnbgknhhkaa

end

section
/- The shallow reading of one function, and that the function does it. Written by a program. -/
set_option linter.unusedVariables false
namespace Go.Proofs.Ytlcklnbgknhhkaa
open Go Go.HW

def pty_Pair_MasterRead_j1 (R : Value → Heap → Prop) (x0 x1_1 x7 : Value) (h_2 : Heap) : Prop :=
  sNil x0 fun x61 =>
  sOff x61 1 fun x62 =>
  sLd h_2 x62 fun x63 =>
  sLen x63 fun x64 =>
  sMin x1_1 x64 fun x65 =>
  sNil x0 fun x68 =>
  sOff x68 1 fun x69 =>
  sLd h_2 x69 fun x70 =>
  sSl x70 none (some x65) 1 fun x72 =>
  sApp h_2 x7 x72 #[.int .u8 0] 5 1 fun x73 h_3 => 
  sNil x0 fun x76 =>
  sOff x76 1 fun x77 =>
  sLd h_3 x77 fun x78 =>
  sSl x78 (some x65) none 1 fun x80 =>
  slices_Clone_byte_byte_c x80 h_3 fun x81 h_4 => 
  sNil x0 fun x82 =>
  sOff x82 1 fun x83 =>
  sSt h_4 x83 x81 fun h_5 => 
  R (.tuple #[x73, (.int .i64 0)]) h_5
def pty_Pair_MasterRead_S (x0 x1 : Value) (h : Heap) (R : Value → Heap → Prop) : Prop :=
  sNil x0 fun x10 =>
  sOff x10 7 fun x11 =>
  sLd h x11 fun x12 =>
  sIf x12 (R (.tuple #[(.slice none 0 0), (.int .i64 16)]) h) (sLt x1 (.int .i64 1) fun x15 =>
  sIf x15 (R (.tuple #[(.slice none 0 0), (.int .i64 1)]) h) (sNil x0 fun x18 =>
  sOff x18 6 fun x19 =>
  sLd h x19 fun x20 =>
  sNe x20 (.int .u8 0) fun x21 =>
  sIf x21 (sNil x0 fun x23 =>
  sOff x23 6 fun x24 =>
  sLd h x24 fun x25 =>
  sNil x0 fun x27 =>
  sOff x27 6 fun x28 =>
  sSt h x28 (.int .u8 0) fun h => 
  sSlit h #[.int .u8 0] [(0, 1, x25)] 5 1 fun x30 h_1 => 
  R (.tuple #[x30, (.int .i64 0)]) h_1) (sNil x0 fun x33 =>
  sOff x33 1 fun x34 =>
  sLd h x34 fun x35 =>
  sLen x35 fun x36 =>
  sEq x36 (.int .i64 0) fun x37 =>
  sAnd x37 (fun k =>
  sNil x0 fun x40 =>
  sOff x40 8 fun x41 =>
  sLd h x41 fun x42 =>
  k x42) fun x43 =>
  sIf x43 (R (.tuple #[(.slice none 0 0), (.int .i64 13)]) h) (sNil x0 fun x46 =>
  sOff x46 1 fun x47 =>
  sLd h x47 fun x48 =>
  sLen x48 fun x49 =>
  sEq x49 (.int .i64 0) fun x50 =>
  sIf x50 (R (.tuple #[(.slice none 0 0), (.int .i64 12)]) h) (sNil x0 fun x52 =>
  sOff x52 5 fun x53 =>
  sLd h x53 fun x54 =>
  sIf x54 (sSlit h #[.int .u8 0] [(0, 1, (.int .u8 0))] 5 1 fun x55 h_6 => 
  sSub .i64 x1 (.int .i64 1) fun x57 =>
  sMax x57 (.int .i64 1) fun x58 =>
  pty_Pair_MasterRead_j1 R x0 x58 x55 h_6) (pty_Pair_MasterRead_j1 R x0 x1 (.slice none 0 0) h))))))
set_option maxRecDepth 100000 in
theorem pty_Pair_MasterRead_runs {x0 x1 : Value} {h : Heap} {R : Value → Heap → Prop} (H : pty_Pair_MasterRead_S x0 x1 h R) : pty_Pair_MasterRead_c x0 x1 h R := by
  unfold pty_Pair_MasterRead_S at H
  refine runs_of (b := ⟨([x0, x1, undef, undef, undef, undef, undef, undef, undef, undef, undef, undef, undef, undef, undef, undef, undef, undef, undef, undef, undef, undef, undef, undef, undef, undef, undef, undef, undef, undef, undef, undef, undef, undef, undef, undef, undef, undef, undef, undef, undef, undef, undef, undef, undef, undef, undef, undef, undef, undef] ++ [undef, undef, undef, undef, undef, undef, undef, undef, undef, undef, undef, undef, undef, undef, undef, undef, undef, undef, undef, undef, undef, undef, undef, undef, undef, undef, undef, undef, undef, undef, undef, undef, undef, undef, undef]).toArray, []⟩) Try.call36 Try.func36 rfl (by kernel_rfl) (fun w0 HA => ?_)
  refine wp_seq ?_
  refine lwp_list ?_
  refine ls_assign (x := (.slice none 0 0)) (by kernel_rfl) (by kernel_rfl) ?_
  refine ls_assign (x := (.int .i64 0)) (by kernel_rfl) (by kernel_rfl) ?_
  refine ls_nil ?_
  refine then_normal ?_
  refine fr_eq (b := ⟨([x0, x1, undef, undef, (.slice none 0 0), (.int .i64 0), undef, undef, undef, undef, undef, undef, undef, undef, undef, undef, undef, undef, undef, undef, undef, undef, undef, undef, undef, undef, undef, undef, undef, undef, undef, undef, undef, undef, undef, undef, undef, undef, undef, undef, undef, undef, undef, undef, undef, undef, undef, undef, undef, undef] ++ [undef, undef, undef, undef, undef, undef, undef, undef, undef, undef, undef, undef, undef, undef, undef, undef, undef, undef, undef, undef, undef, undef, undef, undef, undef, undef, undef, undef, undef, undef, undef, undef, undef, undef, undef]).toArray, []⟩) (by kernel_rfl) ?_
  refine wp_seq ?_
  refine wp_block ?_
  refine wp_seq ?_
  refine lwp_list ?_
  refine ls_move (x := x0) (by kernel_rfl) (by kernel_rfl) ?_
  refine ls_p (d := some 10) (by kernel_rfl) (by kernel_rfl) (p_nil (by kernel_rfl) H) (fun x10 H => ?_)
  refine ls_p (d := some 11) (by kernel_rfl) (by kernel_rfl) (p_off Try.underlying83 rfl (fun w => ⟨_, Try.sizeOf4 w⟩) rfl (by kernel_rfl) H) (fun x11 H => ?_)
  refine ls_y (d := some 12) (by kernel_rfl) (by kernel_rfl) HA (y_ld Try.isAgg4 (by kernel_rfl) H) (fun x12 H => ?_)
  refine ls_assign (x := x12) (by kernel_rfl) (by kernel_rfl) ?_
  refine ls_nil ?_
  refine then_normal ?_
  refine fr_eq (b := ⟨([x0, x1, undef, undef, (.slice none 0 0), (.int .i64 0), undef, undef, x12, x0, x10, x11, x12, undef, undef, undef, undef, undef, undef, undef, undef, undef, undef, undef, undef, undef, undef, undef, undef, undef, undef, undef, undef, undef, undef, undef, undef, undef, undef, undef, undef, undef, undef, undef, undef, undef, undef, undef, undef, undef] ++ [undef, undef, undef, undef, undef, undef, undef, undef, undef, undef, undef, undef, undef, undef, undef, undef, undef, undef, undef, undef, undef, undef, undef, undef, undef, undef, undef, undef, undef, undef, undef, undef, undef, undef, undef]).toArray, []⟩) (by kernel_rfl) ?_
  refine wp_if rfl H (fun H => ?_) (fun H => ?_)
  · refine wp_seq ?_
    refine lwp_list ?_
    refine ls_assign (x := (.slice none 0 0)) (by kernel_rfl) (by kernel_rfl) ?_
    refine ls_assign (x := (.int .i64 16)) (by kernel_rfl) (by kernel_rfl) ?_
    refine ls_nil ?_
    refine then_normal ?_
    refine fr_eq (b := ⟨([x0, x1, undef, undef, (.slice none 0 0), (.int .i64 16), undef, undef, x12, x0, x10, x11, x12, undef, undef, undef, undef, undef, undef, undef, undef, undef, undef, undef, undef, undef, undef, undef, undef, undef, undef, undef, undef, undef, undef, undef, undef, undef, undef, undef, undef, undef, undef, undef, undef, undef, undef, undef, undef, undef] ++ [undef, undef, undef, undef, undef, undef, undef, undef, undef, undef, undef, undef, undef, undef, undef, undef, undef, undef, undef, undef, undef, undef, undef, undef, undef, undef, undef, undef, undef, undef, undef, undef, undef, undef, undef]).toArray, []⟩) (by kernel_rfl) ?_
    refine wp_ret ?_
    refine block_ret ?_
    refine then_ret ?_
    exact end2 (Try.results36) (by kernel_rfl) (by kernel_rfl) (by kernel_rfl) HA H _ (.inr rfl)
  · refine wp_seq ?_
    refine lwp_list ?_
    refine ls_move (x := x1) (by kernel_rfl) (by kernel_rfl) ?_
    refine ls_p (d := some 15) (by kernel_rfl) (by kernel_rfl) (p_sLt (by kernel_rfl) (by kernel_rfl) H) (fun x15 H => ?_)
    refine ls_assign (x := x15) (by kernel_rfl) (by kernel_rfl) ?_
    refine ls_nil ?_
    refine then_normal ?_
    refine fr_eq (b := ⟨([x0, x1, undef, undef, (.slice none 0 0), (.int .i64 0), undef, undef, x12, x0, x10, x11, x12, x15, x1, x15, undef, undef, undef, undef, undef, undef, undef, undef, undef, undef, undef, undef, undef, undef, undef, undef, undef, undef, undef, undef, undef, undef, undef, undef, undef, undef, undef, undef, undef, undef, undef, undef, undef, undef] ++ [undef, undef, undef, undef, undef, undef, undef, undef, undef, undef, undef, undef, undef, undef, undef, undef, undef, undef, undef, undef, undef, undef, undef, undef, undef, undef, undef, undef, undef, undef, undef, undef, undef, undef, undef]).toArray, []⟩) (by kernel_rfl) ?_
    refine wp_if rfl H (fun H => ?_) (fun H => ?_)
    · refine wp_seq ?_
      refine lwp_list ?_
      refine ls_assign (x := (.slice none 0 0)) (by kernel_rfl) (by kernel_rfl) ?_
      refine ls_assign (x := (.int .i64 1)) (by kernel_rfl) (by kernel_rfl) ?_
      refine ls_nil ?_
      refine then_normal ?_
      refine fr_eq (b := ⟨([x0, x1, undef, undef, (.slice none 0 0), (.int .i64 1), undef, undef, x12, x0, x10, x11, x12, x15, x1, x15, undef, undef, undef, undef, undef, undef, undef, undef, undef, undef, undef, undef, undef, undef, undef, undef, undef, undef, undef, undef, undef, undef, undef, undef, undef, undef, undef, undef, undef, undef, undef, undef, undef, undef] ++ [undef, undef, undef, undef, undef, undef, undef, undef, undef, undef, undef, undef, undef, undef, undef, undef, undef, undef, undef, undef, undef, undef, undef, undef, undef, undef, undef, undef, undef, undef, undef, undef, undef, undef, undef]).toArray, []⟩) (by kernel_rfl) ?_
      refine wp_ret ?_
      refine block_ret ?_
      refine then_ret ?_
      exact end2 (Try.results36) (by kernel_rfl) (by kernel_rfl) (by kernel_rfl) HA H _ (.inr rfl)
    · refine wp_seq ?_
      refine lwp_list ?_
      refine ls_move (x := x0) (by kernel_rfl) (by kernel_rfl) ?_
      refine ls_p (d := some 18) (by kernel_rfl) (by kernel_rfl) (p_nil (by kernel_rfl) H) (fun x18 H => ?_)
      refine ls_p (d := some 19) (by kernel_rfl) (by kernel_rfl) (p_off Try.underlying83 rfl (fun w => ⟨_, Try.sizeOf5 w⟩) rfl (by kernel_rfl) H) (fun x19 H => ?_)
      refine ls_y (d := some 20) (by kernel_rfl) (by kernel_rfl) HA (y_ld Try.isAgg5 (by kernel_rfl) H) (fun x20 H => ?_)
      refine ls_p (d := some 21) (by kernel_rfl) (by kernel_rfl) (p_sNe (by kernel_rfl) (by kernel_rfl) H) (fun x21 H => ?_)
      refine ls_assign (x := x21) (by kernel_rfl) (by kernel_rfl) ?_
      refine ls_nil ?_
      refine then_normal ?_
      refine fr_eq (b := ⟨([x0, x1, undef, undef, (.slice none 0 0), (.int .i64 0), undef, undef, x12, x0, x10, x11, x12, x15, x1, x15, x21, x0, x18, x19, x20, x21, undef, undef, undef, undef, undef, undef, undef, undef, undef, undef, undef, undef, undef, undef, undef, undef, undef, undef, undef, undef, undef, undef, undef, undef, undef, undef, undef, undef] ++ [undef, undef, undef, undef, undef, undef, undef, undef, undef, undef, undef, undef, undef, undef, undef, undef, undef, undef, undef, undef, undef, undef, undef, undef, undef, undef, undef, undef, undef, undef, undef, undef, undef, undef, undef]).toArray, []⟩) (by kernel_rfl) ?_
      refine wp_if rfl H (fun H => ?_) (fun H => ?_)
      · refine wp_seq ?_
        refine lwp_list ?_
        refine ls_move (x := x0) (by kernel_rfl) (by kernel_rfl) ?_
        refine ls_p (d := some 23) (by kernel_rfl) (by kernel_rfl) (p_nil (by kernel_rfl) H) (fun x23 H => ?_)
        refine ls_p (d := some 24) (by kernel_rfl) (by kernel_rfl) (p_off Try.underlying83 rfl (fun w => ⟨_, Try.sizeOf5 w⟩) rfl (by kernel_rfl) H) (fun x24 H => ?_)
        refine ls_y (d := some 25) (by kernel_rfl) (by kernel_rfl) HA (y_ld Try.isAgg5 (by kernel_rfl) H) (fun x25 H => ?_)
        refine ls_assign (x := x25) (by kernel_rfl) (by kernel_rfl) ?_
        refine ls_nil ?_
        refine then_normal ?_
        refine fr_eq (b := ⟨([x0, x1, undef, undef, (.slice none 0 0), (.int .i64 0), x25, undef, x12, x0, x10, x11, x12, x15, x1, x15, x21, x0, x18, x19, x20, x21, x0, x23, x24, x25, undef, undef, undef, undef, undef, undef, undef, undef, undef, undef, undef, undef, undef, undef, undef, undef, undef, undef, undef, undef, undef, undef, undef, undef] ++ [undef, undef, undef, undef, undef, undef, undef, undef, undef, undef, undef, undef, undef, undef, undef, undef, undef, undef, undef, undef, undef, undef, undef, undef, undef, undef, undef, undef, undef, undef, undef, undef, undef, undef, undef]).toArray, []⟩) (by kernel_rfl) ?_
        refine wp_seq ?_
        refine lwp_list ?_
        refine ls_move (x := x0) (by kernel_rfl) (by kernel_rfl) ?_
        refine ls_p (d := some 27) (by kernel_rfl) (by kernel_rfl) (p_nil (by kernel_rfl) H) (fun x27 H => ?_)
        refine ls_p (d := some 28) (by kernel_rfl) (by kernel_rfl) (p_off Try.underlying83 rfl (fun w => ⟨_, Try.sizeOf5 w⟩) rfl (by kernel_rfl) H) (fun x28 H => ?_)
        refine ls_d (d := none) (by kernel_rfl) (by kernel_rfl) HA (d_st Try.sizeOf5 (by kernel_rfl) (by kernel_rfl) H) (fun _ h w H HA => ?_)
        refine ls_nil ?_
        refine then_normal ?_
        refine fr_eq (b := ⟨([x0, x1, undef, undef, (.slice none 0 0), (.int .i64 0), x25, undef, x12, x0, x10, x11, x12, x15, x1, x15, x21, x0, x18, x19, x20, x21, x0, x23, x24, x25, x0, x27, x28, undef, undef, undef, undef, undef, undef, undef, undef, undef, undef, undef, undef, undef, undef, undef, undef, undef, undef, undef, undef, undef] ++ [undef, undef, undef, undef, undef, undef, undef, undef, undef, undef, undef, undef, undef, undef, undef, undef, undef, undef, undef, undef, undef, undef, undef, undef, undef, undef, undef, undef, undef, undef, undef, undef, undef, undef, undef]).toArray, []⟩) (by kernel_rfl) ?_
        refine wp_seq ?_
        refine lwp_list ?_
        refine ls_move (x := x25) (by kernel_rfl) (by kernel_rfl) ?_
        refine ls_d (d := some 30) (by kernel_rfl) (by kernel_rfl) HA (d_slit (zc := #[.int .u8 0]) Try.underlying30 Try.sizeOf5 (by decide) (.inr ⟨by decide, _, Try.zeroValue5, (by kernel_rfl)⟩) (by kernel_rfl) (by kernel_rfl) H) (fun x30 h_1 w_1 H HA_1 => ?_)
        refine ls_assign (x := x30) (by kernel_rfl) (by kernel_rfl) ?_
        refine ls_assign (x := (.int .i64 0)) (by kernel_rfl) (by kernel_rfl) ?_
        refine ls_nil ?_
        refine then_normal ?_
        refine fr_eq (b := ⟨([x0, x1, undef, undef, x30, (.int .i64 0), x25, undef, x12, x0, x10, x11, x12, x15, x1, x15, x21, x0, x18, x19, x20, x21, x0, x23, x24, x25, x0, x27, x28, x25, x30, undef, undef, undef, undef, undef, undef, undef, undef, undef, undef, undef, undef, undef, undef, undef, undef, undef, undef, undef] ++ [undef, undef, undef, undef, undef, undef, undef, undef, undef, undef, undef, undef, undef, undef, undef, undef, undef, undef, undef, undef, undef, undef, undef, undef, undef, undef, undef, undef, undef, undef, undef, undef, undef, undef, undef]).toArray, []⟩) (by kernel_rfl) ?_
        refine wp_ret ?_
        refine block_ret ?_
        refine then_ret ?_
        exact end2 (Try.results36) (by kernel_rfl) (by kernel_rfl) (by kernel_rfl) HA_1 H _ (.inr rfl)
      · refine wp_seq ?_
        refine lwp_list ?_
        refine ls_move (x := x0) (by kernel_rfl) (by kernel_rfl) ?_
        refine ls_p (d := some 33) (by kernel_rfl) (by kernel_rfl) (p_nil (by kernel_rfl) H) (fun x33 H => ?_)
        refine ls_p (d := some 34) (by kernel_rfl) (by kernel_rfl) (p_off Try.underlying83 rfl (fun w => ⟨_, Try.sizeOf30 w⟩) rfl (by kernel_rfl) H) (fun x34 H => ?_)
        refine ls_y (d := some 35) (by kernel_rfl) (by kernel_rfl) HA (y_ld Try.isAgg30 (by kernel_rfl) H) (fun x35 H => ?_)
        refine ls_p (d := some 36) (by kernel_rfl) (by kernel_rfl) (p_len Try.underlying30 (by kernel_rfl) H) (fun x36 H => ?_)
        refine ls_p (d := some 37) (by kernel_rfl) (by kernel_rfl) (p_sEq (by kernel_rfl) (by kernel_rfl) H) (fun x37 H => ?_)
        refine ls_fr (b := ⟨([x0, x1, undef, undef, (.slice none 0 0), (.int .i64 0), undef, undef, x12, x0, x10, x11, x12, x15, x1, x15, x21, x0, x18, x19, x20, x21, undef, undef, undef, undef, undef, undef, undef, undef, undef, undef, x0, x33, x34, x35, x36, x37, undef, undef, undef, undef, undef, undef, undef, undef, undef, undef, undef, undef] ++ [undef, undef, undef, undef, undef, undef, undef, undef, undef, undef, undef, undef, undef, undef, undef, undef, undef, undef, undef, undef, undef, undef, undef, undef, undef, undef, undef, undef, undef, undef, undef, undef, undef, undef, undef]).toArray, []⟩) (by kernel_rfl) ?_
        refine ls_move (x := x37) (by kernel_rfl) (by kernel_rfl) ?_
        refine ls_and [(), (), (), (), ()] (fun K a w => ∃ (D : Nat → Value) (x43 : Value), a = ⟨([x0, x1, undef, undef, (.slice none 0 0), (.int .i64 0), undef, undef, x12, x0, x10, x11, x12, x15, x1, x15, x21, x0, x18, x19, x20, x21, undef, undef, undef, undef, undef, undef, undef, undef, undef, undef, x0, x33, x34, x35, x36, x37, x37, (D 0), (D 1), (D 2), (D 3), x43, undef, undef, undef, undef, undef, undef] ++ [undef, undef, undef, undef, undef, undef, undef, undef, undef, undef, undef, undef, undef, undef, undef, undef, undef, undef, undef, undef, undef, undef, undef, undef, undef, undef, undef, undef, undef, undef, undef, undef, undef, undef, undef]).toArray, []⟩ ∧ At w0 w h ∧ K x43) H (fun hb H => ?_) (fun hb H => ?_) ?_
        · refine ls_move (x := x0) (by rw [hb]; kernel_rfl) (by kernel_rfl) ?_
          refine ls_p (d := some 40) (by kernel_rfl) (by rw [hb]; kernel_rfl) (p_nil (by kernel_rfl) H) (fun x40 H => ?_)
          refine ls_p (d := some 41) (by kernel_rfl) (by rw [hb]; kernel_rfl) (p_off Try.underlying83 rfl (fun w => ⟨_, Try.sizeOf4 w⟩) rfl (by kernel_rfl) H) (fun x41 H => ?_)
          refine ls_y (d := some 42) (by kernel_rfl) (by rw [hb]; kernel_rfl) HA (y_ld Try.isAgg4 (by kernel_rfl) H) (fun x42 H => ?_)
          refine ls_pick_t (x := x42) (by kernel_rfl) (by rw [hb]; kernel_rfl) (by kernel_rfl) ?_
          refine ls_nil ?_
          refine then_normal ?_
          exact ⟨(fun i => ([x0, x40, x41, x42]).getD i undef), x42, by kernel_rfl, HA, H⟩
        · refine ls_skip (d := some 39) (by kernel_rfl) (by rw [hb]; kernel_rfl) ?_
          refine ls_skip (d := some 40) (by kernel_rfl) (by rw [hb]; kernel_rfl) ?_
          refine ls_skip (d := some 41) (by kernel_rfl) (by rw [hb]; kernel_rfl) ?_
          refine ls_skip (d := some 42) (by kernel_rfl) (by rw [hb]; kernel_rfl) ?_
          refine ls_pick_f (y := (.bool false)) (by kernel_rfl) (by rw [hb]; kernel_rfl) (by kernel_rfl) ?_
          refine ls_nil ?_
          refine then_normal ?_
          exact ⟨(fun i => ([undef, undef, undef, undef]).getD i undef), (.bool false), by kernel_rfl, HA, H⟩
        · rintro _ w_2 ⟨D, x43, rfl, HA_2, H⟩
          refine ls_assign (x := x43) (by kernel_rfl) (by kernel_rfl) ?_
          refine ls_nil ?_
          refine then_normal ?_
          refine fr_eq (b := ⟨([x0, x1, undef, undef, (.slice none 0 0), (.int .i64 0), undef, undef, x12, x0, x10, x11, x12, x15, x1, x15, x21, x0, x18, x19, x20, x21, undef, undef, undef, undef, undef, undef, undef, undef, undef, x43, x0, x33, x34, x35, x36, x37, x37, (D 0), (D 1), (D 2), (D 3), x43, undef, undef, undef, undef, undef, undef] ++ [undef, undef, undef, undef, undef, undef, undef, undef, undef, undef, undef, undef, undef, undef, undef, undef, undef, undef, undef, undef, undef, undef, undef, undef, undef, undef, undef, undef, undef, undef, undef, undef, undef, undef, undef]).toArray, []⟩) (by kernel_rfl) ?_
          refine wp_if rfl H (fun H => ?_) (fun H => ?_)
          · refine wp_seq ?_
            refine lwp_list ?_
            refine ls_assign (x := (.slice none 0 0)) (by kernel_rfl) (by kernel_rfl) ?_
            refine ls_assign (x := (.int .i64 13)) (by kernel_rfl) (by kernel_rfl) ?_
            refine ls_nil ?_
            refine then_normal ?_
            refine fr_eq (b := ⟨([x0, x1, undef, undef, (.slice none 0 0), (.int .i64 13), undef, undef, x12, x0, x10, x11, x12, x15, x1, x15, x21, x0, x18, x19, x20, x21, undef, undef, undef, undef, undef, undef, undef, undef, undef, x43, x0, x33, x34, x35, x36, x37, x37, (D 0), (D 1), (D 2), (D 3), x43, undef, undef, undef, undef, undef, undef] ++ [undef, undef, undef, undef, undef, undef, undef, undef, undef, undef, undef, undef, undef, undef, undef, undef, undef, undef, undef, undef, undef, undef, undef, undef, undef, undef, undef, undef, undef, undef, undef, undef, undef, undef, undef]).toArray, []⟩) (by kernel_rfl) ?_
            refine wp_ret ?_
            refine block_ret ?_
            refine then_ret ?_
            exact end2 (Try.results36) (by kernel_rfl) (by kernel_rfl) (by kernel_rfl) HA_2 H _ (.inr rfl)
          · refine wp_seq ?_
            refine lwp_list ?_
            refine ls_move (x := x0) (by kernel_rfl) (by kernel_rfl) ?_
            refine ls_p (d := some 46) (by kernel_rfl) (by kernel_rfl) (p_nil (by kernel_rfl) H) (fun x46 H => ?_)
            refine ls_p (d := some 47) (by kernel_rfl) (by kernel_rfl) (p_off Try.underlying83 rfl (fun w => ⟨_, Try.sizeOf30 w⟩) rfl (by kernel_rfl) H) (fun x47 H => ?_)
            refine ls_y (d := some 48) (by kernel_rfl) (by kernel_rfl) HA_2 (y_ld Try.isAgg30 (by kernel_rfl) H) (fun x48 H => ?_)
            refine ls_p (d := some 49) (by kernel_rfl) (by kernel_rfl) (p_len Try.underlying30 (by kernel_rfl) H) (fun x49 H => ?_)
            refine ls_p (d := some 50) (by kernel_rfl) (by kernel_rfl) (p_sEq (by kernel_rfl) (by kernel_rfl) H) (fun x50 H => ?_)
            refine ls_fr (b := ⟨([x0, x1, undef, undef, (.slice none 0 0), (.int .i64 0), undef, undef, x12, x0, x10, x11, x12, x15, x1, x15, x21, x0, x18, x19, x20, x21, undef, undef, undef, undef, undef, undef, undef, undef, undef, x43, x0, x33, x34, x35, x36, x37, x37, (D 0), (D 1), (D 2), (D 3), x43, undef, x0, x46, x47, x48, x49] ++ [x50, undef, undef, undef, undef, undef, undef, undef, undef, undef, undef, undef, undef, undef, undef, undef, undef, undef, undef, undef, undef, undef, undef, undef, undef, undef, undef, undef, undef, undef, undef, undef, undef, undef, undef]).toArray, []⟩) (by kernel_rfl) ?_
            refine ls_assign (x := x50) (by kernel_rfl) (by kernel_rfl) ?_
            refine ls_nil ?_
            refine then_normal ?_
            refine fr_eq (b := ⟨([x0, x1, undef, undef, (.slice none 0 0), (.int .i64 0), undef, undef, x12, x0, x10, x11, x12, x15, x1, x15, x21, x0, x18, x19, x20, x21, undef, undef, undef, undef, undef, undef, undef, undef, undef, x43, x0, x33, x34, x35, x36, x37, x37, (D 0), (D 1), (D 2), (D 3), x43, x50, x0, x46, x47, x48, x49] ++ [x50, undef, undef, undef, undef, undef, undef, undef, undef, undef, undef, undef, undef, undef, undef, undef, undef, undef, undef, undef, undef, undef, undef, undef, undef, undef, undef, undef, undef, undef, undef, undef, undef, undef, undef]).toArray, []⟩) (by kernel_rfl) ?_
            refine wp_if rfl H (fun H => ?_) (fun H => ?_)
            · refine wp_seq ?_
              refine lwp_list ?_
              refine ls_assign (x := (.slice none 0 0)) (by kernel_rfl) (by kernel_rfl) ?_
              refine ls_assign (x := (.int .i64 12)) (by kernel_rfl) (by kernel_rfl) ?_
              refine ls_nil ?_
              refine then_normal ?_
              refine fr_eq (b := ⟨([x0, x1, undef, undef, (.slice none 0 0), (.int .i64 12), undef, undef, x12, x0, x10, x11, x12, x15, x1, x15, x21, x0, x18, x19, x20, x21, undef, undef, undef, undef, undef, undef, undef, undef, undef, x43, x0, x33, x34, x35, x36, x37, x37, (D 0), (D 1), (D 2), (D 3), x43, x50, x0, x46, x47, x48, x49] ++ [x50, undef, undef, undef, undef, undef, undef, undef, undef, undef, undef, undef, undef, undef, undef, undef, undef, undef, undef, undef, undef, undef, undef, undef, undef, undef, undef, undef, undef, undef, undef, undef, undef, undef, undef]).toArray, []⟩) (by kernel_rfl) ?_
              refine wp_ret ?_
              refine block_ret ?_
              refine then_ret ?_
              exact end2 (Try.results36) (by kernel_rfl) (by kernel_rfl) (by kernel_rfl) HA_2 H _ (.inr rfl)
            · refine wp_skip ?_
              refine block_normal ?_
              refine then_normal ?_
              refine fr_eq (b := ⟨([x0, x1, undef, undef, (.slice none 0 0), (.int .i64 0), undef, undef, x12, x0, x10, x11, x12, x15, x1, x15, x21, x0, x18, x19, x20, x21, undef, undef, undef, undef, undef, undef, undef, undef, undef, x43, x0, x33, x34, x35, x36, x37, x37, (D 0), (D 1), (D 2), (D 3), x43, x50, x0, x46, x47, x48, x49] ++ [x50, undef, undef, undef, undef, undef, undef, undef, undef, undef, undef, undef, undef, undef, undef, undef, undef, undef, undef, undef, undef, undef, undef, undef, undef, undef, undef, undef, undef, undef, undef, undef, undef, undef, undef]).toArray, []⟩) (by kernel_rfl) ?_
              refine wp_seq ?_
              refine lwp_list ?_
              refine ls_assign (x := (.slice none 0 0)) (by kernel_rfl) (by kernel_rfl) ?_
              refine ls_nil ?_
              refine then_normal ?_
              refine fr_eq (b := ⟨([x0, x1, undef, undef, (.slice none 0 0), (.int .i64 0), undef, (.slice none 0 0), x12, x0, x10, x11, x12, x15, x1, x15, x21, x0, x18, x19, x20, x21, undef, undef, undef, undef, undef, undef, undef, undef, undef, x43, x0, x33, x34, x35, x36, x37, x37, (D 0), (D 1), (D 2), (D 3), x43, x50, x0, x46, x47, x48, x49] ++ [x50, undef, undef, undef, undef, undef, undef, undef, undef, undef, undef, undef, undef, undef, undef, undef, undef, undef, undef, undef, undef, undef, undef, undef, undef, undef, undef, undef, undef, undef, undef, undef, undef, undef, undef]).toArray, []⟩) (by kernel_rfl) ?_
              refine wp_seq ?_
              refine wp_seq ?_
              refine lwp_list ?_
              refine ls_move (x := x0) (by kernel_rfl) (by kernel_rfl) ?_
              refine ls_p (d := some 52) (by kernel_rfl) (by kernel_rfl) (p_nil (by kernel_rfl) H) (fun x52 H => ?_)
              refine ls_p (d := some 53) (by kernel_rfl) (by kernel_rfl) (p_off Try.underlying83 rfl (fun w => ⟨_, Try.sizeOf4 w⟩) rfl (by kernel_rfl) H) (fun x53 H => ?_)
              refine ls_y (d := some 54) (by kernel_rfl) (by kernel_rfl) HA_2 (y_ld Try.isAgg4 (by kernel_rfl) H) (fun x54 H => ?_)
              refine ls_nil ?_
              refine then_normal ?_
              refine fr_eq (b := ⟨([x0, x1, undef, undef, (.slice none 0 0), (.int .i64 0), undef, (.slice none 0 0), x12, x0, x10, x11, x12, x15, x1, x15, x21, x0, x18, x19, x20, x21, undef, undef, undef, undef, undef, undef, undef, undef, undef, x43, x0, x33, x34, x35, x36, x37, x37, (D 0), (D 1), (D 2), (D 3), x43, x50, x0, x46, x47, x48, x49] ++ [x50, x0, x52, x53, x54, undef, undef, undef, undef, undef, undef, undef, undef, undef, undef, undef, undef, undef, undef, undef, undef, undef, undef, undef, undef, undef, undef, undef, undef, undef, undef, undef, undef, undef, undef]).toArray, []⟩) (by kernel_rfl) ?_
              refine wp_join (fun a w => ∃ (D_1 : Nat → Value) (x1_1 x7 : Value) (h_2 : Heap), a = ⟨([x0, x1_1, undef, undef, (.slice none 0 0), (.int .i64 0), undef, x7, x12, x0, x10, x11, x12, x15, x1, x15, x21, x0, x18, x19, x20, x21, undef, undef, undef, undef, undef, undef, undef, undef, undef, x43, x0, x33, x34, x35, x36, x37, x37, (D 0), (D 1), (D 2), (D 3), x43, x50, x0, x46, x47, x48, x49] ++ [x50, x0, x52, x53, x54, (D_1 0), (D_1 1), (D_1 2), (D_1 3), undef, undef, undef, undef, undef, undef, undef, undef, undef, undef, undef, undef, undef, undef, undef, undef, undef, undef, undef, undef, undef, undef, undef, undef, undef, undef]).toArray, []⟩ ∧ At w0 w h_2 ∧ pty_Pair_MasterRead_j1 R x0 x1_1 x7 h_2) ?_ ?_
              · refine wp_if rfl H (fun H => ?_) (fun H => ?_)
                · refine wp_seq ?_
                  refine lwp_list ?_
                  refine ls_d (d := some 55) (by kernel_rfl) (by kernel_rfl) HA_2 (d_slit (zc := #[.int .u8 0]) Try.underlying30 Try.sizeOf5 (by decide) (.inr ⟨by decide, _, Try.zeroValue5, (by kernel_rfl)⟩) (by kernel_rfl) (by kernel_rfl) H) (fun x55 h_6 w_7 H HA_7 => ?_)
                  refine ls_assign (x := x55) (by kernel_rfl) (by kernel_rfl) ?_
                  refine ls_nil ?_
                  refine then_normal ?_
                  refine fr_eq (b := ⟨([x0, x1, undef, undef, (.slice none 0 0), (.int .i64 0), undef, x55, x12, x0, x10, x11, x12, x15, x1, x15, x21, x0, x18, x19, x20, x21, undef, undef, undef, undef, undef, undef, undef, undef, undef, x43, x0, x33, x34, x35, x36, x37, x37, (D 0), (D 1), (D 2), (D 3), x43, x50, x0, x46, x47, x48, x49] ++ [x50, x0, x52, x53, x54, x55, undef, undef, undef, undef, undef, undef, undef, undef, undef, undef, undef, undef, undef, undef, undef, undef, undef, undef, undef, undef, undef, undef, undef, undef, undef, undef, undef, undef, undef]).toArray, []⟩) (by kernel_rfl) ?_
                  refine lwp_list ?_
                  refine ls_move (x := x1) (by kernel_rfl) (by kernel_rfl) ?_
                  refine ls_p (d := some 57) (by kernel_rfl) (by kernel_rfl) (p_sub (by kernel_rfl) (by kernel_rfl) H) (fun x57 H => ?_)
                  refine ls_p (d := some 58) (by kernel_rfl) (by kernel_rfl) (p_max (by kernel_rfl) (by kernel_rfl) H) (fun x58 H => ?_)
                  refine ls_assign (x := x58) (by kernel_rfl) (by kernel_rfl) ?_
                  refine ls_nil ?_
                  exact ⟨(fun i => ([x55, x1, x57, x58]).getD i undef), x58, x55, h_6, by kernel_rfl, HA_7, H⟩
                · refine wp_skip ?_
                  exact ⟨(fun i => ([undef, undef, undef, undef]).getD i undef), x1, (.slice none 0 0), h, by kernel_rfl, HA_2, H⟩
              · rintro _ w_3 ⟨D_1, x1_1, x7, h_2, rfl, HA_3, H⟩
                unfold pty_Pair_MasterRead_j1 at H
                refine then_normal ?_
                refine fr_eq (b := ⟨([x0, x1_1, undef, undef, (.slice none 0 0), (.int .i64 0), undef, x7, x12, x0, x10, x11, x12, x15, x1, x15, x21, x0, x18, x19, x20, x21, undef, undef, undef, undef, undef, undef, undef, undef, undef, x43, x0, x33, x34, x35, x36, x37, x37, (D 0), (D 1), (D 2), (D 3), x43, x50, x0, x46, x47, x48, x49] ++ [x50, x0, x52, x53, x54, (D_1 0), (D_1 1), (D_1 2), (D_1 3), undef, undef, undef, undef, undef, undef, undef, undef, undef, undef, undef, undef, undef, undef, undef, undef, undef, undef, undef, undef, undef, undef, undef, undef, undef, undef]).toArray, []⟩) (by kernel_rfl) ?_
                refine wp_seq ?_
                refine lwp_list ?_
                refine ls_move (x := x1_1) (by kernel_rfl) (by kernel_rfl) ?_
                refine ls_move (x := x0) (by kernel_rfl) (by kernel_rfl) ?_
                refine ls_p (d := some 61) (by kernel_rfl) (by kernel_rfl) (p_nil (by kernel_rfl) H) (fun x61 H => ?_)
                refine ls_p (d := some 62) (by kernel_rfl) (by kernel_rfl) (p_off Try.underlying83 rfl (fun w => ⟨_, Try.sizeOf30 w⟩) rfl (by kernel_rfl) H) (fun x62 H => ?_)
                refine ls_y (d := some 63) (by kernel_rfl) (by kernel_rfl) HA_3 (y_ld Try.isAgg30 (by kernel_rfl) H) (fun x63 H => ?_)
                refine ls_p (d := some 64) (by kernel_rfl) (by kernel_rfl) (p_len Try.underlying30 (by kernel_rfl) H) (fun x64 H => ?_)
                refine ls_fr (b := ⟨([x0, x1_1, undef, undef, (.slice none 0 0), (.int .i64 0), undef, x7, x12, x0, x10, x11, x12, x15, x1, x15, x21, x0, x18, x19, x20, x21, undef, undef, undef, undef, undef, undef, undef, undef, undef, x43, x0, x33, x34, x35, x36, x37, x37, (D 0), (D 1), (D 2), (D 3), x43, x50, x0, x46, x47, x48, x49] ++ [x50, x0, x52, x53, x54, (D_1 0), (D_1 1), (D_1 2), (D_1 3), x1_1, x0, x61, x62, x63, x64, undef, undef, undef, undef, undef, undef, undef, undef, undef, undef, undef, undef, undef, undef, undef, undef, undef, undef, undef, undef]).toArray, []⟩) (by kernel_rfl) ?_
                refine ls_p (d := some 65) (by kernel_rfl) (by kernel_rfl) (p_min (by kernel_rfl) (by kernel_rfl) H) (fun x65 H => ?_)
                refine ls_assign (x := x65) (by kernel_rfl) (by kernel_rfl) ?_
                refine ls_nil ?_
                refine then_normal ?_
                refine fr_eq (b := ⟨([x0, x65, undef, undef, (.slice none 0 0), (.int .i64 0), undef, x7, x12, x0, x10, x11, x12, x15, x1, x15, x21, x0, x18, x19, x20, x21, undef, undef, undef, undef, undef, undef, undef, undef, undef, x43, x0, x33, x34, x35, x36, x37, x37, (D 0), (D 1), (D 2), (D 3), x43, x50, x0, x46, x47, x48, x49] ++ [x50, x0, x52, x53, x54, (D_1 0), (D_1 1), (D_1 2), (D_1 3), x1_1, x0, x61, x62, x63, x64, x65, undef, undef, undef, undef, undef, undef, undef, undef, undef, undef, undef, undef, undef, undef, undef, undef, undef, undef, undef]).toArray, []⟩) (by kernel_rfl) ?_
                refine wp_seq ?_
                refine lwp_list ?_
                refine ls_move (x := x7) (by kernel_rfl) (by kernel_rfl) ?_
                refine ls_move (x := x0) (by kernel_rfl) (by kernel_rfl) ?_
                refine ls_p (d := some 68) (by kernel_rfl) (by kernel_rfl) (p_nil (by kernel_rfl) H) (fun x68 H => ?_)
                refine ls_p (d := some 69) (by kernel_rfl) (by kernel_rfl) (p_off Try.underlying83 rfl (fun w => ⟨_, Try.sizeOf30 w⟩) rfl (by kernel_rfl) H) (fun x69 H => ?_)
                refine ls_y (d := some 70) (by kernel_rfl) (by kernel_rfl) HA_3 (y_ld Try.isAgg30 (by kernel_rfl) H) (fun x70 H => ?_)
                refine ls_move (x := x65) (by kernel_rfl) (by kernel_rfl) ?_
                refine ls_fr (b := ⟨([x0, x65, undef, undef, (.slice none 0 0), (.int .i64 0), undef, x7, x12, x0, x10, x11, x12, x15, x1, x15, x21, x0, x18, x19, x20, x21, undef, undef, undef, undef, undef, undef, undef, undef, undef, x43, x0, x33, x34, x35, x36, x37, x37, (D 0), (D 1), (D 2), (D 3), x43, x50, x0, x46, x47, x48, x49] ++ [x50, x0, x52, x53, x54, (D_1 0), (D_1 1), (D_1 2), (D_1 3), x1_1, x0, x61, x62, x63, x64, x65, x7, x0, x68, x69, x70, x65, undef, undef, undef, undef, undef, undef, undef, undef, undef, undef, undef, undef, undef]).toArray, []⟩) (by kernel_rfl) ?_
                refine ls_p (d := some 72) (by kernel_rfl) (by kernel_rfl) (p_sl Try.underlying30 Try.sizeOf5 (by kernel_rfl) (by kernel_rfl) (by kernel_rfl) H) (fun x72 H => ?_)
                refine ls_d (d := some 73) (by kernel_rfl) (by kernel_rfl) HA_3 (d_app (z := #[.int .u8 0]) Try.underlying30 Try.underlying30 (.inl ⟨_, rfl⟩) Try.typeInfo5 (by kernel_rfl) Try.sizeOf5 Try.zeroValue5 (by kernel_rfl) (by kernel_rfl) (by kernel_rfl) H) (fun x73 h_3 w_4 H HA_4 => ?_)
                refine ls_assign (x := x73) (by kernel_rfl) (by kernel_rfl) ?_
                refine ls_nil ?_
                refine then_normal ?_
                refine fr_eq (b := ⟨([x0, x65, undef, undef, (.slice none 0 0), (.int .i64 0), undef, x73, x12, x0, x10, x11, x12, x15, x1, x15, x21, x0, x18, x19, x20, x21, undef, undef, undef, undef, undef, undef, undef, undef, undef, x43, x0, x33, x34, x35, x36, x37, x37, (D 0), (D 1), (D 2), (D 3), x43, x50, x0, x46, x47, x48, x49] ++ [x50, x0, x52, x53, x54, (D_1 0), (D_1 1), (D_1 2), (D_1 3), x1_1, x0, x61, x62, x63, x64, x65, x7, x0, x68, x69, x70, x65, x72, x73, undef, undef, undef, undef, undef, undef, undef, undef, undef, undef, undef]).toArray, []⟩) (by kernel_rfl) ?_
                refine wp_seq ?_
                refine lwp_list ?_
                refine ls_move (x := x0) (by kernel_rfl) (by kernel_rfl) ?_
                refine ls_move (x := x0) (by kernel_rfl) (by kernel_rfl) ?_
                refine ls_p (d := some 76) (by kernel_rfl) (by kernel_rfl) (p_nil (by kernel_rfl) H) (fun x76 H => ?_)
                refine ls_p (d := some 77) (by kernel_rfl) (by kernel_rfl) (p_off Try.underlying83 rfl (fun w => ⟨_, Try.sizeOf30 w⟩) rfl (by kernel_rfl) H) (fun x77 H => ?_)
                refine ls_y (d := some 78) (by kernel_rfl) (by kernel_rfl) HA_4 (y_ld Try.isAgg30 (by kernel_rfl) H) (fun x78 H => ?_)
                refine ls_move (x := x65) (by kernel_rfl) (by kernel_rfl) ?_
                refine ls_fr (b := ⟨([x0, x65, undef, undef, (.slice none 0 0), (.int .i64 0), undef, x73, x12, x0, x10, x11, x12, x15, x1, x15, x21, x0, x18, x19, x20, x21, undef, undef, undef, undef, undef, undef, undef, undef, undef, x43, x0, x33, x34, x35, x36, x37, x37, (D 0), (D 1), (D 2), (D 3), x43, x50, x0, x46, x47, x48, x49] ++ [x50, x0, x52, x53, x54, (D_1 0), (D_1 1), (D_1 2), (D_1 3), x1_1, x0, x61, x62, x63, x64, x65, x7, x0, x68, x69, x70, x65, x72, x73, x0, x0, x76, x77, x78, x65, undef, undef, undef, undef, undef]).toArray, []⟩) (by kernel_rfl) ?_
                refine ls_p (d := some 80) (by kernel_rfl) (by kernel_rfl) (p_sl Try.underlying30 Try.sizeOf5 (by kernel_rfl) (by kernel_rfl) (by kernel_rfl) H) (fun x80 H => ?_)
                refine ls_d (d := some 81) (by kernel_rfl) (by kernel_rfl) HA_4 (d_call (by kernel_rfl) (by kernel_rfl) H) (fun x81 h_4 w_5 H HA_5 => ?_)
                refine ls_p (d := some 82) (by kernel_rfl) (by kernel_rfl) (p_nil (by kernel_rfl) H) (fun x82 H => ?_)
                refine ls_p (d := some 83) (by kernel_rfl) (by kernel_rfl) (p_off Try.underlying83 rfl (fun w => ⟨_, Try.sizeOf30 w⟩) rfl (by kernel_rfl) H) (fun x83 H => ?_)
                refine ls_d (d := none) (by kernel_rfl) (by kernel_rfl) HA_5 (d_st Try.sizeOf30 (by kernel_rfl) (by kernel_rfl) H) (fun _ h_5 w_6 H HA_6 => ?_)
                refine ls_nil ?_
                refine then_normal ?_
                refine fr_eq (b := ⟨([x0, x65, undef, undef, (.slice none 0 0), (.int .i64 0), undef, x73, x12, x0, x10, x11, x12, x15, x1, x15, x21, x0, x18, x19, x20, x21, undef, undef, undef, undef, undef, undef, undef, undef, undef, x43, x0, x33, x34, x35, x36, x37, x37, (D 0), (D 1), (D 2), (D 3), x43, x50, x0, x46, x47, x48, x49] ++ [x50, x0, x52, x53, x54, (D_1 0), (D_1 1), (D_1 2), (D_1 3), x1_1, x0, x61, x62, x63, x64, x65, x7, x0, x68, x69, x70, x65, x72, x73, x0, x0, x76, x77, x78, x65, x80, x81, x82, x83, undef]).toArray, []⟩) (by kernel_rfl) ?_
                refine wp_seq ?_
                refine lwp_list ?_
                refine ls_move (x := x73) (by kernel_rfl) (by kernel_rfl) ?_
                refine ls_assign (x := x73) (by kernel_rfl) (by kernel_rfl) ?_
                refine ls_assign (x := (.int .i64 0)) (by kernel_rfl) (by kernel_rfl) ?_
                refine ls_nil ?_
                refine then_normal ?_
                refine fr_eq (b := ⟨([x0, x65, undef, undef, x73, (.int .i64 0), undef, x73, x12, x0, x10, x11, x12, x15, x1, x15, x21, x0, x18, x19, x20, x21, undef, undef, undef, undef, undef, undef, undef, undef, undef, x43, x0, x33, x34, x35, x36, x37, x37, (D 0), (D 1), (D 2), (D 3), x43, x50, x0, x46, x47, x48, x49] ++ [x50, x0, x52, x53, x54, (D_1 0), (D_1 1), (D_1 2), (D_1 3), x1_1, x0, x61, x62, x63, x64, x65, x7, x0, x68, x69, x70, x65, x72, x73, x0, x0, x76, x77, x78, x65, x80, x81, x82, x83, x73]).toArray, []⟩) (by kernel_rfl) ?_
                refine wp_ret ?_
                exact end2 (Try.results36) (by kernel_rfl) (by kernel_rfl) (by kernel_rfl) HA_6 H _ (.inr rfl)

end Go.Proofs.Ytlcklnbgknhhkaa

end

section
/- The shallow reading of one function, and that the function does it. Written by a program. -/
set_option linter.unusedVariables false
namespace Go.Proofs.Ytlcklnbgknhhkaa
open Go Go.HW

def pty_Pair_SlaveWrite_l1 (R : Value → Heap → Prop) (x0 x1 x30 : Value) (next : Value → Heap → Prop) (x31 : Value) (h_1 : Heap) : Prop :=
  sLt x31 x30 fun x32 =>
  sIf x32 (sIxS x1 x31 1 fun x34 =>
  sLd h_1 x34 fun x35 =>
  pty_Pair_write_c x0 x35 h_1 fun x38 h_2 => 
  sIf x38 (sAdd .i64 x31 (.int .i64 1) fun x42 =>
  next x42 h_2) (sEq x31 (.int .i64 0) fun x40 =>
  sIf x40 (R (.tuple #[(.int .i64 0), (.int .i64 12)]) h_2) (R (.tuple #[x31, (.int .i64 0)]) h_2))) (sLen x1 fun x44 =>
  R (.tuple #[x44, (.int .i64 0)]) h_1)
def pty_Pair_SlaveWrite_S (x0 x1 : Value) (h : Heap) (R : Value → Heap → Prop) : Prop :=
  sNil x0 fun x10 =>
  sOff x10 8 fun x11 =>
  sLd h x11 fun x12 =>
  sIf x12 (R (.tuple #[(.int .i64 0), (.int .i64 16)]) h) (sNil x0 fun x15 =>
  sOff x15 7 fun x16 =>
  sLd h x16 fun x17 =>
  sIf x17 (R (.tuple #[(.int .i64 0), (.int .i64 13)]) h) (sLen x1 fun x20 =>
  sGt x20 (.int .i64 0) fun x21 =>
  sAndH x21 h (fun k =>
  sNil x0 fun x24 =>
  sOff x24 0 fun x25 =>
  sLd h x25 fun x26 =>
  ldisc_Disc_Stopped_c x26 h fun x27 h_3 => 
  k x27 h_3) fun x28 h =>
  sIf x28 (R (.tuple #[(.int .i64 0), (.int .i64 12)]) h) (sLen x1 fun x30 =>
  sLoop (S := Value) (fun nxt s h => pty_Pair_SlaveWrite_l1 R x0 x1 x30 (fun x31' h => nxt x31' h) s h) (.int .i64 0) h)))
set_option maxRecDepth 100000 in
theorem pty_Pair_SlaveWrite_runs {x0 x1 : Value} {h : Heap} {R : Value → Heap → Prop} (H : pty_Pair_SlaveWrite_S x0 x1 h R) : pty_Pair_SlaveWrite_c x0 x1 h R := by
  unfold pty_Pair_SlaveWrite_S at H
  refine runs_of (b := ⟨#[x0, x1, undef, undef, undef, undef, undef, undef, undef, undef, undef, undef, undef, undef, undef, undef, undef, undef, undef, undef, undef, undef, undef, undef, undef, undef, undef, undef, undef, undef, undef, undef, undef, undef, undef, undef, undef, undef, undef, undef, undef, undef, undef, undef, undef], []⟩) Try.call39 Try.func39 rfl (by kernel_rfl) (fun w0 HA => ?_)
  refine wp_seq ?_
  refine lwp_list ?_
  refine ls_assign (x := (.int .i64 0)) (by kernel_rfl) (by kernel_rfl) ?_
  refine ls_assign (x := (.int .i64 0)) (by kernel_rfl) (by kernel_rfl) ?_
  refine ls_nil ?_
  refine then_normal ?_
  refine fr_eq (b := ⟨#[x0, x1, undef, undef, (.int .i64 0), (.int .i64 0), undef, undef, undef, undef, undef, undef, undef, undef, undef, undef, undef, undef, undef, undef, undef, undef, undef, undef, undef, undef, undef, undef, undef, undef, undef, undef, undef, undef, undef, undef, undef, undef, undef, undef, undef, undef, undef, undef, undef], []⟩) (by kernel_rfl) ?_
  refine wp_seq ?_
  refine wp_block ?_
  refine wp_seq ?_
  refine lwp_list ?_
  refine ls_move (x := x0) (by kernel_rfl) (by kernel_rfl) ?_
  refine ls_p (d := some 10) (by kernel_rfl) (by kernel_rfl) (p_nil (by kernel_rfl) H) (fun x10 H => ?_)
  refine ls_p (d := some 11) (by kernel_rfl) (by kernel_rfl) (p_off Try.underlying83 rfl (fun w => ⟨_, Try.sizeOf4 w⟩) rfl (by kernel_rfl) H) (fun x11 H => ?_)
  refine ls_y (d := some 12) (by kernel_rfl) (by kernel_rfl) HA (y_ld Try.isAgg4 (by kernel_rfl) H) (fun x12 H => ?_)
  refine ls_assign (x := x12) (by kernel_rfl) (by kernel_rfl) ?_
  refine ls_nil ?_
  refine then_normal ?_
  refine fr_eq (b := ⟨#[x0, x1, undef, undef, (.int .i64 0), (.int .i64 0), undef, undef, x12, x0, x10, x11, x12, undef, undef, undef, undef, undef, undef, undef, undef, undef, undef, undef, undef, undef, undef, undef, undef, undef, undef, undef, undef, undef, undef, undef, undef, undef, undef, undef, undef, undef, undef, undef, undef], []⟩) (by kernel_rfl) ?_
  refine wp_if rfl H (fun H => ?_) (fun H => ?_)
  · refine wp_seq ?_
    refine lwp_list ?_
    refine ls_assign (x := (.int .i64 0)) (by kernel_rfl) (by kernel_rfl) ?_
    refine ls_assign (x := (.int .i64 16)) (by kernel_rfl) (by kernel_rfl) ?_
    refine ls_nil ?_
    refine then_normal ?_
    refine fr_eq (b := ⟨#[x0, x1, undef, undef, (.int .i64 0), (.int .i64 16), undef, undef, x12, x0, x10, x11, x12, undef, undef, undef, undef, undef, undef, undef, undef, undef, undef, undef, undef, undef, undef, undef, undef, undef, undef, undef, undef, undef, undef, undef, undef, undef, undef, undef, undef, undef, undef, undef, undef], []⟩) (by kernel_rfl) ?_
    refine wp_ret ?_
    refine block_ret ?_
    refine then_ret ?_
    exact end2 (Try.results39) (by kernel_rfl) (by kernel_rfl) (by kernel_rfl) HA H _ (.inr rfl)
  · refine wp_seq ?_
    refine lwp_list ?_
    refine ls_move (x := x0) (by kernel_rfl) (by kernel_rfl) ?_
    refine ls_p (d := some 15) (by kernel_rfl) (by kernel_rfl) (p_nil (by kernel_rfl) H) (fun x15 H => ?_)
    refine ls_p (d := some 16) (by kernel_rfl) (by kernel_rfl) (p_off Try.underlying83 rfl (fun w => ⟨_, Try.sizeOf4 w⟩) rfl (by kernel_rfl) H) (fun x16 H => ?_)
    refine ls_y (d := some 17) (by kernel_rfl) (by kernel_rfl) HA (y_ld Try.isAgg4 (by kernel_rfl) H) (fun x17 H => ?_)
    refine ls_assign (x := x17) (by kernel_rfl) (by kernel_rfl) ?_
    refine ls_nil ?_
    refine then_normal ?_
    refine fr_eq (b := ⟨#[x0, x1, undef, undef, (.int .i64 0), (.int .i64 0), undef, undef, x12, x0, x10, x11, x12, x17, x0, x15, x16, x17, undef, undef, undef, undef, undef, undef, undef, undef, undef, undef, undef, undef, undef, undef, undef, undef, undef, undef, undef, undef, undef, undef, undef, undef, undef, undef, undef], []⟩) (by kernel_rfl) ?_
    refine wp_if rfl H (fun H => ?_) (fun H => ?_)
    · refine wp_seq ?_
      refine lwp_list ?_
      refine ls_assign (x := (.int .i64 0)) (by kernel_rfl) (by kernel_rfl) ?_
      refine ls_assign (x := (.int .i64 13)) (by kernel_rfl) (by kernel_rfl) ?_
      refine ls_nil ?_
      refine then_normal ?_
      refine fr_eq (b := ⟨#[x0, x1, undef, undef, (.int .i64 0), (.int .i64 13), undef, undef, x12, x0, x10, x11, x12, x17, x0, x15, x16, x17, undef, undef, undef, undef, undef, undef, undef, undef, undef, undef, undef, undef, undef, undef, undef, undef, undef, undef, undef, undef, undef, undef, undef, undef, undef, undef, undef], []⟩) (by kernel_rfl) ?_
      refine wp_ret ?_
      refine block_ret ?_
      refine then_ret ?_
      exact end2 (Try.results39) (by kernel_rfl) (by kernel_rfl) (by kernel_rfl) HA H _ (.inr rfl)
    · refine wp_seq ?_
      refine lwp_list ?_
      refine ls_move (x := x1) (by kernel_rfl) (by kernel_rfl) ?_
      refine ls_p (d := some 20) (by kernel_rfl) (by kernel_rfl) (p_len Try.underlying30 (by kernel_rfl) H) (fun x20 H => ?_)
      refine ls_p (d := some 21) (by kernel_rfl) (by kernel_rfl) (p_sGt (by kernel_rfl) (by kernel_rfl) H) (fun x21 H => ?_)
      refine ls_move (x := x21) (by kernel_rfl) (by kernel_rfl) ?_
      refine ls_andh [(), (), (), (), (), ()] (fun K a w => ∃ (D : Nat → Value) (x28 : Value) (h : Heap), a = ⟨#[x0, x1, undef, undef, (.int .i64 0), (.int .i64 0), undef, undef, x12, x0, x10, x11, x12, x17, x0, x15, x16, x17, undef, x1, x20, x21, x21, (D 0), (D 1), (D 2), (D 3), (D 4), x28, undef, undef, undef, undef, undef, undef, undef, undef, undef, undef, undef, undef, undef, undef, undef, undef], []⟩ ∧ At w0 w h ∧ K x28 h) H (fun hb H => ?_) (fun hb H => ?_) ?_
      · refine ls_move (x := x0) (by rw [hb]; kernel_rfl) (by kernel_rfl) ?_
        refine ls_p (d := some 24) (by kernel_rfl) (by rw [hb]; kernel_rfl) (p_nil (by kernel_rfl) H) (fun x24 H => ?_)
        refine ls_fr (b := ⟨#[x0, x1, undef, undef, (.int .i64 0), (.int .i64 0), undef, undef, x12, x0, x10, x11, x12, x17, x0, x15, x16, x17, undef, x1, x20, x21, x21, x0, x24, undef, undef, undef, undef, undef, undef, undef, undef, undef, undef, undef, undef, undef, undef, undef, undef, undef, undef, undef, undef], []⟩) (by kernel_rfl) ?_
        refine ls_p (d := some 25) (by kernel_rfl) (by rw [hb]; kernel_rfl) (p_off Try.underlying83 rfl (fun w => ⟨_, Try.sizeOf24 w⟩) rfl (by kernel_rfl) H) (fun x25 H => ?_)
        refine ls_y (d := some 26) (by kernel_rfl) (by rw [hb]; kernel_rfl) HA (y_ld Try.isAgg24 (by kernel_rfl) H) (fun x26 H => ?_)
        refine ls_d (d := some 27) (by kernel_rfl) (by rw [hb]; kernel_rfl) HA (d_call (by kernel_rfl) (by kernel_rfl) H) (fun x27 h_3 w_3 H HA_3 => ?_)
        refine ls_pick_t (x := x27) (by kernel_rfl) (by rw [hb]; kernel_rfl) (by kernel_rfl) ?_
        refine ls_nil ?_
        refine then_normal ?_
        exact ⟨(fun i => ([x0, x24, x25, x26, x27]).getD i undef), x27, h_3, by kernel_rfl, HA_3, H⟩
      · refine ls_skip (d := some 23) (by kernel_rfl) (by rw [hb]; kernel_rfl) ?_
        refine ls_skip (d := some 24) (by kernel_rfl) (by rw [hb]; kernel_rfl) ?_
        refine ls_fr (b := ⟨#[x0, x1, undef, undef, (.int .i64 0), (.int .i64 0), undef, undef, x12, x0, x10, x11, x12, x17, x0, x15, x16, x17, undef, x1, x20, x21, x21, undef, undef, undef, undef, undef, undef, undef, undef, undef, undef, undef, undef, undef, undef, undef, undef, undef, undef, undef, undef, undef, undef], []⟩) (by kernel_rfl) ?_
        refine ls_skip (d := some 25) (by kernel_rfl) (by rw [hb]; kernel_rfl) ?_
        refine ls_skip (d := some 26) (by kernel_rfl) (by rw [hb]; kernel_rfl) ?_
        refine ls_skip (d := some 27) (by kernel_rfl) (by rw [hb]; kernel_rfl) ?_
        refine ls_pick_f (y := (.bool false)) (by kernel_rfl) (by rw [hb]; kernel_rfl) (by kernel_rfl) ?_
        refine ls_nil ?_
        refine then_normal ?_
        exact ⟨(fun i => ([undef, undef, undef, undef, undef]).getD i undef), (.bool false), h, by kernel_rfl, HA, H⟩
      · rintro _ w ⟨D, x28, h, rfl, HA, H⟩
        refine ls_assign (x := x28) (by kernel_rfl) (by kernel_rfl) ?_
        refine ls_nil ?_
        refine then_normal ?_
        refine fr_eq (b := ⟨#[x0, x1, undef, undef, (.int .i64 0), (.int .i64 0), undef, undef, x12, x0, x10, x11, x12, x17, x0, x15, x16, x17, x28, x1, x20, x21, x21, (D 0), (D 1), (D 2), (D 3), (D 4), x28, undef, undef, undef, undef, undef, undef, undef, undef, undef, undef, undef, undef, undef, undef, undef, undef], []⟩) (by kernel_rfl) ?_
        refine wp_if rfl H (fun H => ?_) (fun H => ?_)
        · refine wp_seq ?_
          refine lwp_list ?_
          refine ls_assign (x := (.int .i64 0)) (by kernel_rfl) (by kernel_rfl) ?_
          refine ls_assign (x := (.int .i64 12)) (by kernel_rfl) (by kernel_rfl) ?_
          refine ls_nil ?_
          refine then_normal ?_
          refine fr_eq (b := ⟨#[x0, x1, undef, undef, (.int .i64 0), (.int .i64 12), undef, undef, x12, x0, x10, x11, x12, x17, x0, x15, x16, x17, x28, x1, x20, x21, x21, (D 0), (D 1), (D 2), (D 3), (D 4), x28, undef, undef, undef, undef, undef, undef, undef, undef, undef, undef, undef, undef, undef, undef, undef, undef], []⟩) (by kernel_rfl) ?_
          refine wp_ret ?_
          refine block_ret ?_
          refine then_ret ?_
          exact end2 (Try.results39) (by kernel_rfl) (by kernel_rfl) (by kernel_rfl) HA H _ (.inr rfl)
        · refine wp_skip ?_
          refine block_normal ?_
          refine then_normal ?_
          refine fr_eq (b := ⟨#[x0, x1, undef, undef, (.int .i64 0), (.int .i64 0), undef, undef, x12, x0, x10, x11, x12, x17, x0, x15, x16, x17, x28, x1, x20, x21, x21, (D 0), (D 1), (D 2), (D 3), (D 4), x28, undef, undef, undef, undef, undef, undef, undef, undef, undef, undef, undef, undef, undef, undef, undef, undef], []⟩) (by kernel_rfl) ?_
          refine wp_seq ?_
          refine wp_seq ?_
          refine lwp_list ?_
          refine ls_move (x := x1) (by kernel_rfl) (by kernel_rfl) ?_
          refine ls_p (d := some 30) (by kernel_rfl) (by kernel_rfl) (p_len Try.underlying30 (by kernel_rfl) H) (fun x30 H => ?_)
          refine ls_move (x := (.int .i64 0)) (by kernel_rfl) (by kernel_rfl) ?_
          refine ls_nil ?_
          refine then_normal ?_
          refine fr_eq (b := ⟨#[x0, x1, undef, undef, (.int .i64 0), (.int .i64 0), undef, undef, x12, x0, x10, x11, x12, x17, x0, x15, x16, x17, x28, x1, x20, x21, x21, (D 0), (D 1), (D 2), (D 3), (D 4), x28, x1, x30, (.int .i64 0), undef, undef, undef, undef, undef, undef, undef, undef, undef, undef, undef, undef, undef], []⟩) (by kernel_rfl) ?_
          refine wp_block ?_
          obtain ⟨I, m, H0, HB⟩ := H
          refine wp_loop (fun a w => ∃ (D_1 : Nat → Value) (x31 : Value) (h_1 : Heap), a = ⟨#[x0, x1, undef, undef, (D_1 0), (D_1 1), (D_1 2), (D_1 3), x12, x0, x10, x11, x12, x17, x0, x15, x16, x17, x28, x1, x20, x21, x21, (D 0), (D 1), (D 2), (D 3), (D 4), x28, x1, x30, x31, (D_1 4), (D_1 5), (D_1 6), (D_1 7), (D_1 8), (D_1 9), (D_1 10), (D_1 11), (D_1 12), (D_1 13), (D_1 14), undef, undef], []⟩ ∧ At w0 w h_1 ∧ I x31 h_1) (fun a w => m (a.tmps.getD 31 undef) w.heap) ?_ ?_
          · exact ⟨(fun i => ([(.int .i64 0), (.int .i64 0), undef, undef, undef, undef, undef, undef, undef, undef, undef, undef, undef, undef, undef]).getD i undef), (.int .i64 0), h, by kernel_rfl, HA, H0⟩
          · rintro _ w_1 ⟨D_1, x31, h_1, rfl, HA_1, HI⟩
            have H : pty_Pair_SlaveWrite_l1 R x0 x1 x30 (fun x31' h' => I x31' h' ∧ m x31' h' < m x31 h_1) x31 h_1 := HB x31 h_1 HI
            clear HB H0 HI
            unfold pty_Pair_SlaveWrite_l1 at H
            refine wp_seq ?_
            refine lwp_list ?_
            refine ls_p (d := some 32) (by kernel_rfl) (by kernel_rfl) (p_sLt (by kernel_rfl) (by kernel_rfl) H) (fun x32 H => ?_)
            refine ls_nil ?_
            refine then_normal ?_
            refine fr_eq (b := ⟨#[x0, x1, undef, undef, (D_1 0), (D_1 1), (D_1 2), (D_1 3), x12, x0, x10, x11, x12, x17, x0, x15, x16, x17, x28, x1, x20, x21, x21, (D 0), (D 1), (D 2), (D 3), (D 4), x28, x1, x30, x31, x32, (D_1 5), (D_1 6), (D_1 7), (D_1 8), (D_1 9), (D_1 10), (D_1 11), (D_1 12), (D_1 13), (D_1 14), undef, undef], []⟩) (by kernel_rfl) ?_
            refine wp_seq ?_
            refine wp_if rfl H (fun H => ?_) (fun H => ?_)
            · refine wp_skip ?_
              refine then_normal ?_
              refine fr_eq (b := ⟨#[x0, x1, undef, undef, (D_1 0), (D_1 1), (D_1 2), (D_1 3), x12, x0, x10, x11, x12, x17, x0, x15, x16, x17, x28, x1, x20, x21, x21, (D 0), (D 1), (D 2), (D 3), (D 4), x28, x1, x30, x31, x32, (D_1 5), (D_1 6), (D_1 7), (D_1 8), (D_1 9), (D_1 10), (D_1 11), (D_1 12), (D_1 13), (D_1 14), undef, undef], []⟩) (by kernel_rfl) ?_
              refine wp_seq ?_
              refine wp_block ?_
              refine wp_seq ?_
              refine lwp_list ?_
              refine ls_move (x := x31) (by kernel_rfl) (by kernel_rfl) ?_
              refine ls_p (d := some 34) (by kernel_rfl) (by kernel_rfl) (p_ixs Try.underlying30 Try.sizeOf5 (by kernel_rfl) (by kernel_rfl) H) (fun x34 H => ?_)
              refine ls_y (d := some 35) (by kernel_rfl) (by kernel_rfl) HA_1 (y_ld Try.isAgg5 (by kernel_rfl) H) (fun x35 H => ?_)
              refine ls_assign (x := x31) (by kernel_rfl) (by kernel_rfl) ?_
              refine ls_assign (x := x35) (by kernel_rfl) (by kernel_rfl) ?_
              refine ls_nil ?_
              refine then_normal ?_
              refine fr_eq (b := ⟨#[x0, x1, undef, undef, (D_1 0), (D_1 1), x31, x35, x12, x0, x10, x11, x12, x17, x0, x15, x16, x17, x28, x1, x20, x21, x21, (D 0), (D 1), (D 2), (D 3), (D 4), x28, x1, x30, x31, x32, x31, x34, x35, (D_1 8), (D_1 9), (D_1 10), (D_1 11), (D_1 12), (D_1 13), (D_1 14), undef, undef], []⟩) (by kernel_rfl) ?_
              refine wp_seq ?_
              refine wp_seq ?_
              refine lwp_list ?_
              refine ls_move (x := x0) (by kernel_rfl) (by kernel_rfl) ?_
              refine ls_move (x := x35) (by kernel_rfl) (by kernel_rfl) ?_
              refine ls_d (d := some 38) (by kernel_rfl) (by kernel_rfl) HA_1 (d_call (by kernel_rfl) (by kernel_rfl) H) (fun x38 h_2 w_2 H HA_2 => ?_)
              refine ls_nil ?_
              refine then_normal ?_
              refine fr_eq (b := ⟨#[x0, x1, undef, undef, (D_1 0), (D_1 1), x31, x35, x12, x0, x10, x11, x12, x17, x0, x15, x16, x17, x28, x1, x20, x21, x21, (D 0), (D 1), (D 2), (D 3), (D 4), x28, x1, x30, x31, x32, x31, x34, x35, x0, x35, x38, (D_1 11), (D_1 12), (D_1 13), (D_1 14), undef, undef], []⟩) (by kernel_rfl) ?_
              refine wp_if rfl H (fun H => ?_) (fun H => ?_)
              · refine wp_exit ?_
                refine then_exit ?_
                refine block_exit ?_
                refine then_normal ?_
                refine fr_eq (b := ⟨#[x0, x1, undef, undef, (D_1 0), (D_1 1), x31, x35, x12, x0, x10, x11, x12, x17, x0, x15, x16, x17, x28, x1, x20, x21, x21, (D 0), (D 1), (D 2), (D 3), (D 4), x28, x1, x30, x31, x32, x31, x34, x35, x0, x35, x38, (D_1 11), (D_1 12), (D_1 13), (D_1 14), undef, undef], []⟩) (by kernel_rfl) ?_
                refine lwp_list ?_
                refine ls_p (d := some 42) (by kernel_rfl) (by kernel_rfl) (p_add (by kernel_rfl) (by kernel_rfl) H) (fun x42 H => ?_)
                refine ls_move (x := x42) (by kernel_rfl) (by kernel_rfl) ?_
                refine ls_nil ?_
                exact ⟨⟨(fun i => ([(D_1 0), (D_1 1), x31, x35, x32, x31, x34, x35, x0, x35, x38, (D_1 11), (D_1 12), (D_1 13), x42]).getD i undef), x42, h_2, by kernel_rfl, HA_2, H.1⟩, loop_lt HA_2.heap HA_1.heap (by kernel_rfl) (by kernel_rfl) H.2⟩
              · refine wp_skip ?_
                refine then_normal ?_
                refine fr_eq (b := ⟨#[x0, x1, undef, undef, (D_1 0), (D_1 1), x31, x35, x12, x0, x10, x11, x12, x17, x0, x15, x16, x17, x28, x1, x20, x21, x21, (D 0), (D 1), (D 2), (D 3), (D 4), x28, x1, x30, x31, x32, x31, x34, x35, x0, x35, x38, (D_1 11), (D_1 12), (D_1 13), (D_1 14), undef, undef], []⟩) (by kernel_rfl) ?_
                refine wp_seq ?_
                refine wp_seq ?_
                refine lwp_list ?_
                refine ls_move (x := x31) (by kernel_rfl) (by kernel_rfl) ?_
                refine ls_p (d := some 40) (by kernel_rfl) (by kernel_rfl) (p_sEq (by kernel_rfl) (by kernel_rfl) H) (fun x40 H => ?_)
                refine ls_nil ?_
                refine then_normal ?_
                refine fr_eq (b := ⟨#[x0, x1, undef, undef, (D_1 0), (D_1 1), x31, x35, x12, x0, x10, x11, x12, x17, x0, x15, x16, x17, x28, x1, x20, x21, x21, (D 0), (D 1), (D 2), (D 3), (D 4), x28, x1, x30, x31, x32, x31, x34, x35, x0, x35, x38, x31, x40, (D_1 13), (D_1 14), undef, undef], []⟩) (by kernel_rfl) ?_
                refine wp_if rfl H (fun H => ?_) (fun H => ?_)
                · refine wp_seq ?_
                  refine lwp_list ?_
                  refine ls_assign (x := (.int .i64 0)) (by kernel_rfl) (by kernel_rfl) ?_
                  refine ls_assign (x := (.int .i64 12)) (by kernel_rfl) (by kernel_rfl) ?_
                  refine ls_nil ?_
                  refine then_normal ?_
                  refine fr_eq (b := ⟨#[x0, x1, undef, undef, (.int .i64 0), (.int .i64 12), x31, x35, x12, x0, x10, x11, x12, x17, x0, x15, x16, x17, x28, x1, x20, x21, x21, (D 0), (D 1), (D 2), (D 3), (D 4), x28, x1, x30, x31, x32, x31, x34, x35, x0, x35, x38, x31, x40, (D_1 13), (D_1 14), undef, undef], []⟩) (by kernel_rfl) ?_
                  refine wp_ret ?_
                  refine then_ret ?_
                  refine block_ret ?_
                  refine then_ret ?_
                  refine then_ret ?_
                  refine block_ret ?_
                  refine then_ret ?_
                  exact end2 (Try.results39) (by kernel_rfl) (by kernel_rfl) (by kernel_rfl) HA_2 H _ (.inr rfl)
                · refine wp_skip ?_
                  refine then_normal ?_
                  refine fr_eq (b := ⟨#[x0, x1, undef, undef, (D_1 0), (D_1 1), x31, x35, x12, x0, x10, x11, x12, x17, x0, x15, x16, x17, x28, x1, x20, x21, x21, (D 0), (D 1), (D 2), (D 3), (D 4), x28, x1, x30, x31, x32, x31, x34, x35, x0, x35, x38, x31, x40, (D_1 13), (D_1 14), undef, undef], []⟩) (by kernel_rfl) ?_
                  refine wp_seq ?_
                  refine lwp_list ?_
                  refine ls_move (x := x31) (by kernel_rfl) (by kernel_rfl) ?_
                  refine ls_assign (x := x31) (by kernel_rfl) (by kernel_rfl) ?_
                  refine ls_assign (x := (.int .i64 0)) (by kernel_rfl) (by kernel_rfl) ?_
                  refine ls_nil ?_
                  refine then_normal ?_
                  refine fr_eq (b := ⟨#[x0, x1, undef, undef, x31, (.int .i64 0), x31, x35, x12, x0, x10, x11, x12, x17, x0, x15, x16, x17, x28, x1, x20, x21, x21, (D 0), (D 1), (D 2), (D 3), (D 4), x28, x1, x30, x31, x32, x31, x34, x35, x0, x35, x38, x31, x40, x31, (D_1 14), undef, undef], []⟩) (by kernel_rfl) ?_
                  refine wp_ret ?_
                  refine block_ret ?_
                  refine then_ret ?_
                  refine then_ret ?_
                  refine block_ret ?_
                  refine then_ret ?_
                  exact end2 (Try.results39) (by kernel_rfl) (by kernel_rfl) (by kernel_rfl) HA_2 H _ (.inr rfl)
            · refine wp_exit ?_
              refine then_exit ?_
              refine then_exit ?_
              refine block_exit ?_
              refine then_normal ?_
              refine fr_eq (b := ⟨#[x0, x1, undef, undef, (D_1 0), (D_1 1), (D_1 2), (D_1 3), x12, x0, x10, x11, x12, x17, x0, x15, x16, x17, x28, x1, x20, x21, x21, (D 0), (D 1), (D 2), (D 3), (D 4), x28, x1, x30, x31, x32, (D_1 5), (D_1 6), (D_1 7), (D_1 8), (D_1 9), (D_1 10), (D_1 11), (D_1 12), (D_1 13), (D_1 14), undef, undef], []⟩) (by kernel_rfl) ?_
              refine wp_seq ?_
              refine lwp_list ?_
              refine ls_move (x := x1) (by kernel_rfl) (by kernel_rfl) ?_
              refine ls_p (d := some 44) (by kernel_rfl) (by kernel_rfl) (p_len Try.underlying30 (by kernel_rfl) H) (fun x44 H => ?_)
              refine ls_assign (x := x44) (by kernel_rfl) (by kernel_rfl) ?_
              refine ls_assign (x := (.int .i64 0)) (by kernel_rfl) (by kernel_rfl) ?_
              refine ls_nil ?_
              refine then_normal ?_
              refine fr_eq (b := ⟨#[x0, x1, undef, undef, x44, (.int .i64 0), (D_1 2), (D_1 3), x12, x0, x10, x11, x12, x17, x0, x15, x16, x17, x28, x1, x20, x21, x21, (D 0), (D 1), (D 2), (D 3), (D 4), x28, x1, x30, x31, x32, (D_1 5), (D_1 6), (D_1 7), (D_1 8), (D_1 9), (D_1 10), (D_1 11), (D_1 12), (D_1 13), (D_1 14), x1, x44], []⟩) (by kernel_rfl) ?_
              refine wp_ret ?_
              exact end2 (Try.results39) (by kernel_rfl) (by kernel_rfl) (by kernel_rfl) HA_1 H _ (.inr rfl)

end Go.Proofs.Ytlcklnbgknhhkaa

end

section
/- The shallow reading of one function, and that the function does it. Written by a program. -/
set_option linter.unusedVariables false
namespace Go.Proofs.Ytlcklnbgknhhkaa
open Go Go.HW

def pty_Pair_SlaveRead_S (x0 x1 : Value) (h : Heap) (R : Value → Heap → Prop) : Prop :=
  sNil x0 fun x10 =>
  sOff x10 8 fun x11 =>
  sLd h x11 fun x12 =>
  sIf x12 (R (.tuple #[(.slice none 0 0), (.int .i64 16)]) h) (sLt x1 (.int .i64 1) fun x15 =>
  sIf x15 (R (.tuple #[(.slice none 0 0), (.int .i64 1)]) h) (sNil x0 fun x18 =>
  sOff x18 0 fun x19 =>
  sLd h x19 fun x20 =>
  ldisc_Disc_Read_c x20 x1 h fun x22 h => 
  sTup x22 0 fun x23 =>
  sTup x22 1 fun x24 =>
  sLen x23 fun x26 =>
  sEq x26 (.int .i64 0) fun x27 =>
  sAnd x27 (fun k_1 =>
  sNot x24 fun x30 =>
  k_1 x30) fun x31 =>
  sAnd x31 (fun k =>
  sNil x0 fun x34 =>
  sOff x34 7 fun x35 =>
  sLd h x35 fun x36 =>
  sNot x36 fun x37 =>
  k x37) fun x38 =>
  sIf x38 (R (.tuple #[(.slice none 0 0), (.int .i64 12)]) h) (R (.tuple #[x23, (.int .i64 0)]) h)))
set_option maxRecDepth 100000 in
theorem pty_Pair_SlaveRead_runs {x0 x1 : Value} {h : Heap} {R : Value → Heap → Prop} (H : pty_Pair_SlaveRead_S x0 x1 h R) : pty_Pair_SlaveRead_c x0 x1 h R := by
  unfold pty_Pair_SlaveRead_S at H
  refine runs_of (b := ⟨#[x0, x1, undef, undef, undef, undef, undef, undef, undef, undef, undef, undef, undef, undef, undef, undef, undef, undef, undef, undef, undef, undef, undef, undef, undef, undef, undef, undef, undef, undef, undef, undef, undef, undef, undef, undef, undef, undef, undef, undef], []⟩) Try.call35 Try.func35 rfl (by kernel_rfl) (fun w0 HA => ?_)
  refine wp_seq ?_
  refine lwp_list ?_
  refine ls_assign (x := (.slice none 0 0)) (by kernel_rfl) (by kernel_rfl) ?_
  refine ls_assign (x := (.int .i64 0)) (by kernel_rfl) (by kernel_rfl) ?_
  refine ls_nil ?_
  refine then_normal ?_
  refine fr_eq (b := ⟨#[x0, x1, undef, undef, (.slice none 0 0), (.int .i64 0), undef, undef, undef, undef, undef, undef, undef, undef, undef, undef, undef, undef, undef, undef, undef, undef, undef, undef, undef, undef, undef, undef, undef, undef, undef, undef, undef, undef, undef, undef, undef, undef, undef, undef], []⟩) (by kernel_rfl) ?_
  refine wp_seq ?_
  refine wp_block ?_
  refine wp_seq ?_
  refine lwp_list ?_
  refine ls_move (x := x0) (by kernel_rfl) (by kernel_rfl) ?_
  refine ls_p (d := some 10) (by kernel_rfl) (by kernel_rfl) (p_nil (by kernel_rfl) H) (fun x10 H => ?_)
  refine ls_p (d := some 11) (by kernel_rfl) (by kernel_rfl) (p_off Try.underlying83 rfl (fun w => ⟨_, Try.sizeOf4 w⟩) rfl (by kernel_rfl) H) (fun x11 H => ?_)
  refine ls_y (d := some 12) (by kernel_rfl) (by kernel_rfl) HA (y_ld Try.isAgg4 (by kernel_rfl) H) (fun x12 H => ?_)
  refine ls_assign (x := x12) (by kernel_rfl) (by kernel_rfl) ?_
  refine ls_nil ?_
  refine then_normal ?_
  refine fr_eq (b := ⟨#[x0, x1, undef, undef, (.slice none 0 0), (.int .i64 0), undef, undef, x12, x0, x10, x11, x12, undef, undef, undef, undef, undef, undef, undef, undef, undef, undef, undef, undef, undef, undef, undef, undef, undef, undef, undef, undef, undef, undef, undef, undef, undef, undef, undef], []⟩) (by kernel_rfl) ?_
  refine wp_if rfl H (fun H => ?_) (fun H => ?_)
  · refine wp_seq ?_
    refine lwp_list ?_
    refine ls_assign (x := (.slice none 0 0)) (by kernel_rfl) (by kernel_rfl) ?_
    refine ls_assign (x := (.int .i64 16)) (by kernel_rfl) (by kernel_rfl) ?_
    refine ls_nil ?_
    refine then_normal ?_
    refine fr_eq (b := ⟨#[x0, x1, undef, undef, (.slice none 0 0), (.int .i64 16), undef, undef, x12, x0, x10, x11, x12, undef, undef, undef, undef, undef, undef, undef, undef, undef, undef, undef, undef, undef, undef, undef, undef, undef, undef, undef, undef, undef, undef, undef, undef, undef, undef, undef], []⟩) (by kernel_rfl) ?_
    refine wp_ret ?_
    refine block_ret ?_
    refine then_ret ?_
    exact end2 (Try.results35) (by kernel_rfl) (by kernel_rfl) (by kernel_rfl) HA H _ (.inr rfl)
  · refine wp_seq ?_
    refine lwp_list ?_
    refine ls_move (x := x1) (by kernel_rfl) (by kernel_rfl) ?_
    refine ls_p (d := some 15) (by kernel_rfl) (by kernel_rfl) (p_sLt (by kernel_rfl) (by kernel_rfl) H) (fun x15 H => ?_)
    refine ls_assign (x := x15) (by kernel_rfl) (by kernel_rfl) ?_
    refine ls_nil ?_
    refine then_normal ?_
    refine fr_eq (b := ⟨#[x0, x1, undef, undef, (.slice none 0 0), (.int .i64 0), undef, undef, x12, x0, x10, x11, x12, x15, x1, x15, undef, undef, undef, undef, undef, undef, undef, undef, undef, undef, undef, undef, undef, undef, undef, undef, undef, undef, undef, undef, undef, undef, undef, undef], []⟩) (by kernel_rfl) ?_
    refine wp_if rfl H (fun H => ?_) (fun H => ?_)
    · refine wp_seq ?_
      refine lwp_list ?_
      refine ls_assign (x := (.slice none 0 0)) (by kernel_rfl) (by kernel_rfl) ?_
      refine ls_assign (x := (.int .i64 1)) (by kernel_rfl) (by kernel_rfl) ?_
      refine ls_nil ?_
      refine then_normal ?_
      refine fr_eq (b := ⟨#[x0, x1, undef, undef, (.slice none 0 0), (.int .i64 1), undef, undef, x12, x0, x10, x11, x12, x15, x1, x15, undef, undef, undef, undef, undef, undef, undef, undef, undef, undef, undef, undef, undef, undef, undef, undef, undef, undef, undef, undef, undef, undef, undef, undef], []⟩) (by kernel_rfl) ?_
      refine wp_ret ?_
      refine block_ret ?_
      refine then_ret ?_
      exact end2 (Try.results35) (by kernel_rfl) (by kernel_rfl) (by kernel_rfl) HA H _ (.inr rfl)
    · refine wp_skip ?_
      refine block_normal ?_
      refine then_normal ?_
      refine fr_eq (b := ⟨#[x0, x1, undef, undef, (.slice none 0 0), (.int .i64 0), undef, undef, x12, x0, x10, x11, x12, x15, x1, x15, undef, undef, undef, undef, undef, undef, undef, undef, undef, undef, undef, undef, undef, undef, undef, undef, undef, undef, undef, undef, undef, undef, undef, undef], []⟩) (by kernel_rfl) ?_
      refine wp_seq ?_
      refine lwp_list ?_
      refine ls_move (x := x0) (by kernel_rfl) (by kernel_rfl) ?_
      refine ls_p (d := some 18) (by kernel_rfl) (by kernel_rfl) (p_nil (by kernel_rfl) H) (fun x18 H => ?_)
      refine ls_p (d := some 19) (by kernel_rfl) (by kernel_rfl) (p_off Try.underlying83 rfl (fun w => ⟨_, Try.sizeOf24 w⟩) rfl (by kernel_rfl) H) (fun x19 H => ?_)
      refine ls_y (d := some 20) (by kernel_rfl) (by kernel_rfl) HA (y_ld Try.isAgg24 (by kernel_rfl) H) (fun x20 H => ?_)
      refine ls_move (x := x1) (by kernel_rfl) (by kernel_rfl) ?_
      refine ls_d (d := some 22) (by kernel_rfl) (by kernel_rfl) HA (d_call (by kernel_rfl) (by kernel_rfl) H) (fun x22 h w H HA => ?_)
      refine ls_fr (b := ⟨#[x0, x1, undef, undef, (.slice none 0 0), (.int .i64 0), undef, undef, x12, x0, x10, x11, x12, x15, x1, x15, undef, x0, x18, x19, x20, x1, x22, undef, undef, undef, undef, undef, undef, undef, undef, undef, undef, undef, undef, undef, undef, undef, undef, undef], []⟩) (by kernel_rfl) ?_
      refine ls_move (x := x22) (by kernel_rfl) (by kernel_rfl) ?_
      refine ls_p (d := some 23) (by kernel_rfl) (by kernel_rfl) (p_tup (by kernel_rfl) H) (fun x23 H => ?_)
      refine ls_p (d := some 24) (by kernel_rfl) (by kernel_rfl) (p_tup (by kernel_rfl) H) (fun x24 H => ?_)
      refine ls_assign (x := x23) (by kernel_rfl) (by kernel_rfl) ?_
      refine ls_assign (x := x24) (by kernel_rfl) (by kernel_rfl) ?_
      refine ls_nil ?_
      refine then_normal ?_
      refine fr_eq (b := ⟨#[x0, x1, undef, undef, (.slice none 0 0), (.int .i64 0), x23, x24, x12, x0, x10, x11, x12, x15, x1, x15, x22, x0, x18, x19, x20, x1, x22, x23, x24, undef, undef, undef, undef, undef, undef, undef, undef, undef, undef, undef, undef, undef, undef, undef], []⟩) (by kernel_rfl) ?_
      refine wp_seq ?_
      refine wp_seq ?_
      refine lwp_list ?_
      refine ls_move (x := x23) (by kernel_rfl) (by kernel_rfl) ?_
      refine ls_p (d := some 26) (by kernel_rfl) (by kernel_rfl) (p_len Try.underlying30 (by kernel_rfl) H) (fun x26 H => ?_)
      refine ls_p (d := some 27) (by kernel_rfl) (by kernel_rfl) (p_sEq (by kernel_rfl) (by kernel_rfl) H) (fun x27 H => ?_)
      refine ls_move (x := x27) (by kernel_rfl) (by kernel_rfl) ?_
      refine ls_and [(), (), ()] (fun K a w => ∃ (D : Nat → Value) (x31 : Value), a = ⟨#[x0, x1, undef, undef, (.slice none 0 0), (.int .i64 0), x23, x24, x12, x0, x10, x11, x12, x15, x1, x15, x22, x0, x18, x19, x20, x1, x22, x23, x24, x23, x26, x27, x27, (D 0), (D 1), x31, undef, undef, undef, undef, undef, undef, undef, undef], []⟩ ∧ At w0 w h ∧ K x31) H (fun hb_1 H => ?_) (fun hb_1 H => ?_) ?_
      · refine ls_move (x := x24) (by rw [hb_1]; kernel_rfl) (by kernel_rfl) ?_
        refine ls_p (d := some 30) (by kernel_rfl) (by rw [hb_1]; kernel_rfl) (p_not (by kernel_rfl) H) (fun x30 H => ?_)
        refine ls_fr (b := ⟨#[x0, x1, undef, undef, (.slice none 0 0), (.int .i64 0), x23, x24, x12, x0, x10, x11, x12, x15, x1, x15, x22, x0, x18, x19, x20, x1, x22, x23, x24, x23, x26, x27, x27, x24, x30, undef, undef, undef, undef, undef, undef, undef, undef, undef], []⟩) (by kernel_rfl) ?_
        refine ls_pick_t (x := x30) (by kernel_rfl) (by rw [hb_1]; kernel_rfl) (by kernel_rfl) ?_
        refine ls_nil ?_
        refine then_normal ?_
        exact ⟨(fun i => ([x24, x30]).getD i undef), x30, by kernel_rfl, HA, H⟩
      · refine ls_skip (d := some 29) (by kernel_rfl) (by rw [hb_1]; kernel_rfl) ?_
        refine ls_skip (d := some 30) (by kernel_rfl) (by rw [hb_1]; kernel_rfl) ?_
        refine ls_fr (b := ⟨#[x0, x1, undef, undef, (.slice none 0 0), (.int .i64 0), x23, x24, x12, x0, x10, x11, x12, x15, x1, x15, x22, x0, x18, x19, x20, x1, x22, x23, x24, x23, x26, x27, x27, undef, undef, undef, undef, undef, undef, undef, undef, undef, undef, undef], []⟩) (by kernel_rfl) ?_
        refine ls_pick_f (y := (.bool false)) (by kernel_rfl) (by rw [hb_1]; kernel_rfl) (by kernel_rfl) ?_
        refine ls_nil ?_
        refine then_normal ?_
        exact ⟨(fun i => ([undef, undef]).getD i undef), (.bool false), by kernel_rfl, HA, H⟩
      · rintro _ w_1 ⟨D, x31, rfl, HA_1, H⟩
        refine ls_move (x := x31) (by kernel_rfl) (by kernel_rfl) ?_
        refine ls_and [(), (), (), (), (), ()] (fun K a w => ∃ (D_1 : Nat → Value) (x38 : Value), a = ⟨#[x0, x1, undef, undef, (.slice none 0 0), (.int .i64 0), x23, x24, x12, x0, x10, x11, x12, x15, x1, x15, x22, x0, x18, x19, x20, x1, x22, x23, x24, x23, x26, x27, x27, (D 0), (D 1), x31, x31, (D_1 0), (D_1 1), (D_1 2), (D_1 3), (D_1 4), x38, undef], []⟩ ∧ At w0 w h ∧ K x38) H (fun hb H => ?_) (fun hb H => ?_) ?_
        · refine ls_move (x := x0) (by rw [hb]; kernel_rfl) (by kernel_rfl) ?_
          refine ls_p (d := some 34) (by kernel_rfl) (by rw [hb]; kernel_rfl) (p_nil (by kernel_rfl) H) (fun x34 H => ?_)
          refine ls_p (d := some 35) (by kernel_rfl) (by rw [hb]; kernel_rfl) (p_off Try.underlying83 rfl (fun w => ⟨_, Try.sizeOf4 w⟩) rfl (by kernel_rfl) H) (fun x35 H => ?_)
          refine ls_y (d := some 36) (by kernel_rfl) (by rw [hb]; kernel_rfl) HA_1 (y_ld Try.isAgg4 (by kernel_rfl) H) (fun x36 H => ?_)
          refine ls_p (d := some 37) (by kernel_rfl) (by rw [hb]; kernel_rfl) (p_not (by kernel_rfl) H) (fun x37 H => ?_)
          refine ls_fr (b := ⟨#[x0, x1, undef, undef, (.slice none 0 0), (.int .i64 0), x23, x24, x12, x0, x10, x11, x12, x15, x1, x15, x22, x0, x18, x19, x20, x1, x22, x23, x24, x23, x26, x27, x27, (D 0), (D 1), x31, x31, x0, x34, x35, x36, x37, undef, undef], []⟩) (by kernel_rfl) ?_
          refine ls_pick_t (x := x37) (by kernel_rfl) (by rw [hb]; kernel_rfl) (by kernel_rfl) ?_
          refine ls_nil ?_
          refine then_normal ?_
          exact ⟨(fun i => ([x0, x34, x35, x36, x37]).getD i undef), x37, by kernel_rfl, HA_1, H⟩
        · refine ls_skip (d := some 33) (by kernel_rfl) (by rw [hb]; kernel_rfl) ?_
          refine ls_skip (d := some 34) (by kernel_rfl) (by rw [hb]; kernel_rfl) ?_
          refine ls_skip (d := some 35) (by kernel_rfl) (by rw [hb]; kernel_rfl) ?_
          refine ls_skip (d := some 36) (by kernel_rfl) (by rw [hb]; kernel_rfl) ?_
          refine ls_skip (d := some 37) (by kernel_rfl) (by rw [hb]; kernel_rfl) ?_
          refine ls_fr (b := ⟨#[x0, x1, undef, undef, (.slice none 0 0), (.int .i64 0), x23, x24, x12, x0, x10, x11, x12, x15, x1, x15, x22, x0, x18, x19, x20, x1, x22, x23, x24, x23, x26, x27, x27, (D 0), (D 1), x31, x31, undef, undef, undef, undef, undef, undef, undef], []⟩) (by kernel_rfl) ?_
          refine ls_pick_f (y := (.bool false)) (by kernel_rfl) (by rw [hb]; kernel_rfl) (by kernel_rfl) ?_
          refine ls_nil ?_
          refine then_normal ?_
          exact ⟨(fun i => ([undef, undef, undef, undef, undef]).getD i undef), (.bool false), by kernel_rfl, HA_1, H⟩
        · rintro _ w_2 ⟨D_1, x38, rfl, HA_2, H⟩
          refine ls_nil ?_
          refine then_normal ?_
          refine fr_eq (b := ⟨#[x0, x1, undef, undef, (.slice none 0 0), (.int .i64 0), x23, x24, x12, x0, x10, x11, x12, x15, x1, x15, x22, x0, x18, x19, x20, x1, x22, x23, x24, x23, x26, x27, x27, (D 0), (D 1), x31, x31, (D_1 0), (D_1 1), (D_1 2), (D_1 3), (D_1 4), x38, undef], []⟩) (by kernel_rfl) ?_
          refine wp_if rfl H (fun H => ?_) (fun H => ?_)
          · refine wp_seq ?_
            refine lwp_list ?_
            refine ls_assign (x := (.slice none 0 0)) (by kernel_rfl) (by kernel_rfl) ?_
            refine ls_assign (x := (.int .i64 12)) (by kernel_rfl) (by kernel_rfl) ?_
            refine ls_nil ?_
            refine then_normal ?_
            refine fr_eq (b := ⟨#[x0, x1, undef, undef, (.slice none 0 0), (.int .i64 12), x23, x24, x12, x0, x10, x11, x12, x15, x1, x15, x22, x0, x18, x19, x20, x1, x22, x23, x24, x23, x26, x27, x27, (D 0), (D 1), x31, x31, (D_1 0), (D_1 1), (D_1 2), (D_1 3), (D_1 4), x38, undef], []⟩) (by kernel_rfl) ?_
            refine wp_ret ?_
            refine then_ret ?_
            exact end2 (Try.results35) (by kernel_rfl) (by kernel_rfl) (by kernel_rfl) HA_2 H _ (.inr rfl)
          · refine wp_skip ?_
            refine then_normal ?_
            refine fr_eq (b := ⟨#[x0, x1, undef, undef, (.slice none 0 0), (.int .i64 0), x23, x24, x12, x0, x10, x11, x12, x15, x1, x15, x22, x0, x18, x19, x20, x1, x22, x23, x24, x23, x26, x27, x27, (D 0), (D 1), x31, x31, (D_1 0), (D_1 1), (D_1 2), (D_1 3), (D_1 4), x38, undef], []⟩) (by kernel_rfl) ?_
            refine wp_seq ?_
            refine lwp_list ?_
            refine ls_move (x := x23) (by kernel_rfl) (by kernel_rfl) ?_
            refine ls_assign (x := x23) (by kernel_rfl) (by kernel_rfl) ?_
            refine ls_assign (x := (.int .i64 0)) (by kernel_rfl) (by kernel_rfl) ?_
            refine ls_nil ?_
            refine then_normal ?_
            refine fr_eq (b := ⟨#[x0, x1, undef, undef, x23, (.int .i64 0), x23, x24, x12, x0, x10, x11, x12, x15, x1, x15, x22, x0, x18, x19, x20, x1, x22, x23, x24, x23, x26, x27, x27, (D 0), (D 1), x31, x31, (D_1 0), (D_1 1), (D_1 2), (D_1 3), (D_1 4), x38, x23], []⟩) (by kernel_rfl) ?_
            refine wp_ret ?_
            exact end2 (Try.results35) (by kernel_rfl) (by kernel_rfl) (by kernel_rfl) HA_2 H _ (.inr rfl)

end Go.Proofs.Ytlcklnbgknhhkaa

end

section
/- The shallow reading of one function, and that the function does it. Written by a program. -/
set_option linter.unusedVariables false
namespace Go.Proofs.Ytlcklnbgknhhkaa
open Go Go.HW

def pty_Pair_Resize_S (x0 x1 x2 : Value) (h : Heap) (R : Value → Heap → Prop) : Prop :=
  sLt x1 (.int .i64 1) fun x10 =>
  sOr x10 (fun k_3 =>
  sGt x1 (.int .i64 512) fun x13 =>
  k_3 x13) fun x14 =>
  sOr x14 (fun k_2 =>
  sLt x2 (.int .i64 1) fun x17 =>
  k_2 x17) fun x18 =>
  sOr x18 (fun k_1 =>
  sGt x2 (.int .i64 512) fun x21 =>
  k_1 x21) fun x22 =>
  sIf x22 (R (.tuple #[(.bool false), (.int .i64 2)]) h) (sNil x0 fun x25 =>
  sOff x25 3 fun x26 =>
  sLd h x26 fun x27 =>
  sNe x1 x27 fun x28 =>
  sOr x28 (fun k =>
  sNil x0 fun x32 =>
  sOff x32 4 fun x33 =>
  sLd h x33 fun x34 =>
  sNe x2 x34 fun x35 =>
  k x35) fun x36 =>
  sNil x0 fun x41 =>
  sOff x41 3 fun x42 =>
  sSt h x42 x1 fun h => 
  sNil x0 fun x43 =>
  sOff x43 4 fun x44 =>
  sSt h x44 x2 fun h_1 => 
  R (.tuple #[x36, (.int .i64 0)]) h_1)
set_option maxRecDepth 100000 in
theorem pty_Pair_Resize_runs {x0 x1 x2 : Value} {h : Heap} {R : Value → Heap → Prop} (H : pty_Pair_Resize_S x0 x1 x2 h R) : pty_Pair_Resize_c x0 x1 x2 h R := by
  unfold pty_Pair_Resize_S at H
  refine runs_of (b := ⟨#[x0, x1, x2, undef, undef, undef, undef, undef, undef, undef, undef, undef, undef, undef, undef, undef, undef, undef, undef, undef, undef, undef, undef, undef, undef, undef, undef, undef, undef, undef, undef, undef, undef, undef, undef, undef, undef, undef, undef, undef, undef, undef, undef, undef, undef, undef], []⟩) Try.call37 Try.func37 rfl (by kernel_rfl) (fun w0 HA => ?_)
  refine wp_seq ?_
  refine lwp_list ?_
  refine ls_assign (x := (.bool false)) (by kernel_rfl) (by kernel_rfl) ?_
  refine ls_assign (x := (.int .i64 0)) (by kernel_rfl) (by kernel_rfl) ?_
  refine ls_nil ?_
  refine then_normal ?_
  refine fr_eq (b := ⟨#[x0, x1, x2, undef, undef, undef, (.bool false), (.int .i64 0), undef, undef, undef, undef, undef, undef, undef, undef, undef, undef, undef, undef, undef, undef, undef, undef, undef, undef, undef, undef, undef, undef, undef, undef, undef, undef, undef, undef, undef, undef, undef, undef, undef, undef, undef, undef, undef, undef], []⟩) (by kernel_rfl) ?_
  refine wp_seq ?_
  refine wp_seq ?_
  refine lwp_list ?_
  refine ls_move (x := x1) (by kernel_rfl) (by kernel_rfl) ?_
  refine ls_p (d := some 10) (by kernel_rfl) (by kernel_rfl) (p_sLt (by kernel_rfl) (by kernel_rfl) H) (fun x10 H => ?_)
  refine ls_move (x := x10) (by kernel_rfl) (by kernel_rfl) ?_
  refine ls_or [(), (), ()] (fun K a w => ∃ (D : Nat → Value) (x14 : Value), a = ⟨#[x0, x1, x2, undef, undef, undef, (.bool false), (.int .i64 0), undef, x1, x10, x10, (D 0), (D 1), x14, undef, undef, undef, undef, undef, undef, undef, undef, undef, undef, undef, undef, undef, undef, undef, undef, undef, undef, undef, undef, undef, undef, undef, undef, undef, undef, undef, undef, undef, undef, undef], []⟩ ∧ At w0 w h ∧ K x14) H (fun hb_3 H => ?_) (fun hb_3 H => ?_) ?_
  · refine ls_move (x := x1) (by rw [hb_3]; kernel_rfl) (by kernel_rfl) ?_
    refine ls_p (d := some 13) (by kernel_rfl) (by rw [hb_3]; kernel_rfl) (p_sGt (by kernel_rfl) (by kernel_rfl) H) (fun x13 H => ?_)
    refine ls_pick_f (y := x13) (by kernel_rfl) (by rw [hb_3]; kernel_rfl) (by kernel_rfl) ?_
    refine ls_nil ?_
    refine then_normal ?_
    exact ⟨(fun i => ([x1, x13]).getD i undef), x13, by kernel_rfl, HA, H⟩
  · refine ls_skip (d := some 12) (by kernel_rfl) (by rw [hb_3]; kernel_rfl) ?_
    refine ls_skip (d := some 13) (by kernel_rfl) (by rw [hb_3]; kernel_rfl) ?_
    refine ls_pick_t (x := (.bool true)) (by kernel_rfl) (by rw [hb_3]; kernel_rfl) (by kernel_rfl) ?_
    refine ls_nil ?_
    refine then_normal ?_
    exact ⟨(fun i => ([undef, undef]).getD i undef), (.bool true), by kernel_rfl, HA, H⟩
  · rintro _ w ⟨D, x14, rfl, HA, H⟩
    refine ls_move (x := x14) (by kernel_rfl) (by kernel_rfl) ?_
    refine ls_or [(), (), ()] (fun K a w => ∃ (D_1 : Nat → Value) (x18 : Value), a = ⟨#[x0, x1, x2, undef, undef, undef, (.bool false), (.int .i64 0), undef, x1, x10, x10, (D 0), (D 1), x14, x14, (D_1 0), (D_1 1), x18, undef, undef, undef, undef, undef, undef, undef, undef, undef, undef, undef, undef, undef, undef, undef, undef, undef, undef, undef, undef, undef, undef, undef, undef, undef, undef, undef], []⟩ ∧ At w0 w h ∧ K x18) H (fun hb_2 H => ?_) (fun hb_2 H => ?_) ?_
    · refine ls_move (x := x2) (by rw [hb_2]; kernel_rfl) (by kernel_rfl) ?_
      refine ls_p (d := some 17) (by kernel_rfl) (by rw [hb_2]; kernel_rfl) (p_sLt (by kernel_rfl) (by kernel_rfl) H) (fun x17 H => ?_)
      refine ls_pick_f (y := x17) (by kernel_rfl) (by rw [hb_2]; kernel_rfl) (by kernel_rfl) ?_
      refine ls_nil ?_
      refine then_normal ?_
      exact ⟨(fun i => ([x2, x17]).getD i undef), x17, by kernel_rfl, HA, H⟩
    · refine ls_skip (d := some 16) (by kernel_rfl) (by rw [hb_2]; kernel_rfl) ?_
      refine ls_skip (d := some 17) (by kernel_rfl) (by rw [hb_2]; kernel_rfl) ?_
      refine ls_pick_t (x := (.bool true)) (by kernel_rfl) (by rw [hb_2]; kernel_rfl) (by kernel_rfl) ?_
      refine ls_nil ?_
      refine then_normal ?_
      exact ⟨(fun i => ([undef, undef]).getD i undef), (.bool true), by kernel_rfl, HA, H⟩
    · rintro _ w_1 ⟨D_1, x18, rfl, HA_1, H⟩
      refine ls_move (x := x18) (by kernel_rfl) (by kernel_rfl) ?_
      refine ls_or [(), (), ()] (fun K a w => ∃ (D_2 : Nat → Value) (x22 : Value), a = ⟨#[x0, x1, x2, undef, undef, undef, (.bool false), (.int .i64 0), undef, x1, x10, x10, (D 0), (D 1), x14, x14, (D_1 0), (D_1 1), x18, x18, (D_2 0), (D_2 1), x22, undef, undef, undef, undef, undef, undef, undef, undef, undef, undef, undef, undef, undef, undef, undef, undef, undef, undef, undef, undef, undef, undef, undef], []⟩ ∧ At w0 w h ∧ K x22) H (fun hb_1 H => ?_) (fun hb_1 H => ?_) ?_
      · refine ls_move (x := x2) (by rw [hb_1]; kernel_rfl) (by kernel_rfl) ?_
        refine ls_p (d := some 21) (by kernel_rfl) (by rw [hb_1]; kernel_rfl) (p_sGt (by kernel_rfl) (by kernel_rfl) H) (fun x21 H => ?_)
        refine ls_pick_f (y := x21) (by kernel_rfl) (by rw [hb_1]; kernel_rfl) (by kernel_rfl) ?_
        refine ls_nil ?_
        refine then_normal ?_
        exact ⟨(fun i => ([x2, x21]).getD i undef), x21, by kernel_rfl, HA_1, H⟩
      · refine ls_skip (d := some 20) (by kernel_rfl) (by rw [hb_1]; kernel_rfl) ?_
        refine ls_skip (d := some 21) (by kernel_rfl) (by rw [hb_1]; kernel_rfl) ?_
        refine ls_pick_t (x := (.bool true)) (by kernel_rfl) (by rw [hb_1]; kernel_rfl) (by kernel_rfl) ?_
        refine ls_nil ?_
        refine then_normal ?_
        exact ⟨(fun i => ([undef, undef]).getD i undef), (.bool true), by kernel_rfl, HA_1, H⟩
      · rintro _ w_2 ⟨D_2, x22, rfl, HA_2, H⟩
        refine ls_nil ?_
        refine then_normal ?_
        refine fr_eq (b := ⟨#[x0, x1, x2, undef, undef, undef, (.bool false), (.int .i64 0), undef, x1, x10, x10, (D 0), (D 1), x14, x14, (D_1 0), (D_1 1), x18, x18, (D_2 0), (D_2 1), x22, undef, undef, undef, undef, undef, undef, undef, undef, undef, undef, undef, undef, undef, undef, undef, undef, undef, undef, undef, undef, undef, undef, undef], []⟩) (by kernel_rfl) ?_
        refine wp_if rfl H (fun H => ?_) (fun H => ?_)
        · refine wp_seq ?_
          refine lwp_list ?_
          refine ls_assign (x := (.bool false)) (by kernel_rfl) (by kernel_rfl) ?_
          refine ls_assign (x := (.int .i64 2)) (by kernel_rfl) (by kernel_rfl) ?_
          refine ls_nil ?_
          refine then_normal ?_
          refine fr_eq (b := ⟨#[x0, x1, x2, undef, undef, undef, (.bool false), (.int .i64 2), undef, x1, x10, x10, (D 0), (D 1), x14, x14, (D_1 0), (D_1 1), x18, x18, (D_2 0), (D_2 1), x22, undef, undef, undef, undef, undef, undef, undef, undef, undef, undef, undef, undef, undef, undef, undef, undef, undef, undef, undef, undef, undef, undef, undef], []⟩) (by kernel_rfl) ?_
          refine wp_ret ?_
          refine then_ret ?_
          exact end2 (Try.results37) (by kernel_rfl) (by kernel_rfl) (by kernel_rfl) HA_2 H _ (.inr rfl)
        · refine wp_skip ?_
          refine then_normal ?_
          refine fr_eq (b := ⟨#[x0, x1, x2, undef, undef, undef, (.bool false), (.int .i64 0), undef, x1, x10, x10, (D 0), (D 1), x14, x14, (D_1 0), (D_1 1), x18, x18, (D_2 0), (D_2 1), x22, undef, undef, undef, undef, undef, undef, undef, undef, undef, undef, undef, undef, undef, undef, undef, undef, undef, undef, undef, undef, undef, undef, undef], []⟩) (by kernel_rfl) ?_
          refine wp_seq ?_
          refine lwp_list ?_
          refine ls_move (x := x1) (by kernel_rfl) (by kernel_rfl) ?_
          refine ls_move (x := x0) (by kernel_rfl) (by kernel_rfl) ?_
          refine ls_p (d := some 25) (by kernel_rfl) (by kernel_rfl) (p_nil (by kernel_rfl) H) (fun x25 H => ?_)
          refine ls_p (d := some 26) (by kernel_rfl) (by kernel_rfl) (p_off Try.underlying83 rfl (fun w => ⟨_, Try.sizeOf3 w⟩) rfl (by kernel_rfl) H) (fun x26 H => ?_)
          refine ls_y (d := some 27) (by kernel_rfl) (by kernel_rfl) HA_2 (y_ld Try.isAgg3 (by kernel_rfl) H) (fun x27 H => ?_)
          refine ls_p (d := some 28) (by kernel_rfl) (by kernel_rfl) (p_sNe (by kernel_rfl) (by kernel_rfl) H) (fun x28 H => ?_)
          refine ls_fr (b := ⟨#[x0, x1, x2, undef, undef, undef, (.bool false), (.int .i64 0), undef, x1, x10, x10, (D 0), (D 1), x14, x14, (D_1 0), (D_1 1), x18, x18, (D_2 0), (D_2 1), x22, x1, x0, x25, x26, x27, x28, undef, undef, undef, undef, undef, undef, undef, undef, undef, undef, undef, undef, undef, undef, undef, undef, undef], []⟩) (by kernel_rfl) ?_
          refine ls_move (x := x28) (by kernel_rfl) (by kernel_rfl) ?_
          refine ls_or [(), (), (), (), (), (), ()] (fun K a w => ∃ (D_3 : Nat → Value) (x36 : Value), a = ⟨#[x0, x1, x2, undef, undef, undef, (.bool false), (.int .i64 0), undef, x1, x10, x10, (D 0), (D 1), x14, x14, (D_1 0), (D_1 1), x18, x18, (D_2 0), (D_2 1), x22, x1, x0, x25, x26, x27, x28, x28, (D_3 0), (D_3 1), (D_3 2), (D_3 3), (D_3 4), (D_3 5), x36, undef, undef, undef, undef, undef, undef, undef, undef, undef], []⟩ ∧ At w0 w h ∧ K x36) H (fun hb H => ?_) (fun hb H => ?_) ?_
          · refine ls_move (x := x2) (by rw [hb]; kernel_rfl) (by kernel_rfl) ?_
            refine ls_move (x := x0) (by rw [hb]; kernel_rfl) (by kernel_rfl) ?_
            refine ls_p (d := some 32) (by kernel_rfl) (by rw [hb]; kernel_rfl) (p_nil (by kernel_rfl) H) (fun x32 H => ?_)
            refine ls_p (d := some 33) (by kernel_rfl) (by rw [hb]; kernel_rfl) (p_off Try.underlying83 rfl (fun w => ⟨_, Try.sizeOf3 w⟩) rfl (by kernel_rfl) H) (fun x33 H => ?_)
            refine ls_y (d := some 34) (by kernel_rfl) (by rw [hb]; kernel_rfl) HA_2 (y_ld Try.isAgg3 (by kernel_rfl) H) (fun x34 H => ?_)
            refine ls_fr (b := ⟨#[x0, x1, x2, undef, undef, undef, (.bool false), (.int .i64 0), undef, x1, x10, x10, (D 0), (D 1), x14, x14, (D_1 0), (D_1 1), x18, x18, (D_2 0), (D_2 1), x22, x1, x0, x25, x26, x27, x28, x28, x2, x0, x32, x33, x34, undef, undef, undef, undef, undef, undef, undef, undef, undef, undef, undef], []⟩) (by kernel_rfl) ?_
            refine ls_p (d := some 35) (by kernel_rfl) (by rw [hb]; kernel_rfl) (p_sNe (by kernel_rfl) (by kernel_rfl) H) (fun x35 H => ?_)
            refine ls_pick_f (y := x35) (by kernel_rfl) (by rw [hb]; kernel_rfl) (by kernel_rfl) ?_
            refine ls_nil ?_
            refine then_normal ?_
            exact ⟨(fun i => ([x2, x0, x32, x33, x34, x35]).getD i undef), x35, by kernel_rfl, HA_2, H⟩
          · refine ls_skip (d := some 30) (by kernel_rfl) (by rw [hb]; kernel_rfl) ?_
            refine ls_skip (d := some 31) (by kernel_rfl) (by rw [hb]; kernel_rfl) ?_
            refine ls_skip (d := some 32) (by kernel_rfl) (by rw [hb]; kernel_rfl) ?_
            refine ls_skip (d := some 33) (by kernel_rfl) (by rw [hb]; kernel_rfl) ?_
            refine ls_skip (d := some 34) (by kernel_rfl) (by rw [hb]; kernel_rfl) ?_
            refine ls_fr (b := ⟨#[x0, x1, x2, undef, undef, undef, (.bool false), (.int .i64 0), undef, x1, x10, x10, (D 0), (D 1), x14, x14, (D_1 0), (D_1 1), x18, x18, (D_2 0), (D_2 1), x22, x1, x0, x25, x26, x27, x28, x28, undef, undef, undef, undef, undef, undef, undef, undef, undef, undef, undef, undef, undef, undef, undef, undef], []⟩) (by kernel_rfl) ?_
            refine ls_skip (d := some 35) (by kernel_rfl) (by rw [hb]; kernel_rfl) ?_
            refine ls_pick_t (x := (.bool true)) (by kernel_rfl) (by rw [hb]; kernel_rfl) (by kernel_rfl) ?_
            refine ls_nil ?_
            refine then_normal ?_
            exact ⟨(fun i => ([undef, undef, undef, undef, undef, undef]).getD i undef), (.bool true), by kernel_rfl, HA_2, H⟩
          · rintro _ w_3 ⟨D_3, x36, rfl, HA_3, H⟩
            refine ls_assign (x := x36) (by kernel_rfl) (by kernel_rfl) ?_
            refine ls_nil ?_
            refine then_normal ?_
            refine fr_eq (b := ⟨#[x0, x1, x2, undef, undef, undef, (.bool false), (.int .i64 0), x36, x1, x10, x10, (D 0), (D 1), x14, x14, (D_1 0), (D_1 1), x18, x18, (D_2 0), (D_2 1), x22, x1, x0, x25, x26, x27, x28, x28, (D_3 0), (D_3 1), (D_3 2), (D_3 3), (D_3 4), (D_3 5), x36, undef, undef, undef, undef, undef, undef, undef, undef, undef], []⟩) (by kernel_rfl) ?_
            refine wp_seq ?_
            refine lwp_list ?_
            refine ls_move (x := x0) (by kernel_rfl) (by kernel_rfl) ?_
            refine ls_move (x := x0) (by kernel_rfl) (by kernel_rfl) ?_
            refine ls_move (x := x1) (by kernel_rfl) (by kernel_rfl) ?_
            refine ls_move (x := x2) (by kernel_rfl) (by kernel_rfl) ?_
            refine ls_p (d := some 41) (by kernel_rfl) (by kernel_rfl) (p_nil (by kernel_rfl) H) (fun x41 H => ?_)
            refine ls_p (d := some 42) (by kernel_rfl) (by kernel_rfl) (p_off Try.underlying83 rfl (fun w => ⟨_, Try.sizeOf3 w⟩) rfl (by kernel_rfl) H) (fun x42 H => ?_)
            refine ls_fr (b := ⟨#[x0, x1, x2, undef, undef, undef, (.bool false), (.int .i64 0), x36, x1, x10, x10, (D 0), (D 1), x14, x14, (D_1 0), (D_1 1), x18, x18, (D_2 0), (D_2 1), x22, x1, x0, x25, x26, x27, x28, x28, (D_3 0), (D_3 1), (D_3 2), (D_3 3), (D_3 4), (D_3 5), x36, x0, x0, x1, x2, x41, x42, undef, undef, undef], []⟩) (by kernel_rfl) ?_
            refine ls_d (d := none) (by kernel_rfl) (by kernel_rfl) HA_3 (d_st Try.sizeOf3 (by kernel_rfl) (by kernel_rfl) H) (fun _ h w_4 H HA_4 => ?_)
            refine ls_p (d := some 43) (by kernel_rfl) (by kernel_rfl) (p_nil (by kernel_rfl) H) (fun x43 H => ?_)
            refine ls_p (d := some 44) (by kernel_rfl) (by kernel_rfl) (p_off Try.underlying83 rfl (fun w => ⟨_, Try.sizeOf3 w⟩) rfl (by kernel_rfl) H) (fun x44 H => ?_)
            refine ls_d (d := none) (by kernel_rfl) (by kernel_rfl) HA_4 (d_st Try.sizeOf3 (by kernel_rfl) (by kernel_rfl) H) (fun _ h_1 w_5 H HA_5 => ?_)
            refine ls_nil ?_
            refine then_normal ?_
            refine fr_eq (b := ⟨#[x0, x1, x2, undef, undef, undef, (.bool false), (.int .i64 0), x36, x1, x10, x10, (D 0), (D 1), x14, x14, (D_1 0), (D_1 1), x18, x18, (D_2 0), (D_2 1), x22, x1, x0, x25, x26, x27, x28, x28, (D_3 0), (D_3 1), (D_3 2), (D_3 3), (D_3 4), (D_3 5), x36, x0, x0, x1, x2, x41, x42, x43, x44, undef], []⟩) (by kernel_rfl) ?_
            refine wp_seq ?_
            refine lwp_list ?_
            refine ls_move (x := x36) (by kernel_rfl) (by kernel_rfl) ?_
            refine ls_assign (x := x36) (by kernel_rfl) (by kernel_rfl) ?_
            refine ls_assign (x := (.int .i64 0)) (by kernel_rfl) (by kernel_rfl) ?_
            refine ls_nil ?_
            refine then_normal ?_
            refine fr_eq (b := ⟨#[x0, x1, x2, undef, undef, undef, x36, (.int .i64 0), x36, x1, x10, x10, (D 0), (D 1), x14, x14, (D_1 0), (D_1 1), x18, x18, (D_2 0), (D_2 1), x22, x1, x0, x25, x26, x27, x28, x28, (D_3 0), (D_3 1), (D_3 2), (D_3 3), (D_3 4), (D_3 5), x36, x0, x0, x1, x2, x41, x42, x43, x44, x36], []⟩) (by kernel_rfl) ?_
            refine wp_ret ?_
            exact end2 (Try.results37) (by kernel_rfl) (by kernel_rfl) (by kernel_rfl) HA_5 H _ (.inr rfl)

end Go.Proofs.Ytlcklnbgknhhkaa

end

section
/- The shallow reading of one function, and that the function does it. Written by a program. -/
set_option linter.unusedVariables false
namespace Go.Proofs.Ytlcklnbgknhhkaa
open Go Go.HW

def pty_Pair_Size_S (x0 : Value) (h : Heap) (R : Value → Heap → Prop) : Prop :=
  sNil x0 fun x5 =>
  sOff x5 3 fun x6 =>
  sLd h x6 fun x7 =>
  sNil x0 fun x9 =>
  sOff x9 4 fun x10 =>
  sLd h x10 fun x11 =>
  R (.tuple #[x7, x11]) h
set_option maxRecDepth 100000 in
theorem pty_Pair_Size_runs {x0 : Value} {h : Heap} {R : Value → Heap → Prop} (H : pty_Pair_Size_S x0 h R) : pty_Pair_Size_c x0 h R := by
  unfold pty_Pair_Size_S at H
  refine runs_of (b := ⟨#[x0, undef, undef, undef, undef, undef, undef, undef, undef, undef, undef, undef], []⟩) Try.call38 Try.func38 rfl (by kernel_rfl) (fun w0 HA => ?_)
  refine wp_seq ?_
  refine lwp_list ?_
  refine ls_assign (x := (.int .i64 0)) (by kernel_rfl) (by kernel_rfl) ?_
  refine ls_assign (x := (.int .i64 0)) (by kernel_rfl) (by kernel_rfl) ?_
  refine ls_nil ?_
  refine then_normal ?_
  refine fr_eq (b := ⟨#[x0, undef, (.int .i64 0), (.int .i64 0), undef, undef, undef, undef, undef, undef, undef, undef], []⟩) (by kernel_rfl) ?_
  refine wp_seq ?_
  refine lwp_qt (by kernel_rfl) (by kernel_rfl) HA ?_
  refine lq_move (x := x0) (by kernel_rfl) (by kernel_rfl) ?_
  refine lq_p (d := some 5) (by kernel_rfl) (by kernel_rfl) (p_nil (by kernel_rfl) H) (fun x5 H => ?_)
  refine lq_p (d := some 6) (by kernel_rfl) (by kernel_rfl) (p_off Try.underlying83 rfl (fun w => ⟨_, Try.sizeOf3 w⟩) rfl (by kernel_rfl) H) (fun x6 H => ?_)
  refine lq_y (d := some 7) (by kernel_rfl) (by kernel_rfl) HA (y_ld Try.isAgg3 (by kernel_rfl) H) (fun x7 H => ?_)
  refine lq_move (x := x0) (by kernel_rfl) (by kernel_rfl) ?_
  refine lq_p (d := some 9) (by kernel_rfl) (by kernel_rfl) (p_nil (by kernel_rfl) H) (fun x9 H => ?_)
  refine lq_p (d := some 10) (by kernel_rfl) (by kernel_rfl) (p_off Try.underlying83 rfl (fun w => ⟨_, Try.sizeOf3 w⟩) rfl (by kernel_rfl) H) (fun x10 H => ?_)
  refine lq_y (d := some 11) (by kernel_rfl) (by kernel_rfl) HA (y_ld Try.isAgg3 (by kernel_rfl) H) (fun x11 H => ?_)
  refine lq_assign (x := x7) (by kernel_rfl) (by kernel_rfl) ?_
  refine lq_assign (x := x11) (by kernel_rfl) (by kernel_rfl) ?_
  refine lq_nil ?_
  intro w HA
  refine then_normal ?_
  refine fr_eq (b := ⟨#[x0, undef, x7, x11, x0, x5, x6, x7, x0, x9, x10, x11], []⟩) (by kernel_rfl) ?_
  refine wp_ret ?_
  exact end2 (Try.results38) (by kernel_rfl) (by kernel_rfl) (by kernel_rfl) HA H _ (.inr rfl)

end Go.Proofs.Ytlcklnbgknhhkaa

end

section
/- Pseudo-terminals: what each function comes to. -/
set_option linter.unusedSimpArgs false
set_option linter.unusedVariables false
namespace Go.Proofs.Ytlcklnbgknhhkaa
open Go Go.HW

structure P where
  out : List Int
  col : Int
  w : Int
  h : Int
def pC (p : P) (kd : Nat) (ov : Value) : Array Value := #[ptr kd 0, ov, .int .i64 p.col, .int .i64 p.w, .int .i64 p.h, .bool false, .int .u8 0, .bool false, .bool false]
/-- A pair whose ends are open, without packets. -/
def Pc (k kd : Nat) (p : P) : HP := HP.ex fun ov : Value => HP.all [Blk k (pC p kd ov) 83, Sl (encI .u8) 1 ov p.out]
def P.write (p : P) (o c : Int) : P × Bool := if p.out.length + (byteL o p.col c).1.length > 4096 then (p, false) else ({ p with out := p.out ++ (byteL o p.col c).1, col := (byteL o p.col c).2 }, true)
def P.writes (p : P) (o : Int) (l : List Int) : P := l.foldl (fun p c => (p.write o c).1) p
def mwL : List Int → P × D × List Int → P × D × List Int
  | [], x => x
  | c :: l, x => mwL l (x.1.writes (x.2.1.input c).1.t.o (x.2.1.input c).1.ec, (x.2.1.input c).1, if (x.2.1.input c).2 ≠ 0 then x.2.2 ++ [(x.2.1.input c).2] else x.2.2)
theorem mwL_app : ∀ (a b : List Int) (x : P × D × List Int), mwL (a ++ b) x = mwL b (mwL a x)
  | [], b, x => rfl
  | c :: a, b, x => by rw [List.cons_append, mwL, mwL_app a b, mwL]
theorem write_len (p : P) (o c : Int) (h : p.out.length ≤ 4096) : (p.write o c).1.out.length ≤ 4096 := by
  unfold P.write; split
  · exact h
  · simp only [List.length_append]; omega
theorem writes_len (o : Int) : ∀ (l : List Int) (p : P), p.out.length ≤ 4096 → (p.writes o l).out.length ≤ 4096
  | [], p, h => h
  | c :: l, p, h => by unfold P.writes; rw [List.foldl_cons]; exact writes_len o l _ (write_len p o c h)
theorem mwL_len : ∀ (l : List Int) (x : P × D × List Int), x.1.out.length ≤ 4096 → (mwL l x).1.out.length ≤ 4096
  | [], x, h => h
  | c :: l, x, h => by rw [mwL]; exact mwL_len l _ (writes_len _ _ _ h)
theorem mwL_bw : ∀ (l : List Int) (x : P × D × List Int), (mwL l x).2.1.bw ≤ x.2.1.bw + 9 * l.length ∧ (mwL l x).2.2.length ≤ x.2.2.length + l.length
  | [], x => by rw [mwL]; simp
  | c :: l, x => by
    rw [mwL, List.length_cons]
    have h1 := input_bw x.2.1 c
    obtain ⟨h2, h3⟩ := mwL_bw l (x.1.writes (x.2.1.input c).1.t.o (x.2.1.input c).1.ec, (x.2.1.input c).1, if (x.2.1.input c).2 ≠ 0 then x.2.2 ++ [(x.2.1.input c).2] else x.2.2)
    have h4 : (if (x.2.1.input c).2 ≠ 0 then x.2.2 ++ [(x.2.1.input c).2] else x.2.2).length ≤ x.2.2.length + 1 := by split <;> simp
    simp only at h2 h3
    omega
theorem mwL_ec : ∀ (l : List Int) (c : Int) (x : P × D × List Int), (mwL (c :: l) x).2.1.ec.length ≤ 2 * (x.2.1.bw + 9 * l.length) + 10
  | [], c, x => by rw [mwL, mwL]; have := input_bw x.2.1 c; simp only [List.length_nil]; omega
  | a :: l, c, x => by
    rw [mwL]
    have h := mwL_ec l a (x.1.writes (x.2.1.input c).1.t.o (x.2.1.input c).1.ec, (x.2.1.input c).1, if (x.2.1.input c).2 ≠ 0 then x.2.2 ++ [(x.2.1.input c).2] else x.2.2)
    have h1 := input_bw x.2.1 c
    rw [List.length_cons]
    simp only at h ⊢; omega
theorem mwL_wt (l : List Int) (x : P × D × List Int) : (mwL l x).2.1.wt ≤ 3 * (x.2.1.wt + 9 * l.length) + 10 := by
  have h1 := (mwL_bw l x).1
  rw [wt_eq, wt_eq]
  cases l with
  | nil => rw [mwL] at *; simp only [List.length_nil] at *; omega
  | cons c l => have h2 := mwL_ec l c x; rw [List.length_cons] at *; omega
def P0 : P := ⟨[], 0, 80, 24⟩
def P.read (p : P) (n : Int) : P × List Int × Int := if p.out = [] then (p, [], 12) else ({ p with out := p.out.drop (min n.toNat p.out.length) }, p.out.take (min n.toNat p.out.length), 0)

theorem tup3 {a b c : Value} {K : Value → Prop} : sTup (.tuple #[a, b, c]) 0 K = K a ∧ sTup (.tuple #[a, b, c]) 1 K = K b ∧ sTup (.tuple #[a, b, c]) 2 K = K c := ⟨by rw [ev_tup]; rfl, by rw [ev_tup]; rfl, by rw [ev_tup]; rfl⟩
section
variable {h0 h : Heap} {F : List HP} {R : Value → Heap → Prop} {k kd : Nat} {p : P} {d : D}
theorem Popen (s : HW.Sep h0 (Pc k kd p :: F) h) : ∃ ov, HW.Sep h0 (Blk k (pC p kd ov) 83 :: Sl (encI .u8) 1 ov p.out :: F) h := by
  obtain ⟨ov, s⟩ := s.open_ex
  exact ⟨ov, s.open_all⟩
theorem Pshut {ov : Value} (s : HW.Sep h0 (Blk k (pC p kd ov) 83 :: Sl (encI .u8) 1 ov p.out :: F) h) : HW.Sep h0 (Pc k kd p :: F) h :=
  Sep.shut_ex (A := fun ov : Value => HP.all [Blk k (pC p kd ov) 83, Sl (encI .u8) 1 ov p.out]) ov (Sep.shut_all (L := [_, _]) s)
theorem Phas (s : HW.Sep h0 (Pc k kd p :: F) h) : ∃ ov, h.has k (pC p kd ov) 83 := by obtain ⟨ov, s⟩ := Popen s; exact ⟨ov, s.has⟩
theorem setting_b {lv sv rv ev : Value} (b : h.has k (dC d lv sv rv ev) 72) (H : ∀ h', Ext h h' → R d.t.v h') : ldisc_Disc_Setting_c (ptr k 0) h R := by
  apply ldisc_Disc_Setting_runs
  unfold ldisc_Disc_Setting_S
  refine (HW.Sep.start h).new (fun k2 h1 s1 => ?_)
  rw [ev_nil, ev_off, Nat.zero_add, dt_ld (s1.ext.has b)]
  refine s1.stall (cs := d.t.c) rfl rfl d.t.cell1 (fun h2 s2 => ?_)
  rw [s2.ldall (n := 17) rfl]
  exact H h2 s2.ext
theorem stopped_b {lv sv rv ev : Value} (b : h.has k (dC d lv sv rv ev) 72) (H : R (.bool d.st) h) : ldisc_Disc_Stopped_c (ptr k 0) h R := by
  apply ldisc_Disc_Stopped_runs
  unfold ldisc_Disc_Stopped_S
  have f : ∀ {K : Value → Prop}, sLd h (ptr k 20) K = K (.bool d.st) := ev_ld_has b rfl
  rw [ev_nil, ev_off, Nat.zero_add, f]; exact H
theorem fldo {t : Tm} {K : Value → Prop} : sFld t.v 1 K = K (.int .i64 t.o) := by show sFld (.agg t.c) 1 K = _; rw [ev_fld]; rfl
theorem fldl {t : Tm} {K : Value → Prop} : sFld t.v 2 K = K (.int .i64 t.l) := by show sFld (.agg t.c) 2 K = _; rw [ev_fld]; rfl
theorem flag_no {b : Bool} {f : Int} (s : HW.Sep h0 (Pc k kd p :: F) h) (H : R unit h) : pty_Pair_flag_c (ptr k 0) (.bool b) (.int .u8 f) h R := by
  apply pty_Pair_flag_runs
  unfold pty_Pair_flag_S
  obtain ⟨ov, b5⟩ := Phas s
  have f5 : ∀ {K : Value → Prop}, sLd h (ptr k 5) K = K (.bool false) := ev_ld_has b5 rfl
  rw [ev_nil, ev_off, Nat.zero_add, f5, ev_and, if_neg (by decide), ev_if, if_neg (by decide)]
  exact H
theorem pwrite_spec {c : Int} {lv sv rv ev : Value} (s : HW.Sep h0 (Pc k kd p :: F) h) (hd : ∀ L h', HW.Sep h0 (L ++ F) h' → h'.has kd (dC d lv sv rv ev) 72) (hl : p.out.length ≤ 4096) (H : ∀ h', HW.Sep h0 (Pc k kd (p.write d.t.o c).1 :: F) h' → R (.bool (p.write d.t.o c).2) h') : pty_Pair_write_c (ptr k 0) (.int .u8 c) h R := by
  apply pty_Pair_write_runs
  unfold pty_Pair_write_S
  obtain ⟨ov, so⟩ := Popen s
  have b : h.has k (pC p kd ov) 83 := so.has
  refine ⟨fun h' => h'.has k (pC p kd ov) 83, b, ?_⟩
  have c2 : ∀ {K : Value → Prop}, sLdC (fun h' => h'.has k (pC p kd ov) 83) (ptr k 2) K = K (.int .i64 p.col) := fun {K} => ldc_at (C := fun h' => h'.has k (pC p kd ov) 83) (h0 := h) b (fun h' e => by rw [e.at]; rfl)
  have f0 : ∀ {K : Value → Prop}, sLd h (ptr k 0) K = K (ptr kd 0) := ev_ld_has b rfl
  rw [ev_nil, ev_off, Nat.zero_add, f0]
  refine setting_b (hd [_, _] _ so) (fun h1 e1 => ⟨e1.has b, ?_⟩)
  rw [fldo, ev_nil, ev_off, Nat.zero_add, c2]
  refine obyte_spec (so.ext' e1) (fun v h2 cv s2 => ?_)
  have l1 := (byteL_rng (o := d.t.o) (col := p.col) (c := c)).2.2
  have f1 : ∀ {K : Value → Prop}, sLd h2 (ptr k 1) K = K ov := s2.b1.ld rfl
  have lo : ∀ {K : Value → Prop}, sLen ov K = K (.int .i64 p.out.length) := fun {K} => s2.b2.seq.len
  have lv' : ∀ {K : Value → Prop}, sLen v K = K (.int .i64 (byteL d.t.o p.col c).1.length) := fun {K} => s2.seq.len
  unfold P.write at H
  rw [tup0, tup1, ev_nil, ev_off, Nat.zero_add, f1, lo, lv', ev_add, wrap_i64 (by omega) (by omega), ev_gt, ev_if]
  by_cases hb : p.out.length + (byteL d.t.o p.col c).1.length > 4096
  · rw [if_pos hb] at H
    rw [if_pos (decide_eq_true (by omega))]
    exact H h2 (Pshut s2.tail)
  · rw [if_neg hb] at H
    rw [if_neg (by simp; omega), ev_nil, ev_off, Nat.zero_add, f1]
    refine s2.b2.app (enc := encI .u8) (sz := 1) rfl (by decide) (encI_len .u8) (encI_cell .u8) s2.seq (by omega) (by decide) (fun v2 h3 cv2 s3 => ?_)
    rw [ev_nil, ev_off, Nat.zero_add]
    refine s3.b2.st (Nat.le_of_ble_eq_true rfl) cv2 (fun h4 s4 => ?_)
    rw [ev_nil, ev_off, Nat.zero_add]
    refine s4.st (Nat.le_of_ble_eq_true rfl) trivial (fun h5 s5 => ?_)
    exact H h5 (Pshut (p := { p with out := p.out ++ (byteL d.t.o p.col c).1, col := (byteL d.t.o p.col c).2 }) s5.b2.tail)
theorem mread_spec {n : Int} (hn : 1 ≤ n) (hl : p.out.length ≤ 4096) (s : HW.Sep h0 (Pc k kd p :: F) h) (H : ∀ v h', HW.Sep h0 (Sl (encI .u8) 1 v (p.read n).2.1 :: Pc k kd (p.read n).1 :: F) h' → R (.tuple #[v, .int .i64 (p.read n).2.2]) h') : pty_Pair_MasterRead_c (ptr k 0) (.int .i64 n) h R := by
  apply pty_Pair_MasterRead_runs
  unfold pty_Pair_MasterRead_S
  obtain ⟨ov, so⟩ := Popen s
  have f7 : ∀ {K : Value → Prop}, sLd h (ptr k 7) K = K (.bool false) := so.ld rfl
  have f6 : ∀ {K : Value → Prop}, sLd h (ptr k 6) K = K (.int .u8 0) := so.ld rfl
  have f1 : ∀ {K : Value → Prop}, sLd h (ptr k 1) K = K ov := so.ld rfl
  have f8 : ∀ {K : Value → Prop}, sLd h (ptr k 8) K = K (.bool false) := so.ld rfl
  have f5 : ∀ {K : Value → Prop}, sLd h (ptr k 5) K = K (.bool false) := so.ld rfl
  have q := so.b1.seq
  have lo : ∀ {K : Value → Prop}, sLen ov K = K (.int .i64 p.out.length) := fun {K} => q.len
  unfold P.read at H
  rw [ev_nil, ev_off, Nat.zero_add, f7, ev_if, if_neg (by decide), ev_lt, ev_if, if_neg (by simp; omega), ev_nil, ev_off, Nat.zero_add, f6, ev_ne, ev_if, if_neg (by decide), ev_nil, ev_off, Nat.zero_add, f1, lo, ev_eq]
  have k1 : ∀ {K : Value → Prop} {x : Bool}, K (.bool false) → sAnd (.bool x) (fun k_1 => sNil (ptr k 0) fun x40 => sOff x40 8 fun x41 => sLd h x41 fun x42 => k_1 x42) K := by
    intro K x hK
    rw [ev_and]; cases x
    · exact hK
    · rw [if_pos rfl, ev_nil, ev_off, Nat.zero_add, f8]; exact hK
  refine k1 ?_
  rw [ev_if, if_neg (by decide), ev_nil, ev_off, Nat.zero_add, f1, lo, ev_eq, ev_if]
  by_cases hne : p.out = []
  · rw [if_pos hne] at H
    rw [if_pos (by rw [hne]; decide)]
    exact H _ h (sep_nil s)
  rw [if_neg hne] at H
  have hpos : 0 < p.out.length := by cases ho : p.out with
    | nil => exact (hne ho).elim
    | cons a b => simp
  rw [if_neg (by simp; omega), ev_nil, ev_off, Nat.zero_add, f5, ev_if, if_neg (by decide)]
  unfold pty_Pair_MasterRead_j1
  rw [ev_nil, ev_off, Nat.zero_add, f1, lo, ev_min, min_cast (by omega)]
  generalize hm : min n.toNat p.out.length = m at H
  have hml : m ≤ p.out.length := by omega
  rw [ev_nil, ev_off, Nat.zero_add, f1]
  refine q.slK (i := 0) (j := m) (by omega) hml rfl ⟨.i64, rfl⟩ ?_
  have qc := q.cutP (i := 0) (j := m) (by omega) hml
  rw [List.drop_zero] at qc
  refine (sep_nil (enc := encI .u8) (sz := 1) so).app (enc := encI .u8) (sz := 1) rfl (by decide) (encI_len .u8) (encI_cell .u8) qc (by simp only [List.length_nil, List.length_take]; omega) (by decide) (fun v h1 cv s1 => ?_)
  rw [List.nil_append] at s1
  have g1 : ∀ {K : Value → Prop}, sLd h1 (ptr k 1) K = K ov := s1.b1.ld rfl
  rw [ev_nil, ev_off, Nat.zero_add, g1]
  refine s1.b2.seq.slK (i := m) (j := p.out.length) hml (Nat.le_refl _) ⟨.i64, rfl⟩ rfl ?_
  have rd : HW.Rd (encI .u8) 1 h0 (Sl (encI .u8) 1 v (p.out.take m) :: Blk k (pC p kd ov) 83 :: Sl (encI .u8) 1 ov p.out :: F) ov p.out := Rd.own2
  have rd2 := rd.cut (i := m) (j := p.out.length) hml (Nat.le_refl _)
  rw [List.take_length] at rd2
  refine clone_bytes rd2 s1 (by rw [List.length_drop]; omega) (fun v2 h2 cv2 s2 => ?_)
  rw [ev_nil, ev_off, Nat.zero_add]
  refine s2.b2.st (Nat.le_of_ble_eq_true rfl) cv2 (fun h3 s3 => ?_)
  have s4 : HW.Sep h0 (Blk k (pC { p with out := p.out.drop m } kd v2) 83 :: Sl (encI .u8) 1 v2 (p.out.drop m) :: Sl (encI .u8) 1 v (p.out.take m) :: Sl (encI .u8) 1 ov p.out :: F) h3 := s3
  have s5 : HW.Sep h0 (Pc k kd { p with out := p.out.drop m } :: Sl (encI .u8) 1 v (p.out.take m) :: F) h3 := (Pshut (p := { p with out := p.out.drop m }) s4).b2.tail
  exact H v h3 s5.b1
theorem sread_spec {n : Int} (hn : 1 ≤ n) (hb : d.wt ≤ 300000000) (s : HW.Sep h0 (Pc k kd p :: Dc kd d :: F) h) (H : ∀ v h', HW.Sep h0 (Sl (encI .u8) 1 v (d.read n).2.1 :: Pc k kd p :: Dc kd (d.read n).1 :: F) h' → R (.tuple #[v, .int .i64 0]) h' ∨ ((d.read n).2.1 = [] ∧ (d.read n).2.2 = false)) (H0 : ∀ h', (d.read n).2.1 = [] → (d.read n).2.2 = false → HW.Sep h0 (Pc k kd p :: Dc kd (d.read n).1 :: F) h' → R (.tuple #[.slice none 0 0, .int .i64 12]) h') : pty_Pair_SlaveRead_c (ptr k 0) (.int .i64 n) h R := by
  apply pty_Pair_SlaveRead_runs
  unfold pty_Pair_SlaveRead_S
  obtain ⟨ov, so⟩ := Popen s
  have f8 : ∀ {K : Value → Prop}, sLd h (ptr k 8) K = K (.bool false) := so.ld rfl
  have f0 : ∀ {K : Value → Prop}, sLd h (ptr k 0) K = K (ptr kd 0) := so.ld rfl
  rw [ev_nil, ev_off, Nat.zero_add, f8, ev_if, if_neg (by decide), ev_lt, ev_if, if_neg (by simp; omega), ev_nil, ev_off, Nat.zero_add, f0]
  refine read_spec s.b1 hb (fun v h1 s1 => ?_)
  have s1' : HW.Sep h0 (Pc k kd p :: Sl (encI .u8) 1 v (d.read n).2.1 :: Dc kd (d.read n).1 :: F) h1 := s1.b2
  obtain ⟨ov', so'⟩ := Popen s1'
  have f7 : ∀ {K : Value → Prop}, sLd h1 (ptr k 7) K = K (.bool false) := so'.ld rfl
  rw [tup0, tup1, s1.seq.len, ev_eq]
  generalize (d.read n).2.1 = bs at *
  generalize (d.read n).2.2 = en at *
  have k1 : ∀ {K : Value → Prop} {x : Bool}, K (.bool (x && !en)) → sAnd (.bool x) (fun k_1 => sNot (.bool en) fun x30 => k_1 x30) K := by
    intro K x hK
    rw [ev_and]; cases x
    · exact hK
    · rw [if_pos rfl, ev_not]; exact hK
  refine k1 ?_
  have k2 : ∀ {K : Value → Prop} {x : Bool}, K (.bool x) → sAnd (.bool x) (fun k_1 => sNil (ptr k 0) fun x34 => sOff x34 7 fun x35 => sLd h1 x35 fun x36 => sNot x36 fun x37 => k_1 x37) K := by
    intro K x hK
    rw [ev_and]; cases x
    · exact hK
    · rw [if_pos rfl, ev_nil, ev_off, Nat.zero_add, f7, ev_not]; exact hK
  refine k2 ?_
  rw [ev_if]
  by_cases hc : bs = [] ∧ en = false
  · rw [if_pos (by rw [hc.1, hc.2]; decide)]
    exact H0 h1 hc.1 hc.2 s1'.drop1
  · rw [if_neg (by
      intro hh
      simp only [Bool.and_eq_true, beq_iff_eq, Bool.not_eq_true'] at hh
      exact hc ⟨List.eq_nil_of_length_eq_zero (by omega), hh.2⟩)]
    rcases H v h1 s1'.b1 with h | h
    · exact h
    · exact (hc h).elim
end
end Go.Proofs.Ytlcklnbgknhhkaa

end
