/- The shallow reading of one function, and that the function does it. Written by a program. -/
import Derived.Test.YtpgpbhbpamgboaaFnC
set_option linter.unusedVariables false
namespace Go.Proofs.Ytpgpbhbpamgboaa
open Go Go.HW

def betonylaw17_TermiosTells_j1 (R : Value → Heap → Prop) (x1 x2 x3 x15 x16 x19 x10 : Value) (h_3 : Heap) : Prop :=
  ∃ C : Heap → Prop, C h_3 ∧ (sLdNC C x3 17 fun x24 =>
  termios_Right_c x24 h_3 fun x25 h_4 => C h_4 ∧ (
  sLdNC C x3 17 fun x26 =>
  betonyref17_Right_c x26 h_4 fun x27 h_5 => C h_5 ∧ (
  sEqlB x25 x27 fun x28 =>
  sAndH x28 h_5 (fun k_4 =>
  sLdNC C x3 17 fun x30 =>
  termios_Is_c x30 x1 x2 h_5 fun x33 h_9 => C h_9 ∧ (
  sLdNC C x3 17 fun x34 =>
  sConv .i64 x2 fun x37 =>
  betonyref17_Is_c x34 x1 x37 h_9 fun x38 h_10 => 
  sEqlB x33 x38 fun x39 =>
  k_4 x39 h_10)) fun x40 h_6 =>
  sAnd x40 (fun k_3 =>
  sEq x10 x19 fun x44 =>
  k_3 x44) fun x45 =>
  sAnd x45 (fun k_1 =>
  sOr x16 (fun k_2 =>
  sEq x15 (.int .u8 0) fun x50 =>
  k_2 x50) fun x51 =>
  k_1 x51) fun x52 =>
  sAndH x52 h_6 (fun k =>
  betonylaw17_awake_c  h_6 fun x54 h_8 => 
  k x54 h_8) fun x55 h_7 =>
  R x55 h_7)))
def betonylaw17_TermiosTells_S (x0 x1 x2 : Value) (h : Heap) (R : Value → Heap → Prop) : Prop :=
  sBox h x0 24 fun x3 h => 
  sLdN h x3 17 fun x12 =>
  termios_Map_c x12 x2 h fun x14 h_1 => 
  sTup x14 0 fun x15 =>
  sTup x14 1 fun x16 =>
  sLdN h_1 x3 17 fun x17 =>
  betonyref17_Map_c x17 x2 h_1 fun x19 h_2 => 
  sConv .i64 x15 fun x21 =>
  sNot x16 fun x23 =>
  sIf x23 (betonylaw17_TermiosTells_j1 R x1 x2 x3 x15 x16 x19 (.int .i64 (-1)) h_2) (betonylaw17_TermiosTells_j1 R x1 x2 x3 x15 x16 x19 x21 h_2)
set_option maxRecDepth 100000 in
theorem betonylaw17_TermiosTells_runs {x0 x1 x2 : Value} {h : Heap} {R : Value → Heap → Prop} (H : betonylaw17_TermiosTells_S x0 x1 x2 h R) : betonylaw17_TermiosTells_c x0 x1 x2 h R := by
  unfold betonylaw17_TermiosTells_S at H
  refine runs_of (b := ⟨#[x0, x1, x2, undef, undef, undef, undef, undef, undef, undef, undef, undef, undef, undef, undef, undef, undef, undef, undef, undef, undef, undef, undef, undef, undef, undef, undef, undef, undef, undef, undef, undef, undef, undef, undef, undef, undef, undef, undef, undef, undef, undef, undef, undef, undef, undef, undef, undef, undef, undef, undef, undef, undef, undef, undef, undef], []⟩) Try.call4 Try.func4 rfl (by kernel_rfl) (fun w0 HA => ?_)
  refine wp_seq ?_
  refine lwp_list ?_
  refine ls_d (d := some 3) (by kernel_rfl) (by kernel_rfl) HA (d_box (by kernel_rfl) H) (fun x3 h w H HA => ?_)
  refine ls_assign (x := (.bool false)) (by kernel_rfl) (by kernel_rfl) ?_
  refine ls_nil ?_
  refine then_normal ?_
  refine fr_eq (b := ⟨#[x0, x1, x2, x3, undef, undef, (.bool false), undef, undef, undef, undef, undef, undef, undef, undef, undef, undef, undef, undef, undef, undef, undef, undef, undef, undef, undef, undef, undef, undef, undef, undef, undef, undef, undef, undef, undef, undef, undef, undef, undef, undef, undef, undef, undef, undef, undef, undef, undef, undef, undef, undef, undef, undef, undef, undef, undef], []⟩) (by kernel_rfl) ?_
  refine wp_seq ?_
  refine lwp_list ?_
  refine ls_y (d := some 12) (by kernel_rfl) (by kernel_rfl) HA (y_ldn Try.isAgg24 Try.sizeOf24 (by kernel_rfl) H) (fun x12 H => ?_)
  refine ls_move (x := x2) (by kernel_rfl) (by kernel_rfl) ?_
  refine ls_d (d := some 14) (by kernel_rfl) (by kernel_rfl) HA (d_call (by kernel_rfl) (by kernel_rfl) H) (fun x14 h_1 w_1 H HA_1 => ?_)
  refine ls_move (x := x14) (by kernel_rfl) (by kernel_rfl) ?_
  refine ls_p (d := some 15) (by kernel_rfl) (by kernel_rfl) (p_tup (by kernel_rfl) H) (fun x15 H => ?_)
  refine ls_p (d := some 16) (by kernel_rfl) (by kernel_rfl) (p_tup (by kernel_rfl) H) (fun x16 H => ?_)
  refine ls_fr (b := ⟨#[x0, x1, x2, x3, undef, undef, (.bool false), undef, undef, undef, undef, x14, x12, x2, x14, x15, x16, undef, undef, undef, undef, undef, undef, undef, undef, undef, undef, undef, undef, undef, undef, undef, undef, undef, undef, undef, undef, undef, undef, undef, undef, undef, undef, undef, undef, undef, undef, undef, undef, undef, undef, undef, undef, undef, undef, undef], []⟩) (by kernel_rfl) ?_
  refine ls_assign (x := x15) (by kernel_rfl) (by kernel_rfl) ?_
  refine ls_assign (x := x16) (by kernel_rfl) (by kernel_rfl) ?_
  refine ls_nil ?_
  refine then_normal ?_
  refine fr_eq (b := ⟨#[x0, x1, x2, x3, undef, undef, (.bool false), x15, x16, undef, undef, x14, x12, x2, x14, x15, x16, undef, undef, undef, undef, undef, undef, undef, undef, undef, undef, undef, undef, undef, undef, undef, undef, undef, undef, undef, undef, undef, undef, undef, undef, undef, undef, undef, undef, undef, undef, undef, undef, undef, undef, undef, undef, undef, undef, undef], []⟩) (by kernel_rfl) ?_
  refine wp_seq ?_
  refine lwp_list ?_
  refine ls_y (d := some 17) (by kernel_rfl) (by kernel_rfl) HA_1 (y_ldn Try.isAgg24 Try.sizeOf24 (by kernel_rfl) H) (fun x17 H => ?_)
  refine ls_move (x := x2) (by kernel_rfl) (by kernel_rfl) ?_
  refine ls_d (d := some 19) (by kernel_rfl) (by kernel_rfl) HA_1 (d_call (by kernel_rfl) (by kernel_rfl) H) (fun x19 h_2 w_2 H HA_2 => ?_)
  refine ls_assign (x := x19) (by kernel_rfl) (by kernel_rfl) ?_
  refine ls_nil ?_
  refine then_normal ?_
  refine fr_eq (b := ⟨#[x0, x1, x2, x3, undef, undef, (.bool false), x15, x16, x19, undef, x14, x12, x2, x14, x15, x16, x17, x2, x19, undef, undef, undef, undef, undef, undef, undef, undef, undef, undef, undef, undef, undef, undef, undef, undef, undef, undef, undef, undef, undef, undef, undef, undef, undef, undef, undef, undef, undef, undef, undef, undef, undef, undef, undef, undef], []⟩) (by kernel_rfl) ?_
  refine wp_seq ?_
  refine lwp_list ?_
  refine ls_move (x := x15) (by kernel_rfl) (by kernel_rfl) ?_
  refine ls_p (d := some 21) (by kernel_rfl) (by kernel_rfl) (p_conv Try.underlying5 Try.underlying3 (by kernel_rfl) H) (fun x21 H => ?_)
  refine ls_assign (x := x21) (by kernel_rfl) (by kernel_rfl) ?_
  refine ls_nil ?_
  refine then_normal ?_
  refine fr_eq (b := ⟨#[x0, x1, x2, x3, undef, undef, (.bool false), x15, x16, x19, x21, x14, x12, x2, x14, x15, x16, x17, x2, x19, x15, x21, undef, undef, undef, undef, undef, undef, undef, undef, undef, undef, undef, undef, undef, undef, undef, undef, undef, undef, undef, undef, undef, undef, undef, undef, undef, undef, undef, undef, undef, undef, undef, undef, undef, undef], []⟩) (by kernel_rfl) ?_
  refine wp_seq ?_
  refine wp_seq ?_
  refine lwp_list ?_
  refine ls_move (x := x16) (by kernel_rfl) (by kernel_rfl) ?_
  refine ls_p (d := some 23) (by kernel_rfl) (by kernel_rfl) (p_not (by kernel_rfl) H) (fun x23 H => ?_)
  refine ls_nil ?_
  refine then_normal ?_
  refine fr_eq (b := ⟨#[x0, x1, x2, x3, undef, undef, (.bool false), x15, x16, x19, x21, x14, x12, x2, x14, x15, x16, x17, x2, x19, x15, x21, x16, x23, undef, undef, undef, undef, undef, undef, undef, undef, undef, undef, undef, undef, undef, undef, undef, undef, undef, undef, undef, undef, undef, undef, undef, undef, undef, undef, undef, undef, undef, undef, undef, undef], []⟩) (by kernel_rfl) ?_
  refine wp_join (fun a w => ∃ (D : Nat → Value) (x10 : Value) (h_3 : Heap), a = ⟨#[x0, x1, x2, x3, undef, undef, (.bool false), x15, x16, x19, x10, x14, x12, x2, x14, x15, x16, x17, x2, x19, x15, x21, x16, x23, undef, undef, undef, undef, undef, undef, undef, undef, undef, undef, undef, undef, undef, undef, undef, undef, undef, undef, undef, undef, undef, undef, undef, undef, undef, undef, undef, undef, undef, undef, undef, undef], []⟩ ∧ At w0 w h_3 ∧ betonylaw17_TermiosTells_j1 R x1 x2 x3 x15 x16 x19 x10 h_3) ?_ ?_
  · refine wp_if rfl H (fun H => ?_) (fun H => ?_)
    · refine lwp_list ?_
      refine ls_assign (x := (.int .i64 (-1))) (by kernel_rfl) (by kernel_rfl) ?_
      refine ls_nil ?_
      exact ⟨(fun i => ([]).getD i undef), (.int .i64 (-1)), h_2, by kernel_rfl, HA_2, H⟩
    · refine wp_skip ?_
      exact ⟨(fun i => ([]).getD i undef), x21, h_2, by kernel_rfl, HA_2, H⟩
  · rintro _ w_3 ⟨D, x10, h_3, rfl, HA_3, H⟩
    unfold betonylaw17_TermiosTells_j1 at H
    refine then_normal ?_
    refine fr_eq (b := ⟨#[x0, x1, x2, x3, undef, undef, (.bool false), x15, x16, x19, x10, x14, x12, x2, x14, x15, x16, x17, x2, x19, x15, x21, x16, x23, undef, undef, undef, undef, undef, undef, undef, undef, undef, undef, undef, undef, undef, undef, undef, undef, undef, undef, undef, undef, undef, undef, undef, undef, undef, undef, undef, undef, undef, undef, undef, undef], []⟩) (by kernel_rfl) ?_
    refine wp_seq ?_
    obtain ⟨C, HC, H⟩ := H
    refine lwp_mx (Nat.testBit 1073758730) (Nat.testBit 522) (Nat.testBit 7516174768) [0, 1, 0, 7, 15, 31, 63, 63, 63, 511, 63, 63, 63, 4159, 16383, 32767, 65535, 131071, 262143, 262143, 1048575, 2097151, 4194303, 8388607, 16777215, 33554431, 67108863, 134217727, 268435455, 536870911, 1073741823, 2147483647, 4294967295] C [0, 1, 2, 3, 4, 5, 6, 7, 8, 9, 10, 11, 12, 13, 14, 15, 16, 17, 18, 19, 20, 21, 22, 23, 24, 25, 26, 27, 28, 29, 30, 31, 32] (by kernel_rfl) (by kernel_rfl) (by kernel_rfl) HA_3 HC ?_
    intro w_4 HA_4
    refine lm_f (d := some 24) (by kernel_rfl) rfl (by kernel_rfl) (by kernel_rfl) (by kernel_rfl) (c_ldn Try.isAgg24 Try.sizeOf24 (by kernel_rfl) H) (fun x24 H => ?_)
    refine lm_dc (d := some 25) (by kernel_rfl) rfl (by kernel_rfl) (by kernel_rfl) HA_4 (d_call (by kernel_rfl) (by kernel_rfl) H) (fun x25 h_4 w_5 H HA_5 => ?_)
    refine lm_f (d := some 26) (by kernel_rfl) rfl (by kernel_rfl) (by kernel_rfl) (by kernel_rfl) (c_ldn Try.isAgg24 Try.sizeOf24 (by kernel_rfl) H) (fun x26 H => ?_)
    refine lm_dc (d := some 27) (by kernel_rfl) rfl (by kernel_rfl) (by kernel_rfl) HA_5 (d_call (by kernel_rfl) (by kernel_rfl) H) (fun x27 h_5 w_6 H HA_6 => ?_)
    refine lm_p (d := some 28) (by kernel_rfl) rfl (by kernel_rfl) (by kernel_rfl) (p_eqlB Try.underlying4 (by kernel_rfl) (by kernel_rfl) H) (fun x28 H => ?_)
    refine lm_al (x := x28) (d := some 29) (by kernel_rfl) rfl (by kernel_rfl) (by kernel_rfl) (al_move (by kernel_rfl)) ?_
    refine lm_fr (b := ⟨#[x0, x1, x2, x3, undef, undef, (.bool false), x15, x16, x19, x10, x14, x12, x2, x14, x15, x16, x17, x2, x19, x15, x21, x16, x23, x24, x25, x26, x27, x28, x28, undef, undef, undef, undef, undef, undef, undef, undef, undef, undef, undef, undef, undef, undef, undef, undef, undef, undef, undef, undef, undef, undef, undef, undef, undef, undef], []⟩) (by kernel_rfl) ?_
    refine lm_andh [(), (), (), (), (), (), (), (), (), (), ()] (fun K a w => ∃ (D_1 : Nat → Value) (x40 : Value) (h_6 : Heap), a = ⟨#[x0, x1, x2, x3, undef, undef, (.bool false), x15, x16, x19, x10, x14, x12, x2, x14, x15, x16, x17, x2, x19, x15, x21, x16, x23, x24, x25, x26, x27, x28, x28, (D_1 0), (D_1 1), (D_1 2), (D_1 3), (D_1 4), (D_1 5), (D_1 6), (D_1 7), (D_1 8), (D_1 9), x40, undef, undef, undef, undef, undef, undef, undef, undef, undef, undef, undef, undef, undef, undef, undef], []⟩ ∧ At w0 w h_6 ∧ K x40 h_6) H (fun hb_4 H => ?_) (fun hb_4 H => ?_) ?_
    · refine lm_f (d := some 30) (by kernel_rfl) rfl (by kernel_rfl) (by kernel_rfl) (by rw [hb_4]; kernel_rfl) (c_ldn Try.isAgg24 Try.sizeOf24 (by kernel_rfl) H) (fun x30 H => ?_)
      refine lm_al (x := x1) (d := some 31) (by kernel_rfl) rfl (by kernel_rfl) (by rw [hb_4]; kernel_rfl) (al_move (by kernel_rfl)) ?_
      refine lm_al (x := x2) (d := some 32) (by kernel_rfl) rfl (by kernel_rfl) (by rw [hb_4]; kernel_rfl) (al_move (by kernel_rfl)) ?_
      refine lm_dc (d := some 33) (by kernel_rfl) rfl (by kernel_rfl) (by rw [hb_4]; kernel_rfl) HA_6 (d_call (by kernel_rfl) (by kernel_rfl) H) (fun x33 h_9 w_13 H HA_13 => ?_)
      refine lm_f (d := some 34) (by kernel_rfl) rfl (by kernel_rfl) (by kernel_rfl) (by rw [hb_4]; kernel_rfl) (c_ldn Try.isAgg24 Try.sizeOf24 (by kernel_rfl) H) (fun x34 H => ?_)
      refine lm_al (x := x1) (d := some 35) (by kernel_rfl) rfl (by kernel_rfl) (by rw [hb_4]; kernel_rfl) (al_move (by kernel_rfl)) ?_
      refine lm_fr (b := ⟨#[x0, x1, x2, x3, undef, undef, (.bool false), x15, x16, x19, x10, x14, x12, x2, x14, x15, x16, x17, x2, x19, x15, x21, x16, x23, x24, x25, x26, x27, x28, x28, x30, x1, x2, x33, x34, x1, undef, undef, undef, undef, undef, undef, undef, undef, undef, undef, undef, undef, undef, undef, undef, undef, undef, undef, undef, undef], []⟩) (by kernel_rfl) ?_
      refine lm_al (x := x2) (d := some 36) (by kernel_rfl) rfl (by kernel_rfl) (by rw [hb_4]; kernel_rfl) (al_move (by kernel_rfl)) ?_
      refine lm_p (d := some 37) (by kernel_rfl) rfl (by kernel_rfl) (by rw [hb_4]; kernel_rfl) (p_conv Try.underlying5 Try.underlying3 (by kernel_rfl) H) (fun x37 H => ?_)
      refine lm_d (d := some 38) (by kernel_rfl) rfl (by kernel_rfl) (by kernel_rfl) (by rw [hb_4]; kernel_rfl) HA_13 (d_call (by kernel_rfl) (by kernel_rfl) H) (fun x38 h_10 w_14 H HA_14 => ?_)
      refine lm_p (d := some 39) (by kernel_rfl) rfl (by kernel_rfl) (by rw [hb_4]; kernel_rfl) (p_eqlB Try.underlying4 (by kernel_rfl) (by kernel_rfl) H) (fun x39 H => ?_)
      refine lm_al (x := x39) (d := some 40) (by kernel_rfl) rfl (by kernel_rfl) (by kernel_rfl) (al_pick_t (by rw [hb_4]; kernel_rfl) (by kernel_rfl)) ?_
      refine lm_nil ?_
      exact ⟨(fun i => ([x30, x1, x2, x33, x34, x1, x2, x37, x38, x39]).getD i undef), x39, h_10, by kernel_rfl, HA_14, H⟩
    · refine lm_skip (d := some 30) (by kernel_rfl) rfl (by rw [hb_4]; kernel_rfl) ?_
      refine lm_skip (d := some 31) (by kernel_rfl) rfl (by rw [hb_4]; kernel_rfl) ?_
      refine lm_skip (d := some 32) (by kernel_rfl) rfl (by rw [hb_4]; kernel_rfl) ?_
      refine lm_skip (d := some 33) (by kernel_rfl) rfl (by rw [hb_4]; kernel_rfl) ?_
      refine lm_skip (d := some 34) (by kernel_rfl) rfl (by rw [hb_4]; kernel_rfl) ?_
      refine lm_skip (d := some 35) (by kernel_rfl) rfl (by rw [hb_4]; kernel_rfl) ?_
      refine lm_fr (b := ⟨#[x0, x1, x2, x3, undef, undef, (.bool false), x15, x16, x19, x10, x14, x12, x2, x14, x15, x16, x17, x2, x19, x15, x21, x16, x23, x24, x25, x26, x27, x28, x28, undef, undef, undef, undef, undef, undef, undef, undef, undef, undef, undef, undef, undef, undef, undef, undef, undef, undef, undef, undef, undef, undef, undef, undef, undef, undef], []⟩) (by kernel_rfl) ?_
      refine lm_skip (d := some 36) (by kernel_rfl) rfl (by rw [hb_4]; kernel_rfl) ?_
      refine lm_skip (d := some 37) (by kernel_rfl) rfl (by rw [hb_4]; kernel_rfl) ?_
      refine lm_skip (d := some 38) (by kernel_rfl) rfl (by rw [hb_4]; kernel_rfl) ?_
      refine lm_skip (d := some 39) (by kernel_rfl) rfl (by rw [hb_4]; kernel_rfl) ?_
      refine lm_al (x := (.bool false)) (d := some 40) (by kernel_rfl) rfl (by kernel_rfl) (by kernel_rfl) (al_pick_f (by rw [hb_4]; kernel_rfl) (by kernel_rfl)) ?_
      refine lm_nil ?_
      exact ⟨(fun i => ([undef, undef, undef, undef, undef, undef, undef, undef, undef, undef]).getD i undef), (.bool false), h_5, by kernel_rfl, HA_6, H⟩
    · rintro _ w_7 ⟨D_1, x40, h_6, rfl, HA_7, H⟩
      refine lm_al (x := x40) (d := some 41) (by kernel_rfl) rfl (by kernel_rfl) (by kernel_rfl) (al_move (by kernel_rfl)) ?_
      refine lm_and [(), (), (), ()] (fun K a w => ∃ (D_2 : Nat → Value) (x45 : Value), a = ⟨#[x0, x1, x2, x3, undef, undef, (.bool false), x15, x16, x19, x10, x14, x12, x2, x14, x15, x16, x17, x2, x19, x15, x21, x16, x23, x24, x25, x26, x27, x28, x28, (D_1 0), (D_1 1), (D_1 2), (D_1 3), (D_1 4), (D_1 5), (D_1 6), (D_1 7), (D_1 8), (D_1 9), x40, x40, (D_2 0), (D_2 1), (D_2 2), x45, undef, undef, undef, undef, undef, undef, undef, undef, undef, undef], []⟩ ∧ At w0 w h_6 ∧ K x45) H (fun hb_3 H => ?_) (fun hb_3 H => ?_) ?_
      · refine lm_al (x := x10) (d := some 42) (by kernel_rfl) rfl (by kernel_rfl) (by rw [hb_3]; kernel_rfl) (al_move (by kernel_rfl)) ?_
        refine lm_al (x := x19) (d := some 43) (by kernel_rfl) rfl (by kernel_rfl) (by rw [hb_3]; kernel_rfl) (al_move (by kernel_rfl)) ?_
        refine lm_p (d := some 44) (by kernel_rfl) rfl (by kernel_rfl) (by rw [hb_3]; kernel_rfl) (p_sEq (by kernel_rfl) (by kernel_rfl) H) (fun x44 H => ?_)
        refine lm_al (x := x44) (d := some 45) (by kernel_rfl) rfl (by kernel_rfl) (by kernel_rfl) (al_pick_t (by rw [hb_3]; kernel_rfl) (by kernel_rfl)) ?_
        refine lm_nil ?_
        exact ⟨(fun i => ([x10, x19, x44]).getD i undef), x44, by kernel_rfl, HA_7, H⟩
      · refine lm_skip (d := some 42) (by kernel_rfl) rfl (by rw [hb_3]; kernel_rfl) ?_
        refine lm_skip (d := some 43) (by kernel_rfl) rfl (by rw [hb_3]; kernel_rfl) ?_
        refine lm_skip (d := some 44) (by kernel_rfl) rfl (by rw [hb_3]; kernel_rfl) ?_
        refine lm_al (x := (.bool false)) (d := some 45) (by kernel_rfl) rfl (by kernel_rfl) (by kernel_rfl) (al_pick_f (by rw [hb_3]; kernel_rfl) (by kernel_rfl)) ?_
        refine lm_nil ?_
        exact ⟨(fun i => ([undef, undef, undef]).getD i undef), (.bool false), by kernel_rfl, HA_7, H⟩
      · rintro _ w_8 ⟨D_2, x45, rfl, HA_8, H⟩
        refine lm_al (x := x45) (d := some 46) (by kernel_rfl) rfl (by kernel_rfl) (by kernel_rfl) (al_move (by kernel_rfl)) ?_
        refine lm_and [(), (), (), (), (), ()] (fun K a w => ∃ (D_3 : Nat → Value) (x52 : Value), a = ⟨#[x0, x1, x2, x3, undef, undef, (.bool false), x15, x16, x19, x10, x14, x12, x2, x14, x15, x16, x17, x2, x19, x15, x21, x16, x23, x24, x25, x26, x27, x28, x28, (D_1 0), (D_1 1), (D_1 2), (D_1 3), (D_1 4), (D_1 5), (D_1 6), (D_1 7), (D_1 8), (D_1 9), x40, x40, (D_2 0), (D_2 1), (D_2 2), x45, x45, (D_3 0), (D_3 1), (D_3 2), (D_3 3), (D_3 4), x52, undef, undef, undef], []⟩ ∧ At w0 w h_6 ∧ K x52) H (fun hb_1 H => ?_) (fun hb_1 H => ?_) ?_
        · refine lm_al (x := x16) (d := some 47) (by kernel_rfl) rfl (by kernel_rfl) (by rw [hb_1]; kernel_rfl) (al_move (by kernel_rfl)) ?_
          refine lm_al (x := x16) (d := some 48) (by kernel_rfl) rfl (by kernel_rfl) (by rw [hb_1]; kernel_rfl) (al_move (by kernel_rfl)) ?_
          refine lm_or [(), (), ()] (fun K a w => ∃ (D_5 : Nat → Value) (x51 : Value), a = ⟨#[x0, x1, x2, x3, undef, undef, (.bool false), x15, x16, x19, x10, x14, x12, x2, x14, x15, x16, x17, x2, x19, x15, x21, x16, x23, x24, x25, x26, x27, x28, x28, (D_1 0), (D_1 1), (D_1 2), (D_1 3), (D_1 4), (D_1 5), (D_1 6), (D_1 7), (D_1 8), (D_1 9), x40, x40, (D_2 0), (D_2 1), (D_2 2), x45, x45, x16, x16, (D_5 0), (D_5 1), x51, undef, undef, undef, undef], []⟩ ∧ At w0 w h_6 ∧ K x51) H (fun hb_2 H => ?_) (fun hb_2 H => ?_) ?_
          · refine lm_al (x := x15) (d := some 49) (by kernel_rfl) rfl (by kernel_rfl) (by rw [hb_2]; kernel_rfl) (al_move (by kernel_rfl)) ?_
            refine lm_p (d := some 50) (by kernel_rfl) rfl (by kernel_rfl) (by rw [hb_2]; kernel_rfl) (p_sEq (by kernel_rfl) (by kernel_rfl) H) (fun x50 H => ?_)
            refine lm_al (x := x50) (d := some 51) (by kernel_rfl) rfl (by kernel_rfl) (by rw [hb_1]; kernel_rfl) (al_pick_f (by rw [hb_2]; kernel_rfl) (by kernel_rfl)) ?_
            refine lm_nil ?_
            exact ⟨(fun i => ([x15, x50]).getD i undef), x50, by kernel_rfl, HA_8, H⟩
          · refine lm_skip (d := some 49) (by kernel_rfl) rfl (by rw [hb_2]; kernel_rfl) ?_
            refine lm_skip (d := some 50) (by kernel_rfl) rfl (by rw [hb_2]; kernel_rfl) ?_
            refine lm_al (x := (.bool true)) (d := some 51) (by kernel_rfl) rfl (by kernel_rfl) (by rw [hb_1]; kernel_rfl) (al_pick_t (by rw [hb_2]; kernel_rfl) (by kernel_rfl)) ?_
            refine lm_nil ?_
            exact ⟨(fun i => ([undef, undef]).getD i undef), (.bool true), by kernel_rfl, HA_8, H⟩
          · rintro _ w_12 ⟨D_5, x51, rfl, HA_12, H⟩
            refine lm_al (x := x51) (d := some 52) (by kernel_rfl) rfl (by kernel_rfl) (by kernel_rfl) (al_pick_t (by rw [hb_1]; kernel_rfl) (by kernel_rfl)) ?_
            refine lm_nil ?_
            exact ⟨(fun i => ([x16, x16, (D_5 0), (D_5 1), x51]).getD i undef), x51, by kernel_rfl, HA_12, H⟩
        · refine lm_skip (d := some 47) (by kernel_rfl) rfl (by rw [hb_1]; kernel_rfl) ?_
          refine lm_skip (d := some 48) (by kernel_rfl) rfl (by rw [hb_1]; kernel_rfl) ?_
          refine lm_skip (d := some 49) (by kernel_rfl) rfl (by kernel_rfl) ?_
          refine lm_skip (d := some 50) (by kernel_rfl) rfl (by kernel_rfl) ?_
          refine lm_skip (d := some 51) (by kernel_rfl) rfl (by rw [hb_1]; kernel_rfl) ?_
          refine lm_fr (b := ⟨#[x0, x1, x2, x3, undef, undef, (.bool false), x15, x16, x19, x10, x14, x12, x2, x14, x15, x16, x17, x2, x19, x15, x21, x16, x23, x24, x25, x26, x27, x28, x28, (D_1 0), (D_1 1), (D_1 2), (D_1 3), (D_1 4), (D_1 5), (D_1 6), (D_1 7), (D_1 8), (D_1 9), x40, x40, (D_2 0), (D_2 1), (D_2 2), x45, x45, undef, undef, undef, undef, undef, undef, undef, undef, undef], []⟩) (by kernel_rfl) ?_
          refine lm_al (x := (.bool false)) (d := some 52) (by kernel_rfl) rfl (by kernel_rfl) (by kernel_rfl) (al_pick_f (by rw [hb_1]; kernel_rfl) (by kernel_rfl)) ?_
          refine lm_nil ?_
          exact ⟨(fun i => ([undef, undef, undef, undef, undef]).getD i undef), (.bool false), by kernel_rfl, HA_8, H⟩
        · rintro _ w_9 ⟨D_3, x52, rfl, HA_9, H⟩
          refine lm_al (x := x52) (d := some 53) (by kernel_rfl) rfl (by kernel_rfl) (by kernel_rfl) (al_move (by kernel_rfl)) ?_
          refine lm_andh [(), ()] (fun K a w => ∃ (D_4 : Nat → Value) (x55 : Value) (h_7 : Heap), a = ⟨#[x0, x1, x2, x3, undef, undef, (.bool false), x15, x16, x19, x10, x14, x12, x2, x14, x15, x16, x17, x2, x19, x15, x21, x16, x23, x24, x25, x26, x27, x28, x28, (D_1 0), (D_1 1), (D_1 2), (D_1 3), (D_1 4), (D_1 5), (D_1 6), (D_1 7), (D_1 8), (D_1 9), x40, x40, (D_2 0), (D_2 1), (D_2 2), x45, x45, (D_3 0), (D_3 1), (D_3 2), (D_3 3), (D_3 4), x52, x52, (D_4 0), x55], []⟩ ∧ At w0 w h_7 ∧ K x55 h_7) H (fun hb H => ?_) (fun hb H => ?_) ?_
          · refine lm_d (d := some 54) (by kernel_rfl) rfl (by kernel_rfl) (by kernel_rfl) (by rw [hb]; kernel_rfl) HA_9 (d_call (by kernel_rfl) (by kernel_rfl) H) (fun x54 h_8 w_11 H HA_11 => ?_)
            refine lm_al (x := x54) (d := some 55) (by kernel_rfl) rfl (by kernel_rfl) (by kernel_rfl) (al_pick_t (by rw [hb]; kernel_rfl) (by kernel_rfl)) ?_
            refine lm_nil ?_
            exact ⟨(fun i => ([x54]).getD i undef), x54, h_8, by kernel_rfl, HA_11, H⟩
          · refine lm_skip (d := some 54) (by kernel_rfl) rfl (by rw [hb]; kernel_rfl) ?_
            refine lm_al (x := (.bool false)) (d := some 55) (by kernel_rfl) rfl (by kernel_rfl) (by kernel_rfl) (al_pick_f (by rw [hb]; kernel_rfl) (by kernel_rfl)) ?_
            refine lm_nil ?_
            exact ⟨(fun i => ([undef]).getD i undef), (.bool false), h_6, by kernel_rfl, HA_9, H⟩
          · rintro _ w_10 ⟨D_4, x55, h_7, rfl, HA_10, H⟩
            refine lm_al (x := x55) (d := some 6) (by kernel_rfl) rfl (by kernel_rfl) (by kernel_rfl) (al_assign (by kernel_rfl)) ?_
            refine lm_nil ?_
            refine then_normal ?_
            refine fr_eq (b := ⟨#[x0, x1, x2, x3, undef, undef, x55, x15, x16, x19, x10, x14, x12, x2, x14, x15, x16, x17, x2, x19, x15, x21, x16, x23, x24, x25, x26, x27, x28, x28, (D_1 0), (D_1 1), (D_1 2), (D_1 3), (D_1 4), (D_1 5), (D_1 6), (D_1 7), (D_1 8), (D_1 9), x40, x40, (D_2 0), (D_2 1), (D_2 2), x45, x45, (D_3 0), (D_3 1), (D_3 2), (D_3 3), (D_3 4), x52, x52, (D_4 0), x55], []⟩) (by kernel_rfl) ?_
            refine wp_ret ?_
            exact end1 (Try.results4) (by kernel_rfl) (by kernel_rfl) HA_10 H _ (.inr rfl)

end Go.Proofs.Ytpgpbhbpamgboaa
