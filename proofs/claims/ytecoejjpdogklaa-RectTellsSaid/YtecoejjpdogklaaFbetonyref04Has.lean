/- The shallow reading of one function, and that the function does it. Written by a program. -/
import Derived.Test.YtecoejjpdogklaaFnC
set_option linter.unusedVariables false
namespace Go.Proofs.Ytecoejjpdogklaa
open Go Go.HW

def betonyref04_Has_S (x0 x1 : Value) (h : Heap) (R : Value → Heap → Prop) : Prop :=
  sBox h x0 35 fun x2 h => 
  sBox h x1 35 fun x3 h_1 => 
  sLdN h_1 x2 4 fun x5 =>
  betonyref04_Right_c x5 h_1 fun x6 h_2 => 
  sNot x6 fun x7 =>
  sOrH x7 h_2 (fun k_2 =>
  sLdN h_2 x3 4 fun x9 =>
  betonyref04_Right_c x9 h_2 fun x10 h_7 => 
  sNot x10 fun x11 =>
  k_2 x11 h_7) fun x12 h_3 =>
  sIf x12 (R (.bool false) h_3) (sOff x3 2 fun x13 =>
  sLd h_3 x13 fun x14 =>
  sLt x14 (.int .i64 1) fun x15 =>
  sOr x15 (fun k_1 =>
  sOff x3 3 fun x17 =>
  sLd h_3 x17 fun x18 =>
  sLt x18 (.int .i64 1) fun x19 =>
  k_1 x19) fun x20 =>
  sIf x20 (R (.bool true) h_3) (sLdN h_3 x2 4 fun x21 =>
  sOff x3 0 fun x22 =>
  sLd h_3 x22 fun x23 =>
  sOff x3 1 fun x24 =>
  sLd h_3 x24 fun x25 =>
  betonyref04_In_c x21 x23 x25 h_3 fun x26 h_4 => 
  sAndH x26 h_4 (fun k =>
  sLdN h_4 x2 4 fun x28 =>
  sOff x3 0 fun x29 =>
  sLd h_4 x29 fun x30 =>
  sOff x3 2 fun x31 =>
  sLd h_4 x31 fun x32 =>
  sAdd .i64 x30 x32 fun x33 =>
  sSub .i64 x33 (.int .i64 1) fun x34 =>
  sOff x3 1 fun x35 =>
  sLd h_4 x35 fun x36 =>
  sOff x3 3 fun x37 =>
  sLd h_4 x37 fun x38 =>
  sAdd .i64 x36 x38 fun x39 =>
  sSub .i64 x39 (.int .i64 1) fun x40 =>
  betonyref04_In_c x28 x34 x40 h_4 fun x41 h_6 => 
  k x41 h_6) fun x42 h_5 =>
  R x42 h_5))
set_option maxRecDepth 100000 in
theorem betonyref04_Has_runs {x0 x1 : Value} {h : Heap} {R : Value → Heap → Prop} (H : betonyref04_Has_S x0 x1 h R) : betonyref04_Has_c x0 x1 h R := by
  unfold betonyref04_Has_S at H
  refine runs_of (b := ⟨#[x0, x1, undef, undef, undef, undef, undef, undef, undef, undef, undef, undef, undef, undef, undef, undef, undef, undef, undef, undef, undef, undef, undef, undef, undef, undef, undef, undef, undef, undef, undef, undef, undef, undef, undef, undef, undef, undef, undef, undef, undef, undef, undef], []⟩) Try.call48 Try.func48 rfl (by kernel_rfl) (fun w0 HA => ?_)
  refine wp_seq ?_
  refine lwp_list ?_
  refine ls_d (d := some 2) (by kernel_rfl) (by kernel_rfl) HA (d_box (by kernel_rfl) H) (fun x2 h w H HA => ?_)
  refine ls_d (d := some 3) (by kernel_rfl) (by kernel_rfl) HA (d_box (by kernel_rfl) H) (fun x3 h_1 w_1 H HA_1 => ?_)
  refine ls_assign (x := (.bool false)) (by kernel_rfl) (by kernel_rfl) ?_
  refine ls_nil ?_
  refine then_normal ?_
  refine fr_eq (b := ⟨#[x0, x1, x2, x3, (.bool false), undef, undef, undef, undef, undef, undef, undef, undef, undef, undef, undef, undef, undef, undef, undef, undef, undef, undef, undef, undef, undef, undef, undef, undef, undef, undef, undef, undef, undef, undef, undef, undef, undef, undef, undef, undef, undef, undef], []⟩) (by kernel_rfl) ?_
  refine wp_seq ?_
  refine wp_seq ?_
  refine lwp_list ?_
  refine ls_y (d := some 5) (by kernel_rfl) (by kernel_rfl) HA_1 (y_ldn Try.isAgg35 Try.sizeOf35 (by kernel_rfl) H) (fun x5 H => ?_)
  refine ls_d (d := some 6) (by kernel_rfl) (by kernel_rfl) HA_1 (d_call (by kernel_rfl) (by kernel_rfl) H) (fun x6 h_2 w_2 H HA_2 => ?_)
  refine ls_p (d := some 7) (by kernel_rfl) (by kernel_rfl) (p_not (by kernel_rfl) H) (fun x7 H => ?_)
  refine ls_move (x := x7) (by kernel_rfl) (by kernel_rfl) ?_
  refine ls_orh [(), (), (), ()] (fun K a w => ∃ (D : Nat → Value) (x12 : Value) (h_3 : Heap), a = ⟨#[x0, x1, x2, x3, (.bool false), x5, x6, x7, x7, (D 0), (D 1), (D 2), x12, undef, undef, undef, undef, undef, undef, undef, undef, undef, undef, undef, undef, undef, undef, undef, undef, undef, undef, undef, undef, undef, undef, undef, undef, undef, undef, undef, undef, undef, undef], []⟩ ∧ At w0 w h_3 ∧ K x12 h_3) H (fun hb_2 H => ?_) (fun hb_2 H => ?_) ?_
  · refine ls_y (d := some 9) (by kernel_rfl) (by rw [hb_2]; kernel_rfl) HA_2 (y_ldn Try.isAgg35 Try.sizeOf35 (by kernel_rfl) H) (fun x9 H => ?_)
    refine ls_d (d := some 10) (by kernel_rfl) (by rw [hb_2]; kernel_rfl) HA_2 (d_call (by kernel_rfl) (by kernel_rfl) H) (fun x10 h_7 w_8 H HA_8 => ?_)
    refine ls_fr (b := ⟨#[x0, x1, x2, x3, (.bool false), x5, x6, x7, x7, x9, x10, undef, undef, undef, undef, undef, undef, undef, undef, undef, undef, undef, undef, undef, undef, undef, undef, undef, undef, undef, undef, undef, undef, undef, undef, undef, undef, undef, undef, undef, undef, undef, undef], []⟩) (by kernel_rfl) ?_
    refine ls_p (d := some 11) (by kernel_rfl) (by rw [hb_2]; kernel_rfl) (p_not (by kernel_rfl) H) (fun x11 H => ?_)
    refine ls_pick_f (y := x11) (by kernel_rfl) (by rw [hb_2]; kernel_rfl) (by kernel_rfl) ?_
    refine ls_nil ?_
    refine then_normal ?_
    exact ⟨(fun i => ([x9, x10, x11]).getD i undef), x11, h_7, by kernel_rfl, HA_8, H⟩
  · refine ls_skip (d := some 9) (by kernel_rfl) (by rw [hb_2]; kernel_rfl) ?_
    refine ls_skip (d := some 10) (by kernel_rfl) (by rw [hb_2]; kernel_rfl) ?_
    refine ls_fr (b := ⟨#[x0, x1, x2, x3, (.bool false), x5, x6, x7, x7, undef, undef, undef, undef, undef, undef, undef, undef, undef, undef, undef, undef, undef, undef, undef, undef, undef, undef, undef, undef, undef, undef, undef, undef, undef, undef, undef, undef, undef, undef, undef, undef, undef, undef], []⟩) (by kernel_rfl) ?_
    refine ls_skip (d := some 11) (by kernel_rfl) (by rw [hb_2]; kernel_rfl) ?_
    refine ls_pick_t (x := (.bool true)) (by kernel_rfl) (by rw [hb_2]; kernel_rfl) (by kernel_rfl) ?_
    refine ls_nil ?_
    refine then_normal ?_
    exact ⟨(fun i => ([undef, undef, undef]).getD i undef), (.bool true), h_2, by kernel_rfl, HA_2, H⟩
  · rintro _ w_3 ⟨D, x12, h_3, rfl, HA_3, H⟩
    refine ls_nil ?_
    refine then_normal ?_
    refine fr_eq (b := ⟨#[x0, x1, x2, x3, (.bool false), x5, x6, x7, x7, (D 0), (D 1), (D 2), x12, undef, undef, undef, undef, undef, undef, undef, undef, undef, undef, undef, undef, undef, undef, undef, undef, undef, undef, undef, undef, undef, undef, undef, undef, undef, undef, undef, undef, undef, undef], []⟩) (by kernel_rfl) ?_
    refine wp_if rfl H (fun H => ?_) (fun H => ?_)
    · refine wp_seq ?_
      refine lwp_list ?_
      refine ls_assign (x := (.bool false)) (by kernel_rfl) (by kernel_rfl) ?_
      refine ls_nil ?_
      refine then_normal ?_
      refine fr_eq (b := ⟨#[x0, x1, x2, x3, (.bool false), x5, x6, x7, x7, (D 0), (D 1), (D 2), x12, undef, undef, undef, undef, undef, undef, undef, undef, undef, undef, undef, undef, undef, undef, undef, undef, undef, undef, undef, undef, undef, undef, undef, undef, undef, undef, undef, undef, undef, undef], []⟩) (by kernel_rfl) ?_
      refine wp_ret ?_
      refine then_ret ?_
      exact end1 (Try.results48) (by kernel_rfl) (by kernel_rfl) HA_3 H _ (.inr rfl)
    · refine wp_skip ?_
      refine then_normal ?_
      refine fr_eq (b := ⟨#[x0, x1, x2, x3, (.bool false), x5, x6, x7, x7, (D 0), (D 1), (D 2), x12, undef, undef, undef, undef, undef, undef, undef, undef, undef, undef, undef, undef, undef, undef, undef, undef, undef, undef, undef, undef, undef, undef, undef, undef, undef, undef, undef, undef, undef, undef], []⟩) (by kernel_rfl) ?_
      refine wp_seq ?_
      refine wp_seq ?_
      refine lwp_list ?_
      refine ls_p (d := some 13) (by kernel_rfl) (by kernel_rfl) (p_off Try.underlying35 rfl (fun w => ⟨_, Try.sizeOf3 w⟩) rfl (by kernel_rfl) H) (fun x13 H => ?_)
      refine ls_y (d := some 14) (by kernel_rfl) (by kernel_rfl) HA_3 (y_ld Try.isAgg3 (by kernel_rfl) H) (fun x14 H => ?_)
      refine ls_p (d := some 15) (by kernel_rfl) (by kernel_rfl) (p_sLt (by kernel_rfl) (by kernel_rfl) H) (fun x15 H => ?_)
      refine ls_move (x := x15) (by kernel_rfl) (by kernel_rfl) ?_
      refine ls_or [(), (), (), ()] (fun K a w => ∃ (D_1 : Nat → Value) (x20 : Value), a = ⟨#[x0, x1, x2, x3, (.bool false), x5, x6, x7, x7, (D 0), (D 1), (D 2), x12, x13, x14, x15, x15, (D_1 0), (D_1 1), (D_1 2), x20, undef, undef, undef, undef, undef, undef, undef, undef, undef, undef, undef, undef, undef, undef, undef, undef, undef, undef, undef, undef, undef, undef], []⟩ ∧ At w0 w h_3 ∧ K x20) H (fun hb_1 H => ?_) (fun hb_1 H => ?_) ?_
      · refine ls_p (d := some 17) (by kernel_rfl) (by rw [hb_1]; kernel_rfl) (p_off Try.underlying35 rfl (fun w => ⟨_, Try.sizeOf3 w⟩) rfl (by kernel_rfl) H) (fun x17 H => ?_)
        refine ls_y (d := some 18) (by kernel_rfl) (by rw [hb_1]; kernel_rfl) HA_3 (y_ld Try.isAgg3 (by kernel_rfl) H) (fun x18 H => ?_)
        refine ls_fr (b := ⟨#[x0, x1, x2, x3, (.bool false), x5, x6, x7, x7, (D 0), (D 1), (D 2), x12, x13, x14, x15, x15, x17, x18, undef, undef, undef, undef, undef, undef, undef, undef, undef, undef, undef, undef, undef, undef, undef, undef, undef, undef, undef, undef, undef, undef, undef, undef], []⟩) (by kernel_rfl) ?_
        refine ls_p (d := some 19) (by kernel_rfl) (by rw [hb_1]; kernel_rfl) (p_sLt (by kernel_rfl) (by kernel_rfl) H) (fun x19 H => ?_)
        refine ls_pick_f (y := x19) (by kernel_rfl) (by rw [hb_1]; kernel_rfl) (by kernel_rfl) ?_
        refine ls_nil ?_
        refine then_normal ?_
        exact ⟨(fun i => ([x17, x18, x19]).getD i undef), x19, by kernel_rfl, HA_3, H⟩
      · refine ls_skip (d := some 17) (by kernel_rfl) (by rw [hb_1]; kernel_rfl) ?_
        refine ls_skip (d := some 18) (by kernel_rfl) (by rw [hb_1]; kernel_rfl) ?_
        refine ls_fr (b := ⟨#[x0, x1, x2, x3, (.bool false), x5, x6, x7, x7, (D 0), (D 1), (D 2), x12, x13, x14, x15, x15, undef, undef, undef, undef, undef, undef, undef, undef, undef, undef, undef, undef, undef, undef, undef, undef, undef, undef, undef, undef, undef, undef, undef, undef, undef, undef], []⟩) (by kernel_rfl) ?_
        refine ls_skip (d := some 19) (by kernel_rfl) (by rw [hb_1]; kernel_rfl) ?_
        refine ls_pick_t (x := (.bool true)) (by kernel_rfl) (by rw [hb_1]; kernel_rfl) (by kernel_rfl) ?_
        refine ls_nil ?_
        refine then_normal ?_
        exact ⟨(fun i => ([undef, undef, undef]).getD i undef), (.bool true), by kernel_rfl, HA_3, H⟩
      · rintro _ w_4 ⟨D_1, x20, rfl, HA_4, H⟩
        refine ls_nil ?_
        refine then_normal ?_
        refine fr_eq (b := ⟨#[x0, x1, x2, x3, (.bool false), x5, x6, x7, x7, (D 0), (D 1), (D 2), x12, x13, x14, x15, x15, (D_1 0), (D_1 1), (D_1 2), x20, undef, undef, undef, undef, undef, undef, undef, undef, undef, undef, undef, undef, undef, undef, undef, undef, undef, undef, undef, undef, undef, undef], []⟩) (by kernel_rfl) ?_
        refine wp_if rfl H (fun H => ?_) (fun H => ?_)
        · refine wp_seq ?_
          refine lwp_list ?_
          refine ls_assign (x := (.bool true)) (by kernel_rfl) (by kernel_rfl) ?_
          refine ls_nil ?_
          refine then_normal ?_
          refine fr_eq (b := ⟨#[x0, x1, x2, x3, (.bool true), x5, x6, x7, x7, (D 0), (D 1), (D 2), x12, x13, x14, x15, x15, (D_1 0), (D_1 1), (D_1 2), x20, undef, undef, undef, undef, undef, undef, undef, undef, undef, undef, undef, undef, undef, undef, undef, undef, undef, undef, undef, undef, undef, undef], []⟩) (by kernel_rfl) ?_
          refine wp_ret ?_
          refine then_ret ?_
          exact end1 (Try.results48) (by kernel_rfl) (by kernel_rfl) HA_4 H _ (.inr rfl)
        · refine wp_skip ?_
          refine then_normal ?_
          refine fr_eq (b := ⟨#[x0, x1, x2, x3, (.bool false), x5, x6, x7, x7, (D 0), (D 1), (D 2), x12, x13, x14, x15, x15, (D_1 0), (D_1 1), (D_1 2), x20, undef, undef, undef, undef, undef, undef, undef, undef, undef, undef, undef, undef, undef, undef, undef, undef, undef, undef, undef, undef, undef, undef], []⟩) (by kernel_rfl) ?_
          refine wp_seq ?_
          refine lwp_list ?_
          refine ls_y (d := some 21) (by kernel_rfl) (by kernel_rfl) HA_4 (y_ldn Try.isAgg35 Try.sizeOf35 (by kernel_rfl) H) (fun x21 H => ?_)
          refine ls_p (d := some 22) (by kernel_rfl) (by kernel_rfl) (p_off Try.underlying35 rfl (fun w => ⟨_, Try.sizeOf3 w⟩) rfl (by kernel_rfl) H) (fun x22 H => ?_)
          refine ls_y (d := some 23) (by kernel_rfl) (by kernel_rfl) HA_4 (y_ld Try.isAgg3 (by kernel_rfl) H) (fun x23 H => ?_)
          refine ls_p (d := some 24) (by kernel_rfl) (by kernel_rfl) (p_off Try.underlying35 rfl (fun w => ⟨_, Try.sizeOf3 w⟩) rfl (by kernel_rfl) H) (fun x24 H => ?_)
          refine ls_y (d := some 25) (by kernel_rfl) (by kernel_rfl) HA_4 (y_ld Try.isAgg3 (by kernel_rfl) H) (fun x25 H => ?_)
          refine ls_d (d := some 26) (by kernel_rfl) (by kernel_rfl) HA_4 (d_call (by kernel_rfl) (by kernel_rfl) H) (fun x26 h_4 w_5 H HA_5 => ?_)
          refine ls_fr (b := ⟨#[x0, x1, x2, x3, (.bool false), x5, x6, x7, x7, (D 0), (D 1), (D 2), x12, x13, x14, x15, x15, (D_1 0), (D_1 1), (D_1 2), x20, x21, x22, x23, x24, x25, x26, undef, undef, undef, undef, undef, undef, undef, undef, undef, undef, undef, undef, undef, undef, undef, undef], []⟩) (by kernel_rfl) ?_
          refine ls_move (x := x26) (by kernel_rfl) (by kernel_rfl) ?_
          refine ls_andh [(), (), (), (), (), (), (), (), (), (), (), (), (), (), ()] (fun K a w => ∃ (D_2 : Nat → Value) (x42 : Value) (h_5 : Heap), a = ⟨#[x0, x1, x2, x3, (.bool false), x5, x6, x7, x7, (D 0), (D 1), (D 2), x12, x13, x14, x15, x15, (D_1 0), (D_1 1), (D_1 2), x20, x21, x22, x23, x24, x25, x26, x26, (D_2 0), (D_2 1), (D_2 2), (D_2 3), (D_2 4), (D_2 5), (D_2 6), (D_2 7), (D_2 8), (D_2 9), (D_2 10), (D_2 11), (D_2 12), (D_2 13), x42], []⟩ ∧ At w0 w h_5 ∧ K x42 h_5) H (fun hb H => ?_) (fun hb H => ?_) ?_
          · refine ls_y (d := some 28) (by kernel_rfl) (by rw [hb]; kernel_rfl) HA_5 (y_ldn Try.isAgg35 Try.sizeOf35 (by kernel_rfl) H) (fun x28 H => ?_)
            refine ls_p (d := some 29) (by kernel_rfl) (by rw [hb]; kernel_rfl) (p_off Try.underlying35 rfl (fun w => ⟨_, Try.sizeOf3 w⟩) rfl (by kernel_rfl) H) (fun x29 H => ?_)
            refine ls_y (d := some 30) (by kernel_rfl) (by rw [hb]; kernel_rfl) HA_5 (y_ld Try.isAgg3 (by kernel_rfl) H) (fun x30 H => ?_)
            refine ls_p (d := some 31) (by kernel_rfl) (by rw [hb]; kernel_rfl) (p_off Try.underlying35 rfl (fun w => ⟨_, Try.sizeOf3 w⟩) rfl (by kernel_rfl) H) (fun x31 H => ?_)
            refine ls_y (d := some 32) (by kernel_rfl) (by rw [hb]; kernel_rfl) HA_5 (y_ld Try.isAgg3 (by kernel_rfl) H) (fun x32 H => ?_)
            refine ls_fr (b := ⟨#[x0, x1, x2, x3, (.bool false), x5, x6, x7, x7, (D 0), (D 1), (D 2), x12, x13, x14, x15, x15, (D_1 0), (D_1 1), (D_1 2), x20, x21, x22, x23, x24, x25, x26, x26, x28, x29, x30, x31, x32, undef, undef, undef, undef, undef, undef, undef, undef, undef, undef], []⟩) (by kernel_rfl) ?_
            refine ls_p (d := some 33) (by kernel_rfl) (by rw [hb]; kernel_rfl) (p_add (by kernel_rfl) (by kernel_rfl) H) (fun x33 H => ?_)
            refine ls_p (d := some 34) (by kernel_rfl) (by rw [hb]; kernel_rfl) (p_sub (by kernel_rfl) (by kernel_rfl) H) (fun x34 H => ?_)
            refine ls_p (d := some 35) (by kernel_rfl) (by rw [hb]; kernel_rfl) (p_off Try.underlying35 rfl (fun w => ⟨_, Try.sizeOf3 w⟩) rfl (by kernel_rfl) H) (fun x35 H => ?_)
            refine ls_y (d := some 36) (by kernel_rfl) (by rw [hb]; kernel_rfl) HA_5 (y_ld Try.isAgg3 (by kernel_rfl) H) (fun x36 H => ?_)
            refine ls_p (d := some 37) (by kernel_rfl) (by rw [hb]; kernel_rfl) (p_off Try.underlying35 rfl (fun w => ⟨_, Try.sizeOf3 w⟩) rfl (by kernel_rfl) H) (fun x37 H => ?_)
            refine ls_y (d := some 38) (by kernel_rfl) (by rw [hb]; kernel_rfl) HA_5 (y_ld Try.isAgg3 (by kernel_rfl) H) (fun x38 H => ?_)
            refine ls_fr (b := ⟨#[x0, x1, x2, x3, (.bool false), x5, x6, x7, x7, (D 0), (D 1), (D 2), x12, x13, x14, x15, x15, (D_1 0), (D_1 1), (D_1 2), x20, x21, x22, x23, x24, x25, x26, x26, x28, x29, x30, x31, x32, x33, x34, x35, x36, x37, x38, undef, undef, undef, undef], []⟩) (by kernel_rfl) ?_
            refine ls_p (d := some 39) (by kernel_rfl) (by rw [hb]; kernel_rfl) (p_add (by kernel_rfl) (by kernel_rfl) H) (fun x39 H => ?_)
            refine ls_p (d := some 40) (by kernel_rfl) (by rw [hb]; kernel_rfl) (p_sub (by kernel_rfl) (by kernel_rfl) H) (fun x40 H => ?_)
            refine ls_d (d := some 41) (by kernel_rfl) (by rw [hb]; kernel_rfl) HA_5 (d_call (by kernel_rfl) (by kernel_rfl) H) (fun x41 h_6 w_7 H HA_7 => ?_)
            refine ls_pick_t (x := x41) (by kernel_rfl) (by rw [hb]; kernel_rfl) (by kernel_rfl) ?_
            refine ls_nil ?_
            refine then_normal ?_
            exact ⟨(fun i => ([x28, x29, x30, x31, x32, x33, x34, x35, x36, x37, x38, x39, x40, x41]).getD i undef), x41, h_6, by kernel_rfl, HA_7, H⟩
          · refine ls_skip (d := some 28) (by kernel_rfl) (by rw [hb]; kernel_rfl) ?_
            refine ls_skip (d := some 29) (by kernel_rfl) (by rw [hb]; kernel_rfl) ?_
            refine ls_skip (d := some 30) (by kernel_rfl) (by rw [hb]; kernel_rfl) ?_
            refine ls_skip (d := some 31) (by kernel_rfl) (by rw [hb]; kernel_rfl) ?_
            refine ls_skip (d := some 32) (by kernel_rfl) (by rw [hb]; kernel_rfl) ?_
            refine ls_fr (b := ⟨#[x0, x1, x2, x3, (.bool false), x5, x6, x7, x7, (D 0), (D 1), (D 2), x12, x13, x14, x15, x15, (D_1 0), (D_1 1), (D_1 2), x20, x21, x22, x23, x24, x25, x26, x26, undef, undef, undef, undef, undef, undef, undef, undef, undef, undef, undef, undef, undef, undef, undef], []⟩) (by kernel_rfl) ?_
            refine ls_skip (d := some 33) (by kernel_rfl) (by rw [hb]; kernel_rfl) ?_
            refine ls_skip (d := some 34) (by kernel_rfl) (by rw [hb]; kernel_rfl) ?_
            refine ls_skip (d := some 35) (by kernel_rfl) (by rw [hb]; kernel_rfl) ?_
            refine ls_skip (d := some 36) (by kernel_rfl) (by rw [hb]; kernel_rfl) ?_
            refine ls_skip (d := some 37) (by kernel_rfl) (by rw [hb]; kernel_rfl) ?_
            refine ls_skip (d := some 38) (by kernel_rfl) (by rw [hb]; kernel_rfl) ?_
            refine ls_fr (b := ⟨#[x0, x1, x2, x3, (.bool false), x5, x6, x7, x7, (D 0), (D 1), (D 2), x12, x13, x14, x15, x15, (D_1 0), (D_1 1), (D_1 2), x20, x21, x22, x23, x24, x25, x26, x26, undef, undef, undef, undef, undef, undef, undef, undef, undef, undef, undef, undef, undef, undef, undef], []⟩) (by kernel_rfl) ?_
            refine ls_skip (d := some 39) (by kernel_rfl) (by rw [hb]; kernel_rfl) ?_
            refine ls_skip (d := some 40) (by kernel_rfl) (by rw [hb]; kernel_rfl) ?_
            refine ls_skip (d := some 41) (by kernel_rfl) (by rw [hb]; kernel_rfl) ?_
            refine ls_pick_f (y := (.bool false)) (by kernel_rfl) (by rw [hb]; kernel_rfl) (by kernel_rfl) ?_
            refine ls_nil ?_
            refine then_normal ?_
            exact ⟨(fun i => ([undef, undef, undef, undef, undef, undef, undef, undef, undef, undef, undef, undef, undef, undef]).getD i undef), (.bool false), h_4, by kernel_rfl, HA_5, H⟩
          · rintro _ w_6 ⟨D_2, x42, h_5, rfl, HA_6, H⟩
            refine ls_assign (x := x42) (by kernel_rfl) (by kernel_rfl) ?_
            refine ls_nil ?_
            refine then_normal ?_
            refine fr_eq (b := ⟨#[x0, x1, x2, x3, x42, x5, x6, x7, x7, (D 0), (D 1), (D 2), x12, x13, x14, x15, x15, (D_1 0), (D_1 1), (D_1 2), x20, x21, x22, x23, x24, x25, x26, x26, (D_2 0), (D_2 1), (D_2 2), (D_2 3), (D_2 4), (D_2 5), (D_2 6), (D_2 7), (D_2 8), (D_2 9), (D_2 10), (D_2 11), (D_2 12), (D_2 13), x42], []⟩) (by kernel_rfl) ?_
            refine wp_ret ?_
            exact end1 (Try.results48) (by kernel_rfl) (by kernel_rfl) HA_6 H _ (.inr rfl)

end Go.Proofs.Ytecoejjpdogklaa
