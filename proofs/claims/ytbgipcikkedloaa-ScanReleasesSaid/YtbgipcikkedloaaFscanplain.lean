/- The shallow reading of one function, and that the function does it. Written by a program. -/
import Derived.Test.YtbgipcikkedloaaFnC
set_option linter.unusedVariables false
namespace Go.Proofs.Ytbgipcikkedloaa
open Go Go.HW

def scan_plain_S (x0 x1 : Value) (h : Heap) (R : Value → Heap → Prop) : Prop :=
  sBox h x0 52 fun x2 h => 
  sOff x2 0 fun x8 =>
  sLd h x8 fun x9 =>
  sOff x2 1 fun x10 =>
  sLd h x10 fun x11 =>
  sBits .and .i64 x11 (.int .i64 1) fun x12 =>
  sNe x12 (.int .i64 0) fun x13 =>
  sOff x2 1 fun x14 =>
  sLd h x14 fun x15 =>
  sBits .and .i64 x15 (.int .i64 2) fun x16 =>
  sNe x16 (.int .i64 0) fun x17 =>
  sGe x9 (.int .i64 1) fun x20 =>
  sAnd x20 (fun k_10 =>
  sLe x9 (.int .i64 26) fun x23 =>
  k_10 x23) fun x24 =>
  sIf x24 (sSub .i64 x9 (.int .i64 1) fun x26 =>
  sOff x2 1 fun x27 =>
  sLd h x27 fun x28 =>
  scan_letter_c x26 x28 h fun x29 h_1 => 
  R x29 h_1) (sGe x9 (.int .i64 27) fun x32 =>
  sAnd x32 (fun k_9 =>
  sLe x9 (.int .i64 36) fun x35 =>
  k_9 x35) fun x36 =>
  sIf x36 (sSub .i64 x9 (.int .i64 27) fun x38 =>
  scan_pick_c (.string ⟨#[49, 50, 51, 52, 53, 54, 55, 56, 57, 48]⟩) (.string ⟨#[33, 64, 35, 36, 37, 94, 38, 42, 40, 41]⟩) x38 x13 h fun x40 h_2 => 
  R x40 h_2) (sEq x9 (.int .i64 37) fun x43 =>
  sAnd x43 (fun k_8 =>
  k_8 x17) fun x46 =>
  sIf x46 (sSlit h #[.int .u8 0] [(0, 1, (.int .u8 0))] 5 1 fun x47 h_3 => 
  R x47 h_3) (sEq x9 (.int .i64 40) fun x50 =>
  sAnd x50 (fun k_7 =>
  k_7 x13) fun x53 =>
  sIf x53 (sSlit h #[.int .u8 0, .int .u8 0, .int .u8 0] [(0, 1, (.int .u8 27)), (1, 1, (.int .u8 91)), (2, 1, (.int .u8 90))] 5 3 fun x54 h_4 => 
  sMark h_4 x54 fun x55 h_5 => 
  R x55 h_5) (sGe x9 (.int .i64 37) fun x58 =>
  sAnd x58 (fun k_6 =>
  sLt x9 (.int .i64 42) fun x61 =>
  k_6 x61) fun x62 =>
  sIf x62 (sSub .i64 x9 (.int .i64 37) fun x64 =>
  sIxB (.string ⟨#[32, 13, 127, 9, 27]⟩) x64 fun x65 =>
  sSlit h #[.int .u8 0] [(0, 1, x65)] 5 1 fun x66 h_6 => 
  R x66 h_6) (sGe x9 (.int .i64 42) fun x69 =>
  sAnd x69 (fun k_5 =>
  sLe x9 (.int .i64 52) fun x72 =>
  k_5 x72) fun x73 =>
  sIf x73 (sSub .i64 x9 (.int .i64 42) fun x75 =>
  scan_pick_c (.string ⟨#[45, 61, 91, 93, 92, 59, 39, 44, 46, 47, 96]⟩) (.string ⟨#[95, 43, 123, 125, 124, 58, 34, 60, 62, 63, 126]⟩) x75 x13 h fun x77 h_7 => 
  R x77 h_7) (sGe x9 (.int .i64 64) fun x80 =>
  sAnd x80 (fun k_4 =>
  sLt x9 (.int .i64 70) fun x83 =>
  k_4 x83) fun x84 =>
  sAnd x84 (fun k_3 =>
  k_3 x1) fun x87 =>
  sIf x87 (sSub .i64 x9 (.int .i64 64) fun x89 =>
  sIxB (.string ⟨#[65, 66, 67, 68, 72, 70]⟩) x89 fun x90 =>
  sSlit h #[.int .u8 0, .int .u8 0, .int .u8 0] [(0, 1, (.int .u8 27)), (1, 1, (.int .u8 79)), (2, 1, x90)] 5 3 fun x91 h_8 => 
  R x91 h_8) (sGe x9 (.int .i64 64) fun x94 =>
  sAnd x94 (fun k_2 =>
  sLt x9 (.int .i64 70) fun x97 =>
  k_2 x97) fun x98 =>
  sIf x98 (sSub .i64 x9 (.int .i64 64) fun x100 =>
  sIxB (.string ⟨#[65, 66, 67, 68, 72, 70]⟩) x100 fun x101 =>
  sSlit h #[.int .u8 0, .int .u8 0, .int .u8 0] [(0, 1, (.int .u8 27)), (1, 1, (.int .u8 91)), (2, 1, x101)] 5 3 fun x102 h_9 => 
  R x102 h_9) (sGe x9 (.int .i64 70) fun x105 =>
  sAnd x105 (fun k_1 =>
  sLe x9 (.int .i64 73) fun x108 =>
  k_1 x108) fun x109 =>
  sIf x109 (sSub .i64 x9 (.int .i64 70) fun x111 =>
  sIxB (.string ⟨#[53, 54, 50, 51]⟩) x111 fun x112 =>
  sSlit h #[.int .u8 0, .int .u8 0, .int .u8 0, .int .u8 0] [(0, 1, (.int .u8 27)), (1, 1, (.int .u8 91)), (2, 1, x112), (3, 1, (.int .u8 126))] 5 4 fun x113 h_10 => 
  R x113 h_10) (sGe x9 (.int .i64 80) fun x116 =>
  sAnd x116 (fun k =>
  sLe x9 (.int .i64 83) fun x119 =>
  k x119) fun x120 =>
  sIf x120 (sSub .i64 x9 (.int .i64 80) fun x122 =>
  sIxB (.string ⟨#[80, 81, 82, 83]⟩) x122 fun x123 =>
  sSlit h #[.int .u8 0, .int .u8 0, .int .u8 0] [(0, 1, (.int .u8 27)), (1, 1, (.int .u8 79)), (2, 1, x123)] 5 3 fun x124 h_11 => 
  R x124 h_11) (R (.slice none 0 0) h))))))))))
set_option maxRecDepth 100000 in
theorem scan_plain_runs {x0 x1 : Value} {h : Heap} {R : Value → Heap → Prop} (H : scan_plain_S x0 x1 h R) : scan_plain_c x0 x1 h R := by
  unfold scan_plain_S at H
  refine runs_of (b := ⟨([x0, x1, undef, undef, undef, undef, undef, undef, undef, undef, undef, undef, undef, undef, undef, undef, undef, undef, undef, undef, undef, undef, undef, undef, undef, undef, undef, undef, undef, undef, undef, undef, undef, undef, undef, undef, undef, undef, undef, undef, undef, undef, undef, undef, undef, undef, undef, undef, undef, undef] ++ [undef, undef, undef, undef, undef, undef, undef, undef, undef, undef, undef, undef, undef, undef, undef, undef, undef, undef, undef, undef, undef, undef, undef, undef, undef, undef, undef, undef, undef, undef, undef, undef, undef, undef, undef, undef, undef, undef, undef, undef, undef, undef, undef, undef, undef, undef, undef, undef, undef, undef] ++ [undef, undef, undef, undef, undef, undef, undef, undef, undef, undef, undef, undef, undef, undef, undef, undef, undef, undef, undef, undef, undef, undef, undef, undef, undef]).toArray, []⟩) Try.call38 Try.func38 rfl (by kernel_rfl) (fun w0 HA => ?_)
  refine wp_seq ?_
  refine lwp_list ?_
  refine ls_d (d := some 2) (by kernel_rfl) (by kernel_rfl) HA (d_box (by kernel_rfl) H) (fun x2 h w H HA => ?_)
  refine ls_assign (x := (.slice none 0 0)) (by kernel_rfl) (by kernel_rfl) ?_
  refine ls_nil ?_
  refine then_normal ?_
  refine fr_eq (b := ⟨([x0, x1, x2, undef, (.slice none 0 0), undef, undef, undef, undef, undef, undef, undef, undef, undef, undef, undef, undef, undef, undef, undef, undef, undef, undef, undef, undef, undef, undef, undef, undef, undef, undef, undef, undef, undef, undef, undef, undef, undef, undef, undef, undef, undef, undef, undef, undef, undef, undef, undef, undef, undef] ++ [undef, undef, undef, undef, undef, undef, undef, undef, undef, undef, undef, undef, undef, undef, undef, undef, undef, undef, undef, undef, undef, undef, undef, undef, undef, undef, undef, undef, undef, undef, undef, undef, undef, undef, undef, undef, undef, undef, undef, undef, undef, undef, undef, undef, undef, undef, undef, undef, undef, undef] ++ [undef, undef, undef, undef, undef, undef, undef, undef, undef, undef, undef, undef, undef, undef, undef, undef, undef, undef, undef, undef, undef, undef, undef, undef, undef]).toArray, []⟩) (by kernel_rfl) ?_
  refine wp_seq ?_
  refine lwp_qt (by kernel_rfl) (by kernel_rfl) HA ?_
  refine lq_p (d := some 8) (by kernel_rfl) (by kernel_rfl) (p_off Try.underlying52 rfl (fun w => ⟨_, Try.sizeOf3 w⟩) rfl (by kernel_rfl) H) (fun x8 H => ?_)
  refine lq_y (d := some 9) (by kernel_rfl) (by kernel_rfl) HA (y_ld Try.isAgg3 (by kernel_rfl) H) (fun x9 H => ?_)
  refine lq_p (d := some 10) (by kernel_rfl) (by kernel_rfl) (p_off Try.underlying52 rfl (fun w => ⟨_, Try.sizeOf3 w⟩) rfl (by kernel_rfl) H) (fun x10 H => ?_)
  refine lq_y (d := some 11) (by kernel_rfl) (by kernel_rfl) HA (y_ld Try.isAgg3 (by kernel_rfl) H) (fun x11 H => ?_)
  refine lq_p (d := some 12) (by kernel_rfl) (by kernel_rfl) (p_bits (by decide) (by kernel_rfl) (by kernel_rfl) H) (fun x12 H => ?_)
  refine lq_p (d := some 13) (by kernel_rfl) (by kernel_rfl) (p_sNe (by kernel_rfl) (by kernel_rfl) H) (fun x13 H => ?_)
  refine lq_fr (b := ⟨([x0, x1, x2, undef, (.slice none 0 0), undef, undef, undef, x8, x9, x10, x11, x12, x13, undef, undef, undef, undef, undef, undef, undef, undef, undef, undef, undef, undef, undef, undef, undef, undef, undef, undef, undef, undef, undef, undef, undef, undef, undef, undef, undef, undef, undef, undef, undef, undef, undef, undef, undef, undef] ++ [undef, undef, undef, undef, undef, undef, undef, undef, undef, undef, undef, undef, undef, undef, undef, undef, undef, undef, undef, undef, undef, undef, undef, undef, undef, undef, undef, undef, undef, undef, undef, undef, undef, undef, undef, undef, undef, undef, undef, undef, undef, undef, undef, undef, undef, undef, undef, undef, undef, undef] ++ [undef, undef, undef, undef, undef, undef, undef, undef, undef, undef, undef, undef, undef, undef, undef, undef, undef, undef, undef, undef, undef, undef, undef, undef, undef]).toArray, []⟩) (by kernel_rfl) ?_
  refine lq_p (d := some 14) (by kernel_rfl) (by kernel_rfl) (p_off Try.underlying52 rfl (fun w => ⟨_, Try.sizeOf3 w⟩) rfl (by kernel_rfl) H) (fun x14 H => ?_)
  refine lq_y (d := some 15) (by kernel_rfl) (by kernel_rfl) HA (y_ld Try.isAgg3 (by kernel_rfl) H) (fun x15 H => ?_)
  refine lq_p (d := some 16) (by kernel_rfl) (by kernel_rfl) (p_bits (by decide) (by kernel_rfl) (by kernel_rfl) H) (fun x16 H => ?_)
  refine lq_p (d := some 17) (by kernel_rfl) (by kernel_rfl) (p_sNe (by kernel_rfl) (by kernel_rfl) H) (fun x17 H => ?_)
  refine lq_assign (x := x9) (by kernel_rfl) (by kernel_rfl) ?_
  refine lq_assign (x := x13) (by kernel_rfl) (by kernel_rfl) ?_
  refine lq_fr (b := ⟨([x0, x1, x2, undef, (.slice none 0 0), x9, x13, undef, x8, x9, x10, x11, x12, x13, x14, x15, x16, x17, undef, undef, undef, undef, undef, undef, undef, undef, undef, undef, undef, undef, undef, undef, undef, undef, undef, undef, undef, undef, undef, undef, undef, undef, undef, undef, undef, undef, undef, undef, undef, undef] ++ [undef, undef, undef, undef, undef, undef, undef, undef, undef, undef, undef, undef, undef, undef, undef, undef, undef, undef, undef, undef, undef, undef, undef, undef, undef, undef, undef, undef, undef, undef, undef, undef, undef, undef, undef, undef, undef, undef, undef, undef, undef, undef, undef, undef, undef, undef, undef, undef, undef, undef] ++ [undef, undef, undef, undef, undef, undef, undef, undef, undef, undef, undef, undef, undef, undef, undef, undef, undef, undef, undef, undef, undef, undef, undef, undef, undef]).toArray, []⟩) (by kernel_rfl) ?_
  refine lq_assign (x := x17) (by kernel_rfl) (by kernel_rfl) ?_
  refine lq_nil ?_
  intro w_1 HA_1
  refine then_normal ?_
  refine fr_eq (b := ⟨([x0, x1, x2, undef, (.slice none 0 0), x9, x13, x17, x8, x9, x10, x11, x12, x13, x14, x15, x16, x17, undef, undef, undef, undef, undef, undef, undef, undef, undef, undef, undef, undef, undef, undef, undef, undef, undef, undef, undef, undef, undef, undef, undef, undef, undef, undef, undef, undef, undef, undef, undef, undef] ++ [undef, undef, undef, undef, undef, undef, undef, undef, undef, undef, undef, undef, undef, undef, undef, undef, undef, undef, undef, undef, undef, undef, undef, undef, undef, undef, undef, undef, undef, undef, undef, undef, undef, undef, undef, undef, undef, undef, undef, undef, undef, undef, undef, undef, undef, undef, undef, undef, undef, undef] ++ [undef, undef, undef, undef, undef, undef, undef, undef, undef, undef, undef, undef, undef, undef, undef, undef, undef, undef, undef, undef, undef, undef, undef, undef, undef]).toArray, []⟩) (by kernel_rfl) ?_
  refine wp_seq ?_
  refine wp_block ?_
  refine wp_seq ?_
  refine lwp_list ?_
  refine ls_move (x := x9) (by kernel_rfl) (by kernel_rfl) ?_
  refine ls_p (d := some 20) (by kernel_rfl) (by kernel_rfl) (p_sGe (by kernel_rfl) (by kernel_rfl) H) (fun x20 H => ?_)
  refine ls_move (x := x20) (by kernel_rfl) (by kernel_rfl) ?_
  refine ls_and [(), (), ()] (fun K a w => ∃ (D : Nat → Value) (x24 : Value), a = ⟨([x0, x1, x2, undef, (.slice none 0 0), x9, x13, x17, x8, x9, x10, x11, x12, x13, x14, x15, x16, x17, undef, x9, x20, x20, (D 0), (D 1), x24, undef, undef, undef, undef, undef, undef, undef, undef, undef, undef, undef, undef, undef, undef, undef, undef, undef, undef, undef, undef, undef, undef, undef, undef, undef] ++ [undef, undef, undef, undef, undef, undef, undef, undef, undef, undef, undef, undef, undef, undef, undef, undef, undef, undef, undef, undef, undef, undef, undef, undef, undef, undef, undef, undef, undef, undef, undef, undef, undef, undef, undef, undef, undef, undef, undef, undef, undef, undef, undef, undef, undef, undef, undef, undef, undef, undef] ++ [undef, undef, undef, undef, undef, undef, undef, undef, undef, undef, undef, undef, undef, undef, undef, undef, undef, undef, undef, undef, undef, undef, undef, undef, undef]).toArray, []⟩ ∧ At w0 w h ∧ K x24) H (fun hb_10 H => ?_) (fun hb_10 H => ?_) ?_
  · refine ls_move (x := x9) (by rw [hb_10]; kernel_rfl) (by kernel_rfl) ?_
    refine ls_p (d := some 23) (by kernel_rfl) (by rw [hb_10]; kernel_rfl) (p_sLe (by kernel_rfl) (by kernel_rfl) H) (fun x23 H => ?_)
    refine ls_pick_t (x := x23) (by kernel_rfl) (by rw [hb_10]; kernel_rfl) (by kernel_rfl) ?_
    refine ls_nil ?_
    refine then_normal ?_
    exact ⟨(fun i => ([x9, x23]).getD i undef), x23, by kernel_rfl, HA_1, H⟩
  · refine ls_skip (d := some 22) (by kernel_rfl) (by rw [hb_10]; kernel_rfl) ?_
    refine ls_skip (d := some 23) (by kernel_rfl) (by rw [hb_10]; kernel_rfl) ?_
    refine ls_pick_f (y := (.bool false)) (by kernel_rfl) (by rw [hb_10]; kernel_rfl) (by kernel_rfl) ?_
    refine ls_nil ?_
    refine then_normal ?_
    exact ⟨(fun i => ([undef, undef]).getD i undef), (.bool false), by kernel_rfl, HA_1, H⟩
  · rintro _ w_2 ⟨D, x24, rfl, HA_2, H⟩
    refine ls_assign (x := x24) (by kernel_rfl) (by kernel_rfl) ?_
    refine ls_nil ?_
    refine then_normal ?_
    refine fr_eq (b := ⟨([x0, x1, x2, undef, (.slice none 0 0), x9, x13, x17, x8, x9, x10, x11, x12, x13, x14, x15, x16, x17, x24, x9, x20, x20, (D 0), (D 1), x24, undef, undef, undef, undef, undef, undef, undef, undef, undef, undef, undef, undef, undef, undef, undef, undef, undef, undef, undef, undef, undef, undef, undef, undef, undef] ++ [undef, undef, undef, undef, undef, undef, undef, undef, undef, undef, undef, undef, undef, undef, undef, undef, undef, undef, undef, undef, undef, undef, undef, undef, undef, undef, undef, undef, undef, undef, undef, undef, undef, undef, undef, undef, undef, undef, undef, undef, undef, undef, undef, undef, undef, undef, undef, undef, undef, undef] ++ [undef, undef, undef, undef, undef, undef, undef, undef, undef, undef, undef, undef, undef, undef, undef, undef, undef, undef, undef, undef, undef, undef, undef, undef, undef]).toArray, []⟩) (by kernel_rfl) ?_
    refine wp_if rfl H (fun H => ?_) (fun H => ?_)
    · refine wp_seq ?_
      refine lwp_list ?_
      refine ls_move (x := x9) (by kernel_rfl) (by kernel_rfl) ?_
      refine ls_p (d := some 26) (by kernel_rfl) (by kernel_rfl) (p_sub (by kernel_rfl) (by kernel_rfl) H) (fun x26 H => ?_)
      refine ls_p (d := some 27) (by kernel_rfl) (by kernel_rfl) (p_off Try.underlying52 rfl (fun w => ⟨_, Try.sizeOf3 w⟩) rfl (by kernel_rfl) H) (fun x27 H => ?_)
      refine ls_y (d := some 28) (by kernel_rfl) (by kernel_rfl) HA_2 (y_ld Try.isAgg3 (by kernel_rfl) H) (fun x28 H => ?_)
      refine ls_d (d := some 29) (by kernel_rfl) (by kernel_rfl) HA_2 (d_call (by kernel_rfl) (by kernel_rfl) H) (fun x29 h_1 w_3 H HA_3 => ?_)
      refine ls_assign (x := x29) (by kernel_rfl) (by kernel_rfl) ?_
      refine ls_nil ?_
      refine then_normal ?_
      refine fr_eq (b := ⟨([x0, x1, x2, undef, x29, x9, x13, x17, x8, x9, x10, x11, x12, x13, x14, x15, x16, x17, x24, x9, x20, x20, (D 0), (D 1), x24, x9, x26, x27, x28, x29, undef, undef, undef, undef, undef, undef, undef, undef, undef, undef, undef, undef, undef, undef, undef, undef, undef, undef, undef, undef] ++ [undef, undef, undef, undef, undef, undef, undef, undef, undef, undef, undef, undef, undef, undef, undef, undef, undef, undef, undef, undef, undef, undef, undef, undef, undef, undef, undef, undef, undef, undef, undef, undef, undef, undef, undef, undef, undef, undef, undef, undef, undef, undef, undef, undef, undef, undef, undef, undef, undef, undef] ++ [undef, undef, undef, undef, undef, undef, undef, undef, undef, undef, undef, undef, undef, undef, undef, undef, undef, undef, undef, undef, undef, undef, undef, undef, undef]).toArray, []⟩) (by kernel_rfl) ?_
      refine wp_ret ?_
      refine block_ret ?_
      refine then_ret ?_
      exact end1 (Try.results38) (by kernel_rfl) (by kernel_rfl) HA_3 H _ (.inr rfl)
    · refine wp_seq ?_
      refine lwp_list ?_
      refine ls_move (x := x9) (by kernel_rfl) (by kernel_rfl) ?_
      refine ls_p (d := some 32) (by kernel_rfl) (by kernel_rfl) (p_sGe (by kernel_rfl) (by kernel_rfl) H) (fun x32 H => ?_)
      refine ls_move (x := x32) (by kernel_rfl) (by kernel_rfl) ?_
      refine ls_and [(), (), ()] (fun K a w => ∃ (D_1 : Nat → Value) (x36 : Value), a = ⟨([x0, x1, x2, undef, (.slice none 0 0), x9, x13, x17, x8, x9, x10, x11, x12, x13, x14, x15, x16, x17, x24, x9, x20, x20, (D 0), (D 1), x24, undef, undef, undef, undef, undef, undef, x9, x32, x32, (D_1 0), (D_1 1), x36, undef, undef, undef, undef, undef, undef, undef, undef, undef, undef, undef, undef, undef] ++ [undef, undef, undef, undef, undef, undef, undef, undef, undef, undef, undef, undef, undef, undef, undef, undef, undef, undef, undef, undef, undef, undef, undef, undef, undef, undef, undef, undef, undef, undef, undef, undef, undef, undef, undef, undef, undef, undef, undef, undef, undef, undef, undef, undef, undef, undef, undef, undef, undef, undef] ++ [undef, undef, undef, undef, undef, undef, undef, undef, undef, undef, undef, undef, undef, undef, undef, undef, undef, undef, undef, undef, undef, undef, undef, undef, undef]).toArray, []⟩ ∧ At w0 w h ∧ K x36) H (fun hb_9 H => ?_) (fun hb_9 H => ?_) ?_
      · refine ls_move (x := x9) (by rw [hb_9]; kernel_rfl) (by kernel_rfl) ?_
        refine ls_p (d := some 35) (by kernel_rfl) (by rw [hb_9]; kernel_rfl) (p_sLe (by kernel_rfl) (by kernel_rfl) H) (fun x35 H => ?_)
        refine ls_pick_t (x := x35) (by kernel_rfl) (by rw [hb_9]; kernel_rfl) (by kernel_rfl) ?_
        refine ls_nil ?_
        refine then_normal ?_
        exact ⟨(fun i => ([x9, x35]).getD i undef), x35, by kernel_rfl, HA_2, H⟩
      · refine ls_skip (d := some 34) (by kernel_rfl) (by rw [hb_9]; kernel_rfl) ?_
        refine ls_skip (d := some 35) (by kernel_rfl) (by rw [hb_9]; kernel_rfl) ?_
        refine ls_pick_f (y := (.bool false)) (by kernel_rfl) (by rw [hb_9]; kernel_rfl) (by kernel_rfl) ?_
        refine ls_nil ?_
        refine then_normal ?_
        exact ⟨(fun i => ([undef, undef]).getD i undef), (.bool false), by kernel_rfl, HA_2, H⟩
      · rintro _ w_4 ⟨D_1, x36, rfl, HA_4, H⟩
        refine ls_assign (x := x36) (by kernel_rfl) (by kernel_rfl) ?_
        refine ls_nil ?_
        refine then_normal ?_
        refine fr_eq (b := ⟨([x0, x1, x2, undef, (.slice none 0 0), x9, x13, x17, x8, x9, x10, x11, x12, x13, x14, x15, x16, x17, x24, x9, x20, x20, (D 0), (D 1), x24, undef, undef, undef, undef, undef, x36, x9, x32, x32, (D_1 0), (D_1 1), x36, undef, undef, undef, undef, undef, undef, undef, undef, undef, undef, undef, undef, undef] ++ [undef, undef, undef, undef, undef, undef, undef, undef, undef, undef, undef, undef, undef, undef, undef, undef, undef, undef, undef, undef, undef, undef, undef, undef, undef, undef, undef, undef, undef, undef, undef, undef, undef, undef, undef, undef, undef, undef, undef, undef, undef, undef, undef, undef, undef, undef, undef, undef, undef, undef] ++ [undef, undef, undef, undef, undef, undef, undef, undef, undef, undef, undef, undef, undef, undef, undef, undef, undef, undef, undef, undef, undef, undef, undef, undef, undef]).toArray, []⟩) (by kernel_rfl) ?_
        refine wp_if rfl H (fun H => ?_) (fun H => ?_)
        · refine wp_seq ?_
          refine lwp_list ?_
          refine ls_move (x := x9) (by kernel_rfl) (by kernel_rfl) ?_
          refine ls_p (d := some 38) (by kernel_rfl) (by kernel_rfl) (p_sub (by kernel_rfl) (by kernel_rfl) H) (fun x38 H => ?_)
          refine ls_move (x := x13) (by kernel_rfl) (by kernel_rfl) ?_
          refine ls_d (d := some 40) (by kernel_rfl) (by kernel_rfl) HA_4 (d_call (by kernel_rfl) (by kernel_rfl) H) (fun x40 h_2 w_5 H HA_5 => ?_)
          refine ls_assign (x := x40) (by kernel_rfl) (by kernel_rfl) ?_
          refine ls_nil ?_
          refine then_normal ?_
          refine fr_eq (b := ⟨([x0, x1, x2, undef, x40, x9, x13, x17, x8, x9, x10, x11, x12, x13, x14, x15, x16, x17, x24, x9, x20, x20, (D 0), (D 1), x24, undef, undef, undef, undef, undef, x36, x9, x32, x32, (D_1 0), (D_1 1), x36, x9, x38, x13, x40, undef, undef, undef, undef, undef, undef, undef, undef, undef] ++ [undef, undef, undef, undef, undef, undef, undef, undef, undef, undef, undef, undef, undef, undef, undef, undef, undef, undef, undef, undef, undef, undef, undef, undef, undef, undef, undef, undef, undef, undef, undef, undef, undef, undef, undef, undef, undef, undef, undef, undef, undef, undef, undef, undef, undef, undef, undef, undef, undef, undef] ++ [undef, undef, undef, undef, undef, undef, undef, undef, undef, undef, undef, undef, undef, undef, undef, undef, undef, undef, undef, undef, undef, undef, undef, undef, undef]).toArray, []⟩) (by kernel_rfl) ?_
          refine wp_ret ?_
          refine block_ret ?_
          refine then_ret ?_
          exact end1 (Try.results38) (by kernel_rfl) (by kernel_rfl) HA_5 H _ (.inr rfl)
        · refine wp_seq ?_
          refine lwp_list ?_
          refine ls_move (x := x9) (by kernel_rfl) (by kernel_rfl) ?_
          refine ls_p (d := some 43) (by kernel_rfl) (by kernel_rfl) (p_sEq (by kernel_rfl) (by kernel_rfl) H) (fun x43 H => ?_)
          refine ls_move (x := x43) (by kernel_rfl) (by kernel_rfl) ?_
          refine ls_and [(), ()] (fun K a w => ∃ (D_2 : Nat → Value) (x46 : Value), a = ⟨([x0, x1, x2, undef, (.slice none 0 0), x9, x13, x17, x8, x9, x10, x11, x12, x13, x14, x15, x16, x17, x24, x9, x20, x20, (D 0), (D 1), x24, undef, undef, undef, undef, undef, x36, x9, x32, x32, (D_1 0), (D_1 1), x36, undef, undef, undef, undef, undef, x9, x43, x43, (D_2 0), x46, undef, undef, undef] ++ [undef, undef, undef, undef, undef, undef, undef, undef, undef, undef, undef, undef, undef, undef, undef, undef, undef, undef, undef, undef, undef, undef, undef, undef, undef, undef, undef, undef, undef, undef, undef, undef, undef, undef, undef, undef, undef, undef, undef, undef, undef, undef, undef, undef, undef, undef, undef, undef, undef, undef] ++ [undef, undef, undef, undef, undef, undef, undef, undef, undef, undef, undef, undef, undef, undef, undef, undef, undef, undef, undef, undef, undef, undef, undef, undef, undef]).toArray, []⟩ ∧ At w0 w h ∧ K x46) H (fun hb_8 H => ?_) (fun hb_8 H => ?_) ?_
          · refine ls_move (x := x17) (by rw [hb_8]; kernel_rfl) (by kernel_rfl) ?_
            refine ls_pick_t (x := x17) (by kernel_rfl) (by rw [hb_8]; kernel_rfl) (by kernel_rfl) ?_
            refine ls_nil ?_
            refine then_normal ?_
            exact ⟨(fun i => ([x17]).getD i undef), x17, by kernel_rfl, HA_4, H⟩
          · refine ls_skip (d := some 45) (by kernel_rfl) (by rw [hb_8]; kernel_rfl) ?_
            refine ls_pick_f (y := (.bool false)) (by kernel_rfl) (by rw [hb_8]; kernel_rfl) (by kernel_rfl) ?_
            refine ls_nil ?_
            refine then_normal ?_
            exact ⟨(fun i => ([undef]).getD i undef), (.bool false), by kernel_rfl, HA_4, H⟩
          · rintro _ w_6 ⟨D_2, x46, rfl, HA_6, H⟩
            refine ls_assign (x := x46) (by kernel_rfl) (by kernel_rfl) ?_
            refine ls_nil ?_
            refine then_normal ?_
            refine fr_eq (b := ⟨([x0, x1, x2, undef, (.slice none 0 0), x9, x13, x17, x8, x9, x10, x11, x12, x13, x14, x15, x16, x17, x24, x9, x20, x20, (D 0), (D 1), x24, undef, undef, undef, undef, undef, x36, x9, x32, x32, (D_1 0), (D_1 1), x36, undef, undef, undef, undef, x46, x9, x43, x43, (D_2 0), x46, undef, undef, undef] ++ [undef, undef, undef, undef, undef, undef, undef, undef, undef, undef, undef, undef, undef, undef, undef, undef, undef, undef, undef, undef, undef, undef, undef, undef, undef, undef, undef, undef, undef, undef, undef, undef, undef, undef, undef, undef, undef, undef, undef, undef, undef, undef, undef, undef, undef, undef, undef, undef, undef, undef] ++ [undef, undef, undef, undef, undef, undef, undef, undef, undef, undef, undef, undef, undef, undef, undef, undef, undef, undef, undef, undef, undef, undef, undef, undef, undef]).toArray, []⟩) (by kernel_rfl) ?_
            refine wp_if rfl H (fun H => ?_) (fun H => ?_)
            · refine wp_seq ?_
              refine lwp_list ?_
              refine ls_d (d := some 47) (by kernel_rfl) (by kernel_rfl) HA_6 (d_slit (zc := #[.int .u8 0]) Try.underlying54 Try.sizeOf5 (by decide) (.inr ⟨by decide, _, Try.zeroValue5, (by kernel_rfl)⟩) (by kernel_rfl) (by kernel_rfl) H) (fun x47 h_3 w_7 H HA_7 => ?_)
              refine ls_assign (x := x47) (by kernel_rfl) (by kernel_rfl) ?_
              refine ls_nil ?_
              refine then_normal ?_
              refine fr_eq (b := ⟨([x0, x1, x2, undef, x47, x9, x13, x17, x8, x9, x10, x11, x12, x13, x14, x15, x16, x17, x24, x9, x20, x20, (D 0), (D 1), x24, undef, undef, undef, undef, undef, x36, x9, x32, x32, (D_1 0), (D_1 1), x36, undef, undef, undef, undef, x46, x9, x43, x43, (D_2 0), x46, x47, undef, undef] ++ [undef, undef, undef, undef, undef, undef, undef, undef, undef, undef, undef, undef, undef, undef, undef, undef, undef, undef, undef, undef, undef, undef, undef, undef, undef, undef, undef, undef, undef, undef, undef, undef, undef, undef, undef, undef, undef, undef, undef, undef, undef, undef, undef, undef, undef, undef, undef, undef, undef, undef] ++ [undef, undef, undef, undef, undef, undef, undef, undef, undef, undef, undef, undef, undef, undef, undef, undef, undef, undef, undef, undef, undef, undef, undef, undef, undef]).toArray, []⟩) (by kernel_rfl) ?_
              refine wp_ret ?_
              refine block_ret ?_
              refine then_ret ?_
              exact end1 (Try.results38) (by kernel_rfl) (by kernel_rfl) HA_7 H _ (.inr rfl)
            · refine wp_seq ?_
              refine lwp_list ?_
              refine ls_move (x := x9) (by kernel_rfl) (by kernel_rfl) ?_
              refine ls_p (d := some 50) (by kernel_rfl) (by kernel_rfl) (p_sEq (by kernel_rfl) (by kernel_rfl) H) (fun x50 H => ?_)
              refine ls_move (x := x50) (by kernel_rfl) (by kernel_rfl) ?_
              refine ls_and [(), ()] (fun K a w => ∃ (D_3 : Nat → Value) (x53 : Value), a = ⟨([x0, x1, x2, undef, (.slice none 0 0), x9, x13, x17, x8, x9, x10, x11, x12, x13, x14, x15, x16, x17, x24, x9, x20, x20, (D 0), (D 1), x24, undef, undef, undef, undef, undef, x36, x9, x32, x32, (D_1 0), (D_1 1), x36, undef, undef, undef, undef, x46, x9, x43, x43, (D_2 0), x46, undef, undef, x9] ++ [x50, x50, (D_3 0), x53, undef, undef, undef, undef, undef, undef, undef, undef, undef, undef, undef, undef, undef, undef, undef, undef, undef, undef, undef, undef, undef, undef, undef, undef, undef, undef, undef, undef, undef, undef, undef, undef, undef, undef, undef, undef, undef, undef, undef, undef, undef, undef, undef, undef, undef, undef] ++ [undef, undef, undef, undef, undef, undef, undef, undef, undef, undef, undef, undef, undef, undef, undef, undef, undef, undef, undef, undef, undef, undef, undef, undef, undef]).toArray, []⟩ ∧ At w0 w h ∧ K x53) H (fun hb_7 H => ?_) (fun hb_7 H => ?_) ?_
              · refine ls_move (x := x13) (by rw [hb_7]; kernel_rfl) (by kernel_rfl) ?_
                refine ls_pick_t (x := x13) (by kernel_rfl) (by rw [hb_7]; kernel_rfl) (by kernel_rfl) ?_
                refine ls_nil ?_
                refine then_normal ?_
                exact ⟨(fun i => ([x13]).getD i undef), x13, by kernel_rfl, HA_6, H⟩
              · refine ls_skip (d := some 52) (by kernel_rfl) (by rw [hb_7]; kernel_rfl) ?_
                refine ls_pick_f (y := (.bool false)) (by kernel_rfl) (by rw [hb_7]; kernel_rfl) (by kernel_rfl) ?_
                refine ls_nil ?_
                refine then_normal ?_
                exact ⟨(fun i => ([undef]).getD i undef), (.bool false), by kernel_rfl, HA_6, H⟩
              · rintro _ w_8 ⟨D_3, x53, rfl, HA_8, H⟩
                refine ls_assign (x := x53) (by kernel_rfl) (by kernel_rfl) ?_
                refine ls_nil ?_
                refine then_normal ?_
                refine fr_eq (b := ⟨([x0, x1, x2, undef, (.slice none 0 0), x9, x13, x17, x8, x9, x10, x11, x12, x13, x14, x15, x16, x17, x24, x9, x20, x20, (D 0), (D 1), x24, undef, undef, undef, undef, undef, x36, x9, x32, x32, (D_1 0), (D_1 1), x36, undef, undef, undef, undef, x46, x9, x43, x43, (D_2 0), x46, undef, x53, x9] ++ [x50, x50, (D_3 0), x53, undef, undef, undef, undef, undef, undef, undef, undef, undef, undef, undef, undef, undef, undef, undef, undef, undef, undef, undef, undef, undef, undef, undef, undef, undef, undef, undef, undef, undef, undef, undef, undef, undef, undef, undef, undef, undef, undef, undef, undef, undef, undef, undef, undef, undef, undef] ++ [undef, undef, undef, undef, undef, undef, undef, undef, undef, undef, undef, undef, undef, undef, undef, undef, undef, undef, undef, undef, undef, undef, undef, undef, undef]).toArray, []⟩) (by kernel_rfl) ?_
                refine wp_if rfl H (fun H => ?_) (fun H => ?_)
                · refine wp_seq ?_
                  refine lwp_list ?_
                  refine ls_d (d := some 54) (by kernel_rfl) (by kernel_rfl) HA_8 (d_slit (zc := #[.int .u8 0]) Try.underlying54 Try.sizeOf5 (by decide) (.inr ⟨by decide, _, Try.zeroValue5, (by kernel_rfl)⟩) (by kernel_rfl) (by kernel_rfl) H) (fun x54 h_4 w_9 H HA_9 => ?_)
                  refine ls_d (d := some 55) (by kernel_rfl) (by kernel_rfl) HA_9 (d_mark Try.underlying54 Try.underlying5 (by kernel_rfl) H) (fun x55 h_5 w_10 H HA_10 => ?_)
                  refine ls_assign (x := x55) (by kernel_rfl) (by kernel_rfl) ?_
                  refine ls_nil ?_
                  refine then_normal ?_
                  refine fr_eq (b := ⟨([x0, x1, x2, undef, x55, x9, x13, x17, x8, x9, x10, x11, x12, x13, x14, x15, x16, x17, x24, x9, x20, x20, (D 0), (D 1), x24, undef, undef, undef, undef, undef, x36, x9, x32, x32, (D_1 0), (D_1 1), x36, undef, undef, undef, undef, x46, x9, x43, x43, (D_2 0), x46, undef, x53, x9] ++ [x50, x50, (D_3 0), x53, x54, x55, undef, undef, undef, undef, undef, undef, undef, undef, undef, undef, undef, undef, undef, undef, undef, undef, undef, undef, undef, undef, undef, undef, undef, undef, undef, undef, undef, undef, undef, undef, undef, undef, undef, undef, undef, undef, undef, undef, undef, undef, undef, undef, undef, undef] ++ [undef, undef, undef, undef, undef, undef, undef, undef, undef, undef, undef, undef, undef, undef, undef, undef, undef, undef, undef, undef, undef, undef, undef, undef, undef]).toArray, []⟩) (by kernel_rfl) ?_
                  refine wp_ret ?_
                  refine block_ret ?_
                  refine then_ret ?_
                  exact end1 (Try.results38) (by kernel_rfl) (by kernel_rfl) HA_10 H _ (.inr rfl)
                · refine wp_seq ?_
                  refine lwp_list ?_
                  refine ls_move (x := x9) (by kernel_rfl) (by kernel_rfl) ?_
                  refine ls_p (d := some 58) (by kernel_rfl) (by kernel_rfl) (p_sGe (by kernel_rfl) (by kernel_rfl) H) (fun x58 H => ?_)
                  refine ls_move (x := x58) (by kernel_rfl) (by kernel_rfl) ?_
                  refine ls_and [(), (), ()] (fun K a w => ∃ (D_4 : Nat → Value) (x62 : Value), a = ⟨([x0, x1, x2, undef, (.slice none 0 0), x9, x13, x17, x8, x9, x10, x11, x12, x13, x14, x15, x16, x17, x24, x9, x20, x20, (D 0), (D 1), x24, undef, undef, undef, undef, undef, x36, x9, x32, x32, (D_1 0), (D_1 1), x36, undef, undef, undef, undef, x46, x9, x43, x43, (D_2 0), x46, undef, x53, x9] ++ [x50, x50, (D_3 0), x53, undef, undef, undef, x9, x58, x58, (D_4 0), (D_4 1), x62, undef, undef, undef, undef, undef, undef, undef, undef, undef, undef, undef, undef, undef, undef, undef, undef, undef, undef, undef, undef, undef, undef, undef, undef, undef, undef, undef, undef, undef, undef, undef, undef, undef, undef, undef, undef, undef] ++ [undef, undef, undef, undef, undef, undef, undef, undef, undef, undef, undef, undef, undef, undef, undef, undef, undef, undef, undef, undef, undef, undef, undef, undef, undef]).toArray, []⟩ ∧ At w0 w h ∧ K x62) H (fun hb_6 H => ?_) (fun hb_6 H => ?_) ?_
                  · refine ls_move (x := x9) (by rw [hb_6]; kernel_rfl) (by kernel_rfl) ?_
                    refine ls_p (d := some 61) (by kernel_rfl) (by rw [hb_6]; kernel_rfl) (p_sLt (by kernel_rfl) (by kernel_rfl) H) (fun x61 H => ?_)
                    refine ls_pick_t (x := x61) (by kernel_rfl) (by rw [hb_6]; kernel_rfl) (by kernel_rfl) ?_
                    refine ls_nil ?_
                    refine then_normal ?_
                    exact ⟨(fun i => ([x9, x61]).getD i undef), x61, by kernel_rfl, HA_8, H⟩
                  · refine ls_skip (d := some 60) (by kernel_rfl) (by rw [hb_6]; kernel_rfl) ?_
                    refine ls_skip (d := some 61) (by kernel_rfl) (by rw [hb_6]; kernel_rfl) ?_
                    refine ls_pick_f (y := (.bool false)) (by kernel_rfl) (by rw [hb_6]; kernel_rfl) (by kernel_rfl) ?_
                    refine ls_nil ?_
                    refine then_normal ?_
                    exact ⟨(fun i => ([undef, undef]).getD i undef), (.bool false), by kernel_rfl, HA_8, H⟩
                  · rintro _ w_11 ⟨D_4, x62, rfl, HA_11, H⟩
                    refine ls_assign (x := x62) (by kernel_rfl) (by kernel_rfl) ?_
                    refine ls_nil ?_
                    refine then_normal ?_
                    refine fr_eq (b := ⟨([x0, x1, x2, undef, (.slice none 0 0), x9, x13, x17, x8, x9, x10, x11, x12, x13, x14, x15, x16, x17, x24, x9, x20, x20, (D 0), (D 1), x24, undef, undef, undef, undef, undef, x36, x9, x32, x32, (D_1 0), (D_1 1), x36, undef, undef, undef, undef, x46, x9, x43, x43, (D_2 0), x46, undef, x53, x9] ++ [x50, x50, (D_3 0), x53, undef, undef, x62, x9, x58, x58, (D_4 0), (D_4 1), x62, undef, undef, undef, undef, undef, undef, undef, undef, undef, undef, undef, undef, undef, undef, undef, undef, undef, undef, undef, undef, undef, undef, undef, undef, undef, undef, undef, undef, undef, undef, undef, undef, undef, undef, undef, undef, undef] ++ [undef, undef, undef, undef, undef, undef, undef, undef, undef, undef, undef, undef, undef, undef, undef, undef, undef, undef, undef, undef, undef, undef, undef, undef, undef]).toArray, []⟩) (by kernel_rfl) ?_
                    refine wp_if rfl H (fun H => ?_) (fun H => ?_)
                    · refine wp_seq ?_
                      refine lwp_list ?_
                      refine ls_move (x := x9) (by kernel_rfl) (by kernel_rfl) ?_
                      refine ls_p (d := some 64) (by kernel_rfl) (by kernel_rfl) (p_sub (by kernel_rfl) (by kernel_rfl) H) (fun x64 H => ?_)
                      refine ls_p (d := some 65) (by kernel_rfl) (by kernel_rfl) (p_ixb Try.underlying9 (by kernel_rfl) (by kernel_rfl) H) (fun x65 H => ?_)
                      refine ls_d (d := some 66) (by kernel_rfl) (by kernel_rfl) HA_11 (d_slit (zc := #[.int .u8 0]) Try.underlying54 Try.sizeOf5 (by decide) (.inr ⟨by decide, _, Try.zeroValue5, (by kernel_rfl)⟩) (by kernel_rfl) (by kernel_rfl) H) (fun x66 h_6 w_12 H HA_12 => ?_)
                      refine ls_assign (x := x66) (by kernel_rfl) (by kernel_rfl) ?_
                      refine ls_nil ?_
                      refine then_normal ?_
                      refine fr_eq (b := ⟨([x0, x1, x2, undef, x66, x9, x13, x17, x8, x9, x10, x11, x12, x13, x14, x15, x16, x17, x24, x9, x20, x20, (D 0), (D 1), x24, undef, undef, undef, undef, undef, x36, x9, x32, x32, (D_1 0), (D_1 1), x36, undef, undef, undef, undef, x46, x9, x43, x43, (D_2 0), x46, undef, x53, x9] ++ [x50, x50, (D_3 0), x53, undef, undef, x62, x9, x58, x58, (D_4 0), (D_4 1), x62, x9, x64, x65, x66, undef, undef, undef, undef, undef, undef, undef, undef, undef, undef, undef, undef, undef, undef, undef, undef, undef, undef, undef, undef, undef, undef, undef, undef, undef, undef, undef, undef, undef, undef, undef, undef, undef] ++ [undef, undef, undef, undef, undef, undef, undef, undef, undef, undef, undef, undef, undef, undef, undef, undef, undef, undef, undef, undef, undef, undef, undef, undef, undef]).toArray, []⟩) (by kernel_rfl) ?_
                      refine wp_ret ?_
                      refine block_ret ?_
                      refine then_ret ?_
                      exact end1 (Try.results38) (by kernel_rfl) (by kernel_rfl) HA_12 H _ (.inr rfl)
                    · refine wp_seq ?_
                      refine lwp_list ?_
                      refine ls_move (x := x9) (by kernel_rfl) (by kernel_rfl) ?_
                      refine ls_p (d := some 69) (by kernel_rfl) (by kernel_rfl) (p_sGe (by kernel_rfl) (by kernel_rfl) H) (fun x69 H => ?_)
                      refine ls_move (x := x69) (by kernel_rfl) (by kernel_rfl) ?_
                      refine ls_and [(), (), ()] (fun K a w => ∃ (D_5 : Nat → Value) (x73 : Value), a = ⟨([x0, x1, x2, undef, (.slice none 0 0), x9, x13, x17, x8, x9, x10, x11, x12, x13, x14, x15, x16, x17, x24, x9, x20, x20, (D 0), (D 1), x24, undef, undef, undef, undef, undef, x36, x9, x32, x32, (D_1 0), (D_1 1), x36, undef, undef, undef, undef, x46, x9, x43, x43, (D_2 0), x46, undef, x53, x9] ++ [x50, x50, (D_3 0), x53, undef, undef, x62, x9, x58, x58, (D_4 0), (D_4 1), x62, undef, undef, undef, undef, undef, x9, x69, x69, (D_5 0), (D_5 1), x73, undef, undef, undef, undef, undef, undef, undef, undef, undef, undef, undef, undef, undef, undef, undef, undef, undef, undef, undef, undef, undef, undef, undef, undef, undef, undef] ++ [undef, undef, undef, undef, undef, undef, undef, undef, undef, undef, undef, undef, undef, undef, undef, undef, undef, undef, undef, undef, undef, undef, undef, undef, undef]).toArray, []⟩ ∧ At w0 w h ∧ K x73) H (fun hb_5 H => ?_) (fun hb_5 H => ?_) ?_
                      · refine ls_move (x := x9) (by rw [hb_5]; kernel_rfl) (by kernel_rfl) ?_
                        refine ls_p (d := some 72) (by kernel_rfl) (by rw [hb_5]; kernel_rfl) (p_sLe (by kernel_rfl) (by kernel_rfl) H) (fun x72 H => ?_)
                        refine ls_pick_t (x := x72) (by kernel_rfl) (by rw [hb_5]; kernel_rfl) (by kernel_rfl) ?_
                        refine ls_nil ?_
                        refine then_normal ?_
                        exact ⟨(fun i => ([x9, x72]).getD i undef), x72, by kernel_rfl, HA_11, H⟩
                      · refine ls_skip (d := some 71) (by kernel_rfl) (by rw [hb_5]; kernel_rfl) ?_
                        refine ls_skip (d := some 72) (by kernel_rfl) (by rw [hb_5]; kernel_rfl) ?_
                        refine ls_pick_f (y := (.bool false)) (by kernel_rfl) (by rw [hb_5]; kernel_rfl) (by kernel_rfl) ?_
                        refine ls_nil ?_
                        refine then_normal ?_
                        exact ⟨(fun i => ([undef, undef]).getD i undef), (.bool false), by kernel_rfl, HA_11, H⟩
                      · rintro _ w_13 ⟨D_5, x73, rfl, HA_13, H⟩
                        refine ls_assign (x := x73) (by kernel_rfl) (by kernel_rfl) ?_
                        refine ls_nil ?_
                        refine then_normal ?_
                        refine fr_eq (b := ⟨([x0, x1, x2, undef, (.slice none 0 0), x9, x13, x17, x8, x9, x10, x11, x12, x13, x14, x15, x16, x17, x24, x9, x20, x20, (D 0), (D 1), x24, undef, undef, undef, undef, undef, x36, x9, x32, x32, (D_1 0), (D_1 1), x36, undef, undef, undef, undef, x46, x9, x43, x43, (D_2 0), x46, undef, x53, x9] ++ [x50, x50, (D_3 0), x53, undef, undef, x62, x9, x58, x58, (D_4 0), (D_4 1), x62, undef, undef, undef, undef, x73, x9, x69, x69, (D_5 0), (D_5 1), x73, undef, undef, undef, undef, undef, undef, undef, undef, undef, undef, undef, undef, undef, undef, undef, undef, undef, undef, undef, undef, undef, undef, undef, undef, undef, undef] ++ [undef, undef, undef, undef, undef, undef, undef, undef, undef, undef, undef, undef, undef, undef, undef, undef, undef, undef, undef, undef, undef, undef, undef, undef, undef]).toArray, []⟩) (by kernel_rfl) ?_
                        refine wp_if rfl H (fun H => ?_) (fun H => ?_)
                        · refine wp_seq ?_
                          refine lwp_list ?_
                          refine ls_move (x := x9) (by kernel_rfl) (by kernel_rfl) ?_
                          refine ls_p (d := some 75) (by kernel_rfl) (by kernel_rfl) (p_sub (by kernel_rfl) (by kernel_rfl) H) (fun x75 H => ?_)
                          refine ls_move (x := x13) (by kernel_rfl) (by kernel_rfl) ?_
                          refine ls_d (d := some 77) (by kernel_rfl) (by kernel_rfl) HA_13 (d_call (by kernel_rfl) (by kernel_rfl) H) (fun x77 h_7 w_14 H HA_14 => ?_)
                          refine ls_assign (x := x77) (by kernel_rfl) (by kernel_rfl) ?_
                          refine ls_nil ?_
                          refine then_normal ?_
                          refine fr_eq (b := ⟨([x0, x1, x2, undef, x77, x9, x13, x17, x8, x9, x10, x11, x12, x13, x14, x15, x16, x17, x24, x9, x20, x20, (D 0), (D 1), x24, undef, undef, undef, undef, undef, x36, x9, x32, x32, (D_1 0), (D_1 1), x36, undef, undef, undef, undef, x46, x9, x43, x43, (D_2 0), x46, undef, x53, x9] ++ [x50, x50, (D_3 0), x53, undef, undef, x62, x9, x58, x58, (D_4 0), (D_4 1), x62, undef, undef, undef, undef, x73, x9, x69, x69, (D_5 0), (D_5 1), x73, x9, x75, x13, x77, undef, undef, undef, undef, undef, undef, undef, undef, undef, undef, undef, undef, undef, undef, undef, undef, undef, undef, undef, undef, undef, undef] ++ [undef, undef, undef, undef, undef, undef, undef, undef, undef, undef, undef, undef, undef, undef, undef, undef, undef, undef, undef, undef, undef, undef, undef, undef, undef]).toArray, []⟩) (by kernel_rfl) ?_
                          refine wp_ret ?_
                          refine block_ret ?_
                          refine then_ret ?_
                          exact end1 (Try.results38) (by kernel_rfl) (by kernel_rfl) HA_14 H _ (.inr rfl)
                        · refine wp_seq ?_
                          refine lwp_list ?_
                          refine ls_move (x := x9) (by kernel_rfl) (by kernel_rfl) ?_
                          refine ls_p (d := some 80) (by kernel_rfl) (by kernel_rfl) (p_sGe (by kernel_rfl) (by kernel_rfl) H) (fun x80 H => ?_)
                          refine ls_move (x := x80) (by kernel_rfl) (by kernel_rfl) ?_
                          refine ls_and [(), (), ()] (fun K a w => ∃ (D_6 : Nat → Value) (x84 : Value), a = ⟨([x0, x1, x2, undef, (.slice none 0 0), x9, x13, x17, x8, x9, x10, x11, x12, x13, x14, x15, x16, x17, x24, x9, x20, x20, (D 0), (D 1), x24, undef, undef, undef, undef, undef, x36, x9, x32, x32, (D_1 0), (D_1 1), x36, undef, undef, undef, undef, x46, x9, x43, x43, (D_2 0), x46, undef, x53, x9] ++ [x50, x50, (D_3 0), x53, undef, undef, x62, x9, x58, x58, (D_4 0), (D_4 1), x62, undef, undef, undef, undef, x73, x9, x69, x69, (D_5 0), (D_5 1), x73, undef, undef, undef, undef, undef, x9, x80, x80, (D_6 0), (D_6 1), x84, undef, undef, undef, undef, undef, undef, undef, undef, undef, undef, undef, undef, undef, undef, undef] ++ [undef, undef, undef, undef, undef, undef, undef, undef, undef, undef, undef, undef, undef, undef, undef, undef, undef, undef, undef, undef, undef, undef, undef, undef, undef]).toArray, []⟩ ∧ At w0 w h ∧ K x84) H (fun hb_4 H => ?_) (fun hb_4 H => ?_) ?_
                          · refine ls_move (x := x9) (by rw [hb_4]; kernel_rfl) (by kernel_rfl) ?_
                            refine ls_p (d := some 83) (by kernel_rfl) (by rw [hb_4]; kernel_rfl) (p_sLt (by kernel_rfl) (by kernel_rfl) H) (fun x83 H => ?_)
                            refine ls_pick_t (x := x83) (by kernel_rfl) (by rw [hb_4]; kernel_rfl) (by kernel_rfl) ?_
                            refine ls_nil ?_
                            refine then_normal ?_
                            exact ⟨(fun i => ([x9, x83]).getD i undef), x83, by kernel_rfl, HA_13, H⟩
                          · refine ls_skip (d := some 82) (by kernel_rfl) (by rw [hb_4]; kernel_rfl) ?_
                            refine ls_skip (d := some 83) (by kernel_rfl) (by rw [hb_4]; kernel_rfl) ?_
                            refine ls_pick_f (y := (.bool false)) (by kernel_rfl) (by rw [hb_4]; kernel_rfl) (by kernel_rfl) ?_
                            refine ls_nil ?_
                            refine then_normal ?_
                            exact ⟨(fun i => ([undef, undef]).getD i undef), (.bool false), by kernel_rfl, HA_13, H⟩
                          · rintro _ w_15 ⟨D_6, x84, rfl, HA_15, H⟩
                            refine ls_move (x := x84) (by kernel_rfl) (by kernel_rfl) ?_
                            refine ls_and [(), ()] (fun K a w => ∃ (D_7 : Nat → Value) (x87 : Value), a = ⟨([x0, x1, x2, undef, (.slice none 0 0), x9, x13, x17, x8, x9, x10, x11, x12, x13, x14, x15, x16, x17, x24, x9, x20, x20, (D 0), (D 1), x24, undef, undef, undef, undef, undef, x36, x9, x32, x32, (D_1 0), (D_1 1), x36, undef, undef, undef, undef, x46, x9, x43, x43, (D_2 0), x46, undef, x53, x9] ++ [x50, x50, (D_3 0), x53, undef, undef, x62, x9, x58, x58, (D_4 0), (D_4 1), x62, undef, undef, undef, undef, x73, x9, x69, x69, (D_5 0), (D_5 1), x73, undef, undef, undef, undef, undef, x9, x80, x80, (D_6 0), (D_6 1), x84, x84, (D_7 0), x87, undef, undef, undef, undef, undef, undef, undef, undef, undef, undef, undef, undef] ++ [undef, undef, undef, undef, undef, undef, undef, undef, undef, undef, undef, undef, undef, undef, undef, undef, undef, undef, undef, undef, undef, undef, undef, undef, undef]).toArray, []⟩ ∧ At w0 w h ∧ K x87) H (fun hb_3 H => ?_) (fun hb_3 H => ?_) ?_
                            · refine ls_move (x := x1) (by rw [hb_3]; kernel_rfl) (by kernel_rfl) ?_
                              refine ls_pick_t (x := x1) (by kernel_rfl) (by rw [hb_3]; kernel_rfl) (by kernel_rfl) ?_
                              refine ls_nil ?_
                              refine then_normal ?_
                              exact ⟨(fun i => ([x1]).getD i undef), x1, by kernel_rfl, HA_15, H⟩
                            · refine ls_skip (d := some 86) (by kernel_rfl) (by rw [hb_3]; kernel_rfl) ?_
                              refine ls_pick_f (y := (.bool false)) (by kernel_rfl) (by rw [hb_3]; kernel_rfl) (by kernel_rfl) ?_
                              refine ls_nil ?_
                              refine then_normal ?_
                              exact ⟨(fun i => ([undef]).getD i undef), (.bool false), by kernel_rfl, HA_15, H⟩
                            · rintro _ w_16 ⟨D_7, x87, rfl, HA_16, H⟩
                              refine ls_assign (x := x87) (by kernel_rfl) (by kernel_rfl) ?_
                              refine ls_nil ?_
                              refine then_normal ?_
                              refine fr_eq (b := ⟨([x0, x1, x2, undef, (.slice none 0 0), x9, x13, x17, x8, x9, x10, x11, x12, x13, x14, x15, x16, x17, x24, x9, x20, x20, (D 0), (D 1), x24, undef, undef, undef, undef, undef, x36, x9, x32, x32, (D_1 0), (D_1 1), x36, undef, undef, undef, undef, x46, x9, x43, x43, (D_2 0), x46, undef, x53, x9] ++ [x50, x50, (D_3 0), x53, undef, undef, x62, x9, x58, x58, (D_4 0), (D_4 1), x62, undef, undef, undef, undef, x73, x9, x69, x69, (D_5 0), (D_5 1), x73, undef, undef, undef, undef, x87, x9, x80, x80, (D_6 0), (D_6 1), x84, x84, (D_7 0), x87, undef, undef, undef, undef, undef, undef, undef, undef, undef, undef, undef, undef] ++ [undef, undef, undef, undef, undef, undef, undef, undef, undef, undef, undef, undef, undef, undef, undef, undef, undef, undef, undef, undef, undef, undef, undef, undef, undef]).toArray, []⟩) (by kernel_rfl) ?_
                              refine wp_if rfl H (fun H => ?_) (fun H => ?_)
                              · refine wp_seq ?_
                                refine lwp_list ?_
                                refine ls_move (x := x9) (by kernel_rfl) (by kernel_rfl) ?_
                                refine ls_p (d := some 89) (by kernel_rfl) (by kernel_rfl) (p_sub (by kernel_rfl) (by kernel_rfl) H) (fun x89 H => ?_)
                                refine ls_p (d := some 90) (by kernel_rfl) (by kernel_rfl) (p_ixb Try.underlying9 (by kernel_rfl) (by kernel_rfl) H) (fun x90 H => ?_)
                                refine ls_d (d := some 91) (by kernel_rfl) (by kernel_rfl) HA_16 (d_slit (zc := #[.int .u8 0]) Try.underlying54 Try.sizeOf5 (by decide) (.inr ⟨by decide, _, Try.zeroValue5, (by kernel_rfl)⟩) (by kernel_rfl) (by kernel_rfl) H) (fun x91 h_8 w_17 H HA_17 => ?_)
                                refine ls_assign (x := x91) (by kernel_rfl) (by kernel_rfl) ?_
                                refine ls_nil ?_
                                refine then_normal ?_
                                refine fr_eq (b := ⟨([x0, x1, x2, undef, x91, x9, x13, x17, x8, x9, x10, x11, x12, x13, x14, x15, x16, x17, x24, x9, x20, x20, (D 0), (D 1), x24, undef, undef, undef, undef, undef, x36, x9, x32, x32, (D_1 0), (D_1 1), x36, undef, undef, undef, undef, x46, x9, x43, x43, (D_2 0), x46, undef, x53, x9] ++ [x50, x50, (D_3 0), x53, undef, undef, x62, x9, x58, x58, (D_4 0), (D_4 1), x62, undef, undef, undef, undef, x73, x9, x69, x69, (D_5 0), (D_5 1), x73, undef, undef, undef, undef, x87, x9, x80, x80, (D_6 0), (D_6 1), x84, x84, (D_7 0), x87, x9, x89, x90, x91, undef, undef, undef, undef, undef, undef, undef, undef] ++ [undef, undef, undef, undef, undef, undef, undef, undef, undef, undef, undef, undef, undef, undef, undef, undef, undef, undef, undef, undef, undef, undef, undef, undef, undef]).toArray, []⟩) (by kernel_rfl) ?_
                                refine wp_ret ?_
                                refine block_ret ?_
                                refine then_ret ?_
                                exact end1 (Try.results38) (by kernel_rfl) (by kernel_rfl) HA_17 H _ (.inr rfl)
                              · refine wp_seq ?_
                                refine lwp_list ?_
                                refine ls_move (x := x9) (by kernel_rfl) (by kernel_rfl) ?_
                                refine ls_p (d := some 94) (by kernel_rfl) (by kernel_rfl) (p_sGe (by kernel_rfl) (by kernel_rfl) H) (fun x94 H => ?_)
                                refine ls_move (x := x94) (by kernel_rfl) (by kernel_rfl) ?_
                                refine ls_and [(), (), ()] (fun K a w => ∃ (D_8 : Nat → Value) (x98 : Value), a = ⟨([x0, x1, x2, undef, (.slice none 0 0), x9, x13, x17, x8, x9, x10, x11, x12, x13, x14, x15, x16, x17, x24, x9, x20, x20, (D 0), (D 1), x24, undef, undef, undef, undef, undef, x36, x9, x32, x32, (D_1 0), (D_1 1), x36, undef, undef, undef, undef, x46, x9, x43, x43, (D_2 0), x46, undef, x53, x9] ++ [x50, x50, (D_3 0), x53, undef, undef, x62, x9, x58, x58, (D_4 0), (D_4 1), x62, undef, undef, undef, undef, x73, x9, x69, x69, (D_5 0), (D_5 1), x73, undef, undef, undef, undef, x87, x9, x80, x80, (D_6 0), (D_6 1), x84, x84, (D_7 0), x87, undef, undef, undef, undef, undef, x9, x94, x94, (D_8 0), (D_8 1), x98, undef] ++ [undef, undef, undef, undef, undef, undef, undef, undef, undef, undef, undef, undef, undef, undef, undef, undef, undef, undef, undef, undef, undef, undef, undef, undef, undef]).toArray, []⟩ ∧ At w0 w h ∧ K x98) H (fun hb_2 H => ?_) (fun hb_2 H => ?_) ?_
                                · refine ls_move (x := x9) (by rw [hb_2]; kernel_rfl) (by kernel_rfl) ?_
                                  refine ls_p (d := some 97) (by kernel_rfl) (by rw [hb_2]; kernel_rfl) (p_sLt (by kernel_rfl) (by kernel_rfl) H) (fun x97 H => ?_)
                                  refine ls_pick_t (x := x97) (by kernel_rfl) (by rw [hb_2]; kernel_rfl) (by kernel_rfl) ?_
                                  refine ls_nil ?_
                                  refine then_normal ?_
                                  exact ⟨(fun i => ([x9, x97]).getD i undef), x97, by kernel_rfl, HA_16, H⟩
                                · refine ls_skip (d := some 96) (by kernel_rfl) (by rw [hb_2]; kernel_rfl) ?_
                                  refine ls_skip (d := some 97) (by kernel_rfl) (by rw [hb_2]; kernel_rfl) ?_
                                  refine ls_pick_f (y := (.bool false)) (by kernel_rfl) (by rw [hb_2]; kernel_rfl) (by kernel_rfl) ?_
                                  refine ls_nil ?_
                                  refine then_normal ?_
                                  exact ⟨(fun i => ([undef, undef]).getD i undef), (.bool false), by kernel_rfl, HA_16, H⟩
                                · rintro _ w_18 ⟨D_8, x98, rfl, HA_18, H⟩
                                  refine ls_assign (x := x98) (by kernel_rfl) (by kernel_rfl) ?_
                                  refine ls_nil ?_
                                  refine then_normal ?_
                                  refine fr_eq (b := ⟨([x0, x1, x2, undef, (.slice none 0 0), x9, x13, x17, x8, x9, x10, x11, x12, x13, x14, x15, x16, x17, x24, x9, x20, x20, (D 0), (D 1), x24, undef, undef, undef, undef, undef, x36, x9, x32, x32, (D_1 0), (D_1 1), x36, undef, undef, undef, undef, x46, x9, x43, x43, (D_2 0), x46, undef, x53, x9] ++ [x50, x50, (D_3 0), x53, undef, undef, x62, x9, x58, x58, (D_4 0), (D_4 1), x62, undef, undef, undef, undef, x73, x9, x69, x69, (D_5 0), (D_5 1), x73, undef, undef, undef, undef, x87, x9, x80, x80, (D_6 0), (D_6 1), x84, x84, (D_7 0), x87, undef, undef, undef, undef, x98, x9, x94, x94, (D_8 0), (D_8 1), x98, undef] ++ [undef, undef, undef, undef, undef, undef, undef, undef, undef, undef, undef, undef, undef, undef, undef, undef, undef, undef, undef, undef, undef, undef, undef, undef, undef]).toArray, []⟩) (by kernel_rfl) ?_
                                  refine wp_if rfl H (fun H => ?_) (fun H => ?_)
                                  · refine wp_seq ?_
                                    refine lwp_list ?_
                                    refine ls_move (x := x9) (by kernel_rfl) (by kernel_rfl) ?_
                                    refine ls_p (d := some 100) (by kernel_rfl) (by kernel_rfl) (p_sub (by kernel_rfl) (by kernel_rfl) H) (fun x100 H => ?_)
                                    refine ls_p (d := some 101) (by kernel_rfl) (by kernel_rfl) (p_ixb Try.underlying9 (by kernel_rfl) (by kernel_rfl) H) (fun x101 H => ?_)
                                    refine ls_d (d := some 102) (by kernel_rfl) (by kernel_rfl) HA_18 (d_slit (zc := #[.int .u8 0]) Try.underlying54 Try.sizeOf5 (by decide) (.inr ⟨by decide, _, Try.zeroValue5, (by kernel_rfl)⟩) (by kernel_rfl) (by kernel_rfl) H) (fun x102 h_9 w_19 H HA_19 => ?_)
                                    refine ls_assign (x := x102) (by kernel_rfl) (by kernel_rfl) ?_
                                    refine ls_nil ?_
                                    refine then_normal ?_
                                    refine fr_eq (b := ⟨([x0, x1, x2, undef, x102, x9, x13, x17, x8, x9, x10, x11, x12, x13, x14, x15, x16, x17, x24, x9, x20, x20, (D 0), (D 1), x24, undef, undef, undef, undef, undef, x36, x9, x32, x32, (D_1 0), (D_1 1), x36, undef, undef, undef, undef, x46, x9, x43, x43, (D_2 0), x46, undef, x53, x9] ++ [x50, x50, (D_3 0), x53, undef, undef, x62, x9, x58, x58, (D_4 0), (D_4 1), x62, undef, undef, undef, undef, x73, x9, x69, x69, (D_5 0), (D_5 1), x73, undef, undef, undef, undef, x87, x9, x80, x80, (D_6 0), (D_6 1), x84, x84, (D_7 0), x87, undef, undef, undef, undef, x98, x9, x94, x94, (D_8 0), (D_8 1), x98, x9] ++ [x100, x101, x102, undef, undef, undef, undef, undef, undef, undef, undef, undef, undef, undef, undef, undef, undef, undef, undef, undef, undef, undef, undef, undef, undef]).toArray, []⟩) (by kernel_rfl) ?_
                                    refine wp_ret ?_
                                    refine block_ret ?_
                                    refine then_ret ?_
                                    exact end1 (Try.results38) (by kernel_rfl) (by kernel_rfl) HA_19 H _ (.inr rfl)
                                  · refine wp_seq ?_
                                    refine lwp_list ?_
                                    refine ls_move (x := x9) (by kernel_rfl) (by kernel_rfl) ?_
                                    refine ls_p (d := some 105) (by kernel_rfl) (by kernel_rfl) (p_sGe (by kernel_rfl) (by kernel_rfl) H) (fun x105 H => ?_)
                                    refine ls_move (x := x105) (by kernel_rfl) (by kernel_rfl) ?_
                                    refine ls_and [(), (), ()] (fun K a w => ∃ (D_9 : Nat → Value) (x109 : Value), a = ⟨([x0, x1, x2, undef, (.slice none 0 0), x9, x13, x17, x8, x9, x10, x11, x12, x13, x14, x15, x16, x17, x24, x9, x20, x20, (D 0), (D 1), x24, undef, undef, undef, undef, undef, x36, x9, x32, x32, (D_1 0), (D_1 1), x36, undef, undef, undef, undef, x46, x9, x43, x43, (D_2 0), x46, undef, x53, x9] ++ [x50, x50, (D_3 0), x53, undef, undef, x62, x9, x58, x58, (D_4 0), (D_4 1), x62, undef, undef, undef, undef, x73, x9, x69, x69, (D_5 0), (D_5 1), x73, undef, undef, undef, undef, x87, x9, x80, x80, (D_6 0), (D_6 1), x84, x84, (D_7 0), x87, undef, undef, undef, undef, x98, x9, x94, x94, (D_8 0), (D_8 1), x98, undef] ++ [undef, undef, undef, undef, x9, x105, x105, (D_9 0), (D_9 1), x109, undef, undef, undef, undef, undef, undef, undef, undef, undef, undef, undef, undef, undef, undef, undef]).toArray, []⟩ ∧ At w0 w h ∧ K x109) H (fun hb_1 H => ?_) (fun hb_1 H => ?_) ?_
                                    · refine ls_move (x := x9) (by rw [hb_1]; kernel_rfl) (by kernel_rfl) ?_
                                      refine ls_p (d := some 108) (by kernel_rfl) (by rw [hb_1]; kernel_rfl) (p_sLe (by kernel_rfl) (by kernel_rfl) H) (fun x108 H => ?_)
                                      refine ls_pick_t (x := x108) (by kernel_rfl) (by rw [hb_1]; kernel_rfl) (by kernel_rfl) ?_
                                      refine ls_nil ?_
                                      refine then_normal ?_
                                      exact ⟨(fun i => ([x9, x108]).getD i undef), x108, by kernel_rfl, HA_18, H⟩
                                    · refine ls_skip (d := some 107) (by kernel_rfl) (by rw [hb_1]; kernel_rfl) ?_
                                      refine ls_skip (d := some 108) (by kernel_rfl) (by rw [hb_1]; kernel_rfl) ?_
                                      refine ls_pick_f (y := (.bool false)) (by kernel_rfl) (by rw [hb_1]; kernel_rfl) (by kernel_rfl) ?_
                                      refine ls_nil ?_
                                      refine then_normal ?_
                                      exact ⟨(fun i => ([undef, undef]).getD i undef), (.bool false), by kernel_rfl, HA_18, H⟩
                                    · rintro _ w_20 ⟨D_9, x109, rfl, HA_20, H⟩
                                      refine ls_assign (x := x109) (by kernel_rfl) (by kernel_rfl) ?_
                                      refine ls_nil ?_
                                      refine then_normal ?_
                                      refine fr_eq (b := ⟨([x0, x1, x2, undef, (.slice none 0 0), x9, x13, x17, x8, x9, x10, x11, x12, x13, x14, x15, x16, x17, x24, x9, x20, x20, (D 0), (D 1), x24, undef, undef, undef, undef, undef, x36, x9, x32, x32, (D_1 0), (D_1 1), x36, undef, undef, undef, undef, x46, x9, x43, x43, (D_2 0), x46, undef, x53, x9] ++ [x50, x50, (D_3 0), x53, undef, undef, x62, x9, x58, x58, (D_4 0), (D_4 1), x62, undef, undef, undef, undef, x73, x9, x69, x69, (D_5 0), (D_5 1), x73, undef, undef, undef, undef, x87, x9, x80, x80, (D_6 0), (D_6 1), x84, x84, (D_7 0), x87, undef, undef, undef, undef, x98, x9, x94, x94, (D_8 0), (D_8 1), x98, undef] ++ [undef, undef, undef, x109, x9, x105, x105, (D_9 0), (D_9 1), x109, undef, undef, undef, undef, undef, undef, undef, undef, undef, undef, undef, undef, undef, undef, undef]).toArray, []⟩) (by kernel_rfl) ?_
                                      refine wp_if rfl H (fun H => ?_) (fun H => ?_)
                                      · refine wp_seq ?_
                                        refine lwp_list ?_
                                        refine ls_move (x := x9) (by kernel_rfl) (by kernel_rfl) ?_
                                        refine ls_p (d := some 111) (by kernel_rfl) (by kernel_rfl) (p_sub (by kernel_rfl) (by kernel_rfl) H) (fun x111 H => ?_)
                                        refine ls_p (d := some 112) (by kernel_rfl) (by kernel_rfl) (p_ixb Try.underlying9 (by kernel_rfl) (by kernel_rfl) H) (fun x112 H => ?_)
                                        refine ls_d (d := some 113) (by kernel_rfl) (by kernel_rfl) HA_20 (d_slit (zc := #[.int .u8 0]) Try.underlying54 Try.sizeOf5 (by decide) (.inr ⟨by decide, _, Try.zeroValue5, (by kernel_rfl)⟩) (by kernel_rfl) (by kernel_rfl) H) (fun x113 h_10 w_21 H HA_21 => ?_)
                                        refine ls_assign (x := x113) (by kernel_rfl) (by kernel_rfl) ?_
                                        refine ls_nil ?_
                                        refine then_normal ?_
                                        refine fr_eq (b := ⟨([x0, x1, x2, undef, x113, x9, x13, x17, x8, x9, x10, x11, x12, x13, x14, x15, x16, x17, x24, x9, x20, x20, (D 0), (D 1), x24, undef, undef, undef, undef, undef, x36, x9, x32, x32, (D_1 0), (D_1 1), x36, undef, undef, undef, undef, x46, x9, x43, x43, (D_2 0), x46, undef, x53, x9] ++ [x50, x50, (D_3 0), x53, undef, undef, x62, x9, x58, x58, (D_4 0), (D_4 1), x62, undef, undef, undef, undef, x73, x9, x69, x69, (D_5 0), (D_5 1), x73, undef, undef, undef, undef, x87, x9, x80, x80, (D_6 0), (D_6 1), x84, x84, (D_7 0), x87, undef, undef, undef, undef, x98, x9, x94, x94, (D_8 0), (D_8 1), x98, undef] ++ [undef, undef, undef, x109, x9, x105, x105, (D_9 0), (D_9 1), x109, x9, x111, x112, x113, undef, undef, undef, undef, undef, undef, undef, undef, undef, undef, undef]).toArray, []⟩) (by kernel_rfl) ?_
                                        refine wp_ret ?_
                                        refine block_ret ?_
                                        refine then_ret ?_
                                        exact end1 (Try.results38) (by kernel_rfl) (by kernel_rfl) HA_21 H _ (.inr rfl)
                                      · refine wp_seq ?_
                                        refine lwp_list ?_
                                        refine ls_move (x := x9) (by kernel_rfl) (by kernel_rfl) ?_
                                        refine ls_p (d := some 116) (by kernel_rfl) (by kernel_rfl) (p_sGe (by kernel_rfl) (by kernel_rfl) H) (fun x116 H => ?_)
                                        refine ls_move (x := x116) (by kernel_rfl) (by kernel_rfl) ?_
                                        refine ls_and [(), (), ()] (fun K a w => ∃ (D_10 : Nat → Value) (x120 : Value), a = ⟨([x0, x1, x2, undef, (.slice none 0 0), x9, x13, x17, x8, x9, x10, x11, x12, x13, x14, x15, x16, x17, x24, x9, x20, x20, (D 0), (D 1), x24, undef, undef, undef, undef, undef, x36, x9, x32, x32, (D_1 0), (D_1 1), x36, undef, undef, undef, undef, x46, x9, x43, x43, (D_2 0), x46, undef, x53, x9] ++ [x50, x50, (D_3 0), x53, undef, undef, x62, x9, x58, x58, (D_4 0), (D_4 1), x62, undef, undef, undef, undef, x73, x9, x69, x69, (D_5 0), (D_5 1), x73, undef, undef, undef, undef, x87, x9, x80, x80, (D_6 0), (D_6 1), x84, x84, (D_7 0), x87, undef, undef, undef, undef, x98, x9, x94, x94, (D_8 0), (D_8 1), x98, undef] ++ [undef, undef, undef, x109, x9, x105, x105, (D_9 0), (D_9 1), x109, undef, undef, undef, undef, undef, x9, x116, x116, (D_10 0), (D_10 1), x120, undef, undef, undef, undef]).toArray, []⟩ ∧ At w0 w h ∧ K x120) H (fun hb H => ?_) (fun hb H => ?_) ?_
                                        · refine ls_move (x := x9) (by rw [hb]; kernel_rfl) (by kernel_rfl) ?_
                                          refine ls_p (d := some 119) (by kernel_rfl) (by rw [hb]; kernel_rfl) (p_sLe (by kernel_rfl) (by kernel_rfl) H) (fun x119 H => ?_)
                                          refine ls_pick_t (x := x119) (by kernel_rfl) (by rw [hb]; kernel_rfl) (by kernel_rfl) ?_
                                          refine ls_nil ?_
                                          refine then_normal ?_
                                          exact ⟨(fun i => ([x9, x119]).getD i undef), x119, by kernel_rfl, HA_20, H⟩
                                        · refine ls_skip (d := some 118) (by kernel_rfl) (by rw [hb]; kernel_rfl) ?_
                                          refine ls_skip (d := some 119) (by kernel_rfl) (by rw [hb]; kernel_rfl) ?_
                                          refine ls_pick_f (y := (.bool false)) (by kernel_rfl) (by rw [hb]; kernel_rfl) (by kernel_rfl) ?_
                                          refine ls_nil ?_
                                          refine then_normal ?_
                                          exact ⟨(fun i => ([undef, undef]).getD i undef), (.bool false), by kernel_rfl, HA_20, H⟩
                                        · rintro _ w_22 ⟨D_10, x120, rfl, HA_22, H⟩
                                          refine ls_assign (x := x120) (by kernel_rfl) (by kernel_rfl) ?_
                                          refine ls_nil ?_
                                          refine then_normal ?_
                                          refine fr_eq (b := ⟨([x0, x1, x2, undef, (.slice none 0 0), x9, x13, x17, x8, x9, x10, x11, x12, x13, x14, x15, x16, x17, x24, x9, x20, x20, (D 0), (D 1), x24, undef, undef, undef, undef, undef, x36, x9, x32, x32, (D_1 0), (D_1 1), x36, undef, undef, undef, undef, x46, x9, x43, x43, (D_2 0), x46, undef, x53, x9] ++ [x50, x50, (D_3 0), x53, undef, undef, x62, x9, x58, x58, (D_4 0), (D_4 1), x62, undef, undef, undef, undef, x73, x9, x69, x69, (D_5 0), (D_5 1), x73, undef, undef, undef, undef, x87, x9, x80, x80, (D_6 0), (D_6 1), x84, x84, (D_7 0), x87, undef, undef, undef, undef, x98, x9, x94, x94, (D_8 0), (D_8 1), x98, undef] ++ [undef, undef, undef, x109, x9, x105, x105, (D_9 0), (D_9 1), x109, undef, undef, undef, undef, x120, x9, x116, x116, (D_10 0), (D_10 1), x120, undef, undef, undef, undef]).toArray, []⟩) (by kernel_rfl) ?_
                                          refine wp_if rfl H (fun H => ?_) (fun H => ?_)
                                          · refine wp_seq ?_
                                            refine lwp_list ?_
                                            refine ls_move (x := x9) (by kernel_rfl) (by kernel_rfl) ?_
                                            refine ls_p (d := some 122) (by kernel_rfl) (by kernel_rfl) (p_sub (by kernel_rfl) (by kernel_rfl) H) (fun x122 H => ?_)
                                            refine ls_p (d := some 123) (by kernel_rfl) (by kernel_rfl) (p_ixb Try.underlying9 (by kernel_rfl) (by kernel_rfl) H) (fun x123 H => ?_)
                                            refine ls_d (d := some 124) (by kernel_rfl) (by kernel_rfl) HA_22 (d_slit (zc := #[.int .u8 0]) Try.underlying54 Try.sizeOf5 (by decide) (.inr ⟨by decide, _, Try.zeroValue5, (by kernel_rfl)⟩) (by kernel_rfl) (by kernel_rfl) H) (fun x124 h_11 w_23 H HA_23 => ?_)
                                            refine ls_assign (x := x124) (by kernel_rfl) (by kernel_rfl) ?_
                                            refine ls_nil ?_
                                            refine then_normal ?_
                                            refine fr_eq (b := ⟨([x0, x1, x2, undef, x124, x9, x13, x17, x8, x9, x10, x11, x12, x13, x14, x15, x16, x17, x24, x9, x20, x20, (D 0), (D 1), x24, undef, undef, undef, undef, undef, x36, x9, x32, x32, (D_1 0), (D_1 1), x36, undef, undef, undef, undef, x46, x9, x43, x43, (D_2 0), x46, undef, x53, x9] ++ [x50, x50, (D_3 0), x53, undef, undef, x62, x9, x58, x58, (D_4 0), (D_4 1), x62, undef, undef, undef, undef, x73, x9, x69, x69, (D_5 0), (D_5 1), x73, undef, undef, undef, undef, x87, x9, x80, x80, (D_6 0), (D_6 1), x84, x84, (D_7 0), x87, undef, undef, undef, undef, x98, x9, x94, x94, (D_8 0), (D_8 1), x98, undef] ++ [undef, undef, undef, x109, x9, x105, x105, (D_9 0), (D_9 1), x109, undef, undef, undef, undef, x120, x9, x116, x116, (D_10 0), (D_10 1), x120, x9, x122, x123, x124]).toArray, []⟩) (by kernel_rfl) ?_
                                            refine wp_ret ?_
                                            refine block_ret ?_
                                            refine then_ret ?_
                                            exact end1 (Try.results38) (by kernel_rfl) (by kernel_rfl) HA_23 H _ (.inr rfl)
                                          · refine wp_skip ?_
                                            refine block_normal ?_
                                            refine then_normal ?_
                                            refine fr_eq (b := ⟨([x0, x1, x2, undef, (.slice none 0 0), x9, x13, x17, x8, x9, x10, x11, x12, x13, x14, x15, x16, x17, x24, x9, x20, x20, (D 0), (D 1), x24, undef, undef, undef, undef, undef, x36, x9, x32, x32, (D_1 0), (D_1 1), x36, undef, undef, undef, undef, x46, x9, x43, x43, (D_2 0), x46, undef, x53, x9] ++ [x50, x50, (D_3 0), x53, undef, undef, x62, x9, x58, x58, (D_4 0), (D_4 1), x62, undef, undef, undef, undef, x73, x9, x69, x69, (D_5 0), (D_5 1), x73, undef, undef, undef, undef, x87, x9, x80, x80, (D_6 0), (D_6 1), x84, x84, (D_7 0), x87, undef, undef, undef, undef, x98, x9, x94, x94, (D_8 0), (D_8 1), x98, undef] ++ [undef, undef, undef, x109, x9, x105, x105, (D_9 0), (D_9 1), x109, undef, undef, undef, undef, x120, x9, x116, x116, (D_10 0), (D_10 1), x120, undef, undef, undef, undef]).toArray, []⟩) (by kernel_rfl) ?_
                                            refine wp_seq ?_
                                            refine lwp_list ?_
                                            refine ls_assign (x := (.slice none 0 0)) (by kernel_rfl) (by kernel_rfl) ?_
                                            refine ls_nil ?_
                                            refine then_normal ?_
                                            refine fr_eq (b := ⟨([x0, x1, x2, undef, (.slice none 0 0), x9, x13, x17, x8, x9, x10, x11, x12, x13, x14, x15, x16, x17, x24, x9, x20, x20, (D 0), (D 1), x24, undef, undef, undef, undef, undef, x36, x9, x32, x32, (D_1 0), (D_1 1), x36, undef, undef, undef, undef, x46, x9, x43, x43, (D_2 0), x46, undef, x53, x9] ++ [x50, x50, (D_3 0), x53, undef, undef, x62, x9, x58, x58, (D_4 0), (D_4 1), x62, undef, undef, undef, undef, x73, x9, x69, x69, (D_5 0), (D_5 1), x73, undef, undef, undef, undef, x87, x9, x80, x80, (D_6 0), (D_6 1), x84, x84, (D_7 0), x87, undef, undef, undef, undef, x98, x9, x94, x94, (D_8 0), (D_8 1), x98, undef] ++ [undef, undef, undef, x109, x9, x105, x105, (D_9 0), (D_9 1), x109, undef, undef, undef, undef, x120, x9, x116, x116, (D_10 0), (D_10 1), x120, undef, undef, undef, undef]).toArray, []⟩) (by kernel_rfl) ?_
                                            refine wp_ret ?_
                                            exact end1 (Try.results38) (by kernel_rfl) (by kernel_rfl) HA_22 H _ (.inr rfl)

end Go.Proofs.Ytbgipcikkedloaa
