/- The shallow reading of one function, and that the function does it. Written by a program. -/
import Derived.Test.YtbgipcikkedloaaFnC
set_option linter.unusedVariables false
namespace Go.Proofs.Ytbgipcikkedloaa
open Go Go.HW

def scan_Decoder_Feed_j1 (R : Value → Heap → Prop) (x4 : Value) (h_2 : Heap) : Prop :=
  sBuild #[.int .i64 0, .int .i64 0] [] fun x38 =>
  sStN h_2 x4 x38 2 fun h_3 => 
  sLdN h_3 x4 2 fun r4 =>
  R (.tuple #[r4, (.bool false)]) h_3
def scan_Decoder_Feed_S (x0 x1 : Value) (h : Heap) (R : Value → Heap → Prop) : Prop :=
  sNew h #[.int .i64 0, .int .i64 0] 52 fun x4 h => 
  sConv .i64 x1 fun x9 =>
  sRem .i64 x9 (.int .i64 128) fun x10 =>
  sGe x10 (.int .i64 96) fun x12 =>
  sAnd x12 (fun k_1 =>
  sLe x10 (.int .i64 98) fun x15 =>
  k_1 x15) fun x16 =>
  sIf x16 (sSub .i64 x10 (.int .i64 96) fun x18 =>
  sShl .i64 (.int .i64 1) x18 fun x19 =>
  sNil x0 fun x21 =>
  sOff x21 0 fun x22 =>
  sLd h x22 fun x23 =>
  sBits .andNot .i64 x23 x19 fun x25 =>
  sNil x0 fun x26 =>
  sOff x26 0 fun x27 =>
  sSt h x27 x25 fun h_1 => 
  sLt x1 (.int .u8 128) fun x29 =>
  sIf x29 (sNil x0 fun x31 =>
  sOff x31 0 fun x32 =>
  sLd h_1 x32 fun x33 =>
  sBits .or .i64 x33 x19 fun x35 =>
  sNil x0 fun x36 =>
  sOff x36 0 fun x37 =>
  sSt h_1 x37 x35 fun h_4 => 
  scan_Decoder_Feed_j1 R x4 h_4) (scan_Decoder_Feed_j1 R x4 h_1)) (sGe x1 (.int .u8 128) fun x40 =>
  sOrH x40 h (fun k =>
  scan_known_c x10 h fun x43 h_8 => 
  sNot x43 fun x44 =>
  k x44 h_8) fun x45 h_5 =>
  sIf x45 (sBuild #[.int .i64 0, .int .i64 0] [] fun x46 =>
  sStN h_5 x4 x46 2 fun h_6 => 
  sLdN h_6 x4 2 fun r4_1 =>
  R (.tuple #[r4_1, (.bool false)]) h_6) (sNil x0 fun x49 =>
  sOff x49 0 fun x50 =>
  sLd h_5 x50 fun x51 =>
  sBuild #[.int .i64 0, .int .i64 0] [(0, 1, x10), (1, 1, x51)] fun x52 =>
  sStN h_5 x4 x52 2 fun h_7 => 
  sLdN h_7 x4 2 fun r4_2 =>
  R (.tuple #[r4_2, (.bool true)]) h_7))
set_option maxRecDepth 100000 in
theorem scan_Decoder_Feed_runs {x0 x1 : Value} {h : Heap} {R : Value → Heap → Prop} (H : scan_Decoder_Feed_S x0 x1 h R) : scan_Decoder_Feed_c x0 x1 h R := by
  unfold scan_Decoder_Feed_S at H
  refine runs_of (b := ⟨#[x0, x1, undef, undef, undef, undef, undef, undef, undef, undef, undef, undef, undef, undef, undef, undef, undef, undef, undef, undef, undef, undef, undef, undef, undef, undef, undef, undef, undef, undef, undef, undef, undef, undef, undef, undef, undef, undef, undef, undef, undef, undef, undef, undef, undef, undef, undef, undef, undef, undef, undef, undef, undef], []⟩) Try.call27 Try.func27 rfl (by kernel_rfl) (fun w0 HA => ?_)
  refine wp_seq ?_
  refine lwp_list ?_
  refine ls_d (d := some 4) (by kernel_rfl) (by kernel_rfl) HA (d_alloc Try.zeroValue52 H) (fun x4 h w H HA => ?_)
  refine ls_assign (x := (.bool false)) (by kernel_rfl) (by kernel_rfl) ?_
  refine ls_nil ?_
  refine then_normal ?_
  refine fr_eq (b := ⟨#[x0, x1, undef, undef, x4, (.bool false), undef, undef, undef, undef, undef, undef, undef, undef, undef, undef, undef, undef, undef, undef, undef, undef, undef, undef, undef, undef, undef, undef, undef, undef, undef, undef, undef, undef, undef, undef, undef, undef, undef, undef, undef, undef, undef, undef, undef, undef, undef, undef, undef, undef, undef, undef, undef], []⟩) (by kernel_rfl) ?_
  refine wp_seq ?_
  refine lwp_list ?_
  refine ls_move (x := x1) (by kernel_rfl) (by kernel_rfl) ?_
  refine ls_p (d := some 9) (by kernel_rfl) (by kernel_rfl) (p_conv Try.underlying5 Try.underlying3 (by kernel_rfl) H) (fun x9 H => ?_)
  refine ls_p (d := some 10) (by kernel_rfl) (by kernel_rfl) (p_rem (by kernel_rfl) (by kernel_rfl) H) (fun x10 H => ?_)
  refine ls_assign (x := x10) (by kernel_rfl) (by kernel_rfl) ?_
  refine ls_nil ?_
  refine then_normal ?_
  refine fr_eq (b := ⟨#[x0, x1, undef, undef, x4, (.bool false), x10, undef, x1, x9, x10, undef, undef, undef, undef, undef, undef, undef, undef, undef, undef, undef, undef, undef, undef, undef, undef, undef, undef, undef, undef, undef, undef, undef, undef, undef, undef, undef, undef, undef, undef, undef, undef, undef, undef, undef, undef, undef, undef, undef, undef, undef, undef], []⟩) (by kernel_rfl) ?_
  refine wp_seq ?_
  refine wp_seq ?_
  refine lwp_list ?_
  refine ls_move (x := x10) (by kernel_rfl) (by kernel_rfl) ?_
  refine ls_p (d := some 12) (by kernel_rfl) (by kernel_rfl) (p_sGe (by kernel_rfl) (by kernel_rfl) H) (fun x12 H => ?_)
  refine ls_move (x := x12) (by kernel_rfl) (by kernel_rfl) ?_
  refine ls_and [(), (), ()] (fun K a w => ∃ (D : Nat → Value) (x16 : Value), a = ⟨#[x0, x1, undef, undef, x4, (.bool false), x10, undef, x1, x9, x10, x10, x12, x12, (D 0), (D 1), x16, undef, undef, undef, undef, undef, undef, undef, undef, undef, undef, undef, undef, undef, undef, undef, undef, undef, undef, undef, undef, undef, undef, undef, undef, undef, undef, undef, undef, undef, undef, undef, undef, undef, undef, undef, undef], []⟩ ∧ At w0 w h ∧ K x16) H (fun hb_1 H => ?_) (fun hb_1 H => ?_) ?_
  · refine ls_move (x := x10) (by rw [hb_1]; kernel_rfl) (by kernel_rfl) ?_
    refine ls_p (d := some 15) (by kernel_rfl) (by rw [hb_1]; kernel_rfl) (p_sLe (by kernel_rfl) (by kernel_rfl) H) (fun x15 H => ?_)
    refine ls_pick_t (x := x15) (by kernel_rfl) (by rw [hb_1]; kernel_rfl) (by kernel_rfl) ?_
    refine ls_nil ?_
    refine then_normal ?_
    exact ⟨(fun i => ([x10, x15]).getD i undef), x15, by kernel_rfl, HA, H⟩
  · refine ls_skip (d := some 14) (by kernel_rfl) (by rw [hb_1]; kernel_rfl) ?_
    refine ls_skip (d := some 15) (by kernel_rfl) (by rw [hb_1]; kernel_rfl) ?_
    refine ls_pick_f (y := (.bool false)) (by kernel_rfl) (by rw [hb_1]; kernel_rfl) (by kernel_rfl) ?_
    refine ls_nil ?_
    refine then_normal ?_
    exact ⟨(fun i => ([undef, undef]).getD i undef), (.bool false), by kernel_rfl, HA, H⟩
  · rintro _ w_1 ⟨D, x16, rfl, HA_1, H⟩
    refine ls_nil ?_
    refine then_normal ?_
    refine fr_eq (b := ⟨#[x0, x1, undef, undef, x4, (.bool false), x10, undef, x1, x9, x10, x10, x12, x12, (D 0), (D 1), x16, undef, undef, undef, undef, undef, undef, undef, undef, undef, undef, undef, undef, undef, undef, undef, undef, undef, undef, undef, undef, undef, undef, undef, undef, undef, undef, undef, undef, undef, undef, undef, undef, undef, undef, undef, undef], []⟩) (by kernel_rfl) ?_
    refine wp_if rfl H (fun H => ?_) (fun H => ?_)
    · refine wp_seq ?_
      refine lwp_list ?_
      refine ls_move (x := x10) (by kernel_rfl) (by kernel_rfl) ?_
      refine ls_p (d := some 18) (by kernel_rfl) (by kernel_rfl) (p_sub (by kernel_rfl) (by kernel_rfl) H) (fun x18 H => ?_)
      refine ls_p (d := some 19) (by kernel_rfl) (by kernel_rfl) (p_shl (by kernel_rfl) (by kernel_rfl) H) (fun x19 H => ?_)
      refine ls_assign (x := x19) (by kernel_rfl) (by kernel_rfl) ?_
      refine ls_nil ?_
      refine then_normal ?_
      refine fr_eq (b := ⟨#[x0, x1, undef, undef, x4, (.bool false), x10, x19, x1, x9, x10, x10, x12, x12, (D 0), (D 1), x16, x10, x18, x19, undef, undef, undef, undef, undef, undef, undef, undef, undef, undef, undef, undef, undef, undef, undef, undef, undef, undef, undef, undef, undef, undef, undef, undef, undef, undef, undef, undef, undef, undef, undef, undef, undef], []⟩) (by kernel_rfl) ?_
      refine wp_seq ?_
      refine lwp_list ?_
      refine ls_move (x := x0) (by kernel_rfl) (by kernel_rfl) ?_
      refine ls_p (d := some 21) (by kernel_rfl) (by kernel_rfl) (p_nil (by kernel_rfl) H) (fun x21 H => ?_)
      refine ls_p (d := some 22) (by kernel_rfl) (by kernel_rfl) (p_off Try.underlying59 rfl (fun w => ⟨_, Try.sizeOf3 w⟩) rfl (by kernel_rfl) H) (fun x22 H => ?_)
      refine ls_y (d := some 23) (by kernel_rfl) (by kernel_rfl) HA_1 (y_ld Try.isAgg3 (by kernel_rfl) H) (fun x23 H => ?_)
      refine ls_move (x := x19) (by kernel_rfl) (by kernel_rfl) ?_
      refine ls_p (d := some 25) (by kernel_rfl) (by kernel_rfl) (p_bits (by decide) (by kernel_rfl) (by kernel_rfl) H) (fun x25 H => ?_)
      refine ls_fr (b := ⟨#[x0, x1, undef, undef, x4, (.bool false), x10, x19, x1, x9, x10, x10, x12, x12, (D 0), (D 1), x16, x10, x18, x19, x0, x21, x22, x23, x19, x25, undef, undef, undef, undef, undef, undef, undef, undef, undef, undef, undef, undef, undef, undef, undef, undef, undef, undef, undef, undef, undef, undef, undef, undef, undef, undef, undef], []⟩) (by kernel_rfl) ?_
      refine ls_p (d := some 26) (by kernel_rfl) (by kernel_rfl) (p_nil (by kernel_rfl) H) (fun x26 H => ?_)
      refine ls_p (d := some 27) (by kernel_rfl) (by kernel_rfl) (p_off Try.underlying59 rfl (fun w => ⟨_, Try.sizeOf3 w⟩) rfl (by kernel_rfl) H) (fun x27 H => ?_)
      refine ls_d (d := none) (by kernel_rfl) (by kernel_rfl) HA_1 (d_st Try.sizeOf3 (by kernel_rfl) (by kernel_rfl) H) (fun _ h_1 w_2 H HA_2 => ?_)
      refine ls_nil ?_
      refine then_normal ?_
      refine fr_eq (b := ⟨#[x0, x1, undef, undef, x4, (.bool false), x10, x19, x1, x9, x10, x10, x12, x12, (D 0), (D 1), x16, x10, x18, x19, x0, x21, x22, x23, x19, x25, x26, x27, undef, undef, undef, undef, undef, undef, undef, undef, undef, undef, undef, undef, undef, undef, undef, undef, undef, undef, undef, undef, undef, undef, undef, undef, undef], []⟩) (by kernel_rfl) ?_
      refine wp_seq ?_
      refine wp_seq ?_
      refine lwp_list ?_
      refine ls_move (x := x1) (by kernel_rfl) (by kernel_rfl) ?_
      refine ls_p (d := some 29) (by kernel_rfl) (by kernel_rfl) (p_sLt (by kernel_rfl) (by kernel_rfl) H) (fun x29 H => ?_)
      refine ls_nil ?_
      refine then_normal ?_
      refine fr_eq (b := ⟨#[x0, x1, undef, undef, x4, (.bool false), x10, x19, x1, x9, x10, x10, x12, x12, (D 0), (D 1), x16, x10, x18, x19, x0, x21, x22, x23, x19, x25, x26, x27, x1, x29, undef, undef, undef, undef, undef, undef, undef, undef, undef, undef, undef, undef, undef, undef, undef, undef, undef, undef, undef, undef, undef, undef, undef], []⟩) (by kernel_rfl) ?_
      refine wp_join (fun a w => ∃ (D_1 : Nat → Value) (h_2 : Heap), a = ⟨#[x0, x1, undef, undef, x4, (.bool false), x10, x19, x1, x9, x10, x10, x12, x12, (D 0), (D 1), x16, x10, x18, x19, x0, x21, x22, x23, x19, x25, x26, x27, x1, x29, (D_1 0), (D_1 1), (D_1 2), (D_1 3), (D_1 4), (D_1 5), (D_1 6), (D_1 7), undef, undef, undef, undef, undef, undef, undef, undef, undef, undef, undef, undef, undef, undef, undef], []⟩ ∧ At w0 w h_2 ∧ scan_Decoder_Feed_j1 R x4 h_2) ?_ ?_
      · refine wp_if rfl H (fun H => ?_) (fun H => ?_)
        · refine lwp_list ?_
          refine ls_move (x := x0) (by kernel_rfl) (by kernel_rfl) ?_
          refine ls_p (d := some 31) (by kernel_rfl) (by kernel_rfl) (p_nil (by kernel_rfl) H) (fun x31 H => ?_)
          refine ls_p (d := some 32) (by kernel_rfl) (by kernel_rfl) (p_off Try.underlying59 rfl (fun w => ⟨_, Try.sizeOf3 w⟩) rfl (by kernel_rfl) H) (fun x32 H => ?_)
          refine ls_y (d := some 33) (by kernel_rfl) (by kernel_rfl) HA_2 (y_ld Try.isAgg3 (by kernel_rfl) H) (fun x33 H => ?_)
          refine ls_move (x := x19) (by kernel_rfl) (by kernel_rfl) ?_
          refine ls_p (d := some 35) (by kernel_rfl) (by kernel_rfl) (p_bits (by decide) (by kernel_rfl) (by kernel_rfl) H) (fun x35 H => ?_)
          refine ls_fr (b := ⟨#[x0, x1, undef, undef, x4, (.bool false), x10, x19, x1, x9, x10, x10, x12, x12, (D 0), (D 1), x16, x10, x18, x19, x0, x21, x22, x23, x19, x25, x26, x27, x1, x29, x0, x31, x32, x33, x19, x35, undef, undef, undef, undef, undef, undef, undef, undef, undef, undef, undef, undef, undef, undef, undef, undef, undef], []⟩) (by kernel_rfl) ?_
          refine ls_p (d := some 36) (by kernel_rfl) (by kernel_rfl) (p_nil (by kernel_rfl) H) (fun x36 H => ?_)
          refine ls_p (d := some 37) (by kernel_rfl) (by kernel_rfl) (p_off Try.underlying59 rfl (fun w => ⟨_, Try.sizeOf3 w⟩) rfl (by kernel_rfl) H) (fun x37 H => ?_)
          refine ls_d (d := none) (by kernel_rfl) (by kernel_rfl) HA_2 (d_st Try.sizeOf3 (by kernel_rfl) (by kernel_rfl) H) (fun _ h_4 w_5 H HA_5 => ?_)
          refine ls_nil ?_
          exact ⟨(fun i => ([x0, x31, x32, x33, x19, x35, x36, x37]).getD i undef), h_4, by kernel_rfl, HA_5, H⟩
        · refine wp_skip ?_
          exact ⟨(fun i => ([undef, undef, undef, undef, undef, undef, undef, undef]).getD i undef), h_1, by kernel_rfl, HA_2, H⟩
      · rintro _ w_3 ⟨D_1, h_2, rfl, HA_3, H⟩
        unfold scan_Decoder_Feed_j1 at H
        refine then_normal ?_
        refine fr_eq (b := ⟨#[x0, x1, undef, undef, x4, (.bool false), x10, x19, x1, x9, x10, x10, x12, x12, (D 0), (D 1), x16, x10, x18, x19, x0, x21, x22, x23, x19, x25, x26, x27, x1, x29, (D_1 0), (D_1 1), (D_1 2), (D_1 3), (D_1 4), (D_1 5), (D_1 6), (D_1 7), undef, undef, undef, undef, undef, undef, undef, undef, undef, undef, undef, undef, undef, undef, undef], []⟩) (by kernel_rfl) ?_
        refine wp_seq ?_
        refine lwp_list ?_
        refine ls_p (d := some 38) (by kernel_rfl) (by kernel_rfl) (p_lit (pl := [(0, 1), (1, 1)]) Try.zeroValue52 Try.underlying52 ⟨(by kernel_rfl), Try.sizeOf3, (by kernel_rfl), Try.sizeOf3, trivial⟩ (by kernel_rfl) (by kernel_rfl) H) (fun x38 H => ?_)
        refine ls_d (d := none) (by kernel_rfl) (by kernel_rfl) HA_3 (d_stn Try.sizeOf52 (by kernel_rfl) (by kernel_rfl) H) (fun _ h_3 w_4 H HA_4 => ?_)
        refine ls_assign (x := (.bool false)) (by kernel_rfl) (by kernel_rfl) ?_
        refine ls_nil ?_
        refine then_normal ?_
        refine fr_eq (b := ⟨#[x0, x1, undef, undef, x4, (.bool false), x10, x19, x1, x9, x10, x10, x12, x12, (D 0), (D 1), x16, x10, x18, x19, x0, x21, x22, x23, x19, x25, x26, x27, x1, x29, (D_1 0), (D_1 1), (D_1 2), (D_1 3), (D_1 4), (D_1 5), (D_1 6), (D_1 7), x38, undef, undef, undef, undef, undef, undef, undef, undef, undef, undef, undef, undef, undef, undef], []⟩) (by kernel_rfl) ?_
        refine wp_ret ?_
        refine then_ret ?_
        obtain ⟨r4, hr4, H⟩ := ld_n Try.isAgg52 Try.sizeOf52 H
        exact endR (vs := [r4, (.bool false)]) (Try.results27) (by kernel_rfl) ⟨⟨_, (by kernel_rfl), hr4⟩, (by kernel_rfl), trivial⟩ HA_4 H _ (.inr rfl)
    · refine wp_skip ?_
      refine then_normal ?_
      refine fr_eq (b := ⟨#[x0, x1, undef, undef, x4, (.bool false), x10, undef, x1, x9, x10, x10, x12, x12, (D 0), (D 1), x16, undef, undef, undef, undef, undef, undef, undef, undef, undef, undef, undef, undef, undef, undef, undef, undef, undef, undef, undef, undef, undef, undef, undef, undef, undef, undef, undef, undef, undef, undef, undef, undef, undef, undef, undef, undef], []⟩) (by kernel_rfl) ?_
      refine wp_seq ?_
      refine wp_seq ?_
      refine lwp_list ?_
      refine ls_move (x := x1) (by kernel_rfl) (by kernel_rfl) ?_
      refine ls_p (d := some 40) (by kernel_rfl) (by kernel_rfl) (p_sGe (by kernel_rfl) (by kernel_rfl) H) (fun x40 H => ?_)
      refine ls_move (x := x40) (by kernel_rfl) (by kernel_rfl) ?_
      refine ls_orh [(), (), (), ()] (fun K a w => ∃ (D_2 : Nat → Value) (x45 : Value) (h_5 : Heap), a = ⟨#[x0, x1, undef, undef, x4, (.bool false), x10, undef, x1, x9, x10, x10, x12, x12, (D 0), (D 1), x16, undef, undef, undef, undef, undef, undef, undef, undef, undef, undef, undef, undef, undef, undef, undef, undef, undef, undef, undef, undef, undef, undef, x1, x40, x40, (D_2 0), (D_2 1), (D_2 2), x45, undef, undef, undef, undef, undef, undef, undef], []⟩ ∧ At w0 w h_5 ∧ K x45 h_5) H (fun hb H => ?_) (fun hb H => ?_) ?_
      · refine ls_move (x := x10) (by rw [hb]; kernel_rfl) (by kernel_rfl) ?_
        refine ls_d (d := some 43) (by kernel_rfl) (by rw [hb]; kernel_rfl) HA_1 (d_call (by kernel_rfl) (by kernel_rfl) H) (fun x43 h_8 w_9 H HA_9 => ?_)
        refine ls_p (d := some 44) (by kernel_rfl) (by rw [hb]; kernel_rfl) (p_not (by kernel_rfl) H) (fun x44 H => ?_)
        refine ls_fr (b := ⟨#[x0, x1, undef, undef, x4, (.bool false), x10, undef, x1, x9, x10, x10, x12, x12, (D 0), (D 1), x16, undef, undef, undef, undef, undef, undef, undef, undef, undef, undef, undef, undef, undef, undef, undef, undef, undef, undef, undef, undef, undef, undef, x1, x40, x40, x10, x43, x44, undef, undef, undef, undef, undef, undef, undef, undef], []⟩) (by kernel_rfl) ?_
        refine ls_pick_f (y := x44) (by kernel_rfl) (by rw [hb]; kernel_rfl) (by kernel_rfl) ?_
        refine ls_nil ?_
        refine then_normal ?_
        exact ⟨(fun i => ([x10, x43, x44]).getD i undef), x44, h_8, by kernel_rfl, HA_9, H⟩
      · refine ls_skip (d := some 42) (by kernel_rfl) (by rw [hb]; kernel_rfl) ?_
        refine ls_skip (d := some 43) (by kernel_rfl) (by rw [hb]; kernel_rfl) ?_
        refine ls_skip (d := some 44) (by kernel_rfl) (by rw [hb]; kernel_rfl) ?_
        refine ls_fr (b := ⟨#[x0, x1, undef, undef, x4, (.bool false), x10, undef, x1, x9, x10, x10, x12, x12, (D 0), (D 1), x16, undef, undef, undef, undef, undef, undef, undef, undef, undef, undef, undef, undef, undef, undef, undef, undef, undef, undef, undef, undef, undef, undef, x1, x40, x40, undef, undef, undef, undef, undef, undef, undef, undef, undef, undef, undef], []⟩) (by kernel_rfl) ?_
        refine ls_pick_t (x := (.bool true)) (by kernel_rfl) (by rw [hb]; kernel_rfl) (by kernel_rfl) ?_
        refine ls_nil ?_
        refine then_normal ?_
        exact ⟨(fun i => ([undef, undef, undef]).getD i undef), (.bool true), h, by kernel_rfl, HA_1, H⟩
      · rintro _ w_6 ⟨D_2, x45, h_5, rfl, HA_6, H⟩
        refine ls_nil ?_
        refine then_normal ?_
        refine fr_eq (b := ⟨#[x0, x1, undef, undef, x4, (.bool false), x10, undef, x1, x9, x10, x10, x12, x12, (D 0), (D 1), x16, undef, undef, undef, undef, undef, undef, undef, undef, undef, undef, undef, undef, undef, undef, undef, undef, undef, undef, undef, undef, undef, undef, x1, x40, x40, (D_2 0), (D_2 1), (D_2 2), x45, undef, undef, undef, undef, undef, undef, undef], []⟩) (by kernel_rfl) ?_
        refine wp_if rfl H (fun H => ?_) (fun H => ?_)
        · refine wp_seq ?_
          refine lwp_list ?_
          refine ls_p (d := some 46) (by kernel_rfl) (by kernel_rfl) (p_lit (pl := [(0, 1), (1, 1)]) Try.zeroValue52 Try.underlying52 ⟨(by kernel_rfl), Try.sizeOf3, (by kernel_rfl), Try.sizeOf3, trivial⟩ (by kernel_rfl) (by kernel_rfl) H) (fun x46 H => ?_)
          refine ls_d (d := none) (by kernel_rfl) (by kernel_rfl) HA_6 (d_stn Try.sizeOf52 (by kernel_rfl) (by kernel_rfl) H) (fun _ h_6 w_7 H HA_7 => ?_)
          refine ls_assign (x := (.bool false)) (by kernel_rfl) (by kernel_rfl) ?_
          refine ls_nil ?_
          refine then_normal ?_
          refine fr_eq (b := ⟨#[x0, x1, undef, undef, x4, (.bool false), x10, undef, x1, x9, x10, x10, x12, x12, (D 0), (D 1), x16, undef, undef, undef, undef, undef, undef, undef, undef, undef, undef, undef, undef, undef, undef, undef, undef, undef, undef, undef, undef, undef, undef, x1, x40, x40, (D_2 0), (D_2 1), (D_2 2), x45, x46, undef, undef, undef, undef, undef, undef], []⟩) (by kernel_rfl) ?_
          refine wp_ret ?_
          refine then_ret ?_
          obtain ⟨r4_1, hr4_1, H⟩ := ld_n Try.isAgg52 Try.sizeOf52 H
          exact endR (vs := [r4_1, (.bool false)]) (Try.results27) (by kernel_rfl) ⟨⟨_, (by kernel_rfl), hr4_1⟩, (by kernel_rfl), trivial⟩ HA_7 H _ (.inr rfl)
        · refine wp_skip ?_
          refine then_normal ?_
          refine fr_eq (b := ⟨#[x0, x1, undef, undef, x4, (.bool false), x10, undef, x1, x9, x10, x10, x12, x12, (D 0), (D 1), x16, undef, undef, undef, undef, undef, undef, undef, undef, undef, undef, undef, undef, undef, undef, undef, undef, undef, undef, undef, undef, undef, undef, x1, x40, x40, (D_2 0), (D_2 1), (D_2 2), x45, undef, undef, undef, undef, undef, undef, undef], []⟩) (by kernel_rfl) ?_
          refine wp_seq ?_
          refine lwp_list ?_
          refine ls_move (x := x10) (by kernel_rfl) (by kernel_rfl) ?_
          refine ls_move (x := x0) (by kernel_rfl) (by kernel_rfl) ?_
          refine ls_p (d := some 49) (by kernel_rfl) (by kernel_rfl) (p_nil (by kernel_rfl) H) (fun x49 H => ?_)
          refine ls_p (d := some 50) (by kernel_rfl) (by kernel_rfl) (p_off Try.underlying59 rfl (fun w => ⟨_, Try.sizeOf3 w⟩) rfl (by kernel_rfl) H) (fun x50 H => ?_)
          refine ls_y (d := some 51) (by kernel_rfl) (by kernel_rfl) HA_6 (y_ld Try.isAgg3 (by kernel_rfl) H) (fun x51 H => ?_)
          refine ls_p (d := some 52) (by kernel_rfl) (by kernel_rfl) (p_lit (pl := [(0, 1), (1, 1)]) Try.zeroValue52 Try.underlying52 ⟨(by kernel_rfl), Try.sizeOf3, (by kernel_rfl), Try.sizeOf3, trivial⟩ (by kernel_rfl) (by kernel_rfl) H) (fun x52 H => ?_)
          refine ls_fr (b := ⟨#[x0, x1, undef, undef, x4, (.bool false), x10, undef, x1, x9, x10, x10, x12, x12, (D 0), (D 1), x16, undef, undef, undef, undef, undef, undef, undef, undef, undef, undef, undef, undef, undef, undef, undef, undef, undef, undef, undef, undef, undef, undef, x1, x40, x40, (D_2 0), (D_2 1), (D_2 2), x45, undef, x10, x0, x49, x50, x51, x52], []⟩) (by kernel_rfl) ?_
          refine ls_d (d := none) (by kernel_rfl) (by kernel_rfl) HA_6 (d_stn Try.sizeOf52 (by kernel_rfl) (by kernel_rfl) H) (fun _ h_7 w_8 H HA_8 => ?_)
          refine ls_assign (x := (.bool true)) (by kernel_rfl) (by kernel_rfl) ?_
          refine ls_nil ?_
          refine then_normal ?_
          refine fr_eq (b := ⟨#[x0, x1, undef, undef, x4, (.bool true), x10, undef, x1, x9, x10, x10, x12, x12, (D 0), (D 1), x16, undef, undef, undef, undef, undef, undef, undef, undef, undef, undef, undef, undef, undef, undef, undef, undef, undef, undef, undef, undef, undef, undef, x1, x40, x40, (D_2 0), (D_2 1), (D_2 2), x45, undef, x10, x0, x49, x50, x51, x52], []⟩) (by kernel_rfl) ?_
          refine wp_ret ?_
          obtain ⟨r4_2, hr4_2, H⟩ := ld_n Try.isAgg52 Try.sizeOf52 H
          exact endR (vs := [r4_2, (.bool true)]) (Try.results27) (by kernel_rfl) ⟨⟨_, (by kernel_rfl), hr4_2⟩, (by kernel_rfl), trivial⟩ HA_8 H _ (.inr rfl)

end Go.Proofs.Ytbgipcikkedloaa
