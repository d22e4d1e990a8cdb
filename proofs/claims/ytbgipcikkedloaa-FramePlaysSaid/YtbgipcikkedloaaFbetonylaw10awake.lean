/- The shallow reading of one function, and that the function does it. Written by a program. -/
import Derived.Test.YtbgipcikkedloaaFnC
set_option linter.unusedVariables false
namespace Go.Proofs.Ytbgipcikkedloaa
open Go Go.HW

def betonylaw10_awake_S (h : Heap) (R : Value → Heap → Prop) : Prop :=
  frame_New_c (.int .i64 2) (.int .i64 1) h fun x2 h => 
  sNeqNil x2 fun x4 =>
  sAndH x4 h (fun k_4 =>
  sBuild #[.int .i32 0, .int .i64 0, .int .i64 0, .int .i64 0] [(0, 1, (.int .i32 97))] fun x7 =>
  frame_Frame_Put_c x2 (.int .i64 0) (.int .i64 0) x7 h fun x8 h_10 => 
  k_4 x8 h_10) fun x9 h_1 =>
  sAndH x9 h_1 (fun k_3 =>
  sBuild #[.int .i32 0, .int .i64 0, .int .i64 0, .int .i64 0] [(0, 1, (.int .i32 98))] fun x12 =>
  frame_Frame_Put_c x2 (.int .i64 0) (.int .i64 0) x12 h_1 fun x13 h_9 => 
  k_3 x13 h_9) fun x14 h_2 =>
  sAndH x14 h_2 (fun k_2 =>
  frame_Frame_Notes_c x2 h_2 fun x17 h_8 => 
  sLen x17 fun x18 =>
  sEq x18 (.int .i64 2) fun x19 =>
  k_2 x19 h_8) fun x20 h_3 =>
  sAndH x20 h_3 (fun k_1 =>
  frame_Frame_Notes_c x2 h_3 fun x23 h_7 => 
  sLen x23 fun x24 =>
  sEq x24 (.int .i64 0) fun x25 =>
  k_1 x25 h_7) fun x26 h_4 =>
  sAndH x26 h_4 (fun k =>
  sNil x2 fun x29 =>
  sOff x29 0 fun x30 =>
  sLd h_4 x30 fun x31 =>
  grid_Grid_At_c x31 (.int .i64 0) (.int .i64 0) h_4 fun x32 h_6 => 
  sFld x32 0 fun x33 =>
  sEq x33 (.int .i32 98) fun x34 =>
  k x34 h_6) fun x35 h_5 =>
  R x35 h_5
set_option maxRecDepth 100000 in
theorem betonylaw10_awake_runs {h : Heap} {R : Value → Heap → Prop} (H : betonylaw10_awake_S  h R) : betonylaw10_awake_c  h R := by
  unfold betonylaw10_awake_S at H
  refine runs_of (b := ⟨#[undef, undef, undef, undef, undef, undef, undef, undef, undef, undef, undef, undef, undef, undef, undef, undef, undef, undef, undef, undef, undef, undef, undef, undef, undef, undef, undef, undef, undef, undef, undef, undef, undef, undef, undef, undef], []⟩) Try.call10 Try.func10 rfl (by kernel_rfl) (fun w0 HA => ?_)
  refine wp_seq ?_
  refine lwp_list ?_
  refine ls_assign (x := (.bool false)) (by kernel_rfl) (by kernel_rfl) ?_
  refine ls_nil ?_
  refine then_normal ?_
  refine fr_eq (b := ⟨#[(.bool false), undef, undef, undef, undef, undef, undef, undef, undef, undef, undef, undef, undef, undef, undef, undef, undef, undef, undef, undef, undef, undef, undef, undef, undef, undef, undef, undef, undef, undef, undef, undef, undef, undef, undef, undef], []⟩) (by kernel_rfl) ?_
  refine wp_seq ?_
  refine lwp_list ?_
  refine ls_d (d := some 2) (by kernel_rfl) (by kernel_rfl) HA (d_call (by kernel_rfl) (by kernel_rfl) H) (fun x2 h w H HA => ?_)
  refine ls_assign (x := x2) (by kernel_rfl) (by kernel_rfl) ?_
  refine ls_nil ?_
  refine then_normal ?_
  refine fr_eq (b := ⟨#[(.bool false), x2, x2, undef, undef, undef, undef, undef, undef, undef, undef, undef, undef, undef, undef, undef, undef, undef, undef, undef, undef, undef, undef, undef, undef, undef, undef, undef, undef, undef, undef, undef, undef, undef, undef, undef], []⟩) (by kernel_rfl) ?_
  refine wp_seq ?_
  refine lwp_list ?_
  refine ls_move (x := x2) (by kernel_rfl) (by kernel_rfl) ?_
  refine ls_p (d := some 4) (by kernel_rfl) (by kernel_rfl) (p_neqNil Try.underlying24 (by kernel_rfl) (by kernel_rfl) H) (fun x4 H => ?_)
  refine ls_move (x := x4) (by kernel_rfl) (by kernel_rfl) ?_
  refine ls_andh [(), (), (), ()] (fun K a w => ∃ (D : Nat → Value) (x9 : Value) (h_1 : Heap), a = ⟨#[(.bool false), x2, x2, x2, x4, x4, (D 0), (D 1), (D 2), x9, undef, undef, undef, undef, undef, undef, undef, undef, undef, undef, undef, undef, undef, undef, undef, undef, undef, undef, undef, undef, undef, undef, undef, undef, undef, undef], []⟩ ∧ At w0 w h_1 ∧ K x9 h_1) H (fun hb_4 H => ?_) (fun hb_4 H => ?_) ?_
  · refine ls_move (x := x2) (by rw [hb_4]; kernel_rfl) (by kernel_rfl) ?_
    refine ls_p (d := some 7) (by kernel_rfl) (by rw [hb_4]; kernel_rfl) (p_lit (pl := [(0, 1), (1, 3)]) Try.zeroValue32 Try.underlying32 ⟨(by kernel_rfl), Try.sizeOf21, (by kernel_rfl), Try.sizeOf30, trivial⟩ (by kernel_rfl) (by kernel_rfl) H) (fun x7 H => ?_)
    refine ls_d (d := some 8) (by kernel_rfl) (by rw [hb_4]; kernel_rfl) HA (d_call (by kernel_rfl) (by kernel_rfl) H) (fun x8 h_10 w_10 H HA_10 => ?_)
    refine ls_fr (b := ⟨#[(.bool false), x2, x2, x2, x4, x4, x2, x7, x8, undef, undef, undef, undef, undef, undef, undef, undef, undef, undef, undef, undef, undef, undef, undef, undef, undef, undef, undef, undef, undef, undef, undef, undef, undef, undef, undef], []⟩) (by kernel_rfl) ?_
    refine ls_pick_t (x := x8) (by kernel_rfl) (by rw [hb_4]; kernel_rfl) (by kernel_rfl) ?_
    refine ls_nil ?_
    refine then_normal ?_
    exact ⟨(fun i => ([x2, x7, x8]).getD i undef), x8, h_10, by kernel_rfl, HA_10, H⟩
  · refine ls_skip (d := some 6) (by kernel_rfl) (by rw [hb_4]; kernel_rfl) ?_
    refine ls_skip (d := some 7) (by kernel_rfl) (by rw [hb_4]; kernel_rfl) ?_
    refine ls_skip (d := some 8) (by kernel_rfl) (by rw [hb_4]; kernel_rfl) ?_
    refine ls_fr (b := ⟨#[(.bool false), x2, x2, x2, x4, x4, undef, undef, undef, undef, undef, undef, undef, undef, undef, undef, undef, undef, undef, undef, undef, undef, undef, undef, undef, undef, undef, undef, undef, undef, undef, undef, undef, undef, undef, undef], []⟩) (by kernel_rfl) ?_
    refine ls_pick_f (y := (.bool false)) (by kernel_rfl) (by rw [hb_4]; kernel_rfl) (by kernel_rfl) ?_
    refine ls_nil ?_
    refine then_normal ?_
    exact ⟨(fun i => ([undef, undef, undef]).getD i undef), (.bool false), h, by kernel_rfl, HA, H⟩
  · rintro _ w_1 ⟨D, x9, h_1, rfl, HA_1, H⟩
    refine ls_move (x := x9) (by kernel_rfl) (by kernel_rfl) ?_
    refine ls_andh [(), (), (), ()] (fun K a w => ∃ (D_1 : Nat → Value) (x14 : Value) (h_2 : Heap), a = ⟨#[(.bool false), x2, x2, x2, x4, x4, (D 0), (D 1), (D 2), x9, x9, (D_1 0), (D_1 1), (D_1 2), x14, undef, undef, undef, undef, undef, undef, undef, undef, undef, undef, undef, undef, undef, undef, undef, undef, undef, undef, undef, undef, undef], []⟩ ∧ At w0 w h_2 ∧ K x14 h_2) H (fun hb_3 H => ?_) (fun hb_3 H => ?_) ?_
    · refine ls_move (x := x2) (by rw [hb_3]; kernel_rfl) (by kernel_rfl) ?_
      refine ls_p (d := some 12) (by kernel_rfl) (by rw [hb_3]; kernel_rfl) (p_lit (pl := [(0, 1), (1, 3)]) Try.zeroValue32 Try.underlying32 ⟨(by kernel_rfl), Try.sizeOf21, (by kernel_rfl), Try.sizeOf30, trivial⟩ (by kernel_rfl) (by kernel_rfl) H) (fun x12 H => ?_)
      refine ls_d (d := some 13) (by kernel_rfl) (by rw [hb_3]; kernel_rfl) HA_1 (d_call (by kernel_rfl) (by kernel_rfl) H) (fun x13 h_9 w_9 H HA_9 => ?_)
      refine ls_pick_t (x := x13) (by kernel_rfl) (by rw [hb_3]; kernel_rfl) (by kernel_rfl) ?_
      refine ls_nil ?_
      refine then_normal ?_
      exact ⟨(fun i => ([x2, x12, x13]).getD i undef), x13, h_9, by kernel_rfl, HA_9, H⟩
    · refine ls_skip (d := some 11) (by kernel_rfl) (by rw [hb_3]; kernel_rfl) ?_
      refine ls_skip (d := some 12) (by kernel_rfl) (by rw [hb_3]; kernel_rfl) ?_
      refine ls_skip (d := some 13) (by kernel_rfl) (by rw [hb_3]; kernel_rfl) ?_
      refine ls_pick_f (y := (.bool false)) (by kernel_rfl) (by rw [hb_3]; kernel_rfl) (by kernel_rfl) ?_
      refine ls_nil ?_
      refine then_normal ?_
      exact ⟨(fun i => ([undef, undef, undef]).getD i undef), (.bool false), h_1, by kernel_rfl, HA_1, H⟩
    · rintro _ w_2 ⟨D_1, x14, h_2, rfl, HA_2, H⟩
      refine ls_move (x := x14) (by kernel_rfl) (by kernel_rfl) ?_
      refine ls_andh [(), (), (), (), ()] (fun K a w => ∃ (D_2 : Nat → Value) (x20 : Value) (h_3 : Heap), a = ⟨#[(.bool false), x2, x2, x2, x4, x4, (D 0), (D 1), (D 2), x9, x9, (D_1 0), (D_1 1), (D_1 2), x14, x14, (D_2 0), (D_2 1), (D_2 2), (D_2 3), x20, undef, undef, undef, undef, undef, undef, undef, undef, undef, undef, undef, undef, undef, undef, undef], []⟩ ∧ At w0 w h_3 ∧ K x20 h_3) H (fun hb_2 H => ?_) (fun hb_2 H => ?_) ?_
      · refine ls_move (x := x2) (by rw [hb_2]; kernel_rfl) (by kernel_rfl) ?_
        refine ls_d (d := some 17) (by kernel_rfl) (by rw [hb_2]; kernel_rfl) HA_2 (d_call (by kernel_rfl) (by kernel_rfl) H) (fun x17 h_8 w_8 H HA_8 => ?_)
        refine ls_p (d := some 18) (by kernel_rfl) (by rw [hb_2]; kernel_rfl) (p_len Try.underlying22 (by kernel_rfl) H) (fun x18 H => ?_)
        refine ls_p (d := some 19) (by kernel_rfl) (by rw [hb_2]; kernel_rfl) (p_sEq (by kernel_rfl) (by kernel_rfl) H) (fun x19 H => ?_)
        refine ls_pick_t (x := x19) (by kernel_rfl) (by rw [hb_2]; kernel_rfl) (by kernel_rfl) ?_
        refine ls_nil ?_
        refine then_normal ?_
        exact ⟨(fun i => ([x2, x17, x18, x19]).getD i undef), x19, h_8, by kernel_rfl, HA_8, H⟩
      · refine ls_skip (d := some 16) (by kernel_rfl) (by rw [hb_2]; kernel_rfl) ?_
        refine ls_skip (d := some 17) (by kernel_rfl) (by rw [hb_2]; kernel_rfl) ?_
        refine ls_skip (d := some 18) (by kernel_rfl) (by rw [hb_2]; kernel_rfl) ?_
        refine ls_skip (d := some 19) (by kernel_rfl) (by rw [hb_2]; kernel_rfl) ?_
        refine ls_pick_f (y := (.bool false)) (by kernel_rfl) (by rw [hb_2]; kernel_rfl) (by kernel_rfl) ?_
        refine ls_nil ?_
        refine then_normal ?_
        exact ⟨(fun i => ([undef, undef, undef, undef]).getD i undef), (.bool false), h_2, by kernel_rfl, HA_2, H⟩
      · rintro _ w_3 ⟨D_2, x20, h_3, rfl, HA_3, H⟩
        refine ls_move (x := x20) (by kernel_rfl) (by kernel_rfl) ?_
        refine ls_andh [(), (), (), (), ()] (fun K a w => ∃ (D_3 : Nat → Value) (x26 : Value) (h_4 : Heap), a = ⟨#[(.bool false), x2, x2, x2, x4, x4, (D 0), (D 1), (D 2), x9, x9, (D_1 0), (D_1 1), (D_1 2), x14, x14, (D_2 0), (D_2 1), (D_2 2), (D_2 3), x20, x20, (D_3 0), (D_3 1), (D_3 2), (D_3 3), x26, undef, undef, undef, undef, undef, undef, undef, undef, undef], []⟩ ∧ At w0 w h_4 ∧ K x26 h_4) H (fun hb_1 H => ?_) (fun hb_1 H => ?_) ?_
        · refine ls_move (x := x2) (by rw [hb_1]; kernel_rfl) (by kernel_rfl) ?_
          refine ls_d (d := some 23) (by kernel_rfl) (by rw [hb_1]; kernel_rfl) HA_3 (d_call (by kernel_rfl) (by kernel_rfl) H) (fun x23 h_7 w_7 H HA_7 => ?_)
          refine ls_p (d := some 24) (by kernel_rfl) (by rw [hb_1]; kernel_rfl) (p_len Try.underlying22 (by kernel_rfl) H) (fun x24 H => ?_)
          refine ls_p (d := some 25) (by kernel_rfl) (by rw [hb_1]; kernel_rfl) (p_sEq (by kernel_rfl) (by kernel_rfl) H) (fun x25 H => ?_)
          refine ls_pick_t (x := x25) (by kernel_rfl) (by rw [hb_1]; kernel_rfl) (by kernel_rfl) ?_
          refine ls_nil ?_
          refine then_normal ?_
          exact ⟨(fun i => ([x2, x23, x24, x25]).getD i undef), x25, h_7, by kernel_rfl, HA_7, H⟩
        · refine ls_skip (d := some 22) (by kernel_rfl) (by rw [hb_1]; kernel_rfl) ?_
          refine ls_skip (d := some 23) (by kernel_rfl) (by rw [hb_1]; kernel_rfl) ?_
          refine ls_skip (d := some 24) (by kernel_rfl) (by rw [hb_1]; kernel_rfl) ?_
          refine ls_skip (d := some 25) (by kernel_rfl) (by rw [hb_1]; kernel_rfl) ?_
          refine ls_pick_f (y := (.bool false)) (by kernel_rfl) (by rw [hb_1]; kernel_rfl) (by kernel_rfl) ?_
          refine ls_nil ?_
          refine then_normal ?_
          exact ⟨(fun i => ([undef, undef, undef, undef]).getD i undef), (.bool false), h_3, by kernel_rfl, HA_3, H⟩
        · rintro _ w_4 ⟨D_3, x26, h_4, rfl, HA_4, H⟩
          refine ls_move (x := x26) (by kernel_rfl) (by kernel_rfl) ?_
          refine ls_andh [(), (), (), (), (), (), (), ()] (fun K a w => ∃ (D_4 : Nat → Value) (x35 : Value) (h_5 : Heap), a = ⟨#[(.bool false), x2, x2, x2, x4, x4, (D 0), (D 1), (D 2), x9, x9, (D_1 0), (D_1 1), (D_1 2), x14, x14, (D_2 0), (D_2 1), (D_2 2), (D_2 3), x20, x20, (D_3 0), (D_3 1), (D_3 2), (D_3 3), x26, x26, (D_4 0), (D_4 1), (D_4 2), (D_4 3), (D_4 4), (D_4 5), (D_4 6), x35], []⟩ ∧ At w0 w h_5 ∧ K x35 h_5) H (fun hb H => ?_) (fun hb H => ?_) ?_
          · refine ls_move (x := x2) (by rw [hb]; kernel_rfl) (by kernel_rfl) ?_
            refine ls_p (d := some 29) (by kernel_rfl) (by rw [hb]; kernel_rfl) (p_nil (by kernel_rfl) H) (fun x29 H => ?_)
            refine ls_p (d := some 30) (by kernel_rfl) (by rw [hb]; kernel_rfl) (p_off Try.underlying38 rfl (fun w => ⟨_, Try.sizeOf26 w⟩) rfl (by kernel_rfl) H) (fun x30 H => ?_)
            refine ls_y (d := some 31) (by kernel_rfl) (by rw [hb]; kernel_rfl) HA_4 (y_ld Try.isAgg26 (by kernel_rfl) H) (fun x31 H => ?_)
            refine ls_d (d := some 32) (by kernel_rfl) (by rw [hb]; kernel_rfl) HA_4 (d_call (by kernel_rfl) (by kernel_rfl) H) (fun x32 h_6 w_6 H HA_6 => ?_)
            refine ls_fr (b := ⟨#[(.bool false), x2, x2, x2, x4, x4, (D 0), (D 1), (D 2), x9, x9, (D_1 0), (D_1 1), (D_1 2), x14, x14, (D_2 0), (D_2 1), (D_2 2), (D_2 3), x20, x20, (D_3 0), (D_3 1), (D_3 2), (D_3 3), x26, x26, x2, x29, x30, x31, x32, undef, undef, undef], []⟩) (by kernel_rfl) ?_
            refine ls_p (d := some 33) (by kernel_rfl) (by rw [hb]; kernel_rfl) (p_fld Try.underlying32 rfl Try.isAgg21 rfl (by kernel_rfl) H) (fun x33 H => ?_)
            refine ls_p (d := some 34) (by kernel_rfl) (by rw [hb]; kernel_rfl) (p_sEq (by kernel_rfl) (by kernel_rfl) H) (fun x34 H => ?_)
            refine ls_pick_t (x := x34) (by kernel_rfl) (by rw [hb]; kernel_rfl) (by kernel_rfl) ?_
            refine ls_nil ?_
            refine then_normal ?_
            exact ⟨(fun i => ([x2, x29, x30, x31, x32, x33, x34]).getD i undef), x34, h_6, by kernel_rfl, HA_6, H⟩
          · refine ls_skip (d := some 28) (by kernel_rfl) (by rw [hb]; kernel_rfl) ?_
            refine ls_skip (d := some 29) (by kernel_rfl) (by rw [hb]; kernel_rfl) ?_
            refine ls_skip (d := some 30) (by kernel_rfl) (by rw [hb]; kernel_rfl) ?_
            refine ls_skip (d := some 31) (by kernel_rfl) (by rw [hb]; kernel_rfl) ?_
            refine ls_skip (d := some 32) (by kernel_rfl) (by rw [hb]; kernel_rfl) ?_
            refine ls_fr (b := ⟨#[(.bool false), x2, x2, x2, x4, x4, (D 0), (D 1), (D 2), x9, x9, (D_1 0), (D_1 1), (D_1 2), x14, x14, (D_2 0), (D_2 1), (D_2 2), (D_2 3), x20, x20, (D_3 0), (D_3 1), (D_3 2), (D_3 3), x26, x26, undef, undef, undef, undef, undef, undef, undef, undef], []⟩) (by kernel_rfl) ?_
            refine ls_skip (d := some 33) (by kernel_rfl) (by rw [hb]; kernel_rfl) ?_
            refine ls_skip (d := some 34) (by kernel_rfl) (by rw [hb]; kernel_rfl) ?_
            refine ls_pick_f (y := (.bool false)) (by kernel_rfl) (by rw [hb]; kernel_rfl) (by kernel_rfl) ?_
            refine ls_nil ?_
            refine then_normal ?_
            exact ⟨(fun i => ([undef, undef, undef, undef, undef, undef, undef]).getD i undef), (.bool false), h_4, by kernel_rfl, HA_4, H⟩
          · rintro _ w_5 ⟨D_4, x35, h_5, rfl, HA_5, H⟩
            refine ls_assign (x := x35) (by kernel_rfl) (by kernel_rfl) ?_
            refine ls_nil ?_
            refine then_normal ?_
            refine fr_eq (b := ⟨#[x35, x2, x2, x2, x4, x4, (D 0), (D 1), (D 2), x9, x9, (D_1 0), (D_1 1), (D_1 2), x14, x14, (D_2 0), (D_2 1), (D_2 2), (D_2 3), x20, x20, (D_3 0), (D_3 1), (D_3 2), (D_3 3), x26, x26, (D_4 0), (D_4 1), (D_4 2), (D_4 3), (D_4 4), (D_4 5), (D_4 6), x35], []⟩) (by kernel_rfl) ?_
            refine wp_ret ?_
            exact end1 (Try.results10) (by kernel_rfl) (by kernel_rfl) HA_5 H _ (.inr rfl)

end Go.Proofs.Ytbgipcikkedloaa
