/- The shallow reading of one function, and that the function does it. Written by a program. -/
import Derived.Test.YtbgipcikkedloaaFnC
set_option linter.unusedVariables false
namespace Go.Proofs.Ytbgipcikkedloaa
open Go Go.HW

def frame_Frame_Put_S (x0 x1 x2 x3 : Value) (h : Heap) (R : Value → Heap → Prop) : Prop :=
  sBox h x3 32 fun x7 h => 
  sNil x0 fun x13 =>
  sOff x13 0 fun x14 =>
  sLd h x14 fun x15 =>
  grid_Grid_Size_c x15 h fun x16 h_1 => 
  sTup x16 0 fun x17 =>
  sTup x16 1 fun x18 =>
  sLt x1 (.int .i64 0) fun x20 =>
  sOr x20 (fun k_2 =>
  sLt x2 (.int .i64 0) fun x23 =>
  k_2 x23) fun x24 =>
  sOr x24 (fun k_1 =>
  sGe x1 x17 fun x28 =>
  k_1 x28) fun x29 =>
  sOr x29 (fun k =>
  sGe x2 x18 fun x33 =>
  k x33) fun x34 =>
  sIf x34 (R (.bool false) h_1) (∃ C : Heap → Prop, C h_1 ∧ (sNil x0 fun x37 =>
  sOff x37 1 fun x38 =>
  sLdC C x38 fun x39 =>
  sLdNC C x7 4 fun x42 =>
  sBuild #[.int .i64 0, .int .i64 0, .int .i32 0, .int .i64 0, .int .i64 0, .int .i64 0] [(0, 1, x1), (1, 1, x2), (2, 4, x42)] fun x43 =>
  sSlit h_1 #[.int .i64 0, .int .i64 0, .int .i32 0, .int .i64 0, .int .i64 0, .int .i64 0] [(0, 6, x43)] 34 1 fun x44 h_2 => C h_2 ∧ (
  sApp h_2 x39 x44 #[.int .i64 0, .int .i64 0, .int .i32 0, .int .i64 0, .int .i64 0, .int .i64 0] 34 48 fun x45 h_3 => 
  sNil x0 fun x46 =>
  sOff x46 1 fun x47 =>
  sSt h_3 x47 x45 fun h_4 => 
  sNil x0 fun x49 =>
  sOff x49 0 fun x50 =>
  sLd h_4 x50 fun x51 =>
  sLdN h_4 x7 4 fun x54 =>
  grid_Grid_Set_c x51 x1 x2 x54 h_4 fun x55 h_5 => 
  R x55 h_5)))
set_option maxRecDepth 100000 in
theorem frame_Frame_Put_runs {x0 x1 x2 x3 : Value} {h : Heap} {R : Value → Heap → Prop} (H : frame_Frame_Put_S x0 x1 x2 x3 h R) : frame_Frame_Put_c x0 x1 x2 x3 h R := by
  unfold frame_Frame_Put_S at H
  refine runs_of (b := ⟨#[x0, x1, x2, x3, undef, undef, undef, undef, undef, undef, undef, undef, undef, undef, undef, undef, undef, undef, undef, undef, undef, undef, undef, undef, undef, undef, undef, undef, undef, undef, undef, undef, undef, undef, undef, undef, undef, undef, undef, undef, undef, undef, undef, undef, undef, undef, undef, undef, undef, undef, undef, undef, undef, undef, undef, undef], []⟩) Try.call13 Try.func13 rfl (by kernel_rfl) (fun w0 HA => ?_)
  refine wp_seq ?_
  refine lwp_list ?_
  refine ls_d (d := some 7) (by kernel_rfl) (by kernel_rfl) HA (d_box (by kernel_rfl) H) (fun x7 h w H HA => ?_)
  refine ls_assign (x := (.bool false)) (by kernel_rfl) (by kernel_rfl) ?_
  refine ls_nil ?_
  refine then_normal ?_
  refine fr_eq (b := ⟨#[x0, x1, x2, x3, undef, undef, undef, x7, (.bool false), undef, undef, undef, undef, undef, undef, undef, undef, undef, undef, undef, undef, undef, undef, undef, undef, undef, undef, undef, undef, undef, undef, undef, undef, undef, undef, undef, undef, undef, undef, undef, undef, undef, undef, undef, undef, undef, undef, undef, undef, undef, undef, undef, undef, undef, undef, undef], []⟩) (by kernel_rfl) ?_
  refine wp_seq ?_
  refine lwp_list ?_
  refine ls_move (x := x0) (by kernel_rfl) (by kernel_rfl) ?_
  refine ls_p (d := some 13) (by kernel_rfl) (by kernel_rfl) (p_nil (by kernel_rfl) H) (fun x13 H => ?_)
  refine ls_p (d := some 14) (by kernel_rfl) (by kernel_rfl) (p_off Try.underlying38 rfl (fun w => ⟨_, Try.sizeOf26 w⟩) rfl (by kernel_rfl) H) (fun x14 H => ?_)
  refine ls_y (d := some 15) (by kernel_rfl) (by kernel_rfl) HA (y_ld Try.isAgg26 (by kernel_rfl) H) (fun x15 H => ?_)
  refine ls_d (d := some 16) (by kernel_rfl) (by kernel_rfl) HA (d_call (by kernel_rfl) (by kernel_rfl) H) (fun x16 h_1 w_1 H HA_1 => ?_)
  refine ls_move (x := x16) (by kernel_rfl) (by kernel_rfl) ?_
  refine ls_fr (b := ⟨#[x0, x1, x2, x3, undef, undef, undef, x7, (.bool false), undef, undef, x16, x0, x13, x14, x15, x16, undef, undef, undef, undef, undef, undef, undef, undef, undef, undef, undef, undef, undef, undef, undef, undef, undef, undef, undef, undef, undef, undef, undef, undef, undef, undef, undef, undef, undef, undef, undef, undef, undef, undef, undef, undef, undef, undef, undef], []⟩) (by kernel_rfl) ?_
  refine ls_p (d := some 17) (by kernel_rfl) (by kernel_rfl) (p_tup (by kernel_rfl) H) (fun x17 H => ?_)
  refine ls_p (d := some 18) (by kernel_rfl) (by kernel_rfl) (p_tup (by kernel_rfl) H) (fun x18 H => ?_)
  refine ls_assign (x := x17) (by kernel_rfl) (by kernel_rfl) ?_
  refine ls_assign (x := x18) (by kernel_rfl) (by kernel_rfl) ?_
  refine ls_nil ?_
  refine then_normal ?_
  refine fr_eq (b := ⟨#[x0, x1, x2, x3, undef, undef, undef, x7, (.bool false), x17, x18, x16, x0, x13, x14, x15, x16, x17, x18, undef, undef, undef, undef, undef, undef, undef, undef, undef, undef, undef, undef, undef, undef, undef, undef, undef, undef, undef, undef, undef, undef, undef, undef, undef, undef, undef, undef, undef, undef, undef, undef, undef, undef, undef, undef, undef], []⟩) (by kernel_rfl) ?_
  refine wp_seq ?_
  refine wp_seq ?_
  refine lwp_list ?_
  refine ls_move (x := x1) (by kernel_rfl) (by kernel_rfl) ?_
  refine ls_p (d := some 20) (by kernel_rfl) (by kernel_rfl) (p_sLt (by kernel_rfl) (by kernel_rfl) H) (fun x20 H => ?_)
  refine ls_move (x := x20) (by kernel_rfl) (by kernel_rfl) ?_
  refine ls_or [(), (), ()] (fun K a w => ∃ (D : Nat → Value) (x24 : Value), a = ⟨#[x0, x1, x2, x3, undef, undef, undef, x7, (.bool false), x17, x18, x16, x0, x13, x14, x15, x16, x17, x18, x1, x20, x20, (D 0), (D 1), x24, undef, undef, undef, undef, undef, undef, undef, undef, undef, undef, undef, undef, undef, undef, undef, undef, undef, undef, undef, undef, undef, undef, undef, undef, undef, undef, undef, undef, undef, undef, undef], []⟩ ∧ At w0 w h_1 ∧ K x24) H (fun hb_2 H => ?_) (fun hb_2 H => ?_) ?_
  · refine ls_move (x := x2) (by rw [hb_2]; kernel_rfl) (by kernel_rfl) ?_
    refine ls_p (d := some 23) (by kernel_rfl) (by rw [hb_2]; kernel_rfl) (p_sLt (by kernel_rfl) (by kernel_rfl) H) (fun x23 H => ?_)
    refine ls_pick_f (y := x23) (by kernel_rfl) (by rw [hb_2]; kernel_rfl) (by kernel_rfl) ?_
    refine ls_nil ?_
    refine then_normal ?_
    exact ⟨(fun i => ([x2, x23]).getD i undef), x23, by kernel_rfl, HA_1, H⟩
  · refine ls_skip (d := some 22) (by kernel_rfl) (by rw [hb_2]; kernel_rfl) ?_
    refine ls_skip (d := some 23) (by kernel_rfl) (by rw [hb_2]; kernel_rfl) ?_
    refine ls_pick_t (x := (.bool true)) (by kernel_rfl) (by rw [hb_2]; kernel_rfl) (by kernel_rfl) ?_
    refine ls_nil ?_
    refine then_normal ?_
    exact ⟨(fun i => ([undef, undef]).getD i undef), (.bool true), by kernel_rfl, HA_1, H⟩
  · rintro _ w_2 ⟨D, x24, rfl, HA_2, H⟩
    refine ls_move (x := x24) (by kernel_rfl) (by kernel_rfl) ?_
    refine ls_or [(), (), (), ()] (fun K a w => ∃ (D_1 : Nat → Value) (x29 : Value), a = ⟨#[x0, x1, x2, x3, undef, undef, undef, x7, (.bool false), x17, x18, x16, x0, x13, x14, x15, x16, x17, x18, x1, x20, x20, (D 0), (D 1), x24, x24, (D_1 0), (D_1 1), (D_1 2), x29, undef, undef, undef, undef, undef, undef, undef, undef, undef, undef, undef, undef, undef, undef, undef, undef, undef, undef, undef, undef, undef, undef, undef, undef, undef, undef], []⟩ ∧ At w0 w h_1 ∧ K x29) H (fun hb_1 H => ?_) (fun hb_1 H => ?_) ?_
    · refine ls_move (x := x1) (by rw [hb_1]; kernel_rfl) (by kernel_rfl) ?_
      refine ls_move (x := x17) (by rw [hb_1]; kernel_rfl) (by kernel_rfl) ?_
      refine ls_p (d := some 28) (by kernel_rfl) (by rw [hb_1]; kernel_rfl) (p_sGe (by kernel_rfl) (by kernel_rfl) H) (fun x28 H => ?_)
      refine ls_pick_f (y := x28) (by kernel_rfl) (by rw [hb_1]; kernel_rfl) (by kernel_rfl) ?_
      refine ls_nil ?_
      refine then_normal ?_
      exact ⟨(fun i => ([x1, x17, x28]).getD i undef), x28, by kernel_rfl, HA_2, H⟩
    · refine ls_skip (d := some 26) (by kernel_rfl) (by rw [hb_1]; kernel_rfl) ?_
      refine ls_skip (d := some 27) (by kernel_rfl) (by rw [hb_1]; kernel_rfl) ?_
      refine ls_skip (d := some 28) (by kernel_rfl) (by rw [hb_1]; kernel_rfl) ?_
      refine ls_pick_t (x := (.bool true)) (by kernel_rfl) (by rw [hb_1]; kernel_rfl) (by kernel_rfl) ?_
      refine ls_nil ?_
      refine then_normal ?_
      exact ⟨(fun i => ([undef, undef, undef]).getD i undef), (.bool true), by kernel_rfl, HA_2, H⟩
    · rintro _ w_3 ⟨D_1, x29, rfl, HA_3, H⟩
      refine ls_move (x := x29) (by kernel_rfl) (by kernel_rfl) ?_
      refine ls_or [(), (), (), ()] (fun K a w => ∃ (D_2 : Nat → Value) (x34 : Value), a = ⟨#[x0, x1, x2, x3, undef, undef, undef, x7, (.bool false), x17, x18, x16, x0, x13, x14, x15, x16, x17, x18, x1, x20, x20, (D 0), (D 1), x24, x24, (D_1 0), (D_1 1), (D_1 2), x29, x29, (D_2 0), (D_2 1), (D_2 2), x34, undef, undef, undef, undef, undef, undef, undef, undef, undef, undef, undef, undef, undef, undef, undef, undef, undef, undef, undef, undef, undef], []⟩ ∧ At w0 w h_1 ∧ K x34) H (fun hb H => ?_) (fun hb H => ?_) ?_
      · refine ls_move (x := x2) (by rw [hb]; kernel_rfl) (by kernel_rfl) ?_
        refine ls_move (x := x18) (by rw [hb]; kernel_rfl) (by kernel_rfl) ?_
        refine ls_p (d := some 33) (by kernel_rfl) (by rw [hb]; kernel_rfl) (p_sGe (by kernel_rfl) (by kernel_rfl) H) (fun x33 H => ?_)
        refine ls_pick_f (y := x33) (by kernel_rfl) (by rw [hb]; kernel_rfl) (by kernel_rfl) ?_
        refine ls_nil ?_
        refine then_normal ?_
        exact ⟨(fun i => ([x2, x18, x33]).getD i undef), x33, by kernel_rfl, HA_3, H⟩
      · refine ls_skip (d := some 31) (by kernel_rfl) (by rw [hb]; kernel_rfl) ?_
        refine ls_skip (d := some 32) (by kernel_rfl) (by rw [hb]; kernel_rfl) ?_
        refine ls_skip (d := some 33) (by kernel_rfl) (by rw [hb]; kernel_rfl) ?_
        refine ls_pick_t (x := (.bool true)) (by kernel_rfl) (by rw [hb]; kernel_rfl) (by kernel_rfl) ?_
        refine ls_nil ?_
        refine then_normal ?_
        exact ⟨(fun i => ([undef, undef, undef]).getD i undef), (.bool true), by kernel_rfl, HA_3, H⟩
      · rintro _ w_4 ⟨D_2, x34, rfl, HA_4, H⟩
        refine ls_nil ?_
        refine then_normal ?_
        refine fr_eq (b := ⟨#[x0, x1, x2, x3, undef, undef, undef, x7, (.bool false), x17, x18, x16, x0, x13, x14, x15, x16, x17, x18, x1, x20, x20, (D 0), (D 1), x24, x24, (D_1 0), (D_1 1), (D_1 2), x29, x29, (D_2 0), (D_2 1), (D_2 2), x34, undef, undef, undef, undef, undef, undef, undef, undef, undef, undef, undef, undef, undef, undef, undef, undef, undef, undef, undef, undef, undef], []⟩) (by kernel_rfl) ?_
        refine wp_if rfl H (fun H => ?_) (fun H => ?_)
        · refine wp_seq ?_
          refine lwp_list ?_
          refine ls_assign (x := (.bool false)) (by kernel_rfl) (by kernel_rfl) ?_
          refine ls_nil ?_
          refine then_normal ?_
          refine fr_eq (b := ⟨#[x0, x1, x2, x3, undef, undef, undef, x7, (.bool false), x17, x18, x16, x0, x13, x14, x15, x16, x17, x18, x1, x20, x20, (D 0), (D 1), x24, x24, (D_1 0), (D_1 1), (D_1 2), x29, x29, (D_2 0), (D_2 1), (D_2 2), x34, undef, undef, undef, undef, undef, undef, undef, undef, undef, undef, undef, undef, undef, undef, undef, undef, undef, undef, undef, undef, undef], []⟩) (by kernel_rfl) ?_
          refine wp_ret ?_
          refine then_ret ?_
          exact end1 (Try.results13) (by kernel_rfl) (by kernel_rfl) HA_4 H _ (.inr rfl)
        · refine wp_skip ?_
          refine then_normal ?_
          refine fr_eq (b := ⟨#[x0, x1, x2, x3, undef, undef, undef, x7, (.bool false), x17, x18, x16, x0, x13, x14, x15, x16, x17, x18, x1, x20, x20, (D 0), (D 1), x24, x24, (D_1 0), (D_1 1), (D_1 2), x29, x29, (D_2 0), (D_2 1), (D_2 2), x34, undef, undef, undef, undef, undef, undef, undef, undef, undef, undef, undef, undef, undef, undef, undef, undef, undef, undef, undef, undef, undef], []⟩) (by kernel_rfl) ?_
          refine wp_seq ?_
          obtain ⟨C, HC, H⟩ := H
          refine lwp_mx (Nat.testBit 9728) (Nat.testBit 512) (Nat.testBit 6511) [0, 0, 2, 6, 14, 0, 0, 0, 224, 480, 1022, 2047, 4095, 8191] C [0, 1, 2, 3, 4, 5, 6, 7, 8, 9, 10, 11, 12, 13] (by kernel_rfl) (by kernel_rfl) (by kernel_rfl) HA_4 HC ?_
          intro w_5 HA_5
          refine lm_al (x := x0) (d := some 35) (by kernel_rfl) rfl (by kernel_rfl) (by kernel_rfl) (al_move (by kernel_rfl)) ?_
          refine lm_al (x := x0) (d := some 36) (by kernel_rfl) rfl (by kernel_rfl) (by kernel_rfl) (al_move (by kernel_rfl)) ?_
          refine lm_p (d := some 37) (by kernel_rfl) rfl (by kernel_rfl) (by kernel_rfl) (p_nil (by kernel_rfl) H) (fun x37 H => ?_)
          refine lm_p (d := some 38) (by kernel_rfl) rfl (by kernel_rfl) (by kernel_rfl) (p_off Try.underlying38 rfl (fun w => ⟨_, Try.sizeOf22 w⟩) rfl (by kernel_rfl) H) (fun x38 H => ?_)
          refine lm_f (d := some 39) (by kernel_rfl) rfl (by kernel_rfl) (by kernel_rfl) (by kernel_rfl) (c_ld Try.isAgg22 (by kernel_rfl) H) (fun x39 H => ?_)
          refine lm_al (x := x1) (d := some 40) (by kernel_rfl) rfl (by kernel_rfl) (by kernel_rfl) (al_move (by kernel_rfl)) ?_
          refine lm_fr (b := ⟨#[x0, x1, x2, x3, undef, undef, undef, x7, (.bool false), x17, x18, x16, x0, x13, x14, x15, x16, x17, x18, x1, x20, x20, (D 0), (D 1), x24, x24, (D_1 0), (D_1 1), (D_1 2), x29, x29, (D_2 0), (D_2 1), (D_2 2), x34, x0, x0, x37, x38, x39, x1, undef, undef, undef, undef, undef, undef, undef, undef, undef, undef, undef, undef, undef, undef, undef], []⟩) (by kernel_rfl) ?_
          refine lm_al (x := x2) (d := some 41) (by kernel_rfl) rfl (by kernel_rfl) (by kernel_rfl) (al_move (by kernel_rfl)) ?_
          refine lm_f (d := some 42) (by kernel_rfl) rfl (by kernel_rfl) (by kernel_rfl) (by kernel_rfl) (c_ldn Try.isAgg32 Try.sizeOf32 (by kernel_rfl) H) (fun x42 H => ?_)
          refine lm_p (d := some 43) (by kernel_rfl) rfl (by kernel_rfl) (by kernel_rfl) (p_lit (pl := [(0, 1), (1, 1), (2, 4)]) Try.zeroValue34 Try.underlying34 ⟨(by kernel_rfl), Try.sizeOf3, (by kernel_rfl), Try.sizeOf3, (by kernel_rfl), Try.sizeOf32, trivial⟩ (by kernel_rfl) (by kernel_rfl) H) (fun x43 H => ?_)
          refine lm_dc (d := some 44) (by kernel_rfl) rfl (by kernel_rfl) (by kernel_rfl) HA_5 (d_slit (zc := #[.int .i64 0, .int .i64 0, .int .i32 0, .int .i64 0, .int .i64 0, .int .i64 0]) Try.underlying22 Try.sizeOf34 (by decide) (.inr ⟨by decide, _, Try.zeroValue34, (by kernel_rfl)⟩) (by kernel_rfl) (by kernel_rfl) H) (fun x44 h_2 w_6 H HA_6 => ?_)
          refine lm_d (d := some 45) (by kernel_rfl) rfl (by kernel_rfl) (by kernel_rfl) (by kernel_rfl) HA_6 (d_app (z := #[.int .i64 0, .int .i64 0, .int .i32 0, .int .i64 0, .int .i64 0, .int .i64 0]) Try.underlying22 Try.underlying22 (.inl ⟨_, rfl⟩) Try.typeInfo34 (by kernel_rfl) Try.sizeOf34 Try.zeroValue34 (by kernel_rfl) (by kernel_rfl) (by kernel_rfl) H) (fun x45 h_3 w_7 H HA_7 => ?_)
          refine lm_p (d := some 46) (by kernel_rfl) rfl (by kernel_rfl) (by kernel_rfl) (p_nil (by kernel_rfl) H) (fun x46 H => ?_)
          refine lm_fr (b := ⟨#[x0, x1, x2, x3, undef, undef, undef, x7, (.bool false), x17, x18, x16, x0, x13, x14, x15, x16, x17, x18, x1, x20, x20, (D 0), (D 1), x24, x24, (D_1 0), (D_1 1), (D_1 2), x29, x29, (D_2 0), (D_2 1), (D_2 2), x34, x0, x0, x37, x38, x39, x1, x2, x42, x43, x44, x45, x46, undef, undef, undef, undef, undef, undef, undef, undef, undef], []⟩) (by kernel_rfl) ?_
          refine lm_p (d := some 47) (by kernel_rfl) rfl (by kernel_rfl) (by kernel_rfl) (p_off Try.underlying38 rfl (fun w => ⟨_, Try.sizeOf22 w⟩) rfl (by kernel_rfl) H) (fun x47 H => ?_)
          refine lm_d (d := none) (by kernel_rfl) rfl (by kernel_rfl) (by kernel_rfl) (by kernel_rfl) HA_7 (d_st Try.sizeOf22 (by kernel_rfl) (by kernel_rfl) H) (fun _ h_4 w_8 H HA_8 => ?_)
          refine lm_nil ?_
          refine then_normal ?_
          refine fr_eq (b := ⟨#[x0, x1, x2, x3, undef, undef, undef, x7, (.bool false), x17, x18, x16, x0, x13, x14, x15, x16, x17, x18, x1, x20, x20, (D 0), (D 1), x24, x24, (D_1 0), (D_1 1), (D_1 2), x29, x29, (D_2 0), (D_2 1), (D_2 2), x34, x0, x0, x37, x38, x39, x1, x2, x42, x43, x44, x45, x46, x47, undef, undef, undef, undef, undef, undef, undef, undef], []⟩) (by kernel_rfl) ?_
          refine wp_seq ?_
          refine lwp_mx (Nat.testBit 128) (Nat.testBit 0) (Nat.testBit 311) [0, 1, 3, 7, 0, 0, 0, 127, 255] (fun h' => h' = h_4) [0, 1, 2, 3, 4, 5, 6, 7, 8] (by kernel_rfl) (by kernel_rfl) (by kernel_rfl) HA_8 rfl ?_
          intro w_9 HA_9
          refine lm_al (x := x0) (d := some 48) (by kernel_rfl) rfl (by kernel_rfl) (by kernel_rfl) (al_move (by kernel_rfl)) ?_
          refine lm_p (d := some 49) (by kernel_rfl) rfl (by kernel_rfl) (by kernel_rfl) (p_nil (by kernel_rfl) H) (fun x49 H => ?_)
          refine lm_p (d := some 50) (by kernel_rfl) rfl (by kernel_rfl) (by kernel_rfl) (p_off Try.underlying38 rfl (fun w => ⟨_, Try.sizeOf26 w⟩) rfl (by kernel_rfl) H) (fun x50 H => ?_)
          refine lm_f (d := some 51) (by kernel_rfl) rfl (by kernel_rfl) (by kernel_rfl) (by kernel_rfl) (of_eq (y_ld Try.isAgg26 (by kernel_rfl) H)) (fun x51 H => ?_)
          refine lm_al (x := x1) (d := some 52) (by kernel_rfl) rfl (by kernel_rfl) (by kernel_rfl) (al_move (by kernel_rfl)) ?_
          refine lm_al (x := x2) (d := some 53) (by kernel_rfl) rfl (by kernel_rfl) (by kernel_rfl) (al_move (by kernel_rfl)) ?_
          refine lm_fr (b := ⟨#[x0, x1, x2, x3, undef, undef, undef, x7, (.bool false), x17, x18, x16, x0, x13, x14, x15, x16, x17, x18, x1, x20, x20, (D 0), (D 1), x24, x24, (D_1 0), (D_1 1), (D_1 2), x29, x29, (D_2 0), (D_2 1), (D_2 2), x34, x0, x0, x37, x38, x39, x1, x2, x42, x43, x44, x45, x46, x47, x0, x49, x50, x51, x1, x2, undef, undef], []⟩) (by kernel_rfl) ?_
          refine lm_f (d := some 54) (by kernel_rfl) rfl (by kernel_rfl) (by kernel_rfl) (by kernel_rfl) (of_eq (y_ldn Try.isAgg32 Try.sizeOf32 (by kernel_rfl) H)) (fun x54 H => ?_)
          refine lm_d (d := some 55) (by kernel_rfl) rfl (by kernel_rfl) (by kernel_rfl) (by kernel_rfl) HA_9 (d_call (by kernel_rfl) (by kernel_rfl) H) (fun x55 h_5 w_10 H HA_10 => ?_)
          refine lm_al (x := x55) (d := some 8) (by kernel_rfl) rfl (by kernel_rfl) (by kernel_rfl) (al_assign (by kernel_rfl)) ?_
          refine lm_nil ?_
          refine then_normal ?_
          refine fr_eq (b := ⟨#[x0, x1, x2, x3, undef, undef, undef, x7, x55, x17, x18, x16, x0, x13, x14, x15, x16, x17, x18, x1, x20, x20, (D 0), (D 1), x24, x24, (D_1 0), (D_1 1), (D_1 2), x29, x29, (D_2 0), (D_2 1), (D_2 2), x34, x0, x0, x37, x38, x39, x1, x2, x42, x43, x44, x45, x46, x47, x0, x49, x50, x51, x1, x2, x54, x55], []⟩) (by kernel_rfl) ?_
          refine wp_ret ?_
          exact end1 (Try.results13) (by kernel_rfl) (by kernel_rfl) HA_10 H _ (.inr rfl)

end Go.Proofs.Ytbgipcikkedloaa
