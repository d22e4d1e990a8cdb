/- The shallow reading of one function, and that the function does it. Written by a program. -/
import Derived.Test.YtecoejjpdogklaaFnC
set_option linter.unusedVariables false
namespace Go.Proofs.Ytecoejjpdogklaa
open Go Go.HW

def betonyref04_Both_S (x0 x1 : Value) (h : Heap) (R : Value → Heap → Prop) : Prop :=
  sBox h x0 35 fun x2 h => 
  sBox h x1 35 fun x3 h_1 => 
  sNew h_1 #[.int .i64 0, .int .i64 0, .int .i64 0, .int .i64 0] 35 fun x4 h_2 => 
  sLdN h_2 x2 4 fun x7 =>
  betonyref04_Right_c x7 h_2 fun x8 h_3 => 
  sNot x8 fun x9 =>
  sOrH x9 h_3 (fun k_1 =>
  sLdN h_3 x3 4 fun x11 =>
  betonyref04_Right_c x11 h_3 fun x12 h_9 => 
  sNot x12 fun x13 =>
  k_1 x13 h_9) fun x14 h_4 =>
  sOrH x14 h_4 (fun k =>
  sLdN h_4 x2 4 fun x16 =>
  sLdN h_4 x3 4 fun x17 =>
  betonyref04_Meets_c x16 x17 h_4 fun x18 h_8 => 
  sNot x18 fun x19 =>
  k x19 h_8) fun x20 h_5 =>
  sIf x20 (sBuild #[.int .i64 0, .int .i64 0, .int .i64 0, .int .i64 0] [] fun x21 =>
  sStN h_5 x4 x21 4 fun h_6 => 
  sLdN h_6 x4 4 fun r4 =>
  R r4 h_6) (sOff x2 0 fun x22 =>
  sLd h_5 x22 fun x23 =>
  sOff x3 0 fun x24 =>
  sLd h_5 x24 fun x25 =>
  sMax x23 x25 fun x26 =>
  sOff x2 1 fun x27 =>
  sLd h_5 x27 fun x28 =>
  sOff x3 1 fun x29 =>
  sLd h_5 x29 fun x30 =>
  sMax x28 x30 fun x31 =>
  sOff x2 0 fun x34 =>
  sLd h_5 x34 fun x35 =>
  sOff x2 2 fun x36 =>
  sLd h_5 x36 fun x37 =>
  sAdd .i64 x35 x37 fun x38 =>
  sOff x3 0 fun x39 =>
  sLd h_5 x39 fun x40 =>
  sOff x3 2 fun x41 =>
  sLd h_5 x41 fun x42 =>
  sAdd .i64 x40 x42 fun x43 =>
  sMin x38 x43 fun x44 =>
  sSub .i64 x44 x26 fun x46 =>
  sOff x2 1 fun x47 =>
  sLd h_5 x47 fun x48 =>
  sOff x2 3 fun x49 =>
  sLd h_5 x49 fun x50 =>
  sAdd .i64 x48 x50 fun x51 =>
  sOff x3 1 fun x52 =>
  sLd h_5 x52 fun x53 =>
  sOff x3 3 fun x54 =>
  sLd h_5 x54 fun x55 =>
  sAdd .i64 x53 x55 fun x56 =>
  sMin x51 x56 fun x57 =>
  sSub .i64 x57 x31 fun x59 =>
  sBuild #[.int .i64 0, .int .i64 0, .int .i64 0, .int .i64 0] [(0, 1, x26), (1, 1, x31), (2, 1, x46), (3, 1, x59)] fun x60 =>
  sStN h_5 x4 x60 4 fun h_7 => 
  sLdN h_7 x4 4 fun r4_1 =>
  R r4_1 h_7)
set_option maxRecDepth 100000 in
theorem betonyref04_Both_runs {x0 x1 : Value} {h : Heap} {R : Value → Heap → Prop} (H : betonyref04_Both_S x0 x1 h R) : betonyref04_Both_c x0 x1 h R := by
  unfold betonyref04_Both_S at H
  refine runs_of (b := ⟨([x0, x1, undef, undef, undef, undef, undef, undef, undef, undef, undef, undef, undef, undef, undef, undef, undef, undef, undef, undef, undef, undef, undef, undef, undef, undef, undef, undef, undef, undef, undef, undef, undef, undef, undef, undef, undef, undef, undef, undef, undef, undef, undef, undef, undef, undef, undef, undef, undef, undef] ++ [undef, undef, undef, undef, undef, undef, undef, undef, undef, undef, undef]).toArray, []⟩) Try.call46 Try.func46 rfl (by kernel_rfl) (fun w0 HA => ?_)
  refine wp_seq ?_
  refine lwp_list ?_
  refine ls_d (d := some 2) (by kernel_rfl) (by kernel_rfl) HA (d_box (by kernel_rfl) H) (fun x2 h w H HA => ?_)
  refine ls_d (d := some 3) (by kernel_rfl) (by kernel_rfl) HA (d_box (by kernel_rfl) H) (fun x3 h_1 w_1 H HA_1 => ?_)
  refine ls_d (d := some 4) (by kernel_rfl) (by kernel_rfl) HA_1 (d_alloc Try.zeroValue35 H) (fun x4 h_2 w_2 H HA_2 => ?_)
  refine ls_nil ?_
  refine then_normal ?_
  refine fr_eq (b := ⟨([x0, x1, x2, x3, x4, undef, undef, undef, undef, undef, undef, undef, undef, undef, undef, undef, undef, undef, undef, undef, undef, undef, undef, undef, undef, undef, undef, undef, undef, undef, undef, undef, undef, undef, undef, undef, undef, undef, undef, undef, undef, undef, undef, undef, undef, undef, undef, undef, undef, undef] ++ [undef, undef, undef, undef, undef, undef, undef, undef, undef, undef, undef]).toArray, []⟩) (by kernel_rfl) ?_
  refine wp_seq ?_
  refine wp_seq ?_
  refine lwp_list ?_
  refine ls_y (d := some 7) (by kernel_rfl) (by kernel_rfl) HA_2 (y_ldn Try.isAgg35 Try.sizeOf35 (by kernel_rfl) H) (fun x7 H => ?_)
  refine ls_d (d := some 8) (by kernel_rfl) (by kernel_rfl) HA_2 (d_call (by kernel_rfl) (by kernel_rfl) H) (fun x8 h_3 w_3 H HA_3 => ?_)
  refine ls_p (d := some 9) (by kernel_rfl) (by kernel_rfl) (p_not (by kernel_rfl) H) (fun x9 H => ?_)
  refine ls_move (x := x9) (by kernel_rfl) (by kernel_rfl) ?_
  refine ls_orh [(), (), (), ()] (fun K a w => ∃ (D : Nat → Value) (x14 : Value) (h_4 : Heap), a = ⟨([x0, x1, x2, x3, x4, undef, undef, x7, x8, x9, x9, (D 0), (D 1), (D 2), x14, undef, undef, undef, undef, undef, undef, undef, undef, undef, undef, undef, undef, undef, undef, undef, undef, undef, undef, undef, undef, undef, undef, undef, undef, undef, undef, undef, undef, undef, undef, undef, undef, undef, undef, undef] ++ [undef, undef, undef, undef, undef, undef, undef, undef, undef, undef, undef]).toArray, []⟩ ∧ At w0 w h_4 ∧ K x14 h_4) H (fun hb_1 H => ?_) (fun hb_1 H => ?_) ?_
  · refine ls_y (d := some 11) (by kernel_rfl) (by rw [hb_1]; kernel_rfl) HA_3 (y_ldn Try.isAgg35 Try.sizeOf35 (by kernel_rfl) H) (fun x11 H => ?_)
    refine ls_d (d := some 12) (by kernel_rfl) (by rw [hb_1]; kernel_rfl) HA_3 (d_call (by kernel_rfl) (by kernel_rfl) H) (fun x12 h_9 w_10 H HA_10 => ?_)
    refine ls_fr (b := ⟨([x0, x1, x2, x3, x4, undef, undef, x7, x8, x9, x9, x11, x12, undef, undef, undef, undef, undef, undef, undef, undef, undef, undef, undef, undef, undef, undef, undef, undef, undef, undef, undef, undef, undef, undef, undef, undef, undef, undef, undef, undef, undef, undef, undef, undef, undef, undef, undef, undef, undef] ++ [undef, undef, undef, undef, undef, undef, undef, undef, undef, undef, undef]).toArray, []⟩) (by kernel_rfl) ?_
    refine ls_p (d := some 13) (by kernel_rfl) (by rw [hb_1]; kernel_rfl) (p_not (by kernel_rfl) H) (fun x13 H => ?_)
    refine ls_pick_f (y := x13) (by kernel_rfl) (by rw [hb_1]; kernel_rfl) (by kernel_rfl) ?_
    refine ls_nil ?_
    refine then_normal ?_
    exact ⟨(fun i => ([x11, x12, x13]).getD i undef), x13, h_9, by kernel_rfl, HA_10, H⟩
  · refine ls_skip (d := some 11) (by kernel_rfl) (by rw [hb_1]; kernel_rfl) ?_
    refine ls_skip (d := some 12) (by kernel_rfl) (by rw [hb_1]; kernel_rfl) ?_
    refine ls_fr (b := ⟨([x0, x1, x2, x3, x4, undef, undef, x7, x8, x9, x9, undef, undef, undef, undef, undef, undef, undef, undef, undef, undef, undef, undef, undef, undef, undef, undef, undef, undef, undef, undef, undef, undef, undef, undef, undef, undef, undef, undef, undef, undef, undef, undef, undef, undef, undef, undef, undef, undef, undef] ++ [undef, undef, undef, undef, undef, undef, undef, undef, undef, undef, undef]).toArray, []⟩) (by kernel_rfl) ?_
    refine ls_skip (d := some 13) (by kernel_rfl) (by rw [hb_1]; kernel_rfl) ?_
    refine ls_pick_t (x := (.bool true)) (by kernel_rfl) (by rw [hb_1]; kernel_rfl) (by kernel_rfl) ?_
    refine ls_nil ?_
    refine then_normal ?_
    exact ⟨(fun i => ([undef, undef, undef]).getD i undef), (.bool true), h_3, by kernel_rfl, HA_3, H⟩
  · rintro _ w_4 ⟨D, x14, h_4, rfl, HA_4, H⟩
    refine ls_move (x := x14) (by kernel_rfl) (by kernel_rfl) ?_
    refine ls_orh [(), (), (), (), ()] (fun K a w => ∃ (D_1 : Nat → Value) (x20 : Value) (h_5 : Heap), a = ⟨([x0, x1, x2, x3, x4, undef, undef, x7, x8, x9, x9, (D 0), (D 1), (D 2), x14, x14, (D_1 0), (D_1 1), (D_1 2), (D_1 3), x20, undef, undef, undef, undef, undef, undef, undef, undef, undef, undef, undef, undef, undef, undef, undef, undef, undef, undef, undef, undef, undef, undef, undef, undef, undef, undef, undef, undef, undef] ++ [undef, undef, undef, undef, undef, undef, undef, undef, undef, undef, undef]).toArray, []⟩ ∧ At w0 w h_5 ∧ K x20 h_5) H (fun hb H => ?_) (fun hb H => ?_) ?_
    · refine ls_y (d := some 16) (by kernel_rfl) (by rw [hb]; kernel_rfl) HA_4 (y_ldn Try.isAgg35 Try.sizeOf35 (by kernel_rfl) H) (fun x16 H => ?_)
      refine ls_y (d := some 17) (by kernel_rfl) (by rw [hb]; kernel_rfl) HA_4 (y_ldn Try.isAgg35 Try.sizeOf35 (by kernel_rfl) H) (fun x17 H => ?_)
      refine ls_d (d := some 18) (by kernel_rfl) (by rw [hb]; kernel_rfl) HA_4 (d_call (by kernel_rfl) (by kernel_rfl) H) (fun x18 h_8 w_9 H HA_9 => ?_)
      refine ls_p (d := some 19) (by kernel_rfl) (by rw [hb]; kernel_rfl) (p_not (by kernel_rfl) H) (fun x19 H => ?_)
      refine ls_pick_f (y := x19) (by kernel_rfl) (by rw [hb]; kernel_rfl) (by kernel_rfl) ?_
      refine ls_nil ?_
      refine then_normal ?_
      exact ⟨(fun i => ([x16, x17, x18, x19]).getD i undef), x19, h_8, by kernel_rfl, HA_9, H⟩
    · refine ls_skip (d := some 16) (by kernel_rfl) (by rw [hb]; kernel_rfl) ?_
      refine ls_skip (d := some 17) (by kernel_rfl) (by rw [hb]; kernel_rfl) ?_
      refine ls_skip (d := some 18) (by kernel_rfl) (by rw [hb]; kernel_rfl) ?_
      refine ls_skip (d := some 19) (by kernel_rfl) (by rw [hb]; kernel_rfl) ?_
      refine ls_pick_t (x := (.bool true)) (by kernel_rfl) (by rw [hb]; kernel_rfl) (by kernel_rfl) ?_
      refine ls_nil ?_
      refine then_normal ?_
      exact ⟨(fun i => ([undef, undef, undef, undef]).getD i undef), (.bool true), h_4, by kernel_rfl, HA_4, H⟩
    · rintro _ w_5 ⟨D_1, x20, h_5, rfl, HA_5, H⟩
      refine ls_nil ?_
      refine then_normal ?_
      refine fr_eq (b := ⟨([x0, x1, x2, x3, x4, undef, undef, x7, x8, x9, x9, (D 0), (D 1), (D 2), x14, x14, (D_1 0), (D_1 1), (D_1 2), (D_1 3), x20, undef, undef, undef, undef, undef, undef, undef, undef, undef, undef, undef, undef, undef, undef, undef, undef, undef, undef, undef, undef, undef, undef, undef, undef, undef, undef, undef, undef, undef] ++ [undef, undef, undef, undef, undef, undef, undef, undef, undef, undef, undef]).toArray, []⟩) (by kernel_rfl) ?_
      refine wp_if rfl H (fun H => ?_) (fun H => ?_)
      · refine wp_seq ?_
        refine lwp_list ?_
        refine ls_p (d := some 21) (by kernel_rfl) (by kernel_rfl) (p_lit (pl := [(0, 1), (1, 1), (2, 1), (3, 1)]) Try.zeroValue35 Try.underlying35 ⟨(by kernel_rfl), Try.sizeOf3, (by kernel_rfl), Try.sizeOf3, (by kernel_rfl), Try.sizeOf3, (by kernel_rfl), Try.sizeOf3, trivial⟩ (by kernel_rfl) (by kernel_rfl) H) (fun x21 H => ?_)
        refine ls_d (d := none) (by kernel_rfl) (by kernel_rfl) HA_5 (d_stn Try.sizeOf35 (by kernel_rfl) (by kernel_rfl) H) (fun _ h_6 w_6 H HA_6 => ?_)
        refine ls_nil ?_
        refine then_normal ?_
        refine fr_eq (b := ⟨([x0, x1, x2, x3, x4, undef, undef, x7, x8, x9, x9, (D 0), (D 1), (D 2), x14, x14, (D_1 0), (D_1 1), (D_1 2), (D_1 3), x20, x21, undef, undef, undef, undef, undef, undef, undef, undef, undef, undef, undef, undef, undef, undef, undef, undef, undef, undef, undef, undef, undef, undef, undef, undef, undef, undef, undef, undef] ++ [undef, undef, undef, undef, undef, undef, undef, undef, undef, undef, undef]).toArray, []⟩) (by kernel_rfl) ?_
        refine wp_ret ?_
        refine then_ret ?_
        obtain ⟨r4, hr4, H⟩ := ld_n Try.isAgg35 Try.sizeOf35 H
        exact endR (vs := [r4]) (Try.results46) (by kernel_rfl) ⟨⟨_, (by kernel_rfl), hr4⟩, trivial⟩ HA_6 H _ (.inr rfl)
      · refine wp_skip ?_
        refine then_normal ?_
        refine fr_eq (b := ⟨([x0, x1, x2, x3, x4, undef, undef, x7, x8, x9, x9, (D 0), (D 1), (D 2), x14, x14, (D_1 0), (D_1 1), (D_1 2), (D_1 3), x20, undef, undef, undef, undef, undef, undef, undef, undef, undef, undef, undef, undef, undef, undef, undef, undef, undef, undef, undef, undef, undef, undef, undef, undef, undef, undef, undef, undef, undef] ++ [undef, undef, undef, undef, undef, undef, undef, undef, undef, undef, undef]).toArray, []⟩) (by kernel_rfl) ?_
        refine wp_seq ?_
        refine lwp_qt (by kernel_rfl) (by kernel_rfl) HA_5 ?_
        refine lq_p (d := some 22) (by kernel_rfl) (by kernel_rfl) (p_off Try.underlying35 rfl (fun w => ⟨_, Try.sizeOf3 w⟩) rfl (by kernel_rfl) H) (fun x22 H => ?_)
        refine lq_y (d := some 23) (by kernel_rfl) (by kernel_rfl) HA_5 (y_ld Try.isAgg3 (by kernel_rfl) H) (fun x23 H => ?_)
        refine lq_p (d := some 24) (by kernel_rfl) (by kernel_rfl) (p_off Try.underlying35 rfl (fun w => ⟨_, Try.sizeOf3 w⟩) rfl (by kernel_rfl) H) (fun x24 H => ?_)
        refine lq_y (d := some 25) (by kernel_rfl) (by kernel_rfl) HA_5 (y_ld Try.isAgg3 (by kernel_rfl) H) (fun x25 H => ?_)
        refine lq_p (d := some 26) (by kernel_rfl) (by kernel_rfl) (p_max (by kernel_rfl) (by kernel_rfl) H) (fun x26 H => ?_)
        refine lq_p (d := some 27) (by kernel_rfl) (by kernel_rfl) (p_off Try.underlying35 rfl (fun w => ⟨_, Try.sizeOf3 w⟩) rfl (by kernel_rfl) H) (fun x27 H => ?_)
        refine lq_fr (b := ⟨([x0, x1, x2, x3, x4, undef, undef, x7, x8, x9, x9, (D 0), (D 1), (D 2), x14, x14, (D_1 0), (D_1 1), (D_1 2), (D_1 3), x20, undef, x22, x23, x24, x25, x26, x27, undef, undef, undef, undef, undef, undef, undef, undef, undef, undef, undef, undef, undef, undef, undef, undef, undef, undef, undef, undef, undef, undef] ++ [undef, undef, undef, undef, undef, undef, undef, undef, undef, undef, undef]).toArray, []⟩) (by kernel_rfl) ?_
        refine lq_y (d := some 28) (by kernel_rfl) (by kernel_rfl) HA_5 (y_ld Try.isAgg3 (by kernel_rfl) H) (fun x28 H => ?_)
        refine lq_p (d := some 29) (by kernel_rfl) (by kernel_rfl) (p_off Try.underlying35 rfl (fun w => ⟨_, Try.sizeOf3 w⟩) rfl (by kernel_rfl) H) (fun x29 H => ?_)
        refine lq_y (d := some 30) (by kernel_rfl) (by kernel_rfl) HA_5 (y_ld Try.isAgg3 (by kernel_rfl) H) (fun x30 H => ?_)
        refine lq_p (d := some 31) (by kernel_rfl) (by kernel_rfl) (p_max (by kernel_rfl) (by kernel_rfl) H) (fun x31 H => ?_)
        refine lq_assign (x := x26) (by kernel_rfl) (by kernel_rfl) ?_
        refine lq_assign (x := x31) (by kernel_rfl) (by kernel_rfl) ?_
        refine lq_nil ?_
        intro w_7 HA_7
        refine then_normal ?_
        refine fr_eq (b := ⟨([x0, x1, x2, x3, x4, x26, x31, x7, x8, x9, x9, (D 0), (D 1), (D 2), x14, x14, (D_1 0), (D_1 1), (D_1 2), (D_1 3), x20, undef, x22, x23, x24, x25, x26, x27, x28, x29, x30, x31, undef, undef, undef, undef, undef, undef, undef, undef, undef, undef, undef, undef, undef, undef, undef, undef, undef, undef] ++ [undef, undef, undef, undef, undef, undef, undef, undef, undef, undef, undef]).toArray, []⟩) (by kernel_rfl) ?_
        refine wp_seq ?_
        refine lwp_list ?_
        refine ls_move (x := x26) (by kernel_rfl) (by kernel_rfl) ?_
        refine ls_move (x := x31) (by kernel_rfl) (by kernel_rfl) ?_
        refine ls_p (d := some 34) (by kernel_rfl) (by kernel_rfl) (p_off Try.underlying35 rfl (fun w => ⟨_, Try.sizeOf3 w⟩) rfl (by kernel_rfl) H) (fun x34 H => ?_)
        refine ls_y (d := some 35) (by kernel_rfl) (by kernel_rfl) HA_7 (y_ld Try.isAgg3 (by kernel_rfl) H) (fun x35 H => ?_)
        refine ls_p (d := some 36) (by kernel_rfl) (by kernel_rfl) (p_off Try.underlying35 rfl (fun w => ⟨_, Try.sizeOf3 w⟩) rfl (by kernel_rfl) H) (fun x36 H => ?_)
        refine ls_y (d := some 37) (by kernel_rfl) (by kernel_rfl) HA_7 (y_ld Try.isAgg3 (by kernel_rfl) H) (fun x37 H => ?_)
        refine ls_fr (b := ⟨([x0, x1, x2, x3, x4, x26, x31, x7, x8, x9, x9, (D 0), (D 1), (D 2), x14, x14, (D_1 0), (D_1 1), (D_1 2), (D_1 3), x20, undef, x22, x23, x24, x25, x26, x27, x28, x29, x30, x31, x26, x31, x34, x35, x36, x37, undef, undef, undef, undef, undef, undef, undef, undef, undef, undef, undef, undef] ++ [undef, undef, undef, undef, undef, undef, undef, undef, undef, undef, undef]).toArray, []⟩) (by kernel_rfl) ?_
        refine ls_p (d := some 38) (by kernel_rfl) (by kernel_rfl) (p_add (by kernel_rfl) (by kernel_rfl) H) (fun x38 H => ?_)
        refine ls_p (d := some 39) (by kernel_rfl) (by kernel_rfl) (p_off Try.underlying35 rfl (fun w => ⟨_, Try.sizeOf3 w⟩) rfl (by kernel_rfl) H) (fun x39 H => ?_)
        refine ls_y (d := some 40) (by kernel_rfl) (by kernel_rfl) HA_7 (y_ld Try.isAgg3 (by kernel_rfl) H) (fun x40 H => ?_)
        refine ls_p (d := some 41) (by kernel_rfl) (by kernel_rfl) (p_off Try.underlying35 rfl (fun w => ⟨_, Try.sizeOf3 w⟩) rfl (by kernel_rfl) H) (fun x41 H => ?_)
        refine ls_y (d := some 42) (by kernel_rfl) (by kernel_rfl) HA_7 (y_ld Try.isAgg3 (by kernel_rfl) H) (fun x42 H => ?_)
        refine ls_p (d := some 43) (by kernel_rfl) (by kernel_rfl) (p_add (by kernel_rfl) (by kernel_rfl) H) (fun x43 H => ?_)
        refine ls_fr (b := ⟨([x0, x1, x2, x3, x4, x26, x31, x7, x8, x9, x9, (D 0), (D 1), (D 2), x14, x14, (D_1 0), (D_1 1), (D_1 2), (D_1 3), x20, undef, x22, x23, x24, x25, x26, x27, x28, x29, x30, x31, x26, x31, x34, x35, x36, x37, x38, x39, x40, x41, x42, x43, undef, undef, undef, undef, undef, undef] ++ [undef, undef, undef, undef, undef, undef, undef, undef, undef, undef, undef]).toArray, []⟩) (by kernel_rfl) ?_
        refine ls_p (d := some 44) (by kernel_rfl) (by kernel_rfl) (p_min (by kernel_rfl) (by kernel_rfl) H) (fun x44 H => ?_)
        refine ls_move (x := x26) (by kernel_rfl) (by kernel_rfl) ?_
        refine ls_p (d := some 46) (by kernel_rfl) (by kernel_rfl) (p_sub (by kernel_rfl) (by kernel_rfl) H) (fun x46 H => ?_)
        refine ls_p (d := some 47) (by kernel_rfl) (by kernel_rfl) (p_off Try.underlying35 rfl (fun w => ⟨_, Try.sizeOf3 w⟩) rfl (by kernel_rfl) H) (fun x47 H => ?_)
        refine ls_y (d := some 48) (by kernel_rfl) (by kernel_rfl) HA_7 (y_ld Try.isAgg3 (by kernel_rfl) H) (fun x48 H => ?_)
        refine ls_p (d := some 49) (by kernel_rfl) (by kernel_rfl) (p_off Try.underlying35 rfl (fun w => ⟨_, Try.sizeOf3 w⟩) rfl (by kernel_rfl) H) (fun x49 H => ?_)
        refine ls_fr (b := ⟨([x0, x1, x2, x3, x4, x26, x31, x7, x8, x9, x9, (D 0), (D 1), (D 2), x14, x14, (D_1 0), (D_1 1), (D_1 2), (D_1 3), x20, undef, x22, x23, x24, x25, x26, x27, x28, x29, x30, x31, x26, x31, x34, x35, x36, x37, x38, x39, x40, x41, x42, x43, x44, x26, x46, x47, x48, x49] ++ [undef, undef, undef, undef, undef, undef, undef, undef, undef, undef, undef]).toArray, []⟩) (by kernel_rfl) ?_
        refine ls_y (d := some 50) (by kernel_rfl) (by kernel_rfl) HA_7 (y_ld Try.isAgg3 (by kernel_rfl) H) (fun x50 H => ?_)
        refine ls_p (d := some 51) (by kernel_rfl) (by kernel_rfl) (p_add (by kernel_rfl) (by kernel_rfl) H) (fun x51 H => ?_)
        refine ls_p (d := some 52) (by kernel_rfl) (by kernel_rfl) (p_off Try.underlying35 rfl (fun w => ⟨_, Try.sizeOf3 w⟩) rfl (by kernel_rfl) H) (fun x52 H => ?_)
        refine ls_y (d := some 53) (by kernel_rfl) (by kernel_rfl) HA_7 (y_ld Try.isAgg3 (by kernel_rfl) H) (fun x53 H => ?_)
        refine ls_p (d := some 54) (by kernel_rfl) (by kernel_rfl) (p_off Try.underlying35 rfl (fun w => ⟨_, Try.sizeOf3 w⟩) rfl (by kernel_rfl) H) (fun x54 H => ?_)
        refine ls_y (d := some 55) (by kernel_rfl) (by kernel_rfl) HA_7 (y_ld Try.isAgg3 (by kernel_rfl) H) (fun x55 H => ?_)
        refine ls_fr (b := ⟨([x0, x1, x2, x3, x4, x26, x31, x7, x8, x9, x9, (D 0), (D 1), (D 2), x14, x14, (D_1 0), (D_1 1), (D_1 2), (D_1 3), x20, undef, x22, x23, x24, x25, x26, x27, x28, x29, x30, x31, x26, x31, x34, x35, x36, x37, x38, x39, x40, x41, x42, x43, x44, x26, x46, x47, x48, x49] ++ [x50, x51, x52, x53, x54, x55, undef, undef, undef, undef, undef]).toArray, []⟩) (by kernel_rfl) ?_
        refine ls_p (d := some 56) (by kernel_rfl) (by kernel_rfl) (p_add (by kernel_rfl) (by kernel_rfl) H) (fun x56 H => ?_)
        refine ls_p (d := some 57) (by kernel_rfl) (by kernel_rfl) (p_min (by kernel_rfl) (by kernel_rfl) H) (fun x57 H => ?_)
        refine ls_move (x := x31) (by kernel_rfl) (by kernel_rfl) ?_
        refine ls_p (d := some 59) (by kernel_rfl) (by kernel_rfl) (p_sub (by kernel_rfl) (by kernel_rfl) H) (fun x59 H => ?_)
        refine ls_p (d := some 60) (by kernel_rfl) (by kernel_rfl) (p_lit (pl := [(0, 1), (1, 1), (2, 1), (3, 1)]) Try.zeroValue35 Try.underlying35 ⟨(by kernel_rfl), Try.sizeOf3, (by kernel_rfl), Try.sizeOf3, (by kernel_rfl), Try.sizeOf3, (by kernel_rfl), Try.sizeOf3, trivial⟩ (by kernel_rfl) (by kernel_rfl) H) (fun x60 H => ?_)
        refine ls_d (d := none) (by kernel_rfl) (by kernel_rfl) HA_7 (d_stn Try.sizeOf35 (by kernel_rfl) (by kernel_rfl) H) (fun _ h_7 w_8 H HA_8 => ?_)
        refine ls_nil ?_
        refine then_normal ?_
        refine fr_eq (b := ⟨([x0, x1, x2, x3, x4, x26, x31, x7, x8, x9, x9, (D 0), (D 1), (D 2), x14, x14, (D_1 0), (D_1 1), (D_1 2), (D_1 3), x20, undef, x22, x23, x24, x25, x26, x27, x28, x29, x30, x31, x26, x31, x34, x35, x36, x37, x38, x39, x40, x41, x42, x43, x44, x26, x46, x47, x48, x49] ++ [x50, x51, x52, x53, x54, x55, x56, x57, x31, x59, x60]).toArray, []⟩) (by kernel_rfl) ?_
        refine wp_ret ?_
        obtain ⟨r4_1, hr4_1, H⟩ := ld_n Try.isAgg35 Try.sizeOf35 H
        exact endR (vs := [r4_1]) (Try.results46) (by kernel_rfl) ⟨⟨_, (by kernel_rfl), hr4_1⟩, trivial⟩ HA_8 H _ (.inr rfl)

end Go.Proofs.Ytecoejjpdogklaa
