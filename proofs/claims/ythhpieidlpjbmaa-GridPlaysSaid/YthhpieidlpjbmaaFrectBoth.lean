/- The shallow reading of one function, and that the function does it. Written by a program. -/
import Derived.Test.YthhpieidlpjbmaaFnC
set_option linter.unusedVariables false
namespace Go.Proofs.Ythhpieidlpjbmaa
open Go Go.HW

def rect_Both_S (x0 x1 : Value) (h : Heap) (R : Value → Heap → Prop) : Prop :=
  sBox h x0 23 fun x2 h => 
  sBox h x1 23 fun x3 h_1 => 
  sNew h_1 #[.int .i64 0, .int .i64 0, .int .i64 0, .int .i64 0] 23 fun x4 h_2 => 
  sLdN h_2 x2 4 fun x5 =>
  rect_Right_c x5 h_2 fun x6 h_3 => 
  sNot x6 fun x7 =>
  sOrH x7 h_3 (fun k =>
  sLdN h_3 x3 4 fun x9 =>
  rect_Right_c x9 h_3 fun x10 h_8 => 
  sNot x10 fun x11 =>
  k x11 h_8) fun x12 h_4 =>
  sIf x12 (sBuild #[.int .i64 0, .int .i64 0, .int .i64 0, .int .i64 0] [] fun x13 =>
  sStN h_4 x4 x13 4 fun h_5 => 
  sLdN h_5 x4 4 fun r4 =>
  R r4 h_5) (sOff x2 0 fun x14 =>
  sLd h_4 x14 fun x15 =>
  sOff x3 0 fun x16 =>
  sLd h_4 x16 fun x17 =>
  sMax x15 x17 fun x18 =>
  sOff x2 1 fun x19 =>
  sLd h_4 x19 fun x20 =>
  sOff x3 1 fun x21 =>
  sLd h_4 x21 fun x22 =>
  sMax x20 x22 fun x23 =>
  sOff x2 0 fun x24 =>
  sLd h_4 x24 fun x25 =>
  sOff x2 2 fun x26 =>
  sLd h_4 x26 fun x27 =>
  sAdd .i64 x25 x27 fun x28 =>
  sOff x3 0 fun x29 =>
  sLd h_4 x29 fun x30 =>
  sOff x3 2 fun x31 =>
  sLd h_4 x31 fun x32 =>
  sAdd .i64 x30 x32 fun x33 =>
  sMin x28 x33 fun x34 =>
  sOff x2 1 fun x35 =>
  sLd h_4 x35 fun x36 =>
  sOff x2 3 fun x37 =>
  sLd h_4 x37 fun x38 =>
  sAdd .i64 x36 x38 fun x39 =>
  sOff x3 1 fun x40 =>
  sLd h_4 x40 fun x41 =>
  sOff x3 3 fun x42 =>
  sLd h_4 x42 fun x43 =>
  sAdd .i64 x41 x43 fun x44 =>
  sMin x39 x44 fun x45 =>
  rect_of_c x18 x23 x34 x45 h_4 fun x46 h_6 => 
  sStN h_6 x4 x46 4 fun h_7 => 
  sLdN h_7 x4 4 fun r4_1 =>
  R r4_1 h_7)
set_option maxRecDepth 100000 in
theorem rect_Both_runs {x0 x1 : Value} {h : Heap} {R : Value → Heap → Prop} (H : rect_Both_S x0 x1 h R) : rect_Both_c x0 x1 h R := by
  unfold rect_Both_S at H
  refine runs_of (b := ⟨#[x0, x1, undef, undef, undef, undef, undef, undef, undef, undef, undef, undef, undef, undef, undef, undef, undef, undef, undef, undef, undef, undef, undef, undef, undef, undef, undef, undef, undef, undef, undef, undef, undef, undef, undef, undef, undef, undef, undef, undef, undef, undef, undef, undef, undef, undef, undef], []⟩) Try.call35 Try.func35 rfl (by kernel_rfl) (fun w0 HA => ?_)
  refine wp_seq ?_
  refine lwp_list ?_
  refine ls_d (d := some 2) (by kernel_rfl) (by kernel_rfl) HA (d_box (by kernel_rfl) H) (fun x2 h w H HA => ?_)
  refine ls_d (d := some 3) (by kernel_rfl) (by kernel_rfl) HA (d_box (by kernel_rfl) H) (fun x3 h_1 w_1 H HA_1 => ?_)
  refine ls_d (d := some 4) (by kernel_rfl) (by kernel_rfl) HA_1 (d_alloc Try.zeroValue23 H) (fun x4 h_2 w_2 H HA_2 => ?_)
  refine ls_nil ?_
  refine then_normal ?_
  refine fr_eq (b := ⟨#[x0, x1, x2, x3, x4, undef, undef, undef, undef, undef, undef, undef, undef, undef, undef, undef, undef, undef, undef, undef, undef, undef, undef, undef, undef, undef, undef, undef, undef, undef, undef, undef, undef, undef, undef, undef, undef, undef, undef, undef, undef, undef, undef, undef, undef, undef, undef], []⟩) (by kernel_rfl) ?_
  refine wp_seq ?_
  refine wp_seq ?_
  refine lwp_list ?_
  refine ls_y (d := some 5) (by kernel_rfl) (by kernel_rfl) HA_2 (y_ldn Try.isAgg23 Try.sizeOf23 (by kernel_rfl) H) (fun x5 H => ?_)
  refine ls_d (d := some 6) (by kernel_rfl) (by kernel_rfl) HA_2 (d_call (by kernel_rfl) (by kernel_rfl) H) (fun x6 h_3 w_3 H HA_3 => ?_)
  refine ls_p (d := some 7) (by kernel_rfl) (by kernel_rfl) (p_not (by kernel_rfl) H) (fun x7 H => ?_)
  refine ls_move (x := x7) (by kernel_rfl) (by kernel_rfl) ?_
  refine ls_orh [(), (), (), ()] (fun K a w => ∃ (D : Nat → Value) (x12 : Value) (h_4 : Heap), a = ⟨#[x0, x1, x2, x3, x4, x5, x6, x7, x7, (D 0), (D 1), (D 2), x12, undef, undef, undef, undef, undef, undef, undef, undef, undef, undef, undef, undef, undef, undef, undef, undef, undef, undef, undef, undef, undef, undef, undef, undef, undef, undef, undef, undef, undef, undef, undef, undef, undef, undef], []⟩ ∧ At w0 w h_4 ∧ K x12 h_4) H (fun hb H => ?_) (fun hb H => ?_) ?_
  · refine ls_y (d := some 9) (by kernel_rfl) (by rw [hb]; kernel_rfl) HA_3 (y_ldn Try.isAgg23 Try.sizeOf23 (by kernel_rfl) H) (fun x9 H => ?_)
    refine ls_d (d := some 10) (by kernel_rfl) (by rw [hb]; kernel_rfl) HA_3 (d_call (by kernel_rfl) (by kernel_rfl) H) (fun x10 h_8 w_8 H HA_8 => ?_)
    refine ls_fr (b := ⟨#[x0, x1, x2, x3, x4, x5, x6, x7, x7, x9, x10, undef, undef, undef, undef, undef, undef, undef, undef, undef, undef, undef, undef, undef, undef, undef, undef, undef, undef, undef, undef, undef, undef, undef, undef, undef, undef, undef, undef, undef, undef, undef, undef, undef, undef, undef, undef], []⟩) (by kernel_rfl) ?_
    refine ls_p (d := some 11) (by kernel_rfl) (by rw [hb]; kernel_rfl) (p_not (by kernel_rfl) H) (fun x11 H => ?_)
    refine ls_pick_f (y := x11) (by kernel_rfl) (by rw [hb]; kernel_rfl) (by kernel_rfl) ?_
    refine ls_nil ?_
    refine then_normal ?_
    exact ⟨(fun i => ([x9, x10, x11]).getD i undef), x11, h_8, by kernel_rfl, HA_8, H⟩
  · refine ls_skip (d := some 9) (by kernel_rfl) (by rw [hb]; kernel_rfl) ?_
    refine ls_skip (d := some 10) (by kernel_rfl) (by rw [hb]; kernel_rfl) ?_
    refine ls_fr (b := ⟨#[x0, x1, x2, x3, x4, x5, x6, x7, x7, undef, undef, undef, undef, undef, undef, undef, undef, undef, undef, undef, undef, undef, undef, undef, undef, undef, undef, undef, undef, undef, undef, undef, undef, undef, undef, undef, undef, undef, undef, undef, undef, undef, undef, undef, undef, undef, undef], []⟩) (by kernel_rfl) ?_
    refine ls_skip (d := some 11) (by kernel_rfl) (by rw [hb]; kernel_rfl) ?_
    refine ls_pick_t (x := (.bool true)) (by kernel_rfl) (by rw [hb]; kernel_rfl) (by kernel_rfl) ?_
    refine ls_nil ?_
    refine then_normal ?_
    exact ⟨(fun i => ([undef, undef, undef]).getD i undef), (.bool true), h_3, by kernel_rfl, HA_3, H⟩
  · rintro _ w_4 ⟨D, x12, h_4, rfl, HA_4, H⟩
    refine ls_nil ?_
    refine then_normal ?_
    refine fr_eq (b := ⟨#[x0, x1, x2, x3, x4, x5, x6, x7, x7, (D 0), (D 1), (D 2), x12, undef, undef, undef, undef, undef, undef, undef, undef, undef, undef, undef, undef, undef, undef, undef, undef, undef, undef, undef, undef, undef, undef, undef, undef, undef, undef, undef, undef, undef, undef, undef, undef, undef, undef], []⟩) (by kernel_rfl) ?_
    refine wp_if rfl H (fun H => ?_) (fun H => ?_)
    · refine wp_seq ?_
      refine lwp_list ?_
      refine ls_p (d := some 13) (by kernel_rfl) (by kernel_rfl) (p_lit (pl := [(0, 1), (1, 1), (2, 1), (3, 1)]) Try.zeroValue23 Try.underlying23 ⟨(by kernel_rfl), Try.sizeOf3, (by kernel_rfl), Try.sizeOf3, (by kernel_rfl), Try.sizeOf3, (by kernel_rfl), Try.sizeOf3, trivial⟩ (by kernel_rfl) (by kernel_rfl) H) (fun x13 H => ?_)
      refine ls_d (d := none) (by kernel_rfl) (by kernel_rfl) HA_4 (d_stn Try.sizeOf23 (by kernel_rfl) (by kernel_rfl) H) (fun _ h_5 w_5 H HA_5 => ?_)
      refine ls_nil ?_
      refine then_normal ?_
      refine fr_eq (b := ⟨#[x0, x1, x2, x3, x4, x5, x6, x7, x7, (D 0), (D 1), (D 2), x12, x13, undef, undef, undef, undef, undef, undef, undef, undef, undef, undef, undef, undef, undef, undef, undef, undef, undef, undef, undef, undef, undef, undef, undef, undef, undef, undef, undef, undef, undef, undef, undef, undef, undef], []⟩) (by kernel_rfl) ?_
      refine wp_ret ?_
      refine then_ret ?_
      obtain ⟨r4, hr4, H⟩ := ld_n Try.isAgg23 Try.sizeOf23 H
      exact endR (vs := [r4]) (Try.results35) (by kernel_rfl) ⟨⟨_, (by kernel_rfl), hr4⟩, trivial⟩ HA_5 H _ (.inr rfl)
    · refine wp_skip ?_
      refine then_normal ?_
      refine fr_eq (b := ⟨#[x0, x1, x2, x3, x4, x5, x6, x7, x7, (D 0), (D 1), (D 2), x12, undef, undef, undef, undef, undef, undef, undef, undef, undef, undef, undef, undef, undef, undef, undef, undef, undef, undef, undef, undef, undef, undef, undef, undef, undef, undef, undef, undef, undef, undef, undef, undef, undef, undef], []⟩) (by kernel_rfl) ?_
      refine wp_seq ?_
      refine lwp_list ?_
      refine ls_p (d := some 14) (by kernel_rfl) (by kernel_rfl) (p_off Try.underlying23 rfl (fun w => ⟨_, Try.sizeOf3 w⟩) rfl (by kernel_rfl) H) (fun x14 H => ?_)
      refine ls_y (d := some 15) (by kernel_rfl) (by kernel_rfl) HA_4 (y_ld Try.isAgg3 (by kernel_rfl) H) (fun x15 H => ?_)
      refine ls_p (d := some 16) (by kernel_rfl) (by kernel_rfl) (p_off Try.underlying23 rfl (fun w => ⟨_, Try.sizeOf3 w⟩) rfl (by kernel_rfl) H) (fun x16 H => ?_)
      refine ls_y (d := some 17) (by kernel_rfl) (by kernel_rfl) HA_4 (y_ld Try.isAgg3 (by kernel_rfl) H) (fun x17 H => ?_)
      refine ls_p (d := some 18) (by kernel_rfl) (by kernel_rfl) (p_max (by kernel_rfl) (by kernel_rfl) H) (fun x18 H => ?_)
      refine ls_p (d := some 19) (by kernel_rfl) (by kernel_rfl) (p_off Try.underlying23 rfl (fun w => ⟨_, Try.sizeOf3 w⟩) rfl (by kernel_rfl) H) (fun x19 H => ?_)
      refine ls_fr (b := ⟨#[x0, x1, x2, x3, x4, x5, x6, x7, x7, (D 0), (D 1), (D 2), x12, undef, x14, x15, x16, x17, x18, x19, undef, undef, undef, undef, undef, undef, undef, undef, undef, undef, undef, undef, undef, undef, undef, undef, undef, undef, undef, undef, undef, undef, undef, undef, undef, undef, undef], []⟩) (by kernel_rfl) ?_
      refine ls_y (d := some 20) (by kernel_rfl) (by kernel_rfl) HA_4 (y_ld Try.isAgg3 (by kernel_rfl) H) (fun x20 H => ?_)
      refine ls_p (d := some 21) (by kernel_rfl) (by kernel_rfl) (p_off Try.underlying23 rfl (fun w => ⟨_, Try.sizeOf3 w⟩) rfl (by kernel_rfl) H) (fun x21 H => ?_)
      refine ls_y (d := some 22) (by kernel_rfl) (by kernel_rfl) HA_4 (y_ld Try.isAgg3 (by kernel_rfl) H) (fun x22 H => ?_)
      refine ls_p (d := some 23) (by kernel_rfl) (by kernel_rfl) (p_max (by kernel_rfl) (by kernel_rfl) H) (fun x23 H => ?_)
      refine ls_p (d := some 24) (by kernel_rfl) (by kernel_rfl) (p_off Try.underlying23 rfl (fun w => ⟨_, Try.sizeOf3 w⟩) rfl (by kernel_rfl) H) (fun x24 H => ?_)
      refine ls_y (d := some 25) (by kernel_rfl) (by kernel_rfl) HA_4 (y_ld Try.isAgg3 (by kernel_rfl) H) (fun x25 H => ?_)
      refine ls_fr (b := ⟨#[x0, x1, x2, x3, x4, x5, x6, x7, x7, (D 0), (D 1), (D 2), x12, undef, x14, x15, x16, x17, x18, x19, x20, x21, x22, x23, x24, x25, undef, undef, undef, undef, undef, undef, undef, undef, undef, undef, undef, undef, undef, undef, undef, undef, undef, undef, undef, undef, undef], []⟩) (by kernel_rfl) ?_
      refine ls_p (d := some 26) (by kernel_rfl) (by kernel_rfl) (p_off Try.underlying23 rfl (fun w => ⟨_, Try.sizeOf3 w⟩) rfl (by kernel_rfl) H) (fun x26 H => ?_)
      refine ls_y (d := some 27) (by kernel_rfl) (by kernel_rfl) HA_4 (y_ld Try.isAgg3 (by kernel_rfl) H) (fun x27 H => ?_)
      refine ls_p (d := some 28) (by kernel_rfl) (by kernel_rfl) (p_add (by kernel_rfl) (by kernel_rfl) H) (fun x28 H => ?_)
      refine ls_p (d := some 29) (by kernel_rfl) (by kernel_rfl) (p_off Try.underlying23 rfl (fun w => ⟨_, Try.sizeOf3 w⟩) rfl (by kernel_rfl) H) (fun x29 H => ?_)
      refine ls_y (d := some 30) (by kernel_rfl) (by kernel_rfl) HA_4 (y_ld Try.isAgg3 (by kernel_rfl) H) (fun x30 H => ?_)
      refine ls_p (d := some 31) (by kernel_rfl) (by kernel_rfl) (p_off Try.underlying23 rfl (fun w => ⟨_, Try.sizeOf3 w⟩) rfl (by kernel_rfl) H) (fun x31 H => ?_)
      refine ls_fr (b := ⟨#[x0, x1, x2, x3, x4, x5, x6, x7, x7, (D 0), (D 1), (D 2), x12, undef, x14, x15, x16, x17, x18, x19, x20, x21, x22, x23, x24, x25, x26, x27, x28, x29, x30, x31, undef, undef, undef, undef, undef, undef, undef, undef, undef, undef, undef, undef, undef, undef, undef], []⟩) (by kernel_rfl) ?_
      refine ls_y (d := some 32) (by kernel_rfl) (by kernel_rfl) HA_4 (y_ld Try.isAgg3 (by kernel_rfl) H) (fun x32 H => ?_)
      refine ls_p (d := some 33) (by kernel_rfl) (by kernel_rfl) (p_add (by kernel_rfl) (by kernel_rfl) H) (fun x33 H => ?_)
      refine ls_p (d := some 34) (by kernel_rfl) (by kernel_rfl) (p_min (by kernel_rfl) (by kernel_rfl) H) (fun x34 H => ?_)
      refine ls_p (d := some 35) (by kernel_rfl) (by kernel_rfl) (p_off Try.underlying23 rfl (fun w => ⟨_, Try.sizeOf3 w⟩) rfl (by kernel_rfl) H) (fun x35 H => ?_)
      refine ls_y (d := some 36) (by kernel_rfl) (by kernel_rfl) HA_4 (y_ld Try.isAgg3 (by kernel_rfl) H) (fun x36 H => ?_)
      refine ls_p (d := some 37) (by kernel_rfl) (by kernel_rfl) (p_off Try.underlying23 rfl (fun w => ⟨_, Try.sizeOf3 w⟩) rfl (by kernel_rfl) H) (fun x37 H => ?_)
      refine ls_fr (b := ⟨#[x0, x1, x2, x3, x4, x5, x6, x7, x7, (D 0), (D 1), (D 2), x12, undef, x14, x15, x16, x17, x18, x19, x20, x21, x22, x23, x24, x25, x26, x27, x28, x29, x30, x31, x32, x33, x34, x35, x36, x37, undef, undef, undef, undef, undef, undef, undef, undef, undef], []⟩) (by kernel_rfl) ?_
      refine ls_y (d := some 38) (by kernel_rfl) (by kernel_rfl) HA_4 (y_ld Try.isAgg3 (by kernel_rfl) H) (fun x38 H => ?_)
      refine ls_p (d := some 39) (by kernel_rfl) (by kernel_rfl) (p_add (by kernel_rfl) (by kernel_rfl) H) (fun x39 H => ?_)
      refine ls_p (d := some 40) (by kernel_rfl) (by kernel_rfl) (p_off Try.underlying23 rfl (fun w => ⟨_, Try.sizeOf3 w⟩) rfl (by kernel_rfl) H) (fun x40 H => ?_)
      refine ls_y (d := some 41) (by kernel_rfl) (by kernel_rfl) HA_4 (y_ld Try.isAgg3 (by kernel_rfl) H) (fun x41 H => ?_)
      refine ls_p (d := some 42) (by kernel_rfl) (by kernel_rfl) (p_off Try.underlying23 rfl (fun w => ⟨_, Try.sizeOf3 w⟩) rfl (by kernel_rfl) H) (fun x42 H => ?_)
      refine ls_y (d := some 43) (by kernel_rfl) (by kernel_rfl) HA_4 (y_ld Try.isAgg3 (by kernel_rfl) H) (fun x43 H => ?_)
      refine ls_fr (b := ⟨#[x0, x1, x2, x3, x4, x5, x6, x7, x7, (D 0), (D 1), (D 2), x12, undef, x14, x15, x16, x17, x18, x19, x20, x21, x22, x23, x24, x25, x26, x27, x28, x29, x30, x31, x32, x33, x34, x35, x36, x37, x38, x39, x40, x41, x42, x43, undef, undef, undef], []⟩) (by kernel_rfl) ?_
      refine ls_p (d := some 44) (by kernel_rfl) (by kernel_rfl) (p_add (by kernel_rfl) (by kernel_rfl) H) (fun x44 H => ?_)
      refine ls_p (d := some 45) (by kernel_rfl) (by kernel_rfl) (p_min (by kernel_rfl) (by kernel_rfl) H) (fun x45 H => ?_)
      refine ls_d (d := some 46) (by kernel_rfl) (by kernel_rfl) HA_4 (d_call (by kernel_rfl) (by kernel_rfl) H) (fun x46 h_6 w_6 H HA_6 => ?_)
      refine ls_d (d := none) (by kernel_rfl) (by kernel_rfl) HA_6 (d_stn Try.sizeOf23 (by kernel_rfl) (by kernel_rfl) H) (fun _ h_7 w_7 H HA_7 => ?_)
      refine ls_nil ?_
      refine then_normal ?_
      refine fr_eq (b := ⟨#[x0, x1, x2, x3, x4, x5, x6, x7, x7, (D 0), (D 1), (D 2), x12, undef, x14, x15, x16, x17, x18, x19, x20, x21, x22, x23, x24, x25, x26, x27, x28, x29, x30, x31, x32, x33, x34, x35, x36, x37, x38, x39, x40, x41, x42, x43, x44, x45, x46], []⟩) (by kernel_rfl) ?_
      refine wp_ret ?_
      obtain ⟨r4_1, hr4_1, H⟩ := ld_n Try.isAgg23 Try.sizeOf23 H
      exact endR (vs := [r4_1]) (Try.results35) (by kernel_rfl) ⟨⟨_, (by kernel_rfl), hr4_1⟩, trivial⟩ HA_7 H _ (.inr rfl)

end Go.Proofs.Ythhpieidlpjbmaa
