/- The shallow reading of one function, and that the function does it. Written by a program. -/
import Derived.Test.YthhpieidlpjbmaaFnC
set_option linter.unusedVariables false
namespace Go.Proofs.Ythhpieidlpjbmaa
open Go Go.HW

def grid_Grid_Fill_l2 (next : Value → Heap → Prop) (x5 x16 x32 x34 : Value) (next1 : Value → Heap → Prop) (x35 : Value) (h_7 : Heap) : Prop :=
  sLt x35 x34 fun x36 =>
  sIf x36 (sLdN h_7 x5 4 fun x40 =>
  sIxS x32 x35 4 fun x41 =>
  sStN h_7 x41 x40 4 fun h_8 => 
  sAdd .i64 x35 (.int .i64 1) fun x42 =>
  next1 x42 h_8) (sAdd .i64 x16 (.int .i64 1) fun x43 =>
  next x43 h_7)
def grid_Grid_Fill_l1 (R : Value → Heap → Prop) (x0 x4 x5 x15 : Value) (next : Value → Heap → Prop) (x16 : Value) (h_5 : Heap) : Prop :=
  sLt x16 x15 fun x17 =>
  sIf x17 (∃ C_1 : Heap → Prop, C_1 h_5 ∧ (sOff x4 1 fun x20 =>
  sLd h_5 x20 fun x21 =>
  sAdd .i64 x21 x16 fun x23 =>
  grid_Grid_row_c x0 x23 h_5 fun x24 h_6 => C_1 h_6 ∧ (
  sOff x4 0 fun x25 =>
  sLdC C_1 x25 fun x26 =>
  sOff x4 0 fun x27 =>
  sLdC C_1 x27 fun x28 =>
  sOff x4 2 fun x29 =>
  sLdC C_1 x29 fun x30 =>
  sAdd .i64 x28 x30 fun x31 =>
  sSl x24 (some x26) (some x31) 4 fun x32 =>
  sLen x32 fun x34 =>
  sLoop (S := Value) (fun nxt s h => grid_Grid_Fill_l2 next x5 x16 x32 x34 (fun x35' h => nxt x35' h) s h) (.int .i64 0) h_6))) (sLdN h_5 x4 4 fun x44 =>
  rect_Area_c x44 h_5 fun x45 h_9 => 
  R x45 h_9)
def grid_Grid_Fill_S (x0 x1 x2 : Value) (h : Heap) (R : Value → Heap → Prop) : Prop :=
  sBox h x1 23 fun x4 h => 
  sBox h x2 27 fun x5 h_1 => 
  ∃ C : Heap → Prop, C h_1 ∧ (sLdNC C x4 4 fun x10 =>
  grid_Grid_all_c x0 h_1 fun x12 h_2 => C h_2 ∧ (
  rect_Both_c x10 x12 h_2 fun x13 h_3 => 
  sStN h_3 x4 x13 4 fun h_4 => 
  sOff x4 3 fun x14 =>
  sLd h_4 x14 fun x15 =>
  sLoop (S := Value) (fun nxt s h => grid_Grid_Fill_l1 R x0 x4 x5 x15 (fun x16' h => nxt x16' h) s h) (.int .i64 0) h_4))
set_option maxRecDepth 100000 in
theorem grid_Grid_Fill_runs {x0 x1 x2 : Value} {h : Heap} {R : Value → Heap → Prop} (H : grid_Grid_Fill_S x0 x1 x2 h R) : grid_Grid_Fill_c x0 x1 x2 h R := by
  unfold grid_Grid_Fill_S at H
  refine runs_of (b := ⟨#[x0, x1, x2, undef, undef, undef, undef, undef, undef, undef, undef, undef, undef, undef, undef, undef, undef, undef, undef, undef, undef, undef, undef, undef, undef, undef, undef, undef, undef, undef, undef, undef, undef, undef, undef, undef, undef, undef, undef, undef, undef, undef, undef, undef, undef, undef], []⟩) Try.call12 Try.func12 rfl (by kernel_rfl) (fun w0 HA => ?_)
  refine wp_seq ?_
  refine lwp_list ?_
  refine ls_d (d := some 4) (by kernel_rfl) (by kernel_rfl) HA (d_box (by kernel_rfl) H) (fun x4 h w H HA => ?_)
  refine ls_d (d := some 5) (by kernel_rfl) (by kernel_rfl) HA (d_box (by kernel_rfl) H) (fun x5 h_1 w_1 H HA_1 => ?_)
  refine ls_assign (x := (.int .i64 0)) (by kernel_rfl) (by kernel_rfl) ?_
  refine ls_nil ?_
  refine then_normal ?_
  refine fr_eq (b := ⟨#[x0, x1, x2, undef, x4, x5, (.int .i64 0), undef, undef, undef, undef, undef, undef, undef, undef, undef, undef, undef, undef, undef, undef, undef, undef, undef, undef, undef, undef, undef, undef, undef, undef, undef, undef, undef, undef, undef, undef, undef, undef, undef, undef, undef, undef, undef, undef, undef], []⟩) (by kernel_rfl) ?_
  refine wp_seq ?_
  obtain ⟨C, HC, H⟩ := H
  refine lwp_mx (Nat.testBit 28) (Nat.testBit 4) (Nat.testBit 2) [0, 0, 2, 7, 15] (Nat.testBit 0) C [0, 1, 2, 3, 4] (by kernel_rfl) (by kernel_rfl) (by kernel_rfl) (by kernel_rfl) HA_1 HC ?_
  intro w_2 HA_2
  refine lm_f (d := some 10) (by kernel_rfl) rfl (by kernel_rfl) (by kernel_rfl) (by kernel_rfl) (by kernel_rfl) (c_ldn Try.isAgg23 Try.sizeOf23 (by kernel_rfl) H) (fun x10 H => ?_)
  refine lm_al (x := x0) (d := some 11) (by kernel_rfl) rfl (by kernel_rfl) (by kernel_rfl) (al_move (by kernel_rfl)) ?_
  refine lm_dc (d := some 12) (by kernel_rfl) rfl (by kernel_rfl) (by kernel_rfl) (by kernel_rfl) HA_2 (d_call (by kernel_rfl) (by kernel_rfl) H) (fun x12 h_2 w_3 H HA_3 => ?_)
  refine lm_d (d := some 13) (by kernel_rfl) rfl (by kernel_rfl) (by kernel_rfl) (by kernel_rfl) HA_3 (d_call (by kernel_rfl) (by kernel_rfl) H) (fun x13 h_3 w_4 H HA_4 => ?_)
  refine lm_d (d := none) (by kernel_rfl) rfl (by kernel_rfl) (by kernel_rfl) (by kernel_rfl) HA_4 (d_stn Try.sizeOf23 (by kernel_rfl) (by kernel_rfl) H) (fun _ h_4 w_5 H HA_5 => ?_)
  refine lm_nil ?_
  refine then_normal ?_
  refine fr_eq (b := ⟨#[x0, x1, x2, undef, x4, x5, (.int .i64 0), undef, undef, undef, x10, x0, x12, x13, undef, undef, undef, undef, undef, undef, undef, undef, undef, undef, undef, undef, undef, undef, undef, undef, undef, undef, undef, undef, undef, undef, undef, undef, undef, undef, undef, undef, undef, undef, undef, undef], []⟩) (by kernel_rfl) ?_
  refine wp_seq ?_
  refine wp_seq ?_
  refine lwp_list ?_
  refine ls_p (d := some 14) (by kernel_rfl) (by kernel_rfl) (p_off Try.underlying23 rfl (fun w => ⟨_, Try.sizeOf3 w⟩) rfl (by kernel_rfl) H) (fun x14 H => ?_)
  refine ls_y (d := some 15) (by kernel_rfl) (by kernel_rfl) HA_5 (y_ld Try.isAgg3 (by kernel_rfl) H) (fun x15 H => ?_)
  refine ls_move (x := (.int .i64 0)) (by kernel_rfl) (by kernel_rfl) ?_
  refine ls_nil ?_
  refine then_normal ?_
  refine fr_eq (b := ⟨#[x0, x1, x2, undef, x4, x5, (.int .i64 0), undef, undef, undef, x10, x0, x12, x13, x14, x15, (.int .i64 0), undef, undef, undef, undef, undef, undef, undef, undef, undef, undef, undef, undef, undef, undef, undef, undef, undef, undef, undef, undef, undef, undef, undef, undef, undef, undef, undef, undef, undef], []⟩) (by kernel_rfl) ?_
  refine wp_block ?_
  obtain ⟨I, m, H0, HB⟩ := H
  refine wp_loop (fun a w => ∃ (D : Nat → Value) (x16 : Value) (h_5 : Heap), a = ⟨#[x0, x1, x2, undef, x4, x5, (.int .i64 0), (D 0), (D 1), (D 2), x10, x0, x12, x13, x14, x15, x16, (D 3), (D 4), (D 5), (D 6), (D 7), (D 8), (D 9), (D 10), (D 11), (D 12), (D 13), (D 14), (D 15), (D 16), (D 17), (D 18), (D 19), (D 20), (D 21), (D 22), (D 23), (D 24), (D 25), (D 26), (D 27), (D 28), (D 29), undef, undef], []⟩ ∧ At w0 w h_5 ∧ I x16 h_5) (fun a w => m (a.tmps.getD 16 undef) w.heap) ?_ ?_
  · exact ⟨(fun i => ([undef, undef, undef, undef, undef, undef, undef, undef, undef, undef, undef, undef, undef, undef, undef, undef, undef, undef, undef, undef, undef, undef, undef, undef, undef, undef, undef, undef, undef, undef]).getD i undef), (.int .i64 0), h_4, by kernel_rfl, HA_5, H0⟩
  · rintro _ w_6 ⟨D, x16, h_5, rfl, HA_6, HI⟩
    have H : grid_Grid_Fill_l1 R x0 x4 x5 x15 (fun x16' h' => I x16' h' ∧ m x16' h' < m x16 h_5) x16 h_5 := HB x16 h_5 HI
    clear HB H0 HI
    unfold grid_Grid_Fill_l1 at H
    refine wp_seq ?_
    refine lwp_list ?_
    refine ls_p (d := some 17) (by kernel_rfl) (by kernel_rfl) (p_sLt (by kernel_rfl) (by kernel_rfl) H) (fun x17 H => ?_)
    refine ls_nil ?_
    refine then_normal ?_
    refine fr_eq (b := ⟨#[x0, x1, x2, undef, x4, x5, (.int .i64 0), (D 0), (D 1), (D 2), x10, x0, x12, x13, x14, x15, x16, x17, (D 4), (D 5), (D 6), (D 7), (D 8), (D 9), (D 10), (D 11), (D 12), (D 13), (D 14), (D 15), (D 16), (D 17), (D 18), (D 19), (D 20), (D 21), (D 22), (D 23), (D 24), (D 25), (D 26), (D 27), (D 28), (D 29), undef, undef], []⟩) (by kernel_rfl) ?_
    refine wp_seq ?_
    refine wp_if rfl H (fun H => ?_) (fun H => ?_)
    · refine wp_skip ?_
      refine then_normal ?_
      refine fr_eq (b := ⟨#[x0, x1, x2, undef, x4, x5, (.int .i64 0), (D 0), (D 1), (D 2), x10, x0, x12, x13, x14, x15, x16, x17, (D 4), (D 5), (D 6), (D 7), (D 8), (D 9), (D 10), (D 11), (D 12), (D 13), (D 14), (D 15), (D 16), (D 17), (D 18), (D 19), (D 20), (D 21), (D 22), (D 23), (D 24), (D 25), (D 26), (D 27), (D 28), (D 29), undef, undef], []⟩) (by kernel_rfl) ?_
      refine wp_seq ?_
      refine wp_block ?_
      refine wp_seq ?_
      refine lwp_list ?_
      refine ls_move (x := x16) (by kernel_rfl) (by kernel_rfl) ?_
      refine ls_assign (x := x16) (by kernel_rfl) (by kernel_rfl) ?_
      refine ls_nil ?_
      refine then_normal ?_
      refine fr_eq (b := ⟨#[x0, x1, x2, undef, x4, x5, (.int .i64 0), x16, (D 1), (D 2), x10, x0, x12, x13, x14, x15, x16, x17, x16, (D 5), (D 6), (D 7), (D 8), (D 9), (D 10), (D 11), (D 12), (D 13), (D 14), (D 15), (D 16), (D 17), (D 18), (D 19), (D 20), (D 21), (D 22), (D 23), (D 24), (D 25), (D 26), (D 27), (D 28), (D 29), undef, undef], []⟩) (by kernel_rfl) ?_
      refine wp_seq ?_
      obtain ⟨C_1, HC, H⟩ := H
      refine lwp_mx (Nat.testBit 32) (Nat.testBit 32) (Nat.testBit 30043) [0, 0, 2, 0, 14, 31, 0, 64, 0, 256, 0, 1024, 3840, 8191, 16383] (Nat.testBit 4) C_1 [0, 1, 2, 3, 4, 5, 6, 7, 8, 9, 10, 11, 12, 13, 14] (by kernel_rfl) (by kernel_rfl) (by kernel_rfl) (by kernel_rfl) HA_6 HC ?_
      intro w_7 HA_7
      refine lm_al (x := x0) (d := some 19) (by kernel_rfl) rfl (by kernel_rfl) (by kernel_rfl) (al_move (by kernel_rfl)) ?_
      refine lm_p (d := some 20) (by kernel_rfl) rfl (by kernel_rfl) (by kernel_rfl) (p_off Try.underlying23 rfl (fun w => ⟨_, Try.sizeOf3 w⟩) rfl (by kernel_rfl) H) (fun x20 H => ?_)
      refine lm_b (d := some 21) (by kernel_rfl) rfl (by kernel_rfl) (by kernel_rfl) (by kernel_rfl) (by kernel_rfl) (y_ld Try.isAgg3 (by kernel_rfl) H) (fun x21 H => ?_)
      refine lm_al (x := x16) (d := some 22) (by kernel_rfl) rfl (by kernel_rfl) (by kernel_rfl) (al_move (by kernel_rfl)) ?_
      refine lm_p (d := some 23) (by kernel_rfl) rfl (by kernel_rfl) (by kernel_rfl) (p_add (by kernel_rfl) (by kernel_rfl) H) (fun x23 H => ?_)
      refine lm_dc (d := some 24) (by kernel_rfl) rfl (by kernel_rfl) (by kernel_rfl) (by kernel_rfl) HA_7 (d_call (by kernel_rfl) (by kernel_rfl) H) (fun x24 h_6 w_8 H HA_8 => ?_)
      refine lm_fr (b := ⟨#[x0, x1, x2, undef, x4, x5, (.int .i64 0), x16, (D 1), (D 2), x10, x0, x12, x13, x14, x15, x16, x17, x16, x0, x20, x21, x16, x23, x24, (D 11), (D 12), (D 13), (D 14), (D 15), (D 16), (D 17), (D 18), (D 19), (D 20), (D 21), (D 22), (D 23), (D 24), (D 25), (D 26), (D 27), (D 28), (D 29), undef, undef], []⟩) (by kernel_rfl) ?_
      refine lm_p (d := some 25) (by kernel_rfl) rfl (by kernel_rfl) (by kernel_rfl) (p_off Try.underlying23 rfl (fun w => ⟨_, Try.sizeOf3 w⟩) rfl (by kernel_rfl) H) (fun x25 H => ?_)
      refine lm_f (d := some 26) (by kernel_rfl) rfl (by kernel_rfl) (by kernel_rfl) (by kernel_rfl) (by kernel_rfl) (c_ld Try.isAgg3 (by kernel_rfl) H) (fun x26 H => ?_)
      refine lm_p (d := some 27) (by kernel_rfl) rfl (by kernel_rfl) (by kernel_rfl) (p_off Try.underlying23 rfl (fun w => ⟨_, Try.sizeOf3 w⟩) rfl (by kernel_rfl) H) (fun x27 H => ?_)
      refine lm_f (d := some 28) (by kernel_rfl) rfl (by kernel_rfl) (by kernel_rfl) (by kernel_rfl) (by kernel_rfl) (c_ld Try.isAgg3 (by kernel_rfl) H) (fun x28 H => ?_)
      refine lm_p (d := some 29) (by kernel_rfl) rfl (by kernel_rfl) (by kernel_rfl) (p_off Try.underlying23 rfl (fun w => ⟨_, Try.sizeOf3 w⟩) rfl (by kernel_rfl) H) (fun x29 H => ?_)
      refine lm_f (d := some 30) (by kernel_rfl) rfl (by kernel_rfl) (by kernel_rfl) (by kernel_rfl) (by kernel_rfl) (c_ld Try.isAgg3 (by kernel_rfl) H) (fun x30 H => ?_)
      refine lm_fr (b := ⟨#[x0, x1, x2, undef, x4, x5, (.int .i64 0), x16, (D 1), (D 2), x10, x0, x12, x13, x14, x15, x16, x17, x16, x0, x20, x21, x16, x23, x24, x25, x26, x27, x28, x29, x30, (D 17), (D 18), (D 19), (D 20), (D 21), (D 22), (D 23), (D 24), (D 25), (D 26), (D 27), (D 28), (D 29), undef, undef], []⟩) (by kernel_rfl) ?_
      refine lm_p (d := some 31) (by kernel_rfl) rfl (by kernel_rfl) (by kernel_rfl) (p_add (by kernel_rfl) (by kernel_rfl) H) (fun x31 H => ?_)
      refine lm_p (d := some 32) (by kernel_rfl) rfl (by kernel_rfl) (by kernel_rfl) (p_sl Try.underlying35 Try.sizeOf27 (by kernel_rfl) (by kernel_rfl) (by kernel_rfl) H) (fun x32 H => ?_)
      refine lm_al (x := x32) (d := some 8) (by kernel_rfl) rfl (by kernel_rfl) (by kernel_rfl) (al_assign (by kernel_rfl)) ?_
      refine lm_nil ?_
      refine then_normal ?_
      refine fr_eq (b := ⟨#[x0, x1, x2, undef, x4, x5, (.int .i64 0), x16, x32, (D 2), x10, x0, x12, x13, x14, x15, x16, x17, x16, x0, x20, x21, x16, x23, x24, x25, x26, x27, x28, x29, x30, x31, x32, (D 19), (D 20), (D 21), (D 22), (D 23), (D 24), (D 25), (D 26), (D 27), (D 28), (D 29), undef, undef], []⟩) (by kernel_rfl) ?_
      refine wp_seq ?_
      refine lwp_list ?_
      refine ls_move (x := x32) (by kernel_rfl) (by kernel_rfl) ?_
      refine ls_p (d := some 34) (by kernel_rfl) (by kernel_rfl) (p_len Try.underlying35 (by kernel_rfl) H) (fun x34 H => ?_)
      refine ls_move (x := (.int .i64 0)) (by kernel_rfl) (by kernel_rfl) ?_
      refine ls_nil ?_
      refine then_normal ?_
      refine fr_eq (b := ⟨#[x0, x1, x2, undef, x4, x5, (.int .i64 0), x16, x32, (D 2), x10, x0, x12, x13, x14, x15, x16, x17, x16, x0, x20, x21, x16, x23, x24, x25, x26, x27, x28, x29, x30, x31, x32, x32, x34, (.int .i64 0), (D 22), (D 23), (D 24), (D 25), (D 26), (D 27), (D 28), (D 29), undef, undef], []⟩) (by kernel_rfl) ?_
      refine wp_block ?_
      obtain ⟨I_1, m_1, H0, HB⟩ := H
      refine wp_loop (fun a w => ∃ (D_1 : Nat → Value) (x35 : Value) (h_7 : Heap), a = ⟨#[x0, x1, x2, undef, x4, x5, (.int .i64 0), x16, x32, (D_1 0), x10, x0, x12, x13, x14, x15, x16, x17, x16, x0, x20, x21, x16, x23, x24, x25, x26, x27, x28, x29, x30, x31, x32, x32, x34, x35, (D_1 1), (D_1 2), (D_1 3), (D_1 4), (D_1 5), (D_1 6), (D_1 7), (D 29), undef, undef], []⟩ ∧ At w0 w h_7 ∧ I_1 x35 h_7) (fun a w => m_1 (a.tmps.getD 35 undef) w.heap) ?_ ?_
      · exact ⟨(fun i => ([(D 2), (D 22), (D 23), (D 24), (D 25), (D 26), (D 27), (D 28)]).getD i undef), (.int .i64 0), h_6, by kernel_rfl, HA_8, H0⟩
      · rintro _ w_9 ⟨D_1, x35, h_7, rfl, HA_9, HI⟩
        have H : grid_Grid_Fill_l2 (fun x16' h' => I x16' h' ∧ m x16' h' < m x16 h_5) x5 x16 x32 x34 (fun x35' h' => I_1 x35' h' ∧ m_1 x35' h' < m_1 x35 h_7) x35 h_7 := HB x35 h_7 HI
        clear HB H0 HI
        unfold grid_Grid_Fill_l2 at H
        refine wp_seq ?_
        refine lwp_list ?_
        refine ls_p (d := some 36) (by kernel_rfl) (by kernel_rfl) (p_sLt (by kernel_rfl) (by kernel_rfl) H) (fun x36 H => ?_)
        refine ls_nil ?_
        refine then_normal ?_
        refine fr_eq (b := ⟨#[x0, x1, x2, undef, x4, x5, (.int .i64 0), x16, x32, (D_1 0), x10, x0, x12, x13, x14, x15, x16, x17, x16, x0, x20, x21, x16, x23, x24, x25, x26, x27, x28, x29, x30, x31, x32, x32, x34, x35, x36, (D_1 2), (D_1 3), (D_1 4), (D_1 5), (D_1 6), (D_1 7), (D 29), undef, undef], []⟩) (by kernel_rfl) ?_
        refine wp_seq ?_
        refine wp_if rfl H (fun H => ?_) (fun H => ?_)
        · refine wp_skip ?_
          refine then_normal ?_
          refine fr_eq (b := ⟨#[x0, x1, x2, undef, x4, x5, (.int .i64 0), x16, x32, (D_1 0), x10, x0, x12, x13, x14, x15, x16, x17, x16, x0, x20, x21, x16, x23, x24, x25, x26, x27, x28, x29, x30, x31, x32, x32, x34, x35, x36, (D_1 2), (D_1 3), (D_1 4), (D_1 5), (D_1 6), (D_1 7), (D 29), undef, undef], []⟩) (by kernel_rfl) ?_
          refine wp_seq ?_
          refine wp_block ?_
          refine wp_seq ?_
          refine lwp_list ?_
          refine ls_move (x := x35) (by kernel_rfl) (by kernel_rfl) ?_
          refine ls_assign (x := x35) (by kernel_rfl) (by kernel_rfl) ?_
          refine ls_nil ?_
          refine then_normal ?_
          refine fr_eq (b := ⟨#[x0, x1, x2, undef, x4, x5, (.int .i64 0), x16, x32, x35, x10, x0, x12, x13, x14, x15, x16, x17, x16, x0, x20, x21, x16, x23, x24, x25, x26, x27, x28, x29, x30, x31, x32, x32, x34, x35, x36, x35, (D_1 3), (D_1 4), (D_1 5), (D_1 6), (D_1 7), (D 29), undef, undef], []⟩) (by kernel_rfl) ?_
          refine lwp_list ?_
          refine ls_move (x := x32) (by kernel_rfl) (by kernel_rfl) ?_
          refine ls_move (x := x35) (by kernel_rfl) (by kernel_rfl) ?_
          refine ls_y (d := some 40) (by kernel_rfl) (by kernel_rfl) HA_9 (y_ldn Try.isAgg27 Try.sizeOf27 (by kernel_rfl) H) (fun x40 H => ?_)
          refine ls_p (d := some 41) (by kernel_rfl) (by kernel_rfl) (p_ixs Try.underlying35 Try.sizeOf27 (by kernel_rfl) (by kernel_rfl) H) (fun x41 H => ?_)
          refine ls_d (d := none) (by kernel_rfl) (by kernel_rfl) HA_9 (d_stn Try.sizeOf27 (by kernel_rfl) (by kernel_rfl) H) (fun _ h_8 w_10 H HA_10 => ?_)
          refine ls_nil ?_
          refine block_normal ?_
          refine then_normal ?_
          refine fr_eq (b := ⟨#[x0, x1, x2, undef, x4, x5, (.int .i64 0), x16, x32, x35, x10, x0, x12, x13, x14, x15, x16, x17, x16, x0, x20, x21, x16, x23, x24, x25, x26, x27, x28, x29, x30, x31, x32, x32, x34, x35, x36, x35, x32, x35, x40, x41, (D_1 7), (D 29), undef, undef], []⟩) (by kernel_rfl) ?_
          refine lwp_list ?_
          refine ls_p (d := some 42) (by kernel_rfl) (by kernel_rfl) (p_add (by kernel_rfl) (by kernel_rfl) H) (fun x42 H => ?_)
          refine ls_move (x := x42) (by kernel_rfl) (by kernel_rfl) ?_
          refine ls_nil ?_
          exact ⟨⟨(fun i => ([x35, x36, x35, x32, x35, x40, x41, x42]).getD i undef), x42, h_8, by kernel_rfl, HA_10, H.1⟩, loop_lt HA_10.heap HA_9.heap (by kernel_rfl) (by kernel_rfl) H.2⟩
        · refine wp_exit ?_
          refine then_exit ?_
          refine then_exit ?_
          refine block_exit ?_
          refine block_normal ?_
          refine then_normal ?_
          refine fr_eq (b := ⟨#[x0, x1, x2, undef, x4, x5, (.int .i64 0), x16, x32, (D_1 0), x10, x0, x12, x13, x14, x15, x16, x17, x16, x0, x20, x21, x16, x23, x24, x25, x26, x27, x28, x29, x30, x31, x32, x32, x34, x35, x36, (D_1 2), (D_1 3), (D_1 4), (D_1 5), (D_1 6), (D_1 7), (D 29), undef, undef], []⟩) (by kernel_rfl) ?_
          refine lwp_list ?_
          refine ls_p (d := some 43) (by kernel_rfl) (by kernel_rfl) (p_add (by kernel_rfl) (by kernel_rfl) H) (fun x43 H => ?_)
          refine ls_move (x := x43) (by kernel_rfl) (by kernel_rfl) ?_
          refine ls_nil ?_
          exact ⟨⟨(fun i => ([x16, x32, (D_1 0), x17, x16, x0, x20, x21, x16, x23, x24, x25, x26, x27, x28, x29, x30, x31, x32, x32, x34, x35, x36, (D_1 2), (D_1 3), (D_1 4), (D_1 5), (D_1 6), (D_1 7), x43]).getD i undef), x43, h_7, by kernel_rfl, HA_9, H.1⟩, loop_lt HA_9.heap HA_6.heap (by kernel_rfl) (by kernel_rfl) H.2⟩
    · refine wp_exit ?_
      refine then_exit ?_
      refine then_exit ?_
      refine block_exit ?_
      refine then_normal ?_
      refine fr_eq (b := ⟨#[x0, x1, x2, undef, x4, x5, (.int .i64 0), (D 0), (D 1), (D 2), x10, x0, x12, x13, x14, x15, x16, x17, (D 4), (D 5), (D 6), (D 7), (D 8), (D 9), (D 10), (D 11), (D 12), (D 13), (D 14), (D 15), (D 16), (D 17), (D 18), (D 19), (D 20), (D 21), (D 22), (D 23), (D 24), (D 25), (D 26), (D 27), (D 28), (D 29), undef, undef], []⟩) (by kernel_rfl) ?_
      refine wp_seq ?_
      refine lwp_list ?_
      refine ls_y (d := some 44) (by kernel_rfl) (by kernel_rfl) HA_6 (y_ldn Try.isAgg23 Try.sizeOf23 (by kernel_rfl) H) (fun x44 H => ?_)
      refine ls_d (d := some 45) (by kernel_rfl) (by kernel_rfl) HA_6 (d_call (by kernel_rfl) (by kernel_rfl) H) (fun x45 h_9 w_11 H HA_11 => ?_)
      refine ls_assign (x := x45) (by kernel_rfl) (by kernel_rfl) ?_
      refine ls_nil ?_
      refine then_normal ?_
      refine fr_eq (b := ⟨#[x0, x1, x2, undef, x4, x5, x45, (D 0), (D 1), (D 2), x10, x0, x12, x13, x14, x15, x16, x17, (D 4), (D 5), (D 6), (D 7), (D 8), (D 9), (D 10), (D 11), (D 12), (D 13), (D 14), (D 15), (D 16), (D 17), (D 18), (D 19), (D 20), (D 21), (D 22), (D 23), (D 24), (D 25), (D 26), (D 27), (D 28), (D 29), x44, x45], []⟩) (by kernel_rfl) ?_
      refine wp_ret ?_
      exact end1 (Try.results12) (by kernel_rfl) (by kernel_rfl) HA_11 H _ (.inr rfl)

end Go.Proofs.Ythhpieidlpjbmaa
