/- Texts in one. -/
import Derived.Test.YtmhhjpfkipficaaDoorFnC
import Derived.Test.YtmhhjpfkipficaaDoorHwB
import Derived.LaidMore
import Derived.LaidHandle
import Derived.LaidLaws
import Derived.MakeChecks
import Derived.Test.YtmhhjpfkipficaaDoorRows
import Derived.Test.YtmhhjpfkipficaaDoorKt1
section
/- The shallow reading of one function, and that the function does it. Written by a program. -/
set_option linter.unusedVariables false
namespace Go.Proofs.YtmhhjpfkipficaaDoor
open Go Go.HW

def grid_Grid_Fill_l2 (next : Value → Heap → Prop) (x5 x16 x32 x34 : Value) (next1 : Value → Heap → Prop) (x35 : Value) (h_7 : Heap) : Prop :=
  sLt x35 x34 fun x36 =>
  sIf x36 (sLdN h_7 x5 4 fun x40 =>
  sIxS x32 x35 4 fun x41 =>
  sStN h_7 x41 x40 4 fun h_8 => 
  sAdd .i64 x35 (.int .i64 1) fun x42 =>
  next1 x42 h_8) (sAdd .i64 x16 (.int .i64 1) fun x43 =>
  next x43 h_7)
def grid_Grid_Fill_l1 (R : Value → Heap → Prop) (x0 x4 x5 x15 : Value) (next : Value → Heap → Prop) (x16 : Value) (h_5 : Heap) : Prop :=
  sLt x16 x15 fun x17 =>
  sIf x17 (∃ C_1 : Heap → Prop, C_1 h_5 ∧ (sOff x4 1 fun x20 =>
  sLd h_5 x20 fun x21 =>
  sAdd .i64 x21 x16 fun x23 =>
  grid_Grid_row_c x0 x23 h_5 fun x24 h_6 => C_1 h_6 ∧ (
  sOff x4 0 fun x25 =>
  sLdC C_1 x25 fun x26 =>
  sOff x4 0 fun x27 =>
  sLdC C_1 x27 fun x28 =>
  sOff x4 2 fun x29 =>
  sLdC C_1 x29 fun x30 =>
  sAdd .i64 x28 x30 fun x31 =>
  sSl x24 (some x26) (some x31) 4 fun x32 =>
  sLen x32 fun x34 =>
  sLoop (S := Value) (fun nxt s h => grid_Grid_Fill_l2 next x5 x16 x32 x34 (fun x35' h => nxt x35' h) s h) (.int .i64 0) h_6))) (sLdN h_5 x4 4 fun x44 =>
  rect_Area_c x44 h_5 fun x45 h_9 => 
  R x45 h_9)
def grid_Grid_Fill_S (x0 x1 x2 : Value) (h : Heap) (R : Value → Heap → Prop) : Prop :=
  sBox h x1 83 fun x4 h => 
  sBox h x2 31 fun x5 h_1 => 
  ∃ C : Heap → Prop, C h_1 ∧ (sLdNC C x4 4 fun x10 =>
  grid_Grid_all_c x0 h_1 fun x12 h_2 => C h_2 ∧ (
  rect_Both_c x10 x12 h_2 fun x13 h_3 => 
  sStN h_3 x4 x13 4 fun h_4 => 
  sOff x4 3 fun x14 =>
  sLd h_4 x14 fun x15 =>
  sLoop (S := Value) (fun nxt s h => grid_Grid_Fill_l1 R x0 x4 x5 x15 (fun x16' h => nxt x16' h) s h) (.int .i64 0) h_4))
set_option maxRecDepth 100000 in
theorem grid_Grid_Fill_runs {x0 x1 x2 : Value} {h : Heap} {R : Value → Heap → Prop} (H : grid_Grid_Fill_S x0 x1 x2 h R) : grid_Grid_Fill_c x0 x1 x2 h R := by
  unfold grid_Grid_Fill_S at H
  refine runs_of (b := ⟨#[x0, x1, x2, undef, undef, undef, undef, undef, undef, undef, undef, undef, undef, undef, undef, undef, undef, undef, undef, undef, undef, undef, undef, undef, undef, undef, undef, undef, undef, undef, undef, undef, undef, undef, undef, undef, undef, undef, undef, undef, undef, undef, undef, undef, undef, undef], []⟩) Tryd.call69 Tryd.func69 rfl (by kernel_rfl) (fun w0 HA => ?_)
  refine wp_seq ?_
  refine lwp_list ?_
  refine ls_d (d := some 4) (by kernel_rfl) (by kernel_rfl) HA (d_box (by kernel_rfl) H) (fun x4 h w H HA => ?_)
  refine ls_d (d := some 5) (by kernel_rfl) (by kernel_rfl) HA (d_box (by kernel_rfl) H) (fun x5 h_1 w_1 H HA_1 => ?_)
  refine ls_assign (x := (.int .i64 0)) (by kernel_rfl) (by kernel_rfl) ?_
  refine ls_nil ?_
  refine then_normal ?_
  refine fr_eq (b := ⟨#[x0, x1, x2, undef, x4, x5, (.int .i64 0), undef, undef, undef, undef, undef, undef, undef, undef, undef, undef, undef, undef, undef, undef, undef, undef, undef, undef, undef, undef, undef, undef, undef, undef, undef, undef, undef, undef, undef, undef, undef, undef, undef, undef, undef, undef, undef, undef, undef], []⟩) (by kernel_rfl) ?_
  refine wp_seq ?_
  obtain ⟨C, HC, H⟩ := H
  refine lwp_mx (Nat.testBit 28) (Nat.testBit 4) (Nat.testBit 2) [0, 0, 2, 7, 15] (Nat.testBit 0) C [0, 1, 2, 3, 4] (by kernel_rfl) (by kernel_rfl) (by kernel_rfl) (by kernel_rfl) HA_1 HC ?_
  intro w_2 HA_2
  refine lm_f (d := some 10) (by kernel_rfl) rfl (by kernel_rfl) (by kernel_rfl) (by kernel_rfl) (by kernel_rfl) (c_ldn Tryd.isAgg83 Tryd.sizeOf83 (by kernel_rfl) H) (fun x10 H => ?_)
  refine lm_al (x := x0) (d := some 11) (by kernel_rfl) rfl (by kernel_rfl) (by kernel_rfl) (al_move (by kernel_rfl)) ?_
  refine lm_dc (d := some 12) (by kernel_rfl) rfl (by kernel_rfl) (by kernel_rfl) (by kernel_rfl) HA_2 (d_call (by kernel_rfl) (by kernel_rfl) H) (fun x12 h_2 w_3 H HA_3 => ?_)
  refine lm_d (d := some 13) (by kernel_rfl) rfl (by kernel_rfl) (by kernel_rfl) (by kernel_rfl) HA_3 (d_call (by kernel_rfl) (by kernel_rfl) H) (fun x13 h_3 w_4 H HA_4 => ?_)
  refine lm_d (d := none) (by kernel_rfl) rfl (by kernel_rfl) (by kernel_rfl) (by kernel_rfl) HA_4 (d_stn Tryd.sizeOf83 (by kernel_rfl) (by kernel_rfl) H) (fun _ h_4 w_5 H HA_5 => ?_)
  refine lm_nil ?_
  refine then_normal ?_
  refine fr_eq (b := ⟨#[x0, x1, x2, undef, x4, x5, (.int .i64 0), undef, undef, undef, x10, x0, x12, x13, undef, undef, undef, undef, undef, undef, undef, undef, undef, undef, undef, undef, undef, undef, undef, undef, undef, undef, undef, undef, undef, undef, undef, undef, undef, undef, undef, undef, undef, undef, undef, undef], []⟩) (by kernel_rfl) ?_
  refine wp_seq ?_
  refine wp_seq ?_
  refine lwp_list ?_
  refine ls_p (d := some 14) (by kernel_rfl) (by kernel_rfl) (p_off Tryd.underlying83 rfl (fun w => ⟨_, Tryd.sizeOf3 w⟩) rfl (by kernel_rfl) H) (fun x14 H => ?_)
  refine ls_y (d := some 15) (by kernel_rfl) (by kernel_rfl) HA_5 (y_ld Tryd.isAgg3 (by kernel_rfl) H) (fun x15 H => ?_)
  refine ls_move (x := (.int .i64 0)) (by kernel_rfl) (by kernel_rfl) ?_
  refine ls_nil ?_
  refine then_normal ?_
  refine fr_eq (b := ⟨#[x0, x1, x2, undef, x4, x5, (.int .i64 0), undef, undef, undef, x10, x0, x12, x13, x14, x15, (.int .i64 0), undef, undef, undef, undef, undef, undef, undef, undef, undef, undef, undef, undef, undef, undef, undef, undef, undef, undef, undef, undef, undef, undef, undef, undef, undef, undef, undef, undef, undef], []⟩) (by kernel_rfl) ?_
  refine wp_block ?_
  obtain ⟨I, m, H0, HB⟩ := H
  refine wp_loop (fun a w => ∃ (D : Nat → Value) (x16 : Value) (h_5 : Heap), a = ⟨#[x0, x1, x2, undef, x4, x5, (.int .i64 0), (D 0), (D 1), (D 2), x10, x0, x12, x13, x14, x15, x16, (D 3), (D 4), (D 5), (D 6), (D 7), (D 8), (D 9), (D 10), (D 11), (D 12), (D 13), (D 14), (D 15), (D 16), (D 17), (D 18), (D 19), (D 20), (D 21), (D 22), (D 23), (D 24), (D 25), (D 26), (D 27), (D 28), (D 29), undef, undef], []⟩ ∧ At w0 w h_5 ∧ I x16 h_5) (fun a w => m (a.tmps.getD 16 undef) w.heap) ?_ ?_
  · exact ⟨(fun i => ([undef, undef, undef, undef, undef, undef, undef, undef, undef, undef, undef, undef, undef, undef, undef, undef, undef, undef, undef, undef, undef, undef, undef, undef, undef, undef, undef, undef, undef, undef]).getD i undef), (.int .i64 0), h_4, by kernel_rfl, HA_5, H0⟩
  · rintro _ w_6 ⟨D, x16, h_5, rfl, HA_6, HI⟩
    have H : grid_Grid_Fill_l1 R x0 x4 x5 x15 (fun x16' h' => I x16' h' ∧ m x16' h' < m x16 h_5) x16 h_5 := HB x16 h_5 HI
    clear HB H0 HI
    unfold grid_Grid_Fill_l1 at H
    refine wp_seq ?_
    refine lwp_list ?_
    refine ls_p (d := some 17) (by kernel_rfl) (by kernel_rfl) (p_sLt (by kernel_rfl) (by kernel_rfl) H) (fun x17 H => ?_)
    refine ls_nil ?_
    refine then_normal ?_
    refine fr_eq (b := ⟨#[x0, x1, x2, undef, x4, x5, (.int .i64 0), (D 0), (D 1), (D 2), x10, x0, x12, x13, x14, x15, x16, x17, (D 4), (D 5), (D 6), (D 7), (D 8), (D 9), (D 10), (D 11), (D 12), (D 13), (D 14), (D 15), (D 16), (D 17), (D 18), (D 19), (D 20), (D 21), (D 22), (D 23), (D 24), (D 25), (D 26), (D 27), (D 28), (D 29), undef, undef], []⟩) (by kernel_rfl) ?_
    refine wp_seq ?_
    refine wp_if rfl H (fun H => ?_) (fun H => ?_)
    · refine wp_skip ?_
      refine then_normal ?_
      refine fr_eq (b := ⟨#[x0, x1, x2, undef, x4, x5, (.int .i64 0), (D 0), (D 1), (D 2), x10, x0, x12, x13, x14, x15, x16, x17, (D 4), (D 5), (D 6), (D 7), (D 8), (D 9), (D 10), (D 11), (D 12), (D 13), (D 14), (D 15), (D 16), (D 17), (D 18), (D 19), (D 20), (D 21), (D 22), (D 23), (D 24), (D 25), (D 26), (D 27), (D 28), (D 29), undef, undef], []⟩) (by kernel_rfl) ?_
      refine wp_seq ?_
      refine wp_block ?_
      refine wp_seq ?_
      refine lwp_list ?_
      refine ls_move (x := x16) (by kernel_rfl) (by kernel_rfl) ?_
      refine ls_assign (x := x16) (by kernel_rfl) (by kernel_rfl) ?_
      refine ls_nil ?_
      refine then_normal ?_
      refine fr_eq (b := ⟨#[x0, x1, x2, undef, x4, x5, (.int .i64 0), x16, (D 1), (D 2), x10, x0, x12, x13, x14, x15, x16, x17, x16, (D 5), (D 6), (D 7), (D 8), (D 9), (D 10), (D 11), (D 12), (D 13), (D 14), (D 15), (D 16), (D 17), (D 18), (D 19), (D 20), (D 21), (D 22), (D 23), (D 24), (D 25), (D 26), (D 27), (D 28), (D 29), undef, undef], []⟩) (by kernel_rfl) ?_
      refine wp_seq ?_
      obtain ⟨C_1, HC, H⟩ := H
      refine lwp_mx (Nat.testBit 32) (Nat.testBit 32) (Nat.testBit 30043) [0, 0, 2, 0, 14, 31, 0, 64, 0, 256, 0, 1024, 3840, 8191, 16383] (Nat.testBit 4) C_1 [0, 1, 2, 3, 4, 5, 6, 7, 8, 9, 10, 11, 12, 13, 14] (by kernel_rfl) (by kernel_rfl) (by kernel_rfl) (by kernel_rfl) HA_6 HC ?_
      intro w_7 HA_7
      refine lm_al (x := x0) (d := some 19) (by kernel_rfl) rfl (by kernel_rfl) (by kernel_rfl) (al_move (by kernel_rfl)) ?_
      refine lm_p (d := some 20) (by kernel_rfl) rfl (by kernel_rfl) (by kernel_rfl) (p_off Tryd.underlying83 rfl (fun w => ⟨_, Tryd.sizeOf3 w⟩) rfl (by kernel_rfl) H) (fun x20 H => ?_)
      refine lm_b (d := some 21) (by kernel_rfl) rfl (by kernel_rfl) (by kernel_rfl) (by kernel_rfl) (by kernel_rfl) (y_ld Tryd.isAgg3 (by kernel_rfl) H) (fun x21 H => ?_)
      refine lm_al (x := x16) (d := some 22) (by kernel_rfl) rfl (by kernel_rfl) (by kernel_rfl) (al_move (by kernel_rfl)) ?_
      refine lm_p (d := some 23) (by kernel_rfl) rfl (by kernel_rfl) (by kernel_rfl) (p_add (by kernel_rfl) (by kernel_rfl) H) (fun x23 H => ?_)
      refine lm_dc (d := some 24) (by kernel_rfl) rfl (by kernel_rfl) (by kernel_rfl) (by kernel_rfl) HA_7 (d_call (by kernel_rfl) (by kernel_rfl) H) (fun x24 h_6 w_8 H HA_8 => ?_)
      refine lm_fr (b := ⟨#[x0, x1, x2, undef, x4, x5, (.int .i64 0), x16, (D 1), (D 2), x10, x0, x12, x13, x14, x15, x16, x17, x16, x0, x20, x21, x16, x23, x24, (D 11), (D 12), (D 13), (D 14), (D 15), (D 16), (D 17), (D 18), (D 19), (D 20), (D 21), (D 22), (D 23), (D 24), (D 25), (D 26), (D 27), (D 28), (D 29), undef, undef], []⟩) (by kernel_rfl) ?_
      refine lm_p (d := some 25) (by kernel_rfl) rfl (by kernel_rfl) (by kernel_rfl) (p_off Tryd.underlying83 rfl (fun w => ⟨_, Tryd.sizeOf3 w⟩) rfl (by kernel_rfl) H) (fun x25 H => ?_)
      refine lm_f (d := some 26) (by kernel_rfl) rfl (by kernel_rfl) (by kernel_rfl) (by kernel_rfl) (by kernel_rfl) (c_ld Tryd.isAgg3 (by kernel_rfl) H) (fun x26 H => ?_)
      refine lm_p (d := some 27) (by kernel_rfl) rfl (by kernel_rfl) (by kernel_rfl) (p_off Tryd.underlying83 rfl (fun w => ⟨_, Tryd.sizeOf3 w⟩) rfl (by kernel_rfl) H) (fun x27 H => ?_)
      refine lm_f (d := some 28) (by kernel_rfl) rfl (by kernel_rfl) (by kernel_rfl) (by kernel_rfl) (by kernel_rfl) (c_ld Tryd.isAgg3 (by kernel_rfl) H) (fun x28 H => ?_)
      refine lm_p (d := some 29) (by kernel_rfl) rfl (by kernel_rfl) (by kernel_rfl) (p_off Tryd.underlying83 rfl (fun w => ⟨_, Tryd.sizeOf3 w⟩) rfl (by kernel_rfl) H) (fun x29 H => ?_)
      refine lm_f (d := some 30) (by kernel_rfl) rfl (by kernel_rfl) (by kernel_rfl) (by kernel_rfl) (by kernel_rfl) (c_ld Tryd.isAgg3 (by kernel_rfl) H) (fun x30 H => ?_)
      refine lm_fr (b := ⟨#[x0, x1, x2, undef, x4, x5, (.int .i64 0), x16, (D 1), (D 2), x10, x0, x12, x13, x14, x15, x16, x17, x16, x0, x20, x21, x16, x23, x24, x25, x26, x27, x28, x29, x30, (D 17), (D 18), (D 19), (D 20), (D 21), (D 22), (D 23), (D 24), (D 25), (D 26), (D 27), (D 28), (D 29), undef, undef], []⟩) (by kernel_rfl) ?_
      refine lm_p (d := some 31) (by kernel_rfl) rfl (by kernel_rfl) (by kernel_rfl) (p_add (by kernel_rfl) (by kernel_rfl) H) (fun x31 H => ?_)
      refine lm_p (d := some 32) (by kernel_rfl) rfl (by kernel_rfl) (by kernel_rfl) (p_sl Tryd.underlying32 Tryd.sizeOf31 (by kernel_rfl) (by kernel_rfl) (by kernel_rfl) H) (fun x32 H => ?_)
      refine lm_al (x := x32) (d := some 8) (by kernel_rfl) rfl (by kernel_rfl) (by kernel_rfl) (al_assign (by kernel_rfl)) ?_
      refine lm_nil ?_
      refine then_normal ?_
      refine fr_eq (b := ⟨#[x0, x1, x2, undef, x4, x5, (.int .i64 0), x16, x32, (D 2), x10, x0, x12, x13, x14, x15, x16, x17, x16, x0, x20, x21, x16, x23, x24, x25, x26, x27, x28, x29, x30, x31, x32, (D 19), (D 20), (D 21), (D 22), (D 23), (D 24), (D 25), (D 26), (D 27), (D 28), (D 29), undef, undef], []⟩) (by kernel_rfl) ?_
      refine wp_seq ?_
      refine lwp_list ?_
      refine ls_move (x := x32) (by kernel_rfl) (by kernel_rfl) ?_
      refine ls_p (d := some 34) (by kernel_rfl) (by kernel_rfl) (p_len Tryd.underlying32 (by kernel_rfl) H) (fun x34 H => ?_)
      refine ls_move (x := (.int .i64 0)) (by kernel_rfl) (by kernel_rfl) ?_
      refine ls_nil ?_
      refine then_normal ?_
      refine fr_eq (b := ⟨#[x0, x1, x2, undef, x4, x5, (.int .i64 0), x16, x32, (D 2), x10, x0, x12, x13, x14, x15, x16, x17, x16, x0, x20, x21, x16, x23, x24, x25, x26, x27, x28, x29, x30, x31, x32, x32, x34, (.int .i64 0), (D 22), (D 23), (D 24), (D 25), (D 26), (D 27), (D 28), (D 29), undef, undef], []⟩) (by kernel_rfl) ?_
      refine wp_block ?_
      obtain ⟨I_1, m_1, H0, HB⟩ := H
      refine wp_loop (fun a w => ∃ (D_1 : Nat → Value) (x35 : Value) (h_7 : Heap), a = ⟨#[x0, x1, x2, undef, x4, x5, (.int .i64 0), x16, x32, (D_1 0), x10, x0, x12, x13, x14, x15, x16, x17, x16, x0, x20, x21, x16, x23, x24, x25, x26, x27, x28, x29, x30, x31, x32, x32, x34, x35, (D_1 1), (D_1 2), (D_1 3), (D_1 4), (D_1 5), (D_1 6), (D_1 7), (D 29), undef, undef], []⟩ ∧ At w0 w h_7 ∧ I_1 x35 h_7) (fun a w => m_1 (a.tmps.getD 35 undef) w.heap) ?_ ?_
      · exact ⟨(fun i => ([(D 2), (D 22), (D 23), (D 24), (D 25), (D 26), (D 27), (D 28)]).getD i undef), (.int .i64 0), h_6, by kernel_rfl, HA_8, H0⟩
      · rintro _ w_9 ⟨D_1, x35, h_7, rfl, HA_9, HI⟩
        have H : grid_Grid_Fill_l2 (fun x16' h' => I x16' h' ∧ m x16' h' < m x16 h_5) x5 x16 x32 x34 (fun x35' h' => I_1 x35' h' ∧ m_1 x35' h' < m_1 x35 h_7) x35 h_7 := HB x35 h_7 HI
        clear HB H0 HI
        unfold grid_Grid_Fill_l2 at H
        refine wp_seq ?_
        refine lwp_list ?_
        refine ls_p (d := some 36) (by kernel_rfl) (by kernel_rfl) (p_sLt (by kernel_rfl) (by kernel_rfl) H) (fun x36 H => ?_)
        refine ls_nil ?_
        refine then_normal ?_
        refine fr_eq (b := ⟨#[x0, x1, x2, undef, x4, x5, (.int .i64 0), x16, x32, (D_1 0), x10, x0, x12, x13, x14, x15, x16, x17, x16, x0, x20, x21, x16, x23, x24, x25, x26, x27, x28, x29, x30, x31, x32, x32, x34, x35, x36, (D_1 2), (D_1 3), (D_1 4), (D_1 5), (D_1 6), (D_1 7), (D 29), undef, undef], []⟩) (by kernel_rfl) ?_
        refine wp_seq ?_
        refine wp_if rfl H (fun H => ?_) (fun H => ?_)
        · refine wp_skip ?_
          refine then_normal ?_
          refine fr_eq (b := ⟨#[x0, x1, x2, undef, x4, x5, (.int .i64 0), x16, x32, (D_1 0), x10, x0, x12, x13, x14, x15, x16, x17, x16, x0, x20, x21, x16, x23, x24, x25, x26, x27, x28, x29, x30, x31, x32, x32, x34, x35, x36, (D_1 2), (D_1 3), (D_1 4), (D_1 5), (D_1 6), (D_1 7), (D 29), undef, undef], []⟩) (by kernel_rfl) ?_
          refine wp_seq ?_
          refine wp_block ?_
          refine wp_seq ?_
          refine lwp_list ?_
          refine ls_move (x := x35) (by kernel_rfl) (by kernel_rfl) ?_
          refine ls_assign (x := x35) (by kernel_rfl) (by kernel_rfl) ?_
          refine ls_nil ?_
          refine then_normal ?_
          refine fr_eq (b := ⟨#[x0, x1, x2, undef, x4, x5, (.int .i64 0), x16, x32, x35, x10, x0, x12, x13, x14, x15, x16, x17, x16, x0, x20, x21, x16, x23, x24, x25, x26, x27, x28, x29, x30, x31, x32, x32, x34, x35, x36, x35, (D_1 3), (D_1 4), (D_1 5), (D_1 6), (D_1 7), (D 29), undef, undef], []⟩) (by kernel_rfl) ?_
          refine lwp_list ?_
          refine ls_move (x := x32) (by kernel_rfl) (by kernel_rfl) ?_
          refine ls_move (x := x35) (by kernel_rfl) (by kernel_rfl) ?_
          refine ls_y (d := some 40) (by kernel_rfl) (by kernel_rfl) HA_9 (y_ldn Tryd.isAgg31 Tryd.sizeOf31 (by kernel_rfl) H) (fun x40 H => ?_)
          refine ls_p (d := some 41) (by kernel_rfl) (by kernel_rfl) (p_ixs Tryd.underlying32 Tryd.sizeOf31 (by kernel_rfl) (by kernel_rfl) H) (fun x41 H => ?_)
          refine ls_d (d := none) (by kernel_rfl) (by kernel_rfl) HA_9 (d_stn Tryd.sizeOf31 (by kernel_rfl) (by kernel_rfl) H) (fun _ h_8 w_10 H HA_10 => ?_)
          refine ls_nil ?_
          refine block_normal ?_
          refine then_normal ?_
          refine fr_eq (b := ⟨#[x0, x1, x2, undef, x4, x5, (.int .i64 0), x16, x32, x35, x10, x0, x12, x13, x14, x15, x16, x17, x16, x0, x20, x21, x16, x23, x24, x25, x26, x27, x28, x29, x30, x31, x32, x32, x34, x35, x36, x35, x32, x35, x40, x41, (D_1 7), (D 29), undef, undef], []⟩) (by kernel_rfl) ?_
          refine lwp_list ?_
          refine ls_p (d := some 42) (by kernel_rfl) (by kernel_rfl) (p_add (by kernel_rfl) (by kernel_rfl) H) (fun x42 H => ?_)
          refine ls_move (x := x42) (by kernel_rfl) (by kernel_rfl) ?_
          refine ls_nil ?_
          exact ⟨⟨(fun i => ([x35, x36, x35, x32, x35, x40, x41, x42]).getD i undef), x42, h_8, by kernel_rfl, HA_10, H.1⟩, loop_lt HA_10.heap HA_9.heap (by kernel_rfl) (by kernel_rfl) H.2⟩
        · refine wp_exit ?_
          refine then_exit ?_
          refine then_exit ?_
          refine block_exit ?_
          refine block_normal ?_
          refine then_normal ?_
          refine fr_eq (b := ⟨#[x0, x1, x2, undef, x4, x5, (.int .i64 0), x16, x32, (D_1 0), x10, x0, x12, x13, x14, x15, x16, x17, x16, x0, x20, x21, x16, x23, x24, x25, x26, x27, x28, x29, x30, x31, x32, x32, x34, x35, x36, (D_1 2), (D_1 3), (D_1 4), (D_1 5), (D_1 6), (D_1 7), (D 29), undef, undef], []⟩) (by kernel_rfl) ?_
          refine lwp_list ?_
          refine ls_p (d := some 43) (by kernel_rfl) (by kernel_rfl) (p_add (by kernel_rfl) (by kernel_rfl) H) (fun x43 H => ?_)
          refine ls_move (x := x43) (by kernel_rfl) (by kernel_rfl) ?_
          refine ls_nil ?_
          exact ⟨⟨(fun i => ([x16, x32, (D_1 0), x17, x16, x0, x20, x21, x16, x23, x24, x25, x26, x27, x28, x29, x30, x31, x32, x32, x34, x35, x36, (D_1 2), (D_1 3), (D_1 4), (D_1 5), (D_1 6), (D_1 7), x43]).getD i undef), x43, h_7, by kernel_rfl, HA_9, H.1⟩, loop_lt HA_9.heap HA_6.heap (by kernel_rfl) (by kernel_rfl) H.2⟩
    · refine wp_exit ?_
      refine then_exit ?_
      refine then_exit ?_
      refine block_exit ?_
      refine then_normal ?_
      refine fr_eq (b := ⟨#[x0, x1, x2, undef, x4, x5, (.int .i64 0), (D 0), (D 1), (D 2), x10, x0, x12, x13, x14, x15, x16, x17, (D 4), (D 5), (D 6), (D 7), (D 8), (D 9), (D 10), (D 11), (D 12), (D 13), (D 14), (D 15), (D 16), (D 17), (D 18), (D 19), (D 20), (D 21), (D 22), (D 23), (D 24), (D 25), (D 26), (D 27), (D 28), (D 29), undef, undef], []⟩) (by kernel_rfl) ?_
      refine wp_seq ?_
      refine lwp_list ?_
      refine ls_y (d := some 44) (by kernel_rfl) (by kernel_rfl) HA_6 (y_ldn Tryd.isAgg83 Tryd.sizeOf83 (by kernel_rfl) H) (fun x44 H => ?_)
      refine ls_d (d := some 45) (by kernel_rfl) (by kernel_rfl) HA_6 (d_call (by kernel_rfl) (by kernel_rfl) H) (fun x45 h_9 w_11 H HA_11 => ?_)
      refine ls_assign (x := x45) (by kernel_rfl) (by kernel_rfl) ?_
      refine ls_nil ?_
      refine then_normal ?_
      refine fr_eq (b := ⟨#[x0, x1, x2, undef, x4, x5, x45, (D 0), (D 1), (D 2), x10, x0, x12, x13, x14, x15, x16, x17, (D 4), (D 5), (D 6), (D 7), (D 8), (D 9), (D 10), (D 11), (D 12), (D 13), (D 14), (D 15), (D 16), (D 17), (D 18), (D 19), (D 20), (D 21), (D 22), (D 23), (D 24), (D 25), (D 26), (D 27), (D 28), (D 29), x44, x45], []⟩) (by kernel_rfl) ?_
      refine wp_ret ?_
      exact end1 (Tryd.results69) (by kernel_rfl) (by kernel_rfl) HA_11 H _ (.inr rfl)

end Go.Proofs.YtmhhjpfkipficaaDoor

end

section
/- Grids: rectangles filled. -/
set_option linter.unusedSimpArgs false
set_option linter.unusedVariables false
namespace Go.Proofs.YtmhhjpfkipficaaDoor
open Go Go.HW

/-- A grid's cells with a rectangle filled. -/
def fillR (l : List Ce) (w : Int) (q : Rc) (c : Ce) : List Ce := putRows l w q.x q.y (fun _ => List.replicate q.w.toNat c) q.h.toNat
theorem fillR_len (l : List Ce) (w : Int) (q : Rc) (c : Ce) : (fillR l w q c).length = l.length := putRows_len _ _ _ _ _ _
theorem fillR_ok {l : List Ce} {w g : Int} {q : Rc} {c : Ce} (z : szOk w g l) : szOk w g (fillR l w q c) := put_ok z
theorem fillR_cell {l : List Ce} {w g x y : Int} {r : Rc} {c : Ce} (z : szOk w g l) : cell (fillR l w (r.both (allR w g)) c) w g x y = if (r.both (allR w g)).has x y then c else cell l w g x y := by
  have zz := z
  obtain ⟨z1, z2, z3, z4, z5⟩ := zz
  obtain ⟨_, b1, b2, b3, b4⟩ := both_area (a := r) ⟨z1, z2⟩ ⟨z3, z4⟩
  unfold fillR
  generalize r.both (allR w g) = q at b1 b2 b3 b4
  rw [cell_put z b1 b3 b2.1 (by omega) (fun k _ => by rw [List.length_replicate]; omega)]
  by_cases hc : q.has x y
  · have hc' := hc
    unfold Rc.has at hc'
    rw [if_pos hc, if_pos (by omega), getD_of, List.getElem?_replicate, if_pos (by omega)]; rfl
  · have hc' := hc
    unfold Rc.has at hc'
    rw [if_neg hc, if_neg (by omega)]
theorem setAll_snoc : ∀ (s : List Ce) (l : List Ce) (p : Nat) (c : Ce), setAll l p (s ++ [c]) = (setAll l p s).set (p + s.length) c
  | [], l, p, c => rfl
  | x :: s, l, p, c => by
    rw [List.cons_append, setAll, setAll_snoc s, setAll, List.length_cons, show p + 1 + s.length = p + (s.length + 1) by omega]
theorem both_pos {a : Rc} {w g : Int} (h : 0 < (a.both (allR w g)).h) : (a.both (allR w g)).empty = false := by
  unfold Rc.empty
  generalize hq : a.both (allR w g) = q at h ⊢
  unfold Rc.both at hq
  split at hq
  · unfold rof at hq
    split at hq
    · rw [← hq] at h; simp at h
    · rw [← hq] at h ⊢
      simp only at h ⊢
      simp only [Bool.or_eq_false_iff, decide_eq_false_iff_not]
      omega
  · rw [← hq] at h; simp at h

section
variable {h0 h : Heap} {F : List HP} {R : Value → Heap → Prop}
theorem cutP_cut2 {v : Value} {l : List Ce} {a b X Y : Nat} (q : Seq encCe 4 h v l) (h1 : a + X < b) (h2 : b ≤ l.length) : HW.cutP (HW.cutP v a b 4) X Y 4 = HW.cutP v (a + X) (a + Y) 4 := by
  obtain ⟨va, n, m, rfl, hn, hm, h3 | ⟨bb, o, rfl, hb, hc⟩⟩ := q
  · omega
  · simp only [HW.cutP, cutV]
    rw [if_neg (show ¬ m = a by omega), if_neg (show ¬ m - a = X by omega), if_neg (show ¬ m = a + X by omega)]
    simp only [Option.map_some, Addr.add]
    have e1 : Y - X = a + Y - (a + X) := by omega
    have e2 : m - a - X = m - (a + X) := by omega
    rw [e1, e2]
    congr 2
    by_cases ha : a * 4 = 0
    · have : a = 0 := by omega
      subst this
      simp
    · rw [if_neg ha]
      by_cases hX : X * 4 = 0
      · have : X = 0 := by omega
        subst this
        rw [if_pos (by omega), if_neg (by omega)]; rfl
      · rw [if_neg hX, if_neg (by omega)]
        simp only [Addr.mk.injEq, and_true, true_and]
        omega
theorem fill_spec {kg : Nat} {w g : Int} {v : Value} {l : List Ce} {r : Rc} {c : Ce} (z : szOk w g l)
    (s : HW.Sep h0 (Blk kg (grd w g v) 89 :: Sl encCe 4 v l :: F) h)
    (H : ∀ h', HW.Sep h0 (Blk kg (grd w g v) 89 :: Sl encCe 4 v (fillR l w (r.both (allR w g)) c) :: F) h' → R (.int .i64 (r.both (allR w g)).area) h') :
    grid_Grid_Fill_c (ptr kg 0) r.v (.agg c.a) h R := by
  apply grid_Grid_Fill_runs
  unfold grid_Grid_Fill_S
  refine s.box (c := r.c) r.cells (fun k4 h1 s1 => ?_)
  refine s1.box (c := c.a) rfl (fun k5 h2 s2 => ?_)
  have b4 : h2.has k4 r.c 83 := s2.b1.has
  refine ⟨fun h' => h'.has k4 r.c 83, b4, ?_⟩
  have cA : ∀ {K : Value → Prop}, sLdNC (fun h' => h'.has k4 r.c 83) (ptr k4 0) 4 K = K r.v := fun {K} => ldnc_all (C := fun h' => h'.has k4 r.c 83) (h0 := h2) b4 rfl (fun _ e => e)
  rw [cA]
  refine all_spec s2.b2 (fun h3 e3 => ⟨e3.has b4, ?_⟩)
  refine rboth_spec (a := r) (b := allR w g) (fun h4 e4 => ?_)
  have zz := z
  obtain ⟨z1, z2, z3, z4, z5⟩ := zz
  obtain ⟨_, b1, b2, b3, b4⟩ := both_area (a := r) ⟨z1, z2⟩ ⟨z3, z4⟩
  have hpos := both_pos (a := r) (w := w) (g := g)
  unfold fillR at H
  generalize r.both (allR w g) = q at b1 b2 b3 b4 H hpos
  refine ((s2.ext' e3).ext' e4).b1.stall (cs := q.c) rfl rfl (Rc.cell1 _) (fun h5 s5 => ?_)
  have f3 : ∀ {K : Value → Prop}, sLd h5 (ptr k4 3) K = K (.int .i64 q.h) := s5.ld rfl
  rw [ev_off, Nat.zero_add, f3]
  generalize hrw : (fun _ : Nat => List.replicate q.w.toNat c) = rw_ at H
  refine ⟨fun t h' => ∃ i : Nat, (i : Int) ≤ q.h ∧ t = .int .i64 i ∧ HW.Sep h0 (Blk k4 q.c 83 :: Blk k5 c.a 31 :: Blk kg (grd w g v) 89 :: Sl encCe 4 v (putRows l w q.x q.y rw_ i) :: F) h', fun t _ => match t with | .int _ k => (q.h - k).toNat | _ => 0, ⟨0, by omega, rfl, s5⟩, ?_⟩
  rintro _ h6 ⟨i, hi, rfl, s6⟩
  simp only []
  unfold grid_Grid_Fill_l1
  rw [ev_lt, ev_if]
  by_cases hlt : (i : Int) < q.h
  · rw [if_pos (decide_eq_true hlt)]
    have hw : 1 ≤ q.w := by
      have := hpos (by omega)
      unfold Rc.empty at this
      simp only [Bool.or_eq_false_iff, decide_eq_false_iff_not] at this
      omega
    have b4' : h6.has k4 q.c 83 := s6.has
    refine ⟨fun h' => h'.has k4 q.c 83, b4', ?_⟩
    have f1 : ∀ {K : Value → Prop}, sLd h6 (ptr k4 1) K = K (.int .i64 q.y) := s6.ld rfl
    have c4 : ∀ {o : Nat} {u : Value} {K : Value → Prop}, q.c[o]? = some u → sLdC (fun h' => h'.has k4 q.c 83) (ptr k4 o) K = K u := fun hv => ldc_at (C := fun h' => h'.has k4 q.c 83) (h0 := h6) b4' (fun h' e => by rw [e.at, hv])
    rw [ev_off, Nat.zero_add, f1, ev_add, wrap_i64 (by omega) (by omega)]
    have hyk : 0 ≤ q.y + i ∧ q.y + i < g := by omega
    have zk : szOk w g (putRows l w q.x q.y rw_ i) := put_ok z
    refine row_spec (s6.tail2) zk hyk ⟨b4', ?_⟩
    simp only [ev_off]
    rw [c4 (o := 0) (u := .int .i64 q.x) rfl, c4 (o := 0) (u := .int .i64 q.x) rfl, c4 (o := 2) (u := .int .i64 q.w) rfl, ev_add, wrap_i64 (x := q.x + q.w) (by omega) (by omega)]
    have m := sz_mul ⟨z1, z2⟩ z4 hyk
    rw [Int.mul_comm w g] at z5
    obtain ⟨a, ha⟩ : ∃ a : Nat, (q.y + i) * w = a := ⟨((q.y + i) * w).toNat, by omega⟩
    obtain ⟨b, hb⟩ : ∃ b : Nat, (q.y + i + 1) * w = b := ⟨((q.y + i + 1) * w).toNat, by omega⟩
    obtain ⟨X, hX⟩ : ∃ X : Nat, q.x = X := ⟨q.x.toNat, by omega⟩
    obtain ⟨W, hW⟩ : ∃ W : Nat, q.w = W := ⟨q.w.toNat, by omega⟩
    have hlk : (putRows l w q.x q.y rw_ i).length = l.length := putRows_len _ _ _ _ _ _
    rw [ha, hb, Int.toNat_natCast, Int.toNat_natCast, show q.x + q.w = ((X + W : Nat) : Int) by omega, hX]
    have qv := s6.b3.seq
    have qc := qv.cutP (i := a) (j := b) (by omega) (by omega)
    refine qc.slK (i := X) (j := X + W) (by omega) (by simp only [List.length_drop, List.length_take]; omega) ⟨.i64, rfl⟩ ⟨.i64, rfl⟩ ?_
    rw [cutP_cut2 qv (by omega) (by omega)]
    have qd := qv.cutP (i := a + X) (j := a + (X + W)) (by omega) (by omega)
    rw [qd.len, show ((putRows l w q.x q.y rw_ i).take (a + (X + W)) |>.drop (a + X)).length = W by simp only [List.length_drop, List.length_take]; omega]
    refine ⟨fun t h' => ∃ j : Nat, j ≤ W ∧ t = .int .i64 j ∧ HW.Sep h0 (Blk k4 q.c 83 :: Blk k5 c.a 31 :: Blk kg (grd w g v) 89 :: Sl encCe 4 v (setAll (putRows l w q.x q.y rw_ i) (a + X) (List.replicate j c)) :: F) h', fun t _ => match t with | .int _ k => (W - k).toNat | _ => 0, ⟨0, Nat.zero_le _, rfl, s6⟩, ?_⟩
    rintro _ h7 ⟨j, hj, rfl, s7⟩
    simp only []
    unfold grid_Grid_Fill_l2
    rw [ev_lt, ev_if]
    by_cases hjt : j < W
    · rw [if_pos (by simpa using hjt), s7.b1.ldall (n := 4) rfl]
      have ql : Seq encCe 4 h7 v (setAll (putRows l w q.x q.y rw_ i) (a + X) (List.replicate j c)) := s7.b3.seq
      have qe := ql.cutP (i := a + X) (j := a + (X + W)) (by omega) (by rw [setAll_len]; omega)
      rw [qe.elt (by rw [List.length_drop, List.length_take, setAll_len]; omega), eltP_cut ql (by omega) (by rw [setAll_len]; omega)]
      refine s7.b3.setn encCe_len encCe_cell (by rw [setAll_len]; omega) c (fun h8 s8 => ?_)
      rw [ev_add, wrap_i64 (by omega) (by omega)]
      refine ⟨⟨j + 1, hjt, by rw [Int.natCast_add]; rfl, ?_⟩, by simp only; omega⟩
      rw [List.replicate_succ', setAll_snoc, List.length_replicate]
      exact s8.p3
    · have : j = W := by omega
      subst this
      rw [if_neg (by simp), ev_add, wrap_i64 (by omega) (by omega)]
      refine ⟨⟨i + 1, by omega, by rw [Int.natCast_add]; rfl, ?_⟩, by simp only; omega⟩
      have e : putRows l w q.x q.y rw_ (i + 1) = setAll (putRows l w q.x q.y rw_ i) (a + X) (List.replicate j c) := by
        rw [putRows, ha, hX, ← hrw, hW]
        congr 1
      rw [← hX, e]
      exact s7
  · rw [if_neg (by simpa using hlt), s6.ldall (n := 4) rfl]
    refine rarea_spec (r := q) (fun h7 e7 => H h7 ?_)
    rw [show q.h.toNat = i by omega]
    exact (s6.ext' e7).tail2
end
end Go.Proofs.YtmhhjpfkipficaaDoor

end

section
/- Grids: what cells a grid has behind a copy. -/
set_option linter.unusedSimpArgs false
set_option linter.unusedVariables false
namespace Go.Proofs.YtmhhjpfkipficaaDoor
open Go Go.HW

theorem srow_cell {l : List Ce} {w g x0 y0 n j : Int} {k : Nat} (z : szOk w g l) (hx : 0 ≤ x0 ∧ x0 + n ≤ w) (hy : 0 ≤ y0 + k ∧ y0 + k < g) (hj : 0 ≤ j ∧ j < n) : (srow l w x0 y0 n k).getD j.toNat ce0 = cell l w g (x0 + j) (y0 + k) := by
  have zz := z
  obtain ⟨z1, z2, z3, z4, z5⟩ := zz
  have m := sz_mul ⟨z1, z2⟩ z4 hy
  rw [Int.mul_comm w g] at z5
  unfold cell srow
  rw [if_pos (inG_iff.2 (by omega)), getD_of, getD_of, List.getElem?_drop, List.getElem?_take_of_lt (by omega), List.getElem?_drop, List.getElem?_take_of_lt (by omega)]
  congr 2
  omega
/-- What cells a grid has behind a copy. -/
theorem copy_cell {l l' : List Ce} {r : Rc} {w g x y w' g' a b : Int} (z : szOk w g l) (z' : szOk w' g' l') (he : (itR r w g x y w' g').empty = false) :
    cell (putRows l' w' (itR r w g x y w' g').x (itR r w g x y w' g').y (srow l w ((itR r w g x y w' g').x - x + r.x) ((itR r w g x y w' g').y - y + r.y) (itR r w g x y w' g').w) (itR r w g x y w' g').h.toNat) w' g' a b = if (itR r w g x y w' g').has a b then cell l w g (a - x + r.x) (b - y + r.y) else cell l' w' g' a b := by
  obtain ⟨g1, g2, g3, g4, g5, g6⟩ := geo he
  generalize itR r w g x y w' g' = it at g1 g2 g3 g4 g5 g6
  rw [cell_put z' (m := it.w) g3 (by omega) g4.1 (by omega) (fun k hk => by rw [srow_len z g1 g5 (by omega)]; omega)]
  by_cases hh : it.has a b
  · have h2 := hh
    unfold Rc.has at h2
    rw [if_pos hh, if_pos (by omega), srow_cell z g1 (by omega) (by omega)]
    congr 1 <;> omega
  · have h2 := hh
    unfold Rc.has at h2
    rw [if_neg hh, if_neg (by omega)]

end Go.Proofs.YtmhhjpfkipficaaDoor

end

section
/- The shallow reading of one function, and that the function does it. Written by a program. -/
set_option linter.unusedVariables false
namespace Go.Proofs.YtmhhjpfkipficaaDoor
open Go Go.HW

def grid_Grid_Row_S (x0 x1 : Value) (h : Heap) (R : Value → Heap → Prop) : Prop :=
  sLt x1 (.int .i64 0) fun x6 =>
  sOr x6 (fun k =>
  sNil x0 fun x10 =>
  sOff x10 1 fun x11 =>
  sLd h x11 fun x12 =>
  sGe x1 x12 fun x13 =>
  k x13) fun x14 =>
  sIf x14 (R (.slice none 0 0) h) (grid_Grid_row_c x0 x1 h fun x17 h => 
  slices_Clone_api_Cell_api_Cell_c x17 h fun x18 h_1 => 
  R x18 h_1)
set_option maxRecDepth 100000 in
theorem grid_Grid_Row_runs {x0 x1 : Value} {h : Heap} {R : Value → Heap → Prop} (H : grid_Grid_Row_S x0 x1 h R) : grid_Grid_Row_c x0 x1 h R := by
  unfold grid_Grid_Row_S at H
  refine runs_of (b := ⟨#[x0, x1, undef, undef, undef, undef, undef, undef, undef, undef, undef, undef, undef, undef, undef, undef, undef, undef, undef], []⟩) Tryd.call94 Tryd.func94 rfl (by kernel_rfl) (fun w0 HA => ?_)
  refine wp_seq ?_
  refine lwp_list ?_
  refine ls_assign (x := (.slice none 0 0)) (by kernel_rfl) (by kernel_rfl) ?_
  refine ls_nil ?_
  refine then_normal ?_
  refine fr_eq (b := ⟨#[x0, x1, undef, undef, (.slice none 0 0), undef, undef, undef, undef, undef, undef, undef, undef, undef, undef, undef, undef, undef, undef], []⟩) (by kernel_rfl) ?_
  refine wp_seq ?_
  refine wp_seq ?_
  refine lwp_list ?_
  refine ls_move (x := x1) (by kernel_rfl) (by kernel_rfl) ?_
  refine ls_p (d := some 6) (by kernel_rfl) (by kernel_rfl) (p_sLt (by kernel_rfl) (by kernel_rfl) H) (fun x6 H => ?_)
  refine ls_move (x := x6) (by kernel_rfl) (by kernel_rfl) ?_
  refine ls_or [(), (), (), (), (), (), ()] (fun K a w => ∃ (D : Nat → Value) (x14 : Value), a = ⟨#[x0, x1, undef, undef, (.slice none 0 0), x1, x6, x6, (D 0), (D 1), (D 2), (D 3), (D 4), (D 5), x14, undef, undef, undef, undef], []⟩ ∧ At w0 w h ∧ K x14) H (fun hb H => ?_) (fun hb H => ?_) ?_
  · refine ls_move (x := x1) (by rw [hb]; kernel_rfl) (by kernel_rfl) ?_
    refine ls_move (x := x0) (by rw [hb]; kernel_rfl) (by kernel_rfl) ?_
    refine ls_p (d := some 10) (by kernel_rfl) (by rw [hb]; kernel_rfl) (p_nil (by kernel_rfl) H) (fun x10 H => ?_)
    refine ls_fr (b := ⟨#[x0, x1, undef, undef, (.slice none 0 0), x1, x6, x6, x1, x0, x10, undef, undef, undef, undef, undef, undef, undef, undef], []⟩) (by kernel_rfl) ?_
    refine ls_p (d := some 11) (by kernel_rfl) (by rw [hb]; kernel_rfl) (p_off Tryd.underlying89 rfl (fun w => ⟨_, Tryd.sizeOf3 w⟩) rfl (by kernel_rfl) H) (fun x11 H => ?_)
    refine ls_y (d := some 12) (by kernel_rfl) (by rw [hb]; kernel_rfl) HA (y_ld Tryd.isAgg3 (by kernel_rfl) H) (fun x12 H => ?_)
    refine ls_p (d := some 13) (by kernel_rfl) (by rw [hb]; kernel_rfl) (p_sGe (by kernel_rfl) (by kernel_rfl) H) (fun x13 H => ?_)
    refine ls_pick_f (y := x13) (by kernel_rfl) (by rw [hb]; kernel_rfl) (by kernel_rfl) ?_
    refine ls_nil ?_
    refine then_normal ?_
    exact ⟨(fun i => ([x1, x0, x10, x11, x12, x13]).getD i undef), x13, by kernel_rfl, HA, H⟩
  · refine ls_skip (d := some 8) (by kernel_rfl) (by rw [hb]; kernel_rfl) ?_
    refine ls_skip (d := some 9) (by kernel_rfl) (by rw [hb]; kernel_rfl) ?_
    refine ls_skip (d := some 10) (by kernel_rfl) (by rw [hb]; kernel_rfl) ?_
    refine ls_fr (b := ⟨#[x0, x1, undef, undef, (.slice none 0 0), x1, x6, x6, undef, undef, undef, undef, undef, undef, undef, undef, undef, undef, undef], []⟩) (by kernel_rfl) ?_
    refine ls_skip (d := some 11) (by kernel_rfl) (by rw [hb]; kernel_rfl) ?_
    refine ls_skip (d := some 12) (by kernel_rfl) (by rw [hb]; kernel_rfl) ?_
    refine ls_skip (d := some 13) (by kernel_rfl) (by rw [hb]; kernel_rfl) ?_
    refine ls_pick_t (x := (.bool true)) (by kernel_rfl) (by rw [hb]; kernel_rfl) (by kernel_rfl) ?_
    refine ls_nil ?_
    refine then_normal ?_
    exact ⟨(fun i => ([undef, undef, undef, undef, undef, undef]).getD i undef), (.bool true), by kernel_rfl, HA, H⟩
  · rintro _ w ⟨D, x14, rfl, HA, H⟩
    refine ls_nil ?_
    refine then_normal ?_
    refine fr_eq (b := ⟨#[x0, x1, undef, undef, (.slice none 0 0), x1, x6, x6, (D 0), (D 1), (D 2), (D 3), (D 4), (D 5), x14, undef, undef, undef, undef], []⟩) (by kernel_rfl) ?_
    refine wp_if rfl H (fun H => ?_) (fun H => ?_)
    · refine wp_seq ?_
      refine lwp_list ?_
      refine ls_assign (x := (.slice none 0 0)) (by kernel_rfl) (by kernel_rfl) ?_
      refine ls_nil ?_
      refine then_normal ?_
      refine fr_eq (b := ⟨#[x0, x1, undef, undef, (.slice none 0 0), x1, x6, x6, (D 0), (D 1), (D 2), (D 3), (D 4), (D 5), x14, undef, undef, undef, undef], []⟩) (by kernel_rfl) ?_
      refine wp_ret ?_
      refine then_ret ?_
      exact end1 (Tryd.results94) (by kernel_rfl) (by kernel_rfl) HA H _ (.inr rfl)
    · refine wp_skip ?_
      refine then_normal ?_
      refine fr_eq (b := ⟨#[x0, x1, undef, undef, (.slice none 0 0), x1, x6, x6, (D 0), (D 1), (D 2), (D 3), (D 4), (D 5), x14, undef, undef, undef, undef], []⟩) (by kernel_rfl) ?_
      refine wp_seq ?_
      refine lwp_list ?_
      refine ls_move (x := x0) (by kernel_rfl) (by kernel_rfl) ?_
      refine ls_move (x := x1) (by kernel_rfl) (by kernel_rfl) ?_
      refine ls_d (d := some 17) (by kernel_rfl) (by kernel_rfl) HA (d_call (by kernel_rfl) (by kernel_rfl) H) (fun x17 h w_1 H HA_1 => ?_)
      refine ls_d (d := some 18) (by kernel_rfl) (by kernel_rfl) HA_1 (d_call (by kernel_rfl) (by kernel_rfl) H) (fun x18 h_1 w_2 H HA_2 => ?_)
      refine ls_assign (x := x18) (by kernel_rfl) (by kernel_rfl) ?_
      refine ls_nil ?_
      refine then_normal ?_
      refine fr_eq (b := ⟨#[x0, x1, undef, undef, x18, x1, x6, x6, (D 0), (D 1), (D 2), (D 3), (D 4), (D 5), x14, x0, x1, x17, x18], []⟩) (by kernel_rfl) ?_
      refine wp_ret ?_
      exact end1 (Tryd.results94) (by kernel_rfl) (by kernel_rfl) HA_2 H _ (.inr rfl)

end Go.Proofs.YtmhhjpfkipficaaDoor

end

section
/- Grids told by their cells. -/
set_option linter.unusedSimpArgs false
set_option linter.unusedVariables false
namespace Go.Proofs.YtmhhjpfkipficaaDoor
open Go Go.HW

section
variable {h0 h : Heap} {F : List HP} {R : Value → Heap → Prop} {kg : Nat} {w g : Int} {v : Value} {l : List Ce}
theorem copy_spec {x y : Int} {r : Rc} (z : szOk w g l)
    (s : HW.Sep h0 (Blk kg (grd w g v) 89 :: Sl encCe 4 v l :: F) h)
    (H0 : (!(r.right && nearB x && nearB y) || ((frR r w g x y).empty || (itR r w g x y w g).empty)) = true → ∀ h', HW.Sep h0 (Blk kg (grd w g v) 89 :: Sl encCe 4 v l :: F) h' → R (.int .i64 0) h')
    (H1 : (!(r.right && nearB x && nearB y) || ((frR r w g x y).empty || (itR r w g x y w g).empty)) = false → ∀ h', HW.Sep h0 (Blk kg (grd w g v) 89 :: Sl encCe 4 v (putRows l w (itR r w g x y w g).x (itR r w g x y w g).y (srow l w ((itR r w g x y w g).x - x + r.x) ((itR r w g x y w g).y - y + r.y) (itR r w g x y w g).w) (itR r w g x y w g).h.toNat) :: F) h' → R (.int .i64 ((itR r w g x y w g).w * (itR r w g x y w g).h)) h') :
    grid_Grid_Copy_c (ptr kg 0) r.v (.int .i64 x) (.int .i64 y) h R := by
  apply grid_Grid_Copy_runs
  unfold grid_Grid_Copy_S
  refine s.box (c := r.c) r.cells (fun k5 h1 s1 => ?_)
  rw [s1.ldall (n := 4) rfl]
  exact blit_spec (r := r) z s1.b2.b2 (fun hc h2 s2 => H0 hc h2 (s2.b2.tail)) (fun hc h2 s2 => H1 hc h2 (s2.b2.tail))
theorem rowO_spec {y : Int} (s : HW.Sep h0 (Blk kg (grd w g v) 89 :: Sl encCe 4 v l :: F) h) (z : szOk w g l) (hy : 0 ≤ y ∧ y < g) (H : ∀ v' h', HW.Sep h0 (Sl encCe 4 v' ((l.take ((y + 1) * w).toNat).drop (y * w).toNat) :: Blk kg (grd w g v) 89 :: Sl encCe 4 v l :: F) h' → R v' h') : grid_Grid_Row_c (ptr kg 0) (.int .i64 y) h R := by
  apply grid_Grid_Row_runs
  unfold grid_Grid_Row_S
  have f1 : ∀ {K : Value → Prop}, sLd h (ptr kg 1) K = K (.int .i64 g) := s.ld rfl
  simp only [ev_lt, ev_ge, ev_nil, ev_off, Nat.zero_add, f1, ev_or_p, ev_if]
  rw [if_neg (by simp only [Bool.or_eq_true, decide_eq_true_eq]; omega)]
  refine row_spec s z hy ?_
  have zz := z
  obtain ⟨z1, z2, z3, z4, z5⟩ := zz
  have m := sz_mul ⟨z1, z2⟩ z4 hy
  rw [Int.mul_comm w g] at z5
  have rd : HW.Rd encCe 4 h0 (Blk kg (grd w g v) 89 :: Sl encCe 4 v l :: F) v l := Rd.own1
  exact clone_cells (rd.cut (i := (y * w).toNat) (j := ((y + 1) * w).toNat) (by omega) (by omega)) s (by rw [List.length_drop, List.length_take]; omega) (by rw [List.length_drop, List.length_take]; omega) (fun v' h1 c1 s1 => H v' h1 s1)
/-- A row's cells. -/
def rowL (C : Int → Int → Ce) (w y : Int) : List Ce := (List.range w.toNat).map fun (x : Nat) => C x y
theorem rowL_len (C : Int → Int → Ce) (w y : Int) : (rowL C w y).length = w.toNat := by unfold rowL; simp
theorem row_eq {y : Int} (z : szOk w g l) (hy : 0 ≤ y ∧ y < g) : (l.take ((y + 1) * w).toNat).drop (y * w).toNat = rowL (cell l w g) w y := by
  have zz := z
  obtain ⟨z1, z2, z3, z4, z5⟩ := zz
  have m := sz_mul ⟨z1, z2⟩ z4 hy
  rw [Int.mul_comm w g] at z5
  apply List.ext_getElem?
  intro x
  by_cases hx : x < w.toNat
  · obtain ⟨i, j, k, e1, e2, e3, e4, e5, e6⟩ := idx (x := (x : Int)) (y := y) z ⟨by omega, by omega⟩ hy
    have hk : k = x := by omega
    subst hk
    rw [e1, e2, Int.toNat_natCast, Int.toNat_natCast, cut_get e4 e5]
    unfold rowL
    rw [List.getElem?_map, List.getElem?_range hx]
    simp only [Option.map_some]
    unfold cell
    rw [if_pos (inG_iff.2 ⟨⟨by omega, by omega⟩, hy⟩), e6]
  · rw [List.getElem?_eq_none (by rw [List.length_drop, List.length_take]; omega), List.getElem?_eq_none (by rw [rowL_len]; omega)]
/-- A grid whose cells are told. -/
def Gc (kg : Nat) (w g : Int) (C : Int → Int → Ce) : HP := HP.ex fun p : Value × {l : List Ce // szOk w g l ∧ cell l w g = C} => HP.all [Blk kg (grd w g p.1) 89, Sl encCe 4 p.1 p.2.1]
variable {C : Int → Int → Ce}
theorem Gopen (s : HW.Sep h0 (Gc kg w g C :: F) h) : ∃ v l, szOk w g l ∧ cell l w g = C ∧ HW.Sep h0 (Blk kg (grd w g v) 89 :: Sl encCe 4 v l :: F) h := by
  obtain ⟨⟨v, ⟨l, z, e⟩⟩, s⟩ := s.open_ex
  exact ⟨v, l, z, e, s.open_all⟩
theorem Gshut (z : szOk w g l) (e : cell l w g = C) (s : HW.Sep h0 (Blk kg (grd w g v) 89 :: Sl encCe 4 v l :: F) h) : HW.Sep h0 (Gc kg w g C :: F) h :=
  Sep.shut_ex (A := fun p : Value × {l : List Ce // szOk w g l ∧ cell l w g = C} => HP.all [Blk kg (grd w g p.1) 89, Sl encCe 4 p.1 p.2.1]) ⟨v, ⟨l, z, e⟩⟩ (Sep.shut_all (L := [_, _]) s)
theorem Gsz (s : HW.Sep h0 (Gc kg w g C :: F) h) : (1 ≤ w ∧ w ≤ 512) ∧ (1 ≤ g ∧ g ≤ 512) := by
  obtain ⟨v, l, z, e, s⟩ := Gopen s
  exact ⟨⟨z.1, z.2.1⟩, z.2.2.1, z.2.2.2.1⟩
theorem cell_out {x y : Int} (h : ¬ inG w g x y = true) : cell l w g x y = ce0 := by unfold cell; rw [if_neg h]
theorem Gout (s : HW.Sep h0 (Gc kg w g C :: F) h) {x y : Int} (hn : ¬ inG w g x y = true) : C x y = ce0 := by
  obtain ⟨v, l, z, e, s⟩ := Gopen s
  rw [← e]; exact cell_out hn
theorem gat_spec {x y : Int} (hx : i64 x) (hy : i64 y) (s : HW.Sep h0 (Gc kg w g C :: F) h) (H : ∀ h', Ext h h' → R (.agg (C x y).a) h') : grid_Grid_At_c (ptr kg 0) (.int .i64 x) (.int .i64 y) h R := by
  obtain ⟨v, l, z, e, s⟩ := Gopen s
  refine at_spec hx hy s z (fun h' e' => ?_)
  rw [e]; exact H h' e'
def setF (C : Int → Int → Ce) (w g x y : Int) (c : Ce) : Int → Int → Ce := fun a b => if inG w g x y = true ∧ a = x ∧ b = y then c else C a b
theorem cell_set {x y : Int} {c : Ce} (z : szOk w g l) : cell (setC l w g x y c) w g = setF (cell l w g) w g x y c := by
  funext a b
  unfold setF setC
  by_cases hi : inG w g x y = true
  · rw [if_pos hi]
    have hxy := inG_iff.1 hi
    by_cases hab : inG w g a b = true
    · have h2 := inG_iff.1 hab
      obtain ⟨i, j, k, e1, e2, e3, e4, e5, e6⟩ := idx z hxy.1 hxy.2
      obtain ⟨i', j', k', f1, f2, f3, f4, f5, f6⟩ := idx z h2.1 h2.2
      unfold cell
      rw [if_pos hab, if_pos hab]
      by_cases he : a = x ∧ b = y
      · rw [if_pos ⟨hi, he⟩, he.1, he.2, getD_of, List.getElem?_set_self (by rw [e6]; omega)]; rfl
      · rw [if_neg (fun h => he h.2), getD_of, getD_of, List.getElem?_set_ne]
        intro hh
        have h3 := (idx_ne (w := w) (x := a) (y := b) (X := x) (m := 1) (Y := y) z.1 h2.1 ⟨hxy.1.1, by omega⟩)
        have h4 : y * w + x = b * w + a := by
          have n1 : (0 : Int) ≤ y * w + x := by omega
          have n2 : (0 : Int) ≤ b * w + a := by omega
          omega
        have := h3.1 ⟨by omega, by omega⟩
        omega
    · rw [cell_out hab, if_neg (fun h => by rw [h.2.1, h.2.2] at hab; exact hab hi), cell_out hab]
  · rw [if_neg hi, if_neg (fun h => hi h.1)]
theorem gset_spec {x y : Int} {c : Ce} (hx : i64 x) (hy : i64 y) (s : HW.Sep h0 (Gc kg w g C :: F) h) (H : ∀ h', HW.Sep h0 (Gc kg w g (setF C w g x y c) :: F) h' → R (.bool (inG w g x y)) h') : grid_Grid_Set_c (ptr kg 0) (.int .i64 x) (.int .i64 y) (.agg c.a) h R := by
  obtain ⟨v, l, z, e, s⟩ := Gopen s
  refine set_spec hx hy s z (fun h' s' => H h' (Gshut (l := setC l w g x y c) ?_ (by rw [cell_set z, e]) s'))
  unfold szOk; rw [setC_len]; exact z
theorem grow_spec {y : Int} (s : HW.Sep h0 (Gc kg w g C :: F) h) (hy : 0 ≤ y ∧ y < g) (H : ∀ v' h', HW.Sep h0 (Sl encCe 4 v' (rowL C w y) :: Gc kg w g C :: F) h' → R v' h') : grid_Grid_Row_c (ptr kg 0) (.int .i64 y) h R := by
  obtain ⟨v, l, z, e, s⟩ := Gopen s
  refine rowO_spec s z hy (fun v' h' s' => H v' h' ?_)
  rw [row_eq z hy, e] at s'
  exact (Gshut z e s'.p2).b1
def fillF (C : Int → Int → Ce) (w g : Int) (r : Rc) (c : Ce) : Int → Int → Ce := fun x y => if r.right = true ∧ r.has x y ∧ inG w g x y = true then c else C x y
theorem gfill_spec {r : Rc} {c : Ce} (s : HW.Sep h0 (Gc kg w g C :: F) h) (H : ∀ n h', HW.Sep h0 (Gc kg w g (fillF C w g r c) :: F) h' → R n h') : grid_Grid_Fill_c (ptr kg 0) r.v (.agg c.a) h R := by
  obtain ⟨v, l, z, e, s⟩ := Gopen s
  refine fill_spec z s (fun h' s' => H _ h' (Gshut (fillR_ok z) ?_ s'))
  funext x y
  rw [fillR_cell z, ← e]
  unfold fillF
  have bh := both_has (a := r) (w := w) (g := g) (x := x) (y := y) ⟨z.1, z.2.1⟩ ⟨z.2.2.1, z.2.2.2.1⟩
  by_cases hh : (r.both (allR w g)).has x y
  · rw [if_pos hh, if_pos (bh.1 hh)]
  · rw [if_neg hh, if_neg (fun h => hh (bh.2 h))]
/-- Cells of a right rectangle that lies in the grid go to another place in it. -/
def copyF (C : Int → Int → Ce) (w g : Int) (r : Rc) (x y : Int) : Int → Int → Ce := fun a b => if x ≤ a ∧ a < x + r.w ∧ y ≤ b ∧ b < y + r.h then C (a - x + r.x) (b - y + r.y) else C a b
theorem gcopy_spec {r : Rc} {x y : Int} (s : HW.Sep h0 (Gc kg w g C :: F) h) (hr : 0 ≤ r.x ∧ 0 ≤ r.y ∧ 0 ≤ r.w ∧ 0 ≤ r.h ∧ r.x + r.w ≤ w ∧ r.y + r.h ≤ g) (hx : 0 ≤ x ∧ x + r.w ≤ w) (hy : 0 ≤ y ∧ y + r.h ≤ g) (H : ∀ n h', HW.Sep h0 (Gc kg w g (copyF C w g r x y) :: F) h' → R n h') : grid_Grid_Copy_c (ptr kg 0) r.v (.int .i64 x) (.int .i64 y) h R := by
  have sz := Gsz s
  obtain ⟨v, l, z, e, s⟩ := Gopen s
  have hright : r.right = true := (Rc.right_iff r).2 (by unfold Rc.Ok; omega)
  by_cases he : r.w < 1 ∨ r.h < 1
  · have hC : copyF C w g r x y = C := by funext a b; unfold copyF; rw [if_neg (by omega)]
    have hem : (frR r w g x y).empty = true := by
      have hb : ∀ a b, ¬ (r.both (allR w g)).has a b := fun a b hh => by
        have := (both_has (a := r) (w := w) (g := g) (x := a) (y := b) sz.1 sz.2).1 hh
        unfold Rc.has at this; omega
      have h2 := hb (r.both (allR w g)).x (r.both (allR w g)).y
      unfold Rc.has at h2
      unfold Rc.empty frR
      simp only [Bool.or_eq_true, decide_eq_true_eq]
      omega
    refine copy_spec z s (fun _ h' s' => H _ h' ?_) (fun hc => ?_)
    · rw [hC]; exact Gshut z e s'
    · rw [hem] at hc; simp at hc
  · have hb : (r.both (allR w g)) = r := by
      unfold Rc.both
      rw [hright, allR_right sz.1 sz.2]
      simp only [Bool.and_self, if_true]
      unfold rof mx mn allR
      simp only
      rw [if_neg (by omega)]
      obtain ⟨rx, ry, rw', rh⟩ := r
      simp only at *
      simp only [Rc.mk.injEq]
      refine ⟨?_, ?_, ?_, ?_⟩ <;> (repeat' split) <;> omega
    have hfr : frR r w g x y = ⟨x, y, r.w, r.h⟩ := by
      unfold frR; rw [hb]; simp only [Rc.mk.injEq, and_true]; omega
    have hit : itR r w g x y w g = ⟨x, y, r.w, r.h⟩ := by
      unfold itR
      rw [hfr]
      have hr2 : (⟨x, y, r.w, r.h⟩ : Rc).right = true := (Rc.right_iff _).2 (by unfold Rc.Ok; simp only; omega)
      unfold Rc.both
      rw [hr2, allR_right sz.1 sz.2]
      simp only [Bool.and_self, if_true]
      unfold rof mx mn allR
      simp only
      rw [if_neg (by omega)]
      simp only [Rc.mk.injEq]
      refine ⟨?_, ?_, ?_, ?_⟩ <;> (repeat' split) <;> omega
    have hie : (itR r w g x y w g).empty = false := by rw [hit]; unfold Rc.empty; simp; omega
    refine copy_spec z s (fun hc => ?_) (fun _ h' s' => H _ h' (Gshut (put_ok z) ?_ s'))
    · have n1 : nearB x = true := by unfold nearB; simp; omega
      have n2 : nearB y = true := by unfold nearB; simp; omega
      have n3 : (frR r w g x y).empty = false := by rw [hfr]; unfold Rc.empty; simp; omega
      rw [hright, n1, n2, n3, hie] at hc
      simp at hc
    · funext a b
      rw [copy_cell z z hie, hit, ← e]
      unfold copyF Rc.has
      simp only
end
end Go.Proofs.YtmhhjpfkipficaaDoor

end

section
/- Package variables laid by the program's text: their cells. -/
namespace Go.HW
open Go

/-- The cells of a datum of numbers. -/
def flatD {H : Type} : DataW H → List Value
  | .lit (.int k n) => [.int k n]
  | .agg parts => flatDs parts
  | _ => []
 where flatDs {H : Type} : List (DataW H) → List Value
  | [] => []
  | d :: r => flatD d ++ flatDs r
def Shape.flat : Shape → Bool
  | .int _ => true
  | .agg r => r.flat
  | .nil => true
  | .cons s r => s.flat && r.flat
  | _ => false

section
variable {H : Type} {P : Program} {w : World} {base : Nat} {held : Bool}
def FF (en : TypeId × Value → H) (P : Program) (w : World) (base : Nat) (held : Bool) (s : Shape) : Prop :=
  (∀ t, isT P s t = true → s.flat = true → ∀ (n : Nat) (cs : List Value) (x : DataW H × List MemPlace), cs.length = s.size → DataW.trod en P w base (fun _ => true) held n t cs = some x → cs = flatD x.1) ∧
  (∀ l off (cs : List Value) (xs : List (DataW H × List MemPlace)), isR P s l off = true → s.flat = true → cs.length = off + s.size → xs.length = l.length → (∀ (i : Nat) (p : Nat × TypeId), l[i]? = some p → ∃ n, DataW.trod en P w base (fun _ => true) held n p.2 ((cs.drop p.1).take (P.cellsOf p.2)) = xs[i]?) → cs.drop off = flatD.flatDs (xs.map (·.1)))
theorem ff (en : TypeId × Value → H) (P : Program) (w : World) (base : Nat) (held : Bool) : ∀ s : Shape, FF en P w base held s
  | .int k => by
    refine ⟨fun t ht _ n cs x _ h => ?_, fun l off cs xs h _ _ _ _ => by unfold isR at h; cases h⟩
    unfold isT at ht
    split at ht
    · rename_i k' hu
      obtain rfl : k = k' := by simpa using ht
      obtain ⟨m, e, ex, _⟩ := DataW.trod_int hu h
      rw [e, ex]; rfl
    · cases ht
  | .bool => ⟨fun _ _ h => (by cases h), fun _ _ _ _ h => (by unfold isR at h; cases h)⟩
  | .slice _ => ⟨fun _ _ h => (by cases h), fun _ _ _ _ h => (by unfold isR at h; cases h)⟩
  | .agg r => by
    refine ⟨fun t ht hf n cs x hl h => ?_, fun l off cs xs h _ _ _ _ => by unfold isR at h; cases h⟩
    unfold isT at ht
    simp only [Bool.and_eq_true, beq_iff_eq] at ht
    obtain ⟨hc, ht⟩ := ht
    have ih := (ff en P w base held r).2
    split at ht
    · rename_i fs hu
      obtain ⟨xs, m, _, e, _, hlen, hg⟩ := DataW.trod_struct hu h
      have := ih _ 0 cs xs ht hf (by rw [hl]; simp [Shape.size]) (by simpa using hlen) (fun i p hp => by
        simp only [List.getElem?_map, Option.map_eq_some_iff] at hp
        obtain ⟨f, hf1, rfl⟩ := hp
        exact ⟨m, hg i f (by simpa using hf1)⟩)
      rw [e]; simpa [flatD] using this
    · rename_i k e hu
      obtain ⟨xs, m, _, ex, _, hlen, hg⟩ := DataW.trod_array hu h
      have := ih _ 0 cs xs ht hf (by rw [hl]; simp [Shape.size]) (by simpa using hlen) (fun i p hp => by
        simp only [List.getElem?_map, Option.map_eq_some_iff] at hp
        obtain ⟨j, hj, rfl⟩ := hp
        obtain ⟨hi, e2⟩ := List.getElem?_eq_some_iff.1 hj
        simp only [List.getElem_range] at e2
        subst e2
        exact ⟨m, hg i (by simpa using hi)⟩)
      rw [ex]; simpa [flatD] using this
    · cases ht
  | .nil => by
    refine ⟨fun t ht => (by unfold isT at ht; cases ht), fun l off cs xs h _ hl hx hp => ?_⟩
    have e : cs.drop off = [] := List.drop_eq_nil_of_le (by simp [Shape.size] at hl; omega)
    cases l with
    | nil => cases xs with
      | nil => exact e
      | cons _ _ => simp at hx
    | cons _ _ => unfold isR at h; cases h
  | .cons s r => by
    refine ⟨fun t ht => (by unfold isT at ht; cases ht), fun l off cs xs h hf hl hx hp => ?_⟩
    cases l with
    | nil => unfold isR at h; cases h
    | cons p l =>
      cases xs with
      | nil => simp at hx
      | cons x xs =>
      obtain ⟨o, t⟩ := p
      unfold isR at h
      simp only [Bool.and_eq_true, beq_iff_eq] at h
      obtain ⟨⟨⟨rfl, hc⟩, hs⟩, hr⟩ := h
      simp only [Shape.flat, Bool.and_eq_true] at hf
      obtain ⟨n, hx0⟩ := hp 0 (o, t) rfl
      simp only [Shape.size] at hl
      rw [hc] at hx0
      have h1 := (ff en P w base held s).1 t hs hf.1 n _ x (by rw [List.length_take, List.length_drop]; omega) hx0
      have h2 := (ff en P w base held r).2 l (o + s.size) cs xs hr hf.2 (by omega) (by simpa using hx) (fun i p hp' => hp (i + 1) p hp')
      show cs.drop o = flatD x.1 ++ flatD.flatDs (xs.map (·.1))
      rw [← h1, ← h2, ← List.drop_drop, List.take_append_drop]
end

section
variable {P : Program} {w : World}
theorem mem_look {laid : List (String × DataW Unit)} {name : String} {d : DataW Unit} (hm : laid.lookup name = some d) : (name, d) ∈ laid := by
  induction laid with
  | nil => cases hm
  | cons x r ih =>
    obtain ⟨n, d'⟩ := x
    rw [List.lookup_cons] at hm
    split at hm
    · rename_i e
      cases hm
      have : name = n := by simpa using e
      rw [this]; exact List.mem_cons_self
    · exact List.mem_cons_of_mem _ (ih hm)
theorem laid_at {laid : List (String × DataW Unit)} : ∀ {ps : List MemPlace}, DataW.LaidVars P w laid ps → ∀ {name : String} {d : DataW Unit} {g t : Nat} {s : Shape}, (name, d) ∈ laid → P.globalNamed name = some g → (P.globals[g]?).map (·.type) = some t → isT P s t = true → s.flat = true → P.cellsOf t = s.size → (∀ (fuel : Nat) (cs : List Value) x, DataW.trod (fun _ => ()) P w 0 (fun _ => true) false fuel t cs = some x → cs.length = P.cellsOf t) → 0 < w.heap.size ∧ ∀ i v, (flatD d)[i]? = some v → Heap.at w.heap g i = some v := by
  induction laid with
  | nil => intro ps _ name d g t s hm; cases hm
  | cons x r ih =>
    intro ps h name d g t s hm hg ht hs hf hc hlen
    obtain ⟨n, d'⟩ := x
    obtain ⟨g', t', cs, fuel, p, q, h1, h2, h3, h4, h5, _⟩ := h
    rcases List.mem_cons.1 hm with e | hm
    · cases e
      obtain rfl := Option.some.inj (hg.symm.trans h1)
      obtain rfl := Option.some.inj (ht.symm.trans h2)
      have e := (ff (fun _ => ()) P w 0 false s).1 t hs hf fuel _ _ ((hlen _ _ _ h4).trans hc) h4
      simp only at e
      rw [← e]
      simp only [World.var?, hg, Option.bind_some] at h3
      split at h3
      · rename_i c t f hw
        cases h3
        refine ⟨?_, fun i v hv => ?_⟩
        · have := (Array.getElem?_eq_some_iff.1 hw).1; omega
        · unfold Heap.at; rw [hw]; simpa using hv
      · cases h3
    · exact ih h5 hm hg ht hs hf hc hlen
theorem laid_cells {laid : List (String × DataW Unit)} {name : String} {d : DataW Unit} {g t : Nat} {s : Shape} (h : laidMetH P laid w) (hp : (laid.all fun x => x.2.handleName?.isNone) = true) (hm : laid.lookup name = some d) (hg : P.globalNamed name = some g) (ht : (P.globals[g]?).map (·.type) = some t) (hs : isT P (.agg s) t = true) (hf : s.flat = true) : 0 < w.heap.size ∧ ∀ i v, (flatD d)[i]? = some v → Heap.at w.heap g i = some v := by
  rw [MakeChecks.laidMetH_plain _ _ _ hp] at h
  obtain ⟨ps, hl, _⟩ := h
  have hc : P.cellsOf t = s.size := by
    unfold isT at hs
    simp only [Bool.and_eq_true, beq_iff_eq] at hs
    exact hs.1
  have hm' : (name, d) ∈ laid := mem_look hm
  refine laid_at hl hm' hg ht hs hf hc (fun fuel cs x hx => ?_)
  unfold isT at hs
  simp only [Bool.and_eq_true] at hs
  have ht2 := hs.2
  split at ht2
  · rename_i fs hu; obtain ⟨_, _, _, _, e, _⟩ := DataW.trod_struct hu hx; exact e
  · rename_i k e hu; obtain ⟨_, _, _, _, e, _⟩ := DataW.trod_array hu hx; exact e
  · cases ht2
end
end Go.HW

end

section
/- The shallow reading of one function, and that the function does it. Written by a program. -/
set_option linter.unusedVariables false
namespace Go.Proofs.YtmhhjpfkipficaaDoor
open Go Go.HW

def wide_Width_S (x0 : Value) (h : Heap) (R : Value → Heap → Prop) : Prop :=
  sLt x0 (.int .i32 32) fun x5 =>
  sOr x5 (fun k_1 =>
  sGe x0 (.int .i32 127) fun x8 =>
  sAnd x8 (fun k_2 =>
  sLt x0 (.int .i32 160) fun x11 =>
  k_2 x11) fun x12 =>
  k_1 x12) fun x13 =>
  sOr x13 (fun k =>
  sGt x0 (.int .i32 1114111) fun x16 =>
  k x16) fun x17 =>
  sIf x17 (R (.int .i64 (-1)) h) (sSlA (.pointer (some ⟨0, 0, none⟩)) none none 9 2 fun x19 =>
  wide_in_c x19 x0 h fun x21 h => 
  sIf x21 (R (.int .i64 0) h) (sSlA (.pointer (some ⟨1, 0, none⟩)) none none 14 2 fun x23 =>
  wide_in_c x23 x0 h fun x25 h_1 => 
  sIf x25 (R (.int .i64 2) h_1) (R (.int .i64 1) h_1)))
set_option maxRecDepth 100000 in
theorem wide_Width_runs {x0 : Value} {h : Heap} {R : Value → Heap → Prop} (H : wide_Width_S x0 h R) : wide_Width_c x0 h R := by
  unfold wide_Width_S at H
  refine runs_of (b := ⟨#[x0, undef, undef, undef, undef, undef, undef, undef, undef, undef, undef, undef, undef, undef, undef, undef, undef, undef, undef, undef, undef, undef, undef, undef, undef, undef], []⟩) Tryd.call29 Tryd.func29 rfl (by kernel_rfl) (fun w0 HA => ?_)
  refine wp_seq ?_
  refine lwp_list ?_
  refine ls_assign (x := (.int .i64 0)) (by kernel_rfl) (by kernel_rfl) ?_
  refine ls_nil ?_
  refine then_normal ?_
  refine fr_eq (b := ⟨#[x0, undef, (.int .i64 0), undef, undef, undef, undef, undef, undef, undef, undef, undef, undef, undef, undef, undef, undef, undef, undef, undef, undef, undef, undef, undef, undef, undef], []⟩) (by kernel_rfl) ?_
  refine wp_seq ?_
  refine wp_block ?_
  refine wp_seq ?_
  refine lwp_list ?_
  refine ls_move (x := x0) (by kernel_rfl) (by kernel_rfl) ?_
  refine ls_p (d := some 5) (by kernel_rfl) (by kernel_rfl) (p_sLt (by kernel_rfl) (by kernel_rfl) H) (fun x5 H => ?_)
  refine ls_move (x := x5) (by kernel_rfl) (by kernel_rfl) ?_
  refine ls_or [(), (), (), (), (), (), ()] (fun K a w => ∃ (D : Nat → Value) (x13 : Value), a = ⟨#[x0, undef, (.int .i64 0), undef, x0, x5, x5, (D 0), (D 1), (D 2), (D 3), (D 4), (D 5), x13, undef, undef, undef, undef, undef, undef, undef, undef, undef, undef, undef, undef], []⟩ ∧ At w0 w h ∧ K x13) H (fun hb_1 H => ?_) (fun hb_1 H => ?_) ?_
  · refine ls_move (x := x0) (by rw [hb_1]; kernel_rfl) (by kernel_rfl) ?_
    refine ls_p (d := some 8) (by kernel_rfl) (by rw [hb_1]; kernel_rfl) (p_sGe (by kernel_rfl) (by kernel_rfl) H) (fun x8 H => ?_)
    refine ls_move (x := x8) (by rw [hb_1]; kernel_rfl) (by kernel_rfl) ?_
    refine ls_fr (b := ⟨#[x0, undef, (.int .i64 0), undef, x0, x5, x5, x0, x8, x8, undef, undef, undef, undef, undef, undef, undef, undef, undef, undef, undef, undef, undef, undef, undef, undef], []⟩) (by kernel_rfl) ?_
    refine ls_and [(), (), ()] (fun K a w => ∃ (D_2 : Nat → Value) (x12 : Value), a = ⟨#[x0, undef, (.int .i64 0), undef, x0, x5, x5, x0, x8, x8, (D_2 0), (D_2 1), x12, undef, undef, undef, undef, undef, undef, undef, undef, undef, undef, undef, undef, undef], []⟩ ∧ At w0 w h ∧ K x12) H (fun hb_2 H => ?_) (fun hb_2 H => ?_) ?_
    · refine ls_move (x := x0) (by rw [hb_2]; kernel_rfl) (by kernel_rfl) ?_
      refine ls_p (d := some 11) (by kernel_rfl) (by rw [hb_2]; kernel_rfl) (p_sLt (by kernel_rfl) (by kernel_rfl) H) (fun x11 H => ?_)
      refine ls_pick_t (x := x11) (by rw [hb_1]; kernel_rfl) (by rw [hb_2]; kernel_rfl) (by kernel_rfl) ?_
      refine ls_nil ?_
      refine then_normal ?_
      exact ⟨(fun i => ([x0, x11]).getD i undef), x11, by kernel_rfl, HA, H⟩
    · refine ls_skip (d := some 10) (by kernel_rfl) (by rw [hb_2]; kernel_rfl) ?_
      refine ls_skip (d := some 11) (by kernel_rfl) (by rw [hb_2]; kernel_rfl) ?_
      refine ls_pick_f (y := (.bool false)) (by rw [hb_1]; kernel_rfl) (by rw [hb_2]; kernel_rfl) (by kernel_rfl) ?_
      refine ls_nil ?_
      refine then_normal ?_
      exact ⟨(fun i => ([undef, undef]).getD i undef), (.bool false), by kernel_rfl, HA, H⟩
    · rintro _ w_4 ⟨D_2, x12, rfl, HA_4, H⟩
      refine ls_pick_f (y := x12) (by kernel_rfl) (by rw [hb_1]; kernel_rfl) (by kernel_rfl) ?_
      refine ls_nil ?_
      refine then_normal ?_
      exact ⟨(fun i => ([x0, x8, x8, (D_2 0), (D_2 1), x12]).getD i undef), x12, by kernel_rfl, HA_4, H⟩
  · refine ls_skip (d := some 7) (by kernel_rfl) (by rw [hb_1]; kernel_rfl) ?_
    refine ls_skip (d := some 8) (by kernel_rfl) (by rw [hb_1]; kernel_rfl) ?_
    refine ls_skip (d := some 9) (by kernel_rfl) (by rw [hb_1]; kernel_rfl) ?_
    refine ls_fr (b := ⟨#[x0, undef, (.int .i64 0), undef, x0, x5, x5, undef, undef, undef, undef, undef, undef, undef, undef, undef, undef, undef, undef, undef, undef, undef, undef, undef, undef, undef], []⟩) (by kernel_rfl) ?_
    refine ls_skip (d := some 10) (by kernel_rfl) (by kernel_rfl) ?_
    refine ls_skip (d := some 11) (by kernel_rfl) (by kernel_rfl) ?_
    refine ls_skip (d := some 12) (by kernel_rfl) (by rw [hb_1]; kernel_rfl) ?_
    refine ls_pick_t (x := (.bool true)) (by kernel_rfl) (by rw [hb_1]; kernel_rfl) (by kernel_rfl) ?_
    refine ls_nil ?_
    refine then_normal ?_
    exact ⟨(fun i => ([undef, undef, undef, undef, undef, undef]).getD i undef), (.bool true), by kernel_rfl, HA, H⟩
  · rintro _ w ⟨D, x13, rfl, HA, H⟩
    refine ls_move (x := x13) (by kernel_rfl) (by kernel_rfl) ?_
    refine ls_or [(), (), ()] (fun K a w => ∃ (D_1 : Nat → Value) (x17 : Value), a = ⟨#[x0, undef, (.int .i64 0), undef, x0, x5, x5, (D 0), (D 1), (D 2), (D 3), (D 4), (D 5), x13, x13, (D_1 0), (D_1 1), x17, undef, undef, undef, undef, undef, undef, undef, undef], []⟩ ∧ At w0 w h ∧ K x17) H (fun hb H => ?_) (fun hb H => ?_) ?_
    · refine ls_move (x := x0) (by rw [hb]; kernel_rfl) (by kernel_rfl) ?_
      refine ls_p (d := some 16) (by kernel_rfl) (by rw [hb]; kernel_rfl) (p_sGt (by kernel_rfl) (by kernel_rfl) H) (fun x16 H => ?_)
      refine ls_pick_f (y := x16) (by kernel_rfl) (by rw [hb]; kernel_rfl) (by kernel_rfl) ?_
      refine ls_nil ?_
      refine then_normal ?_
      exact ⟨(fun i => ([x0, x16]).getD i undef), x16, by kernel_rfl, HA, H⟩
    · refine ls_skip (d := some 15) (by kernel_rfl) (by rw [hb]; kernel_rfl) ?_
      refine ls_skip (d := some 16) (by kernel_rfl) (by rw [hb]; kernel_rfl) ?_
      refine ls_pick_t (x := (.bool true)) (by kernel_rfl) (by rw [hb]; kernel_rfl) (by kernel_rfl) ?_
      refine ls_nil ?_
      refine then_normal ?_
      exact ⟨(fun i => ([undef, undef]).getD i undef), (.bool true), by kernel_rfl, HA, H⟩
    · rintro _ w_1 ⟨D_1, x17, rfl, HA_1, H⟩
      refine ls_assign (x := x17) (by kernel_rfl) (by kernel_rfl) ?_
      refine ls_nil ?_
      refine then_normal ?_
      refine fr_eq (b := ⟨#[x0, undef, (.int .i64 0), x17, x0, x5, x5, (D 0), (D 1), (D 2), (D 3), (D 4), (D 5), x13, x13, (D_1 0), (D_1 1), x17, undef, undef, undef, undef, undef, undef, undef, undef], []⟩) (by kernel_rfl) ?_
      refine wp_if rfl H (fun H => ?_) (fun H => ?_)
      · refine wp_seq ?_
        refine lwp_list ?_
        refine ls_assign (x := (.int .i64 (-1))) (by kernel_rfl) (by kernel_rfl) ?_
        refine ls_nil ?_
        refine then_normal ?_
        refine fr_eq (b := ⟨#[x0, undef, (.int .i64 (-1)), x17, x0, x5, x5, (D 0), (D 1), (D 2), (D 3), (D 4), (D 5), x13, x13, (D_1 0), (D_1 1), x17, undef, undef, undef, undef, undef, undef, undef, undef], []⟩) (by kernel_rfl) ?_
        refine wp_ret ?_
        refine block_ret ?_
        refine then_ret ?_
        exact end1 (Tryd.results29) (by kernel_rfl) (by kernel_rfl) HA_1 H _ (.inr rfl)
      · refine wp_seq ?_
        refine lwp_list ?_
        refine ls_p (d := some 19) (by kernel_rfl) (by kernel_rfl) (p_sla Tryd.underlying94 Tryd.sizeOf93 (by kernel_rfl) (by kernel_rfl) (by kernel_rfl) H) (fun x19 H => ?_)
        refine ls_move (x := x0) (by kernel_rfl) (by kernel_rfl) ?_
        refine ls_d (d := some 21) (by kernel_rfl) (by kernel_rfl) HA_1 (d_call (by kernel_rfl) (by kernel_rfl) H) (fun x21 h w_2 H HA_2 => ?_)
        refine ls_assign (x := x21) (by kernel_rfl) (by kernel_rfl) ?_
        refine ls_nil ?_
        refine then_normal ?_
        refine fr_eq (b := ⟨#[x0, undef, (.int .i64 0), x17, x0, x5, x5, (D 0), (D 1), (D 2), (D 3), (D 4), (D 5), x13, x13, (D_1 0), (D_1 1), x17, x21, x19, x0, x21, undef, undef, undef, undef], []⟩) (by kernel_rfl) ?_
        refine wp_if rfl H (fun H => ?_) (fun H => ?_)
        · refine wp_seq ?_
          refine lwp_list ?_
          refine ls_assign (x := (.int .i64 0)) (by kernel_rfl) (by kernel_rfl) ?_
          refine ls_nil ?_
          refine then_normal ?_
          refine fr_eq (b := ⟨#[x0, undef, (.int .i64 0), x17, x0, x5, x5, (D 0), (D 1), (D 2), (D 3), (D 4), (D 5), x13, x13, (D_1 0), (D_1 1), x17, x21, x19, x0, x21, undef, undef, undef, undef], []⟩) (by kernel_rfl) ?_
          refine wp_ret ?_
          refine block_ret ?_
          refine then_ret ?_
          exact end1 (Tryd.results29) (by kernel_rfl) (by kernel_rfl) HA_2 H _ (.inr rfl)
        · refine wp_seq ?_
          refine lwp_list ?_
          refine ls_p (d := some 23) (by kernel_rfl) (by kernel_rfl) (p_sla Tryd.underlying95 Tryd.sizeOf93 (by kernel_rfl) (by kernel_rfl) (by kernel_rfl) H) (fun x23 H => ?_)
          refine ls_move (x := x0) (by kernel_rfl) (by kernel_rfl) ?_
          refine ls_d (d := some 25) (by kernel_rfl) (by kernel_rfl) HA_2 (d_call (by kernel_rfl) (by kernel_rfl) H) (fun x25 h_1 w_3 H HA_3 => ?_)
          refine ls_assign (x := x25) (by kernel_rfl) (by kernel_rfl) ?_
          refine ls_nil ?_
          refine then_normal ?_
          refine fr_eq (b := ⟨#[x0, undef, (.int .i64 0), x17, x0, x5, x5, (D 0), (D 1), (D 2), (D 3), (D 4), (D 5), x13, x13, (D_1 0), (D_1 1), x17, x21, x19, x0, x21, x25, x23, x0, x25], []⟩) (by kernel_rfl) ?_
          refine wp_if rfl H (fun H => ?_) (fun H => ?_)
          · refine wp_seq ?_
            refine lwp_list ?_
            refine ls_assign (x := (.int .i64 2)) (by kernel_rfl) (by kernel_rfl) ?_
            refine ls_nil ?_
            refine then_normal ?_
            refine fr_eq (b := ⟨#[x0, undef, (.int .i64 2), x17, x0, x5, x5, (D 0), (D 1), (D 2), (D 3), (D 4), (D 5), x13, x13, (D_1 0), (D_1 1), x17, x21, x19, x0, x21, x25, x23, x0, x25], []⟩) (by kernel_rfl) ?_
            refine wp_ret ?_
            refine block_ret ?_
            refine then_ret ?_
            exact end1 (Tryd.results29) (by kernel_rfl) (by kernel_rfl) HA_3 H _ (.inr rfl)
          · refine wp_skip ?_
            refine block_normal ?_
            refine then_normal ?_
            refine fr_eq (b := ⟨#[x0, undef, (.int .i64 0), x17, x0, x5, x5, (D 0), (D 1), (D 2), (D 3), (D 4), (D 5), x13, x13, (D_1 0), (D_1 1), x17, x21, x19, x0, x21, x25, x23, x0, x25], []⟩) (by kernel_rfl) ?_
            refine wp_seq ?_
            refine lwp_list ?_
            refine ls_assign (x := (.int .i64 1)) (by kernel_rfl) (by kernel_rfl) ?_
            refine ls_nil ?_
            refine then_normal ?_
            refine fr_eq (b := ⟨#[x0, undef, (.int .i64 1), x17, x0, x5, x5, (D 0), (D 1), (D 2), (D 3), (D 4), (D 5), x13, x13, (D_1 0), (D_1 1), x17, x21, x19, x0, x21, x25, x23, x0, x25], []⟩) (by kernel_rfl) ?_
            refine wp_ret ?_
            exact end1 (Tryd.results29) (by kernel_rfl) (by kernel_rfl) HA_3 H _ (.inr rfl)

end Go.Proofs.YtmhhjpfkipficaaDoor

end

section
/- The shallow reading of one function, and that the function does it. Written by a program. -/
set_option linter.unusedVariables false
namespace Go.Proofs.YtmhhjpfkipficaaDoor
open Go Go.HW

def wide_in_S (x0 x1 : Value) (h : Heap) (R : Value → Heap → Prop) : Prop :=
  slices_BinarySearchFunc_wide_row_wide_row_rune_c x0 x1 (.func (.func 96) #[] #[]) h fun x10 h => 
  sTup x10 0 fun x11 =>
  sTup x10 1 fun x12 =>
  R x12 h
set_option maxRecDepth 100000 in
theorem wide_in_runs {x0 x1 : Value} {h : Heap} {R : Value → Heap → Prop} (H : wide_in_S x0 x1 h R) : wide_in_c x0 x1 h R := by
  unfold wide_in_S at H
  refine runs_of (b := ⟨#[x0, x1, undef, undef, undef, undef, undef, undef, undef, undef, undef, undef, undef, undef], []⟩) Tryd.call76 Tryd.func76 rfl (by kernel_rfl) (fun w0 HA => ?_)
  refine wp_seq ?_
  refine lwp_list ?_
  refine ls_assign (x := (.bool false)) (by kernel_rfl) (by kernel_rfl) ?_
  refine ls_nil ?_
  refine then_normal ?_
  refine fr_eq (b := ⟨#[x0, x1, undef, undef, (.bool false), undef, undef, undef, undef, undef, undef, undef, undef, undef], []⟩) (by kernel_rfl) ?_
  refine wp_seq ?_
  refine lwp_list ?_
  refine ls_move (x := x0) (by kernel_rfl) (by kernel_rfl) ?_
  refine ls_move (x := x1) (by kernel_rfl) (by kernel_rfl) ?_
  refine ls_d (d := some 10) (by kernel_rfl) (by kernel_rfl) HA (d_call (by kernel_rfl) (by kernel_rfl) H) (fun x10 h w H HA => ?_)
  refine ls_move (x := x10) (by kernel_rfl) (by kernel_rfl) ?_
  refine ls_p (d := some 11) (by kernel_rfl) (by kernel_rfl) (p_tup (by kernel_rfl) H) (fun x11 H => ?_)
  refine ls_p (d := some 12) (by kernel_rfl) (by kernel_rfl) (p_tup (by kernel_rfl) H) (fun x12 H => ?_)
  refine ls_fr (b := ⟨#[x0, x1, undef, undef, (.bool false), undef, undef, x10, x0, x1, x10, x11, x12, undef], []⟩) (by kernel_rfl) ?_
  refine ls_assign (x := x11) (by kernel_rfl) (by kernel_rfl) ?_
  refine ls_assign (x := x12) (by kernel_rfl) (by kernel_rfl) ?_
  refine ls_nil ?_
  refine then_normal ?_
  refine fr_eq (b := ⟨#[x0, x1, undef, undef, (.bool false), x11, x12, x10, x0, x1, x10, x11, x12, undef], []⟩) (by kernel_rfl) ?_
  refine wp_seq ?_
  refine lwp_list ?_
  refine ls_move (x := x12) (by kernel_rfl) (by kernel_rfl) ?_
  refine ls_assign (x := x12) (by kernel_rfl) (by kernel_rfl) ?_
  refine ls_nil ?_
  refine then_normal ?_
  refine fr_eq (b := ⟨#[x0, x1, undef, undef, x12, x11, x12, x10, x0, x1, x10, x11, x12, x12], []⟩) (by kernel_rfl) ?_
  refine wp_ret ?_
  exact end1 (Tryd.results76) (by kernel_rfl) (by kernel_rfl) HA H _ (.inr rfl)

end Go.Proofs.YtmhhjpfkipficaaDoor

end

section
/- The shallow reading of one function, and that the function does it. Written by a program. -/
set_option linter.unusedVariables false
namespace Go.Proofs.YtmhhjpfkipficaaDoor
open Go Go.HW

def wide_in_1_S (x0 x1 : Value) (h : Heap) (R : Value → Heap → Prop) : Prop :=
  sBox h x0 93 fun x2 h => 
  sOff x2 1 fun x6 =>
  sLd h x6 fun x7 =>
  sLt x7 x1 fun x9 =>
  sIf x9 (R (.int .i64 (-1)) h) (sOff x2 0 fun x11 =>
  sLd h x11 fun x12 =>
  sGt x12 x1 fun x14 =>
  sIf x14 (R (.int .i64 1) h) (R (.int .i64 0) h))
set_option maxRecDepth 100000 in
theorem wide_in_1_runs {x0 x1 : Value} {h : Heap} {R : Value → Heap → Prop} (H : wide_in_1_S x0 x1 h R) : wide_in_1_c x0 x1 h R := by
  unfold wide_in_1_S at H
  refine runs_of (b := ⟨#[x0, x1, undef, undef, undef, undef, undef, undef, undef, undef, undef, undef, undef, undef, undef], []⟩) Tryd.call96 Tryd.func96 rfl (by kernel_rfl) (fun w0 HA => ?_)
  refine wp_seq ?_
  refine lwp_list ?_
  refine ls_d (d := some 2) (by kernel_rfl) (by kernel_rfl) HA (d_box (by kernel_rfl) H) (fun x2 h w H HA => ?_)
  refine ls_assign (x := (.int .i64 0)) (by kernel_rfl) (by kernel_rfl) ?_
  refine ls_nil ?_
  refine then_normal ?_
  refine fr_eq (b := ⟨#[x0, x1, x2, undef, (.int .i64 0), undef, undef, undef, undef, undef, undef, undef, undef, undef, undef], []⟩) (by kernel_rfl) ?_
  refine wp_seq ?_
  refine wp_block ?_
  refine wp_seq ?_
  refine lwp_list ?_
  refine ls_p (d := some 6) (by kernel_rfl) (by kernel_rfl) (p_off Tryd.underlying93 rfl (fun w => ⟨_, Tryd.sizeOf21 w⟩) rfl (by kernel_rfl) H) (fun x6 H => ?_)
  refine ls_y (d := some 7) (by kernel_rfl) (by kernel_rfl) HA (y_ld Tryd.isAgg21 (by kernel_rfl) H) (fun x7 H => ?_)
  refine ls_move (x := x1) (by kernel_rfl) (by kernel_rfl) ?_
  refine ls_p (d := some 9) (by kernel_rfl) (by kernel_rfl) (p_sLt (by kernel_rfl) (by kernel_rfl) H) (fun x9 H => ?_)
  refine ls_assign (x := x9) (by kernel_rfl) (by kernel_rfl) ?_
  refine ls_nil ?_
  refine then_normal ?_
  refine fr_eq (b := ⟨#[x0, x1, x2, undef, (.int .i64 0), x9, x6, x7, x1, x9, undef, undef, undef, undef, undef], []⟩) (by kernel_rfl) ?_
  refine wp_if rfl H (fun H => ?_) (fun H => ?_)
  · refine wp_seq ?_
    refine lwp_list ?_
    refine ls_assign (x := (.int .i64 (-1))) (by kernel_rfl) (by kernel_rfl) ?_
    refine ls_nil ?_
    refine then_normal ?_
    refine fr_eq (b := ⟨#[x0, x1, x2, undef, (.int .i64 (-1)), x9, x6, x7, x1, x9, undef, undef, undef, undef, undef], []⟩) (by kernel_rfl) ?_
    refine wp_ret ?_
    refine block_ret ?_
    refine then_ret ?_
    exact end1 (Tryd.results96) (by kernel_rfl) (by kernel_rfl) HA H _ (.inr rfl)
  · refine wp_seq ?_
    refine lwp_list ?_
    refine ls_p (d := some 11) (by kernel_rfl) (by kernel_rfl) (p_off Tryd.underlying93 rfl (fun w => ⟨_, Tryd.sizeOf21 w⟩) rfl (by kernel_rfl) H) (fun x11 H => ?_)
    refine ls_y (d := some 12) (by kernel_rfl) (by kernel_rfl) HA (y_ld Tryd.isAgg21 (by kernel_rfl) H) (fun x12 H => ?_)
    refine ls_move (x := x1) (by kernel_rfl) (by kernel_rfl) ?_
    refine ls_p (d := some 14) (by kernel_rfl) (by kernel_rfl) (p_sGt (by kernel_rfl) (by kernel_rfl) H) (fun x14 H => ?_)
    refine ls_assign (x := x14) (by kernel_rfl) (by kernel_rfl) ?_
    refine ls_nil ?_
    refine then_normal ?_
    refine fr_eq (b := ⟨#[x0, x1, x2, undef, (.int .i64 0), x9, x6, x7, x1, x9, x14, x11, x12, x1, x14], []⟩) (by kernel_rfl) ?_
    refine wp_if rfl H (fun H => ?_) (fun H => ?_)
    · refine wp_seq ?_
      refine lwp_list ?_
      refine ls_assign (x := (.int .i64 1)) (by kernel_rfl) (by kernel_rfl) ?_
      refine ls_nil ?_
      refine then_normal ?_
      refine fr_eq (b := ⟨#[x0, x1, x2, undef, (.int .i64 1), x9, x6, x7, x1, x9, x14, x11, x12, x1, x14], []⟩) (by kernel_rfl) ?_
      refine wp_ret ?_
      refine block_ret ?_
      refine then_ret ?_
      exact end1 (Tryd.results96) (by kernel_rfl) (by kernel_rfl) HA H _ (.inr rfl)
    · refine wp_skip ?_
      refine block_normal ?_
      refine then_normal ?_
      refine fr_eq (b := ⟨#[x0, x1, x2, undef, (.int .i64 0), x9, x6, x7, x1, x9, x14, x11, x12, x1, x14], []⟩) (by kernel_rfl) ?_
      refine wp_seq ?_
      refine lwp_list ?_
      refine ls_assign (x := (.int .i64 0)) (by kernel_rfl) (by kernel_rfl) ?_
      refine ls_nil ?_
      refine then_normal ?_
      refine fr_eq (b := ⟨#[x0, x1, x2, undef, (.int .i64 0), x9, x6, x7, x1, x9, x14, x11, x12, x1, x14], []⟩) (by kernel_rfl) ?_
      refine wp_ret ?_
      exact end1 (Tryd.results96) (by kernel_rfl) (by kernel_rfl) HA H _ (.inr rfl)

end Go.Proofs.YtmhhjpfkipficaaDoor

end

section
/- The shallow reading of one function, and that the function does it. Written by a program. -/
set_option linter.unusedVariables false
namespace Go.Proofs.YtmhhjpfkipficaaDoor
open Go Go.HW

def slices_BinarySearchFunc_wide_row_wide_row_rune_l1 (R : Value → Heap → Prop) (x0 x1 x2 x13 : Value) (next : Value → Value → Heap → Prop) (x9 x10 : Value) (h : Heap) : Prop :=
  sLt x9 x10 fun x17 =>
  sIf x17 (sAdd .i64 x9 x10 fun x20 =>
  sConv .u64 x20 fun x21 =>
  sShr .u64 x21 (.int .u64 1) fun x22 =>
  sConv .i64 x22 fun x23 =>
  sIxS x0 x23 2 fun x27 =>
  sLdN h x27 2 fun x28 =>
  sCallV Tryd.prog x2 #[x28, x1] h fun x30 h_1 => 
  sLt x30 (.int .i64 0) fun x31 =>
  sIf x31 (sAdd .i64 x23 (.int .i64 1) fun x33 =>
  next x33 x10 h_1) (next x9 x23 h_1)) (sLt x9 x13 fun x38 =>
  sAndH x38 h (fun k =>
  sIxS x0 x9 2 fun x43 =>
  sLdN h x43 2 fun x44 =>
  sCallV Tryd.prog x2 #[x44, x1] h fun x46 h_3 => 
  sEq x46 (.int .i64 0) fun x47 =>
  k x47 h_3) fun x48 h_2 =>
  R (.tuple #[x9, x48]) h_2)
def slices_BinarySearchFunc_wide_row_wide_row_rune_S (x0 x1 x2 : Value) (h : Heap) (R : Value → Heap → Prop) : Prop :=
  sLen x0 fun x13 =>
  sLoop (S := Value × Value) (fun nxt s h => slices_BinarySearchFunc_wide_row_wide_row_rune_l1 R x0 x1 x2 x13 (fun x9' x10' h => nxt (x9', x10') h) s.1 s.2 h) ((.int .i64 0), x13) h
set_option maxRecDepth 100000 in
theorem slices_BinarySearchFunc_wide_row_wide_row_rune_runs {x0 x1 x2 : Value} {h : Heap} {R : Value → Heap → Prop} (H : slices_BinarySearchFunc_wide_row_wide_row_rune_S x0 x1 x2 h R) : slices_BinarySearchFunc_wide_row_wide_row_rune_c x0 x1 x2 h R := by
  unfold slices_BinarySearchFunc_wide_row_wide_row_rune_S at H
  refine runs_of (b := ⟨#[x0, x1, x2, undef, undef, undef, undef, undef, undef, undef, undef, undef, undef, undef, undef, undef, undef, undef, undef, undef, undef, undef, undef, undef, undef, undef, undef, undef, undef, undef, undef, undef, undef, undef, undef, undef, undef, undef, undef, undef, undef, undef, undef, undef, undef, undef, undef, undef, undef], []⟩) Tryd.call95 Tryd.func95 rfl (by kernel_rfl) (fun w0 HA => ?_)
  refine wp_seq ?_
  refine lwp_list ?_
  refine ls_assign (x := (.int .i64 0)) (by kernel_rfl) (by kernel_rfl) ?_
  refine ls_assign (x := (.bool false)) (by kernel_rfl) (by kernel_rfl) ?_
  refine ls_nil ?_
  refine then_normal ?_
  refine fr_eq (b := ⟨#[x0, x1, x2, undef, undef, undef, (.int .i64 0), (.bool false), undef, undef, undef, undef, undef, undef, undef, undef, undef, undef, undef, undef, undef, undef, undef, undef, undef, undef, undef, undef, undef, undef, undef, undef, undef, undef, undef, undef, undef, undef, undef, undef, undef, undef, undef, undef, undef, undef, undef, undef, undef], []⟩) (by kernel_rfl) ?_
  refine wp_seq ?_
  refine lwp_list ?_
  refine ls_move (x := x0) (by kernel_rfl) (by kernel_rfl) ?_
  refine ls_p (d := some 13) (by kernel_rfl) (by kernel_rfl) (p_len Tryd.underlying91 (by kernel_rfl) H) (fun x13 H => ?_)
  refine ls_assign (x := x13) (by kernel_rfl) (by kernel_rfl) ?_
  refine ls_nil ?_
  refine then_normal ?_
  refine fr_eq (b := ⟨#[x0, x1, x2, undef, undef, undef, (.int .i64 0), (.bool false), x13, undef, undef, undef, x0, x13, undef, undef, undef, undef, undef, undef, undef, undef, undef, undef, undef, undef, undef, undef, undef, undef, undef, undef, undef, undef, undef, undef, undef, undef, undef, undef, undef, undef, undef, undef, undef, undef, undef, undef, undef], []⟩) (by kernel_rfl) ?_
  refine wp_seq ?_
  refine lwp_list ?_
  refine ls_move (x := x13) (by kernel_rfl) (by kernel_rfl) ?_
  refine ls_assign (x := (.int .i64 0)) (by kernel_rfl) (by kernel_rfl) ?_
  refine ls_assign (x := x13) (by kernel_rfl) (by kernel_rfl) ?_
  refine ls_nil ?_
  refine then_normal ?_
  refine fr_eq (b := ⟨#[x0, x1, x2, undef, undef, undef, (.int .i64 0), (.bool false), x13, (.int .i64 0), x13, undef, x0, x13, x13, undef, undef, undef, undef, undef, undef, undef, undef, undef, undef, undef, undef, undef, undef, undef, undef, undef, undef, undef, undef, undef, undef, undef, undef, undef, undef, undef, undef, undef, undef, undef, undef, undef, undef], []⟩) (by kernel_rfl) ?_
  refine wp_seq ?_
  refine wp_block ?_
  obtain ⟨I, m, H0, HB⟩ := H
  refine wp_loop (fun a w => ∃ (D : Nat → Value) (x9 x10 : Value) (h : Heap), a = ⟨#[x0, x1, x2, undef, undef, undef, (.int .i64 0), (.bool false), x13, x9, x10, (D 0), x0, x13, x13, (D 1), (D 2), (D 3), (D 4), (D 5), (D 6), (D 7), (D 8), (D 9), (D 10), (D 11), (D 12), (D 13), (D 14), (D 15), (D 16), (D 17), (D 18), (D 19), (D 20), undef, undef, undef, undef, undef, undef, undef, undef, undef, undef, undef, undef, undef, undef], []⟩ ∧ At w0 w h ∧ I (x9, x10) h) (fun a w => m ((a.tmps.getD 9 undef), (a.tmps.getD 10 undef)) w.heap) ?_ ?_
  · exact ⟨(fun i => ([undef, undef, undef, undef, undef, undef, undef, undef, undef, undef, undef, undef, undef, undef, undef, undef, undef, undef, undef, undef, undef]).getD i undef), (.int .i64 0), x13, h, by kernel_rfl, HA, H0⟩
  · rintro _ w ⟨D, x9, x10, h, rfl, HA, HI⟩
    have H : slices_BinarySearchFunc_wide_row_wide_row_rune_l1 R x0 x1 x2 x13 (fun x9' x10' h' => I (x9', x10') h' ∧ m (x9', x10') h' < m (x9, x10) h) x9 x10 h := HB (x9, x10) h HI
    clear HB H0 HI
    unfold slices_BinarySearchFunc_wide_row_wide_row_rune_l1 at H
    refine wp_seq ?_
    refine wp_seq ?_
    refine lwp_list ?_
    refine ls_move (x := x9) (by kernel_rfl) (by kernel_rfl) ?_
    refine ls_move (x := x10) (by kernel_rfl) (by kernel_rfl) ?_
    refine ls_p (d := some 17) (by kernel_rfl) (by kernel_rfl) (p_sLt (by kernel_rfl) (by kernel_rfl) H) (fun x17 H => ?_)
    refine ls_nil ?_
    refine then_normal ?_
    refine fr_eq (b := ⟨#[x0, x1, x2, undef, undef, undef, (.int .i64 0), (.bool false), x13, x9, x10, (D 0), x0, x13, x13, x9, x10, x17, (D 4), (D 5), (D 6), (D 7), (D 8), (D 9), (D 10), (D 11), (D 12), (D 13), (D 14), (D 15), (D 16), (D 17), (D 18), (D 19), (D 20), undef, undef, undef, undef, undef, undef, undef, undef, undef, undef, undef, undef, undef, undef], []⟩) (by kernel_rfl) ?_
    refine wp_if rfl H (fun H => ?_) (fun H => ?_)
    · refine wp_skip ?_
      refine then_normal ?_
      refine fr_eq (b := ⟨#[x0, x1, x2, undef, undef, undef, (.int .i64 0), (.bool false), x13, x9, x10, (D 0), x0, x13, x13, x9, x10, x17, (D 4), (D 5), (D 6), (D 7), (D 8), (D 9), (D 10), (D 11), (D 12), (D 13), (D 14), (D 15), (D 16), (D 17), (D 18), (D 19), (D 20), undef, undef, undef, undef, undef, undef, undef, undef, undef, undef, undef, undef, undef, undef], []⟩) (by kernel_rfl) ?_
      refine wp_block ?_
      refine wp_seq ?_
      refine lwp_list ?_
      refine ls_move (x := x9) (by kernel_rfl) (by kernel_rfl) ?_
      refine ls_move (x := x10) (by kernel_rfl) (by kernel_rfl) ?_
      refine ls_p (d := some 20) (by kernel_rfl) (by kernel_rfl) (p_add (by kernel_rfl) (by kernel_rfl) H) (fun x20 H => ?_)
      refine ls_p (d := some 21) (by kernel_rfl) (by kernel_rfl) (p_conv Tryd.underlying3 Tryd.underlying111 (by kernel_rfl) H) (fun x21 H => ?_)
      refine ls_p (d := some 22) (by kernel_rfl) (by kernel_rfl) (p_shr (by kernel_rfl) (by kernel_rfl) H) (fun x22 H => ?_)
      refine ls_p (d := some 23) (by kernel_rfl) (by kernel_rfl) (p_conv Tryd.underlying111 Tryd.underlying3 (by kernel_rfl) H) (fun x23 H => ?_)
      refine ls_fr (b := ⟨#[x0, x1, x2, undef, undef, undef, (.int .i64 0), (.bool false), x13, x9, x10, (D 0), x0, x13, x13, x9, x10, x17, x9, x10, x20, x21, x22, x23, (D 10), (D 11), (D 12), (D 13), (D 14), (D 15), (D 16), (D 17), (D 18), (D 19), (D 20), undef, undef, undef, undef, undef, undef, undef, undef, undef, undef, undef, undef, undef, undef], []⟩) (by kernel_rfl) ?_
      refine ls_assign (x := x23) (by kernel_rfl) (by kernel_rfl) ?_
      refine ls_nil ?_
      refine then_normal ?_
      refine fr_eq (b := ⟨#[x0, x1, x2, undef, undef, undef, (.int .i64 0), (.bool false), x13, x9, x10, x23, x0, x13, x13, x9, x10, x17, x9, x10, x20, x21, x22, x23, (D 10), (D 11), (D 12), (D 13), (D 14), (D 15), (D 16), (D 17), (D 18), (D 19), (D 20), undef, undef, undef, undef, undef, undef, undef, undef, undef, undef, undef, undef, undef, undef], []⟩) (by kernel_rfl) ?_
      refine wp_seq ?_
      refine lwp_list ?_
      refine ls_move (x := x2) (by kernel_rfl) (by kernel_rfl) ?_
      refine ls_move (x := x0) (by kernel_rfl) (by kernel_rfl) ?_
      refine ls_move (x := x23) (by kernel_rfl) (by kernel_rfl) ?_
      refine ls_p (d := some 27) (by kernel_rfl) (by kernel_rfl) (p_ixs Tryd.underlying91 Tryd.sizeOf93 (by kernel_rfl) (by kernel_rfl) H) (fun x27 H => ?_)
      refine ls_y (d := some 28) (by kernel_rfl) (by kernel_rfl) HA (y_ldn Tryd.isAgg93 Tryd.sizeOf93 (by kernel_rfl) H) (fun x28 H => ?_)
      refine ls_move (x := x1) (by kernel_rfl) (by kernel_rfl) ?_
      refine ls_fr (b := ⟨#[x0, x1, x2, undef, undef, undef, (.int .i64 0), (.bool false), x13, x9, x10, x23, x0, x13, x13, x9, x10, x17, x9, x10, x20, x21, x22, x23, x2, x0, x23, x27, x28, x1, (D 16), (D 17), (D 18), (D 19), (D 20), undef, undef, undef, undef, undef, undef, undef, undef, undef, undef, undef, undef, undef, undef], []⟩) (by kernel_rfl) ?_
      refine ls_d (d := some 30) (by kernel_rfl) (by kernel_rfl) HA (d_callx (by kernel_rfl) (by kernel_rfl) H) (fun x30 h_1 w_1 H HA_1 => ?_)
      refine ls_p (d := some 31) (by kernel_rfl) (by kernel_rfl) (p_sLt (by kernel_rfl) (by kernel_rfl) H) (fun x31 H => ?_)
      refine ls_nil ?_
      refine then_normal ?_
      refine fr_eq (b := ⟨#[x0, x1, x2, undef, undef, undef, (.int .i64 0), (.bool false), x13, x9, x10, x23, x0, x13, x13, x9, x10, x17, x9, x10, x20, x21, x22, x23, x2, x0, x23, x27, x28, x1, x30, x31, (D 18), (D 19), (D 20), undef, undef, undef, undef, undef, undef, undef, undef, undef, undef, undef, undef, undef, undef], []⟩) (by kernel_rfl) ?_
      refine wp_if rfl H (fun H => ?_) (fun H => ?_)
      · refine lwp_list ?_
        refine ls_move (x := x23) (by kernel_rfl) (by kernel_rfl) ?_
        refine ls_p (d := some 33) (by kernel_rfl) (by kernel_rfl) (p_add (by kernel_rfl) (by kernel_rfl) H) (fun x33 H => ?_)
        refine ls_assign (x := x33) (by kernel_rfl) (by kernel_rfl) ?_
        refine ls_nil ?_
        refine block_normal ?_
        exact ⟨⟨(fun i => ([x23, x9, x10, x17, x9, x10, x20, x21, x22, x23, x2, x0, x23, x27, x28, x1, x30, x31, x23, x33, (D 20)]).getD i undef), x33, x10, h_1, by kernel_rfl, HA_1, H.1⟩, loop_lt HA_1.heap HA.heap (by kernel_rfl) (by kernel_rfl) H.2⟩
      · refine lwp_list ?_
        refine ls_move (x := x23) (by kernel_rfl) (by kernel_rfl) ?_
        refine ls_assign (x := x23) (by kernel_rfl) (by kernel_rfl) ?_
        refine ls_nil ?_
        refine block_normal ?_
        exact ⟨⟨(fun i => ([x23, x9, x10, x17, x9, x10, x20, x21, x22, x23, x2, x0, x23, x27, x28, x1, x30, x31, (D 18), (D 19), x23]).getD i undef), x9, x23, h_1, by kernel_rfl, HA_1, H.1⟩, loop_lt HA_1.heap HA.heap (by kernel_rfl) (by kernel_rfl) H.2⟩
    · refine wp_exit ?_
      refine then_exit ?_
      refine then_exit ?_
      refine block_exit ?_
      refine then_normal ?_
      refine fr_eq (b := ⟨#[x0, x1, x2, undef, undef, undef, (.int .i64 0), (.bool false), x13, x9, x10, (D 0), x0, x13, x13, x9, x10, x17, (D 4), (D 5), (D 6), (D 7), (D 8), (D 9), (D 10), (D 11), (D 12), (D 13), (D 14), (D 15), (D 16), (D 17), (D 18), (D 19), (D 20), undef, undef, undef, undef, undef, undef, undef, undef, undef, undef, undef, undef, undef, undef], []⟩) (by kernel_rfl) ?_
      refine wp_seq ?_
      refine lwp_list ?_
      refine ls_move (x := x9) (by kernel_rfl) (by kernel_rfl) ?_
      refine ls_move (x := x9) (by kernel_rfl) (by kernel_rfl) ?_
      refine ls_move (x := x13) (by kernel_rfl) (by kernel_rfl) ?_
      refine ls_p (d := some 38) (by kernel_rfl) (by kernel_rfl) (p_sLt (by kernel_rfl) (by kernel_rfl) H) (fun x38 H => ?_)
      refine ls_move (x := x38) (by kernel_rfl) (by kernel_rfl) ?_
      refine ls_andh [(), (), (), (), (), (), (), (), ()] (fun K a w => ∃ (D_1 : Nat → Value) (x48 : Value) (h_2 : Heap), a = ⟨#[x0, x1, x2, undef, undef, undef, (.int .i64 0), (.bool false), x13, x9, x10, (D 0), x0, x13, x13, x9, x10, x17, (D 4), (D 5), (D 6), (D 7), (D 8), (D 9), (D 10), (D 11), (D 12), (D 13), (D 14), (D 15), (D 16), (D 17), (D 18), (D 19), (D 20), x9, x9, x13, x38, x38, (D_1 0), (D_1 1), (D_1 2), (D_1 3), (D_1 4), (D_1 5), (D_1 6), (D_1 7), x48], []⟩ ∧ At w0 w h_2 ∧ K x48 h_2) H (fun hb H => ?_) (fun hb H => ?_) ?_
      · refine ls_move (x := x2) (by rw [hb]; kernel_rfl) (by kernel_rfl) ?_
        refine ls_fr (b := ⟨#[x0, x1, x2, undef, undef, undef, (.int .i64 0), (.bool false), x13, x9, x10, (D 0), x0, x13, x13, x9, x10, x17, (D 4), (D 5), (D 6), (D 7), (D 8), (D 9), (D 10), (D 11), (D 12), (D 13), (D 14), (D 15), (D 16), (D 17), (D 18), (D 19), (D 20), x9, x9, x13, x38, x38, x2, undef, undef, undef, undef, undef, undef, undef, undef], []⟩) (by kernel_rfl) ?_
        refine ls_move (x := x0) (by rw [hb]; kernel_rfl) (by kernel_rfl) ?_
        refine ls_move (x := x9) (by rw [hb]; kernel_rfl) (by kernel_rfl) ?_
        refine ls_p (d := some 43) (by kernel_rfl) (by rw [hb]; kernel_rfl) (p_ixs Tryd.underlying91 Tryd.sizeOf93 (by kernel_rfl) (by kernel_rfl) H) (fun x43 H => ?_)
        refine ls_y (d := some 44) (by kernel_rfl) (by rw [hb]; kernel_rfl) HA (y_ldn Tryd.isAgg93 Tryd.sizeOf93 (by kernel_rfl) H) (fun x44 H => ?_)
        refine ls_move (x := x1) (by rw [hb]; kernel_rfl) (by kernel_rfl) ?_
        refine ls_d (d := some 46) (by kernel_rfl) (by rw [hb]; kernel_rfl) HA (d_callx (by kernel_rfl) (by kernel_rfl) H) (fun x46 h_3 w_3 H HA_3 => ?_)
        refine ls_fr (b := ⟨#[x0, x1, x2, undef, undef, undef, (.int .i64 0), (.bool false), x13, x9, x10, (D 0), x0, x13, x13, x9, x10, x17, (D 4), (D 5), (D 6), (D 7), (D 8), (D 9), (D 10), (D 11), (D 12), (D 13), (D 14), (D 15), (D 16), (D 17), (D 18), (D 19), (D 20), x9, x9, x13, x38, x38, x2, x0, x9, x43, x44, x1, x46, undef, undef], []⟩) (by kernel_rfl) ?_
        refine ls_p (d := some 47) (by kernel_rfl) (by rw [hb]; kernel_rfl) (p_sEq (by kernel_rfl) (by kernel_rfl) H) (fun x47 H => ?_)
        refine ls_pick_t (x := x47) (by kernel_rfl) (by rw [hb]; kernel_rfl) (by kernel_rfl) ?_
        refine ls_nil ?_
        refine then_normal ?_
        exact ⟨(fun i => ([x2, x0, x9, x43, x44, x1, x46, x47]).getD i undef), x47, h_3, by kernel_rfl, HA_3, H⟩
      · refine ls_skip (d := some 40) (by kernel_rfl) (by rw [hb]; kernel_rfl) ?_
        refine ls_fr (b := ⟨#[x0, x1, x2, undef, undef, undef, (.int .i64 0), (.bool false), x13, x9, x10, (D 0), x0, x13, x13, x9, x10, x17, (D 4), (D 5), (D 6), (D 7), (D 8), (D 9), (D 10), (D 11), (D 12), (D 13), (D 14), (D 15), (D 16), (D 17), (D 18), (D 19), (D 20), x9, x9, x13, x38, x38, undef, undef, undef, undef, undef, undef, undef, undef, undef], []⟩) (by kernel_rfl) ?_
        refine ls_skip (d := some 41) (by kernel_rfl) (by rw [hb]; kernel_rfl) ?_
        refine ls_skip (d := some 42) (by kernel_rfl) (by rw [hb]; kernel_rfl) ?_
        refine ls_skip (d := some 43) (by kernel_rfl) (by rw [hb]; kernel_rfl) ?_
        refine ls_skip (d := some 44) (by kernel_rfl) (by rw [hb]; kernel_rfl) ?_
        refine ls_skip (d := some 45) (by kernel_rfl) (by rw [hb]; kernel_rfl) ?_
        refine ls_skip (d := some 46) (by kernel_rfl) (by rw [hb]; kernel_rfl) ?_
        refine ls_fr (b := ⟨#[x0, x1, x2, undef, undef, undef, (.int .i64 0), (.bool false), x13, x9, x10, (D 0), x0, x13, x13, x9, x10, x17, (D 4), (D 5), (D 6), (D 7), (D 8), (D 9), (D 10), (D 11), (D 12), (D 13), (D 14), (D 15), (D 16), (D 17), (D 18), (D 19), (D 20), x9, x9, x13, x38, x38, undef, undef, undef, undef, undef, undef, undef, undef, undef], []⟩) (by kernel_rfl) ?_
        refine ls_skip (d := some 47) (by kernel_rfl) (by rw [hb]; kernel_rfl) ?_
        refine ls_pick_f (y := (.bool false)) (by kernel_rfl) (by rw [hb]; kernel_rfl) (by kernel_rfl) ?_
        refine ls_nil ?_
        refine then_normal ?_
        exact ⟨(fun i => ([undef, undef, undef, undef, undef, undef, undef, undef]).getD i undef), (.bool false), h, by kernel_rfl, HA, H⟩
      · rintro _ w_2 ⟨D_1, x48, h_2, rfl, HA_2, H⟩
        refine ls_assign (x := x9) (by kernel_rfl) (by kernel_rfl) ?_
        refine ls_assign (x := x48) (by kernel_rfl) (by kernel_rfl) ?_
        refine ls_nil ?_
        refine then_normal ?_
        refine fr_eq (b := ⟨#[x0, x1, x2, undef, undef, undef, x9, x48, x13, x9, x10, (D 0), x0, x13, x13, x9, x10, x17, (D 4), (D 5), (D 6), (D 7), (D 8), (D 9), (D 10), (D 11), (D 12), (D 13), (D 14), (D 15), (D 16), (D 17), (D 18), (D 19), (D 20), x9, x9, x13, x38, x38, (D_1 0), (D_1 1), (D_1 2), (D_1 3), (D_1 4), (D_1 5), (D_1 6), (D_1 7), x48], []⟩) (by kernel_rfl) ?_
        refine wp_ret ?_
        exact end2 (Tryd.results95) (by kernel_rfl) (by kernel_rfl) (by kernel_rfl) HA_2 H _ (.inr rfl)

end Go.Proofs.YtmhhjpfkipficaaDoor

end

section
/- The shallow reading of one function, and that the function does it. Written by a program. -/
set_option linter.unusedVariables false
namespace Go.Proofs.YtmhhjpfkipficaaDoor
open Go Go.HW

def betonyref03_in_l1 (R : Value → Heap → Prop) (x0 x1 : Value) (next : Value → Heap → Prop) (x5 : Value) (h : Heap) : Prop :=
  sAdd .i64 x5 (.int .i64 1) fun x7 =>
  sLen x0 fun x9 =>
  sLt x7 x9 fun x10 =>
  sIf x10 (sIxS x0 x5 1 fun x16 =>
  sLd h x16 fun x17 =>
  sGe x1 x17 fun x18 =>
  sAnd x18 (fun k =>
  sAdd .i64 x5 (.int .i64 1) fun x23 =>
  sIxS x0 x23 1 fun x24 =>
  sLd h x24 fun x25 =>
  sLe x1 x25 fun x26 =>
  k x26) fun x27 =>
  sIf x27 (R (.bool true) h) (sAdd .i64 x5 (.int .i64 2) fun x12 =>
  next x12 h)) (R (.bool false) h)
def betonyref03_in_S (x0 x1 : Value) (h : Heap) (R : Value → Heap → Prop) : Prop :=
  sLoop (S := Value) (fun nxt s h => betonyref03_in_l1 R x0 x1 (fun x5' h => nxt x5' h) s h) (.int .i64 0) h
set_option maxRecDepth 100000 in
theorem betonyref03_in_runs {x0 x1 : Value} {h : Heap} {R : Value → Heap → Prop} (H : betonyref03_in_S x0 x1 h R) : betonyref03_in_c x0 x1 h R := by
  unfold betonyref03_in_S at H
  refine runs_of (b := ⟨#[x0, x1, undef, undef, undef, undef, undef, undef, undef, undef, undef, undef, undef, undef, undef, undef, undef, undef, undef, undef, undef, undef, undef, undef, undef, undef, undef, undef], []⟩) Tryd.call67 Tryd.func67 rfl (by kernel_rfl) (fun w0 HA => ?_)
  refine wp_seq ?_
  refine lwp_list ?_
  refine ls_assign (x := (.bool false)) (by kernel_rfl) (by kernel_rfl) ?_
  refine ls_nil ?_
  refine then_normal ?_
  refine fr_eq (b := ⟨#[x0, x1, undef, undef, (.bool false), undef, undef, undef, undef, undef, undef, undef, undef, undef, undef, undef, undef, undef, undef, undef, undef, undef, undef, undef, undef, undef, undef, undef], []⟩) (by kernel_rfl) ?_
  refine wp_seq ?_
  refine wp_seq ?_
  refine lwp_list ?_
  refine ls_assign (x := (.int .i64 0)) (by kernel_rfl) (by kernel_rfl) ?_
  refine ls_nil ?_
  refine then_normal ?_
  refine fr_eq (b := ⟨#[x0, x1, undef, undef, (.bool false), (.int .i64 0), undef, undef, undef, undef, undef, undef, undef, undef, undef, undef, undef, undef, undef, undef, undef, undef, undef, undef, undef, undef, undef, undef], []⟩) (by kernel_rfl) ?_
  refine wp_block ?_
  obtain ⟨I, m, H0, HB⟩ := H
  refine wp_loop (fun a w => ∃ (D : Nat → Value) (x5 : Value) (h : Heap), a = ⟨#[x0, x1, undef, undef, (D 0), x5, (D 1), (D 2), (D 3), (D 4), (D 5), (D 6), (D 7), (D 8), (D 9), (D 10), (D 11), (D 12), (D 13), (D 14), (D 15), (D 16), (D 17), (D 18), (D 19), (D 20), (D 21), (D 22)], []⟩ ∧ At w0 w h ∧ I x5 h) (fun a w => m (a.tmps.getD 5 undef) w.heap) ?_ ?_
  · exact ⟨(fun i => ([(.bool false), undef, undef, undef, undef, undef, undef, undef, undef, undef, undef, undef, undef, undef, undef, undef, undef, undef, undef, undef, undef, undef, undef]).getD i undef), (.int .i64 0), h, by kernel_rfl, HA, H0⟩
  · rintro _ w ⟨D, x5, h, rfl, HA, HI⟩
    have H : betonyref03_in_l1 R x0 x1 (fun x5' h' => I x5' h' ∧ m x5' h' < m x5 h) x5 h := HB x5 h HI
    clear HB H0 HI
    unfold betonyref03_in_l1 at H
    refine wp_seq ?_
    refine wp_seq ?_
    refine lwp_list ?_
    refine ls_move (x := x5) (by kernel_rfl) (by kernel_rfl) ?_
    refine ls_p (d := some 7) (by kernel_rfl) (by kernel_rfl) (p_add (by kernel_rfl) (by kernel_rfl) H) (fun x7 H => ?_)
    refine ls_move (x := x0) (by kernel_rfl) (by kernel_rfl) ?_
    refine ls_p (d := some 9) (by kernel_rfl) (by kernel_rfl) (p_len Tryd.underlying80 (by kernel_rfl) H) (fun x9 H => ?_)
    refine ls_p (d := some 10) (by kernel_rfl) (by kernel_rfl) (p_sLt (by kernel_rfl) (by kernel_rfl) H) (fun x10 H => ?_)
    refine ls_nil ?_
    refine then_normal ?_
    refine fr_eq (b := ⟨#[x0, x1, undef, undef, (D 0), x5, x5, x7, x0, x9, x10, (D 6), (D 7), (D 8), (D 9), (D 10), (D 11), (D 12), (D 13), (D 14), (D 15), (D 16), (D 17), (D 18), (D 19), (D 20), (D 21), (D 22)], []⟩) (by kernel_rfl) ?_
    refine wp_if rfl H (fun H => ?_) (fun H => ?_)
    · refine wp_skip ?_
      refine then_normal ?_
      refine fr_eq (b := ⟨#[x0, x1, undef, undef, (D 0), x5, x5, x7, x0, x9, x10, (D 6), (D 7), (D 8), (D 9), (D 10), (D 11), (D 12), (D 13), (D 14), (D 15), (D 16), (D 17), (D 18), (D 19), (D 20), (D 21), (D 22)], []⟩) (by kernel_rfl) ?_
      refine wp_seq ?_
      refine wp_block ?_
      refine wp_seq ?_
      refine lwp_list ?_
      refine ls_move (x := x1) (by kernel_rfl) (by kernel_rfl) ?_
      refine ls_move (x := x0) (by kernel_rfl) (by kernel_rfl) ?_
      refine ls_move (x := x5) (by kernel_rfl) (by kernel_rfl) ?_
      refine ls_p (d := some 16) (by kernel_rfl) (by kernel_rfl) (p_ixs Tryd.underlying80 Tryd.sizeOf3 (by kernel_rfl) (by kernel_rfl) H) (fun x16 H => ?_)
      refine ls_y (d := some 17) (by kernel_rfl) (by kernel_rfl) HA (y_ld Tryd.isAgg3 (by kernel_rfl) H) (fun x17 H => ?_)
      refine ls_p (d := some 18) (by kernel_rfl) (by kernel_rfl) (p_sGe (by kernel_rfl) (by kernel_rfl) H) (fun x18 H => ?_)
      refine ls_fr (b := ⟨#[x0, x1, undef, undef, (D 0), x5, x5, x7, x0, x9, x10, (D 6), (D 7), x1, x0, x5, x16, x17, x18, (D 14), (D 15), (D 16), (D 17), (D 18), (D 19), (D 20), (D 21), (D 22)], []⟩) (by kernel_rfl) ?_
      refine ls_move (x := x18) (by kernel_rfl) (by kernel_rfl) ?_
      refine ls_and [(), (), (), (), (), (), (), ()] (fun K a w => ∃ (D_1 : Nat → Value) (x27 : Value), a = ⟨#[x0, x1, undef, undef, (D 0), x5, x5, x7, x0, x9, x10, (D 6), (D 7), x1, x0, x5, x16, x17, x18, x18, (D_1 0), (D_1 1), (D_1 2), (D_1 3), (D_1 4), (D_1 5), (D_1 6), x27], []⟩ ∧ At w0 w h ∧ K x27) H (fun hb H => ?_) (fun hb H => ?_) ?_
      · refine ls_move (x := x1) (by rw [hb]; kernel_rfl) (by kernel_rfl) ?_
        refine ls_move (x := x0) (by rw [hb]; kernel_rfl) (by kernel_rfl) ?_
        refine ls_move (x := x5) (by rw [hb]; kernel_rfl) (by kernel_rfl) ?_
        refine ls_p (d := some 23) (by kernel_rfl) (by rw [hb]; kernel_rfl) (p_add (by kernel_rfl) (by kernel_rfl) H) (fun x23 H => ?_)
        refine ls_p (d := some 24) (by kernel_rfl) (by rw [hb]; kernel_rfl) (p_ixs Tryd.underlying80 Tryd.sizeOf3 (by kernel_rfl) (by kernel_rfl) H) (fun x24 H => ?_)
        refine ls_fr (b := ⟨#[x0, x1, undef, undef, (D 0), x5, x5, x7, x0, x9, x10, (D 6), (D 7), x1, x0, x5, x16, x17, x18, x18, x1, x0, x5, x23, x24, (D 20), (D 21), (D 22)], []⟩) (by kernel_rfl) ?_
        refine ls_y (d := some 25) (by kernel_rfl) (by rw [hb]; kernel_rfl) HA (y_ld Tryd.isAgg3 (by kernel_rfl) H) (fun x25 H => ?_)
        refine ls_p (d := some 26) (by kernel_rfl) (by rw [hb]; kernel_rfl) (p_sLe (by kernel_rfl) (by kernel_rfl) H) (fun x26 H => ?_)
        refine ls_pick_t (x := x26) (by kernel_rfl) (by rw [hb]; kernel_rfl) (by kernel_rfl) ?_
        refine ls_nil ?_
        refine then_normal ?_
        exact ⟨(fun i => ([x1, x0, x5, x23, x24, x25, x26]).getD i undef), x26, by kernel_rfl, HA, H⟩
      · refine ls_skip (d := some 20) (by kernel_rfl) (by rw [hb]; kernel_rfl) ?_
        refine ls_skip (d := some 21) (by kernel_rfl) (by rw [hb]; kernel_rfl) ?_
        refine ls_skip (d := some 22) (by kernel_rfl) (by rw [hb]; kernel_rfl) ?_
        refine ls_skip (d := some 23) (by kernel_rfl) (by rw [hb]; kernel_rfl) ?_
        refine ls_skip (d := some 24) (by kernel_rfl) (by rw [hb]; kernel_rfl) ?_
        refine ls_fr (b := ⟨#[x0, x1, undef, undef, (D 0), x5, x5, x7, x0, x9, x10, (D 6), (D 7), x1, x0, x5, x16, x17, x18, x18, undef, undef, undef, undef, undef, (D 20), (D 21), (D 22)], []⟩) (by kernel_rfl) ?_
        refine ls_skip (d := some 25) (by kernel_rfl) (by rw [hb]; kernel_rfl) ?_
        refine ls_skip (d := some 26) (by kernel_rfl) (by rw [hb]; kernel_rfl) ?_
        refine ls_pick_f (y := (.bool false)) (by kernel_rfl) (by rw [hb]; kernel_rfl) (by kernel_rfl) ?_
        refine ls_nil ?_
        refine then_normal ?_
        exact ⟨(fun i => ([undef, undef, undef, undef, undef, undef, undef]).getD i undef), (.bool false), by kernel_rfl, HA, H⟩
      · rintro _ w_1 ⟨D_1, x27, rfl, HA_1, H⟩
        refine ls_nil ?_
        refine then_normal ?_
        refine fr_eq (b := ⟨#[x0, x1, undef, undef, (D 0), x5, x5, x7, x0, x9, x10, (D 6), (D 7), x1, x0, x5, x16, x17, x18, x18, (D_1 0), (D_1 1), (D_1 2), (D_1 3), (D_1 4), (D_1 5), (D_1 6), x27], []⟩) (by kernel_rfl) ?_
        refine wp_if rfl H (fun H => ?_) (fun H => ?_)
        · refine wp_seq ?_
          refine lwp_list ?_
          refine ls_assign (x := (.bool true)) (by kernel_rfl) (by kernel_rfl) ?_
          refine ls_nil ?_
          refine then_normal ?_
          refine fr_eq (b := ⟨#[x0, x1, undef, undef, (.bool true), x5, x5, x7, x0, x9, x10, (D 6), (D 7), x1, x0, x5, x16, x17, x18, x18, (D_1 0), (D_1 1), (D_1 2), (D_1 3), (D_1 4), (D_1 5), (D_1 6), x27], []⟩) (by kernel_rfl) ?_
          refine wp_ret ?_
          refine block_ret ?_
          refine then_ret ?_
          refine then_ret ?_
          refine block_ret ?_
          refine then_ret ?_
          exact end1 (Tryd.results67) (by kernel_rfl) (by kernel_rfl) HA_1 H _ (.inr rfl)
        · refine wp_skip ?_
          refine block_normal ?_
          refine then_normal ?_
          refine fr_eq (b := ⟨#[x0, x1, undef, undef, (D 0), x5, x5, x7, x0, x9, x10, (D 6), (D 7), x1, x0, x5, x16, x17, x18, x18, (D_1 0), (D_1 1), (D_1 2), (D_1 3), (D_1 4), (D_1 5), (D_1 6), x27], []⟩) (by kernel_rfl) ?_
          refine lwp_list ?_
          refine ls_move (x := x5) (by kernel_rfl) (by kernel_rfl) ?_
          refine ls_p (d := some 12) (by kernel_rfl) (by kernel_rfl) (p_add (by kernel_rfl) (by kernel_rfl) H) (fun x12 H => ?_)
          refine ls_assign (x := x12) (by kernel_rfl) (by kernel_rfl) ?_
          refine ls_nil ?_
          exact ⟨⟨(fun i => ([(D 0), x5, x7, x0, x9, x10, x5, x12, x1, x0, x5, x16, x17, x18, x18, (D_1 0), (D_1 1), (D_1 2), (D_1 3), (D_1 4), (D_1 5), (D_1 6), x27]).getD i undef), x12, h, by kernel_rfl, HA_1, H.1⟩, loop_lt HA_1.heap HA.heap (by kernel_rfl) (by kernel_rfl) H.2⟩
    · refine wp_exit ?_
      refine then_exit ?_
      refine then_exit ?_
      refine block_exit ?_
      refine then_normal ?_
      refine fr_eq (b := ⟨#[x0, x1, undef, undef, (D 0), x5, x5, x7, x0, x9, x10, (D 6), (D 7), (D 8), (D 9), (D 10), (D 11), (D 12), (D 13), (D 14), (D 15), (D 16), (D 17), (D 18), (D 19), (D 20), (D 21), (D 22)], []⟩) (by kernel_rfl) ?_
      refine wp_seq ?_
      refine lwp_list ?_
      refine ls_assign (x := (.bool false)) (by kernel_rfl) (by kernel_rfl) ?_
      refine ls_nil ?_
      refine then_normal ?_
      refine fr_eq (b := ⟨#[x0, x1, undef, undef, (.bool false), x5, x5, x7, x0, x9, x10, (D 6), (D 7), (D 8), (D 9), (D 10), (D 11), (D 12), (D 13), (D 14), (D 15), (D 16), (D 17), (D 18), (D 19), (D 20), (D 21), (D 22)], []⟩) (by kernel_rfl) ?_
      refine wp_ret ?_
      exact end1 (Tryd.results67) (by kernel_rfl) (by kernel_rfl) HA H _ (.inr rfl)

end Go.Proofs.YtmhhjpfkipficaaDoor

end

section
/- The shallow reading of one function, and that the function does it. Written by a program. -/
set_option linter.unusedVariables false
namespace Go.Proofs.YtmhhjpfkipficaaDoor
open Go Go.HW

def betonyref03_Width_S (x0 : Value) (h : Heap) (R : Value → Heap → Prop) : Prop :=
  sLt x0 (.int .i64 32) fun x4 =>
  sOr x4 (fun k_1 =>
  sGe x0 (.int .i64 127) fun x7 =>
  sAnd x7 (fun k_2 =>
  sLe x0 (.int .i64 159) fun x10 =>
  k_2 x10) fun x11 =>
  k_1 x11) fun x12 =>
  sOr x12 (fun k =>
  sGt x0 (.int .i64 1114111) fun x15 =>
  k x15) fun x16 =>
  sIf x16 (R (.int .i64 (-1)) h) (sSlit h #[.int .i64 0, .int .i64 0, .int .i64 0, .int .i64 0, .int .i64 0, .int .i64 0, .int .i64 0, .int .i64 0, .int .i64 0, .int .i64 0, .int .i64 0, .int .i64 0, .int .i64 0, .int .i64 0, .int .i64 0, .int .i64 0, .int .i64 0, .int .i64 0] [(0, 1, (.int .i64 768)), (1, 1, (.int .i64 879)), (2, 1, (.int .i64 1155)), (3, 1, (.int .i64 1161)), (4, 1, (.int .i64 1425)), (5, 1, (.int .i64 1469)), (6, 1, (.int .i64 1552)), (7, 1, (.int .i64 1562)), (8, 1, (.int .i64 1611)), (9, 1, (.int .i64 1631)), (10, 1, (.int .i64 8203)), (11, 1, (.int .i64 8207)), (12, 1, (.int .i64 8400)), (13, 1, (.int .i64 8432)), (14, 1, (.int .i64 65024)), (15, 1, (.int .i64 65039)), (16, 1, (.int .i64 65056)), (17, 1, (.int .i64 65071))] 3 18 fun x17 h => 
  betonyref03_in_c x17 x0 h fun x19 h_1 => 
  sIf x19 (R (.int .i64 0) h_1) (sSlit h_1 #[.int .i64 0, .int .i64 0, .int .i64 0, .int .i64 0, .int .i64 0, .int .i64 0, .int .i64 0, .int .i64 0, .int .i64 0, .int .i64 0, .int .i64 0, .int .i64 0, .int .i64 0, .int .i64 0, .int .i64 0, .int .i64 0, .int .i64 0, .int .i64 0, .int .i64 0, .int .i64 0, .int .i64 0, .int .i64 0, .int .i64 0, .int .i64 0, .int .i64 0, .int .i64 0, .int .i64 0, .int .i64 0] [(0, 1, (.int .i64 4352)), (1, 1, (.int .i64 4447)), (2, 1, (.int .i64 11904)), (3, 1, (.int .i64 12350)), (4, 1, (.int .i64 12353)), (5, 1, (.int .i64 13311)), (6, 1, (.int .i64 13312)), (7, 1, (.int .i64 19903)), (8, 1, (.int .i64 19968)), (9, 1, (.int .i64 40959)), (10, 1, (.int .i64 40960)), (11, 1, (.int .i64 42191)), (12, 1, (.int .i64 44032)), (13, 1, (.int .i64 55203)), (14, 1, (.int .i64 63744)), (15, 1, (.int .i64 64255)), (16, 1, (.int .i64 65072)), (17, 1, (.int .i64 65135)), (18, 1, (.int .i64 65280)), (19, 1, (.int .i64 65376)), (20, 1, (.int .i64 65504)), (21, 1, (.int .i64 65510)), (22, 1, (.int .i64 127744)), (23, 1, (.int .i64 128591)), (24, 1, (.int .i64 129280)), (25, 1, (.int .i64 129535)), (26, 1, (.int .i64 131072)), (27, 1, (.int .i64 262141))] 3 28 fun x20 h_2 => 
  betonyref03_in_c x20 x0 h_2 fun x22 h_3 => 
  sIf x22 (R (.int .i64 2) h_3) (R (.int .i64 1) h_3)))
set_option maxRecDepth 100000 in
theorem betonyref03_Width_runs {x0 : Value} {h : Heap} {R : Value → Heap → Prop} (H : betonyref03_Width_S x0 h R) : betonyref03_Width_c x0 h R := by
  unfold betonyref03_Width_S at H
  refine runs_of (b := ⟨#[x0, undef, undef, undef, undef, undef, undef, undef, undef, undef, undef, undef, undef, undef, undef, undef, undef, undef, undef, undef, undef, undef, undef], []⟩) Tryd.call20 Tryd.func20 rfl (by kernel_rfl) (fun w0 HA => ?_)
  refine wp_seq ?_
  refine lwp_list ?_
  refine ls_assign (x := (.int .i64 0)) (by kernel_rfl) (by kernel_rfl) ?_
  refine ls_nil ?_
  refine then_normal ?_
  refine fr_eq (b := ⟨#[x0, undef, (.int .i64 0), undef, undef, undef, undef, undef, undef, undef, undef, undef, undef, undef, undef, undef, undef, undef, undef, undef, undef, undef, undef], []⟩) (by kernel_rfl) ?_
  refine wp_seq ?_
  refine wp_seq ?_
  refine lwp_list ?_
  refine ls_move (x := x0) (by kernel_rfl) (by kernel_rfl) ?_
  refine ls_p (d := some 4) (by kernel_rfl) (by kernel_rfl) (p_sLt (by kernel_rfl) (by kernel_rfl) H) (fun x4 H => ?_)
  refine ls_move (x := x4) (by kernel_rfl) (by kernel_rfl) ?_
  refine ls_or [(), (), (), (), (), (), ()] (fun K a w => ∃ (D : Nat → Value) (x12 : Value), a = ⟨#[x0, undef, (.int .i64 0), x0, x4, x4, (D 0), (D 1), (D 2), (D 3), (D 4), (D 5), x12, undef, undef, undef, undef, undef, undef, undef, undef, undef, undef], []⟩ ∧ At w0 w h ∧ K x12) H (fun hb_1 H => ?_) (fun hb_1 H => ?_) ?_
  · refine ls_move (x := x0) (by rw [hb_1]; kernel_rfl) (by kernel_rfl) ?_
    refine ls_p (d := some 7) (by kernel_rfl) (by rw [hb_1]; kernel_rfl) (p_sGe (by kernel_rfl) (by kernel_rfl) H) (fun x7 H => ?_)
    refine ls_move (x := x7) (by rw [hb_1]; kernel_rfl) (by kernel_rfl) ?_
    refine ls_fr (b := ⟨#[x0, undef, (.int .i64 0), x0, x4, x4, x0, x7, x7, undef, undef, undef, undef, undef, undef, undef, undef, undef, undef, undef, undef, undef, undef], []⟩) (by kernel_rfl) ?_
    refine ls_and [(), (), ()] (fun K a w => ∃ (D_2 : Nat → Value) (x11 : Value), a = ⟨#[x0, undef, (.int .i64 0), x0, x4, x4, x0, x7, x7, (D_2 0), (D_2 1), x11, undef, undef, undef, undef, undef, undef, undef, undef, undef, undef, undef], []⟩ ∧ At w0 w h ∧ K x11) H (fun hb_2 H => ?_) (fun hb_2 H => ?_) ?_
    · refine ls_move (x := x0) (by rw [hb_2]; kernel_rfl) (by kernel_rfl) ?_
      refine ls_p (d := some 10) (by kernel_rfl) (by rw [hb_2]; kernel_rfl) (p_sLe (by kernel_rfl) (by kernel_rfl) H) (fun x10 H => ?_)
      refine ls_pick_t (x := x10) (by rw [hb_1]; kernel_rfl) (by rw [hb_2]; kernel_rfl) (by kernel_rfl) ?_
      refine ls_nil ?_
      refine then_normal ?_
      exact ⟨(fun i => ([x0, x10]).getD i undef), x10, by kernel_rfl, HA, H⟩
    · refine ls_skip (d := some 9) (by kernel_rfl) (by rw [hb_2]; kernel_rfl) ?_
      refine ls_skip (d := some 10) (by kernel_rfl) (by rw [hb_2]; kernel_rfl) ?_
      refine ls_pick_f (y := (.bool false)) (by rw [hb_1]; kernel_rfl) (by rw [hb_2]; kernel_rfl) (by kernel_rfl) ?_
      refine ls_nil ?_
      refine then_normal ?_
      exact ⟨(fun i => ([undef, undef]).getD i undef), (.bool false), by kernel_rfl, HA, H⟩
    · rintro _ w_6 ⟨D_2, x11, rfl, HA_6, H⟩
      refine ls_pick_f (y := x11) (by kernel_rfl) (by rw [hb_1]; kernel_rfl) (by kernel_rfl) ?_
      refine ls_nil ?_
      refine then_normal ?_
      exact ⟨(fun i => ([x0, x7, x7, (D_2 0), (D_2 1), x11]).getD i undef), x11, by kernel_rfl, HA_6, H⟩
  · refine ls_skip (d := some 6) (by kernel_rfl) (by rw [hb_1]; kernel_rfl) ?_
    refine ls_skip (d := some 7) (by kernel_rfl) (by rw [hb_1]; kernel_rfl) ?_
    refine ls_skip (d := some 8) (by kernel_rfl) (by rw [hb_1]; kernel_rfl) ?_
    refine ls_fr (b := ⟨#[x0, undef, (.int .i64 0), x0, x4, x4, undef, undef, undef, undef, undef, undef, undef, undef, undef, undef, undef, undef, undef, undef, undef, undef, undef], []⟩) (by kernel_rfl) ?_
    refine ls_skip (d := some 9) (by kernel_rfl) (by kernel_rfl) ?_
    refine ls_skip (d := some 10) (by kernel_rfl) (by kernel_rfl) ?_
    refine ls_skip (d := some 11) (by kernel_rfl) (by rw [hb_1]; kernel_rfl) ?_
    refine ls_pick_t (x := (.bool true)) (by kernel_rfl) (by rw [hb_1]; kernel_rfl) (by kernel_rfl) ?_
    refine ls_nil ?_
    refine then_normal ?_
    exact ⟨(fun i => ([undef, undef, undef, undef, undef, undef]).getD i undef), (.bool true), by kernel_rfl, HA, H⟩
  · rintro _ w ⟨D, x12, rfl, HA, H⟩
    refine ls_move (x := x12) (by kernel_rfl) (by kernel_rfl) ?_
    refine ls_or [(), (), ()] (fun K a w => ∃ (D_1 : Nat → Value) (x16 : Value), a = ⟨#[x0, undef, (.int .i64 0), x0, x4, x4, (D 0), (D 1), (D 2), (D 3), (D 4), (D 5), x12, x12, (D_1 0), (D_1 1), x16, undef, undef, undef, undef, undef, undef], []⟩ ∧ At w0 w h ∧ K x16) H (fun hb H => ?_) (fun hb H => ?_) ?_
    · refine ls_move (x := x0) (by rw [hb]; kernel_rfl) (by kernel_rfl) ?_
      refine ls_p (d := some 15) (by kernel_rfl) (by rw [hb]; kernel_rfl) (p_sGt (by kernel_rfl) (by kernel_rfl) H) (fun x15 H => ?_)
      refine ls_pick_f (y := x15) (by kernel_rfl) (by rw [hb]; kernel_rfl) (by kernel_rfl) ?_
      refine ls_nil ?_
      refine then_normal ?_
      exact ⟨(fun i => ([x0, x15]).getD i undef), x15, by kernel_rfl, HA, H⟩
    · refine ls_skip (d := some 14) (by kernel_rfl) (by rw [hb]; kernel_rfl) ?_
      refine ls_skip (d := some 15) (by kernel_rfl) (by rw [hb]; kernel_rfl) ?_
      refine ls_pick_t (x := (.bool true)) (by kernel_rfl) (by rw [hb]; kernel_rfl) (by kernel_rfl) ?_
      refine ls_nil ?_
      refine then_normal ?_
      exact ⟨(fun i => ([undef, undef]).getD i undef), (.bool true), by kernel_rfl, HA, H⟩
    · rintro _ w_1 ⟨D_1, x16, rfl, HA_1, H⟩
      refine ls_nil ?_
      refine then_normal ?_
      refine fr_eq (b := ⟨#[x0, undef, (.int .i64 0), x0, x4, x4, (D 0), (D 1), (D 2), (D 3), (D 4), (D 5), x12, x12, (D_1 0), (D_1 1), x16, undef, undef, undef, undef, undef, undef], []⟩) (by kernel_rfl) ?_
      refine wp_if rfl H (fun H => ?_) (fun H => ?_)
      · refine wp_seq ?_
        refine lwp_list ?_
        refine ls_assign (x := (.int .i64 (-1))) (by kernel_rfl) (by kernel_rfl) ?_
        refine ls_nil ?_
        refine then_normal ?_
        refine fr_eq (b := ⟨#[x0, undef, (.int .i64 (-1)), x0, x4, x4, (D 0), (D 1), (D 2), (D 3), (D 4), (D 5), x12, x12, (D_1 0), (D_1 1), x16, undef, undef, undef, undef, undef, undef], []⟩) (by kernel_rfl) ?_
        refine wp_ret ?_
        refine then_ret ?_
        exact end1 (Tryd.results20) (by kernel_rfl) (by kernel_rfl) HA_1 H _ (.inr rfl)
      · refine wp_skip ?_
        refine then_normal ?_
        refine fr_eq (b := ⟨#[x0, undef, (.int .i64 0), x0, x4, x4, (D 0), (D 1), (D 2), (D 3), (D 4), (D 5), x12, x12, (D_1 0), (D_1 1), x16, undef, undef, undef, undef, undef, undef], []⟩) (by kernel_rfl) ?_
        refine wp_seq ?_
        refine wp_seq ?_
        refine lwp_list ?_
        refine ls_d (d := some 17) (by kernel_rfl) (by kernel_rfl) HA_1 (d_slit (zc := #[.int .i64 0]) Tryd.underlying80 Tryd.sizeOf3 (by decide) (.inr ⟨by decide, _, Tryd.zeroValue3, (by kernel_rfl)⟩) (by kernel_rfl) (by kernel_rfl) H) (fun x17 h w_2 H HA_2 => ?_)
        refine ls_move (x := x0) (by kernel_rfl) (by kernel_rfl) ?_
        refine ls_d (d := some 19) (by kernel_rfl) (by kernel_rfl) HA_2 (d_call (by kernel_rfl) (by kernel_rfl) H) (fun x19 h_1 w_3 H HA_3 => ?_)
        refine ls_nil ?_
        refine then_normal ?_
        refine fr_eq (b := ⟨#[x0, undef, (.int .i64 0), x0, x4, x4, (D 0), (D 1), (D 2), (D 3), (D 4), (D 5), x12, x12, (D_1 0), (D_1 1), x16, x17, x0, x19, undef, undef, undef], []⟩) (by kernel_rfl) ?_
        refine wp_if rfl H (fun H => ?_) (fun H => ?_)
        · refine wp_seq ?_
          refine lwp_list ?_
          refine ls_assign (x := (.int .i64 0)) (by kernel_rfl) (by kernel_rfl) ?_
          refine ls_nil ?_
          refine then_normal ?_
          refine fr_eq (b := ⟨#[x0, undef, (.int .i64 0), x0, x4, x4, (D 0), (D 1), (D 2), (D 3), (D 4), (D 5), x12, x12, (D_1 0), (D_1 1), x16, x17, x0, x19, undef, undef, undef], []⟩) (by kernel_rfl) ?_
          refine wp_ret ?_
          refine then_ret ?_
          exact end1 (Tryd.results20) (by kernel_rfl) (by kernel_rfl) HA_3 H _ (.inr rfl)
        · refine wp_skip ?_
          refine then_normal ?_
          refine fr_eq (b := ⟨#[x0, undef, (.int .i64 0), x0, x4, x4, (D 0), (D 1), (D 2), (D 3), (D 4), (D 5), x12, x12, (D_1 0), (D_1 1), x16, x17, x0, x19, undef, undef, undef], []⟩) (by kernel_rfl) ?_
          refine wp_seq ?_
          refine wp_seq ?_
          refine lwp_list ?_
          refine ls_d (d := some 20) (by kernel_rfl) (by kernel_rfl) HA_3 (d_slit (zc := #[.int .i64 0]) Tryd.underlying80 Tryd.sizeOf3 (by decide) (.inr ⟨by decide, _, Tryd.zeroValue3, (by kernel_rfl)⟩) (by kernel_rfl) (by kernel_rfl) H) (fun x20 h_2 w_4 H HA_4 => ?_)
          refine ls_move (x := x0) (by kernel_rfl) (by kernel_rfl) ?_
          refine ls_d (d := some 22) (by kernel_rfl) (by kernel_rfl) HA_4 (d_call (by kernel_rfl) (by kernel_rfl) H) (fun x22 h_3 w_5 H HA_5 => ?_)
          refine ls_nil ?_
          refine then_normal ?_
          refine fr_eq (b := ⟨#[x0, undef, (.int .i64 0), x0, x4, x4, (D 0), (D 1), (D 2), (D 3), (D 4), (D 5), x12, x12, (D_1 0), (D_1 1), x16, x17, x0, x19, x20, x0, x22], []⟩) (by kernel_rfl) ?_
          refine wp_if rfl H (fun H => ?_) (fun H => ?_)
          · refine wp_seq ?_
            refine lwp_list ?_
            refine ls_assign (x := (.int .i64 2)) (by kernel_rfl) (by kernel_rfl) ?_
            refine ls_nil ?_
            refine then_normal ?_
            refine fr_eq (b := ⟨#[x0, undef, (.int .i64 2), x0, x4, x4, (D 0), (D 1), (D 2), (D 3), (D 4), (D 5), x12, x12, (D_1 0), (D_1 1), x16, x17, x0, x19, x20, x0, x22], []⟩) (by kernel_rfl) ?_
            refine wp_ret ?_
            refine then_ret ?_
            exact end1 (Tryd.results20) (by kernel_rfl) (by kernel_rfl) HA_5 H _ (.inr rfl)
          · refine wp_skip ?_
            refine then_normal ?_
            refine fr_eq (b := ⟨#[x0, undef, (.int .i64 0), x0, x4, x4, (D 0), (D 1), (D 2), (D 3), (D 4), (D 5), x12, x12, (D_1 0), (D_1 1), x16, x17, x0, x19, x20, x0, x22], []⟩) (by kernel_rfl) ?_
            refine wp_seq ?_
            refine lwp_list ?_
            refine ls_assign (x := (.int .i64 1)) (by kernel_rfl) (by kernel_rfl) ?_
            refine ls_nil ?_
            refine then_normal ?_
            refine fr_eq (b := ⟨#[x0, undef, (.int .i64 1), x0, x4, x4, (D 0), (D 1), (D 2), (D 3), (D 4), (D 5), x12, x12, (D_1 0), (D_1 1), x16, x17, x0, x19, x20, x0, x22], []⟩) (by kernel_rfl) ?_
            refine wp_ret ?_
            exact end1 (Tryd.results20) (by kernel_rfl) (by kernel_rfl) HA_5 H _ (.inr rfl)

end Go.Proofs.YtmhhjpfkipficaaDoor

end

section
/- Widths of runes: the tables, the search, both answers. -/
set_option linter.unusedSimpArgs false
namespace Go.Proofs.YtmhhjpfkipficaaDoor
open Go Go.HW

abbrev Row := Int × Int
def encR (p : Row) : List Value := [.int .i32 p.1, .int .i32 p.2]
theorem encR_len (p : Row) : (encR p).length = 2 := rfl
def marks : List Row := [(0x300, 0x36f), (0x483, 0x489), (0x591, 0x5bd), (0x610, 0x61a), (0x64b, 0x65f), (0x200b, 0x200f), (0x20d0, 0x20f0), (0xfe00, 0xfe0f), (0xfe20, 0xfe2f)]
def wides : List Row := [(0x1100, 0x115f), (0x2e80, 0x303e), (0x3041, 0x33ff), (0x3400, 0x4dbf), (0x4e00, 0x9fff), (0xa000, 0xa4cf), (0xac00, 0xd7a3), (0xf900, 0xfaff), (0xfe30, 0xfe6f), (0xff00, 0xff60), (0xffe0, 0xffe6), (0x1f300, 0x1f64f), (0x1f900, 0x1f9ff), (0x20000, 0x3fffd)]
def inT (T : List Row) (r : Int) : Bool := T.any fun p => decide (p.1 ≤ r) && decide (r ≤ p.2)
theorem inT_iff {T : List Row} {r : Int} : inT T r = true ↔ ∃ (j : Nat) (p : Row), T[j]? = some p ∧ p.1 ≤ r ∧ r ≤ p.2 := by
  simp only [inT, List.any_eq_true, Bool.and_eq_true, decide_eq_true_eq]
  constructor
  · rintro ⟨p, hp, x⟩
    obtain ⟨j, hj⟩ := List.mem_iff_getElem?.1 hp
    exact ⟨j, p, hj, x⟩
  · rintro ⟨j, p, hj, x⟩
    exact ⟨p, List.mem_of_getElem? hj, x⟩
/-- Rows that rise. -/
def rising : List Row → Bool
  | [] => true
  | p :: r => decide (p.1 ≤ p.2) && (r.all fun q => decide (p.2 < q.1)) && rising r
theorem rising_lt : ∀ {T : List Row}, rising T = true → ∀ {i j : Nat} {p q : Row}, i < j → T[i]? = some p → T[j]? = some q → p.2 < q.1
  | [], _, i, j, p, q, _, h, _ => by simp at h
  | a :: r, h, 0, j + 1, p, q, _, h1, h2 => by
    simp only [rising, Bool.and_eq_true, List.all_eq_true, decide_eq_true_eq] at h
    simp at h1 h2
    subst h1
    exact h.1.2 q (List.mem_of_getElem? h2)
  | a :: r, h, i + 1, j + 1, p, q, hij, h1, h2 => by
    simp only [rising, Bool.and_eq_true] at h
    exact rising_lt (i := i) (j := j) h.2 (by omega) (by simpa using h1) (by simpa using h2)
theorem rising_le : ∀ {T : List Row}, rising T = true → ∀ {i : Nat} {p : Row}, T[i]? = some p → p.1 ≤ p.2
  | a :: r, h, 0, p, h1 => by
    simp only [rising, Bool.and_eq_true, decide_eq_true_eq] at h
    simp at h1; subst h1; exact h.1.1
  | a :: r, h, i + 1, p, h1 => by
    simp only [rising, Bool.and_eq_true] at h
    exact rising_le h.2 (by simpa using h1)
  | [], _, _, _, h => by simp at h
def outR (r : Int) : Bool := decide (r < 32) || (decide (127 ≤ r) && decide (r < 160)) || decide (1114111 < r)
def wt (r : Int) : Int := if outR r = true then -1 else if inT marks r = true then 0 else if inT wides r = true then 2 else 1
theorem wt_rng (r : Int) : -1 ≤ wt r ∧ wt r ≤ 2 := by
  unfold wt; split
  · omega
  · split
    · omega
    · split <;> omega

/-- A table in memory. -/
def Tb (g : Nat) (T : List Row) (h : Heap) : Prop := g < h.size ∧ ∀ (i : Nat) v, (T.flatMap encR)[i]? = some v → h.at g i = some v
theorem Tb.ext {g : Nat} {T : List Row} {h h' : Heap} (x : Tb g T h) (e : Ext h h') : Tb g T h' := ⟨Nat.lt_of_lt_of_le x.1 e.size, fun i v hv => (e.at x.1).trans (x.2 i v hv)⟩
theorem Tb.seq {g : Nat} {T : List Row} {h : Heap} (x : Tb g T h) : Seq encR 2 h (.slice (some ⟨g, 0, none⟩) T.length T.length) T := by
  refine ⟨_, _, _, rfl, rfl, Nat.le_refl _, .inr ⟨g, 0, rfl, x.1, fun j p hj i u hu => ?_⟩⟩
  rw [Nat.zero_add]
  have hi : i < 2 := by have := (List.getElem?_eq_some_iff.1 hu).1; exact this
  exact x.2 _ _ (by rw [get_flat encR_len T j i p hj hi]; exact hu)
def G (h : Heap) : Prop := Tb 0 marks h ∧ Tb 1 wides h
theorem G.ext {h h' : Heap} (g : G h) (e : Ext h h') : G h' := ⟨g.1.ext e, g.2.ext e⟩

section
variable {h : Heap} {R : Value → Heap → Prop}
def cmpR (p : Row) (r : Int) : Int := if p.2 < r then -1 else if p.1 > r then 1 else 0
theorem cmp_spec {p : Row} {r : Int} (H : ∀ h', Ext h h' → R (.int .i64 (cmpR p r)) h') : sCallV Tryd.prog (.func (.func 96) #[] #[]) #[.agg (encR p).toArray, .int .i32 r] h R := by
  refine ⟨96, #[], #[], rfl, ?_⟩
  show wide_in_1_c (.agg (encR p).toArray) (.int .i32 r) h R
  apply wide_in_1_runs
  unfold wide_in_1_S
  refine (HW.Sep.start h).box (c := (encR p).toArray) rfl (fun k h1 s1 => ?_)
  have f0 : ∀ {K : Value → Prop}, sLd h1 (ptr k 0) K = K (.int .i32 p.1) := s1.ld rfl
  have f1 : ∀ {K : Value → Prop}, sLd h1 (ptr k 1) K = K (.int .i32 p.2) := s1.ld rfl
  simp only [ev_off, Nat.zero_add, f0, f1, ev_lt, ev_gt, ev_if, decide_eq_true_eq]
  have H := H h1 s1.ext
  unfold cmpR at H
  split
  · rename_i h1; rw [if_pos h1] at H; exact H
  · rename_i h1; rw [if_neg h1] at H
    split
    · rename_i h2; rw [if_pos h2] at H; exact H
    · rename_i h2; rw [if_neg h2] at H; exact H
theorem cmp_neg {p : Row} {r : Int} : cmpR p r < 0 ↔ p.2 < r := by
  unfold cmpR; split
  · omega
  · split <;> omega
theorem cmp_zero {p : Row} {r : Int} : cmpR p r = 0 ↔ ¬ p.2 < r ∧ ¬ p.1 > r := by
  unfold cmpR; split
  · omega
  · split <;> omega
theorem ev_shr1 {a : Int} {K : Value → Prop} : sShr .u64 (.int .u64 a) (.int .u64 1) K = K (.int .u64 (a / 2)) := by
  have e : a.fdiv (2 ^ (min (1 : Int).toNat IntKind.u64.bits)) = a / 2 := by
    show a.fdiv 2 = a / 2
    exact Int.fdiv_eq_ediv_of_nonneg _ (by decide)
  exact propext ⟨fun ⟨_, _, _, e1, e2, _, x⟩ => by cases e1; cases e2; rw [e] at x; exact x, fun x => ⟨a, .u64, 1, rfl, rfl, by decide, by rw [e]; exact x⟩⟩
theorem in_spec {T : List Row} {v : Value} {r : Int} (hT : rising T = true) (hn : T.length ≤ 1000) (q : Seq encR 2 h v T) (H : ∀ h', Ext h h' → R (.bool (inT T r)) h') : wide_in_c v (.int .i32 r) h R := by
  apply wide_in_runs
  unfold wide_in_S
  apply slices_BinarySearchFunc_wide_row_wide_row_rune_runs
  unfold slices_BinarySearchFunc_wide_row_wide_row_rune_S
  rw [q.len]
  refine ⟨fun t h' => ∃ i j : Nat, i ≤ j ∧ j ≤ T.length ∧ t = (.int .i64 i, .int .i64 j) ∧ (∀ k p, k < i → T[k]? = some p → p.2 < r) ∧ (∀ k p, j ≤ k → T[k]? = some p → ¬ p.2 < r) ∧ Ext h h', fun t _ => match t with | (.int _ i, .int _ j) => (j - i).toNat | _ => 0, ⟨0, T.length, Nat.zero_le _, Nat.le_refl _, rfl, fun _ _ h => by omega, fun k p h1 h2 => ?_, Ext.refl h⟩, ?_⟩
  · have := (List.getElem?_eq_some_iff.1 h2).1; omega
  rintro _ h1 ⟨i, j, hij, hj, rfl, hlo, hhi, e1⟩
  simp only []
  unfold slices_BinarySearchFunc_wide_row_wide_row_rune_l1
  rw [ev_lt, ev_if]
  by_cases hlt : i < j
  · rw [if_pos (by simpa using hlt), ev_add, wrap_i64 (by omega) (by omega), ev_conv, wrap_u64, Int.emod_eq_of_lt (by omega) (by omega), ev_shr1, ev_conv, wrap_i64 (by omega) (by omega)]
    obtain ⟨m, hm⟩ : ∃ m : Nat, ((i : Int) + j) / 2 = m := ⟨(((i : Int) + j) / 2).toNat, by omega⟩
    rw [hm]
    have hmT : m < T.length := by omega
    obtain ⟨p, hp⟩ : ∃ p, T[m]? = some p := ⟨T[m], List.getElem?_eq_getElem hmT⟩
    rw [(q.ext e1).ldn hp rfl]
    refine cmp_spec (fun h2 e2 => ?_)
    rw [ev_lt, ev_if]
    split
    · rename_i hc
      rw [decide_eq_true_eq, cmp_neg] at hc
      rw [ev_add, wrap_i64 (by omega) (by omega)]
      refine ⟨⟨m + 1, j, by omega, hj, by rw [Int.natCast_add]; rfl, fun k x hk hx => ?_, hhi, e1.trans e2⟩, by simp only; omega⟩
      by_cases hkm : k = m
      · subst hkm; rw [hp] at hx; cases hx; exact hc
      · have h1 := rising_lt hT (show k < m by omega) hx hp
        have h2 := rising_le hT hp
        omega
    · rename_i hc
      rw [decide_eq_true_eq, cmp_neg] at hc
      refine ⟨⟨i, m, by omega, by omega, rfl, hlo, fun k x hk hx => ?_, e1.trans e2⟩, by simp only; omega⟩
      by_cases hkm : k = m
      · subst hkm; rw [hp] at hx; cases hx; exact hc
      · have h1 := rising_lt hT (show m < k by omega) hp hx
        have h2 := rising_le hT hx
        omega
  · have : i = j := by omega
    subst this
    rw [if_neg (by simp), ev_lt]
    by_cases hi : i < T.length
    · obtain ⟨p, hp⟩ : ∃ p, T[i]? = some p := ⟨T[i], List.getElem?_eq_getElem hi⟩
      rw [show decide ((i : Int) < (T.length : Int)) = true by simpa using hi, ev_andh, if_pos rfl, (q.ext e1).ldn hp rfl]
      refine cmp_spec (fun h2 e2 => ?_)
      simp only [ev_eq, ev_tup, List.getElem?_toArray, List.getElem?_cons_succ, List.getElem?_cons_zero]
      have : (cmpR p r == 0) = inT T r := by
        rw [Bool.eq_iff_iff, inT_iff, beq_iff_eq, cmp_zero]
        constructor
        · intro x; exact ⟨i, p, hp, by omega, by omega⟩
        · rintro ⟨k, x, hx, h1, h2⟩
          rcases Nat.lt_trichotomy k i with hk | hk | hk
          · have := hlo k x hk hx; omega
          · subst hk; rw [hp] at hx; cases hx; omega
          · have h3 := rising_lt hT hk hp hx
            have := hhi i p (Nat.le_refl _) hp; omega
      rw [this]; exact H _ (e1.trans e2)
    · rw [show decide ((i : Int) < (T.length : Int)) = false by simpa using hi, ev_andh, if_neg (by decide)]
      simp only [ev_tup, List.getElem?_toArray, List.getElem?_cons_succ, List.getElem?_cons_zero]
      have : inT T r = false := by
        rw [← Bool.not_eq_true, inT_iff]
        rintro ⟨k, x, hx, h1, h2⟩
        have h3 := (List.getElem?_eq_some_iff.1 hx).1
        have := hlo k x (by omega) hx; omega
      rw [this] at H
      exact H _ e1
theorem slA {g n : Nat} {K : Value → Prop} (H : K (.slice (some ⟨g, 0, none⟩) n n)) (hn : 0 < n) : sSlA (.pointer (some ⟨g, 0, none⟩)) none none n 2 K := by
  refine ⟨g, 0, 0, n, rfl, rfl, rfl, Nat.zero_le _, Nat.le_refl _, ?_⟩
  unfold cutV
  rw [if_neg (by omega)]
  simpa [Addr.add] using H
theorem width_spec {r : Int} (g : G h) (H : ∀ h', Ext h h' → R (.int .i64 (wt r)) h') : wide_Width_c (.int .i32 r) h R := by
  apply wide_Width_runs
  unfold wide_Width_S
  simp only [ev_lt, ev_ge, ev_gt, ev_and_p, ev_or_p, ev_if]
  unfold wt at H
  rw [show (decide (r < 32) || (decide (r ≥ 127) && decide (r < 160)) || decide (r > 1114111)) = outR r from rfl]
  split
  · rename_i h1; rw [if_pos h1] at H; exact H h (Ext.refl h)
  · rename_i h1; rw [if_neg h1] at H
    refine slA ?_ (by decide)
    refine in_spec (T := marks) (by decide) (by decide) g.1.seq (fun h2 e2 => ?_)
    rw [ev_if]
    split
    · rename_i h3; rw [if_pos h3] at H; exact H h2 e2
    · rename_i h3; rw [if_neg h3] at H
      refine slA ?_ (by decide)
      refine in_spec (T := wides) (by decide) (by decide) (g.2.seq.ext e2) (fun h4 e4 => ?_)
      rw [ev_if]
      split
      · rename_i h5; rw [if_pos h5] at H; exact H h4 (e2.trans e4)
      · rename_i h5; rw [if_neg h5] at H; exact H h4 (e2.trans e4)
/-- The reference's rows, one number behind the other. -/
def flt (T : List Row) : List Int := T.flatMap fun p => [p.1, p.2]
theorem flt_len : ∀ T : List Row, (flt T).length = 2 * T.length
  | [] => rfl
  | a :: r => by show ([a.1, a.2] ++ flt r).length = _; rw [List.length_append, flt_len r, List.length_cons]; simp; omega
theorem flt_get : ∀ {T : List Row} {k : Nat} {p : Row}, T[k]? = some p → (flt T)[2 * k]? = some p.1 ∧ (flt T)[2 * k + 1]? = some p.2
  | a :: r, 0, p, h => by simp at h; subst h; exact ⟨rfl, rfl⟩
  | a :: r, k + 1, p, h => by
    have := flt_get (T := r) (k := k) (p := p) (by simpa using h)
    exact this
  | [], _, _, h => by simp at h
theorem rwin_spec {T : List Row} {v : Value} {r : Int} (hn : T.length ≤ 1000) (q : Ints .i64 h v (flt T)) (H : R (.bool (inT T r)) h) : betonyref03_in_c v (.int .i64 r) h R := by
  apply betonyref03_in_runs
  unfold betonyref03_in_S
  refine ⟨fun t h' => ∃ k : Nat, k ≤ T.length ∧ t = .int .i64 ((2 * k : Nat) : Int) ∧ (∀ j p, j < k → T[j]? = some p → ¬(p.1 ≤ r ∧ r ≤ p.2)) ∧ h' = h, fun t _ => match t with | .int _ i => (2 * T.length - i).toNat | _ => 0, ⟨0, Nat.zero_le _, rfl, fun _ _ h => by omega, rfl⟩, ?_⟩
  rintro _ _ ⟨k, hk, rfl, hno, rfl⟩
  simp only []
  unfold betonyref03_in_l1
  rw [ev_add, wrap_i64 (by omega) (by omega), q.len, flt_len, ev_lt, ev_if]
  by_cases hlt : k < T.length
  · rw [if_pos (by rw [decide_eq_true_eq]; omega)]
    obtain ⟨p, hp⟩ : ∃ p, T[k]? = some p := ⟨T[k], List.getElem?_eq_getElem hlt⟩
    obtain ⟨g1, g2⟩ := flt_get hp
    have f1 : ∀ {K : Value → Prop}, sIxS v (.int .i64 ((2 * k : Nat) : Int)) 1 (fun a => sLd _ a K) = K (.int .i64 p.1) := q.ld g1 rfl .i64
    have f2 : ∀ {K : Value → Prop}, sIxS v (.int .i64 ((2 * k + 1 : Nat) : Int)) 1 (fun a => sLd _ a K) = K (.int .i64 p.2) := q.ld g2 rfl .i64
    rw [f1, ev_ge]
    have e : ((2 * k : Nat) : Int) + 1 = ((2 * k + 1 : Nat) : Int) := by omega
    simp only [ev_add, e, wrap_i64 (show -9223372036854775808 ≤ ((2 * k + 1 : Nat) : Int) by omega) (by omega), f2, ev_le, ev_and_p, ev_if]
    split
    · rename_i hc
      simp only [Bool.and_eq_true, decide_eq_true_eq] at hc
      rw [inT_iff.2 ⟨k, p, hp, hc.1, hc.2⟩] at H; exact H
    · rename_i hc
      simp only [Bool.and_eq_true, decide_eq_true_eq] at hc
      rw [wrap_i64 (by omega) (by omega)]
      refine ⟨⟨k + 1, hlt, by congr 1, fun j x hj hx => ?_, trivial⟩, by omega⟩
      by_cases hjk : j = k
      · subst hjk; rw [hp] at hx; cases hx; exact hc
      · exact hno j x (by omega) hx
  · rw [if_neg (by rw [decide_eq_true_eq]; omega)]
    have : inT T r = false := by
      rw [← Bool.not_eq_true, inT_iff]
      rintro ⟨j, x, hx, h1, h2⟩
      have h3 := (List.getElem?_eq_some_iff.1 hx).1
      exact hno j x (by omega) hx ⟨h1, h2⟩
    rw [this] at H; exact H
theorem rwidth_spec {r : Int} (H : ∀ h', Ext h h' → R (.int .i64 (wt r)) h') : betonyref03_Width_c (.int .i64 r) h R := by
  apply betonyref03_Width_runs
  unfold betonyref03_Width_S
  simp only [ev_lt, ev_ge, ev_le, ev_gt, ev_and_p, ev_or_p, ev_if]
  unfold wt at H
  rw [show (decide (r < 32) || (decide (r ≥ 127) && decide (r ≤ 159)) || decide (r > 1114111)) = outR r by unfold outR; rw [show decide (r ≤ 159) = decide (r < 160) by rw [decide_eq_decide]; omega]]
  split
  · rename_i h1; rw [if_pos h1] at H; exact H h (Ext.refl h)
  · rename_i h1; rw [if_neg h1] at H
    refine (HW.Sep.start h).slit (enc := encI .i64) (sz := 1) (encI_len _) (flt marks) rfl (fill_k (by kernel_rfl)) (fun v h2 _ s2 => ?_)
    refine rwin_spec (T := marks) (by decide) s2.seq ?_
    rw [ev_if]
    split
    · rename_i h3; rw [if_pos h3] at H; exact H h2 s2.ext
    · rename_i h3; rw [if_neg h3] at H
      refine s2.slit (enc := encI .i64) (sz := 1) (encI_len _) (flt wides) rfl (fill_k (by kernel_rfl)) (fun v h4 _ s4 => ?_)
      refine rwin_spec (T := wides) (by decide) s4.seq ?_
      rw [ev_if]
      split
      · rename_i h5; rw [if_pos h5] at H; exact H h4 s4.ext
      · rename_i h5; rw [if_neg h5] at H; exact H h4 s4.ext
end
end Go.Proofs.YtmhhjpfkipficaaDoor

end

section
/- The shallow reading of one function, and that the function does it. Written by a program. -/
set_option linter.unusedVariables false
namespace Go.Proofs.YtmhhjpfkipficaaDoor
open Go Go.HW

def screen_Screen_cur_S (x0 : Value) (h : Heap) (R : Value → Heap → Prop) : Prop :=
  sNil x0 fun x4 =>
  sOff x4 3 fun x5 =>
  sOff x5 0 fun x6 =>
  R x6 h
set_option maxRecDepth 100000 in
theorem screen_Screen_cur_runs {x0 : Value} {h : Heap} {R : Value → Heap → Prop} (H : screen_Screen_cur_S x0 h R) : screen_Screen_cur_c x0 h R := by
  unfold screen_Screen_cur_S at H
  refine runs_of (b := ⟨#[x0, undef, undef, undef, undef, undef, undef], []⟩) Tryd.call30 Tryd.func30 rfl (by kernel_rfl) (fun w0 HA => ?_)
  refine wp_seq ?_
  refine lwp_list ?_
  refine ls_assign (x := (.pointer none)) (by kernel_rfl) (by kernel_rfl) ?_
  refine ls_nil ?_
  refine then_normal ?_
  refine fr_eq (b := ⟨#[x0, undef, (.pointer none), undef, undef, undef, undef], []⟩) (by kernel_rfl) ?_
  refine wp_seq ?_
  refine lwp_list ?_
  refine ls_move (x := x0) (by kernel_rfl) (by kernel_rfl) ?_
  refine ls_p (d := some 4) (by kernel_rfl) (by kernel_rfl) (p_nil (by kernel_rfl) H) (fun x4 H => ?_)
  refine ls_p (d := some 5) (by kernel_rfl) (by kernel_rfl) (p_off Tryd.underlying64 rfl (fun w => ⟨_, Tryd.sizeOf61 w⟩) rfl (by kernel_rfl) H) (fun x5 H => ?_)
  refine ls_p (d := some 6) (by kernel_rfl) (by kernel_rfl) (p_off Tryd.underlying61 rfl (fun w => ⟨_, Tryd.sizeOf38 w⟩) rfl (by kernel_rfl) H) (fun x6 H => ?_)
  refine ls_assign (x := x6) (by kernel_rfl) (by kernel_rfl) ?_
  refine ls_nil ?_
  refine then_normal ?_
  refine fr_eq (b := ⟨#[x0, undef, x6, x0, x4, x5, x6], []⟩) (by kernel_rfl) ?_
  refine wp_ret ?_
  exact end1 (Tryd.results30) (by kernel_rfl) (by kernel_rfl) HA H _ (.inr rfl)

end Go.Proofs.YtmhhjpfkipficaaDoor

end

section
/- The shallow reading of one function, and that the function does it. Written by a program. -/
set_option linter.unusedVariables false
namespace Go.Proofs.YtmhhjpfkipficaaDoor
open Go Go.HW

def screen_Screen_blank_S (x0 : Value) (h : Heap) (R : Value → Heap → Prop) : Prop :=
  sNew h #[.int .i32 0, .int .i64 0, .int .i64 0, .int .i64 0] 31 fun x2 h => 
  sNil x0 fun x4 =>
  sOff x4 3 fun x5 =>
  sOff x5 3 fun x6 =>
  sOff x6 1 fun x7 =>
  sLd h x7 fun x8 =>
  sBuild #[.int .i64 0, .int .i64 0, .int .i64 0] [(1, 1, x8)] fun x9 =>
  sBuild #[.int .i32 0, .int .i64 0, .int .i64 0, .int .i64 0] [(1, 3, x9)] fun x10 =>
  sStN h x2 x10 4 fun h_1 => 
  sLdN h_1 x2 4 fun r2 =>
  R r2 h_1
set_option maxRecDepth 100000 in
theorem screen_Screen_blank_runs {x0 : Value} {h : Heap} {R : Value → Heap → Prop} (H : screen_Screen_blank_S x0 h R) : screen_Screen_blank_c x0 h R := by
  unfold screen_Screen_blank_S at H
  refine runs_of (b := ⟨#[x0, undef, undef, undef, undef, undef, undef, undef, undef, undef, undef], []⟩) Tryd.call70 Tryd.func70 rfl (by kernel_rfl) (fun w0 HA => ?_)
  refine wp_seq ?_
  refine lwp_list ?_
  refine ls_d (d := some 2) (by kernel_rfl) (by kernel_rfl) HA (d_alloc Tryd.zeroValue31 H) (fun x2 h w H HA => ?_)
  refine ls_nil ?_
  refine then_normal ?_
  refine fr_eq (b := ⟨#[x0, undef, x2, undef, undef, undef, undef, undef, undef, undef, undef], []⟩) (by kernel_rfl) ?_
  refine wp_seq ?_
  refine lwp_list ?_
  refine ls_move (x := x0) (by kernel_rfl) (by kernel_rfl) ?_
  refine ls_p (d := some 4) (by kernel_rfl) (by kernel_rfl) (p_nil (by kernel_rfl) H) (fun x4 H => ?_)
  refine ls_p (d := some 5) (by kernel_rfl) (by kernel_rfl) (p_off Tryd.underlying64 rfl (fun w => ⟨_, Tryd.sizeOf61 w⟩) rfl (by kernel_rfl) H) (fun x5 H => ?_)
  refine ls_p (d := some 6) (by kernel_rfl) (by kernel_rfl) (p_off Tryd.underlying61 rfl (fun w => ⟨_, Tryd.sizeOf29 w⟩) rfl (by kernel_rfl) H) (fun x6 H => ?_)
  refine ls_p (d := some 7) (by kernel_rfl) (by kernel_rfl) (p_off Tryd.underlying29 rfl (fun w => ⟨_, Tryd.sizeOf3 w⟩) rfl (by kernel_rfl) H) (fun x7 H => ?_)
  refine ls_y (d := some 8) (by kernel_rfl) (by kernel_rfl) HA (y_ld Tryd.isAgg3 (by kernel_rfl) H) (fun x8 H => ?_)
  refine ls_p (d := some 9) (by kernel_rfl) (by kernel_rfl) (p_lit (pl := [(0, 1), (1, 1), (2, 1)]) Tryd.zeroValue29 Tryd.underlying29 ⟨(by kernel_rfl), Tryd.sizeOf3, (by kernel_rfl), Tryd.sizeOf3, (by kernel_rfl), Tryd.sizeOf3, trivial⟩ (by kernel_rfl) (by kernel_rfl) H) (fun x9 H => ?_)
  refine ls_p (d := some 10) (by kernel_rfl) (by kernel_rfl) (p_lit (pl := [(0, 1), (1, 3)]) Tryd.zeroValue31 Tryd.underlying31 ⟨(by kernel_rfl), Tryd.sizeOf21, (by kernel_rfl), Tryd.sizeOf29, trivial⟩ (by kernel_rfl) (by kernel_rfl) H) (fun x10 H => ?_)
  refine ls_d (d := none) (by kernel_rfl) (by kernel_rfl) HA (d_stn Tryd.sizeOf31 (by kernel_rfl) (by kernel_rfl) H) (fun _ h_1 w_1 H HA_1 => ?_)
  refine ls_nil ?_
  refine then_normal ?_
  refine fr_eq (b := ⟨#[x0, undef, x2, x0, x4, x5, x6, x7, x8, x9, x10], []⟩) (by kernel_rfl) ?_
  refine wp_ret ?_
  obtain ⟨r2, hr2, H⟩ := ld_n Tryd.isAgg31 Tryd.sizeOf31 H
  exact endR (vs := [r2]) (Tryd.results70) (by kernel_rfl) ⟨⟨_, (by kernel_rfl), hr2⟩, trivial⟩ HA_1 H _ (.inr rfl)

end Go.Proofs.YtmhhjpfkipficaaDoor

end

section
/- The shallow reading of one function, and that the function does it. Written by a program. -/
set_option linter.unusedVariables false
namespace Go.Proofs.YtmhhjpfkipficaaDoor
open Go Go.HW

def screen_Screen_up_S (x0 x1 x2 : Value) (h : Heap) (R : Value → Heap → Prop) : Prop :=
  sNil x0 fun x8 =>
  sOff x8 20 fun x9 =>
  sLd h x9 fun x10 =>
  sSub .i64 x10 x1 fun x12 =>
  sAdd .i64 x12 (.int .i64 1) fun x13 =>
  sMin x2 x13 fun x14 =>
  sLt x14 (.int .i64 1) fun x16 =>
  sIf x16 (R unit h) (sNil x0 fun x18 =>
  sOff x18 0 fun x19 =>
  sLd h x19 fun x20 =>
  sAdd .i64 x1 x14 fun x23 =>
  sNil x0 fun x25 =>
  sOff x25 1 fun x26 =>
  sLd h x26 fun x27 =>
  sNil x0 fun x29 =>
  sOff x29 20 fun x30 =>
  sLd h x30 fun x31 =>
  sSub .i64 x31 x1 fun x33 =>
  sAdd .i64 x33 (.int .i64 1) fun x34 =>
  sSub .i64 x34 x14 fun x36 =>
  sBuild #[.int .i64 0, .int .i64 0, .int .i64 0, .int .i64 0] [(1, 1, x23), (2, 1, x27), (3, 1, x36)] fun x37 =>
  grid_Grid_Copy_c x20 x37 (.int .i64 0) x1 h fun x39 h => 
  ∃ C : Heap → Prop, C h ∧ (sNil x0 fun x41 =>
  sOff x41 0 fun x42 =>
  sLdC C x42 fun x43 =>
  sNil x0 fun x45 =>
  sOff x45 20 fun x46 =>
  sLdC C x46 fun x47 =>
  sAdd .i64 x47 (.int .i64 1) fun x48 =>
  sSub .i64 x48 x14 fun x50 =>
  sNil x0 fun x52 =>
  sOff x52 1 fun x53 =>
  sLdC C x53 fun x54 =>
  sBuild #[.int .i64 0, .int .i64 0, .int .i64 0, .int .i64 0] [(1, 1, x50), (2, 1, x54), (3, 1, x14)] fun x56 =>
  screen_Screen_blank_c x0 h fun x58 h_1 => C h_1 ∧ (
  grid_Grid_Fill_c x43 x56 x58 h_1 fun x59 h_2 => 
  R unit h_2)))
set_option maxRecDepth 100000 in
theorem screen_Screen_up_runs {x0 x1 x2 : Value} {h : Heap} {R : Value → Heap → Prop} (H : screen_Screen_up_S x0 x1 x2 h R) : screen_Screen_up_c x0 x1 x2 h R := by
  unfold screen_Screen_up_S at H
  refine runs_of (b := ⟨#[x0, x1, x2, undef, undef, undef, undef, undef, undef, undef, undef, undef, undef, undef, undef, undef, undef, undef, undef, undef, undef, undef, undef, undef, undef, undef, undef, undef, undef, undef, undef, undef, undef, undef, undef, undef, undef, undef, undef, undef, undef, undef, undef, undef, undef, undef, undef, undef, undef, undef, undef, undef, undef, undef, undef, undef, undef, undef, undef, undef], []⟩) Tryd.call86 Tryd.func86 rfl (by kernel_rfl) (fun w0 HA => ?_)
  refine wp_seq ?_
  refine lwp_list ?_
  refine ls_move (x := x2) (by kernel_rfl) (by kernel_rfl) ?_
  refine ls_move (x := x0) (by kernel_rfl) (by kernel_rfl) ?_
  refine ls_p (d := some 8) (by kernel_rfl) (by kernel_rfl) (p_nil (by kernel_rfl) H) (fun x8 H => ?_)
  refine ls_p (d := some 9) (by kernel_rfl) (by kernel_rfl) (p_off Tryd.underlying64 rfl (fun w => ⟨_, Tryd.sizeOf3 w⟩) rfl (by kernel_rfl) H) (fun x9 H => ?_)
  refine ls_y (d := some 10) (by kernel_rfl) (by kernel_rfl) HA (y_ld Tryd.isAgg3 (by kernel_rfl) H) (fun x10 H => ?_)
  refine ls_move (x := x1) (by kernel_rfl) (by kernel_rfl) ?_
  refine ls_fr (b := ⟨#[x0, x1, x2, undef, undef, undef, x2, x0, x8, x9, x10, x1, undef, undef, undef, undef, undef, undef, undef, undef, undef, undef, undef, undef, undef, undef, undef, undef, undef, undef, undef, undef, undef, undef, undef, undef, undef, undef, undef, undef, undef, undef, undef, undef, undef, undef, undef, undef, undef, undef, undef, undef, undef, undef, undef, undef, undef, undef, undef, undef], []⟩) (by kernel_rfl) ?_
  refine ls_p (d := some 12) (by kernel_rfl) (by kernel_rfl) (p_sub (by kernel_rfl) (by kernel_rfl) H) (fun x12 H => ?_)
  refine ls_p (d := some 13) (by kernel_rfl) (by kernel_rfl) (p_add (by kernel_rfl) (by kernel_rfl) H) (fun x13 H => ?_)
  refine ls_p (d := some 14) (by kernel_rfl) (by kernel_rfl) (p_min (by kernel_rfl) (by kernel_rfl) H) (fun x14 H => ?_)
  refine ls_assign (x := x14) (by kernel_rfl) (by kernel_rfl) ?_
  refine ls_nil ?_
  refine then_normal ?_
  refine fr_eq (b := ⟨#[x0, x1, x14, undef, undef, undef, x2, x0, x8, x9, x10, x1, x12, x13, x14, undef, undef, undef, undef, undef, undef, undef, undef, undef, undef, undef, undef, undef, undef, undef, undef, undef, undef, undef, undef, undef, undef, undef, undef, undef, undef, undef, undef, undef, undef, undef, undef, undef, undef, undef, undef, undef, undef, undef, undef, undef, undef, undef, undef, undef], []⟩) (by kernel_rfl) ?_
  refine wp_seq ?_
  refine wp_seq ?_
  refine lwp_list ?_
  refine ls_move (x := x14) (by kernel_rfl) (by kernel_rfl) ?_
  refine ls_p (d := some 16) (by kernel_rfl) (by kernel_rfl) (p_sLt (by kernel_rfl) (by kernel_rfl) H) (fun x16 H => ?_)
  refine ls_nil ?_
  refine then_normal ?_
  refine fr_eq (b := ⟨#[x0, x1, x14, undef, undef, undef, x2, x0, x8, x9, x10, x1, x12, x13, x14, x14, x16, undef, undef, undef, undef, undef, undef, undef, undef, undef, undef, undef, undef, undef, undef, undef, undef, undef, undef, undef, undef, undef, undef, undef, undef, undef, undef, undef, undef, undef, undef, undef, undef, undef, undef, undef, undef, undef, undef, undef, undef, undef, undef, undef], []⟩) (by kernel_rfl) ?_
  refine wp_if rfl H (fun H => ?_) (fun H => ?_)
  · refine wp_ret ?_
    refine then_ret ?_
    exact end0 (Tryd.results86) (by kernel_rfl) HA H _ (.inr rfl)
  · refine wp_skip ?_
    refine then_normal ?_
    refine fr_eq (b := ⟨#[x0, x1, x14, undef, undef, undef, x2, x0, x8, x9, x10, x1, x12, x13, x14, x14, x16, undef, undef, undef, undef, undef, undef, undef, undef, undef, undef, undef, undef, undef, undef, undef, undef, undef, undef, undef, undef, undef, undef, undef, undef, undef, undef, undef, undef, undef, undef, undef, undef, undef, undef, undef, undef, undef, undef, undef, undef, undef, undef, undef], []⟩) (by kernel_rfl) ?_
    refine wp_seq ?_
    refine lwp_mx (Nat.testBit 4194304) (Nat.testBit 0) (Nat.testBit 4176887) [0, 1, 3, 7, 0, 0, 48, 0, 128, 384, 896, 0, 2048, 6144, 14336, 0, 63488, 129024, 0, 522240, 1048560, 0, 4194303] (Nat.testBit 0) (fun h' => h' = h) [0, 1, 2, 3, 4, 5, 6, 7, 8, 9, 10, 11, 12, 13, 14, 15, 16, 17, 18, 19, 20, 21, 22] (by kernel_rfl) (by kernel_rfl) (by kernel_rfl) (by kernel_rfl) HA rfl ?_
    intro w HA
    refine lm_al (x := x0) (d := some 17) (by kernel_rfl) rfl (by kernel_rfl) (by kernel_rfl) (al_move (by kernel_rfl)) ?_
    refine lm_p (d := some 18) (by kernel_rfl) rfl (by kernel_rfl) (by kernel_rfl) (p_nil (by kernel_rfl) H) (fun x18 H => ?_)
    refine lm_p (d := some 19) (by kernel_rfl) rfl (by kernel_rfl) (by kernel_rfl) (p_off Tryd.underlying64 rfl (fun w => ⟨_, Tryd.sizeOf54 w⟩) rfl (by kernel_rfl) H) (fun x19 H => ?_)
    refine lm_f (d := some 20) (by kernel_rfl) rfl (by kernel_rfl) (by kernel_rfl) (by kernel_rfl) (by kernel_rfl) (of_eq (y_ld Tryd.isAgg54 (by kernel_rfl) H)) (fun x20 H => ?_)
    refine lm_al (x := x1) (d := some 21) (by kernel_rfl) rfl (by kernel_rfl) (by kernel_rfl) (al_move (by kernel_rfl)) ?_
    refine lm_al (x := x14) (d := some 22) (by kernel_rfl) rfl (by kernel_rfl) (by kernel_rfl) (al_move (by kernel_rfl)) ?_
    refine lm_fr (b := ⟨#[x0, x1, x14, undef, undef, undef, x2, x0, x8, x9, x10, x1, x12, x13, x14, x14, x16, x0, x18, x19, x20, x1, x14, undef, undef, undef, undef, undef, undef, undef, undef, undef, undef, undef, undef, undef, undef, undef, undef, undef, undef, undef, undef, undef, undef, undef, undef, undef, undef, undef, undef, undef, undef, undef, undef, undef, undef, undef, undef, undef], []⟩) (by kernel_rfl) ?_
    refine lm_p (d := some 23) (by kernel_rfl) rfl (by kernel_rfl) (by kernel_rfl) (p_add (by kernel_rfl) (by kernel_rfl) H) (fun x23 H => ?_)
    refine lm_al (x := x0) (d := some 24) (by kernel_rfl) rfl (by kernel_rfl) (by kernel_rfl) (al_move (by kernel_rfl)) ?_
    refine lm_p (d := some 25) (by kernel_rfl) rfl (by kernel_rfl) (by kernel_rfl) (p_nil (by kernel_rfl) H) (fun x25 H => ?_)
    refine lm_p (d := some 26) (by kernel_rfl) rfl (by kernel_rfl) (by kernel_rfl) (p_off Tryd.underlying64 rfl (fun w => ⟨_, Tryd.sizeOf3 w⟩) rfl (by kernel_rfl) H) (fun x26 H => ?_)
    refine lm_f (d := some 27) (by kernel_rfl) rfl (by kernel_rfl) (by kernel_rfl) (by kernel_rfl) (by kernel_rfl) (of_eq (y_ld Tryd.isAgg3 (by kernel_rfl) H)) (fun x27 H => ?_)
    refine lm_al (x := x0) (d := some 28) (by kernel_rfl) rfl (by kernel_rfl) (by kernel_rfl) (al_move (by kernel_rfl)) ?_
    refine lm_fr (b := ⟨#[x0, x1, x14, undef, undef, undef, x2, x0, x8, x9, x10, x1, x12, x13, x14, x14, x16, x0, x18, x19, x20, x1, x14, x23, x0, x25, x26, x27, x0, undef, undef, undef, undef, undef, undef, undef, undef, undef, undef, undef, undef, undef, undef, undef, undef, undef, undef, undef, undef, undef, undef, undef, undef, undef, undef, undef, undef, undef, undef, undef], []⟩) (by kernel_rfl) ?_
    refine lm_p (d := some 29) (by kernel_rfl) rfl (by kernel_rfl) (by kernel_rfl) (p_nil (by kernel_rfl) H) (fun x29 H => ?_)
    refine lm_p (d := some 30) (by kernel_rfl) rfl (by kernel_rfl) (by kernel_rfl) (p_off Tryd.underlying64 rfl (fun w => ⟨_, Tryd.sizeOf3 w⟩) rfl (by kernel_rfl) H) (fun x30 H => ?_)
    refine lm_f (d := some 31) (by kernel_rfl) rfl (by kernel_rfl) (by kernel_rfl) (by kernel_rfl) (by kernel_rfl) (of_eq (y_ld Tryd.isAgg3 (by kernel_rfl) H)) (fun x31 H => ?_)
    refine lm_al (x := x1) (d := some 32) (by kernel_rfl) rfl (by kernel_rfl) (by kernel_rfl) (al_move (by kernel_rfl)) ?_
    refine lm_p (d := some 33) (by kernel_rfl) rfl (by kernel_rfl) (by kernel_rfl) (p_sub (by kernel_rfl) (by kernel_rfl) H) (fun x33 H => ?_)
    refine lm_p (d := some 34) (by kernel_rfl) rfl (by kernel_rfl) (by kernel_rfl) (p_add (by kernel_rfl) (by kernel_rfl) H) (fun x34 H => ?_)
    refine lm_fr (b := ⟨#[x0, x1, x14, undef, undef, undef, x2, x0, x8, x9, x10, x1, x12, x13, x14, x14, x16, x0, x18, x19, x20, x1, x14, x23, x0, x25, x26, x27, x0, x29, x30, x31, x1, x33, x34, undef, undef, undef, undef, undef, undef, undef, undef, undef, undef, undef, undef, undef, undef, undef, undef, undef, undef, undef, undef, undef, undef, undef, undef, undef], []⟩) (by kernel_rfl) ?_
    refine lm_al (x := x14) (d := some 35) (by kernel_rfl) rfl (by kernel_rfl) (by kernel_rfl) (al_move (by kernel_rfl)) ?_
    refine lm_p (d := some 36) (by kernel_rfl) rfl (by kernel_rfl) (by kernel_rfl) (p_sub (by kernel_rfl) (by kernel_rfl) H) (fun x36 H => ?_)
    refine lm_p (d := some 37) (by kernel_rfl) rfl (by kernel_rfl) (by kernel_rfl) (p_lit (pl := [(0, 1), (1, 1), (2, 1), (3, 1)]) Tryd.zeroValue83 Tryd.underlying83 ⟨(by kernel_rfl), Tryd.sizeOf3, (by kernel_rfl), Tryd.sizeOf3, (by kernel_rfl), Tryd.sizeOf3, (by kernel_rfl), Tryd.sizeOf3, trivial⟩ (by kernel_rfl) (by kernel_rfl) H) (fun x37 H => ?_)
    refine lm_al (x := x1) (d := some 38) (by kernel_rfl) rfl (by kernel_rfl) (by kernel_rfl) (al_move (by kernel_rfl)) ?_
    refine lm_d (d := some 39) (by kernel_rfl) rfl (by kernel_rfl) (by kernel_rfl) (by kernel_rfl) HA (d_call (by kernel_rfl) (by kernel_rfl) H) (fun x39 h w_1 H HA_1 => ?_)
    refine lm_nil ?_
    refine then_normal ?_
    refine fr_eq (b := ⟨#[x0, x1, x14, undef, undef, undef, x2, x0, x8, x9, x10, x1, x12, x13, x14, x14, x16, x0, x18, x19, x20, x1, x14, x23, x0, x25, x26, x27, x0, x29, x30, x31, x1, x33, x34, x14, x36, x37, x1, x39, undef, undef, undef, undef, undef, undef, undef, undef, undef, undef, undef, undef, undef, undef, undef, undef, undef, undef, undef, undef], []⟩) (by kernel_rfl) ?_
    obtain ⟨C, HC, H⟩ := H
    refine lwp_mx (Nat.testBit 786432) (Nat.testBit 262144) (Nat.testBit 245623) [0, 1, 3, 7, 0, 16, 48, 112, 240, 0, 1008, 0, 2048, 6144, 14336, 0, 65520, 0, 131072, 524287] (Nat.testBit 0) C [0, 1, 2, 3, 4, 5, 6, 7, 8, 9, 10, 11, 12, 13, 14, 15, 16, 17, 18, 19] (by kernel_rfl) (by kernel_rfl) (by kernel_rfl) (by kernel_rfl) HA_1 HC ?_
    intro w_2 HA_2
    refine lm_al (x := x0) (d := some 40) (by kernel_rfl) rfl (by kernel_rfl) (by kernel_rfl) (al_move (by kernel_rfl)) ?_
    refine lm_p (d := some 41) (by kernel_rfl) rfl (by kernel_rfl) (by kernel_rfl) (p_nil (by kernel_rfl) H) (fun x41 H => ?_)
    refine lm_p (d := some 42) (by kernel_rfl) rfl (by kernel_rfl) (by kernel_rfl) (p_off Tryd.underlying64 rfl (fun w => ⟨_, Tryd.sizeOf54 w⟩) rfl (by kernel_rfl) H) (fun x42 H => ?_)
    refine lm_f (d := some 43) (by kernel_rfl) rfl (by kernel_rfl) (by kernel_rfl) (by kernel_rfl) (by kernel_rfl) (c_ld Tryd.isAgg54 (by kernel_rfl) H) (fun x43 H => ?_)
    refine lm_al (x := x0) (d := some 44) (by kernel_rfl) rfl (by kernel_rfl) (by kernel_rfl) (al_move (by kernel_rfl)) ?_
    refine lm_p (d := some 45) (by kernel_rfl) rfl (by kernel_rfl) (by kernel_rfl) (p_nil (by kernel_rfl) H) (fun x45 H => ?_)
    refine lm_fr (b := ⟨#[x0, x1, x14, undef, undef, undef, x2, x0, x8, x9, x10, x1, x12, x13, x14, x14, x16, x0, x18, x19, x20, x1, x14, x23, x0, x25, x26, x27, x0, x29, x30, x31, x1, x33, x34, x14, x36, x37, x1, x39, x0, x41, x42, x43, x0, x45, undef, undef, undef, undef, undef, undef, undef, undef, undef, undef, undef, undef, undef, undef], []⟩) (by kernel_rfl) ?_
    refine lm_p (d := some 46) (by kernel_rfl) rfl (by kernel_rfl) (by kernel_rfl) (p_off Tryd.underlying64 rfl (fun w => ⟨_, Tryd.sizeOf3 w⟩) rfl (by kernel_rfl) H) (fun x46 H => ?_)
    refine lm_f (d := some 47) (by kernel_rfl) rfl (by kernel_rfl) (by kernel_rfl) (by kernel_rfl) (by kernel_rfl) (c_ld Tryd.isAgg3 (by kernel_rfl) H) (fun x47 H => ?_)
    refine lm_p (d := some 48) (by kernel_rfl) rfl (by kernel_rfl) (by kernel_rfl) (p_add (by kernel_rfl) (by kernel_rfl) H) (fun x48 H => ?_)
    refine lm_al (x := x14) (d := some 49) (by kernel_rfl) rfl (by kernel_rfl) (by kernel_rfl) (al_move (by kernel_rfl)) ?_
    refine lm_p (d := some 50) (by kernel_rfl) rfl (by kernel_rfl) (by kernel_rfl) (p_sub (by kernel_rfl) (by kernel_rfl) H) (fun x50 H => ?_)
    refine lm_al (x := x0) (d := some 51) (by kernel_rfl) rfl (by kernel_rfl) (by kernel_rfl) (al_move (by kernel_rfl)) ?_
    refine lm_fr (b := ⟨#[x0, x1, x14, undef, undef, undef, x2, x0, x8, x9, x10, x1, x12, x13, x14, x14, x16, x0, x18, x19, x20, x1, x14, x23, x0, x25, x26, x27, x0, x29, x30, x31, x1, x33, x34, x14, x36, x37, x1, x39, x0, x41, x42, x43, x0, x45, x46, x47, x48, x14, x50, x0, undef, undef, undef, undef, undef, undef, undef, undef], []⟩) (by kernel_rfl) ?_
    refine lm_p (d := some 52) (by kernel_rfl) rfl (by kernel_rfl) (by kernel_rfl) (p_nil (by kernel_rfl) H) (fun x52 H => ?_)
    refine lm_p (d := some 53) (by kernel_rfl) rfl (by kernel_rfl) (by kernel_rfl) (p_off Tryd.underlying64 rfl (fun w => ⟨_, Tryd.sizeOf3 w⟩) rfl (by kernel_rfl) H) (fun x53 H => ?_)
    refine lm_f (d := some 54) (by kernel_rfl) rfl (by kernel_rfl) (by kernel_rfl) (by kernel_rfl) (by kernel_rfl) (c_ld Tryd.isAgg3 (by kernel_rfl) H) (fun x54 H => ?_)
    refine lm_al (x := x14) (d := some 55) (by kernel_rfl) rfl (by kernel_rfl) (by kernel_rfl) (al_move (by kernel_rfl)) ?_
    refine lm_p (d := some 56) (by kernel_rfl) rfl (by kernel_rfl) (by kernel_rfl) (p_lit (pl := [(0, 1), (1, 1), (2, 1), (3, 1)]) Tryd.zeroValue83 Tryd.underlying83 ⟨(by kernel_rfl), Tryd.sizeOf3, (by kernel_rfl), Tryd.sizeOf3, (by kernel_rfl), Tryd.sizeOf3, (by kernel_rfl), Tryd.sizeOf3, trivial⟩ (by kernel_rfl) (by kernel_rfl) H) (fun x56 H => ?_)
    refine lm_al (x := x0) (d := some 57) (by kernel_rfl) rfl (by kernel_rfl) (by kernel_rfl) (al_move (by kernel_rfl)) ?_
    refine lm_fr (b := ⟨#[x0, x1, x14, undef, undef, undef, x2, x0, x8, x9, x10, x1, x12, x13, x14, x14, x16, x0, x18, x19, x20, x1, x14, x23, x0, x25, x26, x27, x0, x29, x30, x31, x1, x33, x34, x14, x36, x37, x1, x39, x0, x41, x42, x43, x0, x45, x46, x47, x48, x14, x50, x0, x52, x53, x54, x14, x56, x0, undef, undef], []⟩) (by kernel_rfl) ?_
    refine lm_dc (d := some 58) (by kernel_rfl) rfl (by kernel_rfl) (by kernel_rfl) (by kernel_rfl) HA_2 (d_call (by kernel_rfl) (by kernel_rfl) H) (fun x58 h_1 w_3 H HA_3 => ?_)
    refine lm_d (d := some 59) (by kernel_rfl) rfl (by kernel_rfl) (by kernel_rfl) (by kernel_rfl) HA_3 (d_call (by kernel_rfl) (by kernel_rfl) H) (fun x59 h_2 w_4 H HA_4 => ?_)
    refine lm_nil ?_
    exact end0 (Tryd.results86) (by kernel_rfl) HA_4 H _ (.inl rfl)

end Go.Proofs.YtmhhjpfkipficaaDoor

end

section
/- The shallow reading of one function, and that the function does it. Written by a program. -/
set_option linter.unusedVariables false
namespace Go.Proofs.YtmhhjpfkipficaaDoor
open Go Go.HW

def screen_Screen_scrollUp_j1 (R : Value → Heap → Prop) (x0 x16 : Value) (h : Heap) : Prop :=
  sNil x0 fun x44 =>
  sOff x44 19 fun x45 =>
  sLd h x45 fun x46 =>
  screen_Screen_up_c x0 x46 x16 h fun x48 h_1 => 
  R unit h_1
def screen_Screen_scrollUp_l2 (R : Value → Heap → Prop) (x0 x16 : Value) (next : Value → Heap → Prop) (x23 : Value) (h_2 : Heap) : Prop :=
  sLt x23 x16 fun x24 =>
  sIf x24 (∃ C : Heap → Prop, C h_2 ∧ (sNil x0 fun x28 =>
  sOff x28 533 fun x29 =>
  sLdC C x29 fun x30 =>
  sNil x0 fun x32 =>
  sOff x32 0 fun x33 =>
  sLd h_2 x33 fun x34 =>
  grid_Grid_Row_c x34 x23 h_2 fun x36 h_3 => C h_3 ∧ (
  sSlit h_3 #[.slice none 0 0] [(0, 1, x36)] 32 1 fun x37 h_4 => C h_4 ∧ (
  sApp h_4 x30 x37 #[.slice none 0 0] 32 24 fun x38 h_5 => 
  sNil x0 fun x39 =>
  sOff x39 533 fun x40 =>
  sSt h_5 x40 x38 fun h_6 => 
  sAdd .i64 x23 (.int .i64 1) fun x41 =>
  next x41 h_6)))) (screen_Screen_scrollUp_j1 R x0 x16 h_2)
def screen_Screen_scrollUp_S (x0 x1 : Value) (h : Heap) (R : Value → Heap → Prop) : Prop :=
  sNil x0 fun x7 =>
  sOff x7 20 fun x8 =>
  sLd h x8 fun x9 =>
  sNil x0 fun x11 =>
  sOff x11 19 fun x12 =>
  sLd h x12 fun x13 =>
  sSub .i64 x9 x13 fun x14 =>
  sAdd .i64 x14 (.int .i64 1) fun x15 =>
  sMin x1 x15 fun x16 =>
  sNil x0 fun x18 =>
  sOff x18 19 fun x19 =>
  sLd h x19 fun x20 =>
  sEq x20 (.int .i64 0) fun x21 =>
  sIf x21 (sLoop (S := Value) (fun nxt s h => screen_Screen_scrollUp_l2 R x0 x16 (fun x23' h => nxt x23' h) s h) (.int .i64 0) h) (screen_Screen_scrollUp_j1 R x0 x16 h)
set_option maxRecDepth 100000 in
theorem screen_Screen_scrollUp_runs {x0 x1 : Value} {h : Heap} {R : Value → Heap → Prop} (H : screen_Screen_scrollUp_S x0 x1 h R) : screen_Screen_scrollUp_c x0 x1 h R := by
  unfold screen_Screen_scrollUp_S at H
  refine runs_of (b := ⟨#[x0, x1, undef, undef, undef, undef, undef, undef, undef, undef, undef, undef, undef, undef, undef, undef, undef, undef, undef, undef, undef, undef, undef, undef, undef, undef, undef, undef, undef, undef, undef, undef, undef, undef, undef, undef, undef, undef, undef, undef, undef, undef, undef, undef, undef, undef, undef, undef, undef], []⟩) Tryd.call74 Tryd.func74 rfl (by kernel_rfl) (fun w0 HA => ?_)
  refine wp_seq ?_
  refine lwp_qt (by kernel_rfl) (by kernel_rfl) HA ?_
  refine lq_move (x := x1) (by kernel_rfl) (by kernel_rfl) ?_
  refine lq_move (x := x0) (by kernel_rfl) (by kernel_rfl) ?_
  refine lq_p (d := some 7) (by kernel_rfl) (by kernel_rfl) (p_nil (by kernel_rfl) H) (fun x7 H => ?_)
  refine lq_p (d := some 8) (by kernel_rfl) (by kernel_rfl) (p_off Tryd.underlying64 rfl (fun w => ⟨_, Tryd.sizeOf3 w⟩) rfl (by kernel_rfl) H) (fun x8 H => ?_)
  refine lq_y (d := some 9) (by kernel_rfl) (by kernel_rfl) HA (y_ld Tryd.isAgg3 (by kernel_rfl) H) (fun x9 H => ?_)
  refine lq_move (x := x0) (by kernel_rfl) (by kernel_rfl) ?_
  refine lq_fr (b := ⟨#[x0, x1, undef, undef, undef, x1, x0, x7, x8, x9, x0, undef, undef, undef, undef, undef, undef, undef, undef, undef, undef, undef, undef, undef, undef, undef, undef, undef, undef, undef, undef, undef, undef, undef, undef, undef, undef, undef, undef, undef, undef, undef, undef, undef, undef, undef, undef, undef, undef], []⟩) (by kernel_rfl) ?_
  refine lq_p (d := some 11) (by kernel_rfl) (by kernel_rfl) (p_nil (by kernel_rfl) H) (fun x11 H => ?_)
  refine lq_p (d := some 12) (by kernel_rfl) (by kernel_rfl) (p_off Tryd.underlying64 rfl (fun w => ⟨_, Tryd.sizeOf3 w⟩) rfl (by kernel_rfl) H) (fun x12 H => ?_)
  refine lq_y (d := some 13) (by kernel_rfl) (by kernel_rfl) HA (y_ld Tryd.isAgg3 (by kernel_rfl) H) (fun x13 H => ?_)
  refine lq_p (d := some 14) (by kernel_rfl) (by kernel_rfl) (p_sub (by kernel_rfl) (by kernel_rfl) H) (fun x14 H => ?_)
  refine lq_p (d := some 15) (by kernel_rfl) (by kernel_rfl) (p_add (by kernel_rfl) (by kernel_rfl) H) (fun x15 H => ?_)
  refine lq_p (d := some 16) (by kernel_rfl) (by kernel_rfl) (p_min (by kernel_rfl) (by kernel_rfl) H) (fun x16 H => ?_)
  refine lq_fr (b := ⟨#[x0, x1, undef, undef, undef, x1, x0, x7, x8, x9, x0, x11, x12, x13, x14, x15, x16, undef, undef, undef, undef, undef, undef, undef, undef, undef, undef, undef, undef, undef, undef, undef, undef, undef, undef, undef, undef, undef, undef, undef, undef, undef, undef, undef, undef, undef, undef, undef, undef], []⟩) (by kernel_rfl) ?_
  refine lq_assign (x := x16) (by kernel_rfl) (by kernel_rfl) ?_
  refine lq_nil ?_
  intro w HA
  refine then_normal ?_
  refine fr_eq (b := ⟨#[x0, x16, undef, undef, undef, x1, x0, x7, x8, x9, x0, x11, x12, x13, x14, x15, x16, undef, undef, undef, undef, undef, undef, undef, undef, undef, undef, undef, undef, undef, undef, undef, undef, undef, undef, undef, undef, undef, undef, undef, undef, undef, undef, undef, undef, undef, undef, undef, undef], []⟩) (by kernel_rfl) ?_
  refine wp_seq ?_
  refine wp_seq ?_
  refine lwp_list ?_
  refine ls_move (x := x0) (by kernel_rfl) (by kernel_rfl) ?_
  refine ls_p (d := some 18) (by kernel_rfl) (by kernel_rfl) (p_nil (by kernel_rfl) H) (fun x18 H => ?_)
  refine ls_p (d := some 19) (by kernel_rfl) (by kernel_rfl) (p_off Tryd.underlying64 rfl (fun w => ⟨_, Tryd.sizeOf3 w⟩) rfl (by kernel_rfl) H) (fun x19 H => ?_)
  refine ls_y (d := some 20) (by kernel_rfl) (by kernel_rfl) HA (y_ld Tryd.isAgg3 (by kernel_rfl) H) (fun x20 H => ?_)
  refine ls_p (d := some 21) (by kernel_rfl) (by kernel_rfl) (p_sEq (by kernel_rfl) (by kernel_rfl) H) (fun x21 H => ?_)
  refine ls_nil ?_
  refine then_normal ?_
  refine fr_eq (b := ⟨#[x0, x16, undef, undef, undef, x1, x0, x7, x8, x9, x0, x11, x12, x13, x14, x15, x16, x0, x18, x19, x20, x21, undef, undef, undef, undef, undef, undef, undef, undef, undef, undef, undef, undef, undef, undef, undef, undef, undef, undef, undef, undef, undef, undef, undef, undef, undef, undef, undef], []⟩) (by kernel_rfl) ?_
  refine wp_join (fun a w => ∃ (D : Nat → Value) (h : Heap), a = ⟨#[x0, x16, undef, undef, (D 0), x1, x0, x7, x8, x9, x0, x11, x12, x13, x14, x15, x16, x0, x18, x19, x20, x21, (D 1), (D 2), (D 3), (D 4), (D 5), (D 6), (D 7), (D 8), (D 9), (D 10), (D 11), (D 12), (D 13), (D 14), (D 15), (D 16), (D 17), (D 18), (D 19), (D 20), undef, undef, undef, undef, undef, undef, undef], []⟩ ∧ At w0 w h ∧ screen_Screen_scrollUp_j1 R x0 x16 h) ?_ ?_
  · refine wp_if rfl H (fun H => ?_) (fun H => ?_)
    · refine wp_seq ?_
      refine lwp_list ?_
      refine ls_move (x := x16) (by kernel_rfl) (by kernel_rfl) ?_
      refine ls_move (x := (.int .i64 0)) (by kernel_rfl) (by kernel_rfl) ?_
      refine ls_nil ?_
      refine then_normal ?_
      refine fr_eq (b := ⟨#[x0, x16, undef, undef, undef, x1, x0, x7, x8, x9, x0, x11, x12, x13, x14, x15, x16, x0, x18, x19, x20, x21, x16, (.int .i64 0), undef, undef, undef, undef, undef, undef, undef, undef, undef, undef, undef, undef, undef, undef, undef, undef, undef, undef, undef, undef, undef, undef, undef, undef, undef], []⟩) (by kernel_rfl) ?_
      refine wp_block ?_
      obtain ⟨I, m, H0, HB⟩ := H
      refine wp_loop (fun a w => ∃ (D_1 : Nat → Value) (x23 : Value) (h_2 : Heap), a = ⟨#[x0, x16, undef, undef, (D_1 0), x1, x0, x7, x8, x9, x0, x11, x12, x13, x14, x15, x16, x0, x18, x19, x20, x21, x16, x23, (D_1 1), (D_1 2), (D_1 3), (D_1 4), (D_1 5), (D_1 6), (D_1 7), (D_1 8), (D_1 9), (D_1 10), (D_1 11), (D_1 12), (D_1 13), (D_1 14), (D_1 15), (D_1 16), (D_1 17), (D_1 18), undef, undef, undef, undef, undef, undef, undef], []⟩ ∧ At w0 w h_2 ∧ I x23 h_2) (fun a w => m (a.tmps.getD 23 undef) w.heap) ?_ ?_
      · exact ⟨(fun i => ([undef, undef, undef, undef, undef, undef, undef, undef, undef, undef, undef, undef, undef, undef, undef, undef, undef, undef, undef]).getD i undef), (.int .i64 0), h, by kernel_rfl, HA, H0⟩
      · rintro _ w_3 ⟨D_1, x23, h_2, rfl, HA_3, HI⟩
        have H : screen_Screen_scrollUp_l2 R x0 x16 (fun x23' h' => I x23' h' ∧ m x23' h' < m x23 h_2) x23 h_2 := HB x23 h_2 HI
        clear HB H0 HI
        unfold screen_Screen_scrollUp_l2 at H
        refine wp_seq ?_
        refine lwp_list ?_
        refine ls_p (d := some 24) (by kernel_rfl) (by kernel_rfl) (p_sLt (by kernel_rfl) (by kernel_rfl) H) (fun x24 H => ?_)
        refine ls_nil ?_
        refine then_normal ?_
        refine fr_eq (b := ⟨#[x0, x16, undef, undef, (D_1 0), x1, x0, x7, x8, x9, x0, x11, x12, x13, x14, x15, x16, x0, x18, x19, x20, x21, x16, x23, x24, (D_1 2), (D_1 3), (D_1 4), (D_1 5), (D_1 6), (D_1 7), (D_1 8), (D_1 9), (D_1 10), (D_1 11), (D_1 12), (D_1 13), (D_1 14), (D_1 15), (D_1 16), (D_1 17), (D_1 18), undef, undef, undef, undef, undef, undef, undef], []⟩) (by kernel_rfl) ?_
        refine wp_seq ?_
        refine wp_if rfl H (fun H => ?_) (fun H => ?_)
        · refine wp_skip ?_
          refine then_normal ?_
          refine fr_eq (b := ⟨#[x0, x16, undef, undef, (D_1 0), x1, x0, x7, x8, x9, x0, x11, x12, x13, x14, x15, x16, x0, x18, x19, x20, x21, x16, x23, x24, (D_1 2), (D_1 3), (D_1 4), (D_1 5), (D_1 6), (D_1 7), (D_1 8), (D_1 9), (D_1 10), (D_1 11), (D_1 12), (D_1 13), (D_1 14), (D_1 15), (D_1 16), (D_1 17), (D_1 18), undef, undef, undef, undef, undef, undef, undef], []⟩) (by kernel_rfl) ?_
          refine wp_seq ?_
          refine wp_block ?_
          refine wp_seq ?_
          refine lwp_list ?_
          refine ls_move (x := x23) (by kernel_rfl) (by kernel_rfl) ?_
          refine ls_assign (x := x23) (by kernel_rfl) (by kernel_rfl) ?_
          refine ls_nil ?_
          refine then_normal ?_
          refine fr_eq (b := ⟨#[x0, x16, undef, undef, x23, x1, x0, x7, x8, x9, x0, x11, x12, x13, x14, x15, x16, x0, x18, x19, x20, x21, x16, x23, x24, x23, (D_1 3), (D_1 4), (D_1 5), (D_1 6), (D_1 7), (D_1 8), (D_1 9), (D_1 10), (D_1 11), (D_1 12), (D_1 13), (D_1 14), (D_1 15), (D_1 16), (D_1 17), (D_1 18), undef, undef, undef, undef, undef, undef, undef], []⟩) (by kernel_rfl) ?_
          obtain ⟨C, HC, H⟩ := H
          refine lwp_mx (Nat.testBit 39936) (Nat.testBit 3072) (Nat.testBit 25327) [0, 0, 2, 6, 14, 0, 32, 96, 224, 0, 992, 2016, 4094, 8191, 16383, 32767] (Nat.testBit 256) C [0, 1, 2, 3, 4, 5, 6, 7, 8, 9, 10, 11, 12, 13, 14, 15] (by kernel_rfl) (by kernel_rfl) (by kernel_rfl) (by kernel_rfl) HA_3 HC ?_
          intro w_4 HA_4
          refine lm_al (x := x0) (d := some 26) (by kernel_rfl) rfl (by kernel_rfl) (by kernel_rfl) (al_move (by kernel_rfl)) ?_
          refine lm_al (x := x0) (d := some 27) (by kernel_rfl) rfl (by kernel_rfl) (by kernel_rfl) (al_move (by kernel_rfl)) ?_
          refine lm_p (d := some 28) (by kernel_rfl) rfl (by kernel_rfl) (by kernel_rfl) (p_nil (by kernel_rfl) H) (fun x28 H => ?_)
          refine lm_p (d := some 29) (by kernel_rfl) rfl (by kernel_rfl) (by kernel_rfl) (p_off Tryd.underlying64 rfl (fun w => ⟨_, Tryd.sizeOf26 w⟩) rfl (by kernel_rfl) H) (fun x29 H => ?_)
          refine lm_f (d := some 30) (by kernel_rfl) rfl (by kernel_rfl) (by kernel_rfl) (by kernel_rfl) (by kernel_rfl) (c_ld Tryd.isAgg26 (by kernel_rfl) H) (fun x30 H => ?_)
          refine lm_al (x := x0) (d := some 31) (by kernel_rfl) rfl (by kernel_rfl) (by kernel_rfl) (al_move (by kernel_rfl)) ?_
          refine lm_fr (b := ⟨#[x0, x16, undef, undef, x23, x1, x0, x7, x8, x9, x0, x11, x12, x13, x14, x15, x16, x0, x18, x19, x20, x21, x16, x23, x24, x23, x0, x0, x28, x29, x30, x0, (D_1 9), (D_1 10), (D_1 11), (D_1 12), (D_1 13), (D_1 14), (D_1 15), (D_1 16), (D_1 17), (D_1 18), undef, undef, undef, undef, undef, undef, undef], []⟩) (by kernel_rfl) ?_
          refine lm_p (d := some 32) (by kernel_rfl) rfl (by kernel_rfl) (by kernel_rfl) (p_nil (by kernel_rfl) H) (fun x32 H => ?_)
          refine lm_p (d := some 33) (by kernel_rfl) rfl (by kernel_rfl) (by kernel_rfl) (p_off Tryd.underlying64 rfl (fun w => ⟨_, Tryd.sizeOf54 w⟩) rfl (by kernel_rfl) H) (fun x33 H => ?_)
          refine lm_b (d := some 34) (by kernel_rfl) rfl (by kernel_rfl) (by kernel_rfl) (by kernel_rfl) (by kernel_rfl) (y_ld Tryd.isAgg54 (by kernel_rfl) H) (fun x34 H => ?_)
          refine lm_al (x := x23) (d := some 35) (by kernel_rfl) rfl (by kernel_rfl) (by kernel_rfl) (al_move (by kernel_rfl)) ?_
          refine lm_dc (d := some 36) (by kernel_rfl) rfl (by kernel_rfl) (by kernel_rfl) (by kernel_rfl) HA_4 (d_call (by kernel_rfl) (by kernel_rfl) H) (fun x36 h_3 w_5 H HA_5 => ?_)
          refine lm_dc (d := some 37) (by kernel_rfl) rfl (by kernel_rfl) (by kernel_rfl) (by kernel_rfl) HA_5 (d_slit (zc := #[.slice none 0 0]) Tryd.underlying26 Tryd.sizeOf32 (by decide) (.inr ⟨by decide, _, Tryd.zeroValue32, (by kernel_rfl)⟩) (by kernel_rfl) (by kernel_rfl) H) (fun x37 h_4 w_6 H HA_6 => ?_)
          refine lm_fr (b := ⟨#[x0, x16, undef, undef, x23, x1, x0, x7, x8, x9, x0, x11, x12, x13, x14, x15, x16, x0, x18, x19, x20, x21, x16, x23, x24, x23, x0, x0, x28, x29, x30, x0, x32, x33, x34, x23, x36, x37, (D_1 15), (D_1 16), (D_1 17), (D_1 18), undef, undef, undef, undef, undef, undef, undef], []⟩) (by kernel_rfl) ?_
          refine lm_d (d := some 38) (by kernel_rfl) rfl (by kernel_rfl) (by kernel_rfl) (by kernel_rfl) HA_6 (d_app (z := #[.slice none 0 0]) Tryd.underlying26 Tryd.underlying26 (.inl ⟨_, rfl⟩) Tryd.typeInfo32 (by kernel_rfl) Tryd.sizeOf32 Tryd.zeroValue32 (by kernel_rfl) (by kernel_rfl) (by kernel_rfl) H) (fun x38 h_5 w_7 H HA_7 => ?_)
          refine lm_p (d := some 39) (by kernel_rfl) rfl (by kernel_rfl) (by kernel_rfl) (p_nil (by kernel_rfl) H) (fun x39 H => ?_)
          refine lm_p (d := some 40) (by kernel_rfl) rfl (by kernel_rfl) (by kernel_rfl) (p_off Tryd.underlying64 rfl (fun w => ⟨_, Tryd.sizeOf26 w⟩) rfl (by kernel_rfl) H) (fun x40 H => ?_)
          refine lm_d (d := none) (by kernel_rfl) rfl (by kernel_rfl) (by kernel_rfl) (by kernel_rfl) HA_7 (d_st Tryd.sizeOf26 (by kernel_rfl) (by kernel_rfl) H) (fun _ h_6 w_8 H HA_8 => ?_)
          refine lm_nil ?_
          refine block_normal ?_
          refine then_normal ?_
          refine fr_eq (b := ⟨#[x0, x16, undef, undef, x23, x1, x0, x7, x8, x9, x0, x11, x12, x13, x14, x15, x16, x0, x18, x19, x20, x21, x16, x23, x24, x23, x0, x0, x28, x29, x30, x0, x32, x33, x34, x23, x36, x37, x38, x39, x40, (D_1 18), undef, undef, undef, undef, undef, undef, undef], []⟩) (by kernel_rfl) ?_
          refine lwp_list ?_
          refine ls_p (d := some 41) (by kernel_rfl) (by kernel_rfl) (p_add (by kernel_rfl) (by kernel_rfl) H) (fun x41 H => ?_)
          refine ls_move (x := x41) (by kernel_rfl) (by kernel_rfl) ?_
          refine ls_nil ?_
          exact ⟨⟨(fun i => ([x23, x24, x23, x0, x0, x28, x29, x30, x0, x32, x33, x34, x23, x36, x37, x38, x39, x40, x41]).getD i undef), x41, h_6, by kernel_rfl, HA_8, H.1⟩, loop_lt HA_8.heap HA_3.heap (by kernel_rfl) (by kernel_rfl) H.2⟩
        · refine wp_exit ?_
          refine then_exit ?_
          refine then_exit ?_
          refine block_exit ?_
          exact ⟨(fun i => ([(D_1 0), x16, x23, x24, (D_1 2), (D_1 3), (D_1 4), (D_1 5), (D_1 6), (D_1 7), (D_1 8), (D_1 9), (D_1 10), (D_1 11), (D_1 12), (D_1 13), (D_1 14), (D_1 15), (D_1 16), (D_1 17), (D_1 18)]).getD i undef), h_2, by kernel_rfl, HA_3, H⟩
    · refine wp_skip ?_
      exact ⟨(fun i => ([undef, undef, undef, undef, undef, undef, undef, undef, undef, undef, undef, undef, undef, undef, undef, undef, undef, undef, undef, undef, undef]).getD i undef), h, by kernel_rfl, HA, H⟩
  · rintro _ w_1 ⟨D, h, rfl, HA_1, H⟩
    unfold screen_Screen_scrollUp_j1 at H
    refine then_normal ?_
    refine fr_eq (b := ⟨#[x0, x16, undef, undef, (D 0), x1, x0, x7, x8, x9, x0, x11, x12, x13, x14, x15, x16, x0, x18, x19, x20, x21, (D 1), (D 2), (D 3), (D 4), (D 5), (D 6), (D 7), (D 8), (D 9), (D 10), (D 11), (D 12), (D 13), (D 14), (D 15), (D 16), (D 17), (D 18), (D 19), (D 20), undef, undef, undef, undef, undef, undef, undef], []⟩) (by kernel_rfl) ?_
    refine lwp_list ?_
    refine ls_move (x := x0) (by kernel_rfl) (by kernel_rfl) ?_
    refine ls_move (x := x0) (by kernel_rfl) (by kernel_rfl) ?_
    refine ls_p (d := some 44) (by kernel_rfl) (by kernel_rfl) (p_nil (by kernel_rfl) H) (fun x44 H => ?_)
    refine ls_p (d := some 45) (by kernel_rfl) (by kernel_rfl) (p_off Tryd.underlying64 rfl (fun w => ⟨_, Tryd.sizeOf3 w⟩) rfl (by kernel_rfl) H) (fun x45 H => ?_)
    refine ls_y (d := some 46) (by kernel_rfl) (by kernel_rfl) HA_1 (y_ld Tryd.isAgg3 (by kernel_rfl) H) (fun x46 H => ?_)
    refine ls_move (x := x16) (by kernel_rfl) (by kernel_rfl) ?_
    refine ls_fr (b := ⟨#[x0, x16, undef, undef, (D 0), x1, x0, x7, x8, x9, x0, x11, x12, x13, x14, x15, x16, x0, x18, x19, x20, x21, (D 1), (D 2), (D 3), (D 4), (D 5), (D 6), (D 7), (D 8), (D 9), (D 10), (D 11), (D 12), (D 13), (D 14), (D 15), (D 16), (D 17), (D 18), (D 19), (D 20), x0, x0, x44, x45, x46, x16, undef], []⟩) (by kernel_rfl) ?_
    refine ls_d (d := some 48) (by kernel_rfl) (by kernel_rfl) HA_1 (d_call (by kernel_rfl) (by kernel_rfl) H) (fun x48 h_1 w_2 H HA_2 => ?_)
    refine ls_nil ?_
    exact end0 (Tryd.results74) (by kernel_rfl) HA_2 H _ (.inl rfl)

end Go.Proofs.YtmhhjpfkipficaaDoor

end

section
/- The shallow reading of one function, and that the function does it. Written by a program. -/
set_option linter.unusedVariables false
namespace Go.Proofs.YtmhhjpfkipficaaDoor
open Go Go.HW

def screen_Screen_Line_S (x0 : Value) (h : Heap) (R : Value → Heap → Prop) : Prop :=
  screen_Screen_cur_c x0 h fun x4 h => 
  sNil x4 fun x6 =>
  sOff x6 2 fun x7 =>
  sSt h x7 (.bool false) fun h_1 => 
  sNil x4 fun x9 =>
  sOff x9 1 fun x10 =>
  sLd h_1 x10 fun x11 =>
  sNil x0 fun x13 =>
  sOff x13 20 fun x14 =>
  sLd h_1 x14 fun x15 =>
  sEq x11 x15 fun x16 =>
  sIf x16 (screen_Screen_scrollUp_c x0 (.int .i64 1) h_1 fun x18 h_2 => 
  R unit h_2) (sNil x4 fun x20 =>
  sOff x20 1 fun x21 =>
  sLd h_1 x21 fun x22 =>
  sNil x0 fun x24 =>
  sOff x24 2 fun x25 =>
  sLd h_1 x25 fun x26 =>
  sSub .i64 x26 (.int .i64 1) fun x27 =>
  sLt x22 x27 fun x28 =>
  sIf x28 (sNil x4 fun x30 =>
  sOff x30 1 fun x31 =>
  sLd h_1 x31 fun x32 =>
  sAdd .i64 x32 (.int .i64 1) fun x33 =>
  sNil x4 fun x34 =>
  sOff x34 1 fun x35 =>
  sSt h_1 x35 x33 fun h_3 => 
  R unit h_3) (R unit h_1))
set_option maxRecDepth 100000 in
theorem screen_Screen_Line_runs {x0 : Value} {h : Heap} {R : Value → Heap → Prop} (H : screen_Screen_Line_S x0 h R) : screen_Screen_Line_c x0 h R := by
  unfold screen_Screen_Line_S at H
  refine runs_of (b := ⟨#[x0, undef, undef, undef, undef, undef, undef, undef, undef, undef, undef, undef, undef, undef, undef, undef, undef, undef, undef, undef, undef, undef, undef, undef, undef, undef, undef, undef, undef, undef, undef, undef, undef, undef, undef, undef], []⟩) Tryd.call38 Tryd.func38 rfl (by kernel_rfl) (fun w0 HA => ?_)
  refine wp_seq ?_
  refine lwp_list ?_
  refine ls_move (x := x0) (by kernel_rfl) (by kernel_rfl) ?_
  refine ls_d (d := some 4) (by kernel_rfl) (by kernel_rfl) HA (d_call (by kernel_rfl) (by kernel_rfl) H) (fun x4 h w H HA => ?_)
  refine ls_assign (x := x4) (by kernel_rfl) (by kernel_rfl) ?_
  refine ls_nil ?_
  refine then_normal ?_
  refine fr_eq (b := ⟨#[x0, undef, x4, x0, x4, undef, undef, undef, undef, undef, undef, undef, undef, undef, undef, undef, undef, undef, undef, undef, undef, undef, undef, undef, undef, undef, undef, undef, undef, undef, undef, undef, undef, undef, undef, undef], []⟩) (by kernel_rfl) ?_
  refine wp_seq ?_
  refine lwp_list ?_
  refine ls_move (x := x4) (by kernel_rfl) (by kernel_rfl) ?_
  refine ls_p (d := some 6) (by kernel_rfl) (by kernel_rfl) (p_nil (by kernel_rfl) H) (fun x6 H => ?_)
  refine ls_p (d := some 7) (by kernel_rfl) (by kernel_rfl) (p_off Tryd.underlying38 rfl (fun w => ⟨_, Tryd.sizeOf4 w⟩) rfl (by kernel_rfl) H) (fun x7 H => ?_)
  refine ls_d (d := none) (by kernel_rfl) (by kernel_rfl) HA (d_st Tryd.sizeOf4 (by kernel_rfl) (by kernel_rfl) H) (fun _ h_1 w_1 H HA_1 => ?_)
  refine ls_nil ?_
  refine then_normal ?_
  refine fr_eq (b := ⟨#[x0, undef, x4, x0, x4, x4, x6, x7, undef, undef, undef, undef, undef, undef, undef, undef, undef, undef, undef, undef, undef, undef, undef, undef, undef, undef, undef, undef, undef, undef, undef, undef, undef, undef, undef, undef], []⟩) (by kernel_rfl) ?_
  refine wp_seq ?_
  refine lwp_qt (by kernel_rfl) (by kernel_rfl) HA_1 ?_
  refine lq_move (x := x4) (by kernel_rfl) (by kernel_rfl) ?_
  refine lq_p (d := some 9) (by kernel_rfl) (by kernel_rfl) (p_nil (by kernel_rfl) H) (fun x9 H => ?_)
  refine lq_p (d := some 10) (by kernel_rfl) (by kernel_rfl) (p_off Tryd.underlying38 rfl (fun w => ⟨_, Tryd.sizeOf3 w⟩) rfl (by kernel_rfl) H) (fun x10 H => ?_)
  refine lq_y (d := some 11) (by kernel_rfl) (by kernel_rfl) HA_1 (y_ld Tryd.isAgg3 (by kernel_rfl) H) (fun x11 H => ?_)
  refine lq_move (x := x0) (by kernel_rfl) (by kernel_rfl) ?_
  refine lq_p (d := some 13) (by kernel_rfl) (by kernel_rfl) (p_nil (by kernel_rfl) H) (fun x13 H => ?_)
  refine lq_fr (b := ⟨#[x0, undef, x4, x0, x4, x4, x6, x7, x4, x9, x10, x11, x0, x13, undef, undef, undef, undef, undef, undef, undef, undef, undef, undef, undef, undef, undef, undef, undef, undef, undef, undef, undef, undef, undef, undef], []⟩) (by kernel_rfl) ?_
  refine lq_p (d := some 14) (by kernel_rfl) (by kernel_rfl) (p_off Tryd.underlying64 rfl (fun w => ⟨_, Tryd.sizeOf3 w⟩) rfl (by kernel_rfl) H) (fun x14 H => ?_)
  refine lq_y (d := some 15) (by kernel_rfl) (by kernel_rfl) HA_1 (y_ld Tryd.isAgg3 (by kernel_rfl) H) (fun x15 H => ?_)
  refine lq_p (d := some 16) (by kernel_rfl) (by kernel_rfl) (p_sEq (by kernel_rfl) (by kernel_rfl) H) (fun x16 H => ?_)
  refine lq_nil ?_
  intro w_2 HA_2
  refine then_normal ?_
  refine fr_eq (b := ⟨#[x0, undef, x4, x0, x4, x4, x6, x7, x4, x9, x10, x11, x0, x13, x14, x15, x16, undef, undef, undef, undef, undef, undef, undef, undef, undef, undef, undef, undef, undef, undef, undef, undef, undef, undef, undef], []⟩) (by kernel_rfl) ?_
  refine wp_if rfl H (fun H => ?_) (fun H => ?_)
  · refine lwp_list ?_
    refine ls_move (x := x0) (by kernel_rfl) (by kernel_rfl) ?_
    refine ls_d (d := some 18) (by kernel_rfl) (by kernel_rfl) HA_2 (d_call (by kernel_rfl) (by kernel_rfl) H) (fun x18 h_2 w_3 H HA_3 => ?_)
    refine ls_nil ?_
    exact end0 (Tryd.results38) (by kernel_rfl) HA_3 H _ (.inl rfl)
  · refine wp_seq ?_
    refine lwp_qt (by kernel_rfl) (by kernel_rfl) HA_2 ?_
    refine lq_move (x := x4) (by kernel_rfl) (by kernel_rfl) ?_
    refine lq_p (d := some 20) (by kernel_rfl) (by kernel_rfl) (p_nil (by kernel_rfl) H) (fun x20 H => ?_)
    refine lq_p (d := some 21) (by kernel_rfl) (by kernel_rfl) (p_off Tryd.underlying38 rfl (fun w => ⟨_, Tryd.sizeOf3 w⟩) rfl (by kernel_rfl) H) (fun x21 H => ?_)
    refine lq_y (d := some 22) (by kernel_rfl) (by kernel_rfl) HA_2 (y_ld Tryd.isAgg3 (by kernel_rfl) H) (fun x22 H => ?_)
    refine lq_move (x := x0) (by kernel_rfl) (by kernel_rfl) ?_
    refine lq_p (d := some 24) (by kernel_rfl) (by kernel_rfl) (p_nil (by kernel_rfl) H) (fun x24 H => ?_)
    refine lq_fr (b := ⟨#[x0, undef, x4, x0, x4, x4, x6, x7, x4, x9, x10, x11, x0, x13, x14, x15, x16, undef, undef, x4, x20, x21, x22, x0, x24, undef, undef, undef, undef, undef, undef, undef, undef, undef, undef, undef], []⟩) (by kernel_rfl) ?_
    refine lq_p (d := some 25) (by kernel_rfl) (by kernel_rfl) (p_off Tryd.underlying64 rfl (fun w => ⟨_, Tryd.sizeOf3 w⟩) rfl (by kernel_rfl) H) (fun x25 H => ?_)
    refine lq_y (d := some 26) (by kernel_rfl) (by kernel_rfl) HA_2 (y_ld Tryd.isAgg3 (by kernel_rfl) H) (fun x26 H => ?_)
    refine lq_p (d := some 27) (by kernel_rfl) (by kernel_rfl) (p_sub (by kernel_rfl) (by kernel_rfl) H) (fun x27 H => ?_)
    refine lq_p (d := some 28) (by kernel_rfl) (by kernel_rfl) (p_sLt (by kernel_rfl) (by kernel_rfl) H) (fun x28 H => ?_)
    refine lq_nil ?_
    intro w_4 HA_4
    refine then_normal ?_
    refine fr_eq (b := ⟨#[x0, undef, x4, x0, x4, x4, x6, x7, x4, x9, x10, x11, x0, x13, x14, x15, x16, undef, undef, x4, x20, x21, x22, x0, x24, x25, x26, x27, x28, undef, undef, undef, undef, undef, undef, undef], []⟩) (by kernel_rfl) ?_
    refine wp_if rfl H (fun H => ?_) (fun H => ?_)
    · refine lwp_list ?_
      refine ls_move (x := x4) (by kernel_rfl) (by kernel_rfl) ?_
      refine ls_p (d := some 30) (by kernel_rfl) (by kernel_rfl) (p_nil (by kernel_rfl) H) (fun x30 H => ?_)
      refine ls_p (d := some 31) (by kernel_rfl) (by kernel_rfl) (p_off Tryd.underlying38 rfl (fun w => ⟨_, Tryd.sizeOf3 w⟩) rfl (by kernel_rfl) H) (fun x31 H => ?_)
      refine ls_y (d := some 32) (by kernel_rfl) (by kernel_rfl) HA_4 (y_ld Tryd.isAgg3 (by kernel_rfl) H) (fun x32 H => ?_)
      refine ls_p (d := some 33) (by kernel_rfl) (by kernel_rfl) (p_add (by kernel_rfl) (by kernel_rfl) H) (fun x33 H => ?_)
      refine ls_p (d := some 34) (by kernel_rfl) (by kernel_rfl) (p_nil (by kernel_rfl) H) (fun x34 H => ?_)
      refine ls_fr (b := ⟨#[x0, undef, x4, x0, x4, x4, x6, x7, x4, x9, x10, x11, x0, x13, x14, x15, x16, undef, undef, x4, x20, x21, x22, x0, x24, x25, x26, x27, x28, x4, x30, x31, x32, x33, x34, undef], []⟩) (by kernel_rfl) ?_
      refine ls_p (d := some 35) (by kernel_rfl) (by kernel_rfl) (p_off Tryd.underlying38 rfl (fun w => ⟨_, Tryd.sizeOf3 w⟩) rfl (by kernel_rfl) H) (fun x35 H => ?_)
      refine ls_d (d := none) (by kernel_rfl) (by kernel_rfl) HA_4 (d_st Tryd.sizeOf3 (by kernel_rfl) (by kernel_rfl) H) (fun _ h_3 w_5 H HA_5 => ?_)
      refine ls_nil ?_
      exact end0 (Tryd.results38) (by kernel_rfl) HA_5 H _ (.inl rfl)
    · refine wp_skip ?_
      exact end0 (Tryd.results38) (by kernel_rfl) HA_4 H _ (.inl rfl)

end Go.Proofs.YtmhhjpfkipficaaDoor

end

section
/- The shallow reading of one function, and that the function does it. Written by a program. -/
set_option linter.unusedVariables false
namespace Go.Proofs.YtmhhjpfkipficaaDoor
open Go Go.HW

def screen_Screen_wrapped_S (x0 : Value) (h : Heap) (R : Value → Heap → Prop) : Prop :=
  screen_Screen_cur_c x0 h fun x3 h => 
  sNil x3 fun x4 =>
  sOff x4 0 fun x5 =>
  sSt h x5 (.int .i64 0) fun h_1 => 
  screen_Screen_Line_c x0 h_1 fun x7 h_2 => 
  R unit h_2
set_option maxRecDepth 100000 in
theorem screen_Screen_wrapped_runs {x0 : Value} {h : Heap} {R : Value → Heap → Prop} (H : screen_Screen_wrapped_S x0 h R) : screen_Screen_wrapped_c x0 h R := by
  unfold screen_Screen_wrapped_S at H
  refine runs_of (b := ⟨#[x0, undef, undef, undef, undef, undef, undef, undef], []⟩) Tryd.call31 Tryd.func31 rfl (by kernel_rfl) (fun w0 HA => ?_)
  refine wp_seq ?_
  refine lwp_list ?_
  refine ls_move (x := x0) (by kernel_rfl) (by kernel_rfl) ?_
  refine ls_d (d := some 3) (by kernel_rfl) (by kernel_rfl) HA (d_call (by kernel_rfl) (by kernel_rfl) H) (fun x3 h w H HA => ?_)
  refine ls_p (d := some 4) (by kernel_rfl) (by kernel_rfl) (p_nil (by kernel_rfl) H) (fun x4 H => ?_)
  refine ls_p (d := some 5) (by kernel_rfl) (by kernel_rfl) (p_off Tryd.underlying38 rfl (fun w => ⟨_, Tryd.sizeOf3 w⟩) rfl (by kernel_rfl) H) (fun x5 H => ?_)
  refine ls_d (d := none) (by kernel_rfl) (by kernel_rfl) HA (d_st Tryd.sizeOf3 (by kernel_rfl) (by kernel_rfl) H) (fun _ h_1 w_1 H HA_1 => ?_)
  refine ls_nil ?_
  refine then_normal ?_
  refine fr_eq (b := ⟨#[x0, undef, x0, x3, x4, x5, undef, undef], []⟩) (by kernel_rfl) ?_
  refine lwp_list ?_
  refine ls_move (x := x0) (by kernel_rfl) (by kernel_rfl) ?_
  refine ls_d (d := some 7) (by kernel_rfl) (by kernel_rfl) HA_1 (d_call (by kernel_rfl) (by kernel_rfl) H) (fun x7 h_2 w_2 H HA_2 => ?_)
  refine ls_nil ?_
  exact end0 (Tryd.results31) (by kernel_rfl) HA_2 H _ (.inl rfl)

end Go.Proofs.YtmhhjpfkipficaaDoor

end

section
/- The shallow reading of one function, and that the function does it. Written by a program. -/
set_option linter.unusedVariables false
namespace Go.Proofs.YtmhhjpfkipficaaDoor
open Go Go.HW

def screen_within_S (x0 x1 x2 : Value) (h : Heap) (R : Value → Heap → Prop) : Prop :=
  sMax x0 x1 fun x9 =>
  sMin x9 x2 fun x11 =>
  R x11 h
set_option maxRecDepth 100000 in
theorem screen_within_runs {x0 x1 x2 : Value} {h : Heap} {R : Value → Heap → Prop} (H : screen_within_S x0 x1 x2 h R) : screen_within_c x0 x1 x2 h R := by
  unfold screen_within_S at H
  refine runs_of (b := ⟨#[x0, x1, x2, undef, undef, undef, undef, undef, undef, undef, undef, undef], []⟩) Tryd.call35 Tryd.func35 rfl (by kernel_rfl) (fun w0 HA => ?_)
  refine wp_seq ?_
  refine lwp_list ?_
  refine ls_assign (x := (.int .i64 0)) (by kernel_rfl) (by kernel_rfl) ?_
  refine ls_nil ?_
  refine then_normal ?_
  refine fr_eq (b := ⟨#[x0, x1, x2, undef, undef, undef, (.int .i64 0), undef, undef, undef, undef, undef], []⟩) (by kernel_rfl) ?_
  refine wp_seq ?_
  refine lwp_list ?_
  refine ls_move (x := x0) (by kernel_rfl) (by kernel_rfl) ?_
  refine ls_move (x := x1) (by kernel_rfl) (by kernel_rfl) ?_
  refine ls_p (d := some 9) (by kernel_rfl) (by kernel_rfl) (p_max (by kernel_rfl) (by kernel_rfl) H) (fun x9 H => ?_)
  refine ls_move (x := x2) (by kernel_rfl) (by kernel_rfl) ?_
  refine ls_p (d := some 11) (by kernel_rfl) (by kernel_rfl) (p_min (by kernel_rfl) (by kernel_rfl) H) (fun x11 H => ?_)
  refine ls_assign (x := x11) (by kernel_rfl) (by kernel_rfl) ?_
  refine ls_nil ?_
  refine then_normal ?_
  refine fr_eq (b := ⟨#[x0, x1, x2, undef, undef, undef, x11, x0, x1, x9, x2, x11], []⟩) (by kernel_rfl) ?_
  refine wp_ret ?_
  exact end1 (Tryd.results35) (by kernel_rfl) (by kernel_rfl) HA H _ (.inr rfl)

end Go.Proofs.YtmhhjpfkipficaaDoor

end

section
/- The shallow reading of one function, and that the function does it. Written by a program. -/
set_option linter.unusedVariables false
namespace Go.Proofs.YtmhhjpfkipficaaDoor
open Go Go.HW

def screen_add_S (x0 x1 x2 : Value) (h : Heap) (R : Value → Heap → Prop) : Prop :=
  sNeg .i64 x2 fun x10 =>
  screen_within_c x1 x10 x2 h fun x12 h => 
  sAdd .i64 x0 x12 fun x13 =>
  R x13 h
set_option maxRecDepth 100000 in
theorem screen_add_runs {x0 x1 x2 : Value} {h : Heap} {R : Value → Heap → Prop} (H : screen_add_S x0 x1 x2 h R) : screen_add_c x0 x1 x2 h R := by
  unfold screen_add_S at H
  refine runs_of (b := ⟨#[x0, x1, x2, undef, undef, undef, undef, undef, undef, undef, undef, undef, undef, undef], []⟩) Tryd.call36 Tryd.func36 rfl (by kernel_rfl) (fun w0 HA => ?_)
  refine wp_seq ?_
  refine lwp_list ?_
  refine ls_assign (x := (.int .i64 0)) (by kernel_rfl) (by kernel_rfl) ?_
  refine ls_nil ?_
  refine then_normal ?_
  refine fr_eq (b := ⟨#[x0, x1, x2, undef, undef, undef, (.int .i64 0), undef, undef, undef, undef, undef, undef, undef], []⟩) (by kernel_rfl) ?_
  refine wp_seq ?_
  refine lwp_list ?_
  refine ls_move (x := x0) (by kernel_rfl) (by kernel_rfl) ?_
  refine ls_move (x := x1) (by kernel_rfl) (by kernel_rfl) ?_
  refine ls_move (x := x2) (by kernel_rfl) (by kernel_rfl) ?_
  refine ls_p (d := some 10) (by kernel_rfl) (by kernel_rfl) (p_neg (by kernel_rfl) H) (fun x10 H => ?_)
  refine ls_move (x := x2) (by kernel_rfl) (by kernel_rfl) ?_
  refine ls_d (d := some 12) (by kernel_rfl) (by kernel_rfl) HA (d_call (by kernel_rfl) (by kernel_rfl) H) (fun x12 h w H HA => ?_)
  refine ls_fr (b := ⟨#[x0, x1, x2, undef, undef, undef, (.int .i64 0), x0, x1, x2, x10, x2, x12, undef], []⟩) (by kernel_rfl) ?_
  refine ls_p (d := some 13) (by kernel_rfl) (by kernel_rfl) (p_add (by kernel_rfl) (by kernel_rfl) H) (fun x13 H => ?_)
  refine ls_assign (x := x13) (by kernel_rfl) (by kernel_rfl) ?_
  refine ls_nil ?_
  refine then_normal ?_
  refine fr_eq (b := ⟨#[x0, x1, x2, undef, undef, undef, x13, x0, x1, x2, x10, x2, x12, x13], []⟩) (by kernel_rfl) ?_
  refine wp_ret ?_
  exact end1 (Tryd.results36) (by kernel_rfl) (by kernel_rfl) HA H _ (.inr rfl)

end Go.Proofs.YtmhhjpfkipficaaDoor

end

section
/- The shallow reading of one function, and that the function does it. Written by a program. -/
set_option linter.unusedVariables false
namespace Go.Proofs.YtmhhjpfkipficaaDoor
open Go Go.HW

def screen_Screen_Move_j1 (R : Value → Heap → Prop) (x0 x1 x2 x10 x7 x8 : Value) (h_1 : Heap) : Prop :=
  ∃ C : Heap → Prop, C h_1 ∧ (sNil x0 fun x34 =>
  sOff x34 1 fun x35 =>
  sLd h_1 x35 fun x36 =>
  sSub .i64 x36 (.int .i64 1) fun x37 =>
  screen_within_c x1 (.int .i64 0) x37 h_1 fun x38 h_2 => C h_2 ∧ (
  sNil x0 fun x42 =>
  sOff x42 2 fun x43 =>
  sLdC C x43 fun x44 =>
  screen_add_c x7 x2 x44 h_2 fun x45 h_3 => 
  screen_within_c x45 x7 x8 h_3 fun x48 h_4 => 
  sNil x10 fun x49 =>
  sOff x49 0 fun x50 =>
  sSt h_4 x50 x38 fun h_5 => 
  sNil x10 fun x51 =>
  sOff x51 1 fun x52 =>
  sSt h_5 x52 x48 fun h_6 => 
  sNil x10 fun x53 =>
  sOff x53 2 fun x54 =>
  sSt h_6 x54 (.bool false) fun h_7 => 
  R unit h_7))
def screen_Screen_Move_S (x0 x1 x2 : Value) (h : Heap) (R : Value → Heap → Prop) : Prop :=
  screen_Screen_cur_c x0 h fun x10 h => 
  sNil x0 fun x12 =>
  sOff x12 2 fun x13 =>
  sLd h x13 fun x14 =>
  sSub .i64 x14 (.int .i64 1) fun x15 =>
  sNil x0 fun x17 =>
  sOff x17 3 fun x18 =>
  sOff x18 6 fun x19 =>
  sLd h x19 fun x20 =>
  sIf x20 (sNil x0 fun x22 =>
  sOff x22 19 fun x23 =>
  sLd h x23 fun x24 =>
  sNil x0 fun x26 =>
  sOff x26 20 fun x27 =>
  sLd h x27 fun x28 =>
  screen_Screen_Move_j1 R x0 x1 x2 x10 x24 x28 h) (screen_Screen_Move_j1 R x0 x1 x2 x10 (.int .i64 0) x15 h)
set_option maxRecDepth 100000 in
theorem screen_Screen_Move_runs {x0 x1 x2 : Value} {h : Heap} {R : Value → Heap → Prop} (H : screen_Screen_Move_S x0 x1 x2 h R) : screen_Screen_Move_c x0 x1 x2 h R := by
  unfold screen_Screen_Move_S at H
  refine runs_of (b := ⟨#[x0, x1, x2, undef, undef, undef, undef, undef, undef, undef, undef, undef, undef, undef, undef, undef, undef, undef, undef, undef, undef, undef, undef, undef, undef, undef, undef, undef, undef, undef, undef, undef, undef, undef, undef, undef, undef, undef, undef, undef, undef, undef, undef, undef, undef, undef, undef, undef, undef, undef, undef, undef, undef, undef, undef], []⟩) Tryd.call13 Tryd.func13 rfl (by kernel_rfl) (fun w0 HA => ?_)
  refine wp_seq ?_
  refine lwp_list ?_
  refine ls_move (x := x0) (by kernel_rfl) (by kernel_rfl) ?_
  refine ls_d (d := some 10) (by kernel_rfl) (by kernel_rfl) HA (d_call (by kernel_rfl) (by kernel_rfl) H) (fun x10 h w H HA => ?_)
  refine ls_assign (x := x10) (by kernel_rfl) (by kernel_rfl) ?_
  refine ls_nil ?_
  refine then_normal ?_
  refine fr_eq (b := ⟨#[x0, x1, x2, undef, undef, undef, x10, undef, undef, x0, x10, undef, undef, undef, undef, undef, undef, undef, undef, undef, undef, undef, undef, undef, undef, undef, undef, undef, undef, undef, undef, undef, undef, undef, undef, undef, undef, undef, undef, undef, undef, undef, undef, undef, undef, undef, undef, undef, undef, undef, undef, undef, undef, undef, undef], []⟩) (by kernel_rfl) ?_
  refine wp_seq ?_
  refine lwp_qt (by kernel_rfl) (by kernel_rfl) HA ?_
  refine lq_move (x := x0) (by kernel_rfl) (by kernel_rfl) ?_
  refine lq_p (d := some 12) (by kernel_rfl) (by kernel_rfl) (p_nil (by kernel_rfl) H) (fun x12 H => ?_)
  refine lq_p (d := some 13) (by kernel_rfl) (by kernel_rfl) (p_off Tryd.underlying64 rfl (fun w => ⟨_, Tryd.sizeOf3 w⟩) rfl (by kernel_rfl) H) (fun x13 H => ?_)
  refine lq_y (d := some 14) (by kernel_rfl) (by kernel_rfl) HA (y_ld Tryd.isAgg3 (by kernel_rfl) H) (fun x14 H => ?_)
  refine lq_p (d := some 15) (by kernel_rfl) (by kernel_rfl) (p_sub (by kernel_rfl) (by kernel_rfl) H) (fun x15 H => ?_)
  refine lq_assign (x := (.int .i64 0)) (by kernel_rfl) (by kernel_rfl) ?_
  refine lq_fr (b := ⟨#[x0, x1, x2, undef, undef, undef, x10, (.int .i64 0), undef, x0, x10, x0, x12, x13, x14, x15, undef, undef, undef, undef, undef, undef, undef, undef, undef, undef, undef, undef, undef, undef, undef, undef, undef, undef, undef, undef, undef, undef, undef, undef, undef, undef, undef, undef, undef, undef, undef, undef, undef, undef, undef, undef, undef, undef, undef], []⟩) (by kernel_rfl) ?_
  refine lq_assign (x := x15) (by kernel_rfl) (by kernel_rfl) ?_
  refine lq_nil ?_
  intro w_1 HA_1
  refine then_normal ?_
  refine fr_eq (b := ⟨#[x0, x1, x2, undef, undef, undef, x10, (.int .i64 0), x15, x0, x10, x0, x12, x13, x14, x15, undef, undef, undef, undef, undef, undef, undef, undef, undef, undef, undef, undef, undef, undef, undef, undef, undef, undef, undef, undef, undef, undef, undef, undef, undef, undef, undef, undef, undef, undef, undef, undef, undef, undef, undef, undef, undef, undef, undef], []⟩) (by kernel_rfl) ?_
  refine wp_seq ?_
  refine wp_seq ?_
  refine lwp_list ?_
  refine ls_move (x := x0) (by kernel_rfl) (by kernel_rfl) ?_
  refine ls_p (d := some 17) (by kernel_rfl) (by kernel_rfl) (p_nil (by kernel_rfl) H) (fun x17 H => ?_)
  refine ls_p (d := some 18) (by kernel_rfl) (by kernel_rfl) (p_off Tryd.underlying64 rfl (fun w => ⟨_, Tryd.sizeOf61 w⟩) rfl (by kernel_rfl) H) (fun x18 H => ?_)
  refine ls_p (d := some 19) (by kernel_rfl) (by kernel_rfl) (p_off Tryd.underlying61 rfl (fun w => ⟨_, Tryd.sizeOf4 w⟩) rfl (by kernel_rfl) H) (fun x19 H => ?_)
  refine ls_y (d := some 20) (by kernel_rfl) (by kernel_rfl) HA_1 (y_ld Tryd.isAgg4 (by kernel_rfl) H) (fun x20 H => ?_)
  refine ls_nil ?_
  refine then_normal ?_
  refine fr_eq (b := ⟨#[x0, x1, x2, undef, undef, undef, x10, (.int .i64 0), x15, x0, x10, x0, x12, x13, x14, x15, x0, x17, x18, x19, x20, undef, undef, undef, undef, undef, undef, undef, undef, undef, undef, undef, undef, undef, undef, undef, undef, undef, undef, undef, undef, undef, undef, undef, undef, undef, undef, undef, undef, undef, undef, undef, undef, undef, undef], []⟩) (by kernel_rfl) ?_
  refine wp_join (fun a w => ∃ (D : Nat → Value) (x7 x8 : Value) (h_1 : Heap), a = ⟨#[x0, x1, x2, undef, undef, undef, x10, x7, x8, x0, x10, x0, x12, x13, x14, x15, x0, x17, x18, x19, x20, (D 0), (D 1), (D 2), (D 3), (D 4), (D 5), (D 6), (D 7), undef, undef, undef, undef, undef, undef, undef, undef, undef, undef, undef, undef, undef, undef, undef, undef, undef, undef, undef, undef, undef, undef, undef, undef, undef, undef], []⟩ ∧ At w0 w h_1 ∧ screen_Screen_Move_j1 R x0 x1 x2 x10 x7 x8 h_1) ?_ ?_
  · refine wp_if rfl H (fun H => ?_) (fun H => ?_)
    · refine lwp_qt (by kernel_rfl) (by kernel_rfl) HA_1 ?_
      refine lq_move (x := x0) (by kernel_rfl) (by kernel_rfl) ?_
      refine lq_p (d := some 22) (by kernel_rfl) (by kernel_rfl) (p_nil (by kernel_rfl) H) (fun x22 H => ?_)
      refine lq_p (d := some 23) (by kernel_rfl) (by kernel_rfl) (p_off Tryd.underlying64 rfl (fun w => ⟨_, Tryd.sizeOf3 w⟩) rfl (by kernel_rfl) H) (fun x23 H => ?_)
      refine lq_y (d := some 24) (by kernel_rfl) (by kernel_rfl) HA_1 (y_ld Tryd.isAgg3 (by kernel_rfl) H) (fun x24 H => ?_)
      refine lq_move (x := x0) (by kernel_rfl) (by kernel_rfl) ?_
      refine lq_p (d := some 26) (by kernel_rfl) (by kernel_rfl) (p_nil (by kernel_rfl) H) (fun x26 H => ?_)
      refine lq_fr (b := ⟨#[x0, x1, x2, undef, undef, undef, x10, (.int .i64 0), x15, x0, x10, x0, x12, x13, x14, x15, x0, x17, x18, x19, x20, x0, x22, x23, x24, x0, x26, undef, undef, undef, undef, undef, undef, undef, undef, undef, undef, undef, undef, undef, undef, undef, undef, undef, undef, undef, undef, undef, undef, undef, undef, undef, undef, undef, undef], []⟩) (by kernel_rfl) ?_
      refine lq_p (d := some 27) (by kernel_rfl) (by kernel_rfl) (p_off Tryd.underlying64 rfl (fun w => ⟨_, Tryd.sizeOf3 w⟩) rfl (by kernel_rfl) H) (fun x27 H => ?_)
      refine lq_y (d := some 28) (by kernel_rfl) (by kernel_rfl) HA_1 (y_ld Tryd.isAgg3 (by kernel_rfl) H) (fun x28 H => ?_)
      refine lq_assign (x := x24) (by kernel_rfl) (by kernel_rfl) ?_
      refine lq_assign (x := x28) (by kernel_rfl) (by kernel_rfl) ?_
      refine lq_nil ?_
      intro w_10 HA_10
      exact ⟨(fun i => ([x0, x22, x23, x24, x0, x26, x27, x28]).getD i undef), x24, x28, h, by kernel_rfl, HA_10, H⟩
    · refine wp_skip ?_
      exact ⟨(fun i => ([undef, undef, undef, undef, undef, undef, undef, undef]).getD i undef), (.int .i64 0), x15, h, by kernel_rfl, HA_1, H⟩
  · rintro _ w_2 ⟨D, x7, x8, h_1, rfl, HA_2, H⟩
    unfold screen_Screen_Move_j1 at H
    refine then_normal ?_
    refine fr_eq (b := ⟨#[x0, x1, x2, undef, undef, undef, x10, x7, x8, x0, x10, x0, x12, x13, x14, x15, x0, x17, x18, x19, x20, (D 0), (D 1), (D 2), (D 3), (D 4), (D 5), (D 6), (D 7), undef, undef, undef, undef, undef, undef, undef, undef, undef, undef, undef, undef, undef, undef, undef, undef, undef, undef, undef, undef, undef, undef, undef, undef, undef, undef], []⟩) (by kernel_rfl) ?_
    obtain ⟨C, HC, H⟩ := H
    refine lwp_mx (Nat.testBit 306774528) (Nat.testBit 512) (Nat.testBit 230063487) [0, 0, 0, 0, 0, 16, 48, 112, 240, 504, 0, 0, 0, 4096, 12288, 28672, 65528, 0, 0, 524280, 1048569, 2097145, 4194297, 8388603, 16777211, 33554427, 67108863, 134217727, 268435455] (Nat.testBit 128) C [0, 1, 2, 3, 4, 5, 6, 7, 8, 9, 10, 11, 12, 13, 14, 15, 16, 17, 18, 19, 20, 21, 22, 23, 24, 25, 26, 27, 28] (by kernel_rfl) (by kernel_rfl) (by kernel_rfl) (by kernel_rfl) HA_2 HC ?_
    intro w_3 HA_3
    refine lm_al (x := x10) (d := some 29) (by kernel_rfl) rfl (by kernel_rfl) (by kernel_rfl) (al_move (by kernel_rfl)) ?_
    refine lm_al (x := x10) (d := some 30) (by kernel_rfl) rfl (by kernel_rfl) (by kernel_rfl) (al_move (by kernel_rfl)) ?_
    refine lm_al (x := x10) (d := some 31) (by kernel_rfl) rfl (by kernel_rfl) (by kernel_rfl) (al_move (by kernel_rfl)) ?_
    refine lm_al (x := x1) (d := some 32) (by kernel_rfl) rfl (by kernel_rfl) (by kernel_rfl) (al_move (by kernel_rfl)) ?_
    refine lm_al (x := x0) (d := some 33) (by kernel_rfl) rfl (by kernel_rfl) (by kernel_rfl) (al_move (by kernel_rfl)) ?_
    refine lm_p (d := some 34) (by kernel_rfl) rfl (by kernel_rfl) (by kernel_rfl) (p_nil (by kernel_rfl) H) (fun x34 H => ?_)
    refine lm_fr (b := ⟨#[x0, x1, x2, undef, undef, undef, x10, x7, x8, x0, x10, x0, x12, x13, x14, x15, x0, x17, x18, x19, x20, (D 0), (D 1), (D 2), (D 3), (D 4), (D 5), (D 6), (D 7), x10, x10, x10, x1, x0, x34, undef, undef, undef, undef, undef, undef, undef, undef, undef, undef, undef, undef, undef, undef, undef, undef, undef, undef, undef, undef], []⟩) (by kernel_rfl) ?_
    refine lm_p (d := some 35) (by kernel_rfl) rfl (by kernel_rfl) (by kernel_rfl) (p_off Tryd.underlying64 rfl (fun w => ⟨_, Tryd.sizeOf3 w⟩) rfl (by kernel_rfl) H) (fun x35 H => ?_)
    refine lm_b (d := some 36) (by kernel_rfl) rfl (by kernel_rfl) (by kernel_rfl) (by kernel_rfl) (by kernel_rfl) (y_ld Tryd.isAgg3 (by kernel_rfl) H) (fun x36 H => ?_)
    refine lm_p (d := some 37) (by kernel_rfl) rfl (by kernel_rfl) (by kernel_rfl) (p_sub (by kernel_rfl) (by kernel_rfl) H) (fun x37 H => ?_)
    refine lm_dc (d := some 38) (by kernel_rfl) rfl (by kernel_rfl) (by kernel_rfl) (by kernel_rfl) HA_3 (d_call (by kernel_rfl) (by kernel_rfl) H) (fun x38 h_2 w_4 H HA_4 => ?_)
    refine lm_al (x := x7) (d := some 39) (by kernel_rfl) rfl (by kernel_rfl) (by kernel_rfl) (al_move (by kernel_rfl)) ?_
    refine lm_al (x := x2) (d := some 40) (by kernel_rfl) rfl (by kernel_rfl) (by kernel_rfl) (al_move (by kernel_rfl)) ?_
    refine lm_fr (b := ⟨#[x0, x1, x2, undef, undef, undef, x10, x7, x8, x0, x10, x0, x12, x13, x14, x15, x0, x17, x18, x19, x20, (D 0), (D 1), (D 2), (D 3), (D 4), (D 5), (D 6), (D 7), x10, x10, x10, x1, x0, x34, x35, x36, x37, x38, x7, x2, undef, undef, undef, undef, undef, undef, undef, undef, undef, undef, undef, undef, undef, undef], []⟩) (by kernel_rfl) ?_
    refine lm_al (x := x0) (d := some 41) (by kernel_rfl) rfl (by kernel_rfl) (by kernel_rfl) (al_move (by kernel_rfl)) ?_
    refine lm_p (d := some 42) (by kernel_rfl) rfl (by kernel_rfl) (by kernel_rfl) (p_nil (by kernel_rfl) H) (fun x42 H => ?_)
    refine lm_p (d := some 43) (by kernel_rfl) rfl (by kernel_rfl) (by kernel_rfl) (p_off Tryd.underlying64 rfl (fun w => ⟨_, Tryd.sizeOf3 w⟩) rfl (by kernel_rfl) H) (fun x43 H => ?_)
    refine lm_f (d := some 44) (by kernel_rfl) rfl (by kernel_rfl) (by kernel_rfl) (by kernel_rfl) (by kernel_rfl) (c_ld Tryd.isAgg3 (by kernel_rfl) H) (fun x44 H => ?_)
    refine lm_d (d := some 45) (by kernel_rfl) rfl (by kernel_rfl) (by kernel_rfl) (by kernel_rfl) HA_4 (d_call (by kernel_rfl) (by kernel_rfl) H) (fun x45 h_3 w_5 H HA_5 => ?_)
    refine lm_al (x := x7) (d := some 46) (by kernel_rfl) rfl (by kernel_rfl) (by kernel_rfl) (al_move (by kernel_rfl)) ?_
    refine lm_fr (b := ⟨#[x0, x1, x2, undef, undef, undef, x10, x7, x8, x0, x10, x0, x12, x13, x14, x15, x0, x17, x18, x19, x20, (D 0), (D 1), (D 2), (D 3), (D 4), (D 5), (D 6), (D 7), x10, x10, x10, x1, x0, x34, x35, x36, x37, x38, x7, x2, x0, x42, x43, x44, x45, x7, undef, undef, undef, undef, undef, undef, undef, undef], []⟩) (by kernel_rfl) ?_
    refine lm_al (x := x8) (d := some 47) (by kernel_rfl) rfl (by kernel_rfl) (by kernel_rfl) (al_move (by kernel_rfl)) ?_
    refine lm_d (d := some 48) (by kernel_rfl) rfl (by kernel_rfl) (by kernel_rfl) (by kernel_rfl) HA_5 (d_call (by kernel_rfl) (by kernel_rfl) H) (fun x48 h_4 w_6 H HA_6 => ?_)
    refine lm_p (d := some 49) (by kernel_rfl) rfl (by kernel_rfl) (by kernel_rfl) (p_nil (by kernel_rfl) H) (fun x49 H => ?_)
    refine lm_p (d := some 50) (by kernel_rfl) rfl (by kernel_rfl) (by kernel_rfl) (p_off Tryd.underlying38 rfl (fun w => ⟨_, Tryd.sizeOf3 w⟩) rfl (by kernel_rfl) H) (fun x50 H => ?_)
    refine lm_d (d := none) (by kernel_rfl) rfl (by kernel_rfl) (by kernel_rfl) (by kernel_rfl) HA_6 (d_st Tryd.sizeOf3 (by kernel_rfl) (by kernel_rfl) H) (fun _ h_5 w_7 H HA_7 => ?_)
    refine lm_p (d := some 51) (by kernel_rfl) rfl (by kernel_rfl) (by kernel_rfl) (p_nil (by kernel_rfl) H) (fun x51 H => ?_)
    refine lm_fr (b := ⟨#[x0, x1, x2, undef, undef, undef, x10, x7, x8, x0, x10, x0, x12, x13, x14, x15, x0, x17, x18, x19, x20, (D 0), (D 1), (D 2), (D 3), (D 4), (D 5), (D 6), (D 7), x10, x10, x10, x1, x0, x34, x35, x36, x37, x38, x7, x2, x0, x42, x43, x44, x45, x7, x8, x48, x49, x50, x51, undef, undef, undef], []⟩) (by kernel_rfl) ?_
    refine lm_p (d := some 52) (by kernel_rfl) rfl (by kernel_rfl) (by kernel_rfl) (p_off Tryd.underlying38 rfl (fun w => ⟨_, Tryd.sizeOf3 w⟩) rfl (by kernel_rfl) H) (fun x52 H => ?_)
    refine lm_d (d := none) (by kernel_rfl) rfl (by kernel_rfl) (by kernel_rfl) (by kernel_rfl) HA_7 (d_st Tryd.sizeOf3 (by kernel_rfl) (by kernel_rfl) H) (fun _ h_6 w_8 H HA_8 => ?_)
    refine lm_p (d := some 53) (by kernel_rfl) rfl (by kernel_rfl) (by kernel_rfl) (p_nil (by kernel_rfl) H) (fun x53 H => ?_)
    refine lm_p (d := some 54) (by kernel_rfl) rfl (by kernel_rfl) (by kernel_rfl) (p_off Tryd.underlying38 rfl (fun w => ⟨_, Tryd.sizeOf4 w⟩) rfl (by kernel_rfl) H) (fun x54 H => ?_)
    refine lm_d (d := none) (by kernel_rfl) rfl (by kernel_rfl) (by kernel_rfl) (by kernel_rfl) HA_8 (d_st Tryd.sizeOf4 (by kernel_rfl) (by kernel_rfl) H) (fun _ h_7 w_9 H HA_9 => ?_)
    refine lm_nil ?_
    exact end0 (Tryd.results13) (by kernel_rfl) HA_9 H _ (.inl rfl)

end Go.Proofs.YtmhhjpfkipficaaDoor

end

section
/- The shallow reading of one function, and that the function does it. Written by a program. -/
set_option linter.unusedVariables false
namespace Go.Proofs.YtmhhjpfkipficaaDoor
open Go Go.HW

def screen_Screen_Shift_j2 (R : Value → Heap → Prop) (x0 x1 x2 x10 x7 x8 : Value) (h_2 : Heap) : Prop :=
  ∃ C : Heap → Prop, C h_2 ∧ (sNil x10 fun x46 =>
  sOff x46 0 fun x47 =>
  sLd h_2 x47 fun x48 =>
  sNil x0 fun x51 =>
  sOff x51 1 fun x52 =>
  sLd h_2 x52 fun x53 =>
  screen_add_c x48 x1 x53 h_2 fun x54 h_3 => C h_3 ∧ (
  sNil x0 fun x56 =>
  sOff x56 1 fun x57 =>
  sLdC C x57 fun x58 =>
  sSub .i64 x58 (.int .i64 1) fun x59 =>
  screen_within_c x54 (.int .i64 0) x59 h_3 fun x60 h_4 => C h_4 ∧ (
  sNil x10 fun x62 =>
  sOff x62 1 fun x63 =>
  sLdC C x63 fun x64 =>
  sNil x0 fun x67 =>
  sOff x67 2 fun x68 =>
  sLdC C x68 fun x69 =>
  screen_add_c x64 x2 x69 h_4 fun x70 h_5 => 
  screen_within_c x70 x7 x8 h_5 fun x73 h_6 => 
  sNil x10 fun x74 =>
  sOff x74 0 fun x75 =>
  sSt h_6 x75 x60 fun h_7 => 
  sNil x10 fun x76 =>
  sOff x76 1 fun x77 =>
  sSt h_7 x77 x73 fun h_8 => 
  sNil x10 fun x78 =>
  sOff x78 2 fun x79 =>
  sSt h_8 x79 (.bool false) fun h_9 => 
  R unit h_9)))
def screen_Screen_Shift_j1 (R : Value → Heap → Prop) (x0 x1 x2 x10 x15 x7 : Value) (h_1 : Heap) : Prop :=
  sNil x10 fun x30 =>
  sOff x30 1 fun x31 =>
  sLd h_1 x31 fun x32 =>
  sNil x0 fun x34 =>
  sOff x34 20 fun x35 =>
  sLd h_1 x35 fun x36 =>
  sLe x32 x36 fun x37 =>
  sIf x37 (sNil x0 fun x39 =>
  sOff x39 20 fun x40 =>
  sLd h_1 x40 fun x41 =>
  screen_Screen_Shift_j2 R x0 x1 x2 x10 x7 x41 h_1) (screen_Screen_Shift_j2 R x0 x1 x2 x10 x7 x15 h_1)
def screen_Screen_Shift_S (x0 x1 x2 : Value) (h : Heap) (R : Value → Heap → Prop) : Prop :=
  screen_Screen_cur_c x0 h fun x10 h => 
  sNil x0 fun x12 =>
  sOff x12 2 fun x13 =>
  sLd h x13 fun x14 =>
  sSub .i64 x14 (.int .i64 1) fun x15 =>
  sNil x10 fun x17 =>
  sOff x17 1 fun x18 =>
  sLd h x18 fun x19 =>
  sNil x0 fun x21 =>
  sOff x21 19 fun x22 =>
  sLd h x22 fun x23 =>
  sGe x19 x23 fun x24 =>
  sIf x24 (sNil x0 fun x26 =>
  sOff x26 19 fun x27 =>
  sLd h x27 fun x28 =>
  screen_Screen_Shift_j1 R x0 x1 x2 x10 x15 x28 h) (screen_Screen_Shift_j1 R x0 x1 x2 x10 x15 (.int .i64 0) h)
set_option maxRecDepth 100000 in
theorem screen_Screen_Shift_runs {x0 x1 x2 : Value} {h : Heap} {R : Value → Heap → Prop} (H : screen_Screen_Shift_S x0 x1 x2 h R) : screen_Screen_Shift_c x0 x1 x2 h R := by
  unfold screen_Screen_Shift_S at H
  refine runs_of (b := ⟨([x0, x1, x2, undef, undef, undef, undef, undef, undef, undef, undef, undef, undef, undef, undef, undef, undef, undef, undef, undef, undef, undef, undef, undef, undef, undef, undef, undef, undef, undef, undef, undef, undef, undef, undef, undef, undef, undef, undef, undef, undef, undef, undef, undef, undef, undef, undef, undef, undef, undef] ++ [undef, undef, undef, undef, undef, undef, undef, undef, undef, undef, undef, undef, undef, undef, undef, undef, undef, undef, undef, undef, undef, undef, undef, undef, undef, undef, undef, undef, undef, undef]).toArray, []⟩) Tryd.call15 Tryd.func15 rfl (by kernel_rfl) (fun w0 HA => ?_)
  refine wp_seq ?_
  refine lwp_list ?_
  refine ls_move (x := x0) (by kernel_rfl) (by kernel_rfl) ?_
  refine ls_d (d := some 10) (by kernel_rfl) (by kernel_rfl) HA (d_call (by kernel_rfl) (by kernel_rfl) H) (fun x10 h w H HA => ?_)
  refine ls_assign (x := x10) (by kernel_rfl) (by kernel_rfl) ?_
  refine ls_nil ?_
  refine then_normal ?_
  refine fr_eq (b := ⟨([x0, x1, x2, undef, undef, undef, x10, undef, undef, x0, x10, undef, undef, undef, undef, undef, undef, undef, undef, undef, undef, undef, undef, undef, undef, undef, undef, undef, undef, undef, undef, undef, undef, undef, undef, undef, undef, undef, undef, undef, undef, undef, undef, undef, undef, undef, undef, undef, undef, undef] ++ [undef, undef, undef, undef, undef, undef, undef, undef, undef, undef, undef, undef, undef, undef, undef, undef, undef, undef, undef, undef, undef, undef, undef, undef, undef, undef, undef, undef, undef, undef]).toArray, []⟩) (by kernel_rfl) ?_
  refine wp_seq ?_
  refine lwp_qt (by kernel_rfl) (by kernel_rfl) HA ?_
  refine lq_move (x := x0) (by kernel_rfl) (by kernel_rfl) ?_
  refine lq_p (d := some 12) (by kernel_rfl) (by kernel_rfl) (p_nil (by kernel_rfl) H) (fun x12 H => ?_)
  refine lq_p (d := some 13) (by kernel_rfl) (by kernel_rfl) (p_off Tryd.underlying64 rfl (fun w => ⟨_, Tryd.sizeOf3 w⟩) rfl (by kernel_rfl) H) (fun x13 H => ?_)
  refine lq_y (d := some 14) (by kernel_rfl) (by kernel_rfl) HA (y_ld Tryd.isAgg3 (by kernel_rfl) H) (fun x14 H => ?_)
  refine lq_p (d := some 15) (by kernel_rfl) (by kernel_rfl) (p_sub (by kernel_rfl) (by kernel_rfl) H) (fun x15 H => ?_)
  refine lq_assign (x := (.int .i64 0)) (by kernel_rfl) (by kernel_rfl) ?_
  refine lq_fr (b := ⟨([x0, x1, x2, undef, undef, undef, x10, (.int .i64 0), undef, x0, x10, x0, x12, x13, x14, x15, undef, undef, undef, undef, undef, undef, undef, undef, undef, undef, undef, undef, undef, undef, undef, undef, undef, undef, undef, undef, undef, undef, undef, undef, undef, undef, undef, undef, undef, undef, undef, undef, undef, undef] ++ [undef, undef, undef, undef, undef, undef, undef, undef, undef, undef, undef, undef, undef, undef, undef, undef, undef, undef, undef, undef, undef, undef, undef, undef, undef, undef, undef, undef, undef, undef]).toArray, []⟩) (by kernel_rfl) ?_
  refine lq_assign (x := x15) (by kernel_rfl) (by kernel_rfl) ?_
  refine lq_nil ?_
  intro w_1 HA_1
  refine then_normal ?_
  refine fr_eq (b := ⟨([x0, x1, x2, undef, undef, undef, x10, (.int .i64 0), x15, x0, x10, x0, x12, x13, x14, x15, undef, undef, undef, undef, undef, undef, undef, undef, undef, undef, undef, undef, undef, undef, undef, undef, undef, undef, undef, undef, undef, undef, undef, undef, undef, undef, undef, undef, undef, undef, undef, undef, undef, undef] ++ [undef, undef, undef, undef, undef, undef, undef, undef, undef, undef, undef, undef, undef, undef, undef, undef, undef, undef, undef, undef, undef, undef, undef, undef, undef, undef, undef, undef, undef, undef]).toArray, []⟩) (by kernel_rfl) ?_
  refine wp_seq ?_
  refine wp_seq ?_
  refine lwp_qt (by kernel_rfl) (by kernel_rfl) HA_1 ?_
  refine lq_move (x := x10) (by kernel_rfl) (by kernel_rfl) ?_
  refine lq_p (d := some 17) (by kernel_rfl) (by kernel_rfl) (p_nil (by kernel_rfl) H) (fun x17 H => ?_)
  refine lq_p (d := some 18) (by kernel_rfl) (by kernel_rfl) (p_off Tryd.underlying38 rfl (fun w => ⟨_, Tryd.sizeOf3 w⟩) rfl (by kernel_rfl) H) (fun x18 H => ?_)
  refine lq_y (d := some 19) (by kernel_rfl) (by kernel_rfl) HA_1 (y_ld Tryd.isAgg3 (by kernel_rfl) H) (fun x19 H => ?_)
  refine lq_move (x := x0) (by kernel_rfl) (by kernel_rfl) ?_
  refine lq_p (d := some 21) (by kernel_rfl) (by kernel_rfl) (p_nil (by kernel_rfl) H) (fun x21 H => ?_)
  refine lq_fr (b := ⟨([x0, x1, x2, undef, undef, undef, x10, (.int .i64 0), x15, x0, x10, x0, x12, x13, x14, x15, x10, x17, x18, x19, x0, x21, undef, undef, undef, undef, undef, undef, undef, undef, undef, undef, undef, undef, undef, undef, undef, undef, undef, undef, undef, undef, undef, undef, undef, undef, undef, undef, undef, undef] ++ [undef, undef, undef, undef, undef, undef, undef, undef, undef, undef, undef, undef, undef, undef, undef, undef, undef, undef, undef, undef, undef, undef, undef, undef, undef, undef, undef, undef, undef, undef]).toArray, []⟩) (by kernel_rfl) ?_
  refine lq_p (d := some 22) (by kernel_rfl) (by kernel_rfl) (p_off Tryd.underlying64 rfl (fun w => ⟨_, Tryd.sizeOf3 w⟩) rfl (by kernel_rfl) H) (fun x22 H => ?_)
  refine lq_y (d := some 23) (by kernel_rfl) (by kernel_rfl) HA_1 (y_ld Tryd.isAgg3 (by kernel_rfl) H) (fun x23 H => ?_)
  refine lq_p (d := some 24) (by kernel_rfl) (by kernel_rfl) (p_sGe (by kernel_rfl) (by kernel_rfl) H) (fun x24 H => ?_)
  refine lq_nil ?_
  intro w_2 HA_2
  refine then_normal ?_
  refine fr_eq (b := ⟨([x0, x1, x2, undef, undef, undef, x10, (.int .i64 0), x15, x0, x10, x0, x12, x13, x14, x15, x10, x17, x18, x19, x0, x21, x22, x23, x24, undef, undef, undef, undef, undef, undef, undef, undef, undef, undef, undef, undef, undef, undef, undef, undef, undef, undef, undef, undef, undef, undef, undef, undef, undef] ++ [undef, undef, undef, undef, undef, undef, undef, undef, undef, undef, undef, undef, undef, undef, undef, undef, undef, undef, undef, undef, undef, undef, undef, undef, undef, undef, undef, undef, undef, undef]).toArray, []⟩) (by kernel_rfl) ?_
  refine wp_join (fun a w => ∃ (D : Nat → Value) (x7 : Value) (h_1 : Heap), a = ⟨([x0, x1, x2, undef, undef, undef, x10, x7, x15, x0, x10, x0, x12, x13, x14, x15, x10, x17, x18, x19, x0, x21, x22, x23, x24, (D 0), (D 1), (D 2), (D 3), undef, undef, undef, undef, undef, undef, undef, undef, undef, undef, undef, undef, undef, undef, undef, undef, undef, undef, undef, undef, undef] ++ [undef, undef, undef, undef, undef, undef, undef, undef, undef, undef, undef, undef, undef, undef, undef, undef, undef, undef, undef, undef, undef, undef, undef, undef, undef, undef, undef, undef, undef, undef]).toArray, []⟩ ∧ At w0 w h_1 ∧ screen_Screen_Shift_j1 R x0 x1 x2 x10 x15 x7 h_1) ?_ ?_
  · refine wp_if rfl H (fun H => ?_) (fun H => ?_)
    · refine lwp_list ?_
      refine ls_move (x := x0) (by kernel_rfl) (by kernel_rfl) ?_
      refine ls_p (d := some 26) (by kernel_rfl) (by kernel_rfl) (p_nil (by kernel_rfl) H) (fun x26 H => ?_)
      refine ls_p (d := some 27) (by kernel_rfl) (by kernel_rfl) (p_off Tryd.underlying64 rfl (fun w => ⟨_, Tryd.sizeOf3 w⟩) rfl (by kernel_rfl) H) (fun x27 H => ?_)
      refine ls_y (d := some 28) (by kernel_rfl) (by kernel_rfl) HA_2 (y_ld Tryd.isAgg3 (by kernel_rfl) H) (fun x28 H => ?_)
      refine ls_assign (x := x28) (by kernel_rfl) (by kernel_rfl) ?_
      refine ls_nil ?_
      exact ⟨(fun i => ([x0, x26, x27, x28]).getD i undef), x28, h, by kernel_rfl, HA_2, H⟩
    · refine wp_skip ?_
      exact ⟨(fun i => ([undef, undef, undef, undef]).getD i undef), (.int .i64 0), h, by kernel_rfl, HA_2, H⟩
  · rintro _ w_3 ⟨D, x7, h_1, rfl, HA_3, H⟩
    unfold screen_Screen_Shift_j1 at H
    refine then_normal ?_
    refine fr_eq (b := ⟨([x0, x1, x2, undef, undef, undef, x10, x7, x15, x0, x10, x0, x12, x13, x14, x15, x10, x17, x18, x19, x0, x21, x22, x23, x24, (D 0), (D 1), (D 2), (D 3), undef, undef, undef, undef, undef, undef, undef, undef, undef, undef, undef, undef, undef, undef, undef, undef, undef, undef, undef, undef, undef] ++ [undef, undef, undef, undef, undef, undef, undef, undef, undef, undef, undef, undef, undef, undef, undef, undef, undef, undef, undef, undef, undef, undef, undef, undef, undef, undef, undef, undef, undef, undef]).toArray, []⟩) (by kernel_rfl) ?_
    refine wp_seq ?_
    refine wp_seq ?_
    refine lwp_qt (by kernel_rfl) (by kernel_rfl) HA_3 ?_
    refine lq_move (x := x10) (by kernel_rfl) (by kernel_rfl) ?_
    refine lq_p (d := some 30) (by kernel_rfl) (by kernel_rfl) (p_nil (by kernel_rfl) H) (fun x30 H => ?_)
    refine lq_p (d := some 31) (by kernel_rfl) (by kernel_rfl) (p_off Tryd.underlying38 rfl (fun w => ⟨_, Tryd.sizeOf3 w⟩) rfl (by kernel_rfl) H) (fun x31 H => ?_)
    refine lq_y (d := some 32) (by kernel_rfl) (by kernel_rfl) HA_3 (y_ld Tryd.isAgg3 (by kernel_rfl) H) (fun x32 H => ?_)
    refine lq_move (x := x0) (by kernel_rfl) (by kernel_rfl) ?_
    refine lq_p (d := some 34) (by kernel_rfl) (by kernel_rfl) (p_nil (by kernel_rfl) H) (fun x34 H => ?_)
    refine lq_fr (b := ⟨([x0, x1, x2, undef, undef, undef, x10, x7, x15, x0, x10, x0, x12, x13, x14, x15, x10, x17, x18, x19, x0, x21, x22, x23, x24, (D 0), (D 1), (D 2), (D 3), x10, x30, x31, x32, x0, x34, undef, undef, undef, undef, undef, undef, undef, undef, undef, undef, undef, undef, undef, undef, undef] ++ [undef, undef, undef, undef, undef, undef, undef, undef, undef, undef, undef, undef, undef, undef, undef, undef, undef, undef, undef, undef, undef, undef, undef, undef, undef, undef, undef, undef, undef, undef]).toArray, []⟩) (by kernel_rfl) ?_
    refine lq_p (d := some 35) (by kernel_rfl) (by kernel_rfl) (p_off Tryd.underlying64 rfl (fun w => ⟨_, Tryd.sizeOf3 w⟩) rfl (by kernel_rfl) H) (fun x35 H => ?_)
    refine lq_y (d := some 36) (by kernel_rfl) (by kernel_rfl) HA_3 (y_ld Tryd.isAgg3 (by kernel_rfl) H) (fun x36 H => ?_)
    refine lq_p (d := some 37) (by kernel_rfl) (by kernel_rfl) (p_sLe (by kernel_rfl) (by kernel_rfl) H) (fun x37 H => ?_)
    refine lq_nil ?_
    intro w_4 HA_4
    refine then_normal ?_
    refine fr_eq (b := ⟨([x0, x1, x2, undef, undef, undef, x10, x7, x15, x0, x10, x0, x12, x13, x14, x15, x10, x17, x18, x19, x0, x21, x22, x23, x24, (D 0), (D 1), (D 2), (D 3), x10, x30, x31, x32, x0, x34, x35, x36, x37, undef, undef, undef, undef, undef, undef, undef, undef, undef, undef, undef, undef] ++ [undef, undef, undef, undef, undef, undef, undef, undef, undef, undef, undef, undef, undef, undef, undef, undef, undef, undef, undef, undef, undef, undef, undef, undef, undef, undef, undef, undef, undef, undef]).toArray, []⟩) (by kernel_rfl) ?_
    refine wp_join (fun a w => ∃ (D_1 : Nat → Value) (x8 : Value) (h_2 : Heap), a = ⟨([x0, x1, x2, undef, undef, undef, x10, x7, x8, x0, x10, x0, x12, x13, x14, x15, x10, x17, x18, x19, x0, x21, x22, x23, x24, (D 0), (D 1), (D 2), (D 3), x10, x30, x31, x32, x0, x34, x35, x36, x37, (D_1 0), (D_1 1), (D_1 2), (D_1 3), undef, undef, undef, undef, undef, undef, undef, undef] ++ [undef, undef, undef, undef, undef, undef, undef, undef, undef, undef, undef, undef, undef, undef, undef, undef, undef, undef, undef, undef, undef, undef, undef, undef, undef, undef, undef, undef, undef, undef]).toArray, []⟩ ∧ At w0 w h_2 ∧ screen_Screen_Shift_j2 R x0 x1 x2 x10 x7 x8 h_2) ?_ ?_
    · refine wp_if rfl H (fun H => ?_) (fun H => ?_)
      · refine lwp_list ?_
        refine ls_move (x := x0) (by kernel_rfl) (by kernel_rfl) ?_
        refine ls_p (d := some 39) (by kernel_rfl) (by kernel_rfl) (p_nil (by kernel_rfl) H) (fun x39 H => ?_)
        refine ls_p (d := some 40) (by kernel_rfl) (by kernel_rfl) (p_off Tryd.underlying64 rfl (fun w => ⟨_, Tryd.sizeOf3 w⟩) rfl (by kernel_rfl) H) (fun x40 H => ?_)
        refine ls_y (d := some 41) (by kernel_rfl) (by kernel_rfl) HA_4 (y_ld Tryd.isAgg3 (by kernel_rfl) H) (fun x41 H => ?_)
        refine ls_assign (x := x41) (by kernel_rfl) (by kernel_rfl) ?_
        refine ls_nil ?_
        exact ⟨(fun i => ([x0, x39, x40, x41]).getD i undef), x41, h_1, by kernel_rfl, HA_4, H⟩
      · refine wp_skip ?_
        exact ⟨(fun i => ([undef, undef, undef, undef]).getD i undef), x15, h_1, by kernel_rfl, HA_4, H⟩
    · rintro _ w_5 ⟨D_1, x8, h_2, rfl, HA_5, H⟩
      unfold screen_Screen_Shift_j2 at H
      refine then_normal ?_
      refine fr_eq (b := ⟨([x0, x1, x2, undef, undef, undef, x10, x7, x8, x0, x10, x0, x12, x13, x14, x15, x10, x17, x18, x19, x0, x21, x22, x23, x24, (D 0), (D 1), (D 2), (D 3), x10, x30, x31, x32, x0, x34, x35, x36, x37, (D_1 0), (D_1 1), (D_1 2), (D_1 3), undef, undef, undef, undef, undef, undef, undef, undef] ++ [undef, undef, undef, undef, undef, undef, undef, undef, undef, undef, undef, undef, undef, undef, undef, undef, undef, undef, undef, undef, undef, undef, undef, undef, undef, undef, undef, undef, undef, undef]).toArray, []⟩) (by kernel_rfl) ?_
      obtain ⟨C, HC, H⟩ := H
      refine lwp_mx (Nat.testBit 1256546635776) (Nat.testBit 266240) (Nat.testBit 942338140095) [0, 0, 0, 0, 8, 24, 56, 0, 0, 256, 768, 1792, 4088, 0, 8192, 24576, 57344, 122880, 262136, 0, 524288, 1572864, 3670016, 0, 0, 16777216, 50331648, 117440512, 268435448, 0, 0, 2147483640, 4294967289, 8589934585, 17179869177, 34359738363, 68719476731, 137438953467, 274877906943, 549755813887, 1099511627775] (Nat.testBit 2112) C [0, 1, 2, 3, 4, 5, 6, 7, 8, 9, 10, 11, 12, 13, 14, 15, 16, 17, 18, 19, 20, 21, 22, 23, 24, 25, 26, 27, 28, 29, 30, 31, 32, 33, 34, 35, 36, 37, 38, 39, 40] (by kernel_rfl) (by kernel_rfl) (by kernel_rfl) (by kernel_rfl) HA_5 HC ?_
      intro w_6 HA_6
      refine lm_al (x := x10) (d := some 42) (by kernel_rfl) rfl (by kernel_rfl) (by kernel_rfl) (al_move (by kernel_rfl)) ?_
      refine lm_al (x := x10) (d := some 43) (by kernel_rfl) rfl (by kernel_rfl) (by kernel_rfl) (al_move (by kernel_rfl)) ?_
      refine lm_al (x := x10) (d := some 44) (by kernel_rfl) rfl (by kernel_rfl) (by kernel_rfl) (al_move (by kernel_rfl)) ?_
      refine lm_al (x := x10) (d := some 45) (by kernel_rfl) rfl (by kernel_rfl) (by kernel_rfl) (al_move (by kernel_rfl)) ?_
      refine lm_p (d := some 46) (by kernel_rfl) rfl (by kernel_rfl) (by kernel_rfl) (p_nil (by kernel_rfl) H) (fun x46 H => ?_)
      refine lm_p (d := some 47) (by kernel_rfl) rfl (by kernel_rfl) (by kernel_rfl) (p_off Tryd.underlying38 rfl (fun w => ⟨_, Tryd.sizeOf3 w⟩) rfl (by kernel_rfl) H) (fun x47 H => ?_)
      refine lm_fr (b := ⟨([x0, x1, x2, undef, undef, undef, x10, x7, x8, x0, x10, x0, x12, x13, x14, x15, x10, x17, x18, x19, x0, x21, x22, x23, x24, (D 0), (D 1), (D 2), (D 3), x10, x30, x31, x32, x0, x34, x35, x36, x37, (D_1 0), (D_1 1), (D_1 2), (D_1 3), x10, x10, x10, x10, x46, x47, undef, undef] ++ [undef, undef, undef, undef, undef, undef, undef, undef, undef, undef, undef, undef, undef, undef, undef, undef, undef, undef, undef, undef, undef, undef, undef, undef, undef, undef, undef, undef, undef, undef]).toArray, []⟩) (by kernel_rfl) ?_
      refine lm_b (d := some 48) (by kernel_rfl) rfl (by kernel_rfl) (by kernel_rfl) (by kernel_rfl) (by kernel_rfl) (y_ld Tryd.isAgg3 (by kernel_rfl) H) (fun x48 H => ?_)
      refine lm_al (x := x1) (d := some 49) (by kernel_rfl) rfl (by kernel_rfl) (by kernel_rfl) (al_move (by kernel_rfl)) ?_
      refine lm_al (x := x0) (d := some 50) (by kernel_rfl) rfl (by kernel_rfl) (by kernel_rfl) (al_move (by kernel_rfl)) ?_
      refine lm_p (d := some 51) (by kernel_rfl) rfl (by kernel_rfl) (by kernel_rfl) (p_nil (by kernel_rfl) H) (fun x51 H => ?_)
      refine lm_p (d := some 52) (by kernel_rfl) rfl (by kernel_rfl) (by kernel_rfl) (p_off Tryd.underlying64 rfl (fun w => ⟨_, Tryd.sizeOf3 w⟩) rfl (by kernel_rfl) H) (fun x52 H => ?_)
      refine lm_b (d := some 53) (by kernel_rfl) rfl (by kernel_rfl) (by kernel_rfl) (by kernel_rfl) (by kernel_rfl) (y_ld Tryd.isAgg3 (by kernel_rfl) H) (fun x53 H => ?_)
      refine lm_fr (b := ⟨([x0, x1, x2, undef, undef, undef, x10, x7, x8, x0, x10, x0, x12, x13, x14, x15, x10, x17, x18, x19, x0, x21, x22, x23, x24, (D 0), (D 1), (D 2), (D 3), x10, x30, x31, x32, x0, x34, x35, x36, x37, (D_1 0), (D_1 1), (D_1 2), (D_1 3), x10, x10, x10, x10, x46, x47, x48, x1] ++ [x0, x51, x52, x53, undef, undef, undef, undef, undef, undef, undef, undef, undef, undef, undef, undef, undef, undef, undef, undef, undef, undef, undef, undef, undef, undef, undef, undef, undef, undef]).toArray, []⟩) (by kernel_rfl) ?_
      refine lm_dc (d := some 54) (by kernel_rfl) rfl (by kernel_rfl) (by kernel_rfl) (by kernel_rfl) HA_6 (d_call (by kernel_rfl) (by kernel_rfl) H) (fun x54 h_3 w_7 H HA_7 => ?_)
      refine lm_al (x := x0) (d := some 55) (by kernel_rfl) rfl (by kernel_rfl) (by kernel_rfl) (al_move (by kernel_rfl)) ?_
      refine lm_p (d := some 56) (by kernel_rfl) rfl (by kernel_rfl) (by kernel_rfl) (p_nil (by kernel_rfl) H) (fun x56 H => ?_)
      refine lm_p (d := some 57) (by kernel_rfl) rfl (by kernel_rfl) (by kernel_rfl) (p_off Tryd.underlying64 rfl (fun w => ⟨_, Tryd.sizeOf3 w⟩) rfl (by kernel_rfl) H) (fun x57 H => ?_)
      refine lm_f (d := some 58) (by kernel_rfl) rfl (by kernel_rfl) (by kernel_rfl) (by kernel_rfl) (by kernel_rfl) (c_ld Tryd.isAgg3 (by kernel_rfl) H) (fun x58 H => ?_)
      refine lm_p (d := some 59) (by kernel_rfl) rfl (by kernel_rfl) (by kernel_rfl) (p_sub (by kernel_rfl) (by kernel_rfl) H) (fun x59 H => ?_)
      refine lm_fr (b := ⟨([x0, x1, x2, undef, undef, undef, x10, x7, x8, x0, x10, x0, x12, x13, x14, x15, x10, x17, x18, x19, x0, x21, x22, x23, x24, (D 0), (D 1), (D 2), (D 3), x10, x30, x31, x32, x0, x34, x35, x36, x37, (D_1 0), (D_1 1), (D_1 2), (D_1 3), x10, x10, x10, x10, x46, x47, x48, x1] ++ [x0, x51, x52, x53, x54, x0, x56, x57, x58, x59, undef, undef, undef, undef, undef, undef, undef, undef, undef, undef, undef, undef, undef, undef, undef, undef, undef, undef, undef, undef]).toArray, []⟩) (by kernel_rfl) ?_
      refine lm_dc (d := some 60) (by kernel_rfl) rfl (by kernel_rfl) (by kernel_rfl) (by kernel_rfl) HA_7 (d_call (by kernel_rfl) (by kernel_rfl) H) (fun x60 h_4 w_8 H HA_8 => ?_)
      refine lm_al (x := x10) (d := some 61) (by kernel_rfl) rfl (by kernel_rfl) (by kernel_rfl) (al_move (by kernel_rfl)) ?_
      refine lm_p (d := some 62) (by kernel_rfl) rfl (by kernel_rfl) (by kernel_rfl) (p_nil (by kernel_rfl) H) (fun x62 H => ?_)
      refine lm_p (d := some 63) (by kernel_rfl) rfl (by kernel_rfl) (by kernel_rfl) (p_off Tryd.underlying38 rfl (fun w => ⟨_, Tryd.sizeOf3 w⟩) rfl (by kernel_rfl) H) (fun x63 H => ?_)
      refine lm_f (d := some 64) (by kernel_rfl) rfl (by kernel_rfl) (by kernel_rfl) (by kernel_rfl) (by kernel_rfl) (c_ld Tryd.isAgg3 (by kernel_rfl) H) (fun x64 H => ?_)
      refine lm_al (x := x2) (d := some 65) (by kernel_rfl) rfl (by kernel_rfl) (by kernel_rfl) (al_move (by kernel_rfl)) ?_
      refine lm_fr (b := ⟨([x0, x1, x2, undef, undef, undef, x10, x7, x8, x0, x10, x0, x12, x13, x14, x15, x10, x17, x18, x19, x0, x21, x22, x23, x24, (D 0), (D 1), (D 2), (D 3), x10, x30, x31, x32, x0, x34, x35, x36, x37, (D_1 0), (D_1 1), (D_1 2), (D_1 3), x10, x10, x10, x10, x46, x47, x48, x1] ++ [x0, x51, x52, x53, x54, x0, x56, x57, x58, x59, x60, x10, x62, x63, x64, x2, undef, undef, undef, undef, undef, undef, undef, undef, undef, undef, undef, undef, undef, undef]).toArray, []⟩) (by kernel_rfl) ?_
      refine lm_al (x := x0) (d := some 66) (by kernel_rfl) rfl (by kernel_rfl) (by kernel_rfl) (al_move (by kernel_rfl)) ?_
      refine lm_p (d := some 67) (by kernel_rfl) rfl (by kernel_rfl) (by kernel_rfl) (p_nil (by kernel_rfl) H) (fun x67 H => ?_)
      refine lm_p (d := some 68) (by kernel_rfl) rfl (by kernel_rfl) (by kernel_rfl) (p_off Tryd.underlying64 rfl (fun w => ⟨_, Tryd.sizeOf3 w⟩) rfl (by kernel_rfl) H) (fun x68 H => ?_)
      refine lm_f (d := some 69) (by kernel_rfl) rfl (by kernel_rfl) (by kernel_rfl) (by kernel_rfl) (by kernel_rfl) (c_ld Tryd.isAgg3 (by kernel_rfl) H) (fun x69 H => ?_)
      refine lm_d (d := some 70) (by kernel_rfl) rfl (by kernel_rfl) (by kernel_rfl) (by kernel_rfl) HA_8 (d_call (by kernel_rfl) (by kernel_rfl) H) (fun x70 h_5 w_9 H HA_9 => ?_)
      refine lm_al (x := x7) (d := some 71) (by kernel_rfl) rfl (by kernel_rfl) (by kernel_rfl) (al_move (by kernel_rfl)) ?_
      refine lm_fr (b := ⟨([x0, x1, x2, undef, undef, undef, x10, x7, x8, x0, x10, x0, x12, x13, x14, x15, x10, x17, x18, x19, x0, x21, x22, x23, x24, (D 0), (D 1), (D 2), (D 3), x10, x30, x31, x32, x0, x34, x35, x36, x37, (D_1 0), (D_1 1), (D_1 2), (D_1 3), x10, x10, x10, x10, x46, x47, x48, x1] ++ [x0, x51, x52, x53, x54, x0, x56, x57, x58, x59, x60, x10, x62, x63, x64, x2, x0, x67, x68, x69, x70, x7, undef, undef, undef, undef, undef, undef, undef, undef]).toArray, []⟩) (by kernel_rfl) ?_
      refine lm_al (x := x8) (d := some 72) (by kernel_rfl) rfl (by kernel_rfl) (by kernel_rfl) (al_move (by kernel_rfl)) ?_
      refine lm_d (d := some 73) (by kernel_rfl) rfl (by kernel_rfl) (by kernel_rfl) (by kernel_rfl) HA_9 (d_call (by kernel_rfl) (by kernel_rfl) H) (fun x73 h_6 w_10 H HA_10 => ?_)
      refine lm_p (d := some 74) (by kernel_rfl) rfl (by kernel_rfl) (by kernel_rfl) (p_nil (by kernel_rfl) H) (fun x74 H => ?_)
      refine lm_p (d := some 75) (by kernel_rfl) rfl (by kernel_rfl) (by kernel_rfl) (p_off Tryd.underlying38 rfl (fun w => ⟨_, Tryd.sizeOf3 w⟩) rfl (by kernel_rfl) H) (fun x75 H => ?_)
      refine lm_d (d := none) (by kernel_rfl) rfl (by kernel_rfl) (by kernel_rfl) (by kernel_rfl) HA_10 (d_st Tryd.sizeOf3 (by kernel_rfl) (by kernel_rfl) H) (fun _ h_7 w_11 H HA_11 => ?_)
      refine lm_p (d := some 76) (by kernel_rfl) rfl (by kernel_rfl) (by kernel_rfl) (p_nil (by kernel_rfl) H) (fun x76 H => ?_)
      refine lm_fr (b := ⟨([x0, x1, x2, undef, undef, undef, x10, x7, x8, x0, x10, x0, x12, x13, x14, x15, x10, x17, x18, x19, x0, x21, x22, x23, x24, (D 0), (D 1), (D 2), (D 3), x10, x30, x31, x32, x0, x34, x35, x36, x37, (D_1 0), (D_1 1), (D_1 2), (D_1 3), x10, x10, x10, x10, x46, x47, x48, x1] ++ [x0, x51, x52, x53, x54, x0, x56, x57, x58, x59, x60, x10, x62, x63, x64, x2, x0, x67, x68, x69, x70, x7, x8, x73, x74, x75, x76, undef, undef, undef]).toArray, []⟩) (by kernel_rfl) ?_
      refine lm_p (d := some 77) (by kernel_rfl) rfl (by kernel_rfl) (by kernel_rfl) (p_off Tryd.underlying38 rfl (fun w => ⟨_, Tryd.sizeOf3 w⟩) rfl (by kernel_rfl) H) (fun x77 H => ?_)
      refine lm_d (d := none) (by kernel_rfl) rfl (by kernel_rfl) (by kernel_rfl) (by kernel_rfl) HA_11 (d_st Tryd.sizeOf3 (by kernel_rfl) (by kernel_rfl) H) (fun _ h_8 w_12 H HA_12 => ?_)
      refine lm_p (d := some 78) (by kernel_rfl) rfl (by kernel_rfl) (by kernel_rfl) (p_nil (by kernel_rfl) H) (fun x78 H => ?_)
      refine lm_p (d := some 79) (by kernel_rfl) rfl (by kernel_rfl) (by kernel_rfl) (p_off Tryd.underlying38 rfl (fun w => ⟨_, Tryd.sizeOf4 w⟩) rfl (by kernel_rfl) H) (fun x79 H => ?_)
      refine lm_d (d := none) (by kernel_rfl) rfl (by kernel_rfl) (by kernel_rfl) (by kernel_rfl) HA_12 (d_st Tryd.sizeOf4 (by kernel_rfl) (by kernel_rfl) H) (fun _ h_9 w_13 H HA_13 => ?_)
      refine lm_nil ?_
      exact end0 (Tryd.results15) (by kernel_rfl) HA_13 H _ (.inl rfl)

end Go.Proofs.YtmhhjpfkipficaaDoor

end

section
/- The shallow reading of one function, and that the function does it. Written by a program. -/
set_option linter.unusedVariables false
namespace Go.Proofs.YtmhhjpfkipficaaDoor
open Go Go.HW

def screen_Screen_Cursor_S (x0 : Value) (h : Heap) (R : Value → Heap → Prop) : Prop :=
  sNew h #[.int .i64 0, .int .i64 0, .bool false] 38 fun x2 h => 
  sNil x0 fun x4 =>
  sOff x4 3 fun x5 =>
  sOff x5 0 fun x6 =>
  sLdN h x6 3 fun x7 =>
  sStN h x2 x7 3 fun h_1 => 
  sLdN h_1 x2 3 fun r2 =>
  R r2 h_1
set_option maxRecDepth 100000 in
theorem screen_Screen_Cursor_runs {x0 : Value} {h : Heap} {R : Value → Heap → Prop} (H : screen_Screen_Cursor_S x0 h R) : screen_Screen_Cursor_c x0 h R := by
  unfold screen_Screen_Cursor_S at H
  refine runs_of (b := ⟨#[x0, undef, undef, undef, undef, undef, undef, undef], []⟩) Tryd.call14 Tryd.func14 rfl (by kernel_rfl) (fun w0 HA => ?_)
  refine wp_seq ?_
  refine lwp_list ?_
  refine ls_d (d := some 2) (by kernel_rfl) (by kernel_rfl) HA (d_alloc Tryd.zeroValue38 H) (fun x2 h w H HA => ?_)
  refine ls_nil ?_
  refine then_normal ?_
  refine fr_eq (b := ⟨#[x0, undef, x2, undef, undef, undef, undef, undef], []⟩) (by kernel_rfl) ?_
  refine wp_seq ?_
  refine lwp_list ?_
  refine ls_move (x := x0) (by kernel_rfl) (by kernel_rfl) ?_
  refine ls_p (d := some 4) (by kernel_rfl) (by kernel_rfl) (p_nil (by kernel_rfl) H) (fun x4 H => ?_)
  refine ls_p (d := some 5) (by kernel_rfl) (by kernel_rfl) (p_off Tryd.underlying64 rfl (fun w => ⟨_, Tryd.sizeOf61 w⟩) rfl (by kernel_rfl) H) (fun x5 H => ?_)
  refine ls_p (d := some 6) (by kernel_rfl) (by kernel_rfl) (p_off Tryd.underlying61 rfl (fun w => ⟨_, Tryd.sizeOf38 w⟩) rfl (by kernel_rfl) H) (fun x6 H => ?_)
  refine ls_y (d := some 7) (by kernel_rfl) (by kernel_rfl) HA (y_ldn Tryd.isAgg38 Tryd.sizeOf38 (by kernel_rfl) H) (fun x7 H => ?_)
  refine ls_d (d := none) (by kernel_rfl) (by kernel_rfl) HA (d_stn Tryd.sizeOf38 (by kernel_rfl) (by kernel_rfl) H) (fun _ h_1 w_1 H HA_1 => ?_)
  refine ls_nil ?_
  refine then_normal ?_
  refine fr_eq (b := ⟨#[x0, undef, x2, x0, x4, x5, x6, x7], []⟩) (by kernel_rfl) ?_
  refine wp_ret ?_
  obtain ⟨r2, hr2, H⟩ := ld_n Tryd.isAgg38 Tryd.sizeOf38 H
  exact endR (vs := [r2]) (Tryd.results14) (by kernel_rfl) ⟨⟨_, (by kernel_rfl), hr2⟩, trivial⟩ HA_1 H _ (.inr rfl)

end Go.Proofs.YtmhhjpfkipficaaDoor

end

section
/- The shallow reading of one function, and that the function does it. Written by a program. -/
set_option linter.unusedVariables false
namespace Go.Proofs.YtmhhjpfkipficaaDoor
open Go Go.HW

def screen_Screen_At_S (x0 x1 x2 : Value) (h : Heap) (R : Value → Heap → Prop) : Prop :=
  sNew h #[.int .i32 0, .int .i64 0, .int .i64 0, .int .i64 0] 31 fun x6 h => 
  sNil x0 fun x8 =>
  sOff x8 0 fun x9 =>
  sLd h x9 fun x10 =>
  grid_Grid_At_c x10 x1 x2 h fun x13 h_1 => 
  sStN h_1 x6 x13 4 fun h_2 => 
  sLdN h_2 x6 4 fun r6 =>
  R r6 h_2
set_option maxRecDepth 100000 in
theorem screen_Screen_At_runs {x0 x1 x2 : Value} {h : Heap} {R : Value → Heap → Prop} (H : screen_Screen_At_S x0 x1 x2 h R) : screen_Screen_At_c x0 x1 x2 h R := by
  unfold screen_Screen_At_S at H
  refine runs_of (b := ⟨#[x0, x1, x2, undef, undef, undef, undef, undef, undef, undef, undef, undef, undef, undef], []⟩) Tryd.call11 Tryd.func11 rfl (by kernel_rfl) (fun w0 HA => ?_)
  refine wp_seq ?_
  refine lwp_list ?_
  refine ls_d (d := some 6) (by kernel_rfl) (by kernel_rfl) HA (d_alloc Tryd.zeroValue31 H) (fun x6 h w H HA => ?_)
  refine ls_nil ?_
  refine then_normal ?_
  refine fr_eq (b := ⟨#[x0, x1, x2, undef, undef, undef, x6, undef, undef, undef, undef, undef, undef, undef], []⟩) (by kernel_rfl) ?_
  refine wp_seq ?_
  refine lwp_list ?_
  refine ls_move (x := x0) (by kernel_rfl) (by kernel_rfl) ?_
  refine ls_p (d := some 8) (by kernel_rfl) (by kernel_rfl) (p_nil (by kernel_rfl) H) (fun x8 H => ?_)
  refine ls_p (d := some 9) (by kernel_rfl) (by kernel_rfl) (p_off Tryd.underlying64 rfl (fun w => ⟨_, Tryd.sizeOf54 w⟩) rfl (by kernel_rfl) H) (fun x9 H => ?_)
  refine ls_y (d := some 10) (by kernel_rfl) (by kernel_rfl) HA (y_ld Tryd.isAgg54 (by kernel_rfl) H) (fun x10 H => ?_)
  refine ls_move (x := x1) (by kernel_rfl) (by kernel_rfl) ?_
  refine ls_move (x := x2) (by kernel_rfl) (by kernel_rfl) ?_
  refine ls_fr (b := ⟨#[x0, x1, x2, undef, undef, undef, x6, x0, x8, x9, x10, x1, x2, undef], []⟩) (by kernel_rfl) ?_
  refine ls_d (d := some 13) (by kernel_rfl) (by kernel_rfl) HA (d_call (by kernel_rfl) (by kernel_rfl) H) (fun x13 h_1 w_1 H HA_1 => ?_)
  refine ls_d (d := none) (by kernel_rfl) (by kernel_rfl) HA_1 (d_stn Tryd.sizeOf31 (by kernel_rfl) (by kernel_rfl) H) (fun _ h_2 w_2 H HA_2 => ?_)
  refine ls_nil ?_
  refine then_normal ?_
  refine fr_eq (b := ⟨#[x0, x1, x2, undef, undef, undef, x6, x0, x8, x9, x10, x1, x2, x13], []⟩) (by kernel_rfl) ?_
  refine wp_ret ?_
  obtain ⟨r6, hr6, H⟩ := ld_n Tryd.isAgg31 Tryd.sizeOf31 H
  exact endR (vs := [r6]) (Tryd.results11) (by kernel_rfl) ⟨⟨_, (by kernel_rfl), hr6⟩, trivial⟩ HA_2 H _ (.inr rfl)

end Go.Proofs.YtmhhjpfkipficaaDoor

end

section
/- The shallow reading of one function, and that the function does it. Written by a program. -/
set_option linter.unusedVariables false
namespace Go.Proofs.YtmhhjpfkipficaaDoor
open Go Go.HW

def screen_Screen_Off_S (x0 : Value) (h : Heap) (R : Value → Heap → Prop) : Prop :=
  sNil x0 fun x5 =>
  sOff x5 533 fun x6 =>
  sLd h x6 fun x7 =>
  sNil x0 fun x9 =>
  sOff x9 533 fun x10 =>
  sSt h x10 (.slice none 0 0) fun h => 
  R x7 h
set_option maxRecDepth 100000 in
theorem screen_Screen_Off_runs {x0 : Value} {h : Heap} {R : Value → Heap → Prop} (H : screen_Screen_Off_S x0 h R) : screen_Screen_Off_c x0 h R := by
  unfold screen_Screen_Off_S at H
  refine runs_of (b := ⟨#[x0, undef, undef, undef, undef, undef, undef, undef, undef, undef, undef, undef], []⟩) Tryd.call10 Tryd.func10 rfl (by kernel_rfl) (fun w0 HA => ?_)
  refine wp_seq ?_
  refine lwp_list ?_
  refine ls_assign (x := (.slice none 0 0)) (by kernel_rfl) (by kernel_rfl) ?_
  refine ls_nil ?_
  refine then_normal ?_
  refine fr_eq (b := ⟨#[x0, undef, (.slice none 0 0), undef, undef, undef, undef, undef, undef, undef, undef, undef], []⟩) (by kernel_rfl) ?_
  refine wp_seq ?_
  refine lwp_list ?_
  refine ls_move (x := x0) (by kernel_rfl) (by kernel_rfl) ?_
  refine ls_p (d := some 5) (by kernel_rfl) (by kernel_rfl) (p_nil (by kernel_rfl) H) (fun x5 H => ?_)
  refine ls_p (d := some 6) (by kernel_rfl) (by kernel_rfl) (p_off Tryd.underlying64 rfl (fun w => ⟨_, Tryd.sizeOf26 w⟩) rfl (by kernel_rfl) H) (fun x6 H => ?_)
  refine ls_y (d := some 7) (by kernel_rfl) (by kernel_rfl) HA (y_ld Tryd.isAgg26 (by kernel_rfl) H) (fun x7 H => ?_)
  refine ls_assign (x := x7) (by kernel_rfl) (by kernel_rfl) ?_
  refine ls_nil ?_
  refine then_normal ?_
  refine fr_eq (b := ⟨#[x0, undef, (.slice none 0 0), x7, x0, x5, x6, x7, undef, undef, undef, undef], []⟩) (by kernel_rfl) ?_
  refine wp_seq ?_
  refine lwp_list ?_
  refine ls_move (x := x0) (by kernel_rfl) (by kernel_rfl) ?_
  refine ls_p (d := some 9) (by kernel_rfl) (by kernel_rfl) (p_nil (by kernel_rfl) H) (fun x9 H => ?_)
  refine ls_p (d := some 10) (by kernel_rfl) (by kernel_rfl) (p_off Tryd.underlying64 rfl (fun w => ⟨_, Tryd.sizeOf26 w⟩) rfl (by kernel_rfl) H) (fun x10 H => ?_)
  refine ls_d (d := none) (by kernel_rfl) (by kernel_rfl) HA (d_st Tryd.sizeOf26 (by kernel_rfl) (by kernel_rfl) H) (fun _ h w H HA => ?_)
  refine ls_nil ?_
  refine then_normal ?_
  refine fr_eq (b := ⟨#[x0, undef, (.slice none 0 0), x7, x0, x5, x6, x7, x0, x9, x10, undef], []⟩) (by kernel_rfl) ?_
  refine wp_seq ?_
  refine lwp_list ?_
  refine ls_move (x := x7) (by kernel_rfl) (by kernel_rfl) ?_
  refine ls_assign (x := x7) (by kernel_rfl) (by kernel_rfl) ?_
  refine ls_nil ?_
  refine then_normal ?_
  refine fr_eq (b := ⟨#[x0, undef, x7, x7, x0, x5, x6, x7, x0, x9, x10, x7], []⟩) (by kernel_rfl) ?_
  refine wp_ret ?_
  exact end1 (Tryd.results10) (by kernel_rfl) (by kernel_rfl) HA H _ (.inr rfl)

end Go.Proofs.YtmhhjpfkipficaaDoor

end

section
/- Screens: the state, and what the inner functions come to. -/
set_option linter.unusedSimpArgs false
set_option linter.unusedVariables false
namespace Go.Proofs.YtmhhjpfkipficaaDoor
open Go Go.HW

structure Sc where
  w : Int
  g : Int
  x : Int
  y : Int
  late : Bool
  pf : Int
  pb : Int
  pg : Int
  org : Bool
  x' : Int
  y' : Int
  late' : Bool
  pf' : Int
  pb' : Int
  pg' : Int
  org' : Bool
  wrap : Bool
  ins : Bool
  top : Int
  bot : Int
  st : List Bool
def scH (m : Sc) (kg : Nat) : List Value := [ptr kg 0, .int .i64 m.w, .int .i64 m.g, .int .i64 m.x, .int .i64 m.y, .bool m.late, .int .i64 m.pf, .int .i64 m.pb, .int .i64 m.pg, .bool m.org, .int .i64 m.x', .int .i64 m.y', .bool m.late', .int .i64 m.pf', .int .i64 m.pb', .int .i64 m.pg', .bool m.org', .bool m.wrap, .bool m.ins, .int .i64 m.top, .int .i64 m.bot]
def scL (m : Sc) (kg : Nat) (ov : Value) : List Value := scH m kg ++ (m.st.map Value.bool ++ [ov])
theorem sc_len (m : Sc) (kg : Nat) (ov : Value) : (scL m kg ov).length = m.st.length + 22 := by simp [scL, scH]
abbrev Cel := Int → Int → Ce
def Scr (k : Nat) (m : Sc) (C : Cel) (off : List (List Ce)) : HP := HP.ex fun p : (Nat × Value) × {rs : List (CV × List Ce) // rs.map (·.2) = off ∧ m.st.length = 512} => HP.all [Blk k (scL m p.1.1 p.1.2).toArray 64, Gc p.1.1 m.w m.g C, Sl encCV 1 p.1.2 (p.2.1.map (·.1)), rowsP p.2.1]
def upF (C : Cel) (w g top bot n : Int) (bl : Ce) : Cel := fun x y => if inG w g x y = true ∧ top ≤ y ∧ y ≤ bot then (if y + n ≤ bot then C x (y + n) else bl) else C x y
def Sc.bl (m : Sc) : Ce := ⟨0, 0, m.pb, 0⟩
def mnI (a b : Int) : Int := if b < a then b else a
def mxI (a b : Int) : Int := if a < b then b else a
def withI (n low high : Int) : Int := mnI (mxI n low) high

section
variable {h0 h : Heap} {F : List HP} {R : Value → Heap → Prop} {k kg : Nat} {m : Sc} {C : Cel} {off : List (List Ce)}
theorem Sopen (z : HW.Sep h0 (Scr k m C off :: F) h) : ∃ kg ov, ∃ rs : List (CV × List Ce), rs.map (·.2) = off ∧ m.st.length = 512 ∧ HW.Sep h0 (Blk k (scL m kg ov).toArray 64 :: Gc kg m.w m.g C :: Sl encCV 1 ov (rs.map (·.1)) :: rowsP rs :: F) h := by
  obtain ⟨⟨⟨kg, ov⟩, ⟨rs, e, es⟩⟩, s⟩ := z.open_ex
  exact ⟨kg, ov, rs, e, es, s.open_all⟩
theorem Sshut {ov : Value} {rs : List (CV × List Ce)} (e : rs.map (·.2) = off) (es : m.st.length = 512) (s : HW.Sep h0 (Blk k (scL m kg ov).toArray 64 :: Gc kg m.w m.g C :: Sl encCV 1 ov (rs.map (·.1)) :: rowsP rs :: F) h) : HW.Sep h0 (Scr k m C off :: F) h :=
  Sep.shut_ex (A := fun p : (Nat × Value) × {rs : List (CV × List Ce) // rs.map (·.2) = off ∧ m.st.length = 512} => HP.all [Blk k (scL m p.1.1 p.1.2).toArray 64, Gc p.1.1 m.w m.g C, Sl encCV 1 p.1.2 (p.2.1.map (·.1)), rowsP p.2.1]) ⟨(kg, ov), ⟨rs, e, es⟩⟩ (Sep.shut_all (L := [_, _, _, _]) s)
theorem stL {b o t : Nat} {l : List Value} {v : Value} {K : Heap → Prop} (s : HW.Sep h0 (Blk b l.toArray t :: F) h) (ho : o < l.length) (h3 : Cell1 v) (H : ∀ h', HW.Sep h0 (Blk b (l.set o v).toArray t :: F) h' → K h') : sSt h (ptr b o) v K :=
  s.st (by simpa using ho) h3 (fun h' s' => H h' (by simpa using s'))
theorem ldL {b o t : Nat} {l : List Value} {v : Value} {K : Value → Prop} (b' : h.has b l.toArray t) (hv : l[o]? = some v) : sLd h (ptr b o) K = K v := ev_ld_has b' (by rw [List.getElem?_toArray]; exact hv)
theorem mld {o : Nat} {v : Value} {K : Value → Prop} (z : HW.Sep h0 (Scr k m C off :: F) h) (hv : ∀ kg ov, (scL m kg ov)[o]? = some v) : sLd h (ptr k o) K = K v := by
  obtain ⟨kg, ov, rs, e, es, so⟩ := Sopen z
  exact ldL so.has (hv kg ov)
theorem mst {o : Nat} {v : Value} {m' : Sc} {K : Heap → Prop} (z : HW.Sep h0 (Scr k m C off :: F) h) (ho : o < 21) (hv : Cell1 v) (e : ∀ kg ov, (scL m kg ov).set o v = scL m' kg ov) (ew : m'.w = m.w) (eg : m'.g = m.g) (es : m'.st = m.st) (HK : ∀ h', HW.Sep h0 (Scr k m' C off :: F) h' → K h') : sSt h (ptr k o) v K := by
  obtain ⟨kg, ov, rs, e', es', so⟩ := Sopen z
  refine stL so (by rw [sc_len]; omega) hv (fun h' s' => HK h' ?_)
  rw [e] at s'
  have s2 : HW.Sep h0 (Blk k (scL m' kg ov).toArray 64 :: Gc kg m'.w m'.g C :: Sl encCV 1 ov (rs.map (·.1)) :: rowsP rs :: F) h' := by rw [ew, eg]; exact s'
  exact Sshut e' (by rw [es]; exact es') s2
theorem Ssz (z : HW.Sep h0 (Scr k m C off :: F) h) : (1 ≤ m.w ∧ m.w ≤ 512) ∧ (1 ≤ m.g ∧ m.g ≤ 512) := by
  obtain ⟨kg, ov, rs, e, es, so⟩ := Sopen z
  exact Gsz so.b1
theorem Sout (z : HW.Sep h0 (Scr k m C off :: F) h) {x y : Int} (hn : ¬ inG m.w m.g x y = true) : C x y = ce0 := by
  obtain ⟨kg, ov, rs, e, es, so⟩ := Sopen z
  exact Gout so.b1 hn
theorem cur_spec (H : R (ptr k 3) h) : screen_Screen_cur_c (ptr k 0) h R := by
  apply screen_Screen_cur_runs
  unfold screen_Screen_cur_S
  simp only [ev_nil, ev_off, Nat.zero_add, Nat.add_zero]
  exact H
theorem within_i {n low high : Int} (H : R (.int .i64 (withI n low high)) h) : screen_within_c (.int .i64 n) (.int .i64 low) (.int .i64 high) h R := by
  apply screen_within_runs
  unfold screen_within_S
  rw [ev_max, ev_min]
  exact H
theorem add_i {n d far : Int} (hf : 0 ≤ far ∧ far ≤ 1000) (hn : -100000 ≤ n ∧ n ≤ 100000) (H : R (.int .i64 (n + withI d (-far) far)) h) : screen_add_c (.int .i64 n) (.int .i64 d) (.int .i64 far) h R := by
  apply screen_add_runs
  unfold screen_add_S
  rw [ev_neg, show (0 : Int) - far = -far by omega, wrap_i64 (by omega) (by omega)]
  refine within_i ?_
  have : -1000 ≤ withI d (-far) far ∧ withI d (-far) far ≤ 1000 := by unfold withI mnI mxI; split <;> split <;> omega
  rw [ev_add, wrap_i64 (by omega) (by omega)]
  exact H
theorem blank_b {ov : Value} (b : h.has k (scL m kg ov).toArray 64) (H : ∀ h', Ext h h' → R (.agg m.bl.a) h') : screen_Screen_blank_c (ptr k 0) h R := by
  apply screen_Screen_blank_runs
  unfold screen_Screen_blank_S
  refine (HW.Sep.start h).new (fun k2 h1 s1 => ?_)
  have f7 : ∀ {K : Value → Prop}, sLd h1 (ptr k 7) K = K (.int .i64 m.pb) := ldL (s1.ext.has b) rfl
  simp only [ev_nil, ev_off, Nat.zero_add, Nat.add_zero, f7]
  refine build_intro (cs := #[.int .i64 0, .int .i64 m.pb, .int .i64 0]) ⟨rfl, Nat.le_of_ble_eq_true rfl, rfl⟩ ?_
  refine build_intro (cs := m.bl.a) ⟨rfl, Nat.le_of_ble_eq_true rfl, rfl⟩ ?_
  refine s1.stall (cs := m.bl.a) rfl rfl (ce_cell _) (fun h2 s2 => ?_)
  rw [s2.ldall (n := 4) rfl]
  exact H h2 s2.ext
theorem up_eq {w g top bot n : Int} {bl : Ce} (hw : 1 ≤ w ∧ w ≤ 512) (hg : 1 ≤ g ∧ g ≤ 512) (ht : 0 ≤ top ∧ bot < g) (hn : 1 ≤ n ∧ n ≤ bot - top + 1) (ho : ∀ x y, ¬ inG w g x y = true → C x y = ce0) : fillF (copyF C w g ⟨0, top + n, w, bot - top + 1 - n⟩ 0 top) w g ⟨0, bot + 1 - n, w, n⟩ bl = upF C w g top bot n bl := by
  funext x y
  have hr : (⟨0, bot + 1 - n, w, n⟩ : Rc).right = true := (Rc.right_iff _).2 (by unfold Rc.Ok; simp only; omega)
  unfold fillF copyF upF Rc.has
  rw [hr]
  simp only [true_and, Int.zero_add, Int.add_zero, Int.sub_zero]
  by_cases hi : inG w g x y = true
  · have h2 := inG_iff.1 hi
    by_cases hy : top ≤ y ∧ y ≤ bot
    · by_cases hb : y + n ≤ bot
      · rw [if_neg (by omega), if_pos (by omega), if_pos ⟨hi, hy⟩, if_pos hb]
        congr 1; omega
      · rw [if_pos ⟨by omega, hi⟩, if_pos ⟨hi, hy⟩, if_neg hb]
    · rw [if_neg (by omega), if_neg (by omega), if_neg (fun h => hy h.2)]
  · rw [if_neg (fun h => hi h.2)]
    rw [if_neg (show ¬(inG w g x y = true ∧ top ≤ y ∧ y ≤ bot) from fun h => hi h.1)]
    split
    · rename_i hh
      exact (hi (inG_iff.2 ⟨by omega, by omega⟩)).elim
    · rfl
theorem up_spec {top n : Int} (z : HW.Sep h0 (Scr k m C off :: F) h) (ht : 0 ≤ top ∧ top ≤ m.bot ∧ m.bot < m.g) (H : ∀ h', HW.Sep h0 (Scr k m (if mnI n (m.bot - top + 1) < 1 then C else upF C m.w m.g top m.bot (mnI n (m.bot - top + 1)) m.bl) off :: F) h' → R unit h') : screen_Screen_up_c (ptr k 0) (.int .i64 top) (.int .i64 n) h R := by
  apply screen_Screen_up_runs
  unfold screen_Screen_up_S
  have sz := Ssz z
  have ho := fun x y => Sout z (x := x) (y := y)
  obtain ⟨kg, ov, rs, e, es, so⟩ := Sopen z
  have b := so.has
  have f20 : ∀ {K : Value → Prop}, sLd h (ptr k 20) K = K (.int .i64 m.bot) := ldL b rfl
  have f0 : ∀ {K : Value → Prop}, sLd h (ptr k 0) K = K (ptr kg 0) := ldL b rfl
  have f1 : ∀ {K : Value → Prop}, sLd h (ptr k 1) K = K (.int .i64 m.w) := ldL b rfl
  simp only [ev_nil, ev_off, Nat.zero_add, Nat.add_zero, f20, f0, f1, ev_sub]
  rw [wrap_i64 (by omega) (by omega), ev_add, wrap_i64 (by omega) (by omega), ev_min]
  rw [show (if m.bot - top + 1 < n then m.bot - top + 1 else n) = mnI n (m.bot - top + 1) from rfl]
  have hmn : mnI n (m.bot - top + 1) ≤ m.bot - top + 1 := by unfold mnI; split <;> omega
  generalize mnI n (m.bot - top + 1) = q at H hmn ⊢
  rw [ev_lt, ev_if]
  by_cases hq : q < 1
  · rw [if_pos hq] at H
    rw [if_pos (decide_eq_true hq)]
    exact H h (Sshut e es so)
  rw [if_neg hq] at H
  rw [if_neg (by simpa using hq), ev_add, wrap_i64 (by omega) (by omega), ev_add, wrap_i64 (by omega) (by omega), ev_sub, wrap_i64 (by omega) (by omega)]
  refine build_intro (cs := (⟨0, top + q, m.w, m.bot - top + 1 - q⟩ : Rc).c) ⟨rfl, Nat.le_of_ble_eq_true rfl, rfl, Nat.le_of_ble_eq_true rfl, rfl, Nat.le_of_ble_eq_true rfl, rfl⟩ ?_
  refine gcopy_spec (r := ⟨0, top + q, m.w, m.bot - top + 1 - q⟩) so.b1 (by simp only; omega) (by simp only; omega) (by simp only; omega) (fun n1 h1 s1 => ?_)
  have b1 : h1.has k (scL m kg ov).toArray 64 := s1.b1.has
  have cc : ∀ {o : Nat} {u : Value} {K : Value → Prop}, (scL m kg ov)[o]? = some u → sLdC (fun h' => h'.has k (scL m kg ov).toArray 64) (ptr k o) K = K u := fun hv => ldc_at (C := fun h' => h'.has k (scL m kg ov).toArray 64) (h0 := h1) b1 (fun h' e => by rw [e.at, List.getElem?_toArray, hv])
  refine ⟨fun h' => h'.has k (scL m kg ov).toArray 64, b1, ?_⟩
  rw [cc (o := 0) (u := ptr kg 0) rfl, cc (o := 20) (u := .int .i64 m.bot) rfl, ev_add, wrap_i64 (by omega) (by omega), ev_sub, wrap_i64 (by omega) (by omega), cc (o := 1) (u := .int .i64 m.w) rfl]
  refine build_intro (cs := (⟨0, m.bot + 1 - q, m.w, q⟩ : Rc).c) ⟨rfl, Nat.le_of_ble_eq_true rfl, rfl, Nat.le_of_ble_eq_true rfl, rfl, Nat.le_of_ble_eq_true rfl, rfl⟩ ?_
  refine blank_b b1 (fun h2 e2 => ⟨e2.has b1, ?_⟩)
  refine gfill_spec (r := ⟨0, m.bot + 1 - q, m.w, q⟩) (s1.ext' e2) (fun n2 h3 s3 => H h3 (Sshut (kg := kg) (ov := ov) e es ?_))
  rw [up_eq sz.1 sz.2 (by omega) (by omega) ho] at s3
  exact s3.b1
end
end Go.Proofs.YtmhhjpfkipficaaDoor

end
