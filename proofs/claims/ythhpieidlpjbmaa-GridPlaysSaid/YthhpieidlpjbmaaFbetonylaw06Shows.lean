/- The shallow reading of one function, and that the function does it. Written by a program. -/
import Derived.Test.YthhpieidlpjbmaaFnC
set_option linter.unusedVariables false
namespace Go.Proofs.Ythhpieidlpjbmaa
open Go Go.HW

def betonylaw06_Shows_l1 (R : Value → Heap → Prop) (x0 x3 x11 x12 : Value) (next : Value → Heap → Prop) (x7 : Value) (h_2 : Heap) : Prop :=
  sLt x7 x12 fun x25 =>
  sIf x25 (∃ C : Heap → Prop, C h_2 ∧ (grid_Grid_Row_c x0 x7 h_2 fun x30 h_3 => C h_3 ∧ (
  sOff x3 2 fun x31 =>
  sLdC C x31 fun x32 =>
  sMul .i64 x7 x11 fun x35 =>
  sAdd .i64 x7 (.int .i64 1) fun x37 =>
  sMul .i64 x37 x11 fun x39 =>
  sSl x32 (some x35) (some x39) 4 fun x40 =>
  betonyref06_Same_c x30 x40 h_3 fun x41 h_4 => 
  sNot x41 fun x42 =>
  sIf x42 (R (.int .i64 2) h_4) (sAdd .i64 x7 (.int .i64 1) fun x27 =>
  next x27 h_4)))) (R (.int .i64 0) h_2)
def betonylaw06_Shows_S (x0 x1 : Value) (h : Heap) (R : Value → Heap → Prop) : Prop :=
  sBox h x1 37 fun x3 h => 
  grid_Grid_Size_c x0 h fun x10 h_1 => 
  sTup x10 0 fun x11 =>
  sTup x10 1 fun x12 =>
  sOff x3 0 fun x14 =>
  sLd h_1 x14 fun x15 =>
  sNe x11 x15 fun x16 =>
  sOr x16 (fun k =>
  sOff x3 1 fun x19 =>
  sLd h_1 x19 fun x20 =>
  sNe x12 x20 fun x21 =>
  k x21) fun x22 =>
  sIf x22 (R (.int .i64 1) h_1) (sLoop (S := Value) (fun nxt s h => betonylaw06_Shows_l1 R x0 x3 x11 x12 (fun x7' h => nxt x7' h) s h) (.int .i64 0) h_1)
set_option maxRecDepth 100000 in
theorem betonylaw06_Shows_runs {x0 x1 : Value} {h : Heap} {R : Value → Heap → Prop} (H : betonylaw06_Shows_S x0 x1 h R) : betonylaw06_Shows_c x0 x1 h R := by
  unfold betonylaw06_Shows_S at H
  refine runs_of (b := ⟨#[x0, x1, undef, undef, undef, undef, undef, undef, undef, undef, undef, undef, undef, undef, undef, undef, undef, undef, undef, undef, undef, undef, undef, undef, undef, undef, undef, undef, undef, undef, undef, undef, undef, undef, undef, undef, undef, undef, undef, undef, undef, undef, undef], []⟩) Try.call24 Try.func24 rfl (by kernel_rfl) (fun w0 HA => ?_)
  refine wp_seq ?_
  refine lwp_list ?_
  refine ls_d (d := some 3) (by kernel_rfl) (by kernel_rfl) HA (d_box (by kernel_rfl) H) (fun x3 h w H HA => ?_)
  refine ls_assign (x := (.int .i64 0)) (by kernel_rfl) (by kernel_rfl) ?_
  refine ls_nil ?_
  refine then_normal ?_
  refine fr_eq (b := ⟨#[x0, x1, undef, x3, (.int .i64 0), undef, undef, undef, undef, undef, undef, undef, undef, undef, undef, undef, undef, undef, undef, undef, undef, undef, undef, undef, undef, undef, undef, undef, undef, undef, undef, undef, undef, undef, undef, undef, undef, undef, undef, undef, undef, undef, undef], []⟩) (by kernel_rfl) ?_
  refine wp_seq ?_
  refine lwp_list ?_
  refine ls_move (x := x0) (by kernel_rfl) (by kernel_rfl) ?_
  refine ls_d (d := some 10) (by kernel_rfl) (by kernel_rfl) HA (d_call (by kernel_rfl) (by kernel_rfl) H) (fun x10 h_1 w_1 H HA_1 => ?_)
  refine ls_move (x := x10) (by kernel_rfl) (by kernel_rfl) ?_
  refine ls_p (d := some 11) (by kernel_rfl) (by kernel_rfl) (p_tup (by kernel_rfl) H) (fun x11 H => ?_)
  refine ls_p (d := some 12) (by kernel_rfl) (by kernel_rfl) (p_tup (by kernel_rfl) H) (fun x12 H => ?_)
  refine ls_assign (x := x11) (by kernel_rfl) (by kernel_rfl) ?_
  refine ls_fr (b := ⟨#[x0, x1, undef, x3, (.int .i64 0), x11, undef, undef, x10, x0, x10, x11, x12, undef, undef, undef, undef, undef, undef, undef, undef, undef, undef, undef, undef, undef, undef, undef, undef, undef, undef, undef, undef, undef, undef, undef, undef, undef, undef, undef, undef, undef, undef], []⟩) (by kernel_rfl) ?_
  refine ls_assign (x := x12) (by kernel_rfl) (by kernel_rfl) ?_
  refine ls_nil ?_
  refine then_normal ?_
  refine fr_eq (b := ⟨#[x0, x1, undef, x3, (.int .i64 0), x11, x12, undef, x10, x0, x10, x11, x12, undef, undef, undef, undef, undef, undef, undef, undef, undef, undef, undef, undef, undef, undef, undef, undef, undef, undef, undef, undef, undef, undef, undef, undef, undef, undef, undef, undef, undef, undef], []⟩) (by kernel_rfl) ?_
  refine wp_seq ?_
  refine wp_seq ?_
  refine lwp_list ?_
  refine ls_move (x := x11) (by kernel_rfl) (by kernel_rfl) ?_
  refine ls_p (d := some 14) (by kernel_rfl) (by kernel_rfl) (p_off Try.underlying37 rfl (fun w => ⟨_, Try.sizeOf3 w⟩) rfl (by kernel_rfl) H) (fun x14 H => ?_)
  refine ls_y (d := some 15) (by kernel_rfl) (by kernel_rfl) HA_1 (y_ld Try.isAgg3 (by kernel_rfl) H) (fun x15 H => ?_)
  refine ls_p (d := some 16) (by kernel_rfl) (by kernel_rfl) (p_sNe (by kernel_rfl) (by kernel_rfl) H) (fun x16 H => ?_)
  refine ls_move (x := x16) (by kernel_rfl) (by kernel_rfl) ?_
  refine ls_or [(), (), (), (), ()] (fun K a w => ∃ (D : Nat → Value) (x22 : Value), a = ⟨#[x0, x1, undef, x3, (.int .i64 0), x11, x12, undef, x10, x0, x10, x11, x12, x11, x14, x15, x16, x16, (D 0), (D 1), (D 2), (D 3), x22, undef, undef, undef, undef, undef, undef, undef, undef, undef, undef, undef, undef, undef, undef, undef, undef, undef, undef, undef, undef], []⟩ ∧ At w0 w h_1 ∧ K x22) H (fun hb H => ?_) (fun hb H => ?_) ?_
  · refine ls_move (x := x12) (by rw [hb]; kernel_rfl) (by kernel_rfl) ?_
    refine ls_fr (b := ⟨#[x0, x1, undef, x3, (.int .i64 0), x11, x12, undef, x10, x0, x10, x11, x12, x11, x14, x15, x16, x16, x12, undef, undef, undef, undef, undef, undef, undef, undef, undef, undef, undef, undef, undef, undef, undef, undef, undef, undef, undef, undef, undef, undef, undef, undef], []⟩) (by kernel_rfl) ?_
    refine ls_p (d := some 19) (by kernel_rfl) (by rw [hb]; kernel_rfl) (p_off Try.underlying37 rfl (fun w => ⟨_, Try.sizeOf3 w⟩) rfl (by kernel_rfl) H) (fun x19 H => ?_)
    refine ls_y (d := some 20) (by kernel_rfl) (by rw [hb]; kernel_rfl) HA_1 (y_ld Try.isAgg3 (by kernel_rfl) H) (fun x20 H => ?_)
    refine ls_p (d := some 21) (by kernel_rfl) (by rw [hb]; kernel_rfl) (p_sNe (by kernel_rfl) (by kernel_rfl) H) (fun x21 H => ?_)
    refine ls_pick_f (y := x21) (by kernel_rfl) (by rw [hb]; kernel_rfl) (by kernel_rfl) ?_
    refine ls_nil ?_
    refine then_normal ?_
    exact ⟨(fun i => ([x12, x19, x20, x21]).getD i undef), x21, by kernel_rfl, HA_1, H⟩
  · refine ls_skip (d := some 18) (by kernel_rfl) (by rw [hb]; kernel_rfl) ?_
    refine ls_fr (b := ⟨#[x0, x1, undef, x3, (.int .i64 0), x11, x12, undef, x10, x0, x10, x11, x12, x11, x14, x15, x16, x16, undef, undef, undef, undef, undef, undef, undef, undef, undef, undef, undef, undef, undef, undef, undef, undef, undef, undef, undef, undef, undef, undef, undef, undef, undef], []⟩) (by kernel_rfl) ?_
    refine ls_skip (d := some 19) (by kernel_rfl) (by rw [hb]; kernel_rfl) ?_
    refine ls_skip (d := some 20) (by kernel_rfl) (by rw [hb]; kernel_rfl) ?_
    refine ls_skip (d := some 21) (by kernel_rfl) (by rw [hb]; kernel_rfl) ?_
    refine ls_pick_t (x := (.bool true)) (by kernel_rfl) (by rw [hb]; kernel_rfl) (by kernel_rfl) ?_
    refine ls_nil ?_
    refine then_normal ?_
    exact ⟨(fun i => ([undef, undef, undef, undef]).getD i undef), (.bool true), by kernel_rfl, HA_1, H⟩
  · rintro _ w_2 ⟨D, x22, rfl, HA_2, H⟩
    refine ls_nil ?_
    refine then_normal ?_
    refine fr_eq (b := ⟨#[x0, x1, undef, x3, (.int .i64 0), x11, x12, undef, x10, x0, x10, x11, x12, x11, x14, x15, x16, x16, (D 0), (D 1), (D 2), (D 3), x22, undef, undef, undef, undef, undef, undef, undef, undef, undef, undef, undef, undef, undef, undef, undef, undef, undef, undef, undef, undef], []⟩) (by kernel_rfl) ?_
    refine wp_if rfl H (fun H => ?_) (fun H => ?_)
    · refine wp_seq ?_
      refine lwp_list ?_
      refine ls_assign (x := (.int .i64 1)) (by kernel_rfl) (by kernel_rfl) ?_
      refine ls_nil ?_
      refine then_normal ?_
      refine fr_eq (b := ⟨#[x0, x1, undef, x3, (.int .i64 1), x11, x12, undef, x10, x0, x10, x11, x12, x11, x14, x15, x16, x16, (D 0), (D 1), (D 2), (D 3), x22, undef, undef, undef, undef, undef, undef, undef, undef, undef, undef, undef, undef, undef, undef, undef, undef, undef, undef, undef, undef], []⟩) (by kernel_rfl) ?_
      refine wp_ret ?_
      refine then_ret ?_
      exact end1 (Try.results24) (by kernel_rfl) (by kernel_rfl) HA_2 H _ (.inr rfl)
    · refine wp_skip ?_
      refine then_normal ?_
      refine fr_eq (b := ⟨#[x0, x1, undef, x3, (.int .i64 0), x11, x12, undef, x10, x0, x10, x11, x12, x11, x14, x15, x16, x16, (D 0), (D 1), (D 2), (D 3), x22, undef, undef, undef, undef, undef, undef, undef, undef, undef, undef, undef, undef, undef, undef, undef, undef, undef, undef, undef, undef], []⟩) (by kernel_rfl) ?_
      refine wp_seq ?_
      refine wp_seq ?_
      refine lwp_list ?_
      refine ls_assign (x := (.int .i64 0)) (by kernel_rfl) (by kernel_rfl) ?_
      refine ls_nil ?_
      refine then_normal ?_
      refine fr_eq (b := ⟨#[x0, x1, undef, x3, (.int .i64 0), x11, x12, (.int .i64 0), x10, x0, x10, x11, x12, x11, x14, x15, x16, x16, (D 0), (D 1), (D 2), (D 3), x22, undef, undef, undef, undef, undef, undef, undef, undef, undef, undef, undef, undef, undef, undef, undef, undef, undef, undef, undef, undef], []⟩) (by kernel_rfl) ?_
      refine wp_block ?_
      obtain ⟨I, m, H0, HB⟩ := H
      refine wp_loop (fun a w => ∃ (D_1 : Nat → Value) (x7 : Value) (h_2 : Heap), a = ⟨#[x0, x1, undef, x3, (D_1 0), x11, x12, x7, x10, x0, x10, x11, x12, x11, x14, x15, x16, x16, (D 0), (D 1), (D 2), (D 3), x22, (D_1 1), (D_1 2), (D_1 3), (D_1 4), (D_1 5), (D_1 6), (D_1 7), (D_1 8), (D_1 9), (D_1 10), (D_1 11), (D_1 12), (D_1 13), (D_1 14), (D_1 15), (D_1 16), (D_1 17), (D_1 18), (D_1 19), (D_1 20)], []⟩ ∧ At w0 w h_2 ∧ I x7 h_2) (fun a w => m (a.tmps.getD 7 undef) w.heap) ?_ ?_
      · exact ⟨(fun i => ([(.int .i64 0), undef, undef, undef, undef, undef, undef, undef, undef, undef, undef, undef, undef, undef, undef, undef, undef, undef, undef, undef, undef]).getD i undef), (.int .i64 0), h_1, by kernel_rfl, HA_2, H0⟩
      · rintro _ w_3 ⟨D_1, x7, h_2, rfl, HA_3, HI⟩
        have H : betonylaw06_Shows_l1 R x0 x3 x11 x12 (fun x7' h' => I x7' h' ∧ m x7' h' < m x7 h_2) x7 h_2 := HB x7 h_2 HI
        clear HB H0 HI
        unfold betonylaw06_Shows_l1 at H
        refine wp_seq ?_
        refine wp_seq ?_
        refine lwp_list ?_
        refine ls_move (x := x7) (by kernel_rfl) (by kernel_rfl) ?_
        refine ls_move (x := x12) (by kernel_rfl) (by kernel_rfl) ?_
        refine ls_p (d := some 25) (by kernel_rfl) (by kernel_rfl) (p_sLt (by kernel_rfl) (by kernel_rfl) H) (fun x25 H => ?_)
        refine ls_nil ?_
        refine then_normal ?_
        refine fr_eq (b := ⟨#[x0, x1, undef, x3, (D_1 0), x11, x12, x7, x10, x0, x10, x11, x12, x11, x14, x15, x16, x16, (D 0), (D 1), (D 2), (D 3), x22, x7, x12, x25, (D_1 4), (D_1 5), (D_1 6), (D_1 7), (D_1 8), (D_1 9), (D_1 10), (D_1 11), (D_1 12), (D_1 13), (D_1 14), (D_1 15), (D_1 16), (D_1 17), (D_1 18), (D_1 19), (D_1 20)], []⟩) (by kernel_rfl) ?_
        refine wp_if rfl H (fun H => ?_) (fun H => ?_)
        · refine wp_skip ?_
          refine then_normal ?_
          refine fr_eq (b := ⟨#[x0, x1, undef, x3, (D_1 0), x11, x12, x7, x10, x0, x10, x11, x12, x11, x14, x15, x16, x16, (D 0), (D 1), (D 2), (D 3), x22, x7, x12, x25, (D_1 4), (D_1 5), (D_1 6), (D_1 7), (D_1 8), (D_1 9), (D_1 10), (D_1 11), (D_1 12), (D_1 13), (D_1 14), (D_1 15), (D_1 16), (D_1 17), (D_1 18), (D_1 19), (D_1 20)], []⟩) (by kernel_rfl) ?_
          refine wp_seq ?_
          refine wp_block ?_
          refine wp_seq ?_
          obtain ⟨C, HC, H⟩ := H
          refine lwp_mx (Nat.testBit 8196) (Nat.testBit 4) (Nat.testBit 24555) [0, 0, 3, 0, 8, 0, 0, 96, 0, 256, 0, 1792, 4088, 8191, 16383] (Nat.testBit 0) C [0, 1, 2, 3, 4, 5, 6, 7, 8, 9, 10, 11, 12, 13, 14] (by kernel_rfl) (by kernel_rfl) (by kernel_rfl) (by kernel_rfl) HA_3 HC ?_
          intro w_4 HA_4
          refine lm_al (x := x0) (d := some 28) (by kernel_rfl) rfl (by kernel_rfl) (by kernel_rfl) (al_move (by kernel_rfl)) ?_
          refine lm_al (x := x7) (d := some 29) (by kernel_rfl) rfl (by kernel_rfl) (by kernel_rfl) (al_move (by kernel_rfl)) ?_
          refine lm_dc (d := some 30) (by kernel_rfl) rfl (by kernel_rfl) (by kernel_rfl) (by kernel_rfl) HA_4 (d_call (by kernel_rfl) (by kernel_rfl) H) (fun x30 h_3 w_5 H HA_5 => ?_)
          refine lm_p (d := some 31) (by kernel_rfl) rfl (by kernel_rfl) (by kernel_rfl) (p_off Try.underlying37 rfl (fun w => ⟨_, Try.sizeOf35 w⟩) rfl (by kernel_rfl) H) (fun x31 H => ?_)
          refine lm_f (d := some 32) (by kernel_rfl) rfl (by kernel_rfl) (by kernel_rfl) (by kernel_rfl) (by kernel_rfl) (c_ld Try.isAgg35 (by kernel_rfl) H) (fun x32 H => ?_)
          refine lm_al (x := x7) (d := some 33) (by kernel_rfl) rfl (by kernel_rfl) (by kernel_rfl) (al_move (by kernel_rfl)) ?_
          refine lm_fr (b := ⟨#[x0, x1, undef, x3, (D_1 0), x11, x12, x7, x10, x0, x10, x11, x12, x11, x14, x15, x16, x16, (D 0), (D 1), (D 2), (D 3), x22, x7, x12, x25, (D_1 4), (D_1 5), x0, x7, x30, x31, x32, x7, (D_1 12), (D_1 13), (D_1 14), (D_1 15), (D_1 16), (D_1 17), (D_1 18), (D_1 19), (D_1 20)], []⟩) (by kernel_rfl) ?_
          refine lm_al (x := x11) (d := some 34) (by kernel_rfl) rfl (by kernel_rfl) (by kernel_rfl) (al_move (by kernel_rfl)) ?_
          refine lm_p (d := some 35) (by kernel_rfl) rfl (by kernel_rfl) (by kernel_rfl) (p_mul (by kernel_rfl) (by kernel_rfl) H) (fun x35 H => ?_)
          refine lm_al (x := x7) (d := some 36) (by kernel_rfl) rfl (by kernel_rfl) (by kernel_rfl) (al_move (by kernel_rfl)) ?_
          refine lm_p (d := some 37) (by kernel_rfl) rfl (by kernel_rfl) (by kernel_rfl) (p_add (by kernel_rfl) (by kernel_rfl) H) (fun x37 H => ?_)
          refine lm_al (x := x11) (d := some 38) (by kernel_rfl) rfl (by kernel_rfl) (by kernel_rfl) (al_move (by kernel_rfl)) ?_
          refine lm_p (d := some 39) (by kernel_rfl) rfl (by kernel_rfl) (by kernel_rfl) (p_mul (by kernel_rfl) (by kernel_rfl) H) (fun x39 H => ?_)
          refine lm_fr (b := ⟨#[x0, x1, undef, x3, (D_1 0), x11, x12, x7, x10, x0, x10, x11, x12, x11, x14, x15, x16, x16, (D 0), (D 1), (D 2), (D 3), x22, x7, x12, x25, (D_1 4), (D_1 5), x0, x7, x30, x31, x32, x7, x11, x35, x7, x37, x11, x39, (D_1 18), (D_1 19), (D_1 20)], []⟩) (by kernel_rfl) ?_
          refine lm_p (d := some 40) (by kernel_rfl) rfl (by kernel_rfl) (by kernel_rfl) (p_sl Try.underlying35 Try.sizeOf27 (by kernel_rfl) (by kernel_rfl) (by kernel_rfl) H) (fun x40 H => ?_)
          refine lm_d (d := some 41) (by kernel_rfl) rfl (by kernel_rfl) (by kernel_rfl) (by kernel_rfl) HA_5 (d_call (by kernel_rfl) (by kernel_rfl) H) (fun x41 h_4 w_6 H HA_6 => ?_)
          refine lm_p (d := some 42) (by kernel_rfl) rfl (by kernel_rfl) (by kernel_rfl) (p_not (by kernel_rfl) H) (fun x42 H => ?_)
          refine lm_nil ?_
          refine then_normal ?_
          refine fr_eq (b := ⟨#[x0, x1, undef, x3, (D_1 0), x11, x12, x7, x10, x0, x10, x11, x12, x11, x14, x15, x16, x16, (D 0), (D 1), (D 2), (D 3), x22, x7, x12, x25, (D_1 4), (D_1 5), x0, x7, x30, x31, x32, x7, x11, x35, x7, x37, x11, x39, x40, x41, x42], []⟩) (by kernel_rfl) ?_
          refine wp_if rfl H (fun H => ?_) (fun H => ?_)
          · refine wp_seq ?_
            refine lwp_list ?_
            refine ls_assign (x := (.int .i64 2)) (by kernel_rfl) (by kernel_rfl) ?_
            refine ls_nil ?_
            refine then_normal ?_
            refine fr_eq (b := ⟨#[x0, x1, undef, x3, (.int .i64 2), x11, x12, x7, x10, x0, x10, x11, x12, x11, x14, x15, x16, x16, (D 0), (D 1), (D 2), (D 3), x22, x7, x12, x25, (D_1 4), (D_1 5), x0, x7, x30, x31, x32, x7, x11, x35, x7, x37, x11, x39, x40, x41, x42], []⟩) (by kernel_rfl) ?_
            refine wp_ret ?_
            refine block_ret ?_
            refine then_ret ?_
            refine then_ret ?_
            refine block_ret ?_
            refine then_ret ?_
            exact end1 (Try.results24) (by kernel_rfl) (by kernel_rfl) HA_6 H _ (.inr rfl)
          · refine wp_skip ?_
            refine block_normal ?_
            refine then_normal ?_
            refine fr_eq (b := ⟨#[x0, x1, undef, x3, (D_1 0), x11, x12, x7, x10, x0, x10, x11, x12, x11, x14, x15, x16, x16, (D 0), (D 1), (D 2), (D 3), x22, x7, x12, x25, (D_1 4), (D_1 5), x0, x7, x30, x31, x32, x7, x11, x35, x7, x37, x11, x39, x40, x41, x42], []⟩) (by kernel_rfl) ?_
            refine lwp_list ?_
            refine ls_move (x := x7) (by kernel_rfl) (by kernel_rfl) ?_
            refine ls_p (d := some 27) (by kernel_rfl) (by kernel_rfl) (p_add (by kernel_rfl) (by kernel_rfl) H) (fun x27 H => ?_)
            refine ls_assign (x := x27) (by kernel_rfl) (by kernel_rfl) ?_
            refine ls_nil ?_
            exact ⟨⟨(fun i => ([(D_1 0), x7, x12, x25, x7, x27, x0, x7, x30, x31, x32, x7, x11, x35, x7, x37, x11, x39, x40, x41, x42]).getD i undef), x27, h_4, by kernel_rfl, HA_6, H.1⟩, loop_lt HA_6.heap HA_3.heap (by kernel_rfl) (by kernel_rfl) H.2⟩
        · refine wp_exit ?_
          refine then_exit ?_
          refine then_exit ?_
          refine block_exit ?_
          refine then_normal ?_
          refine fr_eq (b := ⟨#[x0, x1, undef, x3, (D_1 0), x11, x12, x7, x10, x0, x10, x11, x12, x11, x14, x15, x16, x16, (D 0), (D 1), (D 2), (D 3), x22, x7, x12, x25, (D_1 4), (D_1 5), (D_1 6), (D_1 7), (D_1 8), (D_1 9), (D_1 10), (D_1 11), (D_1 12), (D_1 13), (D_1 14), (D_1 15), (D_1 16), (D_1 17), (D_1 18), (D_1 19), (D_1 20)], []⟩) (by kernel_rfl) ?_
          refine wp_seq ?_
          refine lwp_list ?_
          refine ls_assign (x := (.int .i64 0)) (by kernel_rfl) (by kernel_rfl) ?_
          refine ls_nil ?_
          refine then_normal ?_
          refine fr_eq (b := ⟨#[x0, x1, undef, x3, (.int .i64 0), x11, x12, x7, x10, x0, x10, x11, x12, x11, x14, x15, x16, x16, (D 0), (D 1), (D 2), (D 3), x22, x7, x12, x25, (D_1 4), (D_1 5), (D_1 6), (D_1 7), (D_1 8), (D_1 9), (D_1 10), (D_1 11), (D_1 12), (D_1 13), (D_1 14), (D_1 15), (D_1 16), (D_1 17), (D_1 18), (D_1 19), (D_1 20)], []⟩) (by kernel_rfl) ?_
          refine wp_ret ?_
          exact end1 (Try.results24) (by kernel_rfl) (by kernel_rfl) HA_3 H _ (.inr rfl)

end Go.Proofs.Ythhpieidlpjbmaa
