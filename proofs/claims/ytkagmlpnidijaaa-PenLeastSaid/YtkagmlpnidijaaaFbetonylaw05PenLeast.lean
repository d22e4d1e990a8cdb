/- The shallow reading of one function, and that the function does it. Written by a program. -/
import Derived.Test.YtkagmlpnidijaaaFnC
set_option linter.unusedVariables false
namespace Go.Proofs.Ytkagmlpnidijaaa
open Go Go.HW

def betonylaw05_PenLeast_S (x0 x1 : Value) (h : Heap) (R : Value → Heap → Prop) : Prop :=
  sBox h x0 23 fun x2 h => 
  sBox h x1 23 fun x3 h_1 => 
  sLdN h_1 x2 3 fun x6 =>
  pen_Least_c x6 h_1 fun x7 h_2 => 
  sLdN h_2 x2 3 fun x9 =>
  betonyref05_Least_c x9 h_2 fun x10 h_3 => 
  betonyref01_SameInts_c x7 x10 h_3 fun x11 h_4 => 
  sNot x11 fun x12 =>
  sIf x12 (R (.bool false) h_4) (sLdN h_4 x2 3 fun x13 =>
  betonyref05_Right_c x13 h_4 fun x14 h_5 => 
  sNot x14 fun x15 =>
  sIf x15 (sLen x7 fun x17 =>
  sEq x17 (.int .i64 0) fun x18 =>
  sAndH x18 h_5 (fun k =>
  betonylaw05_awake_c  h_5 fun x20 h_7 => 
  k x20 h_7) fun x21 h_6 =>
  R x21 h_6) (∃ C : Heap → Prop, C h_5 ∧ (sLdNC C x3 3 fun x22 =>
  pen_Apply_c x22 x7 h_5 fun x24 h_8 => C h_8 ∧ (
  sLdNC C x2 3 fun x25 =>
  sEqlAgg x24 x25 [some .i64, some .i64, some .i64] fun x26 =>
  sAndH x26 h_8 (fun k_1 =>
  betonylaw05_awake_c  h_8 fun x28 h_10 => 
  k_1 x28 h_10) fun x29 h_9 =>
  R x29 h_9))))
set_option maxRecDepth 100000 in
theorem betonylaw05_PenLeast_runs {x0 x1 : Value} {h : Heap} {R : Value → Heap → Prop} (H : betonylaw05_PenLeast_S x0 x1 h R) : betonylaw05_PenLeast_c x0 x1 h R := by
  unfold betonylaw05_PenLeast_S at H
  refine runs_of (b := ⟨#[x0, x1, undef, undef, undef, undef, undef, undef, undef, undef, undef, undef, undef, undef, undef, undef, undef, undef, undef, undef, undef, undef, undef, undef, undef, undef, undef, undef, undef, undef], []⟩) Try.call9 Try.func9 rfl (by kernel_rfl) (fun w0 HA => ?_)
  refine wp_seq ?_
  refine lwp_list ?_
  refine ls_d (d := some 2) (by kernel_rfl) (by kernel_rfl) HA (d_box (by kernel_rfl) H) (fun x2 h w H HA => ?_)
  refine ls_d (d := some 3) (by kernel_rfl) (by kernel_rfl) HA (d_box (by kernel_rfl) H) (fun x3 h_1 w_1 H HA_1 => ?_)
  refine ls_assign (x := (.bool false)) (by kernel_rfl) (by kernel_rfl) ?_
  refine ls_nil ?_
  refine then_normal ?_
  refine fr_eq (b := ⟨#[x0, x1, x2, x3, (.bool false), undef, undef, undef, undef, undef, undef, undef, undef, undef, undef, undef, undef, undef, undef, undef, undef, undef, undef, undef, undef, undef, undef, undef, undef, undef], []⟩) (by kernel_rfl) ?_
  refine wp_seq ?_
  refine lwp_list ?_
  refine ls_y (d := some 6) (by kernel_rfl) (by kernel_rfl) HA_1 (y_ldn Try.isAgg23 Try.sizeOf23 (by kernel_rfl) H) (fun x6 H => ?_)
  refine ls_d (d := some 7) (by kernel_rfl) (by kernel_rfl) HA_1 (d_call (by kernel_rfl) (by kernel_rfl) H) (fun x7 h_2 w_2 H HA_2 => ?_)
  refine ls_assign (x := x7) (by kernel_rfl) (by kernel_rfl) ?_
  refine ls_nil ?_
  refine then_normal ?_
  refine fr_eq (b := ⟨#[x0, x1, x2, x3, (.bool false), x7, x6, x7, undef, undef, undef, undef, undef, undef, undef, undef, undef, undef, undef, undef, undef, undef, undef, undef, undef, undef, undef, undef, undef, undef], []⟩) (by kernel_rfl) ?_
  refine wp_seq ?_
  refine wp_seq ?_
  refine lwp_list ?_
  refine ls_move (x := x7) (by kernel_rfl) (by kernel_rfl) ?_
  refine ls_y (d := some 9) (by kernel_rfl) (by kernel_rfl) HA_2 (y_ldn Try.isAgg23 Try.sizeOf23 (by kernel_rfl) H) (fun x9 H => ?_)
  refine ls_d (d := some 10) (by kernel_rfl) (by kernel_rfl) HA_2 (d_call (by kernel_rfl) (by kernel_rfl) H) (fun x10 h_3 w_3 H HA_3 => ?_)
  refine ls_d (d := some 11) (by kernel_rfl) (by kernel_rfl) HA_3 (d_call (by kernel_rfl) (by kernel_rfl) H) (fun x11 h_4 w_4 H HA_4 => ?_)
  refine ls_p (d := some 12) (by kernel_rfl) (by kernel_rfl) (p_not (by kernel_rfl) H) (fun x12 H => ?_)
  refine ls_nil ?_
  refine then_normal ?_
  refine fr_eq (b := ⟨#[x0, x1, x2, x3, (.bool false), x7, x6, x7, x7, x9, x10, x11, x12, undef, undef, undef, undef, undef, undef, undef, undef, undef, undef, undef, undef, undef, undef, undef, undef, undef], []⟩) (by kernel_rfl) ?_
  refine wp_if rfl H (fun H => ?_) (fun H => ?_)
  · refine wp_seq ?_
    refine lwp_list ?_
    refine ls_assign (x := (.bool false)) (by kernel_rfl) (by kernel_rfl) ?_
    refine ls_nil ?_
    refine then_normal ?_
    refine fr_eq (b := ⟨#[x0, x1, x2, x3, (.bool false), x7, x6, x7, x7, x9, x10, x11, x12, undef, undef, undef, undef, undef, undef, undef, undef, undef, undef, undef, undef, undef, undef, undef, undef, undef], []⟩) (by kernel_rfl) ?_
    refine wp_ret ?_
    refine then_ret ?_
    exact end1 (Try.results9) (by kernel_rfl) (by kernel_rfl) HA_4 H _ (.inr rfl)
  · refine wp_skip ?_
    refine then_normal ?_
    refine fr_eq (b := ⟨#[x0, x1, x2, x3, (.bool false), x7, x6, x7, x7, x9, x10, x11, x12, undef, undef, undef, undef, undef, undef, undef, undef, undef, undef, undef, undef, undef, undef, undef, undef, undef], []⟩) (by kernel_rfl) ?_
    refine wp_seq ?_
    refine wp_seq ?_
    refine lwp_list ?_
    refine ls_y (d := some 13) (by kernel_rfl) (by kernel_rfl) HA_4 (y_ldn Try.isAgg23 Try.sizeOf23 (by kernel_rfl) H) (fun x13 H => ?_)
    refine ls_d (d := some 14) (by kernel_rfl) (by kernel_rfl) HA_4 (d_call (by kernel_rfl) (by kernel_rfl) H) (fun x14 h_5 w_5 H HA_5 => ?_)
    refine ls_p (d := some 15) (by kernel_rfl) (by kernel_rfl) (p_not (by kernel_rfl) H) (fun x15 H => ?_)
    refine ls_nil ?_
    refine then_normal ?_
    refine fr_eq (b := ⟨#[x0, x1, x2, x3, (.bool false), x7, x6, x7, x7, x9, x10, x11, x12, x13, x14, x15, undef, undef, undef, undef, undef, undef, undef, undef, undef, undef, undef, undef, undef, undef], []⟩) (by kernel_rfl) ?_
    refine wp_if rfl H (fun H => ?_) (fun H => ?_)
    · refine wp_seq ?_
      refine lwp_list ?_
      refine ls_move (x := x7) (by kernel_rfl) (by kernel_rfl) ?_
      refine ls_p (d := some 17) (by kernel_rfl) (by kernel_rfl) (p_len Try.underlying24 (by kernel_rfl) H) (fun x17 H => ?_)
      refine ls_p (d := some 18) (by kernel_rfl) (by kernel_rfl) (p_sEq (by kernel_rfl) (by kernel_rfl) H) (fun x18 H => ?_)
      refine ls_move (x := x18) (by kernel_rfl) (by kernel_rfl) ?_
      refine ls_andh [(), ()] (fun K a w => ∃ (D : Nat → Value) (x21 : Value) (h_6 : Heap), a = ⟨#[x0, x1, x2, x3, (.bool false), x7, x6, x7, x7, x9, x10, x11, x12, x13, x14, x15, x7, x17, x18, x18, (D 0), x21, undef, undef, undef, undef, undef, undef, undef, undef], []⟩ ∧ At w0 w h_6 ∧ K x21 h_6) H (fun hb H => ?_) (fun hb H => ?_) ?_
      · refine ls_d (d := some 20) (by kernel_rfl) (by rw [hb]; kernel_rfl) HA_5 (d_call (by kernel_rfl) (by kernel_rfl) H) (fun x20 h_7 w_7 H HA_7 => ?_)
        refine ls_pick_t (x := x20) (by kernel_rfl) (by rw [hb]; kernel_rfl) (by kernel_rfl) ?_
        refine ls_nil ?_
        refine then_normal ?_
        exact ⟨(fun i => ([x20]).getD i undef), x20, h_7, by kernel_rfl, HA_7, H⟩
      · refine ls_skip (d := some 20) (by kernel_rfl) (by rw [hb]; kernel_rfl) ?_
        refine ls_pick_f (y := (.bool false)) (by kernel_rfl) (by rw [hb]; kernel_rfl) (by kernel_rfl) ?_
        refine ls_nil ?_
        refine then_normal ?_
        exact ⟨(fun i => ([undef]).getD i undef), (.bool false), h_5, by kernel_rfl, HA_5, H⟩
      · rintro _ w_6 ⟨D, x21, h_6, rfl, HA_6, H⟩
        refine ls_assign (x := x21) (by kernel_rfl) (by kernel_rfl) ?_
        refine ls_nil ?_
        refine then_normal ?_
        refine fr_eq (b := ⟨#[x0, x1, x2, x3, x21, x7, x6, x7, x7, x9, x10, x11, x12, x13, x14, x15, x7, x17, x18, x18, (D 0), x21, undef, undef, undef, undef, undef, undef, undef, undef], []⟩) (by kernel_rfl) ?_
        refine wp_ret ?_
        refine then_ret ?_
        exact end1 (Try.results9) (by kernel_rfl) (by kernel_rfl) HA_6 H _ (.inr rfl)
    · refine wp_skip ?_
      refine then_normal ?_
      refine fr_eq (b := ⟨#[x0, x1, x2, x3, (.bool false), x7, x6, x7, x7, x9, x10, x11, x12, x13, x14, x15, undef, undef, undef, undef, undef, undef, undef, undef, undef, undef, undef, undef, undef, undef], []⟩) (by kernel_rfl) ?_
      refine wp_seq ?_
      obtain ⟨C, HC, H⟩ := H
      refine lwp_mx (Nat.testBit 68) (Nat.testBit 4) (Nat.testBit 434) [0, 0, 3, 0, 15, 31, 63, 127, 255] C [0, 1, 2, 3, 4, 5, 6, 7, 8] (by kernel_rfl) (by kernel_rfl) (by kernel_rfl) HA_5 HC ?_
      intro w_8 HA_8
      refine lm_f (d := some 22) (by kernel_rfl) rfl (by kernel_rfl) (by kernel_rfl) (by kernel_rfl) (c_ldn Try.isAgg23 Try.sizeOf23 (by kernel_rfl) H) (fun x22 H => ?_)
      refine lm_al (x := x7) (d := some 23) (by kernel_rfl) rfl (by kernel_rfl) (by kernel_rfl) (al_move (by kernel_rfl)) ?_
      refine lm_dc (d := some 24) (by kernel_rfl) rfl (by kernel_rfl) (by kernel_rfl) HA_8 (d_call (by kernel_rfl) (by kernel_rfl) H) (fun x24 h_8 w_9 H HA_9 => ?_)
      refine lm_f (d := some 25) (by kernel_rfl) rfl (by kernel_rfl) (by kernel_rfl) (by kernel_rfl) (c_ldn Try.isAgg23 Try.sizeOf23 (by kernel_rfl) H) (fun x25 H => ?_)
      refine lm_p (d := some 26) (by kernel_rfl) rfl (by kernel_rfl) (by kernel_rfl) (p_eqlAgg (eqT_23) (by kernel_rfl) (by kernel_rfl) H) (fun x26 H => ?_)
      refine lm_al (x := x26) (d := some 27) (by kernel_rfl) rfl (by kernel_rfl) (by kernel_rfl) (al_move (by kernel_rfl)) ?_
      refine lm_fr (b := ⟨#[x0, x1, x2, x3, (.bool false), x7, x6, x7, x7, x9, x10, x11, x12, x13, x14, x15, undef, undef, undef, undef, undef, undef, x22, x7, x24, x25, x26, x26, undef, undef], []⟩) (by kernel_rfl) ?_
      refine lm_andh [(), ()] (fun K a w => ∃ (D_1 : Nat → Value) (x29 : Value) (h_9 : Heap), a = ⟨#[x0, x1, x2, x3, (.bool false), x7, x6, x7, x7, x9, x10, x11, x12, x13, x14, x15, undef, undef, undef, undef, undef, undef, x22, x7, x24, x25, x26, x26, (D_1 0), x29], []⟩ ∧ At w0 w h_9 ∧ K x29 h_9) H (fun hb_1 H => ?_) (fun hb_1 H => ?_) ?_
      · refine lm_d (d := some 28) (by kernel_rfl) rfl (by kernel_rfl) (by kernel_rfl) (by rw [hb_1]; kernel_rfl) HA_9 (d_call (by kernel_rfl) (by kernel_rfl) H) (fun x28 h_10 w_11 H HA_11 => ?_)
        refine lm_al (x := x28) (d := some 29) (by kernel_rfl) rfl (by kernel_rfl) (by kernel_rfl) (al_pick_t (by rw [hb_1]; kernel_rfl) (by kernel_rfl)) ?_
        refine lm_nil ?_
        exact ⟨(fun i => ([x28]).getD i undef), x28, h_10, by kernel_rfl, HA_11, H⟩
      · refine lm_skip (d := some 28) (by kernel_rfl) rfl (by rw [hb_1]; kernel_rfl) ?_
        refine lm_al (x := (.bool false)) (d := some 29) (by kernel_rfl) rfl (by kernel_rfl) (by kernel_rfl) (al_pick_f (by rw [hb_1]; kernel_rfl) (by kernel_rfl)) ?_
        refine lm_nil ?_
        exact ⟨(fun i => ([undef]).getD i undef), (.bool false), h_8, by kernel_rfl, HA_9, H⟩
      · rintro _ w_10 ⟨D_1, x29, h_9, rfl, HA_10, H⟩
        refine lm_al (x := x29) (d := some 4) (by kernel_rfl) rfl (by kernel_rfl) (by kernel_rfl) (al_assign (by kernel_rfl)) ?_
        refine lm_nil ?_
        refine then_normal ?_
        refine fr_eq (b := ⟨#[x0, x1, x2, x3, x29, x7, x6, x7, x7, x9, x10, x11, x12, x13, x14, x15, undef, undef, undef, undef, undef, undef, x22, x7, x24, x25, x26, x26, (D_1 0), x29], []⟩) (by kernel_rfl) ?_
        refine wp_ret ?_
        exact end1 (Try.results9) (by kernel_rfl) (by kernel_rfl) HA_10 H _ (.inr rfl)

end Go.Proofs.Ytkagmlpnidijaaa
