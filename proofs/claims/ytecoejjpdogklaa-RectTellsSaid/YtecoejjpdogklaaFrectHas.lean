/- The shallow reading of one function, and that the function does it. Written by a program. -/
import Derived.Test.YtecoejjpdogklaaFnC
set_option linter.unusedVariables false
namespace Go.Proofs.Ytecoejjpdogklaa
open Go Go.HW

def rect_Has_S (x0 x1 : Value) (h : Heap) (R : Value → Heap → Prop) : Prop :=
  sBox h x0 35 fun x2 h => 
  sBox h x1 35 fun x3 h_1 => 
  sLdN h_1 x2 4 fun x5 =>
  rect_Right_c x5 h_1 fun x6 h_2 => 
  sNot x6 fun x7 =>
  sOrH x7 h_2 (fun k_1 =>
  sLdN h_2 x3 4 fun x9 =>
  rect_Right_c x9 h_2 fun x10 h_7 => 
  sNot x10 fun x11 =>
  k_1 x11 h_7) fun x12 h_3 =>
  sIf x12 (R (.bool false) h_3) (∃ C : Heap → Prop, C h_3 ∧ (sLdNC C x3 4 fun x13 =>
  rect_Empty_c x13 h_3 fun x14 h_4 => C h_4 ∧ (
  sOrH x14 h_4 (fun k =>
  sLdNC C x2 4 fun x16 =>
  sLdNC C x3 4 fun x17 =>
  rect_Both_c x16 x17 h_4 fun x18 h_6 => C h_6 ∧ (
  sLdNC C x3 4 fun x19 =>
  sEqlAgg x18 x19 [some .i64, some .i64, some .i64, some .i64] fun x20 =>
  k x20 h_6)) fun x21 h_5 =>
  R x21 h_5)))
set_option maxRecDepth 100000 in
theorem rect_Has_runs {x0 x1 : Value} {h : Heap} {R : Value → Heap → Prop} (H : rect_Has_S x0 x1 h R) : rect_Has_c x0 x1 h R := by
  unfold rect_Has_S at H
  refine runs_of (b := ⟨#[x0, x1, undef, undef, undef, undef, undef, undef, undef, undef, undef, undef, undef, undef, undef, undef, undef, undef, undef, undef, undef, undef], []⟩) Try.call47 Try.func47 rfl (by kernel_rfl) (fun w0 HA => ?_)
  refine wp_seq ?_
  refine lwp_list ?_
  refine ls_d (d := some 2) (by kernel_rfl) (by kernel_rfl) HA (d_box (by kernel_rfl) H) (fun x2 h w H HA => ?_)
  refine ls_d (d := some 3) (by kernel_rfl) (by kernel_rfl) HA (d_box (by kernel_rfl) H) (fun x3 h_1 w_1 H HA_1 => ?_)
  refine ls_assign (x := (.bool false)) (by kernel_rfl) (by kernel_rfl) ?_
  refine ls_nil ?_
  refine then_normal ?_
  refine fr_eq (b := ⟨#[x0, x1, x2, x3, (.bool false), undef, undef, undef, undef, undef, undef, undef, undef, undef, undef, undef, undef, undef, undef, undef, undef, undef], []⟩) (by kernel_rfl) ?_
  refine wp_seq ?_
  refine wp_seq ?_
  refine lwp_list ?_
  refine ls_y (d := some 5) (by kernel_rfl) (by kernel_rfl) HA_1 (y_ldn Try.isAgg35 Try.sizeOf35 (by kernel_rfl) H) (fun x5 H => ?_)
  refine ls_d (d := some 6) (by kernel_rfl) (by kernel_rfl) HA_1 (d_call (by kernel_rfl) (by kernel_rfl) H) (fun x6 h_2 w_2 H HA_2 => ?_)
  refine ls_p (d := some 7) (by kernel_rfl) (by kernel_rfl) (p_not (by kernel_rfl) H) (fun x7 H => ?_)
  refine ls_move (x := x7) (by kernel_rfl) (by kernel_rfl) ?_
  refine ls_orh [(), (), (), ()] (fun K a w => ∃ (D : Nat → Value) (x12 : Value) (h_3 : Heap), a = ⟨#[x0, x1, x2, x3, (.bool false), x5, x6, x7, x7, (D 0), (D 1), (D 2), x12, undef, undef, undef, undef, undef, undef, undef, undef, undef], []⟩ ∧ At w0 w h_3 ∧ K x12 h_3) H (fun hb_1 H => ?_) (fun hb_1 H => ?_) ?_
  · refine ls_y (d := some 9) (by kernel_rfl) (by rw [hb_1]; kernel_rfl) HA_2 (y_ldn Try.isAgg35 Try.sizeOf35 (by kernel_rfl) H) (fun x9 H => ?_)
    refine ls_d (d := some 10) (by kernel_rfl) (by rw [hb_1]; kernel_rfl) HA_2 (d_call (by kernel_rfl) (by kernel_rfl) H) (fun x10 h_7 w_8 H HA_8 => ?_)
    refine ls_fr (b := ⟨#[x0, x1, x2, x3, (.bool false), x5, x6, x7, x7, x9, x10, undef, undef, undef, undef, undef, undef, undef, undef, undef, undef, undef], []⟩) (by kernel_rfl) ?_
    refine ls_p (d := some 11) (by kernel_rfl) (by rw [hb_1]; kernel_rfl) (p_not (by kernel_rfl) H) (fun x11 H => ?_)
    refine ls_pick_f (y := x11) (by kernel_rfl) (by rw [hb_1]; kernel_rfl) (by kernel_rfl) ?_
    refine ls_nil ?_
    refine then_normal ?_
    exact ⟨(fun i => ([x9, x10, x11]).getD i undef), x11, h_7, by kernel_rfl, HA_8, H⟩
  · refine ls_skip (d := some 9) (by kernel_rfl) (by rw [hb_1]; kernel_rfl) ?_
    refine ls_skip (d := some 10) (by kernel_rfl) (by rw [hb_1]; kernel_rfl) ?_
    refine ls_fr (b := ⟨#[x0, x1, x2, x3, (.bool false), x5, x6, x7, x7, undef, undef, undef, undef, undef, undef, undef, undef, undef, undef, undef, undef, undef], []⟩) (by kernel_rfl) ?_
    refine ls_skip (d := some 11) (by kernel_rfl) (by rw [hb_1]; kernel_rfl) ?_
    refine ls_pick_t (x := (.bool true)) (by kernel_rfl) (by rw [hb_1]; kernel_rfl) (by kernel_rfl) ?_
    refine ls_nil ?_
    refine then_normal ?_
    exact ⟨(fun i => ([undef, undef, undef]).getD i undef), (.bool true), h_2, by kernel_rfl, HA_2, H⟩
  · rintro _ w_3 ⟨D, x12, h_3, rfl, HA_3, H⟩
    refine ls_nil ?_
    refine then_normal ?_
    refine fr_eq (b := ⟨#[x0, x1, x2, x3, (.bool false), x5, x6, x7, x7, (D 0), (D 1), (D 2), x12, undef, undef, undef, undef, undef, undef, undef, undef, undef], []⟩) (by kernel_rfl) ?_
    refine wp_if rfl H (fun H => ?_) (fun H => ?_)
    · refine wp_seq ?_
      refine lwp_list ?_
      refine ls_assign (x := (.bool false)) (by kernel_rfl) (by kernel_rfl) ?_
      refine ls_nil ?_
      refine then_normal ?_
      refine fr_eq (b := ⟨#[x0, x1, x2, x3, (.bool false), x5, x6, x7, x7, (D 0), (D 1), (D 2), x12, undef, undef, undef, undef, undef, undef, undef, undef, undef], []⟩) (by kernel_rfl) ?_
      refine wp_ret ?_
      refine then_ret ?_
      exact end1 (Try.results47) (by kernel_rfl) (by kernel_rfl) HA_3 H _ (.inr rfl)
    · refine wp_skip ?_
      refine then_normal ?_
      refine fr_eq (b := ⟨#[x0, x1, x2, x3, (.bool false), x5, x6, x7, x7, (D 0), (D 1), (D 2), x12, undef, undef, undef, undef, undef, undef, undef, undef, undef], []⟩) (by kernel_rfl) ?_
      refine wp_seq ?_
      obtain ⟨C, HC, H⟩ := H
      refine lwp_mx (Nat.testBit 34) (Nat.testBit 34) (Nat.testBit 900) [0, 1, 3, 7, 7, 31, 7, 127, 255, 511] C [0, 1, 2, 3, 4, 5, 6, 7, 8, 9] (by kernel_rfl) (by kernel_rfl) (by kernel_rfl) HA_3 HC ?_
      intro w_4 HA_4
      refine lm_f (d := some 13) (by kernel_rfl) rfl (by kernel_rfl) (by kernel_rfl) (by kernel_rfl) (c_ldn Try.isAgg35 Try.sizeOf35 (by kernel_rfl) H) (fun x13 H => ?_)
      refine lm_dc (d := some 14) (by kernel_rfl) rfl (by kernel_rfl) (by kernel_rfl) HA_4 (d_call (by kernel_rfl) (by kernel_rfl) H) (fun x14 h_4 w_5 H HA_5 => ?_)
      refine lm_al (x := x14) (d := some 15) (by kernel_rfl) rfl (by kernel_rfl) (by kernel_rfl) (al_move (by kernel_rfl)) ?_
      refine lm_orh [(), (), (), (), (), ()] (fun K a w => ∃ (D_1 : Nat → Value) (x21 : Value) (h_5 : Heap), a = ⟨#[x0, x1, x2, x3, (.bool false), x5, x6, x7, x7, (D 0), (D 1), (D 2), x12, x13, x14, x14, (D_1 0), (D_1 1), (D_1 2), (D_1 3), (D_1 4), x21], []⟩ ∧ At w0 w h_5 ∧ K x21 h_5) H (fun hb H => ?_) (fun hb H => ?_) ?_
      · refine lm_f (d := some 16) (by kernel_rfl) rfl (by kernel_rfl) (by kernel_rfl) (by rw [hb]; kernel_rfl) (c_ldn Try.isAgg35 Try.sizeOf35 (by kernel_rfl) H) (fun x16 H => ?_)
        refine lm_f (d := some 17) (by kernel_rfl) rfl (by kernel_rfl) (by kernel_rfl) (by rw [hb]; kernel_rfl) (c_ldn Try.isAgg35 Try.sizeOf35 (by kernel_rfl) H) (fun x17 H => ?_)
        refine lm_dc (d := some 18) (by kernel_rfl) rfl (by kernel_rfl) (by rw [hb]; kernel_rfl) HA_5 (d_call (by kernel_rfl) (by kernel_rfl) H) (fun x18 h_6 w_7 H HA_7 => ?_)
        refine lm_fr (b := ⟨#[x0, x1, x2, x3, (.bool false), x5, x6, x7, x7, (D 0), (D 1), (D 2), x12, x13, x14, x14, x16, x17, x18, undef, undef, undef], []⟩) (by kernel_rfl) ?_
        refine lm_f (d := some 19) (by kernel_rfl) rfl (by kernel_rfl) (by kernel_rfl) (by rw [hb]; kernel_rfl) (c_ldn Try.isAgg35 Try.sizeOf35 (by kernel_rfl) H) (fun x19 H => ?_)
        refine lm_p (d := some 20) (by kernel_rfl) rfl (by kernel_rfl) (by rw [hb]; kernel_rfl) (p_eqlAgg (eqT_35) (by kernel_rfl) (by kernel_rfl) H) (fun x20 H => ?_)
        refine lm_al (x := x20) (d := some 21) (by kernel_rfl) rfl (by kernel_rfl) (by kernel_rfl) (al_pick_f (by rw [hb]; kernel_rfl) (by kernel_rfl)) ?_
        refine lm_nil ?_
        exact ⟨(fun i => ([x16, x17, x18, x19, x20]).getD i undef), x20, h_6, by kernel_rfl, HA_7, H⟩
      · refine lm_skip (d := some 16) (by kernel_rfl) rfl (by rw [hb]; kernel_rfl) ?_
        refine lm_skip (d := some 17) (by kernel_rfl) rfl (by rw [hb]; kernel_rfl) ?_
        refine lm_skip (d := some 18) (by kernel_rfl) rfl (by rw [hb]; kernel_rfl) ?_
        refine lm_fr (b := ⟨#[x0, x1, x2, x3, (.bool false), x5, x6, x7, x7, (D 0), (D 1), (D 2), x12, x13, x14, x14, undef, undef, undef, undef, undef, undef], []⟩) (by kernel_rfl) ?_
        refine lm_skip (d := some 19) (by kernel_rfl) rfl (by rw [hb]; kernel_rfl) ?_
        refine lm_skip (d := some 20) (by kernel_rfl) rfl (by rw [hb]; kernel_rfl) ?_
        refine lm_al (x := (.bool true)) (d := some 21) (by kernel_rfl) rfl (by kernel_rfl) (by kernel_rfl) (al_pick_t (by rw [hb]; kernel_rfl) (by kernel_rfl)) ?_
        refine lm_nil ?_
        exact ⟨(fun i => ([undef, undef, undef, undef, undef]).getD i undef), (.bool true), h_4, by kernel_rfl, HA_5, H⟩
      · rintro _ w_6 ⟨D_1, x21, h_5, rfl, HA_6, H⟩
        refine lm_al (x := x21) (d := some 4) (by kernel_rfl) rfl (by kernel_rfl) (by kernel_rfl) (al_assign (by kernel_rfl)) ?_
        refine lm_nil ?_
        refine then_normal ?_
        refine fr_eq (b := ⟨#[x0, x1, x2, x3, x21, x5, x6, x7, x7, (D 0), (D 1), (D 2), x12, x13, x14, x14, (D_1 0), (D_1 1), (D_1 2), (D_1 3), (D_1 4), x21], []⟩) (by kernel_rfl) ?_
        refine wp_ret ?_
        exact end1 (Try.results47) (by kernel_rfl) (by kernel_rfl) HA_6 H _ (.inr rfl)

end Go.Proofs.Ytecoejjpdogklaa
