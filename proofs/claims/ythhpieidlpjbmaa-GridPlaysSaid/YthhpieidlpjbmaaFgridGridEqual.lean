/- The shallow reading of one function, and that the function does it. Written by a program. -/
import Derived.Test.YthhpieidlpjbmaaFnC
set_option linter.unusedVariables false
namespace Go.Proofs.Ythhpieidlpjbmaa
open Go Go.HW

def grid_Grid_Equal_S (x0 x1 : Value) (h : Heap) (R : Value → Heap → Prop) : Prop :=
  sNeqNil x1 fun x6 =>
  sAnd x6 (fun k_2 =>
  sNil x0 fun x9 =>
  sOff x9 0 fun x10 =>
  sLd h x10 fun x11 =>
  sNil x1 fun x13 =>
  sOff x13 0 fun x14 =>
  sLd h x14 fun x15 =>
  sEq x11 x15 fun x16 =>
  k_2 x16) fun x17 =>
  sAnd x17 (fun k_1 =>
  sNil x0 fun x20 =>
  sOff x20 1 fun x21 =>
  sLd h x21 fun x22 =>
  sNil x1 fun x24 =>
  sOff x24 1 fun x25 =>
  sLd h x25 fun x26 =>
  sEq x22 x26 fun x27 =>
  k_1 x27) fun x28 =>
  sAndH x28 h (fun k =>
  sNil x0 fun x31 =>
  sOff x31 2 fun x32 =>
  sLd h x32 fun x33 =>
  sNil x1 fun x35 =>
  sOff x35 2 fun x36 =>
  sLd h x36 fun x37 =>
  slices_Equal_api_Cell_api_Cell_c x33 x37 h fun x38 h_1 => 
  k x38 h_1) fun x39 h =>
  R x39 h
set_option maxRecDepth 100000 in
theorem grid_Grid_Equal_runs {x0 x1 : Value} {h : Heap} {R : Value → Heap → Prop} (H : grid_Grid_Equal_S x0 x1 h R) : grid_Grid_Equal_c x0 x1 h R := by
  unfold grid_Grid_Equal_S at H
  refine runs_of (b := ⟨#[x0, x1, undef, undef, undef, undef, undef, undef, undef, undef, undef, undef, undef, undef, undef, undef, undef, undef, undef, undef, undef, undef, undef, undef, undef, undef, undef, undef, undef, undef, undef, undef, undef, undef, undef, undef, undef, undef, undef, undef], []⟩) Try.call27 Try.func27 rfl (by kernel_rfl) (fun w0 HA => ?_)
  refine wp_seq ?_
  refine lwp_list ?_
  refine ls_assign (x := (.bool false)) (by kernel_rfl) (by kernel_rfl) ?_
  refine ls_nil ?_
  refine then_normal ?_
  refine fr_eq (b := ⟨#[x0, x1, undef, undef, (.bool false), undef, undef, undef, undef, undef, undef, undef, undef, undef, undef, undef, undef, undef, undef, undef, undef, undef, undef, undef, undef, undef, undef, undef, undef, undef, undef, undef, undef, undef, undef, undef, undef, undef, undef, undef], []⟩) (by kernel_rfl) ?_
  refine wp_seq ?_
  refine lwp_mx (Nat.testBit 8589934592) (Nat.testBit 0) (Nat.testBit 55563910079) [0, 1, 3, 7, 15, 31, 63, 7, 135, 391, 903, 2047, 4095, 8191, 16383, 32767, 65535, 131071, 16383, 278527, 802815, 1851391, 4194303, 8388607, 16777215, 33554431, 67108863, 134217727, 268435455, 33554431, 570425343, 1644167167, 3791650815, 8589934591, 17179869183, 34359738367] (Nat.testBit 0) (fun h' => h' = h) [0, 1, 2, 3, 4, 5, 6, 7, 8, 9, 10, 11, 12, 13, 14, 15, 16, 17, 18, 19, 20, 21, 22, 23, 24, 25, 26, 27, 28, 29, 30, 31, 32, 33, 34, 35] (by kernel_rfl) (by kernel_rfl) (by kernel_rfl) (by kernel_rfl) HA rfl ?_
  intro w HA
  refine lm_al (x := x1) (d := some 5) (by kernel_rfl) rfl (by kernel_rfl) (by kernel_rfl) (al_move (by kernel_rfl)) ?_
  refine lm_p (d := some 6) (by kernel_rfl) rfl (by kernel_rfl) (by kernel_rfl) (p_neqNil Try.underlying28 (by kernel_rfl) (by kernel_rfl) H) (fun x6 H => ?_)
  refine lm_al (x := x6) (d := some 7) (by kernel_rfl) rfl (by kernel_rfl) (by kernel_rfl) (al_move (by kernel_rfl)) ?_
  refine lm_and [(), (), (), (), (), (), (), (), (), ()] (fun K a w => ∃ (D : Nat → Value) (x17 : Value), a = ⟨#[x0, x1, undef, undef, (.bool false), x1, x6, x6, (D 0), (D 1), (D 2), (D 3), (D 4), (D 5), (D 6), (D 7), (D 8), x17, undef, undef, undef, undef, undef, undef, undef, undef, undef, undef, undef, undef, undef, undef, undef, undef, undef, undef, undef, undef, undef, undef], []⟩ ∧ At w0 w h ∧ K x17) H (fun hb_2 H => ?_) (fun hb_2 H => ?_) ?_
  · refine lm_al (x := x0) (d := some 8) (by kernel_rfl) rfl (by kernel_rfl) (by rw [hb_2]; kernel_rfl) (al_move (by kernel_rfl)) ?_
    refine lm_p (d := some 9) (by kernel_rfl) rfl (by kernel_rfl) (by rw [hb_2]; kernel_rfl) (p_nil (by kernel_rfl) H) (fun x9 H => ?_)
    refine lm_p (d := some 10) (by kernel_rfl) rfl (by kernel_rfl) (by rw [hb_2]; kernel_rfl) (p_off Try.underlying68 rfl (fun w => ⟨_, Try.sizeOf3 w⟩) rfl (by kernel_rfl) H) (fun x10 H => ?_)
    refine lm_fr (b := ⟨#[x0, x1, undef, undef, (.bool false), x1, x6, x6, x0, x9, x10, undef, undef, undef, undef, undef, undef, undef, undef, undef, undef, undef, undef, undef, undef, undef, undef, undef, undef, undef, undef, undef, undef, undef, undef, undef, undef, undef, undef, undef], []⟩) (by kernel_rfl) ?_
    refine lm_f (d := some 11) (by kernel_rfl) rfl (by kernel_rfl) (by kernel_rfl) (by kernel_rfl) (by rw [hb_2]; kernel_rfl) (of_eq (y_ld Try.isAgg3 (by kernel_rfl) H)) (fun x11 H => ?_)
    refine lm_al (x := x1) (d := some 12) (by kernel_rfl) rfl (by kernel_rfl) (by rw [hb_2]; kernel_rfl) (al_move (by kernel_rfl)) ?_
    refine lm_p (d := some 13) (by kernel_rfl) rfl (by kernel_rfl) (by rw [hb_2]; kernel_rfl) (p_nil (by kernel_rfl) H) (fun x13 H => ?_)
    refine lm_p (d := some 14) (by kernel_rfl) rfl (by kernel_rfl) (by rw [hb_2]; kernel_rfl) (p_off Try.underlying68 rfl (fun w => ⟨_, Try.sizeOf3 w⟩) rfl (by kernel_rfl) H) (fun x14 H => ?_)
    refine lm_f (d := some 15) (by kernel_rfl) rfl (by kernel_rfl) (by kernel_rfl) (by kernel_rfl) (by rw [hb_2]; kernel_rfl) (of_eq (y_ld Try.isAgg3 (by kernel_rfl) H)) (fun x15 H => ?_)
    refine lm_p (d := some 16) (by kernel_rfl) rfl (by kernel_rfl) (by rw [hb_2]; kernel_rfl) (p_sEq (by kernel_rfl) (by kernel_rfl) H) (fun x16 H => ?_)
    refine lm_fr (b := ⟨#[x0, x1, undef, undef, (.bool false), x1, x6, x6, x0, x9, x10, x11, x1, x13, x14, x15, x16, undef, undef, undef, undef, undef, undef, undef, undef, undef, undef, undef, undef, undef, undef, undef, undef, undef, undef, undef, undef, undef, undef, undef], []⟩) (by kernel_rfl) ?_
    refine lm_al (x := x16) (d := some 17) (by kernel_rfl) rfl (by kernel_rfl) (by kernel_rfl) (al_pick_t (by rw [hb_2]; kernel_rfl) (by kernel_rfl)) ?_
    refine lm_nil ?_
    exact ⟨(fun i => ([x0, x9, x10, x11, x1, x13, x14, x15, x16]).getD i undef), x16, by kernel_rfl, HA, H⟩
  · refine lm_skip (d := some 8) (by kernel_rfl) rfl (by rw [hb_2]; kernel_rfl) ?_
    refine lm_skip (d := some 9) (by kernel_rfl) rfl (by rw [hb_2]; kernel_rfl) ?_
    refine lm_skip (d := some 10) (by kernel_rfl) rfl (by rw [hb_2]; kernel_rfl) ?_
    refine lm_fr (b := ⟨#[x0, x1, undef, undef, (.bool false), x1, x6, x6, undef, undef, undef, undef, undef, undef, undef, undef, undef, undef, undef, undef, undef, undef, undef, undef, undef, undef, undef, undef, undef, undef, undef, undef, undef, undef, undef, undef, undef, undef, undef, undef], []⟩) (by kernel_rfl) ?_
    refine lm_skip (d := some 11) (by kernel_rfl) rfl (by rw [hb_2]; kernel_rfl) ?_
    refine lm_skip (d := some 12) (by kernel_rfl) rfl (by rw [hb_2]; kernel_rfl) ?_
    refine lm_skip (d := some 13) (by kernel_rfl) rfl (by rw [hb_2]; kernel_rfl) ?_
    refine lm_skip (d := some 14) (by kernel_rfl) rfl (by rw [hb_2]; kernel_rfl) ?_
    refine lm_skip (d := some 15) (by kernel_rfl) rfl (by rw [hb_2]; kernel_rfl) ?_
    refine lm_skip (d := some 16) (by kernel_rfl) rfl (by rw [hb_2]; kernel_rfl) ?_
    refine lm_fr (b := ⟨#[x0, x1, undef, undef, (.bool false), x1, x6, x6, undef, undef, undef, undef, undef, undef, undef, undef, undef, undef, undef, undef, undef, undef, undef, undef, undef, undef, undef, undef, undef, undef, undef, undef, undef, undef, undef, undef, undef, undef, undef, undef], []⟩) (by kernel_rfl) ?_
    refine lm_al (x := (.bool false)) (d := some 17) (by kernel_rfl) rfl (by kernel_rfl) (by kernel_rfl) (al_pick_f (by rw [hb_2]; kernel_rfl) (by kernel_rfl)) ?_
    refine lm_nil ?_
    exact ⟨(fun i => ([undef, undef, undef, undef, undef, undef, undef, undef, undef]).getD i undef), (.bool false), by kernel_rfl, HA, H⟩
  · rintro _ w_1 ⟨D, x17, rfl, HA_1, H⟩
    refine lm_al (x := x17) (d := some 18) (by kernel_rfl) rfl (by kernel_rfl) (by kernel_rfl) (al_move (by kernel_rfl)) ?_
    refine lm_and [(), (), (), (), (), (), (), (), (), ()] (fun K a w => ∃ (D_1 : Nat → Value) (x28 : Value), a = ⟨#[x0, x1, undef, undef, (.bool false), x1, x6, x6, (D 0), (D 1), (D 2), (D 3), (D 4), (D 5), (D 6), (D 7), (D 8), x17, x17, (D_1 0), (D_1 1), (D_1 2), (D_1 3), (D_1 4), (D_1 5), (D_1 6), (D_1 7), (D_1 8), x28, undef, undef, undef, undef, undef, undef, undef, undef, undef, undef, undef], []⟩ ∧ At w0 w h ∧ K x28) H (fun hb_1 H => ?_) (fun hb_1 H => ?_) ?_
    · refine lm_al (x := x0) (d := some 19) (by kernel_rfl) rfl (by kernel_rfl) (by rw [hb_1]; kernel_rfl) (al_move (by kernel_rfl)) ?_
      refine lm_p (d := some 20) (by kernel_rfl) rfl (by kernel_rfl) (by rw [hb_1]; kernel_rfl) (p_nil (by kernel_rfl) H) (fun x20 H => ?_)
      refine lm_p (d := some 21) (by kernel_rfl) rfl (by kernel_rfl) (by rw [hb_1]; kernel_rfl) (p_off Try.underlying68 rfl (fun w => ⟨_, Try.sizeOf3 w⟩) rfl (by kernel_rfl) H) (fun x21 H => ?_)
      refine lm_f (d := some 22) (by kernel_rfl) rfl (by kernel_rfl) (by kernel_rfl) (by kernel_rfl) (by rw [hb_1]; kernel_rfl) (of_eq (y_ld Try.isAgg3 (by kernel_rfl) H)) (fun x22 H => ?_)
      refine lm_al (x := x1) (d := some 23) (by kernel_rfl) rfl (by kernel_rfl) (by rw [hb_1]; kernel_rfl) (al_move (by kernel_rfl)) ?_
      refine lm_fr (b := ⟨#[x0, x1, undef, undef, (.bool false), x1, x6, x6, (D 0), (D 1), (D 2), (D 3), (D 4), (D 5), (D 6), (D 7), (D 8), x17, x17, x0, x20, x21, x22, x1, undef, undef, undef, undef, undef, undef, undef, undef, undef, undef, undef, undef, undef, undef, undef, undef], []⟩) (by kernel_rfl) ?_
      refine lm_p (d := some 24) (by kernel_rfl) rfl (by kernel_rfl) (by rw [hb_1]; kernel_rfl) (p_nil (by kernel_rfl) H) (fun x24 H => ?_)
      refine lm_p (d := some 25) (by kernel_rfl) rfl (by kernel_rfl) (by rw [hb_1]; kernel_rfl) (p_off Try.underlying68 rfl (fun w => ⟨_, Try.sizeOf3 w⟩) rfl (by kernel_rfl) H) (fun x25 H => ?_)
      refine lm_f (d := some 26) (by kernel_rfl) rfl (by kernel_rfl) (by kernel_rfl) (by kernel_rfl) (by rw [hb_1]; kernel_rfl) (of_eq (y_ld Try.isAgg3 (by kernel_rfl) H)) (fun x26 H => ?_)
      refine lm_p (d := some 27) (by kernel_rfl) rfl (by kernel_rfl) (by rw [hb_1]; kernel_rfl) (p_sEq (by kernel_rfl) (by kernel_rfl) H) (fun x27 H => ?_)
      refine lm_al (x := x27) (d := some 28) (by kernel_rfl) rfl (by kernel_rfl) (by kernel_rfl) (al_pick_t (by rw [hb_1]; kernel_rfl) (by kernel_rfl)) ?_
      refine lm_nil ?_
      exact ⟨(fun i => ([x0, x20, x21, x22, x1, x24, x25, x26, x27]).getD i undef), x27, by kernel_rfl, HA_1, H⟩
    · refine lm_skip (d := some 19) (by kernel_rfl) rfl (by rw [hb_1]; kernel_rfl) ?_
      refine lm_skip (d := some 20) (by kernel_rfl) rfl (by rw [hb_1]; kernel_rfl) ?_
      refine lm_skip (d := some 21) (by kernel_rfl) rfl (by rw [hb_1]; kernel_rfl) ?_
      refine lm_skip (d := some 22) (by kernel_rfl) rfl (by rw [hb_1]; kernel_rfl) ?_
      refine lm_skip (d := some 23) (by kernel_rfl) rfl (by rw [hb_1]; kernel_rfl) ?_
      refine lm_fr (b := ⟨#[x0, x1, undef, undef, (.bool false), x1, x6, x6, (D 0), (D 1), (D 2), (D 3), (D 4), (D 5), (D 6), (D 7), (D 8), x17, x17, undef, undef, undef, undef, undef, undef, undef, undef, undef, undef, undef, undef, undef, undef, undef, undef, undef, undef, undef, undef, undef], []⟩) (by kernel_rfl) ?_
      refine lm_skip (d := some 24) (by kernel_rfl) rfl (by rw [hb_1]; kernel_rfl) ?_
      refine lm_skip (d := some 25) (by kernel_rfl) rfl (by rw [hb_1]; kernel_rfl) ?_
      refine lm_skip (d := some 26) (by kernel_rfl) rfl (by rw [hb_1]; kernel_rfl) ?_
      refine lm_skip (d := some 27) (by kernel_rfl) rfl (by rw [hb_1]; kernel_rfl) ?_
      refine lm_al (x := (.bool false)) (d := some 28) (by kernel_rfl) rfl (by kernel_rfl) (by kernel_rfl) (al_pick_f (by rw [hb_1]; kernel_rfl) (by kernel_rfl)) ?_
      refine lm_nil ?_
      exact ⟨(fun i => ([undef, undef, undef, undef, undef, undef, undef, undef, undef]).getD i undef), (.bool false), by kernel_rfl, HA_1, H⟩
    · rintro _ w_2 ⟨D_1, x28, rfl, HA_2, H⟩
      refine lm_al (x := x28) (d := some 29) (by kernel_rfl) rfl (by kernel_rfl) (by kernel_rfl) (al_move (by kernel_rfl)) ?_
      refine lm_andh [(), (), (), (), (), (), (), (), (), ()] (fun K a w => ∃ (D_2 : Nat → Value) (x39 : Value) (h : Heap), a = ⟨#[x0, x1, undef, undef, (.bool false), x1, x6, x6, (D 0), (D 1), (D 2), (D 3), (D 4), (D 5), (D 6), (D 7), (D 8), x17, x17, (D_1 0), (D_1 1), (D_1 2), (D_1 3), (D_1 4), (D_1 5), (D_1 6), (D_1 7), (D_1 8), x28, x28, (D_2 0), (D_2 1), (D_2 2), (D_2 3), (D_2 4), (D_2 5), (D_2 6), (D_2 7), (D_2 8), x39], []⟩ ∧ At w0 w h ∧ K x39 h) H (fun hb H => ?_) (fun hb H => ?_) ?_
      · refine lm_al (x := x0) (d := some 30) (by kernel_rfl) rfl (by kernel_rfl) (by rw [hb]; kernel_rfl) (al_move (by kernel_rfl)) ?_
        refine lm_p (d := some 31) (by kernel_rfl) rfl (by kernel_rfl) (by rw [hb]; kernel_rfl) (p_nil (by kernel_rfl) H) (fun x31 H => ?_)
        refine lm_p (d := some 32) (by kernel_rfl) rfl (by kernel_rfl) (by rw [hb]; kernel_rfl) (p_off Try.underlying68 rfl (fun w => ⟨_, Try.sizeOf35 w⟩) rfl (by kernel_rfl) H) (fun x32 H => ?_)
        refine lm_f (d := some 33) (by kernel_rfl) rfl (by kernel_rfl) (by kernel_rfl) (by kernel_rfl) (by rw [hb]; kernel_rfl) (of_eq (y_ld Try.isAgg35 (by kernel_rfl) H)) (fun x33 H => ?_)
        refine lm_al (x := x1) (d := some 34) (by kernel_rfl) rfl (by kernel_rfl) (by rw [hb]; kernel_rfl) (al_move (by kernel_rfl)) ?_
        refine lm_fr (b := ⟨#[x0, x1, undef, undef, (.bool false), x1, x6, x6, (D 0), (D 1), (D 2), (D 3), (D 4), (D 5), (D 6), (D 7), (D 8), x17, x17, (D_1 0), (D_1 1), (D_1 2), (D_1 3), (D_1 4), (D_1 5), (D_1 6), (D_1 7), (D_1 8), x28, x28, x0, x31, x32, x33, x1, undef, undef, undef, undef, undef], []⟩) (by kernel_rfl) ?_
        refine lm_p (d := some 35) (by kernel_rfl) rfl (by kernel_rfl) (by rw [hb]; kernel_rfl) (p_nil (by kernel_rfl) H) (fun x35 H => ?_)
        refine lm_p (d := some 36) (by kernel_rfl) rfl (by kernel_rfl) (by rw [hb]; kernel_rfl) (p_off Try.underlying68 rfl (fun w => ⟨_, Try.sizeOf35 w⟩) rfl (by kernel_rfl) H) (fun x36 H => ?_)
        refine lm_f (d := some 37) (by kernel_rfl) rfl (by kernel_rfl) (by kernel_rfl) (by kernel_rfl) (by rw [hb]; kernel_rfl) (of_eq (y_ld Try.isAgg35 (by kernel_rfl) H)) (fun x37 H => ?_)
        refine lm_d (d := some 38) (by kernel_rfl) rfl (by kernel_rfl) (by kernel_rfl) (by rw [hb]; kernel_rfl) HA_2 (d_call (by kernel_rfl) (by kernel_rfl) H) (fun x38 h_1 w_4 H HA_4 => ?_)
        refine lm_al (x := x38) (d := some 39) (by kernel_rfl) rfl (by kernel_rfl) (by kernel_rfl) (al_pick_t (by rw [hb]; kernel_rfl) (by kernel_rfl)) ?_
        refine lm_nil ?_
        exact ⟨(fun i => ([x0, x31, x32, x33, x1, x35, x36, x37, x38]).getD i undef), x38, h_1, by kernel_rfl, HA_4, H⟩
      · refine lm_skip (d := some 30) (by kernel_rfl) rfl (by rw [hb]; kernel_rfl) ?_
        refine lm_skip (d := some 31) (by kernel_rfl) rfl (by rw [hb]; kernel_rfl) ?_
        refine lm_skip (d := some 32) (by kernel_rfl) rfl (by rw [hb]; kernel_rfl) ?_
        refine lm_skip (d := some 33) (by kernel_rfl) rfl (by rw [hb]; kernel_rfl) ?_
        refine lm_skip (d := some 34) (by kernel_rfl) rfl (by rw [hb]; kernel_rfl) ?_
        refine lm_fr (b := ⟨#[x0, x1, undef, undef, (.bool false), x1, x6, x6, (D 0), (D 1), (D 2), (D 3), (D 4), (D 5), (D 6), (D 7), (D 8), x17, x17, (D_1 0), (D_1 1), (D_1 2), (D_1 3), (D_1 4), (D_1 5), (D_1 6), (D_1 7), (D_1 8), x28, x28, undef, undef, undef, undef, undef, undef, undef, undef, undef, undef], []⟩) (by kernel_rfl) ?_
        refine lm_skip (d := some 35) (by kernel_rfl) rfl (by rw [hb]; kernel_rfl) ?_
        refine lm_skip (d := some 36) (by kernel_rfl) rfl (by rw [hb]; kernel_rfl) ?_
        refine lm_skip (d := some 37) (by kernel_rfl) rfl (by rw [hb]; kernel_rfl) ?_
        refine lm_skip (d := some 38) (by kernel_rfl) rfl (by rw [hb]; kernel_rfl) ?_
        refine lm_al (x := (.bool false)) (d := some 39) (by kernel_rfl) rfl (by kernel_rfl) (by kernel_rfl) (al_pick_f (by rw [hb]; kernel_rfl) (by kernel_rfl)) ?_
        refine lm_nil ?_
        exact ⟨(fun i => ([undef, undef, undef, undef, undef, undef, undef, undef, undef]).getD i undef), (.bool false), h, by kernel_rfl, HA_2, H⟩
      · rintro _ w_3 ⟨D_2, x39, h, rfl, HA_3, H⟩
        refine lm_al (x := x39) (d := some 4) (by kernel_rfl) rfl (by kernel_rfl) (by kernel_rfl) (al_assign (by kernel_rfl)) ?_
        refine lm_nil ?_
        refine then_normal ?_
        refine fr_eq (b := ⟨#[x0, x1, undef, undef, x39, x1, x6, x6, (D 0), (D 1), (D 2), (D 3), (D 4), (D 5), (D 6), (D 7), (D 8), x17, x17, (D_1 0), (D_1 1), (D_1 2), (D_1 3), (D_1 4), (D_1 5), (D_1 6), (D_1 7), (D_1 8), x28, x28, (D_2 0), (D_2 1), (D_2 2), (D_2 3), (D_2 4), (D_2 5), (D_2 6), (D_2 7), (D_2 8), x39], []⟩) (by kernel_rfl) ?_
        refine wp_ret ?_
        exact end1 (Try.results27) (by kernel_rfl) (by kernel_rfl) HA_3 H _ (.inr rfl)

end Go.Proofs.Ythhpieidlpjbmaa
