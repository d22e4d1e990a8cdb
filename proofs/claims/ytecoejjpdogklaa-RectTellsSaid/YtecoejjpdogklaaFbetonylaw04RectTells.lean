/- The shallow reading of one function, and that the function does it. Written by a program. -/
import Derived.Test.YtecoejjpdogklaaFnC
set_option linter.unusedVariables false
namespace Go.Proofs.Ytecoejjpdogklaa
open Go Go.HW

def betonylaw04_RectTells_S (x0 x1 : Value) (h : Heap) (R : Value → Heap → Prop) : Prop :=
  sBox h x0 35 fun x2 h => 
  sBox h x1 35 fun x3 h_1 => 
  ∃ C : Heap → Prop, C h_1 ∧ (sLdNC C x2 4 fun x5 =>
  rect_Right_c x5 h_1 fun x6 h_2 => C h_2 ∧ (
  sLdNC C x2 4 fun x7 =>
  betonyref04_Right_c x7 h_2 fun x8 h_3 => C h_3 ∧ (
  sEqlB x6 x8 fun x9 =>
  sAndH x9 h_3 (fun k_5 =>
  sLdNC C x2 4 fun x11 =>
  rect_Empty_c x11 h_3 fun x12 h_20 => C h_20 ∧ (
  sOff x2 2 fun x13 =>
  sLdC C x13 fun x14 =>
  sLt x14 (.int .i64 1) fun x15 =>
  sOr x15 (fun k_6 =>
  sOff x2 3 fun x17 =>
  sLdC C x17 fun x18 =>
  sLt x18 (.int .i64 1) fun x19 =>
  k_6 x19) fun x20 =>
  sEqlB x12 x20 fun x21 =>
  k_5 x21 h_20)) fun x22 h_4 =>
  sAndH x22 h_4 (fun k_4 =>
  sLdNC C x2 4 fun x24 =>
  sLdNC C x3 4 fun x25 =>
  rect_Both_c x24 x25 h_4 fun x26 h_18 => C h_18 ∧ (
  sLdNC C x2 4 fun x27 =>
  sLdNC C x3 4 fun x28 =>
  betonyref04_Both_c x27 x28 h_18 fun x29 h_19 => C h_19 ∧ (
  sEqlAgg x26 x29 [some .i64, some .i64, some .i64, some .i64] fun x30 =>
  k_4 x30 h_19))) fun x31 h_5 =>
  sAndH x31 h_5 (fun k_3 =>
  sLdNC C x2 4 fun x33 =>
  sLdNC C x3 4 fun x34 =>
  rect_Has_c x33 x34 h_5 fun x35 h_16 => C h_16 ∧ (
  sLdNC C x2 4 fun x36 =>
  sLdNC C x3 4 fun x37 =>
  betonyref04_Has_c x36 x37 h_16 fun x38 h_17 => C h_17 ∧ (
  sEqlB x35 x38 fun x39 =>
  k_3 x39 h_17))) fun x40 h_6 =>
  sAndH x40 h_6 (fun k_2 =>
  sLdNC C x2 4 fun x42 =>
  rect_Area_c x42 h_6 fun x43 h_14 => C h_14 ∧ (
  sLdNC C x2 4 fun x44 =>
  betonyref04_Area_c x44 h_14 fun x45 h_15 => C h_15 ∧ (
  sEq x43 x45 fun x46 =>
  k_2 x46 h_15))) fun x47 h_7 =>
  sAndH x47 h_7 (fun k_1 =>
  sLdNC C x2 4 fun x49 =>
  sLdNC C x3 4 fun x50 =>
  rect_Less_c x49 x50 h_7 fun x51 h_11 => C h_11 ∧ (
  sLdNC C x2 4 fun x52 =>
  sLdNC C x3 4 fun x53 =>
  betonyref04_Less_c x52 x53 h_11 fun x54 h_12 => 
  betonyref04_SameAll_c x51 x54 h_12 fun x55 h_13 => 
  k_1 x55 h_13)) fun x56 h_8 =>
  sAndH x56 h_8 (fun k =>
  betonylaw04_awake_c  h_8 fun x58 h_10 => 
  k x58 h_10) fun x59 h_9 =>
  R x59 h_9)))
set_option maxRecDepth 100000 in
theorem betonylaw04_RectTells_runs {x0 x1 : Value} {h : Heap} {R : Value → Heap → Prop} (H : betonylaw04_RectTells_S x0 x1 h R) : betonylaw04_RectTells_c x0 x1 h R := by
  unfold betonylaw04_RectTells_S at H
  refine runs_of (b := ⟨#[x0, x1, undef, undef, undef, undef, undef, undef, undef, undef, undef, undef, undef, undef, undef, undef, undef, undef, undef, undef, undef, undef, undef, undef, undef, undef, undef, undef, undef, undef, undef, undef, undef, undef, undef, undef, undef, undef, undef, undef, undef, undef, undef, undef, undef, undef, undef, undef, undef, undef, undef, undef, undef, undef, undef, undef, undef, undef, undef, undef], []⟩) Try.call13 Try.func13 rfl (by kernel_rfl) (fun w0 HA => ?_)
  refine wp_seq ?_
  refine lwp_list ?_
  refine ls_d (d := some 2) (by kernel_rfl) (by kernel_rfl) HA (d_box (by kernel_rfl) H) (fun x2 h w H HA => ?_)
  refine ls_d (d := some 3) (by kernel_rfl) (by kernel_rfl) HA (d_box (by kernel_rfl) H) (fun x3 h_1 w_1 H HA_1 => ?_)
  refine ls_assign (x := (.bool false)) (by kernel_rfl) (by kernel_rfl) ?_
  refine ls_nil ?_
  refine then_normal ?_
  refine fr_eq (b := ⟨#[x0, x1, x2, x3, (.bool false), undef, undef, undef, undef, undef, undef, undef, undef, undef, undef, undef, undef, undef, undef, undef, undef, undef, undef, undef, undef, undef, undef, undef, undef, undef, undef, undef, undef, undef, undef, undef, undef, undef, undef, undef, undef, undef, undef, undef, undef, undef, undef, undef, undef, undef, undef, undef, undef, undef, undef, undef, undef, undef, undef, undef], []⟩) (by kernel_rfl) ?_
  refine wp_seq ?_
  obtain ⟨C, HC, H⟩ := H
  refine lwp_mx (Nat.testBit 10767801931268234) (Nat.testBit 71752816263306) (Nat.testBit 60814108626771248) [0, 1, 0, 7, 15, 31, 63, 127, 63, 319, 831, 2047, 4095, 8191, 16383, 32767, 65535, 131071, 262143, 524287, 524287, 2097151, 524287, 524287, 16777215, 33554431, 67108863, 134217727, 268435455, 268435455, 1073741823, 268435455, 268435455, 8589934591, 17179869183, 34359738367, 68719476735, 137438953471, 274877906943, 137438953471, 1099511627775, 2199023255551, 4398046511103, 8796093022207, 17592186044415, 17592186044415, 70368744177663, 17592186044415, 17592186044415, 562949953421311, 1125899906842623, 2251799813685247, 4503599627370495, 9007199254740991, 18014398509481983, 36028797018963967] C [0, 1, 2, 3, 4, 5, 6, 7, 8, 9, 10, 11, 12, 13, 14, 15, 16, 17, 18, 19, 20, 21, 22, 23, 24, 25, 26, 27, 28, 29, 30, 31, 32, 33, 34, 35, 36, 37, 38, 39, 40, 41, 42, 43, 44, 45, 46, 47, 48, 49, 50, 51, 52, 53, 54, 55] (by kernel_rfl) (by kernel_rfl) (by kernel_rfl) HA_1 HC ?_
  intro w_2 HA_2
  refine lm_f (d := some 5) (by kernel_rfl) rfl (by kernel_rfl) (by kernel_rfl) (by kernel_rfl) (c_ldn Try.isAgg35 Try.sizeOf35 (by kernel_rfl) H) (fun x5 H => ?_)
  refine lm_dc (d := some 6) (by kernel_rfl) rfl (by kernel_rfl) (by kernel_rfl) HA_2 (d_call (by kernel_rfl) (by kernel_rfl) H) (fun x6 h_2 w_3 H HA_3 => ?_)
  refine lm_f (d := some 7) (by kernel_rfl) rfl (by kernel_rfl) (by kernel_rfl) (by kernel_rfl) (c_ldn Try.isAgg35 Try.sizeOf35 (by kernel_rfl) H) (fun x7 H => ?_)
  refine lm_dc (d := some 8) (by kernel_rfl) rfl (by kernel_rfl) (by kernel_rfl) HA_3 (d_call (by kernel_rfl) (by kernel_rfl) H) (fun x8 h_3 w_4 H HA_4 => ?_)
  refine lm_p (d := some 9) (by kernel_rfl) rfl (by kernel_rfl) (by kernel_rfl) (p_eqlB Try.underlying4 (by kernel_rfl) (by kernel_rfl) H) (fun x9 H => ?_)
  refine lm_al (x := x9) (d := some 10) (by kernel_rfl) rfl (by kernel_rfl) (by kernel_rfl) (al_move (by kernel_rfl)) ?_
  refine lm_fr (b := ⟨#[x0, x1, x2, x3, (.bool false), x5, x6, x7, x8, x9, x9, undef, undef, undef, undef, undef, undef, undef, undef, undef, undef, undef, undef, undef, undef, undef, undef, undef, undef, undef, undef, undef, undef, undef, undef, undef, undef, undef, undef, undef, undef, undef, undef, undef, undef, undef, undef, undef, undef, undef, undef, undef, undef, undef, undef, undef, undef, undef, undef, undef], []⟩) (by kernel_rfl) ?_
  refine lm_andh [(), (), (), (), (), (), (), (), (), (), (), ()] (fun K a w => ∃ (D : Nat → Value) (x22 : Value) (h_4 : Heap), a = ⟨#[x0, x1, x2, x3, (.bool false), x5, x6, x7, x8, x9, x9, (D 0), (D 1), (D 2), (D 3), (D 4), (D 5), (D 6), (D 7), (D 8), (D 9), (D 10), x22, undef, undef, undef, undef, undef, undef, undef, undef, undef, undef, undef, undef, undef, undef, undef, undef, undef, undef, undef, undef, undef, undef, undef, undef, undef, undef, undef, undef, undef, undef, undef, undef, undef, undef, undef, undef, undef], []⟩ ∧ At w0 w h_4 ∧ K x22 h_4) H (fun hb_5 H => ?_) (fun hb_5 H => ?_) ?_
  · refine lm_f (d := some 11) (by kernel_rfl) rfl (by kernel_rfl) (by kernel_rfl) (by rw [hb_5]; kernel_rfl) (c_ldn Try.isAgg35 Try.sizeOf35 (by kernel_rfl) H) (fun x11 H => ?_)
    refine lm_dc (d := some 12) (by kernel_rfl) rfl (by kernel_rfl) (by rw [hb_5]; kernel_rfl) HA_4 (d_call (by kernel_rfl) (by kernel_rfl) H) (fun x12 h_20 w_21 H HA_21 => ?_)
    refine lm_p (d := some 13) (by kernel_rfl) rfl (by kernel_rfl) (by rw [hb_5]; kernel_rfl) (p_off Try.underlying35 rfl (fun w => ⟨_, Try.sizeOf3 w⟩) rfl (by kernel_rfl) H) (fun x13 H => ?_)
    refine lm_f (d := some 14) (by kernel_rfl) rfl (by kernel_rfl) (by kernel_rfl) (by rw [hb_5]; kernel_rfl) (c_ld Try.isAgg3 (by kernel_rfl) H) (fun x14 H => ?_)
    refine lm_p (d := some 15) (by kernel_rfl) rfl (by kernel_rfl) (by rw [hb_5]; kernel_rfl) (p_sLt (by kernel_rfl) (by kernel_rfl) H) (fun x15 H => ?_)
    refine lm_al (x := x15) (d := some 16) (by kernel_rfl) rfl (by kernel_rfl) (by rw [hb_5]; kernel_rfl) (al_move (by kernel_rfl)) ?_
    refine lm_fr (b := ⟨#[x0, x1, x2, x3, (.bool false), x5, x6, x7, x8, x9, x9, x11, x12, x13, x14, x15, x15, undef, undef, undef, undef, undef, undef, undef, undef, undef, undef, undef, undef, undef, undef, undef, undef, undef, undef, undef, undef, undef, undef, undef, undef, undef, undef, undef, undef, undef, undef, undef, undef, undef, undef, undef, undef, undef, undef, undef, undef, undef, undef, undef], []⟩) (by kernel_rfl) ?_
    refine lm_or [(), (), (), ()] (fun K a w => ∃ (D_6 : Nat → Value) (x20 : Value), a = ⟨#[x0, x1, x2, x3, (.bool false), x5, x6, x7, x8, x9, x9, x11, x12, x13, x14, x15, x15, (D_6 0), (D_6 1), (D_6 2), x20, undef, undef, undef, undef, undef, undef, undef, undef, undef, undef, undef, undef, undef, undef, undef, undef, undef, undef, undef, undef, undef, undef, undef, undef, undef, undef, undef, undef, undef, undef, undef, undef, undef, undef, undef, undef, undef, undef, undef], []⟩ ∧ At w0 w h_20 ∧ K x20) H (fun hb_6 H => ?_) (fun hb_6 H => ?_) ?_
    · refine lm_p (d := some 17) (by kernel_rfl) rfl (by kernel_rfl) (by rw [hb_6]; kernel_rfl) (p_off Try.underlying35 rfl (fun w => ⟨_, Try.sizeOf3 w⟩) rfl (by kernel_rfl) H) (fun x17 H => ?_)
      refine lm_f (d := some 18) (by kernel_rfl) rfl (by kernel_rfl) (by kernel_rfl) (by rw [hb_6]; kernel_rfl) (c_ld Try.isAgg3 (by kernel_rfl) H) (fun x18 H => ?_)
      refine lm_p (d := some 19) (by kernel_rfl) rfl (by kernel_rfl) (by rw [hb_6]; kernel_rfl) (p_sLt (by kernel_rfl) (by kernel_rfl) H) (fun x19 H => ?_)
      refine lm_al (x := x19) (d := some 20) (by kernel_rfl) rfl (by kernel_rfl) (by rw [hb_5]; kernel_rfl) (al_pick_f (by rw [hb_6]; kernel_rfl) (by kernel_rfl)) ?_
      refine lm_nil ?_
      exact ⟨(fun i => ([x17, x18, x19]).getD i undef), x19, by kernel_rfl, HA_21, H⟩
    · refine lm_skip (d := some 17) (by kernel_rfl) rfl (by rw [hb_6]; kernel_rfl) ?_
      refine lm_skip (d := some 18) (by kernel_rfl) rfl (by rw [hb_6]; kernel_rfl) ?_
      refine lm_skip (d := some 19) (by kernel_rfl) rfl (by rw [hb_6]; kernel_rfl) ?_
      refine lm_al (x := (.bool true)) (d := some 20) (by kernel_rfl) rfl (by kernel_rfl) (by rw [hb_5]; kernel_rfl) (al_pick_t (by rw [hb_6]; kernel_rfl) (by kernel_rfl)) ?_
      refine lm_nil ?_
      exact ⟨(fun i => ([undef, undef, undef]).getD i undef), (.bool true), by kernel_rfl, HA_21, H⟩
    · rintro _ w_22 ⟨D_6, x20, rfl, HA_22, H⟩
      refine lm_p (d := some 21) (by kernel_rfl) rfl (by kernel_rfl) (by rw [hb_5]; kernel_rfl) (p_eqlB Try.underlying4 (by kernel_rfl) (by kernel_rfl) H) (fun x21 H => ?_)
      refine lm_al (x := x21) (d := some 22) (by kernel_rfl) rfl (by kernel_rfl) (by kernel_rfl) (al_pick_t (by rw [hb_5]; kernel_rfl) (by kernel_rfl)) ?_
      refine lm_nil ?_
      exact ⟨(fun i => ([x11, x12, x13, x14, x15, x15, (D_6 0), (D_6 1), (D_6 2), x20, x21]).getD i undef), x21, h_20, by kernel_rfl, HA_22, H⟩
  · refine lm_skip (d := some 11) (by kernel_rfl) rfl (by rw [hb_5]; kernel_rfl) ?_
    refine lm_skip (d := some 12) (by kernel_rfl) rfl (by rw [hb_5]; kernel_rfl) ?_
    refine lm_skip (d := some 13) (by kernel_rfl) rfl (by rw [hb_5]; kernel_rfl) ?_
    refine lm_skip (d := some 14) (by kernel_rfl) rfl (by rw [hb_5]; kernel_rfl) ?_
    refine lm_skip (d := some 15) (by kernel_rfl) rfl (by rw [hb_5]; kernel_rfl) ?_
    refine lm_skip (d := some 16) (by kernel_rfl) rfl (by rw [hb_5]; kernel_rfl) ?_
    refine lm_fr (b := ⟨#[x0, x1, x2, x3, (.bool false), x5, x6, x7, x8, x9, x9, undef, undef, undef, undef, undef, undef, undef, undef, undef, undef, undef, undef, undef, undef, undef, undef, undef, undef, undef, undef, undef, undef, undef, undef, undef, undef, undef, undef, undef, undef, undef, undef, undef, undef, undef, undef, undef, undef, undef, undef, undef, undef, undef, undef, undef, undef, undef, undef, undef], []⟩) (by kernel_rfl) ?_
    refine lm_skip (d := some 17) (by kernel_rfl) rfl (by kernel_rfl) ?_
    refine lm_skip (d := some 18) (by kernel_rfl) rfl (by kernel_rfl) ?_
    refine lm_skip (d := some 19) (by kernel_rfl) rfl (by kernel_rfl) ?_
    refine lm_skip (d := some 20) (by kernel_rfl) rfl (by rw [hb_5]; kernel_rfl) ?_
    refine lm_skip (d := some 21) (by kernel_rfl) rfl (by rw [hb_5]; kernel_rfl) ?_
    refine lm_al (x := (.bool false)) (d := some 22) (by kernel_rfl) rfl (by kernel_rfl) (by kernel_rfl) (al_pick_f (by rw [hb_5]; kernel_rfl) (by kernel_rfl)) ?_
    refine lm_nil ?_
    exact ⟨(fun i => ([undef, undef, undef, undef, undef, undef, undef, undef, undef, undef, undef]).getD i undef), (.bool false), h_3, by kernel_rfl, HA_4, H⟩
  · rintro _ w_5 ⟨D, x22, h_4, rfl, HA_5, H⟩
    refine lm_al (x := x22) (d := some 23) (by kernel_rfl) rfl (by kernel_rfl) (by kernel_rfl) (al_move (by kernel_rfl)) ?_
    refine lm_andh [(), (), (), (), (), (), (), ()] (fun K a w => ∃ (D_1 : Nat → Value) (x31 : Value) (h_5 : Heap), a = ⟨#[x0, x1, x2, x3, (.bool false), x5, x6, x7, x8, x9, x9, (D 0), (D 1), (D 2), (D 3), (D 4), (D 5), (D 6), (D 7), (D 8), (D 9), (D 10), x22, x22, (D_1 0), (D_1 1), (D_1 2), (D_1 3), (D_1 4), (D_1 5), (D_1 6), x31, undef, undef, undef, undef, undef, undef, undef, undef, undef, undef, undef, undef, undef, undef, undef, undef, undef, undef, undef, undef, undef, undef, undef, undef, undef, undef, undef, undef], []⟩ ∧ At w0 w h_5 ∧ K x31 h_5) H (fun hb_4 H => ?_) (fun hb_4 H => ?_) ?_
    · refine lm_f (d := some 24) (by kernel_rfl) rfl (by kernel_rfl) (by kernel_rfl) (by rw [hb_4]; kernel_rfl) (c_ldn Try.isAgg35 Try.sizeOf35 (by kernel_rfl) H) (fun x24 H => ?_)
      refine lm_f (d := some 25) (by kernel_rfl) rfl (by kernel_rfl) (by kernel_rfl) (by rw [hb_4]; kernel_rfl) (c_ldn Try.isAgg35 Try.sizeOf35 (by kernel_rfl) H) (fun x25 H => ?_)
      refine lm_dc (d := some 26) (by kernel_rfl) rfl (by kernel_rfl) (by rw [hb_4]; kernel_rfl) HA_5 (d_call (by kernel_rfl) (by kernel_rfl) H) (fun x26 h_18 w_19 H HA_19 => ?_)
      refine lm_f (d := some 27) (by kernel_rfl) rfl (by kernel_rfl) (by kernel_rfl) (by rw [hb_4]; kernel_rfl) (c_ldn Try.isAgg35 Try.sizeOf35 (by kernel_rfl) H) (fun x27 H => ?_)
      refine lm_f (d := some 28) (by kernel_rfl) rfl (by kernel_rfl) (by kernel_rfl) (by rw [hb_4]; kernel_rfl) (c_ldn Try.isAgg35 Try.sizeOf35 (by kernel_rfl) H) (fun x28 H => ?_)
      refine lm_fr (b := ⟨#[x0, x1, x2, x3, (.bool false), x5, x6, x7, x8, x9, x9, (D 0), (D 1), (D 2), (D 3), (D 4), (D 5), (D 6), (D 7), (D 8), (D 9), (D 10), x22, x22, x24, x25, x26, x27, x28, undef, undef, undef, undef, undef, undef, undef, undef, undef, undef, undef, undef, undef, undef, undef, undef, undef, undef, undef, undef, undef, undef, undef, undef, undef, undef, undef, undef, undef, undef, undef], []⟩) (by kernel_rfl) ?_
      refine lm_dc (d := some 29) (by kernel_rfl) rfl (by kernel_rfl) (by rw [hb_4]; kernel_rfl) HA_19 (d_call (by kernel_rfl) (by kernel_rfl) H) (fun x29 h_19 w_20 H HA_20 => ?_)
      refine lm_p (d := some 30) (by kernel_rfl) rfl (by kernel_rfl) (by rw [hb_4]; kernel_rfl) (p_eqlAgg (eqT_35) (by kernel_rfl) (by kernel_rfl) H) (fun x30 H => ?_)
      refine lm_al (x := x30) (d := some 31) (by kernel_rfl) rfl (by kernel_rfl) (by kernel_rfl) (al_pick_t (by rw [hb_4]; kernel_rfl) (by kernel_rfl)) ?_
      refine lm_nil ?_
      exact ⟨(fun i => ([x24, x25, x26, x27, x28, x29, x30]).getD i undef), x30, h_19, by kernel_rfl, HA_20, H⟩
    · refine lm_skip (d := some 24) (by kernel_rfl) rfl (by rw [hb_4]; kernel_rfl) ?_
      refine lm_skip (d := some 25) (by kernel_rfl) rfl (by rw [hb_4]; kernel_rfl) ?_
      refine lm_skip (d := some 26) (by kernel_rfl) rfl (by rw [hb_4]; kernel_rfl) ?_
      refine lm_skip (d := some 27) (by kernel_rfl) rfl (by rw [hb_4]; kernel_rfl) ?_
      refine lm_skip (d := some 28) (by kernel_rfl) rfl (by rw [hb_4]; kernel_rfl) ?_
      refine lm_fr (b := ⟨#[x0, x1, x2, x3, (.bool false), x5, x6, x7, x8, x9, x9, (D 0), (D 1), (D 2), (D 3), (D 4), (D 5), (D 6), (D 7), (D 8), (D 9), (D 10), x22, x22, undef, undef, undef, undef, undef, undef, undef, undef, undef, undef, undef, undef, undef, undef, undef, undef, undef, undef, undef, undef, undef, undef, undef, undef, undef, undef, undef, undef, undef, undef, undef, undef, undef, undef, undef, undef], []⟩) (by kernel_rfl) ?_
      refine lm_skip (d := some 29) (by kernel_rfl) rfl (by rw [hb_4]; kernel_rfl) ?_
      refine lm_skip (d := some 30) (by kernel_rfl) rfl (by rw [hb_4]; kernel_rfl) ?_
      refine lm_al (x := (.bool false)) (d := some 31) (by kernel_rfl) rfl (by kernel_rfl) (by kernel_rfl) (al_pick_f (by rw [hb_4]; kernel_rfl) (by kernel_rfl)) ?_
      refine lm_nil ?_
      exact ⟨(fun i => ([undef, undef, undef, undef, undef, undef, undef]).getD i undef), (.bool false), h_4, by kernel_rfl, HA_5, H⟩
    · rintro _ w_6 ⟨D_1, x31, h_5, rfl, HA_6, H⟩
      refine lm_al (x := x31) (d := some 32) (by kernel_rfl) rfl (by kernel_rfl) (by kernel_rfl) (al_move (by kernel_rfl)) ?_
      refine lm_andh [(), (), (), (), (), (), (), ()] (fun K a w => ∃ (D_2 : Nat → Value) (x40 : Value) (h_6 : Heap), a = ⟨#[x0, x1, x2, x3, (.bool false), x5, x6, x7, x8, x9, x9, (D 0), (D 1), (D 2), (D 3), (D 4), (D 5), (D 6), (D 7), (D 8), (D 9), (D 10), x22, x22, (D_1 0), (D_1 1), (D_1 2), (D_1 3), (D_1 4), (D_1 5), (D_1 6), x31, x31, (D_2 0), (D_2 1), (D_2 2), (D_2 3), (D_2 4), (D_2 5), (D_2 6), x40, undef, undef, undef, undef, undef, undef, undef, undef, undef, undef, undef, undef, undef, undef, undef, undef, undef, undef, undef], []⟩ ∧ At w0 w h_6 ∧ K x40 h_6) H (fun hb_3 H => ?_) (fun hb_3 H => ?_) ?_
      · refine lm_f (d := some 33) (by kernel_rfl) rfl (by kernel_rfl) (by kernel_rfl) (by rw [hb_3]; kernel_rfl) (c_ldn Try.isAgg35 Try.sizeOf35 (by kernel_rfl) H) (fun x33 H => ?_)
        refine lm_f (d := some 34) (by kernel_rfl) rfl (by kernel_rfl) (by kernel_rfl) (by rw [hb_3]; kernel_rfl) (c_ldn Try.isAgg35 Try.sizeOf35 (by kernel_rfl) H) (fun x34 H => ?_)
        refine lm_dc (d := some 35) (by kernel_rfl) rfl (by kernel_rfl) (by rw [hb_3]; kernel_rfl) HA_6 (d_call (by kernel_rfl) (by kernel_rfl) H) (fun x35 h_16 w_17 H HA_17 => ?_)
        refine lm_f (d := some 36) (by kernel_rfl) rfl (by kernel_rfl) (by kernel_rfl) (by rw [hb_3]; kernel_rfl) (c_ldn Try.isAgg35 Try.sizeOf35 (by kernel_rfl) H) (fun x36 H => ?_)
        refine lm_f (d := some 37) (by kernel_rfl) rfl (by kernel_rfl) (by kernel_rfl) (by rw [hb_3]; kernel_rfl) (c_ldn Try.isAgg35 Try.sizeOf35 (by kernel_rfl) H) (fun x37 H => ?_)
        refine lm_fr (b := ⟨#[x0, x1, x2, x3, (.bool false), x5, x6, x7, x8, x9, x9, (D 0), (D 1), (D 2), (D 3), (D 4), (D 5), (D 6), (D 7), (D 8), (D 9), (D 10), x22, x22, (D_1 0), (D_1 1), (D_1 2), (D_1 3), (D_1 4), (D_1 5), (D_1 6), x31, x31, x33, x34, x35, x36, x37, undef, undef, undef, undef, undef, undef, undef, undef, undef, undef, undef, undef, undef, undef, undef, undef, undef, undef, undef, undef, undef, undef], []⟩) (by kernel_rfl) ?_
        refine lm_dc (d := some 38) (by kernel_rfl) rfl (by kernel_rfl) (by rw [hb_3]; kernel_rfl) HA_17 (d_call (by kernel_rfl) (by kernel_rfl) H) (fun x38 h_17 w_18 H HA_18 => ?_)
        refine lm_p (d := some 39) (by kernel_rfl) rfl (by kernel_rfl) (by rw [hb_3]; kernel_rfl) (p_eqlB Try.underlying4 (by kernel_rfl) (by kernel_rfl) H) (fun x39 H => ?_)
        refine lm_al (x := x39) (d := some 40) (by kernel_rfl) rfl (by kernel_rfl) (by kernel_rfl) (al_pick_t (by rw [hb_3]; kernel_rfl) (by kernel_rfl)) ?_
        refine lm_nil ?_
        exact ⟨(fun i => ([x33, x34, x35, x36, x37, x38, x39]).getD i undef), x39, h_17, by kernel_rfl, HA_18, H⟩
      · refine lm_skip (d := some 33) (by kernel_rfl) rfl (by rw [hb_3]; kernel_rfl) ?_
        refine lm_skip (d := some 34) (by kernel_rfl) rfl (by rw [hb_3]; kernel_rfl) ?_
        refine lm_skip (d := some 35) (by kernel_rfl) rfl (by rw [hb_3]; kernel_rfl) ?_
        refine lm_skip (d := some 36) (by kernel_rfl) rfl (by rw [hb_3]; kernel_rfl) ?_
        refine lm_skip (d := some 37) (by kernel_rfl) rfl (by rw [hb_3]; kernel_rfl) ?_
        refine lm_fr (b := ⟨#[x0, x1, x2, x3, (.bool false), x5, x6, x7, x8, x9, x9, (D 0), (D 1), (D 2), (D 3), (D 4), (D 5), (D 6), (D 7), (D 8), (D 9), (D 10), x22, x22, (D_1 0), (D_1 1), (D_1 2), (D_1 3), (D_1 4), (D_1 5), (D_1 6), x31, x31, undef, undef, undef, undef, undef, undef, undef, undef, undef, undef, undef, undef, undef, undef, undef, undef, undef, undef, undef, undef, undef, undef, undef, undef, undef, undef, undef], []⟩) (by kernel_rfl) ?_
        refine lm_skip (d := some 38) (by kernel_rfl) rfl (by rw [hb_3]; kernel_rfl) ?_
        refine lm_skip (d := some 39) (by kernel_rfl) rfl (by rw [hb_3]; kernel_rfl) ?_
        refine lm_al (x := (.bool false)) (d := some 40) (by kernel_rfl) rfl (by kernel_rfl) (by kernel_rfl) (al_pick_f (by rw [hb_3]; kernel_rfl) (by kernel_rfl)) ?_
        refine lm_nil ?_
        exact ⟨(fun i => ([undef, undef, undef, undef, undef, undef, undef]).getD i undef), (.bool false), h_5, by kernel_rfl, HA_6, H⟩
      · rintro _ w_7 ⟨D_2, x40, h_6, rfl, HA_7, H⟩
        refine lm_al (x := x40) (d := some 41) (by kernel_rfl) rfl (by kernel_rfl) (by kernel_rfl) (al_move (by kernel_rfl)) ?_
        refine lm_andh [(), (), (), (), (), ()] (fun K a w => ∃ (D_3 : Nat → Value) (x47 : Value) (h_7 : Heap), a = ⟨#[x0, x1, x2, x3, (.bool false), x5, x6, x7, x8, x9, x9, (D 0), (D 1), (D 2), (D 3), (D 4), (D 5), (D 6), (D 7), (D 8), (D 9), (D 10), x22, x22, (D_1 0), (D_1 1), (D_1 2), (D_1 3), (D_1 4), (D_1 5), (D_1 6), x31, x31, (D_2 0), (D_2 1), (D_2 2), (D_2 3), (D_2 4), (D_2 5), (D_2 6), x40, x40, (D_3 0), (D_3 1), (D_3 2), (D_3 3), (D_3 4), x47, undef, undef, undef, undef, undef, undef, undef, undef, undef, undef, undef, undef], []⟩ ∧ At w0 w h_7 ∧ K x47 h_7) H (fun hb_2 H => ?_) (fun hb_2 H => ?_) ?_
        · refine lm_f (d := some 42) (by kernel_rfl) rfl (by kernel_rfl) (by kernel_rfl) (by rw [hb_2]; kernel_rfl) (c_ldn Try.isAgg35 Try.sizeOf35 (by kernel_rfl) H) (fun x42 H => ?_)
          refine lm_dc (d := some 43) (by kernel_rfl) rfl (by kernel_rfl) (by rw [hb_2]; kernel_rfl) HA_7 (d_call (by kernel_rfl) (by kernel_rfl) H) (fun x43 h_14 w_15 H HA_15 => ?_)
          refine lm_f (d := some 44) (by kernel_rfl) rfl (by kernel_rfl) (by kernel_rfl) (by rw [hb_2]; kernel_rfl) (c_ldn Try.isAgg35 Try.sizeOf35 (by kernel_rfl) H) (fun x44 H => ?_)
          refine lm_dc (d := some 45) (by kernel_rfl) rfl (by kernel_rfl) (by rw [hb_2]; kernel_rfl) HA_15 (d_call (by kernel_rfl) (by kernel_rfl) H) (fun x45 h_15 w_16 H HA_16 => ?_)
          refine lm_p (d := some 46) (by kernel_rfl) rfl (by kernel_rfl) (by rw [hb_2]; kernel_rfl) (p_sEq (by kernel_rfl) (by kernel_rfl) H) (fun x46 H => ?_)
          refine lm_fr (b := ⟨#[x0, x1, x2, x3, (.bool false), x5, x6, x7, x8, x9, x9, (D 0), (D 1), (D 2), (D 3), (D 4), (D 5), (D 6), (D 7), (D 8), (D 9), (D 10), x22, x22, (D_1 0), (D_1 1), (D_1 2), (D_1 3), (D_1 4), (D_1 5), (D_1 6), x31, x31, (D_2 0), (D_2 1), (D_2 2), (D_2 3), (D_2 4), (D_2 5), (D_2 6), x40, x40, x42, x43, x44, x45, x46, undef, undef, undef, undef, undef, undef, undef, undef, undef, undef, undef, undef, undef], []⟩) (by kernel_rfl) ?_
          refine lm_al (x := x46) (d := some 47) (by kernel_rfl) rfl (by kernel_rfl) (by kernel_rfl) (al_pick_t (by rw [hb_2]; kernel_rfl) (by kernel_rfl)) ?_
          refine lm_nil ?_
          exact ⟨(fun i => ([x42, x43, x44, x45, x46]).getD i undef), x46, h_15, by kernel_rfl, HA_16, H⟩
        · refine lm_skip (d := some 42) (by kernel_rfl) rfl (by rw [hb_2]; kernel_rfl) ?_
          refine lm_skip (d := some 43) (by kernel_rfl) rfl (by rw [hb_2]; kernel_rfl) ?_
          refine lm_skip (d := some 44) (by kernel_rfl) rfl (by rw [hb_2]; kernel_rfl) ?_
          refine lm_skip (d := some 45) (by kernel_rfl) rfl (by rw [hb_2]; kernel_rfl) ?_
          refine lm_skip (d := some 46) (by kernel_rfl) rfl (by rw [hb_2]; kernel_rfl) ?_
          refine lm_fr (b := ⟨#[x0, x1, x2, x3, (.bool false), x5, x6, x7, x8, x9, x9, (D 0), (D 1), (D 2), (D 3), (D 4), (D 5), (D 6), (D 7), (D 8), (D 9), (D 10), x22, x22, (D_1 0), (D_1 1), (D_1 2), (D_1 3), (D_1 4), (D_1 5), (D_1 6), x31, x31, (D_2 0), (D_2 1), (D_2 2), (D_2 3), (D_2 4), (D_2 5), (D_2 6), x40, x40, undef, undef, undef, undef, undef, undef, undef, undef, undef, undef, undef, undef, undef, undef, undef, undef, undef, undef], []⟩) (by kernel_rfl) ?_
          refine lm_al (x := (.bool false)) (d := some 47) (by kernel_rfl) rfl (by kernel_rfl) (by kernel_rfl) (al_pick_f (by rw [hb_2]; kernel_rfl) (by kernel_rfl)) ?_
          refine lm_nil ?_
          exact ⟨(fun i => ([undef, undef, undef, undef, undef]).getD i undef), (.bool false), h_6, by kernel_rfl, HA_7, H⟩
        · rintro _ w_8 ⟨D_3, x47, h_7, rfl, HA_8, H⟩
          refine lm_al (x := x47) (d := some 48) (by kernel_rfl) rfl (by kernel_rfl) (by kernel_rfl) (al_move (by kernel_rfl)) ?_
          refine lm_andh [(), (), (), (), (), (), (), ()] (fun K a w => ∃ (D_4 : Nat → Value) (x56 : Value) (h_8 : Heap), a = ⟨#[x0, x1, x2, x3, (.bool false), x5, x6, x7, x8, x9, x9, (D 0), (D 1), (D 2), (D 3), (D 4), (D 5), (D 6), (D 7), (D 8), (D 9), (D 10), x22, x22, (D_1 0), (D_1 1), (D_1 2), (D_1 3), (D_1 4), (D_1 5), (D_1 6), x31, x31, (D_2 0), (D_2 1), (D_2 2), (D_2 3), (D_2 4), (D_2 5), (D_2 6), x40, x40, (D_3 0), (D_3 1), (D_3 2), (D_3 3), (D_3 4), x47, x47, (D_4 0), (D_4 1), (D_4 2), (D_4 3), (D_4 4), (D_4 5), (D_4 6), x56, undef, undef, undef], []⟩ ∧ At w0 w h_8 ∧ K x56 h_8) H (fun hb_1 H => ?_) (fun hb_1 H => ?_) ?_
          · refine lm_f (d := some 49) (by kernel_rfl) rfl (by kernel_rfl) (by kernel_rfl) (by rw [hb_1]; kernel_rfl) (c_ldn Try.isAgg35 Try.sizeOf35 (by kernel_rfl) H) (fun x49 H => ?_)
            refine lm_f (d := some 50) (by kernel_rfl) rfl (by kernel_rfl) (by kernel_rfl) (by rw [hb_1]; kernel_rfl) (c_ldn Try.isAgg35 Try.sizeOf35 (by kernel_rfl) H) (fun x50 H => ?_)
            refine lm_dc (d := some 51) (by kernel_rfl) rfl (by kernel_rfl) (by rw [hb_1]; kernel_rfl) HA_8 (d_call (by kernel_rfl) (by kernel_rfl) H) (fun x51 h_11 w_12 H HA_12 => ?_)
            refine lm_f (d := some 52) (by kernel_rfl) rfl (by kernel_rfl) (by kernel_rfl) (by rw [hb_1]; kernel_rfl) (c_ldn Try.isAgg35 Try.sizeOf35 (by kernel_rfl) H) (fun x52 H => ?_)
            refine lm_f (d := some 53) (by kernel_rfl) rfl (by kernel_rfl) (by kernel_rfl) (by rw [hb_1]; kernel_rfl) (c_ldn Try.isAgg35 Try.sizeOf35 (by kernel_rfl) H) (fun x53 H => ?_)
            refine lm_fr (b := ⟨#[x0, x1, x2, x3, (.bool false), x5, x6, x7, x8, x9, x9, (D 0), (D 1), (D 2), (D 3), (D 4), (D 5), (D 6), (D 7), (D 8), (D 9), (D 10), x22, x22, (D_1 0), (D_1 1), (D_1 2), (D_1 3), (D_1 4), (D_1 5), (D_1 6), x31, x31, (D_2 0), (D_2 1), (D_2 2), (D_2 3), (D_2 4), (D_2 5), (D_2 6), x40, x40, (D_3 0), (D_3 1), (D_3 2), (D_3 3), (D_3 4), x47, x47, x49, x50, x51, x52, x53, undef, undef, undef, undef, undef, undef], []⟩) (by kernel_rfl) ?_
            refine lm_d (d := some 54) (by kernel_rfl) rfl (by kernel_rfl) (by kernel_rfl) (by rw [hb_1]; kernel_rfl) HA_12 (d_call (by kernel_rfl) (by kernel_rfl) H) (fun x54 h_12 w_13 H HA_13 => ?_)
            refine lm_d (d := some 55) (by kernel_rfl) rfl (by kernel_rfl) (by kernel_rfl) (by rw [hb_1]; kernel_rfl) HA_13 (d_call (by kernel_rfl) (by kernel_rfl) H) (fun x55 h_13 w_14 H HA_14 => ?_)
            refine lm_al (x := x55) (d := some 56) (by kernel_rfl) rfl (by kernel_rfl) (by kernel_rfl) (al_pick_t (by rw [hb_1]; kernel_rfl) (by kernel_rfl)) ?_
            refine lm_nil ?_
            exact ⟨(fun i => ([x49, x50, x51, x52, x53, x54, x55]).getD i undef), x55, h_13, by kernel_rfl, HA_14, H⟩
          · refine lm_skip (d := some 49) (by kernel_rfl) rfl (by rw [hb_1]; kernel_rfl) ?_
            refine lm_skip (d := some 50) (by kernel_rfl) rfl (by rw [hb_1]; kernel_rfl) ?_
            refine lm_skip (d := some 51) (by kernel_rfl) rfl (by rw [hb_1]; kernel_rfl) ?_
            refine lm_skip (d := some 52) (by kernel_rfl) rfl (by rw [hb_1]; kernel_rfl) ?_
            refine lm_skip (d := some 53) (by kernel_rfl) rfl (by rw [hb_1]; kernel_rfl) ?_
            refine lm_fr (b := ⟨#[x0, x1, x2, x3, (.bool false), x5, x6, x7, x8, x9, x9, (D 0), (D 1), (D 2), (D 3), (D 4), (D 5), (D 6), (D 7), (D 8), (D 9), (D 10), x22, x22, (D_1 0), (D_1 1), (D_1 2), (D_1 3), (D_1 4), (D_1 5), (D_1 6), x31, x31, (D_2 0), (D_2 1), (D_2 2), (D_2 3), (D_2 4), (D_2 5), (D_2 6), x40, x40, (D_3 0), (D_3 1), (D_3 2), (D_3 3), (D_3 4), x47, x47, undef, undef, undef, undef, undef, undef, undef, undef, undef, undef, undef], []⟩) (by kernel_rfl) ?_
            refine lm_skip (d := some 54) (by kernel_rfl) rfl (by rw [hb_1]; kernel_rfl) ?_
            refine lm_skip (d := some 55) (by kernel_rfl) rfl (by rw [hb_1]; kernel_rfl) ?_
            refine lm_al (x := (.bool false)) (d := some 56) (by kernel_rfl) rfl (by kernel_rfl) (by kernel_rfl) (al_pick_f (by rw [hb_1]; kernel_rfl) (by kernel_rfl)) ?_
            refine lm_nil ?_
            exact ⟨(fun i => ([undef, undef, undef, undef, undef, undef, undef]).getD i undef), (.bool false), h_7, by kernel_rfl, HA_8, H⟩
          · rintro _ w_9 ⟨D_4, x56, h_8, rfl, HA_9, H⟩
            refine lm_al (x := x56) (d := some 57) (by kernel_rfl) rfl (by kernel_rfl) (by kernel_rfl) (al_move (by kernel_rfl)) ?_
            refine lm_andh [(), ()] (fun K a w => ∃ (D_5 : Nat → Value) (x59 : Value) (h_9 : Heap), a = ⟨#[x0, x1, x2, x3, (.bool false), x5, x6, x7, x8, x9, x9, (D 0), (D 1), (D 2), (D 3), (D 4), (D 5), (D 6), (D 7), (D 8), (D 9), (D 10), x22, x22, (D_1 0), (D_1 1), (D_1 2), (D_1 3), (D_1 4), (D_1 5), (D_1 6), x31, x31, (D_2 0), (D_2 1), (D_2 2), (D_2 3), (D_2 4), (D_2 5), (D_2 6), x40, x40, (D_3 0), (D_3 1), (D_3 2), (D_3 3), (D_3 4), x47, x47, (D_4 0), (D_4 1), (D_4 2), (D_4 3), (D_4 4), (D_4 5), (D_4 6), x56, x56, (D_5 0), x59], []⟩ ∧ At w0 w h_9 ∧ K x59 h_9) H (fun hb H => ?_) (fun hb H => ?_) ?_
            · refine lm_d (d := some 58) (by kernel_rfl) rfl (by kernel_rfl) (by kernel_rfl) (by rw [hb]; kernel_rfl) HA_9 (d_call (by kernel_rfl) (by kernel_rfl) H) (fun x58 h_10 w_11 H HA_11 => ?_)
              refine lm_al (x := x58) (d := some 59) (by kernel_rfl) rfl (by kernel_rfl) (by kernel_rfl) (al_pick_t (by rw [hb]; kernel_rfl) (by kernel_rfl)) ?_
              refine lm_nil ?_
              exact ⟨(fun i => ([x58]).getD i undef), x58, h_10, by kernel_rfl, HA_11, H⟩
            · refine lm_skip (d := some 58) (by kernel_rfl) rfl (by rw [hb]; kernel_rfl) ?_
              refine lm_al (x := (.bool false)) (d := some 59) (by kernel_rfl) rfl (by kernel_rfl) (by kernel_rfl) (al_pick_f (by rw [hb]; kernel_rfl) (by kernel_rfl)) ?_
              refine lm_nil ?_
              exact ⟨(fun i => ([undef]).getD i undef), (.bool false), h_8, by kernel_rfl, HA_9, H⟩
            · rintro _ w_10 ⟨D_5, x59, h_9, rfl, HA_10, H⟩
              refine lm_al (x := x59) (d := some 4) (by kernel_rfl) rfl (by kernel_rfl) (by kernel_rfl) (al_assign (by kernel_rfl)) ?_
              refine lm_nil ?_
              refine then_normal ?_
              refine fr_eq (b := ⟨#[x0, x1, x2, x3, x59, x5, x6, x7, x8, x9, x9, (D 0), (D 1), (D 2), (D 3), (D 4), (D 5), (D 6), (D 7), (D 8), (D 9), (D 10), x22, x22, (D_1 0), (D_1 1), (D_1 2), (D_1 3), (D_1 4), (D_1 5), (D_1 6), x31, x31, (D_2 0), (D_2 1), (D_2 2), (D_2 3), (D_2 4), (D_2 5), (D_2 6), x40, x40, (D_3 0), (D_3 1), (D_3 2), (D_3 3), (D_3 4), x47, x47, (D_4 0), (D_4 1), (D_4 2), (D_4 3), (D_4 4), (D_4 5), (D_4 6), x56, x56, (D_5 0), x59], []⟩) (by kernel_rfl) ?_
              refine wp_ret ?_
              exact end1 (Try.results13) (by kernel_rfl) (by kernel_rfl) HA_10 H _ (.inr rfl)

end Go.Proofs.Ytecoejjpdogklaa
