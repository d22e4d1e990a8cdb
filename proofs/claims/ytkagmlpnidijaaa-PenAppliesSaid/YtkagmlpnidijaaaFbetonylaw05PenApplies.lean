/- The shallow reading of one function, and that the function does it. Written by a program. -/
import Derived.Test.YtkagmlpnidijaaaFnC
set_option linter.unusedVariables false
namespace Go.Proofs.Ytkagmlpnidijaaa
open Go Go.HW

def betonylaw05_PenApplies_j1 (R : Value → Heap → Prop) (x1 x2 x18 x19 x20 x21 x9 : Value) (h_3 : Heap) : Prop :=
  ∃ C : Heap → Prop, C h_3 ∧ (sLdNC C x2 3 fun x27 =>
  pen_Right_c x27 h_3 fun x28 h_4 => C h_4 ∧ (
  sLdNC C x2 3 fun x29 =>
  betonyref05_Right_c x29 h_4 fun x30 h_5 => C h_5 ∧ (
  sEqlB x28 x30 fun x31 =>
  sAndH x31 h_5 (fun k_6 =>
  sLdNC C x2 3 fun x33 =>
  pen_Apply_c x33 x1 h_5 fun x35 h_12 => C h_12 ∧ (
  sLdNC C x2 3 fun x36 =>
  betonyref05_Apply_c x36 x1 h_12 fun x38 h_13 => C h_13 ∧ (
  sEqlAgg x35 x38 [some .i64, some .i64, some .i64] fun x39 =>
  k_6 x39 h_13))) fun x40 h_6 =>
  sAndH x40 h_6 (fun k_5 =>
  sOff x2 0 fun x43 =>
  sLdC C x43 fun x44 =>
  betonyref05_Look_c x44 h_6 fun x45 h_10 => 
  betonyref01_SameInts_c x9 x45 h_10 fun x46 h_11 => 
  k_5 x46 h_11) fun x47 h_7 =>
  sAnd x47 (fun k_1 =>
  sOr x21 (fun k_2 =>
  sEq x18 (.int .i64 0) fun x52 =>
  sAnd x52 (fun k_4 =>
  sEq x19 (.int .i64 0) fun x55 =>
  k_4 x55) fun x56 =>
  sAnd x56 (fun k_3 =>
  sEq x20 (.int .i64 0) fun x59 =>
  k_3 x59) fun x60 =>
  k_2 x60) fun x61 =>
  k_1 x61) fun x62 =>
  sAndH x62 h_7 (fun k =>
  betonylaw05_awake_c  h_7 fun x64 h_9 => 
  k x64 h_9) fun x65 h_8 =>
  R x65 h_8)))
def betonylaw05_PenApplies_S (x0 x1 : Value) (h : Heap) (R : Value → Heap → Prop) : Prop :=
  sBox h x0 23 fun x2 h => 
  sLen x1 fun x11 =>
  sGt x11 (.int .i64 60) fun x12 =>
  sIf x12 (betonylaw05_awake_c  h fun x13 h_1 => 
  R x13 h_1) (sOff x2 0 fun x15 =>
  sLd h x15 fun x16 =>
  pen_Look_c x16 h fun x17 h_2 => 
  sTup x17 0 fun x18 =>
  sTup x17 1 fun x19 =>
  sTup x17 2 fun x20 =>
  sTup x17 3 fun x21 =>
  sIf x21 (sSlit h_2 #[.int .i64 0, .int .i64 0, .int .i64 0] [(0, 1, x18), (1, 1, x19), (2, 1, x20)] 3 3 fun x26 h_14 => 
  betonylaw05_PenApplies_j1 R x1 x2 x18 x19 x20 x21 x26 h_14) (betonylaw05_PenApplies_j1 R x1 x2 x18 x19 x20 x21 (.slice none 0 0) h_2))
set_option maxRecDepth 100000 in
theorem betonylaw05_PenApplies_runs {x0 x1 : Value} {h : Heap} {R : Value → Heap → Prop} (H : betonylaw05_PenApplies_S x0 x1 h R) : betonylaw05_PenApplies_c x0 x1 h R := by
  unfold betonylaw05_PenApplies_S at H
  refine runs_of (b := ⟨([x0, x1, undef, undef, undef, undef, undef, undef, undef, undef, undef, undef, undef, undef, undef, undef, undef, undef, undef, undef, undef, undef, undef, undef, undef, undef, undef, undef, undef, undef, undef, undef, undef, undef, undef, undef, undef, undef, undef, undef, undef, undef, undef, undef, undef, undef, undef, undef, undef, undef] ++ [undef, undef, undef, undef, undef, undef, undef, undef, undef, undef, undef, undef, undef, undef, undef, undef]).toArray, []⟩) Try.call10 Try.func10 rfl (by kernel_rfl) (fun w0 HA => ?_)
  refine wp_seq ?_
  refine lwp_list ?_
  refine ls_d (d := some 2) (by kernel_rfl) (by kernel_rfl) HA (d_box (by kernel_rfl) H) (fun x2 h w H HA => ?_)
  refine ls_assign (x := (.bool false)) (by kernel_rfl) (by kernel_rfl) ?_
  refine ls_nil ?_
  refine then_normal ?_
  refine fr_eq (b := ⟨([x0, x1, x2, undef, (.bool false), undef, undef, undef, undef, undef, undef, undef, undef, undef, undef, undef, undef, undef, undef, undef, undef, undef, undef, undef, undef, undef, undef, undef, undef, undef, undef, undef, undef, undef, undef, undef, undef, undef, undef, undef, undef, undef, undef, undef, undef, undef, undef, undef, undef, undef] ++ [undef, undef, undef, undef, undef, undef, undef, undef, undef, undef, undef, undef, undef, undef, undef, undef]).toArray, []⟩) (by kernel_rfl) ?_
  refine wp_seq ?_
  refine wp_seq ?_
  refine lwp_list ?_
  refine ls_move (x := x1) (by kernel_rfl) (by kernel_rfl) ?_
  refine ls_p (d := some 11) (by kernel_rfl) (by kernel_rfl) (p_len Try.underlying24 (by kernel_rfl) H) (fun x11 H => ?_)
  refine ls_p (d := some 12) (by kernel_rfl) (by kernel_rfl) (p_sGt (by kernel_rfl) (by kernel_rfl) H) (fun x12 H => ?_)
  refine ls_nil ?_
  refine then_normal ?_
  refine fr_eq (b := ⟨([x0, x1, x2, undef, (.bool false), undef, undef, undef, undef, undef, x1, x11, x12, undef, undef, undef, undef, undef, undef, undef, undef, undef, undef, undef, undef, undef, undef, undef, undef, undef, undef, undef, undef, undef, undef, undef, undef, undef, undef, undef, undef, undef, undef, undef, undef, undef, undef, undef, undef, undef] ++ [undef, undef, undef, undef, undef, undef, undef, undef, undef, undef, undef, undef, undef, undef, undef, undef]).toArray, []⟩) (by kernel_rfl) ?_
  refine wp_if rfl H (fun H => ?_) (fun H => ?_)
  · refine wp_seq ?_
    refine lwp_list ?_
    refine ls_d (d := some 13) (by kernel_rfl) (by kernel_rfl) HA (d_call (by kernel_rfl) (by kernel_rfl) H) (fun x13 h_1 w_1 H HA_1 => ?_)
    refine ls_assign (x := x13) (by kernel_rfl) (by kernel_rfl) ?_
    refine ls_nil ?_
    refine then_normal ?_
    refine fr_eq (b := ⟨([x0, x1, x2, undef, x13, undef, undef, undef, undef, undef, x1, x11, x12, x13, undef, undef, undef, undef, undef, undef, undef, undef, undef, undef, undef, undef, undef, undef, undef, undef, undef, undef, undef, undef, undef, undef, undef, undef, undef, undef, undef, undef, undef, undef, undef, undef, undef, undef, undef, undef] ++ [undef, undef, undef, undef, undef, undef, undef, undef, undef, undef, undef, undef, undef, undef, undef, undef]).toArray, []⟩) (by kernel_rfl) ?_
    refine wp_ret ?_
    refine then_ret ?_
    exact end1 (Try.results10) (by kernel_rfl) (by kernel_rfl) HA_1 H _ (.inr rfl)
  · refine wp_skip ?_
    refine then_normal ?_
    refine fr_eq (b := ⟨([x0, x1, x2, undef, (.bool false), undef, undef, undef, undef, undef, x1, x11, x12, undef, undef, undef, undef, undef, undef, undef, undef, undef, undef, undef, undef, undef, undef, undef, undef, undef, undef, undef, undef, undef, undef, undef, undef, undef, undef, undef, undef, undef, undef, undef, undef, undef, undef, undef, undef, undef] ++ [undef, undef, undef, undef, undef, undef, undef, undef, undef, undef, undef, undef, undef, undef, undef, undef]).toArray, []⟩) (by kernel_rfl) ?_
    refine wp_seq ?_
    refine lwp_list ?_
    refine ls_p (d := some 15) (by kernel_rfl) (by kernel_rfl) (p_off Try.underlying23 rfl (fun w => ⟨_, Try.sizeOf3 w⟩) rfl (by kernel_rfl) H) (fun x15 H => ?_)
    refine ls_y (d := some 16) (by kernel_rfl) (by kernel_rfl) HA (y_ld Try.isAgg3 (by kernel_rfl) H) (fun x16 H => ?_)
    refine ls_d (d := some 17) (by kernel_rfl) (by kernel_rfl) HA (d_call (by kernel_rfl) (by kernel_rfl) H) (fun x17 h_2 w_2 H HA_2 => ?_)
    refine ls_move (x := x17) (by kernel_rfl) (by kernel_rfl) ?_
    refine ls_p (d := some 18) (by kernel_rfl) (by kernel_rfl) (p_tup (by kernel_rfl) H) (fun x18 H => ?_)
    refine ls_p (d := some 19) (by kernel_rfl) (by kernel_rfl) (p_tup (by kernel_rfl) H) (fun x19 H => ?_)
    refine ls_fr (b := ⟨([x0, x1, x2, undef, (.bool false), undef, undef, undef, undef, undef, x1, x11, x12, undef, x17, x15, x16, x17, x18, x19, undef, undef, undef, undef, undef, undef, undef, undef, undef, undef, undef, undef, undef, undef, undef, undef, undef, undef, undef, undef, undef, undef, undef, undef, undef, undef, undef, undef, undef, undef] ++ [undef, undef, undef, undef, undef, undef, undef, undef, undef, undef, undef, undef, undef, undef, undef, undef]).toArray, []⟩) (by kernel_rfl) ?_
    refine ls_p (d := some 20) (by kernel_rfl) (by kernel_rfl) (p_tup (by kernel_rfl) H) (fun x20 H => ?_)
    refine ls_p (d := some 21) (by kernel_rfl) (by kernel_rfl) (p_tup (by kernel_rfl) H) (fun x21 H => ?_)
    refine ls_assign (x := x18) (by kernel_rfl) (by kernel_rfl) ?_
    refine ls_assign (x := x19) (by kernel_rfl) (by kernel_rfl) ?_
    refine ls_assign (x := x20) (by kernel_rfl) (by kernel_rfl) ?_
    refine ls_assign (x := x21) (by kernel_rfl) (by kernel_rfl) ?_
    refine ls_nil ?_
    refine then_normal ?_
    refine fr_eq (b := ⟨([x0, x1, x2, undef, (.bool false), x18, x19, x20, x21, undef, x1, x11, x12, undef, x17, x15, x16, x17, x18, x19, x20, x21, undef, undef, undef, undef, undef, undef, undef, undef, undef, undef, undef, undef, undef, undef, undef, undef, undef, undef, undef, undef, undef, undef, undef, undef, undef, undef, undef, undef] ++ [undef, undef, undef, undef, undef, undef, undef, undef, undef, undef, undef, undef, undef, undef, undef, undef]).toArray, []⟩) (by kernel_rfl) ?_
    refine wp_seq ?_
    refine lwp_list ?_
    refine ls_assign (x := (.slice none 0 0)) (by kernel_rfl) (by kernel_rfl) ?_
    refine ls_nil ?_
    refine then_normal ?_
    refine fr_eq (b := ⟨([x0, x1, x2, undef, (.bool false), x18, x19, x20, x21, (.slice none 0 0), x1, x11, x12, undef, x17, x15, x16, x17, x18, x19, x20, x21, undef, undef, undef, undef, undef, undef, undef, undef, undef, undef, undef, undef, undef, undef, undef, undef, undef, undef, undef, undef, undef, undef, undef, undef, undef, undef, undef, undef] ++ [undef, undef, undef, undef, undef, undef, undef, undef, undef, undef, undef, undef, undef, undef, undef, undef]).toArray, []⟩) (by kernel_rfl) ?_
    refine wp_seq ?_
    refine wp_seq ?_
    refine lwp_list ?_
    refine ls_move (x := x21) (by kernel_rfl) (by kernel_rfl) ?_
    refine ls_nil ?_
    refine then_normal ?_
    refine fr_eq (b := ⟨([x0, x1, x2, undef, (.bool false), x18, x19, x20, x21, (.slice none 0 0), x1, x11, x12, undef, x17, x15, x16, x17, x18, x19, x20, x21, x21, undef, undef, undef, undef, undef, undef, undef, undef, undef, undef, undef, undef, undef, undef, undef, undef, undef, undef, undef, undef, undef, undef, undef, undef, undef, undef, undef] ++ [undef, undef, undef, undef, undef, undef, undef, undef, undef, undef, undef, undef, undef, undef, undef, undef]).toArray, []⟩) (by kernel_rfl) ?_
    refine wp_join (fun a w => ∃ (D : Nat → Value) (x9 : Value) (h_3 : Heap), a = ⟨([x0, x1, x2, undef, (.bool false), x18, x19, x20, x21, x9, x1, x11, x12, undef, x17, x15, x16, x17, x18, x19, x20, x21, x21, (D 0), (D 1), (D 2), (D 3), undef, undef, undef, undef, undef, undef, undef, undef, undef, undef, undef, undef, undef, undef, undef, undef, undef, undef, undef, undef, undef, undef, undef] ++ [undef, undef, undef, undef, undef, undef, undef, undef, undef, undef, undef, undef, undef, undef, undef, undef]).toArray, []⟩ ∧ At w0 w h_3 ∧ betonylaw05_PenApplies_j1 R x1 x2 x18 x19 x20 x21 x9 h_3) ?_ ?_
    · refine wp_if rfl H (fun H => ?_) (fun H => ?_)
      · refine lwp_list ?_
        refine ls_move (x := x18) (by kernel_rfl) (by kernel_rfl) ?_
        refine ls_move (x := x19) (by kernel_rfl) (by kernel_rfl) ?_
        refine ls_move (x := x20) (by kernel_rfl) (by kernel_rfl) ?_
        refine ls_d (d := some 26) (by kernel_rfl) (by kernel_rfl) HA_2 (d_slit (zc := #[.int .i64 0]) Try.underlying24 Try.sizeOf3 (by decide) (.inr ⟨by decide, _, Try.zeroValue3, (by kernel_rfl)⟩) (by kernel_rfl) (by kernel_rfl) H) (fun x26 h_14 w_19 H HA_19 => ?_)
        refine ls_assign (x := x26) (by kernel_rfl) (by kernel_rfl) ?_
        refine ls_nil ?_
        exact ⟨(fun i => ([x18, x19, x20, x26]).getD i undef), x26, h_14, by kernel_rfl, HA_19, H⟩
      · refine wp_skip ?_
        exact ⟨(fun i => ([undef, undef, undef, undef]).getD i undef), (.slice none 0 0), h_2, by kernel_rfl, HA_2, H⟩
    · rintro _ w_3 ⟨D, x9, h_3, rfl, HA_3, H⟩
      unfold betonylaw05_PenApplies_j1 at H
      refine then_normal ?_
      refine fr_eq (b := ⟨([x0, x1, x2, undef, (.bool false), x18, x19, x20, x21, x9, x1, x11, x12, undef, x17, x15, x16, x17, x18, x19, x20, x21, x21, (D 0), (D 1), (D 2), (D 3), undef, undef, undef, undef, undef, undef, undef, undef, undef, undef, undef, undef, undef, undef, undef, undef, undef, undef, undef, undef, undef, undef, undef] ++ [undef, undef, undef, undef, undef, undef, undef, undef, undef, undef, undef, undef, undef, undef, undef, undef]).toArray, []⟩) (by kernel_rfl) ?_
      refine wp_seq ?_
      obtain ⟨C, HC, H⟩ := H
      refine lwp_mx (Nat.testBit 137439742218) (Nat.testBit 2314) (Nat.testBit 962071753904) [0, 1, 0, 7, 15, 31, 63, 63, 255, 63, 63, 2047, 4095, 8191, 16383, 32767, 32767, 98303, 229375, 524287, 1048575, 2097151, 4194303, 8388607, 16777215, 33554431, 67108863, 134217727, 268435455, 536870911, 1073741823, 2147483647, 4294967295, 8589934591, 17179869183, 34359738367, 68719476735, 137438953471, 274877906943, 549755813887] C [0, 1, 2, 3, 4, 5, 6, 7, 8, 9, 10, 11, 12, 13, 14, 15, 16, 17, 18, 19, 20, 21, 22, 23, 24, 25, 26, 27, 28, 29, 30, 31, 32, 33, 34, 35, 36, 37, 38, 39] (by kernel_rfl) (by kernel_rfl) (by kernel_rfl) HA_3 HC ?_
      intro w_4 HA_4
      refine lm_f (d := some 27) (by kernel_rfl) rfl (by kernel_rfl) (by kernel_rfl) (by kernel_rfl) (c_ldn Try.isAgg23 Try.sizeOf23 (by kernel_rfl) H) (fun x27 H => ?_)
      refine lm_dc (d := some 28) (by kernel_rfl) rfl (by kernel_rfl) (by kernel_rfl) HA_4 (d_call (by kernel_rfl) (by kernel_rfl) H) (fun x28 h_4 w_5 H HA_5 => ?_)
      refine lm_f (d := some 29) (by kernel_rfl) rfl (by kernel_rfl) (by kernel_rfl) (by kernel_rfl) (c_ldn Try.isAgg23 Try.sizeOf23 (by kernel_rfl) H) (fun x29 H => ?_)
      refine lm_dc (d := some 30) (by kernel_rfl) rfl (by kernel_rfl) (by kernel_rfl) HA_5 (d_call (by kernel_rfl) (by kernel_rfl) H) (fun x30 h_5 w_6 H HA_6 => ?_)
      refine lm_p (d := some 31) (by kernel_rfl) rfl (by kernel_rfl) (by kernel_rfl) (p_eqlB Try.underlying4 (by kernel_rfl) (by kernel_rfl) H) (fun x31 H => ?_)
      refine lm_al (x := x31) (d := some 32) (by kernel_rfl) rfl (by kernel_rfl) (by kernel_rfl) (al_move (by kernel_rfl)) ?_
      refine lm_fr (b := ⟨([x0, x1, x2, undef, (.bool false), x18, x19, x20, x21, x9, x1, x11, x12, undef, x17, x15, x16, x17, x18, x19, x20, x21, x21, (D 0), (D 1), (D 2), (D 3), x27, x28, x29, x30, x31, x31, undef, undef, undef, undef, undef, undef, undef, undef, undef, undef, undef, undef, undef, undef, undef, undef, undef] ++ [undef, undef, undef, undef, undef, undef, undef, undef, undef, undef, undef, undef, undef, undef, undef, undef]).toArray, []⟩) (by kernel_rfl) ?_
      refine lm_andh [(), (), (), (), (), (), (), ()] (fun K a w => ∃ (D_1 : Nat → Value) (x40 : Value) (h_6 : Heap), a = ⟨([x0, x1, x2, undef, (.bool false), x18, x19, x20, x21, x9, x1, x11, x12, undef, x17, x15, x16, x17, x18, x19, x20, x21, x21, (D 0), (D 1), (D 2), (D 3), x27, x28, x29, x30, x31, x31, (D_1 0), (D_1 1), (D_1 2), (D_1 3), (D_1 4), (D_1 5), (D_1 6), x40, undef, undef, undef, undef, undef, undef, undef, undef, undef] ++ [undef, undef, undef, undef, undef, undef, undef, undef, undef, undef, undef, undef, undef, undef, undef, undef]).toArray, []⟩ ∧ At w0 w h_6 ∧ K x40 h_6) H (fun hb_6 H => ?_) (fun hb_6 H => ?_) ?_
      · refine lm_f (d := some 33) (by kernel_rfl) rfl (by kernel_rfl) (by kernel_rfl) (by rw [hb_6]; kernel_rfl) (c_ldn Try.isAgg23 Try.sizeOf23 (by kernel_rfl) H) (fun x33 H => ?_)
        refine lm_al (x := x1) (d := some 34) (by kernel_rfl) rfl (by kernel_rfl) (by rw [hb_6]; kernel_rfl) (al_move (by kernel_rfl)) ?_
        refine lm_dc (d := some 35) (by kernel_rfl) rfl (by kernel_rfl) (by rw [hb_6]; kernel_rfl) HA_6 (d_call (by kernel_rfl) (by kernel_rfl) H) (fun x35 h_12 w_17 H HA_17 => ?_)
        refine lm_f (d := some 36) (by kernel_rfl) rfl (by kernel_rfl) (by kernel_rfl) (by rw [hb_6]; kernel_rfl) (c_ldn Try.isAgg23 Try.sizeOf23 (by kernel_rfl) H) (fun x36 H => ?_)
        refine lm_al (x := x1) (d := some 37) (by kernel_rfl) rfl (by kernel_rfl) (by rw [hb_6]; kernel_rfl) (al_move (by kernel_rfl)) ?_
        refine lm_dc (d := some 38) (by kernel_rfl) rfl (by kernel_rfl) (by rw [hb_6]; kernel_rfl) HA_17 (d_call (by kernel_rfl) (by kernel_rfl) H) (fun x38 h_13 w_18 H HA_18 => ?_)
        refine lm_fr (b := ⟨([x0, x1, x2, undef, (.bool false), x18, x19, x20, x21, x9, x1, x11, x12, undef, x17, x15, x16, x17, x18, x19, x20, x21, x21, (D 0), (D 1), (D 2), (D 3), x27, x28, x29, x30, x31, x31, x33, x1, x35, x36, x1, x38, undef, undef, undef, undef, undef, undef, undef, undef, undef, undef, undef] ++ [undef, undef, undef, undef, undef, undef, undef, undef, undef, undef, undef, undef, undef, undef, undef, undef]).toArray, []⟩) (by kernel_rfl) ?_
        refine lm_p (d := some 39) (by kernel_rfl) rfl (by kernel_rfl) (by rw [hb_6]; kernel_rfl) (p_eqlAgg (eqT_23) (by kernel_rfl) (by kernel_rfl) H) (fun x39 H => ?_)
        refine lm_al (x := x39) (d := some 40) (by kernel_rfl) rfl (by kernel_rfl) (by kernel_rfl) (al_pick_t (by rw [hb_6]; kernel_rfl) (by kernel_rfl)) ?_
        refine lm_nil ?_
        exact ⟨(fun i => ([x33, x1, x35, x36, x1, x38, x39]).getD i undef), x39, h_13, by kernel_rfl, HA_18, H⟩
      · refine lm_skip (d := some 33) (by kernel_rfl) rfl (by rw [hb_6]; kernel_rfl) ?_
        refine lm_skip (d := some 34) (by kernel_rfl) rfl (by rw [hb_6]; kernel_rfl) ?_
        refine lm_skip (d := some 35) (by kernel_rfl) rfl (by rw [hb_6]; kernel_rfl) ?_
        refine lm_skip (d := some 36) (by kernel_rfl) rfl (by rw [hb_6]; kernel_rfl) ?_
        refine lm_skip (d := some 37) (by kernel_rfl) rfl (by rw [hb_6]; kernel_rfl) ?_
        refine lm_skip (d := some 38) (by kernel_rfl) rfl (by rw [hb_6]; kernel_rfl) ?_
        refine lm_fr (b := ⟨([x0, x1, x2, undef, (.bool false), x18, x19, x20, x21, x9, x1, x11, x12, undef, x17, x15, x16, x17, x18, x19, x20, x21, x21, (D 0), (D 1), (D 2), (D 3), x27, x28, x29, x30, x31, x31, undef, undef, undef, undef, undef, undef, undef, undef, undef, undef, undef, undef, undef, undef, undef, undef, undef] ++ [undef, undef, undef, undef, undef, undef, undef, undef, undef, undef, undef, undef, undef, undef, undef, undef]).toArray, []⟩) (by kernel_rfl) ?_
        refine lm_skip (d := some 39) (by kernel_rfl) rfl (by rw [hb_6]; kernel_rfl) ?_
        refine lm_al (x := (.bool false)) (d := some 40) (by kernel_rfl) rfl (by kernel_rfl) (by kernel_rfl) (al_pick_f (by rw [hb_6]; kernel_rfl) (by kernel_rfl)) ?_
        refine lm_nil ?_
        exact ⟨(fun i => ([undef, undef, undef, undef, undef, undef, undef]).getD i undef), (.bool false), h_5, by kernel_rfl, HA_6, H⟩
      · rintro _ w_7 ⟨D_1, x40, h_6, rfl, HA_7, H⟩
        refine lm_al (x := x40) (d := some 41) (by kernel_rfl) rfl (by kernel_rfl) (by kernel_rfl) (al_move (by kernel_rfl)) ?_
        refine lm_andh [(), (), (), (), (), ()] (fun K a w => ∃ (D_2 : Nat → Value) (x47 : Value) (h_7 : Heap), a = ⟨([x0, x1, x2, undef, (.bool false), x18, x19, x20, x21, x9, x1, x11, x12, undef, x17, x15, x16, x17, x18, x19, x20, x21, x21, (D 0), (D 1), (D 2), (D 3), x27, x28, x29, x30, x31, x31, (D_1 0), (D_1 1), (D_1 2), (D_1 3), (D_1 4), (D_1 5), (D_1 6), x40, x40, (D_2 0), (D_2 1), (D_2 2), (D_2 3), (D_2 4), x47, undef, undef] ++ [undef, undef, undef, undef, undef, undef, undef, undef, undef, undef, undef, undef, undef, undef, undef, undef]).toArray, []⟩ ∧ At w0 w h_7 ∧ K x47 h_7) H (fun hb_5 H => ?_) (fun hb_5 H => ?_) ?_
        · refine lm_al (x := x9) (d := some 42) (by kernel_rfl) rfl (by kernel_rfl) (by rw [hb_5]; kernel_rfl) (al_move (by kernel_rfl)) ?_
          refine lm_p (d := some 43) (by kernel_rfl) rfl (by kernel_rfl) (by rw [hb_5]; kernel_rfl) (p_off Try.underlying23 rfl (fun w => ⟨_, Try.sizeOf3 w⟩) rfl (by kernel_rfl) H) (fun x43 H => ?_)
          refine lm_f (d := some 44) (by kernel_rfl) rfl (by kernel_rfl) (by kernel_rfl) (by rw [hb_5]; kernel_rfl) (c_ld Try.isAgg3 (by kernel_rfl) H) (fun x44 H => ?_)
          refine lm_d (d := some 45) (by kernel_rfl) rfl (by kernel_rfl) (by kernel_rfl) (by rw [hb_5]; kernel_rfl) HA_7 (d_call (by kernel_rfl) (by kernel_rfl) H) (fun x45 h_10 w_15 H HA_15 => ?_)
          refine lm_d (d := some 46) (by kernel_rfl) rfl (by kernel_rfl) (by kernel_rfl) (by rw [hb_5]; kernel_rfl) HA_15 (d_call (by kernel_rfl) (by kernel_rfl) H) (fun x46 h_11 w_16 H HA_16 => ?_)
          refine lm_fr (b := ⟨([x0, x1, x2, undef, (.bool false), x18, x19, x20, x21, x9, x1, x11, x12, undef, x17, x15, x16, x17, x18, x19, x20, x21, x21, (D 0), (D 1), (D 2), (D 3), x27, x28, x29, x30, x31, x31, (D_1 0), (D_1 1), (D_1 2), (D_1 3), (D_1 4), (D_1 5), (D_1 6), x40, x40, x9, x43, x44, x45, x46, undef, undef, undef] ++ [undef, undef, undef, undef, undef, undef, undef, undef, undef, undef, undef, undef, undef, undef, undef, undef]).toArray, []⟩) (by kernel_rfl) ?_
          refine lm_al (x := x46) (d := some 47) (by kernel_rfl) rfl (by kernel_rfl) (by kernel_rfl) (al_pick_t (by rw [hb_5]; kernel_rfl) (by kernel_rfl)) ?_
          refine lm_nil ?_
          exact ⟨(fun i => ([x9, x43, x44, x45, x46]).getD i undef), x46, h_11, by kernel_rfl, HA_16, H⟩
        · refine lm_skip (d := some 42) (by kernel_rfl) rfl (by rw [hb_5]; kernel_rfl) ?_
          refine lm_skip (d := some 43) (by kernel_rfl) rfl (by rw [hb_5]; kernel_rfl) ?_
          refine lm_skip (d := some 44) (by kernel_rfl) rfl (by rw [hb_5]; kernel_rfl) ?_
          refine lm_skip (d := some 45) (by kernel_rfl) rfl (by rw [hb_5]; kernel_rfl) ?_
          refine lm_skip (d := some 46) (by kernel_rfl) rfl (by rw [hb_5]; kernel_rfl) ?_
          refine lm_fr (b := ⟨([x0, x1, x2, undef, (.bool false), x18, x19, x20, x21, x9, x1, x11, x12, undef, x17, x15, x16, x17, x18, x19, x20, x21, x21, (D 0), (D 1), (D 2), (D 3), x27, x28, x29, x30, x31, x31, (D_1 0), (D_1 1), (D_1 2), (D_1 3), (D_1 4), (D_1 5), (D_1 6), x40, x40, undef, undef, undef, undef, undef, undef, undef, undef] ++ [undef, undef, undef, undef, undef, undef, undef, undef, undef, undef, undef, undef, undef, undef, undef, undef]).toArray, []⟩) (by kernel_rfl) ?_
          refine lm_al (x := (.bool false)) (d := some 47) (by kernel_rfl) rfl (by kernel_rfl) (by kernel_rfl) (al_pick_f (by rw [hb_5]; kernel_rfl) (by kernel_rfl)) ?_
          refine lm_nil ?_
          exact ⟨(fun i => ([undef, undef, undef, undef, undef]).getD i undef), (.bool false), h_6, by kernel_rfl, HA_7, H⟩
        · rintro _ w_8 ⟨D_2, x47, h_7, rfl, HA_8, H⟩
          refine lm_al (x := x47) (d := some 48) (by kernel_rfl) rfl (by kernel_rfl) (by kernel_rfl) (al_move (by kernel_rfl)) ?_
          refine lm_and [(), (), (), (), (), (), (), (), (), (), (), (), (), ()] (fun K a w => ∃ (D_3 : Nat → Value) (x62 : Value), a = ⟨([x0, x1, x2, undef, (.bool false), x18, x19, x20, x21, x9, x1, x11, x12, undef, x17, x15, x16, x17, x18, x19, x20, x21, x21, (D 0), (D 1), (D 2), (D 3), x27, x28, x29, x30, x31, x31, (D_1 0), (D_1 1), (D_1 2), (D_1 3), (D_1 4), (D_1 5), (D_1 6), x40, x40, (D_2 0), (D_2 1), (D_2 2), (D_2 3), (D_2 4), x47, x47, (D_3 0)] ++ [(D_3 1), (D_3 2), (D_3 3), (D_3 4), (D_3 5), (D_3 6), (D_3 7), (D_3 8), (D_3 9), (D_3 10), (D_3 11), (D_3 12), x62, undef, undef, undef]).toArray, []⟩ ∧ At w0 w h_7 ∧ K x62) H (fun hb_1 H => ?_) (fun hb_1 H => ?_) ?_
          · refine lm_al (x := x21) (d := some 49) (by kernel_rfl) rfl (by kernel_rfl) (by rw [hb_1]; kernel_rfl) (al_move (by kernel_rfl)) ?_
            refine lm_al (x := x21) (d := some 50) (by kernel_rfl) rfl (by kernel_rfl) (by rw [hb_1]; kernel_rfl) (al_move (by kernel_rfl)) ?_
            refine lm_or [(), (), (), (), (), (), (), (), (), (), ()] (fun K a w => ∃ (D_5 : Nat → Value) (x61 : Value), a = ⟨([x0, x1, x2, undef, (.bool false), x18, x19, x20, x21, x9, x1, x11, x12, undef, x17, x15, x16, x17, x18, x19, x20, x21, x21, (D 0), (D 1), (D 2), (D 3), x27, x28, x29, x30, x31, x31, (D_1 0), (D_1 1), (D_1 2), (D_1 3), (D_1 4), (D_1 5), (D_1 6), x40, x40, (D_2 0), (D_2 1), (D_2 2), (D_2 3), (D_2 4), x47, x47, x21] ++ [x21, (D_5 0), (D_5 1), (D_5 2), (D_5 3), (D_5 4), (D_5 5), (D_5 6), (D_5 7), (D_5 8), (D_5 9), x61, undef, undef, undef, undef]).toArray, []⟩ ∧ At w0 w h_7 ∧ K x61) H (fun hb_2 H => ?_) (fun hb_2 H => ?_) ?_
            · refine lm_al (x := x18) (d := some 51) (by kernel_rfl) rfl (by kernel_rfl) (by rw [hb_2]; kernel_rfl) (al_move (by kernel_rfl)) ?_
              refine lm_p (d := some 52) (by kernel_rfl) rfl (by kernel_rfl) (by rw [hb_2]; kernel_rfl) (p_sEq (by kernel_rfl) (by kernel_rfl) H) (fun x52 H => ?_)
              refine lm_al (x := x52) (d := some 53) (by kernel_rfl) rfl (by kernel_rfl) (by rw [hb_2]; kernel_rfl) (al_move (by kernel_rfl)) ?_
              refine lm_fr (b := ⟨([x0, x1, x2, undef, (.bool false), x18, x19, x20, x21, x9, x1, x11, x12, undef, x17, x15, x16, x17, x18, x19, x20, x21, x21, (D 0), (D 1), (D 2), (D 3), x27, x28, x29, x30, x31, x31, (D_1 0), (D_1 1), (D_1 2), (D_1 3), (D_1 4), (D_1 5), (D_1 6), x40, x40, (D_2 0), (D_2 1), (D_2 2), (D_2 3), (D_2 4), x47, x47, x21] ++ [x21, x18, x52, x52, undef, undef, undef, undef, undef, undef, undef, undef, undef, undef, undef, undef]).toArray, []⟩) (by kernel_rfl) ?_
              refine lm_and [(), (), ()] (fun K a w => ∃ (D_6 : Nat → Value) (x56 : Value), a = ⟨([x0, x1, x2, undef, (.bool false), x18, x19, x20, x21, x9, x1, x11, x12, undef, x17, x15, x16, x17, x18, x19, x20, x21, x21, (D 0), (D 1), (D 2), (D 3), x27, x28, x29, x30, x31, x31, (D_1 0), (D_1 1), (D_1 2), (D_1 3), (D_1 4), (D_1 5), (D_1 6), x40, x40, (D_2 0), (D_2 1), (D_2 2), (D_2 3), (D_2 4), x47, x47, x21] ++ [x21, x18, x52, x52, (D_6 0), (D_6 1), x56, undef, undef, undef, undef, undef, undef, undef, undef, undef]).toArray, []⟩ ∧ At w0 w h_7 ∧ K x56) H (fun hb_4 H => ?_) (fun hb_4 H => ?_) ?_
              · refine lm_al (x := x19) (d := some 54) (by kernel_rfl) rfl (by kernel_rfl) (by rw [hb_4]; kernel_rfl) (al_move (by kernel_rfl)) ?_
                refine lm_p (d := some 55) (by kernel_rfl) rfl (by kernel_rfl) (by rw [hb_4]; kernel_rfl) (p_sEq (by kernel_rfl) (by kernel_rfl) H) (fun x55 H => ?_)
                refine lm_al (x := x55) (d := some 56) (by kernel_rfl) rfl (by kernel_rfl) (by rw [hb_2]; kernel_rfl) (al_pick_t (by rw [hb_4]; kernel_rfl) (by kernel_rfl)) ?_
                refine lm_nil ?_
                exact ⟨(fun i => ([x19, x55]).getD i undef), x55, by kernel_rfl, HA_8, H⟩
              · refine lm_skip (d := some 54) (by kernel_rfl) rfl (by rw [hb_4]; kernel_rfl) ?_
                refine lm_skip (d := some 55) (by kernel_rfl) rfl (by rw [hb_4]; kernel_rfl) ?_
                refine lm_al (x := (.bool false)) (d := some 56) (by kernel_rfl) rfl (by kernel_rfl) (by rw [hb_2]; kernel_rfl) (al_pick_f (by rw [hb_4]; kernel_rfl) (by kernel_rfl)) ?_
                refine lm_nil ?_
                exact ⟨(fun i => ([undef, undef]).getD i undef), (.bool false), by kernel_rfl, HA_8, H⟩
              · rintro _ w_13 ⟨D_6, x56, rfl, HA_13, H⟩
                refine lm_al (x := x56) (d := some 57) (by kernel_rfl) rfl (by kernel_rfl) (by rw [hb_2]; kernel_rfl) (al_move (by kernel_rfl)) ?_
                refine lm_and [(), (), ()] (fun K a w => ∃ (D_7 : Nat → Value) (x60 : Value), a = ⟨([x0, x1, x2, undef, (.bool false), x18, x19, x20, x21, x9, x1, x11, x12, undef, x17, x15, x16, x17, x18, x19, x20, x21, x21, (D 0), (D 1), (D 2), (D 3), x27, x28, x29, x30, x31, x31, (D_1 0), (D_1 1), (D_1 2), (D_1 3), (D_1 4), (D_1 5), (D_1 6), x40, x40, (D_2 0), (D_2 1), (D_2 2), (D_2 3), (D_2 4), x47, x47, x21] ++ [x21, x18, x52, x52, (D_6 0), (D_6 1), x56, x56, (D_7 0), (D_7 1), x60, undef, undef, undef, undef, undef]).toArray, []⟩ ∧ At w0 w h_7 ∧ K x60) H (fun hb_3 H => ?_) (fun hb_3 H => ?_) ?_
                · refine lm_al (x := x20) (d := some 58) (by kernel_rfl) rfl (by kernel_rfl) (by rw [hb_3]; kernel_rfl) (al_move (by kernel_rfl)) ?_
                  refine lm_p (d := some 59) (by kernel_rfl) rfl (by kernel_rfl) (by rw [hb_3]; kernel_rfl) (p_sEq (by kernel_rfl) (by kernel_rfl) H) (fun x59 H => ?_)
                  refine lm_al (x := x59) (d := some 60) (by kernel_rfl) rfl (by kernel_rfl) (by rw [hb_2]; kernel_rfl) (al_pick_t (by rw [hb_3]; kernel_rfl) (by kernel_rfl)) ?_
                  refine lm_nil ?_
                  exact ⟨(fun i => ([x20, x59]).getD i undef), x59, by kernel_rfl, HA_13, H⟩
                · refine lm_skip (d := some 58) (by kernel_rfl) rfl (by rw [hb_3]; kernel_rfl) ?_
                  refine lm_skip (d := some 59) (by kernel_rfl) rfl (by rw [hb_3]; kernel_rfl) ?_
                  refine lm_al (x := (.bool false)) (d := some 60) (by kernel_rfl) rfl (by kernel_rfl) (by rw [hb_2]; kernel_rfl) (al_pick_f (by rw [hb_3]; kernel_rfl) (by kernel_rfl)) ?_
                  refine lm_nil ?_
                  exact ⟨(fun i => ([undef, undef]).getD i undef), (.bool false), by kernel_rfl, HA_13, H⟩
                · rintro _ w_14 ⟨D_7, x60, rfl, HA_14, H⟩
                  refine lm_al (x := x60) (d := some 61) (by kernel_rfl) rfl (by kernel_rfl) (by rw [hb_1]; kernel_rfl) (al_pick_f (by rw [hb_2]; kernel_rfl) (by kernel_rfl)) ?_
                  refine lm_nil ?_
                  exact ⟨(fun i => ([x18, x52, x52, (D_6 0), (D_6 1), x56, x56, (D_7 0), (D_7 1), x60]).getD i undef), x60, by kernel_rfl, HA_14, H⟩
            · refine lm_skip (d := some 51) (by kernel_rfl) rfl (by rw [hb_2]; kernel_rfl) ?_
              refine lm_skip (d := some 52) (by kernel_rfl) rfl (by rw [hb_2]; kernel_rfl) ?_
              refine lm_skip (d := some 53) (by kernel_rfl) rfl (by rw [hb_2]; kernel_rfl) ?_
              refine lm_fr (b := ⟨([x0, x1, x2, undef, (.bool false), x18, x19, x20, x21, x9, x1, x11, x12, undef, x17, x15, x16, x17, x18, x19, x20, x21, x21, (D 0), (D 1), (D 2), (D 3), x27, x28, x29, x30, x31, x31, (D_1 0), (D_1 1), (D_1 2), (D_1 3), (D_1 4), (D_1 5), (D_1 6), x40, x40, (D_2 0), (D_2 1), (D_2 2), (D_2 3), (D_2 4), x47, x47, x21] ++ [x21, undef, undef, undef, undef, undef, undef, undef, undef, undef, undef, undef, undef, undef, undef, undef]).toArray, []⟩) (by kernel_rfl) ?_
              refine lm_skip (d := some 54) (by kernel_rfl) rfl (by kernel_rfl) ?_
              refine lm_skip (d := some 55) (by kernel_rfl) rfl (by kernel_rfl) ?_
              refine lm_skip (d := some 56) (by kernel_rfl) rfl (by rw [hb_2]; kernel_rfl) ?_
              refine lm_skip (d := some 57) (by kernel_rfl) rfl (by rw [hb_2]; kernel_rfl) ?_
              refine lm_skip (d := some 58) (by kernel_rfl) rfl (by kernel_rfl) ?_
              refine lm_skip (d := some 59) (by kernel_rfl) rfl (by kernel_rfl) ?_
              refine lm_fr (b := ⟨([x0, x1, x2, undef, (.bool false), x18, x19, x20, x21, x9, x1, x11, x12, undef, x17, x15, x16, x17, x18, x19, x20, x21, x21, (D 0), (D 1), (D 2), (D 3), x27, x28, x29, x30, x31, x31, (D_1 0), (D_1 1), (D_1 2), (D_1 3), (D_1 4), (D_1 5), (D_1 6), x40, x40, (D_2 0), (D_2 1), (D_2 2), (D_2 3), (D_2 4), x47, x47, x21] ++ [x21, undef, undef, undef, undef, undef, undef, undef, undef, undef, undef, undef, undef, undef, undef, undef]).toArray, []⟩) (by kernel_rfl) ?_
              refine lm_skip (d := some 60) (by kernel_rfl) rfl (by rw [hb_2]; kernel_rfl) ?_
              refine lm_al (x := (.bool true)) (d := some 61) (by kernel_rfl) rfl (by kernel_rfl) (by rw [hb_1]; kernel_rfl) (al_pick_t (by rw [hb_2]; kernel_rfl) (by kernel_rfl)) ?_
              refine lm_nil ?_
              exact ⟨(fun i => ([undef, undef, undef, undef, undef, undef, undef, undef, undef, undef]).getD i undef), (.bool true), by kernel_rfl, HA_8, H⟩
            · rintro _ w_12 ⟨D_5, x61, rfl, HA_12, H⟩
              refine lm_al (x := x61) (d := some 62) (by kernel_rfl) rfl (by kernel_rfl) (by kernel_rfl) (al_pick_t (by rw [hb_1]; kernel_rfl) (by kernel_rfl)) ?_
              refine lm_nil ?_
              exact ⟨(fun i => ([x21, x21, (D_5 0), (D_5 1), (D_5 2), (D_5 3), (D_5 4), (D_5 5), (D_5 6), (D_5 7), (D_5 8), (D_5 9), x61]).getD i undef), x61, by kernel_rfl, HA_12, H⟩
          · refine lm_skip (d := some 49) (by kernel_rfl) rfl (by rw [hb_1]; kernel_rfl) ?_
            refine lm_skip (d := some 50) (by kernel_rfl) rfl (by rw [hb_1]; kernel_rfl) ?_
            refine lm_skip (d := some 51) (by kernel_rfl) rfl (by kernel_rfl) ?_
            refine lm_skip (d := some 52) (by kernel_rfl) rfl (by kernel_rfl) ?_
            refine lm_skip (d := some 53) (by kernel_rfl) rfl (by kernel_rfl) ?_
            refine lm_fr (b := ⟨([x0, x1, x2, undef, (.bool false), x18, x19, x20, x21, x9, x1, x11, x12, undef, x17, x15, x16, x17, x18, x19, x20, x21, x21, (D 0), (D 1), (D 2), (D 3), x27, x28, x29, x30, x31, x31, (D_1 0), (D_1 1), (D_1 2), (D_1 3), (D_1 4), (D_1 5), (D_1 6), x40, x40, (D_2 0), (D_2 1), (D_2 2), (D_2 3), (D_2 4), x47, x47, undef] ++ [undef, undef, undef, undef, undef, undef, undef, undef, undef, undef, undef, undef, undef, undef, undef, undef]).toArray, []⟩) (by kernel_rfl) ?_
            refine lm_skip (d := some 54) (by kernel_rfl) rfl (by kernel_rfl) ?_
            refine lm_skip (d := some 55) (by kernel_rfl) rfl (by kernel_rfl) ?_
            refine lm_skip (d := some 56) (by kernel_rfl) rfl (by kernel_rfl) ?_
            refine lm_skip (d := some 57) (by kernel_rfl) rfl (by kernel_rfl) ?_
            refine lm_skip (d := some 58) (by kernel_rfl) rfl (by kernel_rfl) ?_
            refine lm_skip (d := some 59) (by kernel_rfl) rfl (by kernel_rfl) ?_
            refine lm_fr (b := ⟨([x0, x1, x2, undef, (.bool false), x18, x19, x20, x21, x9, x1, x11, x12, undef, x17, x15, x16, x17, x18, x19, x20, x21, x21, (D 0), (D 1), (D 2), (D 3), x27, x28, x29, x30, x31, x31, (D_1 0), (D_1 1), (D_1 2), (D_1 3), (D_1 4), (D_1 5), (D_1 6), x40, x40, (D_2 0), (D_2 1), (D_2 2), (D_2 3), (D_2 4), x47, x47, undef] ++ [undef, undef, undef, undef, undef, undef, undef, undef, undef, undef, undef, undef, undef, undef, undef, undef]).toArray, []⟩) (by kernel_rfl) ?_
            refine lm_skip (d := some 60) (by kernel_rfl) rfl (by kernel_rfl) ?_
            refine lm_skip (d := some 61) (by kernel_rfl) rfl (by rw [hb_1]; kernel_rfl) ?_
            refine lm_al (x := (.bool false)) (d := some 62) (by kernel_rfl) rfl (by kernel_rfl) (by kernel_rfl) (al_pick_f (by rw [hb_1]; kernel_rfl) (by kernel_rfl)) ?_
            refine lm_nil ?_
            exact ⟨(fun i => ([undef, undef, undef, undef, undef, undef, undef, undef, undef, undef, undef, undef, undef]).getD i undef), (.bool false), by kernel_rfl, HA_8, H⟩
          · rintro _ w_9 ⟨D_3, x62, rfl, HA_9, H⟩
            refine lm_al (x := x62) (d := some 63) (by kernel_rfl) rfl (by kernel_rfl) (by kernel_rfl) (al_move (by kernel_rfl)) ?_
            refine lm_andh [(), ()] (fun K a w => ∃ (D_4 : Nat → Value) (x65 : Value) (h_8 : Heap), a = ⟨([x0, x1, x2, undef, (.bool false), x18, x19, x20, x21, x9, x1, x11, x12, undef, x17, x15, x16, x17, x18, x19, x20, x21, x21, (D 0), (D 1), (D 2), (D 3), x27, x28, x29, x30, x31, x31, (D_1 0), (D_1 1), (D_1 2), (D_1 3), (D_1 4), (D_1 5), (D_1 6), x40, x40, (D_2 0), (D_2 1), (D_2 2), (D_2 3), (D_2 4), x47, x47, (D_3 0)] ++ [(D_3 1), (D_3 2), (D_3 3), (D_3 4), (D_3 5), (D_3 6), (D_3 7), (D_3 8), (D_3 9), (D_3 10), (D_3 11), (D_3 12), x62, x62, (D_4 0), x65]).toArray, []⟩ ∧ At w0 w h_8 ∧ K x65 h_8) H (fun hb H => ?_) (fun hb H => ?_) ?_
            · refine lm_d (d := some 64) (by kernel_rfl) rfl (by kernel_rfl) (by kernel_rfl) (by rw [hb]; kernel_rfl) HA_9 (d_call (by kernel_rfl) (by kernel_rfl) H) (fun x64 h_9 w_11 H HA_11 => ?_)
              refine lm_al (x := x64) (d := some 65) (by kernel_rfl) rfl (by kernel_rfl) (by kernel_rfl) (al_pick_t (by rw [hb]; kernel_rfl) (by kernel_rfl)) ?_
              refine lm_nil ?_
              exact ⟨(fun i => ([x64]).getD i undef), x64, h_9, by kernel_rfl, HA_11, H⟩
            · refine lm_skip (d := some 64) (by kernel_rfl) rfl (by rw [hb]; kernel_rfl) ?_
              refine lm_al (x := (.bool false)) (d := some 65) (by kernel_rfl) rfl (by kernel_rfl) (by kernel_rfl) (al_pick_f (by rw [hb]; kernel_rfl) (by kernel_rfl)) ?_
              refine lm_nil ?_
              exact ⟨(fun i => ([undef]).getD i undef), (.bool false), h_7, by kernel_rfl, HA_9, H⟩
            · rintro _ w_10 ⟨D_4, x65, h_8, rfl, HA_10, H⟩
              refine lm_al (x := x65) (d := some 4) (by kernel_rfl) rfl (by kernel_rfl) (by kernel_rfl) (al_assign (by kernel_rfl)) ?_
              refine lm_nil ?_
              refine then_normal ?_
              refine fr_eq (b := ⟨([x0, x1, x2, undef, x65, x18, x19, x20, x21, x9, x1, x11, x12, undef, x17, x15, x16, x17, x18, x19, x20, x21, x21, (D 0), (D 1), (D 2), (D 3), x27, x28, x29, x30, x31, x31, (D_1 0), (D_1 1), (D_1 2), (D_1 3), (D_1 4), (D_1 5), (D_1 6), x40, x40, (D_2 0), (D_2 1), (D_2 2), (D_2 3), (D_2 4), x47, x47, (D_3 0)] ++ [(D_3 1), (D_3 2), (D_3 3), (D_3 4), (D_3 5), (D_3 6), (D_3 7), (D_3 8), (D_3 9), (D_3 10), (D_3 11), (D_3 12), x62, x62, (D_4 0), x65]).toArray, []⟩) (by kernel_rfl) ?_
              refine wp_ret ?_
              exact end1 (Try.results10) (by kernel_rfl) (by kernel_rfl) HA_10 H _ (.inr rfl)

end Go.Proofs.Ytkagmlpnidijaaa
