/- The shallow reading of one function, and that the function does it. Written by a program. -/
import Derived.Test.YtbgipcikkedloaaFnC
set_option linter.unusedVariables false
namespace Go.Proofs.Ytbgipcikkedloaa
open Go Go.HW

def betonylaw08_ScanAlt_j1 (R : Value → Heap → Prop) (x1 x2 x5 x6 : Value) (h_1 : Heap) : Prop :=
  sOff x2 1 fun x11 =>
  sLd h_1 x11 fun x12 =>
  sBits .andNot .i64 x12 (.int .i64 4) fun x13 =>
  sOff x5 1 fun x14 =>
  sSt h_1 x14 x13 fun h_2 => 
  sOff x2 1 fun x15 =>
  sLd h_2 x15 fun x16 =>
  sBits .or .i64 x16 (.int .i64 4) fun x17 =>
  sOff x6 1 fun x18 =>
  sSt h_2 x18 x17 fun h_3 => 
  ∃ C : Heap → Prop, C h_3 ∧ (sLdNC C x5 2 fun x19 =>
  scan_Bytes_c x19 x1 h_3 fun x21 h_4 => C h_4 ∧ (
  sLdNC C x6 2 fun x22 =>
  scan_Bytes_c x22 x1 h_4 fun x24 h_5 => 
  sLen x21 fun x26 =>
  sEq x26 (.int .i64 0) fun x27 =>
  sIf x27 (sLen x24 fun x29 =>
  sEq x29 (.int .i64 0) fun x30 =>
  sAndH x30 h_5 (fun k =>
  betonylaw08_awake_c  h_5 fun x32 h_7 => 
  k x32 h_7) fun x33 h_6 =>
  R x33 h_6) (sLen x24 fun x35 =>
  sLen x21 fun x37 =>
  sAdd .i64 x37 (.int .i64 1) fun x38 =>
  sEq x35 x38 fun x39 =>
  sAnd x39 (fun k_4 =>
  sIxS x24 (.int .i64 0) 1 fun x42 =>
  sLd h_5 x42 fun x43 =>
  sEq x43 (.int .u8 27) fun x44 =>
  k_4 x44) fun x45 =>
  sAndH x45 h_5 (fun k_3 =>
  sSl x24 (some (.int .i64 1)) none 1 fun x48 =>
  betonyref01_Same_c x48 x21 h_5 fun x50 h_13 => 
  k_3 x50 h_13) fun x51 h_8 =>
  sAndH x51 h_8 (fun k_2 =>
  sOff x2 1 fun x53 =>
  sLd h_8 x53 fun x54 =>
  sBuild #[.int .i64 0, .int .i64 0] [(0, 1, (.int .i64 118)), (1, 1, x54)] fun x55 =>
  scan_Bytes_c x55 x1 h_8 fun x57 h_12 => 
  sLen x57 fun x58 =>
  sEq x58 (.int .i64 0) fun x59 =>
  k_2 x59 h_12) fun x60 h_9 =>
  sAndH x60 h_9 (fun k_1 =>
  betonylaw08_awake_c  h_9 fun x62 h_11 => 
  k_1 x62 h_11) fun x63 h_10 =>
  R x63 h_10)))
def betonylaw08_ScanAlt_S (x0 x1 : Value) (h : Heap) (R : Value → Heap → Prop) : Prop :=
  sBox h x0 52 fun x2 h => 
  ∃ C_1 : Heap → Prop, C_1 h ∧ (sLdNC C_1 x2 2 fun x9 =>
  sLdNC C_1 x2 2 fun x10 =>
  (sNew h #[.int .i64 0, .int .i64 0] 52 fun x5_1 h_14 => C_1 h_14 ∧ (
  sNew h_14 #[.int .i64 0, .int .i64 0] 52 fun x6_1 h_15 => C_1 h_15 ∧ (
  sStN h_15 x5_1 x9 2 fun h_16 => C_1 h_16 ∧ (
  sStN h_16 x6_1 x10 2 fun h_17 => 
  betonylaw08_ScanAlt_j1 R x1 x2 x5_1 x6_1 h_17)))) ∧
  (sNew h #[.int .i64 0, .int .i64 0] 52 fun x6_2 h_18 => C_1 h_18 ∧ (
  sNew h_18 #[.int .i64 0, .int .i64 0] 52 fun x5_2 h_19 => C_1 h_19 ∧ (
  sStN h_19 x5_2 x9 2 fun h_20 => C_1 h_20 ∧ (
  sStN h_20 x6_2 x10 2 fun h_21 => 
  betonylaw08_ScanAlt_j1 R x1 x2 x5_2 x6_2 h_21)))))
set_option maxRecDepth 100000 in
theorem betonylaw08_ScanAlt_runs {x0 x1 : Value} {h : Heap} {R : Value → Heap → Prop} (H : betonylaw08_ScanAlt_S x0 x1 h R) : betonylaw08_ScanAlt_c x0 x1 h R := by
  unfold betonylaw08_ScanAlt_S at H
  refine runs_of (b := ⟨([x0, x1, undef, undef, undef, undef, undef, undef, undef, undef, undef, undef, undef, undef, undef, undef, undef, undef, undef, undef, undef, undef, undef, undef, undef, undef, undef, undef, undef, undef, undef, undef, undef, undef, undef, undef, undef, undef, undef, undef, undef, undef, undef, undef, undef, undef, undef, undef, undef, undef] ++ [undef, undef, undef, undef, undef, undef, undef, undef, undef, undef, undef, undef, undef, undef]).toArray, []⟩) Try.call6 Try.func6 rfl (by kernel_rfl) (fun w0 HA => ?_)
  refine wp_seq ?_
  refine lwp_list ?_
  refine ls_d (d := some 2) (by kernel_rfl) (by kernel_rfl) HA (d_box (by kernel_rfl) H) (fun x2 h w H HA => ?_)
  refine ls_assign (x := (.bool false)) (by kernel_rfl) (by kernel_rfl) ?_
  refine ls_nil ?_
  refine then_normal ?_
  refine fr_eq (b := ⟨([x0, x1, x2, undef, (.bool false), undef, undef, undef, undef, undef, undef, undef, undef, undef, undef, undef, undef, undef, undef, undef, undef, undef, undef, undef, undef, undef, undef, undef, undef, undef, undef, undef, undef, undef, undef, undef, undef, undef, undef, undef, undef, undef, undef, undef, undef, undef, undef, undef, undef, undef] ++ [undef, undef, undef, undef, undef, undef, undef, undef, undef, undef, undef, undef, undef, undef]).toArray, []⟩) (by kernel_rfl) ?_
  refine wp_seq ?_
  refine wp_join (fun a w => ∃ (D : Nat → Value) (x5 x6 : Value) (h_1 : Heap), a = ⟨([x0, x1, x2, undef, (.bool false), x5, x6, undef, undef, (D 0), (D 1), undef, undef, undef, undef, undef, undef, undef, undef, undef, undef, undef, undef, undef, undef, undef, undef, undef, undef, undef, undef, undef, undef, undef, undef, undef, undef, undef, undef, undef, undef, undef, undef, undef, undef, undef, undef, undef, undef, undef] ++ [undef, undef, undef, undef, undef, undef, undef, undef, undef, undef, undef, undef, undef, undef]).toArray, []⟩ ∧ At w0 w h_1 ∧ betonylaw08_ScanAlt_j1 R x1 x2 x5 x6 h_1) ?_ ?_
  · obtain ⟨C_1, HC, H⟩ := H
    refine lwp_pl (Nat.testBit 60) (Nat.testBit 28) (Nat.testBit 0) [0, 0, 0, 0, 13, 31] C_1 (.op 0 (.op 1 (.alt (.op 2 (.op 3 (.op 4 (.op 5 .done)))) (.op 3 (.op 2 (.op 4 (.op 5 .done))))))) (by kernel_rfl) (by kernel_rfl) HA HC ?_
    intro w_16 HA_16
    refine lp_f (d := some 9) (by kernel_rfl) rfl (by kernel_rfl) (by kernel_rfl) (by kernel_rfl) (c_ldn Try.isAgg52 Try.sizeOf52 (by kernel_rfl) H) (fun x9 H => ?_)
    refine lp_f (d := some 10) (by kernel_rfl) rfl (by kernel_rfl) (by kernel_rfl) (by kernel_rfl) (c_ldn Try.isAgg52 Try.sizeOf52 (by kernel_rfl) H) (fun x10 H => ?_)
    obtain ⟨Ha, Hb⟩ := H
    refine lp_alt ?_ ?_
    · have H := Ha
      clear Ha Hb
      refine lp_dc (d := some 5) (by kernel_rfl) rfl (by kernel_rfl) (by kernel_rfl) HA_16 (d_alloc Try.zeroValue52 H) (fun x5_1 h_14 w_17 H HA_17 => ?_)
      refine lp_dc (d := some 6) (by kernel_rfl) rfl (by kernel_rfl) (by kernel_rfl) HA_17 (d_alloc Try.zeroValue52 H) (fun x6_1 h_15 w_18 H HA_18 => ?_)
      refine lp_dcs (d := none) (by kernel_rfl) rfl (by kernel_rfl) (by kernel_rfl) HA_18 (d_stn Try.sizeOf52 (by kernel_rfl) (by kernel_rfl) H) (fun _ h_16 w_19 H HA_19 => ?_)
      refine lp_d (d := none) (by kernel_rfl) rfl (by kernel_rfl) (by kernel_rfl) (by kernel_rfl) HA_19 (d_stn Try.sizeOf52 (by kernel_rfl) (by kernel_rfl) H) (fun _ h_17 w_20 H HA_20 => ?_)
      refine lp_nil ?_
      exact ⟨(fun i => ([x9, x10]).getD i undef), x5_1, x6_1, h_17, by kernel_rfl, HA_20, H⟩
    · have H := Hb
      clear Ha Hb
      refine lp_dc (d := some 6) (by kernel_rfl) rfl (by kernel_rfl) (by kernel_rfl) HA_16 (d_alloc Try.zeroValue52 H) (fun x6_2 h_18 w_21 H HA_21 => ?_)
      refine lp_dc (d := some 5) (by kernel_rfl) rfl (by kernel_rfl) (by kernel_rfl) HA_21 (d_alloc Try.zeroValue52 H) (fun x5_2 h_19 w_22 H HA_22 => ?_)
      refine lp_dcs (d := none) (by kernel_rfl) rfl (by kernel_rfl) (by kernel_rfl) HA_22 (d_stn Try.sizeOf52 (by kernel_rfl) (by kernel_rfl) H) (fun _ h_20 w_23 H HA_23 => ?_)
      refine lp_d (d := none) (by kernel_rfl) rfl (by kernel_rfl) (by kernel_rfl) (by kernel_rfl) HA_23 (d_stn Try.sizeOf52 (by kernel_rfl) (by kernel_rfl) H) (fun _ h_21 w_24 H HA_24 => ?_)
      refine lp_nil ?_
      exact ⟨(fun i => ([x9, x10]).getD i undef), x5_2, x6_2, h_21, by kernel_rfl, HA_24, H⟩
  · rintro _ w_1 ⟨D, x5, x6, h_1, rfl, HA_1, H⟩
    unfold betonylaw08_ScanAlt_j1 at H
    refine then_normal ?_
    refine fr_eq (b := ⟨([x0, x1, x2, undef, (.bool false), x5, x6, undef, undef, (D 0), (D 1), undef, undef, undef, undef, undef, undef, undef, undef, undef, undef, undef, undef, undef, undef, undef, undef, undef, undef, undef, undef, undef, undef, undef, undef, undef, undef, undef, undef, undef, undef, undef, undef, undef, undef, undef, undef, undef, undef, undef] ++ [undef, undef, undef, undef, undef, undef, undef, undef, undef, undef, undef, undef, undef, undef]).toArray, []⟩) (by kernel_rfl) ?_
    refine wp_seq ?_
    refine lwp_list ?_
    refine ls_p (d := some 11) (by kernel_rfl) (by kernel_rfl) (p_off Try.underlying52 rfl (fun w => ⟨_, Try.sizeOf3 w⟩) rfl (by kernel_rfl) H) (fun x11 H => ?_)
    refine ls_y (d := some 12) (by kernel_rfl) (by kernel_rfl) HA_1 (y_ld Try.isAgg3 (by kernel_rfl) H) (fun x12 H => ?_)
    refine ls_p (d := some 13) (by kernel_rfl) (by kernel_rfl) (p_bits (by decide) (by kernel_rfl) (by kernel_rfl) H) (fun x13 H => ?_)
    refine ls_p (d := some 14) (by kernel_rfl) (by kernel_rfl) (p_off Try.underlying52 rfl (fun w => ⟨_, Try.sizeOf3 w⟩) rfl (by kernel_rfl) H) (fun x14 H => ?_)
    refine ls_d (d := none) (by kernel_rfl) (by kernel_rfl) HA_1 (d_st Try.sizeOf3 (by kernel_rfl) (by kernel_rfl) H) (fun _ h_2 w_2 H HA_2 => ?_)
    refine ls_nil ?_
    refine then_normal ?_
    refine fr_eq (b := ⟨([x0, x1, x2, undef, (.bool false), x5, x6, undef, undef, (D 0), (D 1), x11, x12, x13, x14, undef, undef, undef, undef, undef, undef, undef, undef, undef, undef, undef, undef, undef, undef, undef, undef, undef, undef, undef, undef, undef, undef, undef, undef, undef, undef, undef, undef, undef, undef, undef, undef, undef, undef, undef] ++ [undef, undef, undef, undef, undef, undef, undef, undef, undef, undef, undef, undef, undef, undef]).toArray, []⟩) (by kernel_rfl) ?_
    refine wp_seq ?_
    refine lwp_list ?_
    refine ls_p (d := some 15) (by kernel_rfl) (by kernel_rfl) (p_off Try.underlying52 rfl (fun w => ⟨_, Try.sizeOf3 w⟩) rfl (by kernel_rfl) H) (fun x15 H => ?_)
    refine ls_y (d := some 16) (by kernel_rfl) (by kernel_rfl) HA_2 (y_ld Try.isAgg3 (by kernel_rfl) H) (fun x16 H => ?_)
    refine ls_p (d := some 17) (by kernel_rfl) (by kernel_rfl) (p_bits (by decide) (by kernel_rfl) (by kernel_rfl) H) (fun x17 H => ?_)
    refine ls_p (d := some 18) (by kernel_rfl) (by kernel_rfl) (p_off Try.underlying52 rfl (fun w => ⟨_, Try.sizeOf3 w⟩) rfl (by kernel_rfl) H) (fun x18 H => ?_)
    refine ls_d (d := none) (by kernel_rfl) (by kernel_rfl) HA_2 (d_st Try.sizeOf3 (by kernel_rfl) (by kernel_rfl) H) (fun _ h_3 w_3 H HA_3 => ?_)
    refine ls_nil ?_
    refine then_normal ?_
    refine fr_eq (b := ⟨([x0, x1, x2, undef, (.bool false), x5, x6, undef, undef, (D 0), (D 1), x11, x12, x13, x14, x15, x16, x17, x18, undef, undef, undef, undef, undef, undef, undef, undef, undef, undef, undef, undef, undef, undef, undef, undef, undef, undef, undef, undef, undef, undef, undef, undef, undef, undef, undef, undef, undef, undef, undef] ++ [undef, undef, undef, undef, undef, undef, undef, undef, undef, undef, undef, undef, undef, undef]).toArray, []⟩) (by kernel_rfl) ?_
    refine wp_seq ?_
    obtain ⟨C, HC, H⟩ := H
    refine lwp_mx (Nat.testBit 36) (Nat.testBit 4) (Nat.testBit 210) [0, 0, 3, 0, 0, 31, 63, 127] C [0, 1, 2, 3, 4, 5, 6, 7] (by kernel_rfl) (by kernel_rfl) (by kernel_rfl) HA_3 HC ?_
    intro w_4 HA_4
    refine lm_f (d := some 19) (by kernel_rfl) rfl (by kernel_rfl) (by kernel_rfl) (by kernel_rfl) (c_ldn Try.isAgg52 Try.sizeOf52 (by kernel_rfl) H) (fun x19 H => ?_)
    refine lm_al (x := x1) (d := some 20) (by kernel_rfl) rfl (by kernel_rfl) (by kernel_rfl) (al_move (by kernel_rfl)) ?_
    refine lm_dc (d := some 21) (by kernel_rfl) rfl (by kernel_rfl) (by kernel_rfl) HA_4 (d_call (by kernel_rfl) (by kernel_rfl) H) (fun x21 h_4 w_5 H HA_5 => ?_)
    refine lm_f (d := some 22) (by kernel_rfl) rfl (by kernel_rfl) (by kernel_rfl) (by kernel_rfl) (c_ldn Try.isAgg52 Try.sizeOf52 (by kernel_rfl) H) (fun x22 H => ?_)
    refine lm_al (x := x1) (d := some 23) (by kernel_rfl) rfl (by kernel_rfl) (by kernel_rfl) (al_move (by kernel_rfl)) ?_
    refine lm_d (d := some 24) (by kernel_rfl) rfl (by kernel_rfl) (by kernel_rfl) (by kernel_rfl) HA_5 (d_call (by kernel_rfl) (by kernel_rfl) H) (fun x24 h_5 w_6 H HA_6 => ?_)
    refine lm_fr (b := ⟨([x0, x1, x2, undef, (.bool false), x5, x6, undef, undef, (D 0), (D 1), x11, x12, x13, x14, x15, x16, x17, x18, x19, x1, x21, x22, x1, x24, undef, undef, undef, undef, undef, undef, undef, undef, undef, undef, undef, undef, undef, undef, undef, undef, undef, undef, undef, undef, undef, undef, undef, undef, undef] ++ [undef, undef, undef, undef, undef, undef, undef, undef, undef, undef, undef, undef, undef, undef]).toArray, []⟩) (by kernel_rfl) ?_
    refine lm_al (x := x21) (d := some 7) (by kernel_rfl) rfl (by kernel_rfl) (by kernel_rfl) (al_assign (by kernel_rfl)) ?_
    refine lm_al (x := x24) (d := some 8) (by kernel_rfl) rfl (by kernel_rfl) (by kernel_rfl) (al_assign (by kernel_rfl)) ?_
    refine lm_nil ?_
    refine then_normal ?_
    refine fr_eq (b := ⟨([x0, x1, x2, undef, (.bool false), x5, x6, x21, x24, (D 0), (D 1), x11, x12, x13, x14, x15, x16, x17, x18, x19, x1, x21, x22, x1, x24, undef, undef, undef, undef, undef, undef, undef, undef, undef, undef, undef, undef, undef, undef, undef, undef, undef, undef, undef, undef, undef, undef, undef, undef, undef] ++ [undef, undef, undef, undef, undef, undef, undef, undef, undef, undef, undef, undef, undef, undef]).toArray, []⟩) (by kernel_rfl) ?_
    refine wp_seq ?_
    refine wp_seq ?_
    refine lwp_list ?_
    refine ls_move (x := x21) (by kernel_rfl) (by kernel_rfl) ?_
    refine ls_p (d := some 26) (by kernel_rfl) (by kernel_rfl) (p_len Try.underlying54 (by kernel_rfl) H) (fun x26 H => ?_)
    refine ls_p (d := some 27) (by kernel_rfl) (by kernel_rfl) (p_sEq (by kernel_rfl) (by kernel_rfl) H) (fun x27 H => ?_)
    refine ls_nil ?_
    refine then_normal ?_
    refine fr_eq (b := ⟨([x0, x1, x2, undef, (.bool false), x5, x6, x21, x24, (D 0), (D 1), x11, x12, x13, x14, x15, x16, x17, x18, x19, x1, x21, x22, x1, x24, x21, x26, x27, undef, undef, undef, undef, undef, undef, undef, undef, undef, undef, undef, undef, undef, undef, undef, undef, undef, undef, undef, undef, undef, undef] ++ [undef, undef, undef, undef, undef, undef, undef, undef, undef, undef, undef, undef, undef, undef]).toArray, []⟩) (by kernel_rfl) ?_
    refine wp_if rfl H (fun H => ?_) (fun H => ?_)
    · refine wp_seq ?_
      refine lwp_list ?_
      refine ls_move (x := x24) (by kernel_rfl) (by kernel_rfl) ?_
      refine ls_p (d := some 29) (by kernel_rfl) (by kernel_rfl) (p_len Try.underlying54 (by kernel_rfl) H) (fun x29 H => ?_)
      refine ls_p (d := some 30) (by kernel_rfl) (by kernel_rfl) (p_sEq (by kernel_rfl) (by kernel_rfl) H) (fun x30 H => ?_)
      refine ls_move (x := x30) (by kernel_rfl) (by kernel_rfl) ?_
      refine ls_andh [(), ()] (fun K a w => ∃ (D_1 : Nat → Value) (x33 : Value) (h_6 : Heap), a = ⟨([x0, x1, x2, undef, (.bool false), x5, x6, x21, x24, (D 0), (D 1), x11, x12, x13, x14, x15, x16, x17, x18, x19, x1, x21, x22, x1, x24, x21, x26, x27, x24, x29, x30, x30, (D_1 0), x33, undef, undef, undef, undef, undef, undef, undef, undef, undef, undef, undef, undef, undef, undef, undef, undef] ++ [undef, undef, undef, undef, undef, undef, undef, undef, undef, undef, undef, undef, undef, undef]).toArray, []⟩ ∧ At w0 w h_6 ∧ K x33 h_6) H (fun hb H => ?_) (fun hb H => ?_) ?_
      · refine ls_d (d := some 32) (by kernel_rfl) (by rw [hb]; kernel_rfl) HA_6 (d_call (by kernel_rfl) (by kernel_rfl) H) (fun x32 h_7 w_8 H HA_8 => ?_)
        refine ls_pick_t (x := x32) (by kernel_rfl) (by rw [hb]; kernel_rfl) (by kernel_rfl) ?_
        refine ls_nil ?_
        refine then_normal ?_
        exact ⟨(fun i => ([x32]).getD i undef), x32, h_7, by kernel_rfl, HA_8, H⟩
      · refine ls_skip (d := some 32) (by kernel_rfl) (by rw [hb]; kernel_rfl) ?_
        refine ls_pick_f (y := (.bool false)) (by kernel_rfl) (by rw [hb]; kernel_rfl) (by kernel_rfl) ?_
        refine ls_nil ?_
        refine then_normal ?_
        exact ⟨(fun i => ([undef]).getD i undef), (.bool false), h_5, by kernel_rfl, HA_6, H⟩
      · rintro _ w_7 ⟨D_1, x33, h_6, rfl, HA_7, H⟩
        refine ls_assign (x := x33) (by kernel_rfl) (by kernel_rfl) ?_
        refine ls_nil ?_
        refine then_normal ?_
        refine fr_eq (b := ⟨([x0, x1, x2, undef, x33, x5, x6, x21, x24, (D 0), (D 1), x11, x12, x13, x14, x15, x16, x17, x18, x19, x1, x21, x22, x1, x24, x21, x26, x27, x24, x29, x30, x30, (D_1 0), x33, undef, undef, undef, undef, undef, undef, undef, undef, undef, undef, undef, undef, undef, undef, undef, undef] ++ [undef, undef, undef, undef, undef, undef, undef, undef, undef, undef, undef, undef, undef, undef]).toArray, []⟩) (by kernel_rfl) ?_
        refine wp_ret ?_
        refine then_ret ?_
        exact end1 (Try.results6) (by kernel_rfl) (by kernel_rfl) HA_7 H _ (.inr rfl)
    · refine wp_skip ?_
      refine then_normal ?_
      refine fr_eq (b := ⟨([x0, x1, x2, undef, (.bool false), x5, x6, x21, x24, (D 0), (D 1), x11, x12, x13, x14, x15, x16, x17, x18, x19, x1, x21, x22, x1, x24, x21, x26, x27, undef, undef, undef, undef, undef, undef, undef, undef, undef, undef, undef, undef, undef, undef, undef, undef, undef, undef, undef, undef, undef, undef] ++ [undef, undef, undef, undef, undef, undef, undef, undef, undef, undef, undef, undef, undef, undef]).toArray, []⟩) (by kernel_rfl) ?_
      refine wp_seq ?_
      refine lwp_list ?_
      refine ls_move (x := x24) (by kernel_rfl) (by kernel_rfl) ?_
      refine ls_p (d := some 35) (by kernel_rfl) (by kernel_rfl) (p_len Try.underlying54 (by kernel_rfl) H) (fun x35 H => ?_)
      refine ls_move (x := x21) (by kernel_rfl) (by kernel_rfl) ?_
      refine ls_p (d := some 37) (by kernel_rfl) (by kernel_rfl) (p_len Try.underlying54 (by kernel_rfl) H) (fun x37 H => ?_)
      refine ls_p (d := some 38) (by kernel_rfl) (by kernel_rfl) (p_add (by kernel_rfl) (by kernel_rfl) H) (fun x38 H => ?_)
      refine ls_p (d := some 39) (by kernel_rfl) (by kernel_rfl) (p_sEq (by kernel_rfl) (by kernel_rfl) H) (fun x39 H => ?_)
      refine ls_fr (b := ⟨([x0, x1, x2, undef, (.bool false), x5, x6, x21, x24, (D 0), (D 1), x11, x12, x13, x14, x15, x16, x17, x18, x19, x1, x21, x22, x1, x24, x21, x26, x27, undef, undef, undef, undef, undef, undef, x24, x35, x21, x37, x38, x39, undef, undef, undef, undef, undef, undef, undef, undef, undef, undef] ++ [undef, undef, undef, undef, undef, undef, undef, undef, undef, undef, undef, undef, undef, undef]).toArray, []⟩) (by kernel_rfl) ?_
      refine ls_move (x := x39) (by kernel_rfl) (by kernel_rfl) ?_
      refine ls_and [(), (), (), (), ()] (fun K a w => ∃ (D_2 : Nat → Value) (x45 : Value), a = ⟨([x0, x1, x2, undef, (.bool false), x5, x6, x21, x24, (D 0), (D 1), x11, x12, x13, x14, x15, x16, x17, x18, x19, x1, x21, x22, x1, x24, x21, x26, x27, undef, undef, undef, undef, undef, undef, x24, x35, x21, x37, x38, x39, x39, (D_2 0), (D_2 1), (D_2 2), (D_2 3), x45, undef, undef, undef, undef] ++ [undef, undef, undef, undef, undef, undef, undef, undef, undef, undef, undef, undef, undef, undef]).toArray, []⟩ ∧ At w0 w h_5 ∧ K x45) H (fun hb_4 H => ?_) (fun hb_4 H => ?_) ?_
      · refine ls_move (x := x24) (by rw [hb_4]; kernel_rfl) (by kernel_rfl) ?_
        refine ls_p (d := some 42) (by kernel_rfl) (by rw [hb_4]; kernel_rfl) (p_ixs Try.underlying54 Try.sizeOf5 (by kernel_rfl) (by kernel_rfl) H) (fun x42 H => ?_)
        refine ls_y (d := some 43) (by kernel_rfl) (by rw [hb_4]; kernel_rfl) HA_6 (y_ld Try.isAgg5 (by kernel_rfl) H) (fun x43 H => ?_)
        refine ls_p (d := some 44) (by kernel_rfl) (by rw [hb_4]; kernel_rfl) (p_sEq (by kernel_rfl) (by kernel_rfl) H) (fun x44 H => ?_)
        refine ls_pick_t (x := x44) (by kernel_rfl) (by rw [hb_4]; kernel_rfl) (by kernel_rfl) ?_
        refine ls_nil ?_
        refine then_normal ?_
        exact ⟨(fun i => ([x24, x42, x43, x44]).getD i undef), x44, by kernel_rfl, HA_6, H⟩
      · refine ls_skip (d := some 41) (by kernel_rfl) (by rw [hb_4]; kernel_rfl) ?_
        refine ls_skip (d := some 42) (by kernel_rfl) (by rw [hb_4]; kernel_rfl) ?_
        refine ls_skip (d := some 43) (by kernel_rfl) (by rw [hb_4]; kernel_rfl) ?_
        refine ls_skip (d := some 44) (by kernel_rfl) (by rw [hb_4]; kernel_rfl) ?_
        refine ls_pick_f (y := (.bool false)) (by kernel_rfl) (by rw [hb_4]; kernel_rfl) (by kernel_rfl) ?_
        refine ls_nil ?_
        refine then_normal ?_
        exact ⟨(fun i => ([undef, undef, undef, undef]).getD i undef), (.bool false), by kernel_rfl, HA_6, H⟩
      · rintro _ w_9 ⟨D_2, x45, rfl, HA_9, H⟩
        refine ls_move (x := x45) (by kernel_rfl) (by kernel_rfl) ?_
        refine ls_andh [(), (), (), (), ()] (fun K a w => ∃ (D_3 : Nat → Value) (x51 : Value) (h_8 : Heap), a = ⟨([x0, x1, x2, undef, (.bool false), x5, x6, x21, x24, (D 0), (D 1), x11, x12, x13, x14, x15, x16, x17, x18, x19, x1, x21, x22, x1, x24, x21, x26, x27, undef, undef, undef, undef, undef, undef, x24, x35, x21, x37, x38, x39, x39, (D_2 0), (D_2 1), (D_2 2), (D_2 3), x45, x45, (D_3 0), (D_3 1), (D_3 2)] ++ [(D_3 3), x51, undef, undef, undef, undef, undef, undef, undef, undef, undef, undef, undef, undef]).toArray, []⟩ ∧ At w0 w h_8 ∧ K x51 h_8) H (fun hb_3 H => ?_) (fun hb_3 H => ?_) ?_
        · refine ls_move (x := x24) (by rw [hb_3]; kernel_rfl) (by kernel_rfl) ?_
          refine ls_p (d := some 48) (by kernel_rfl) (by rw [hb_3]; kernel_rfl) (p_sl Try.underlying54 Try.sizeOf5 (by kernel_rfl) (by kernel_rfl) (by kernel_rfl) H) (fun x48 H => ?_)
          refine ls_move (x := x21) (by rw [hb_3]; kernel_rfl) (by kernel_rfl) ?_
          refine ls_d (d := some 50) (by kernel_rfl) (by rw [hb_3]; kernel_rfl) HA_9 (d_call (by kernel_rfl) (by kernel_rfl) H) (fun x50 h_13 w_15 H HA_15 => ?_)
          refine ls_pick_t (x := x50) (by kernel_rfl) (by rw [hb_3]; kernel_rfl) (by kernel_rfl) ?_
          refine ls_nil ?_
          refine then_normal ?_
          exact ⟨(fun i => ([x24, x48, x21, x50]).getD i undef), x50, h_13, by kernel_rfl, HA_15, H⟩
        · refine ls_skip (d := some 47) (by kernel_rfl) (by rw [hb_3]; kernel_rfl) ?_
          refine ls_skip (d := some 48) (by kernel_rfl) (by rw [hb_3]; kernel_rfl) ?_
          refine ls_skip (d := some 49) (by kernel_rfl) (by rw [hb_3]; kernel_rfl) ?_
          refine ls_skip (d := some 50) (by kernel_rfl) (by rw [hb_3]; kernel_rfl) ?_
          refine ls_pick_f (y := (.bool false)) (by kernel_rfl) (by rw [hb_3]; kernel_rfl) (by kernel_rfl) ?_
          refine ls_nil ?_
          refine then_normal ?_
          exact ⟨(fun i => ([undef, undef, undef, undef]).getD i undef), (.bool false), h_5, by kernel_rfl, HA_9, H⟩
        · rintro _ w_10 ⟨D_3, x51, h_8, rfl, HA_10, H⟩
          refine ls_move (x := x51) (by kernel_rfl) (by kernel_rfl) ?_
          refine ls_andh [(), (), (), (), (), (), (), ()] (fun K a w => ∃ (D_4 : Nat → Value) (x60 : Value) (h_9 : Heap), a = ⟨([x0, x1, x2, undef, (.bool false), x5, x6, x21, x24, (D 0), (D 1), x11, x12, x13, x14, x15, x16, x17, x18, x19, x1, x21, x22, x1, x24, x21, x26, x27, undef, undef, undef, undef, undef, undef, x24, x35, x21, x37, x38, x39, x39, (D_2 0), (D_2 1), (D_2 2), (D_2 3), x45, x45, (D_3 0), (D_3 1), (D_3 2)] ++ [(D_3 3), x51, x51, (D_4 0), (D_4 1), (D_4 2), (D_4 3), (D_4 4), (D_4 5), (D_4 6), x60, undef, undef, undef]).toArray, []⟩ ∧ At w0 w h_9 ∧ K x60 h_9) H (fun hb_2 H => ?_) (fun hb_2 H => ?_) ?_
          · refine ls_p (d := some 53) (by kernel_rfl) (by rw [hb_2]; kernel_rfl) (p_off Try.underlying52 rfl (fun w => ⟨_, Try.sizeOf3 w⟩) rfl (by kernel_rfl) H) (fun x53 H => ?_)
            refine ls_y (d := some 54) (by kernel_rfl) (by rw [hb_2]; kernel_rfl) HA_10 (y_ld Try.isAgg3 (by kernel_rfl) H) (fun x54 H => ?_)
            refine ls_p (d := some 55) (by kernel_rfl) (by rw [hb_2]; kernel_rfl) (p_lit (pl := [(0, 1), (1, 1)]) Try.zeroValue52 Try.underlying52 ⟨(by kernel_rfl), Try.sizeOf3, (by kernel_rfl), Try.sizeOf3, trivial⟩ (by kernel_rfl) (by kernel_rfl) H) (fun x55 H => ?_)
            refine ls_move (x := x1) (by rw [hb_2]; kernel_rfl) (by kernel_rfl) ?_
            refine ls_d (d := some 57) (by kernel_rfl) (by rw [hb_2]; kernel_rfl) HA_10 (d_call (by kernel_rfl) (by kernel_rfl) H) (fun x57 h_12 w_14 H HA_14 => ?_)
            refine ls_fr (b := ⟨([x0, x1, x2, undef, (.bool false), x5, x6, x21, x24, (D 0), (D 1), x11, x12, x13, x14, x15, x16, x17, x18, x19, x1, x21, x22, x1, x24, x21, x26, x27, undef, undef, undef, undef, undef, undef, x24, x35, x21, x37, x38, x39, x39, (D_2 0), (D_2 1), (D_2 2), (D_2 3), x45, x45, (D_3 0), (D_3 1), (D_3 2)] ++ [(D_3 3), x51, x51, x53, x54, x55, x1, x57, undef, undef, undef, undef, undef, undef]).toArray, []⟩) (by kernel_rfl) ?_
            refine ls_p (d := some 58) (by kernel_rfl) (by rw [hb_2]; kernel_rfl) (p_len Try.underlying54 (by kernel_rfl) H) (fun x58 H => ?_)
            refine ls_p (d := some 59) (by kernel_rfl) (by rw [hb_2]; kernel_rfl) (p_sEq (by kernel_rfl) (by kernel_rfl) H) (fun x59 H => ?_)
            refine ls_pick_t (x := x59) (by kernel_rfl) (by rw [hb_2]; kernel_rfl) (by kernel_rfl) ?_
            refine ls_nil ?_
            refine then_normal ?_
            exact ⟨(fun i => ([x53, x54, x55, x1, x57, x58, x59]).getD i undef), x59, h_12, by kernel_rfl, HA_14, H⟩
          · refine ls_skip (d := some 53) (by kernel_rfl) (by rw [hb_2]; kernel_rfl) ?_
            refine ls_skip (d := some 54) (by kernel_rfl) (by rw [hb_2]; kernel_rfl) ?_
            refine ls_skip (d := some 55) (by kernel_rfl) (by rw [hb_2]; kernel_rfl) ?_
            refine ls_skip (d := some 56) (by kernel_rfl) (by rw [hb_2]; kernel_rfl) ?_
            refine ls_skip (d := some 57) (by kernel_rfl) (by rw [hb_2]; kernel_rfl) ?_
            refine ls_fr (b := ⟨([x0, x1, x2, undef, (.bool false), x5, x6, x21, x24, (D 0), (D 1), x11, x12, x13, x14, x15, x16, x17, x18, x19, x1, x21, x22, x1, x24, x21, x26, x27, undef, undef, undef, undef, undef, undef, x24, x35, x21, x37, x38, x39, x39, (D_2 0), (D_2 1), (D_2 2), (D_2 3), x45, x45, (D_3 0), (D_3 1), (D_3 2)] ++ [(D_3 3), x51, x51, undef, undef, undef, undef, undef, undef, undef, undef, undef, undef, undef]).toArray, []⟩) (by kernel_rfl) ?_
            refine ls_skip (d := some 58) (by kernel_rfl) (by rw [hb_2]; kernel_rfl) ?_
            refine ls_skip (d := some 59) (by kernel_rfl) (by rw [hb_2]; kernel_rfl) ?_
            refine ls_pick_f (y := (.bool false)) (by kernel_rfl) (by rw [hb_2]; kernel_rfl) (by kernel_rfl) ?_
            refine ls_nil ?_
            refine then_normal ?_
            exact ⟨(fun i => ([undef, undef, undef, undef, undef, undef, undef]).getD i undef), (.bool false), h_8, by kernel_rfl, HA_10, H⟩
          · rintro _ w_11 ⟨D_4, x60, h_9, rfl, HA_11, H⟩
            refine ls_move (x := x60) (by kernel_rfl) (by kernel_rfl) ?_
            refine ls_andh [(), ()] (fun K a w => ∃ (D_5 : Nat → Value) (x63 : Value) (h_10 : Heap), a = ⟨([x0, x1, x2, undef, (.bool false), x5, x6, x21, x24, (D 0), (D 1), x11, x12, x13, x14, x15, x16, x17, x18, x19, x1, x21, x22, x1, x24, x21, x26, x27, undef, undef, undef, undef, undef, undef, x24, x35, x21, x37, x38, x39, x39, (D_2 0), (D_2 1), (D_2 2), (D_2 3), x45, x45, (D_3 0), (D_3 1), (D_3 2)] ++ [(D_3 3), x51, x51, (D_4 0), (D_4 1), (D_4 2), (D_4 3), (D_4 4), (D_4 5), (D_4 6), x60, x60, (D_5 0), x63]).toArray, []⟩ ∧ At w0 w h_10 ∧ K x63 h_10) H (fun hb_1 H => ?_) (fun hb_1 H => ?_) ?_
            · refine ls_d (d := some 62) (by kernel_rfl) (by rw [hb_1]; kernel_rfl) HA_11 (d_call (by kernel_rfl) (by kernel_rfl) H) (fun x62 h_11 w_13 H HA_13 => ?_)
              refine ls_pick_t (x := x62) (by kernel_rfl) (by rw [hb_1]; kernel_rfl) (by kernel_rfl) ?_
              refine ls_nil ?_
              refine then_normal ?_
              exact ⟨(fun i => ([x62]).getD i undef), x62, h_11, by kernel_rfl, HA_13, H⟩
            · refine ls_skip (d := some 62) (by kernel_rfl) (by rw [hb_1]; kernel_rfl) ?_
              refine ls_pick_f (y := (.bool false)) (by kernel_rfl) (by rw [hb_1]; kernel_rfl) (by kernel_rfl) ?_
              refine ls_nil ?_
              refine then_normal ?_
              exact ⟨(fun i => ([undef]).getD i undef), (.bool false), h_9, by kernel_rfl, HA_11, H⟩
            · rintro _ w_12 ⟨D_5, x63, h_10, rfl, HA_12, H⟩
              refine ls_assign (x := x63) (by kernel_rfl) (by kernel_rfl) ?_
              refine ls_nil ?_
              refine then_normal ?_
              refine fr_eq (b := ⟨([x0, x1, x2, undef, x63, x5, x6, x21, x24, (D 0), (D 1), x11, x12, x13, x14, x15, x16, x17, x18, x19, x1, x21, x22, x1, x24, x21, x26, x27, undef, undef, undef, undef, undef, undef, x24, x35, x21, x37, x38, x39, x39, (D_2 0), (D_2 1), (D_2 2), (D_2 3), x45, x45, (D_3 0), (D_3 1), (D_3 2)] ++ [(D_3 3), x51, x51, (D_4 0), (D_4 1), (D_4 2), (D_4 3), (D_4 4), (D_4 5), (D_4 6), x60, x60, (D_5 0), x63]).toArray, []⟩) (by kernel_rfl) ?_
              refine wp_ret ?_
              exact end1 (Try.results6) (by kernel_rfl) (by kernel_rfl) HA_12 H _ (.inr rfl)

end Go.Proofs.Ytbgipcikkedloaa
